import Derived.WalkKit
import Derived.Orders
import Derived.ChangeKeysEq
import Derived.Laws.MakeOwn
import Derived.Lib.AppendStr
namespace Go.Av
open Go.RowKit
set_option linter.unusedVariables false
inductive Own where
 | nil
 | no
deriving DecidableEq
inductive Cell where
 | v (x:Value)
 | slice (o:Own) (els:List (List Cell))
 | ms (nm ver i n e:Nat)
 | fv (nm ver off n e:Nat)
 | own (e:Nat) (els:List (List Cell))
 | bad
 | mp (nm ver:Nat)
inductive PV where
 | undef
 | skip
 | one (c:Cell)
 | agg (cs:List Cell)
 | tup (ps:List PV)
 | ref (cs:List Cell)
 | ptr (nm ver i off e:Nat)
 | io (cs:List Cell)
 | rio (e:Nat) (els:List (List Cell))
 | fn (f:FuncId)
 | clo (f:FuncId) (caps:List PV)
structure Box where
 ver:Nat
 e:Nat
 els:List (List Cell)
 frz:Bool
 row:Bool
abbrev Boxes:=List (Nat×Box)
def getB:Boxes→Nat→Option Box
 | [],_=>none
 | (m,b) :: l,n=>if m=n then some b else getB l n
def setB:Boxes→Nat→Box→Boxes
 | [],n,b=>[(n,b)]
 | (m,c) :: l,n,b=>if n<m then(n,b) :: (m,c) :: l else if n=m then(n,b) :: l else(m,c) :: setB l n b
def ZB (nm:Nat):Bool:=decide (1000000000000≤nm)
def Zos (s:Nat) (x y:Bool):Nat:=4 * s+(if x then 2 else 0)+(if y then 1 else 0)
def ZkC (d:Nat):Nat:=d ||| 1000000000000
def kEq1:Cell→Cell→Bool
 | .v (.int _ a),.v (.int _ b)=>a == b
 | .v (.string a),.v (.string b)=>a == b
 | _,_=>false
def kEq:List Cell→List Cell→Bool
 | [],[]=>true
 | c :: cs,d :: ds=>kEq1 c d && kEq cs ds
 | _,_=>false
def kKind1:Cell→Cell→Bool
 | .v (.int k _),.v (.int k' _)=>decide (k=k')
 | .v (.string _),.v (.string _)=>true
 | _,_=>false
def kKind:List Cell→List Cell→Bool
 | [],[]=>true
 | c :: cs,d :: ds=>kKind1 c d && kKind cs ds
 | _,_=>false
def ZgQ (n:Nat) (kc:List Cell):List (List Cell)→Option (List Cell)
 | []=>none
 | l :: ls=>if kEq kc (l.take n) then some (l.drop n) else ZgQ n kc ls
def ZgR (n:Nat) (kc vs:List Cell):List (List Cell)→List (List Cell)
 | []=>[kc++vs]
 | l :: ls=>if kEq kc (l.take n) then(kc++vs) :: ls else l :: ZgR n kc vs ls
def okN (nm:Nat):Bool:=decide (nm<1000000) || (decide (2000000≤nm) && decide (nm<1000000000000))
def ioN (nm i:Nat):Nat:=3000000+nm * 64+i
def ZZ (bx:Boxes):List (Nat×Box)→Boxes
 | []=>bx
 | (n,b) :: l=>ZZ (setB bx n b) l
def Zr (bx:Boxes) (n:Nat):Nat:=match getB bx n with | some b=>b.ver+1 | none=>0
def Cell.pureB:Cell→Bool
 | .v _=>true
 | .slice _ _=>true
 | _=>false
def Yd (cs:List Cell):Bool:=cs.all Cell.pureB
def ZH (els:List (List Cell)):Bool:=els.all Yd
def Cell.isSl:Cell→Bool
 | .slice .no _=>true
 | _=>false
def Cell.hasSl:Cell→Bool
 | .own _ els=>els.any fun l=>l.any Cell.isSl
 | c=>c.isSl
def hasSlL (cs:List Cell):Bool:=cs.any Cell.hasSl
def Cell.nn:Cell→Cell
 | .slice _ els=>.slice .no els
 | c=>c
def nnL (cs:List Cell):List Cell:=cs.map Cell.nn
def PV.nnB:PV→PV
 | .one c=>.one c.nn
 | .agg cs=>.agg (nnL cs)
 | .io cs=>.io (nnL cs)
 | p=>p
def PV.nn:PV→PV
 | .tup ps=>.tup (ps.map PV.nnB)
 | p=>p.nnB
def PV.cells:PV→Option (List Cell)
 | .one c=>some [c]
 | .agg cs=>some cs
 | _=>none
def Zap (e:Nat):Nat→List Cell→List (List Cell)
 | 0,_=>[]
 | n+1,cs=>cs.take e :: Zap e n (cs.drop e)
def Z8 (bx:Boxes):Cell→Option Cell
 | .v x=>some (.v x)
 | .slice o els=>some (.slice o els)
 | .ms nm ver i n e=>match getB bx nm with
  | some b=>if b.ver=ver∧0<e∧i+n≤b.els.length∧ZH b.els=true then some (.slice .no ((b.els.drop i).take n)) else none
  | none=>none
 | .fv nm ver off n e=>match getB bx nm with
  | some b=>(match b.els with
   | [cs]=>if b.ver=ver∧0<e∧off+n * e≤cs.length∧Yd cs=true then some (.slice .no (Zap e n (cs.drop off))) else none
   | _=>none)
  | none=>none
 | _=>none
def XD (bx:Boxes):List Cell→Option (List Cell)
 | []=>some []
 | c :: cs=>match Z8 bx c,XD bx cs with | some d,some ds=>some (d :: ds) | _,_=>none
def nmC:Cell→List Nat
 | .ms nm ..=>[nm]
 | .fv nm ..=>[nm]
 | _=>[]
def nmL (cs:List Cell):List Nat:=cs.flatMap nmC
def Zh7 (bx:Boxes) (c:Cell):Option (List (List Cell)):=match Z8 bx c with | some (.slice _ els)=>some els | _=>none
inductive Zc where
 | int (k:IntKind)
 | bool
 | str
 | nil
 | map
 | ptr
 | fn
deriving DecidableEq,Repr
def Zc.cell:Zc→Cell
 | .int k=>.v (.int k 0)
 | .bool=>.v (.bool false)
 | .str=>.v (.string ⟨#[]⟩)
 | .nil=>.slice .nil []
 | .map=>.v (.map none)
 | .ptr=>.v (.pointer none)
 | .fn=>.v .nilFunc
def Zc.val:Zc→Value
 | .int k=>.int k 0
 | .bool=>.bool false
 | .str=>.string ⟨#[]⟩
 | .nil=>.slice none 0 0
 | .map=>.map none
 | .ptr=>.pointer none
 | .fn=>.nilFunc
def Zc.of:Value→Option Zc
 | .int k n=>if n=0 then some (.int k) else none
 | .bool b=>if b then none else some .bool
 | .string s=>if s.data = #[] then some .str else none
 | .slice none n c=>if n=0∧c=0 then some .nil else none
 | .map none=>some .map
 | .pointer none=>some .ptr
 | .nilFunc=>some .fn
 | _=>none
theorem Zc.of_val {v:Value}{z:Zc}(h:Zc.of v=some z):v=z.val:=by
 cases v <;> simp only[Zc.of] at h
 case int k n=>split at h <;> simp at h; subst h; simp[Zc.val, *]
 case bool b=>cases b <;> simp at h; subst h; rfl
 case string s=>split at h <;> simp at h; subst h; cases s; simp_all [Zc.val]
 case slice a n c=>cases a <;> simp at h; obtain⟨⟨rfl,rfl⟩,rfl⟩:=h; rfl
 case map a=>cases a <;> simp at h; subst h; rfl
 case pointer a=>cases a <;> simp at h; subst h; rfl
 case nilFunc=>simp at h; subst h; rfl
 all_goals simp at h
inductive TK where
 | slice (e:TypeId)
 | struct (fs:List (Nat×TypeId))
 | array (n:Nat) (e:TypeId)
 | int (k:IntKind)
 | bool
 | str
 | map (k e:TypeId)
 | other
deriving DecidableEq,Repr
structure TI where
 size:Nat
 kind:TK
 zero:List Zc
 bytes:Nat
 flat:Bool
deriving DecidableEq,Repr
def TK.agg:TK→Bool
 | .struct _ | .array ..=>true
 | _=>false
def TI.agg (i:TI):Bool:=match i.kind with | .struct _ | .array ..=>true | _=>false
def _root_.Go.Value.isAgg:Value→Bool
 | .agg _=>true
 | _=>false
def tkind:TypeDesc→TK
 | .slice e=>.slice e
 | .struct fs=>.struct (fs.toList.map fun f=>(f.offset,f.type))
 | .array n e=>.array n e
 | .int k=>.int k
 | .bool=>.bool
 | .string=>.str
 | .map k e=>.map k e
 | _=>.other
def ZiN (f:TypeId→Bool) (P:Program):List Field→Nat→Nat→Bool
 | [],off,n=>off == n
 | d :: fs,off,n=>d.name != "_" && d.offset == off && f d.type && ZiN f P fs (off+P.cellsOf d.type) n
def Zc1 (P:Program):Nat→TypeId→Bool
 | 0,_=>false
 | d+1,t =>
  match P.underlying t with
  | some (.int _)=>P.cellsOf t == 1
  | some (.array n e)=>Zc1 P d e && P.cellsOf t == n * P.cellsOf e
  | some (.struct fs)=>!P.stoodInHeld t && ZiN (Zc1 P d) P fs.toList 0 (P.cellsOf t)
  | _=>false
def zcs:List Value→Option (List Zc)
 | []=>some []
 | v :: vs=>match Zc.of v,zcs vs with | some z,some zs=>some (z :: zs) | _,_=>none
def Z0 (P:Program) (t:TypeId):Option TI :=
 match P.info? t,P.underlying t with
 | some i,some d =>
  match i.zero with
  | some z=>match zcs z.cells.toList with
   | some zs=>if z.isAgg=(tkind d).agg then some ⟨i.size,tkind d,zs,i.bytes,Zc1 P 20 t && !P.eqGuardType P.depth t⟩ else none
   | none=>none
  | none=>none
 | _,_=>none
def ofCell:Value→Option Cell
 | .int k n=>some (.v (.int k n))
 | .bool b=>some (.v (.bool b))
 | .string s=>some (.v (.string s))
 | .slice none 0 0=>some (.slice .nil [])
 | _=>none
def ofCells:List Value→Option (List Cell)
 | []=>some []
 | v :: vs=>match ofCell v,ofCells vs with | some c,some cs=>some (c :: cs) | _,_=>none
def ofConst:Value→Option PV
 | .agg cs=>(ofCells cs.toList).map .agg
 | .pointer none=>some .undef
 | v=>(ofCell v).map .one
abbrev Env:=Nat→PV
abbrev Glob:=Nat→Option (List Cell)
def rd (G:Glob) (env:Env):Operand→Option PV
 | .tmp t=>some (env t)
 | .const v=>ofConst v
 | .global g=>match G g with | some cs=>some (.ref cs) | none=>none
 | .func f=>some (.fn f)
def rds (G:Glob) (env:Env):List Operand→Option (List PV)
 | []=>some []
 | x :: xs=>match rd G env x,rds G env xs with | some p,some ps=>some (p :: ps) | _,_=>none
def rdO (G:Glob) (env:Env):Option Operand→Option (Option PV)
 | none=>some none
 | some x=>match rd G env x with | some p=>some (some p) | none=>none
structure ASt where
 env:List PV
 boxes:Boxes
def ASt.get (st:ASt):Env:=fun t=>st.env.getD t .undef
structure Tab where
 fn:FuncId→Option (List PV→Option (PV×List (List Cell)))
 own:Nat→List (List Nat):=fun _=>[]
instance:CoeFun Tab fun _=>FuncId→Option (List PV→Option (PV×List (List Cell))):=⟨Tab.fn⟩
abbrev TT:=TypeId→Option TI
def ZiO (i:TI) (cs:List Cell) (off:Nat):Option PV :=
 if i.agg then(if off+i.size≤cs.length then some (.agg ((cs.drop off).take i.size)) else none)
 else match cs[off]? with | some c=>some (.one c) | none=>none
def ZE (cs:List Cell) (off:Nat) (ds:List Cell):List Cell:=cs.take off++ds++cs.drop (off+ds.length)
def ZkD (place:Nat→Option (Nat×Nat)) (cells:List Cell):List (Nat×PV)→Option (List Cell)
 | []=>some cells
 | (i,p) :: rest =>
  match place i,p.cells with
  | some (off,size),some ds=>if ds.length=size∧off+size≤cells.length then ZkD place (ZE cells off ds) rest else none
  | _,_=>none
def Zgc (G:Glob) (env:Env):List (Nat×Operand)→Option (List (Nat×PV))
 | []=>some []
 | (i,x) :: xs=>match rd G env x,Zgc G env xs with | some p,some ps=>some ((i,p) :: ps) | _,_=>none
def pureOf:Sem Value→Option Value
 | .pure v=>some v
 | _=>none
def ZoP (op:BinOp) (k:IntKind) (a b:Int):Option Value :=
 match op with
 | .add=>some (.int k (k.wrap (a+b)))
 | .sub=>some (.int k (k.wrap (a-b)))
 | .mul=>some (.int k (k.wrap (a * b)))
 | .quo=>if b=0 then none else some (.int k (k.wrap (a.tdiv b)))
 | .rem=>if b=0 then none else some (.int k (a.tmod b))
 | .eql=>some (.bool (a == b))
 | .neq=>some (.bool (a != b))
 | .lss=>some (.bool (decide (a<b)))
 | .leq=>some (.bool (decide (a≤b)))
 | .gtr=>some (.bool (decide (a > b)))
 | .geq=>some (.bool (decide (a ≥ b)))
 | .and | .or | .xor | .andNot=>pureOf (Op.intBits op k a b)
 | _=>none
def ZkZ (op:BinOp) (k:IntKind) (a b:Int):Option Value :=
 if b<0 then none else
 match op with
 | .shl=>some (.int k (k.wrap (a * 2 ^ (min b.toNat k.bits))))
 | .shr=>some (.int k (a.fdiv (2 ^ (min b.toNat k.bits))))
 | _=>none
def cellEq:Cell→Cell→Option Bool
 | .v (.int k a),.v (.int k' b)=>if k=k' then some (a == b) else none
 | _,_=>none
def cellsEq:List Cell→List Cell→Option Bool
 | [],[]=>some true
 | c :: cs,d :: ds=>match cellEq c d,cellsEq cs ds with | some a,some b=>some (a && b) | _,_=>none
 | _,_=>none
def bin (op:BinOp) (x y:Cell):Option Value :=
 match op,x,y with
 | .shl,.v (.int k a),.v (.int _ b)=>ZkZ .shl k a b
 | .shr,.v (.int k a),.v (.int _ b)=>ZkZ .shr k a b
 | op,.v (.int k a),.v (.int k' b)=>if k=k' then ZoP op k a b else none
 | op,.v (.string a),.v (.string b)=>pureOf (Op.stringOp op a b)
 | _,_,_=>none
def ZnK (op:BinOp) (b:Bool):Option PV :=
 match op with
 | .eql=>some (.one (.v (.bool b)))
 | .neq=>some (.one (.v (.bool !b)))
 | _=>none
def Zdb (d:Option Nat) (p:PV):List (Nat×PV):=match d with | some d=>[(d,p)] | none=>[]
def Zl1 (i:TI) (f:Nat):Option (Nat×TypeId):=match i.kind with | .struct fs=>fs[f]? | _=>none
def idxOf:PV→Option Nat
 | .one (.v (.int _ n))=>if 0≤n then some n.toNat else none
 | _=>none
def Zes (z:Nat):Option PV→Option Nat
 | none=>some z
 | some p=>idxOf p
def ZcQ (tt:TT) (t:TypeId):Option Nat:=match tt t with | some i=>some i.size | none=>none
def Zl2 (tt:TT):List (Nat×TypeId)→Option (List (Nat×Nat))
 | []=>some []
 | (off,ft) :: fs=>match ZcQ tt ft,Zl2 tt fs with | some s,some l=>some ((off,s) :: l) | _,_=>none
def Zjl (f:Int→Int→Int) (k:IntKind):Int→List PV→Option Int
 | a,[]=>some a
 | a,.one (.v (.int k' b)) :: l=>if k'=k then Zjl f k (f a b) l else none
 | _,_=>none
def capOk:PV→Bool
 | .one _ | .agg _ | .ref _ | .ptr .. | .fn _=>true
 | _=>false
def ZC (tt:TT) (G:Glob) (env:Env):Op→Option PV
 | .move x=>rd G env x
 | .assign x=>rd G env x
 | .nilCheck x=>match rd G env x with | some (.ptr nm ver i off e)=>some (.ptr nm ver i off e) | some (.ref cs)=>some (.ref cs) | some (.fn f)=>some (.fn f) | some (.clo f ps)=>some (.clo f ps) | _=>none
 | .pick c a b=>match rd G env c with | some (.one (.v (.bool t)))=>rd G env (if t then a else b) | _=>none
 | .build t parts =>
  match tt t,Zgc G env parts.toList with
  | some i,some ps =>
   match i.kind with
   | .struct fs=>(match Zl2 tt fs with | some pl=>(ZkD (fun f=>pl[f]?) (i.zero.map Zc.cell) ps).map .agg | none=>none)
   | .array _ e=>match ZcQ tt e with | some s=>(ZkD (fun j=>some (j * s,s)) (i.zero.map Zc.cell) ps).map .agg | none=>none
   | _=>none
  | _,_=>none
 | .binOp op t x y _=>match rd G env x,rd G env y with
  | some (.one cx),some (.one cy) =>
   match cx,cy with
   | .v (.bool a),.v (.bool b)=>(match tt t with | some i=>(match i.kind with | .bool=>ZnK op (a == b) | _=>none) | none=>none)
   | .slice _ els,.slice _ _=>(match y,tt t with | .const (.slice none _ _),some i=>(match i.kind with | .slice _=>if els=[] then none else ZnK op false | _=>none) | _,_=>none)
   | cx,cy=>match bin op cx cy with | some r=>some (.one (.v r)) | none=>none
  | some (.agg cs),some (.agg ds)=>(match tt t with
   | some i=>if i.flat=true∧i.agg=true∧cs.length=i.size∧ds.length=i.size then(match cellsEq cs ds with | some b=>ZnK op b | none=>none) else none
   | none=>none)
  | _,_=>none
 | .unOp .not _ x=>match rd G env x with | some (.one (.v (.bool b)))=>some (.one (.v (.bool !b))) | _=>none
 | .unOp .neg _ x=>match rd G env x with | some (.one (.v (.int k n)))=>some (.one (.v (.int k (k.wrap (0-n))))) | _=>none
 | .unOp .xor _ x=>match rd G env x with | some (.one (.v (.int k n)))=>(match pureOf (Op.intBits .xor k (if k.signed then -1 else k.max) n) with | some r=>some (.one (.v r)) | none=>none) | _=>none
 | .convert src dst x =>
  match tt src,tt dst,rd G env x with
  | some i,some j,some (.one (.v (.int k n)))=>(match i.kind,j.kind with | .int _,.int k'=>some (.one (.v (.int k' (k'.wrap n)))) | _,_=>none)
  | _,_,_=>none
 | .fieldAddr s x f =>
  match tt s,rd G env x with
  | some i,some p =>
   match Zl1 i f with
   | some (off,ft) =>
    match ZcQ tt ft with
    | some (_+1)=>(match p with | .ref cs=>some (.ref (cs.drop off)) | .ptr nm ver k o e=>some (.ptr nm ver k (o+off) e) | _=>none)
    | _=>none
   | none=>none
  | _,_=>none
 | .field s x f =>
  match tt s,rd G env x with
  | some i,some (.agg cs) =>
   match Zl1 i f with
   | some (off,ft)=>(match tt ft with | some j=>ZiO j cs off | none=>none)
   | none=>none
  | _,_=>none
 | .indexAddr t x ix =>
  match tt t,rd G env x,rd G env ix with
  | some i,some p,some q =>
   match i.kind,p,idxOf q with
   | .slice e,.one (.slice _ els),some n=>(match els[n]?,ZcQ tt e with | some l,some s=>if l.length=s then some (.ref l) else none | _,_=>none)
   | .slice e,.one (.ms nm ver k m s),some n=>if n<m∧ZcQ tt e=some s then some (.ptr nm ver (k+n) 0 s) else none
   | .slice e,.one (.fv nm ver o m s),some n=>if n<m∧ZcQ tt e=some s then some (.ptr nm ver 0 (o+n * s) 0) else none
   | .array m e,.ref cs,some n=>(match ZcQ tt e with | some s=>if n<m then some (.ref (cs.drop (n * s))) else none | none=>none)
   | .array m e,.ptr nm ver k o e',some n=>(match ZcQ tt e with | some s=>if n<m then some (.ptr nm ver k (o+n * s) e') else none | none=>none)
   | _,_,_=>none
  | _,_,_=>none
 | .index t x ix =>
  match tt t,rd G env x,rd G env ix with
  | some i,some (.agg cs),some q =>
   match i.kind,idxOf q with
   | .array m e,some n=>(match tt e with | some j=>if n<m then ZiO j cs (n * j.size) else none | none=>none)
   | _,_=>none
  | some i,some (.one (.v (.string s))),some q =>
   match i.kind,idxOf q with
   | .str,some n=>(match s.data[n]? with | some b=>some (.one (.v (.int .u8 b.toNat))) | none=>none)
   | _,_=>none
  | _,_,_=>none
 | .slice t x lo hi none =>
  match tt t,rd G env x,rdO G env lo,rdO G env hi with
  | some i,some p,some l,some h =>
   match i.kind,p with
   | .slice e,.one (.slice _ els)=>(match Zes 0 l,Zes els.length h,ZcQ tt e with | some a,some b,some s=>if a≤b∧b≤els.length∧(∀ l∈els,l.length=s) then some (.one (.slice .no ((els.take b).drop a))) else none | _,_,_=>none)
   | .slice e,.one (.ms nm ver k m s)=>(match Zes 0 l,Zes m h with | some a,some b=>if a≤b∧b≤m∧ZcQ tt e=some s then some (.one (.ms nm ver (k+a) (b-a) s)) else none | _,_=>none)
   | .slice e,.one (.fv nm ver o m s)=>(match Zes 0 l,Zes m h with | some a,some b=>if a≤b∧b≤m∧ZcQ tt e=some s then some (.one (.fv nm ver (o+a * s) (b-a) s)) else none | _,_=>none)
   | .array m e,.ptr nm ver 0 o _=>(match Zes 0 l,Zes m h,ZcQ tt e with | some a,some b,some s=>if a≤b∧b≤m∧m≤maxLen then some (.one (.fv nm ver (o+a * s) (b-a) s)) else none | _,_,_=>none)
   | _,_=>none
  | _,_,_,_=>none
 | .slice t x lo (some hx) (some mx) =>
  match tt t,rd G env x,rdO G env lo,rd G env hx,rd G env mx with
  | some i,some p,some l,some h,some q =>
   match i.kind,p,idxOf h,idxOf q with
   | .slice e,.one (.ms nm ver k m s),some b,some c=>(match Zes 0 l with | some a=>if a≤b∧b≤c∧c≤m∧ZcQ tt e=some s then some (.one (.ms nm ver (k+a) (b-a) s)) else none | none=>none)
   | .slice e,.one (.slice _ els),some b,some c=>(match Zes 0 l,ZcQ tt e with | some a,some s=>if a≤b∧b≤c∧c≤els.length∧(∀ l∈els,l.length=s) then some (.one (.slice .no ((els.take b).drop a))) else none | _,_=>none)
   | _,_,_,_=>none
  | _,_,_,_,_=>none
 | .sliceToArrayPointer t x =>
  match tt t,rd G env x with
  | some i,some (.one (.slice _ els))=>(match i.kind with | .array n e=>(match ZcQ tt e with | some s=>if n≤els.length∧0<n∧(∀ l∈els,l.length=s) then some (.ref els.flatten) else none | none=>none) | _=>none)
  | some i,some (.one (.ms nm ver k n e))=>(match i.kind with | .array m t'=>if m≤n∧1<m∧0<e∧ZcQ tt t'=some e then some (.ptr nm ver 0 (k * e) (m * e)) else none | _=>none)
  | _,_=>none
 | .makeFunc (.func f) first caps=>if first.isEmpty then(match rds G env caps.toList with
  | some ps=>if ps.all capOk then some (.clo f ps) else none
  | none=>none) else none
 | .extract x n=>match rd G env x with | some (.tup ps)=>ps[n]? | _=>none
 | .call { callee:=.builtin .len,args:=⟨[x]⟩,argTypes:=⟨[t]⟩ } =>
  match tt t,rd G env x with
  | some i,some p =>
   match i.kind,p with
   | .slice _,.one (.slice _ els)=>some (.one (.v (.int .i64 els.length)))
   | .slice _,.one (.ms _ _ _ n _)=>some (.one (.v (.int .i64 n)))
   | .slice _,.one (.fv _ _ _ n _)=>some (.one (.v (.int .i64 n)))
   | .str,.one (.v (.string s))=>some (.one (.v (.int .i64 s.size)))
   | .array n _,_=>some (.one (.v (.int .i64 n)))
   | _,_=>none
  | _,_=>none
 | .call { callee:=.builtin .min,args,argTypes:=_ } =>
  match rds G env args.toList with
  | some (.one (.v (.int k a)) :: l)=>(match Zjl (fun x y=>if y<x then y else x) k a l with | some m=>some (.one (.v (.int k m))) | none=>none)
  | _=>none
 | .call { callee:=.builtin .max,args,argTypes:=_ } =>
  match rds G env args.toList with
  | some (.one (.v (.int k a)) :: l)=>(match Zjl (fun x y=>if y > x then y else x) k a l with | some m=>some (.one (.v (.int k m))) | none=>none)
  | _=>none
 | _=>none
structure Upd where
 slots:List (Nat×PV)
 boxes:List (Nat×Box)
 reads:List Nat
def Xw (bx:Boxes):List Nat→List (Nat×Box)
 | []=>[]
 | nm :: l=>match getB bx nm with | some b=>(nm,{ b with frz:=true }) :: Xw bx l | none=>Xw bx l
def Zb5 (l:List Nat):Bool:=l.all okN
def Zj9 (bx:Boxes):PV→Option PV
 | .one c=>(Z8 bx c).map .one
 | .agg cs=>(XD bx cs).map .agg
 | .ref cs=>some (.ref cs)
 | .fn f=>some (.fn f)
 | .ptr nm ver 0 0 _=>match getB bx nm with
  | some b=>(match b.els with
   | [cs]=>if b.ver=ver∧b.row=false∧ZB nm=false∧Yd cs=true then some (.ref cs) else none
   | _=>none)
  | none=>none
 | _=>none
def ZkE (bx:Boxes):List PV→Option (List PV)
 | []=>some []
 | p :: ps=>match Zj9 bx p,ZkE bx ps with | some q,some qs=>some (q :: qs) | _,_=>none
def Zk0 (n:Nat) (els:List (List Cell)):List (List Cell):=if n=els.length then els else els.take n
def Zet (bx:Boxes) (e:Nat):Cell→Option Cell
 | .ms nm ver i n e'=>if e=0 then Z8 bx (.ms nm ver i n e') else(match getB bx nm with
  | some b=>if b.ver=ver∧b.frz=false∧b.row=true∧b.e=e∧e'=e∧i=0∧n≤b.els.length∧okN nm=true∧ZH b.els=true then some (.own e (Zk0 n b.els)) else none
  | none=>none)
 | .slice o els=>if e=0 then some (.slice o els) else(match o,els with | .nil,[]=>some (.own e []) | _,_=>none)
 | c=>if e=0 then Z8 bx c else none
def Zba (bx:Boxes):List Nat→List Cell→Option (List Cell)
 | _,[]=>some []
 | [],c :: cs=>match Zet bx 0 c,Zba bx [] cs with | some d,some ds=>some (d :: ds) | _,_=>none
 | e :: es,c :: cs=>match Zet bx e c,Zba bx es cs with | some d,some ds=>some (d :: ds) | _,_=>none
def ZeW (e:Nat) (c:Cell):List Nat:=if e=0 then nmC c else[]
def hdC (e:Nat) (c:Cell):List Nat:=if e=0 then[] else nmC c
def lentL:List Nat→List Cell→List Nat
 | _,[]=>[]
 | [],c :: cs=>nmC c++lentL [] cs
 | e :: es,c :: cs=>ZeW e c++lentL es cs
def hdL:List Nat→List Cell→List Nat
 | _,[]=>[]
 | [],c :: cs=>hdL [] cs
 | e :: es,c :: cs=>hdC e c++hdL es cs
def Zj1 (h:List Nat):Bool:=decide (1000000≤h.headD 0)
def ZqF (bx:Boxes) (e:Nat):Cell→Option PV
 | .ms nm ver i n e'=>match getB bx nm with
  | some b=>if b.ver=ver∧b.frz=false∧b.row=true∧b.e=e∧e'=e∧0<e∧i=0∧n=b.els.length∧ZB nm=false∧ZH b.els=true then some (.rio e b.els) else none
  | none=>none
 | _=>none
def ZfA (bx:Boxes) (h:List Nat):PV→Option PV
 | .one c=>if Zj1 h then ZqF bx (h.headD 0-1000000) c else(Zet bx (h.headD 0) c).map .one
 | .agg cs=>(Zba bx h cs).map .agg
 | .ptr nm ver 0 0 _=>match getB bx nm with
  | some b=>(match b.els with
   | [cs]=>if b.ver=ver∧b.frz=false∧b.row=false∧ZB nm=false then(Zba bx h cs).map .io else none
   | _=>none)
  | none=>none
 | .fn f=>some (.fn f)
 | .ref cs=>some (.ref cs)
 | .clo f ps=>match ZkE bx ps with | some qs=>some (.clo f qs) | none=>none
 | _=>none
def ZjS (bx:Boxes):List (List Nat)→List PV→Option (List PV)
 | _,[]=>some []
 | hs,p :: ps=>match ZfA bx (hs.headD []) p,ZjS bx hs.tail ps with | some q,some qs=>some (q :: qs) | _,_=>none
def nmK:PV→List Nat
 | .one c=>nmC c
 | .agg cs=>nmL cs
 | .ptr nm _ _ _ _=>[nm]
 | _=>[]
def nmP:PV→List Nat
 | .one c=>nmC c
 | .agg cs=>nmL cs
 | .clo _ ps=>ps.flatMap nmK
 | _=>[]
def Zcz (bx:Boxes) (nm:Nat):List Cell:=match getB bx nm with | some b=>b.els.flatten | none=>[]
def ZfB (bx:Boxes) (h:List Nat):PV→List Nat
 | .one c=>if Zj1 h then[] else ZeW (h.headD 0) c
 | .agg cs=>lentL h cs
 | .clo _ ps=>ps.flatMap nmK
 | .ptr nm _ _ _ _=>lentL h (Zcz bx nm)
 | _=>[]
def XR (bx:Boxes):List (List Nat)→List PV→List Nat
 | _,[]=>[]
 | hs,p :: ps=>ZfB bx (hs.headD []) p++XR bx hs.tail ps
def hdP (bx:Boxes) (h:List Nat):PV→List Nat
 | .one c=>if Zj1 h then[] else hdC (h.headD 0) c
 | .agg cs=>hdL h cs
 | .ptr nm _ _ _ _=>hdL h (Zcz bx nm)
 | _=>[]
def Zdc (bx:Boxes):List (List Nat)→List PV→List Nat
 | _,[]=>[]
 | hs,p :: ps=>hdP bx (hs.headD []) p++Zdc bx hs.tail ps
def ioP (h:List Nat):PV→List Nat
 | .one c=>if Zj1 h then nmC c else[]
 | .ptr nm _ _ _ _=>[nm]
 | _=>[]
def ioPs:List (List Nat)→List PV→List Nat
 | _,[]=>[]
 | hs,p :: ps=>ioP (hs.headD []) p++ioPs hs.tail ps
def YA (bx:Boxes) (f:Nat→Nat):Nat→List Cell→List Cell×List (Nat×Box)
 | _,[]=>([],[])
 | k,.own e els :: cs=>let r:=YA bx f (k+1) cs; (.ms (f k) (Zr bx (f k)) 0 els.length e :: r.1,(f k,⟨Zr bx (f k),e,els,false,true⟩) :: r.2)
 | k,c :: cs=>let r:=YA bx f k cs; (c :: r.1,r.2)
def Cell.landB:Cell→Bool
 | .v _=>true
 | .slice _ _=>true
 | .own _ _=>true
 | _=>false
def ZfC (bx:Boxes):List Nat→List (List Cell)→Option (List (Nat×Box)×List (Nat×Box))
 | [],[]=>some ([],[])
 | nm :: l,cs :: r=>match getB bx nm,ZfC bx l r with
  | some b,some (m,n)=>if b.row then(if cs.length=b.els.length * b.e∧Yd cs=true then some ((nm,{ b with els:=Zap b.e b.els.length cs }) :: m,n) else none)
   else if cs.length=b.e∧cs.all Cell.landB=true then
    (let q:=YA bx (ioN nm) 0 cs; some ((nm,{ b with els:=[q.1] }) :: m,q.2++n)) else none
  | _,_=>none
 | _,_=>none
def Zhg (bx:Boxes) (d k:Nat):PV→Option (PV×List (Nat×Box)×Nat)
 | .one c=>match YA bx (fun k=>d+100000 * k) k [c] with | ([c'],bs)=>some (.one c',bs,k+bs.length) | _=>none
 | .agg cs=>let r:=YA bx (fun k=>d+100000 * k) k cs; some (.agg r.1,r.2,k+r.2.length)
 | .io cs=>let r:=YA bx (ioN (d+100000 * k)) 0 cs
  some (.ptr (d+100000 * k) (Zr bx (d+100000 * k)) 0 0 cs.length,(d+100000 * k,⟨Zr bx (d+100000 * k),cs.length,[r.1],false,false⟩) :: r.2,k+1)
 | _=>none
def ZhR (bx:Boxes) (d:Nat):Nat→List PV→Option (List PV×List (Nat×Box))
 | _,[]=>some ([],[])
 | k,p :: ps=>match Zhg bx d k p with
  | some (q,bs,k')=>(match ZhR bx d k' ps with | some (qs,cs)=>some (q :: qs,bs++cs) | none=>none)
  | none=>none
def ZkF (bx:Boxes) (d:Nat):PV→Option (PV×List (Nat×Box))
 | .tup ps=>match ZhR bx d 0 ps with | some (qs,bs)=>some (.tup qs,bs) | none=>none
 | p=>match Zhg bx d 0 p with | some (q,bs,_)=>some (q,bs) | none=>none
def hasSlP:PV→Bool
 | .one c=>c.hasSl
 | .agg cs=>hasSlL cs
 | .io cs=>hasSlL cs
 | _=>false
def hasSlR:PV→Bool
 | .tup ps=>ps.any hasSlP
 | p=>hasSlP p
def nodupB:List Nat→Bool
 | []=>true
 | x :: l=>!l.contains x && nodupB l
def Ze5 (env:Env):Operand→Option (FuncId×List PV)
 | .func f=>some (f,[])
 | .tmp t=>match env t with | .fn f=>some (f,[]) | .clo f ps=>some (f,ps) | _=>none
 | _=>none
def Zgd (bx:Boxes):List (Nat×PV)→Option (List (List Cell))
 | []=>some []
 | (_,p) :: l=>match p.cells,Zgd bx l with
  | some cs,some r=>(match XD bx cs with | some ds=>some (nnL ds :: r) | none=>none)
  | _,_=>none
def Ze6 (l:List (Nat×PV)):List Nat:=l.flatMap fun x=>nmP x.2
def ZgS (bx:Boxes) (i:TK):PV→Option (List (List Cell))
 | .one (.v (.string s))=>match i with | .str=>some (s.data.toList.map fun b=>[.v (.int .u8 b.toNat)]) | _=>none
 | .one c=>match i with | .slice _=>Zh7 bx c | _=>none
 | _=>none
def ZqN (T:Tab) (f:FuncId):Option (List PV→Option (PV×List (List Cell))) :=
 if f<1000000 then(match T f with | some F=>some fun qs=>F (qs.map PV.nnB) | none=>T (f+1000000)) else none
def ZjT (bx:Boxes):List Nat→List (Nat×Box)
 | []=>[]
 | nm :: l=>match getB bx nm with | some b=>(nm,⟨Zr bx nm,b.e,[],false,true⟩) :: ZjT bx l | none=>ZjT bx l
def Zj2 (T:Tab) (d:Option Nat) (f:FuncId) (ps:List PV) (bx:Boxes):Option Upd :=
 match ZqN T f,ZjS bx (T.own (d.getD 90000)) ps with
 | some F,some qs =>
  match F qs with
  | some (r,outs) =>
   let lent:=XR bx (T.own (d.getD 90000)) ps
   let hd:=Zdc bx (T.own (d.getD 90000)) ps
   let ios:=ioPs (T.own (d.getD 90000)) ps
   let dd:=d.getD 90000
   match ZfC bx ios outs,ZkF bx dd r with
   | some (bo,br),some (p,bn) =>
    let new:=br++bn
    let kl:=ZjT bx (hd.filter fun x=>!(new.map (·.1)).contains x)
    if nodupB (ios++new.map (·.1)) && lent.all (fun x=>!(ios++hd++new.map (·.1)).contains x) && (bn.isEmpty || d.isSome) && Zb5 (new.map (·.1)) && nodupB (ios++hd) && (!(hasSlR r || outs.any hasSlL) || Zb5 lent) then
     let fr:=if hasSlR r || outs.any hasSlL then Xw bx lent else[]
     some ⟨Zdb d p,fr++bo++(new++kl),lent++ios++hd++new.map (·.1)⟩
    else none
   | _,_=>none
  | none=>none
 | _,_=>none
def Zik (j:TI) (d:Nat) (x:PV) (els':List (List Cell)) (bx:Boxes):Option Upd :=
 match x with
 | .one (.slice .nil _) =>
  if (∀ l∈els',l.length=j.size)∧els'.length * j.bytes≤140737488355328∧els'.length≤maxLen∧d<1000000 then
   some ⟨[(d,.one (.ms d (Zr bx d) 0 els'.length j.size))],[(d,⟨Zr bx d,j.size,els',false,true⟩)],[d]⟩ else none
 | .one (.ms nm ver 0 n e)=>(match getB bx nm with
  | some b=>if b.ver=ver∧b.row=true∧n≤b.els.length∧(n=b.els.length∨b.frz=false)∧e=j.size∧b.e=j.size∧(∀ l∈els',l.length=j.size)∧(n+els'.length) * j.bytes≤140737488355328∧n+els'.length≤maxLen∧okN nm=true then
    some ⟨[(d,.one (.ms nm (ver+1) 0 (n+els'.length) e))],[(nm,{ b with ver:=ver+1,els:=Zk0 n b.els++els' })],[nm]⟩ else none
  | none=>none)
 | _=>none
def ZhS (s:Nat) (d:Option Nat) (x:Cell) (els:List (List Cell)) (bx:Boxes):Option Upd :=
 match x with
 | .ms nm ver i n e=>(match getB bx nm with
  | some b=>if b.ver=ver∧b.frz=false∧i+n≤b.els.length∧b.e=e∧e=s∧0<s∧(∀ l∈els,l.length=s) then
    some ⟨Zdb d (.one (.v (.int .i64 (min els.length n:Nat)))),[(nm,{ b with els:=b.els.take i++els.take (min els.length n)++b.els.drop (i+min els.length n) })],[nm]⟩ else none
  | none=>none)
 | .fv nm ver off n e=>(match getB bx nm with
  | some b=>(match b.els with
   | [cs]=>if b.ver=ver∧b.frz=false∧off+n * e≤cs.length∧e=s∧0<s∧(∀ l∈els,l.length=s) then
     some ⟨Zdb d (.one (.v (.int .i64 (min els.length n:Nat)))),[(nm,{ b with els:=[ZE cs off (els.take (min els.length n)).flatten] })],[nm]⟩ else none
   | _=>none)
  | none=>none)
 | _=>none
def Cell.isI:Cell→Bool
 | .v (.int _ _)=>true
 | _=>false
def isStr1:List Cell→Bool
 | [.v (.string _)]=>true
 | _=>false
def Zh8 (i:TI) (kc:List Cell):Bool:=if i.kind = .str then isStr1 kc && !i.agg else i.flat && kc.all Cell.isI
def Zk1 (agg:Bool):PV→Bool
 | .one _=>!agg
 | .agg _=>agg
 | _=>false
def byteOf:List Cell→Option UInt8
 | [.v (.int .u8 n)]=>some (UInt8.ofNat n.toNat)
 | _=>none
def bytesL:List (List Cell)→Option (List UInt8)
 | []=>some []
 | l :: ls=>match byteOf l,bytesL ls with | some b,some bs=>some (b :: bs) | _,_=>none
def ZnL (els:List (List Cell)):Option ByteArray:=match bytesL els with | some bs=>some ⟨bs.toArray⟩ | none=>none
def eff (tt:TT) (T:Tab) (G:Glob) (o:Oper) (env:Env) (bx:Boxes):Option Upd :=
 match o.op with
 | .alloc t=>match tt t,o.dst with
  | some i,some d=>if i.zero.length=i.size∧d<1000000 then some ⟨[(d,.ptr d (Zr bx d) 0 0 i.size)],[(d,⟨Zr bx d,i.size,[i.zero.map Zc.cell],false,false⟩)],[d]⟩ else none
  | _,_=>none
 | .box t x=>match rd G env x,o.dst with
  | some p,some d=>(match p.cells with | some cs=>if d<1000000 then some ⟨[(d,.ptr d (Zr bx d) 0 0 cs.length)],[(d,⟨Zr bx d,cs.length,[cs],false,false⟩)],[d]⟩ else none | none=>none)
  | _,_=>none
 | .load t x=>match tt t,rd G env x with
  | some i,some (.ref cs)=>(match ZiO i cs 0 with | some p=>some ⟨Zdb o.dst p,[],[]⟩ | none=>none)
  | some i,some (.ptr nm ver k off e)=>(match getB bx nm with
   | some b=>if b.ver=ver∧b.row=true∧k=0∧b.e<e then(match ZiO i b.els.flatten off with | some p=>some ⟨Zdb o.dst p,[],[nm]⟩ | none=>none)
     else if b.ver=ver∧(k=0∨b.e=e) then(match b.els[k]? with
     | some l=>(match ZiO i l off with | some p=>some ⟨Zdb o.dst p,[],[nm]⟩ | none=>none)
     | none=>none) else none
   | none=>none)
  | _,_=>none
 | .store t x y=>match tt t,rd G env x,rd G env y with
  | some i,some (.ptr nm ver k off e),some p=>(match getB bx nm,p.cells with
   | some b,some ds=>if o.dst=none∧b.ver=ver∧(k=0∨b.e=e)∧b.frz=false then(match b.els[k]? with
     | some l=>if ds.length=i.size∧off+ds.length≤l.length then
       (if b.row then(match XD bx ds with
        | some us=>if (nmL ds).contains nm || !Zb5 (nmL ds) then none else some ⟨[],Xw bx (nmL ds)++[(nm,{ b with els:=b.els.set k (ZE l off (nnL us)) })],nm :: nmL ds⟩
        | none=>none)
       else some ⟨[],[(nm,{ b with els:=b.els.set k (ZE l off ds) })],[nm]⟩) else none
     | none=>none) else none
   | _,_=>none)
  | _,_,_=>none
 | .buildSlice t len parts=>match tt t,Zgc G env parts.toList,o.dst with
  | some i,some ps,some d=>(match i.kind with
   | .slice e=>(match tt e,Zgd bx ps with
    | some j,some els=>if 0<j.size∧len * j.size≤16777216∧j.zero.length=j.size∧ps.map (·.1)=List.range len∧els.all (·.length == j.size)=true∧(Ze6 ps).contains d=false∧Zb5 (Ze6 ps)=true∧d<1000000 then
      some ⟨[(d,.one (.ms d (Zr bx d) 0 len j.size))],Xw bx (Ze6 ps)++[(d,⟨Zr bx d,j.size,els,false,true⟩)],d :: Ze6 ps⟩ else none
    | _,_=>none)
   | _=>none)
  | _,_,_=>none
 | .makeSlice t l c=>match tt t,rd G env l,rd G env c,o.dst with
  | some i,some p,some q,some d=>(match i.kind,idxOf p,idxOf q with
   | .slice e,some n,some m=>(match tt e with
    | some j=>if 0<j.size∧j.zero.length=j.size∧n≤m∧m * j.bytes≤140737488355328∧m≤9223372036854775807∧d<1000000 then
      some ⟨[(d,.one (.ms d (Zr bx d) 0 n j.size))],[(d,⟨Zr bx d,j.size,List.replicate n (j.zero.map Zc.cell),false,true⟩)],[d]⟩ else none
    | none=>none)
   | _,_,_=>none)
  | _,_,_,_=>none
 | .call { callee:=.builtin .append,args:=⟨[x,y]⟩,argTypes:=⟨[t,t']⟩ }=>match tt t,tt t',rd G env x,rd G env y,o.dst with
  | some i,some i',some p,some q,some d=>(match i.kind,ZgS bx i'.kind q with
   | .slice e,some els'=>(match tt e with
    | some j=>if 0<j.size∧j.zero.length=j.size then
      (match Zik j d p els' bx with | some u=>some { u with reads:=nmP q++u.reads } | none=>none) else none
    | none=>none)
   | _,_=>none)
  | _,_,_,_,_=>none
 | .call { callee:=.builtin .copy,args:=⟨[x,y]⟩,argTypes:=⟨[t,t']⟩ }=>match tt t,tt t',rd G env x,rd G env y with
  | some i,some i',some (.one c),some q=>(match i.kind,ZgS bx i'.kind q with
   | .slice e,some els'=>(match ZcQ tt e with
    | some s=>(match ZhS s o.dst c els' bx with | some u=>some { u with reads:=nmP q++u.reads } | none=>none)
    | none=>none)
   | _,_=>none)
  | _,_,_,_=>none
 | .call { callee:=.builtin .clear,args:=⟨[x]⟩,argTypes:=⟨[t]⟩ }=>match tt t,rd G env x with
  | some i,some (.one (.ms nm ver i0 n e0))=>(match i.kind with
   | .slice e=>(match tt e with
    | some j=>if o.dst=none∧j.zero.length=j.size then ZhS j.size none (.ms nm ver i0 n e0) (List.replicate n (j.zero.map Zc.cell)) bx else none
    | none=>none)
   | _=>none)
  | _,_=>none
 | .call { callee:=.value g,args,.. }=>match Ze5 env g,rds G env args.toList with
  | some (f,cs),some ps=>Zj2 T o.dst f (ps++cs) bx
  | _,_=>none
 | .makeMap t none=>match tt t,o.dst with
  | some i,some d=>(match i.kind with
   | .map kt et=>(match tt kt,tt et with
    | some ki,some ei=>if d<1000000∧(ki.flat=true∨ki.kind = .str)∧ki.zero.length=ki.size then
      some ⟨[(d,.one (.mp (ZkC d) (Zr bx (ZkC d))))],[(ZkC d,⟨Zr bx (ZkC d),Zos ei.size ki.agg ei.agg,[ki.zero.map Zc.cell],false,false⟩)],[ZkC d]⟩ else none
    | _,_=>none)
   | _=>none)
  | _,_=>none
 | .lookup t x k ok=>match tt t,rd G env x,rd G env k with
  | some i,some (.one (.mp nm ver)),some pk=>(match i.kind,getB bx nm,pk.cells with
   | .map kt et,some b,some kc=>(match tt kt,tt et,b.els with
    | some ki,some ei,h :: es=>if b.ver=ver∧ZB nm=true∧Zh8 ki kc=true∧b.e=Zos ei.size ki.agg ei.agg∧kKind h kc=true∧h.length=ki.size∧Zk1 ki.agg pk=true∧ei.zero.length=ei.size then
      (let vs:=(ZgQ ki.size kc es).getD (nnL (ei.zero.map Zc.cell))
       match (if ei.agg then some (.agg vs) else match vs with | [c]=>some (.one c) | _=>none) with
       | some p=>some ⟨Zdb o.dst (if ok then .tup [p,.one (.v (.bool (ZgQ ki.size kc es).isSome))] else p),[],[nm]⟩
       | none=>none) else none
    | _,_,_=>none)
   | _,_,_=>none)
  | _,_,_=>none
 | .mapUpdate t x k v=>match tt t,rd G env x,rd G env k,rd G env v with
  | some i,some (.one (.mp nm ver)),some pk,some pv=>(match i.kind,getB bx nm,pk.cells,pv.cells with
   | .map kt et,some b,some kc,some vc=>(match tt kt,tt et,b.els,XD bx vc with
    | some ki,some ei,h :: es,some us=>if o.dst=none∧b.ver=ver∧ZB nm=true∧Zh8 ki kc=true∧b.e=Zos ei.size ki.agg ei.agg∧kKind h kc=true∧h.length=ki.size∧Zk1 ki.agg pk=true∧Zk1 ei.agg pv=true∧vc.length=ei.size∧Zb5 (nmL vc)=true∧b.frz=false then
      some ⟨[],Xw bx (nmL vc)++[(nm,{ b with els:=h :: ZgR ki.size kc (nnL us) es })],nm :: nmL vc⟩ else none
    | _,_,_,_=>none)
   | _,_,_,_=>none)
  | _,_,_,_=>none
 | .convert src dst x=>match tt src,tt dst,rd G env x with
  | some i,some j,some (.one c)=>(match i.kind,j.kind with
   | .slice e,.str=>(match tt e,Zh7 bx c with
    | some j,some els=>if j.size=1∧j.kind = .int .u8 then(match ZnL els with | some s=>some ⟨Zdb o.dst (.one (.v (.string s))),[],nmC c⟩ | none=>none) else none
    | _,_=>none)
   | .str,.slice e=>(match c,tt e with
    | .v (.string s),some j=>if j.size=1∧j.kind = .int .u8∧s.size≤140737488355328 then
      some ⟨Zdb o.dst (.one (.slice .no (s.data.toList.map fun b=>[.v (.int .u8 b.toNat)]))),[],[]⟩ else none
    | _,_=>none)
   | _,_=>(match ZC tt G env o.op with | some p=>some ⟨Zdb o.dst p,[],[]⟩ | none=>none))
  | _,_,_=>none
 | .call { callee:=.builtin .len,args:=⟨[x]⟩,argTypes:=⟨[t]⟩ }=>match rd G env x with
  | some (.one (.mp nm ver))=>(match getB bx nm,tt t with
   | some b,some i=>(match b.els,i.kind with
    | h :: es,.map _ _=>if b.ver=ver∧ZB nm=true then some ⟨Zdb o.dst (.one (.v (.int .i64 es.length))),[],[nm]⟩ else none
    | _,_=>none)
   | _,_=>none)
  | _=>(match ZC tt G env o.op with | some p=>some ⟨Zdb o.dst p,[],[]⟩ | none=>none)
 | op=>match ZC tt G env op with
  | some p=>some ⟨Zdb o.dst p,[],[]⟩
  | none=>none
def Y5 (env:List PV):List (Nat×PV)→List PV
 | []=>env
 | (d,p) :: ws=>Y5 (env.set d p) ws
def Upd.app (u:Upd) (st:ASt):ASt:=⟨Y5 st.env u.slots,ZZ st.boxes u.boxes⟩
def Zot (ops:List Oper) (env:Env):Option (Nat×Bool)→Option Bool
 | none=>some true
 | some (j,want) =>
  match ops[j]? with
  | some o=>(match o.dst with
   | some d=>(match env d with | .one (.v (.bool b))=>some (b == want) | .skip=>some false | _=>none)
   | none=>some false)
  | none=>some false
def Zhh (tt:TT) (T:Tab) (G:Glob) (ops:List Oper) (o:Oper) (st:ASt):Option Upd :=
 match Zot ops st.get o.guard with
 | some true=>eff tt T G o st.get st.boxes
 | some false=>some ⟨Zdb o.dst .skip,[],[]⟩
 | none=>none
def Zs5 (tt:TT) (T:Tab) (G:Glob) (ops:List Oper) (o:Oper) (st:ASt):Option ASt :=
 match Zhh tt T G ops o st with | some u=>some (u.app st) | none=>none
def Zdd (tt:TT) (T:Tab) (G:Glob) (ops:List Oper):List Oper→ASt→Option ASt
 | [],st=>some st
 | o :: l,st=>match Zs5 tt T G ops o st with | some st'=>Zdd tt T G ops l st' | none=>none
abbrev Foot:=List Nat×List Nat
def Upd.foot (u:Upd):Foot:=(u.reads,u.boxes.map (·.1))
def ZdF (tt:TT) (T:Tab) (G:Glob) (ops:List Oper):List Oper→ASt→Option (ASt×List Foot)
 | [],st=>some (st,[])
 | o :: l,st=>match Zhh tt T G ops o st with
  | some u=>(match ZdF tt T G ops l (u.app st) with | some (st',fs)=>some (st',u.foot :: fs) | none=>none)
  | none=>none
def Zue (l:List Operand):List Nat:=l.filterMap fun | .tmp t=>some t | _=>none
def rdS (ops:List Oper) (o:Oper):List Nat :=
 Zue o.op.operands.toList++(match o.guard with | some (j,_)=>(match ops[j]? with | some o'=>o'.dst.toList | none=>[]) | none=>[])
def wrS (o:Oper):List Nat:=o.dst.toList
def Zlw (l m:List Nat):Bool:=l.all fun x=>!m.contains x
def ZqG (ops:List Oper) (o o':Oper) (f f':Foot):Bool :=
 Zlw (wrS o) (rdS ops o') && Zlw (wrS o) (wrS o') && Zlw (wrS o') (rdS ops o) && Zlw f.2 f'.1 && Zlw f.2 f'.2 && Zlw f'.2 f.1
def Zge (o:Oper):List Nat:=(o.after.toList.filter (Region.binds .any)).map (·.on)
def befL:List Oper→List Nat→List Nat
 | [],acc=>acc
 | o :: l,acc=>befL l (acc++[(Zge o).foldl (fun s i=>s ||| (2 ^ i ||| acc.getD i 0)) 0])
def ZhT (ops:List Oper) (fs:List Foot):Bool :=
 let bs:=befL ops []
 (List.range ops.length).all fun j=>match ops[j]?,fs[j]? with
  | some o,some f=>(Zge o).all (· < j) && (List.range j).all fun i=>match ops[i]?,fs[i]? with | some o',some f'=>(bs.getD j 0).testBit i || ZqG ops o' o f' f | _,_=>false
  | _,_=>false
inductive AE where
 | normal
 | exit (id:Nat)
 | ret
structure Kp where
 ks:List Nat
 ns:List Nat
 nl:List (Nat×Option Nat×Nat×Nat):=[]
def Zka (bx:Boxes) (ns:List Nat):Cell→Cell
 | .ms nm ver i n e=>(match getB bx nm with | some b=>if b.ver=ver∧ns.contains nm=true then .ms nm 0 i n e else .bad | none=>.bad)
 | .fv nm ver o n e=>(match getB bx nm with | some b=>if b.ver=ver∧ns.contains nm=true then .fv nm 0 o n e else .bad | none=>.bad)
 | .mp nm ver=>(match getB bx nm with | some b=>if b.ver=ver∧ns.contains nm=true then .mp nm 0 else .bad | none=>.bad)
 | c=>c
def ZgB (bx:Boxes) (ns:List Nat) (cs:List Cell):List Cell:=cs.map (Zka bx ns)
def Zlx (bx:Boxes) (ns:List Nat):PV→PV
 | .one c=>.one (Zka bx ns c)
 | .agg cs=>.agg (ZgB bx ns cs)
 | .ptr nm ver i o e=>(match getB bx nm with | some b=>if b.ver=ver∧ns.contains nm=true then .ptr nm 0 i o e else .undef | none=>.undef)
 | .tup _=>.undef
 | .clo _ _=>.undef
 | p=>p
def ZqO (bx:Boxes) (ns:List Nat):PV→PV
 | .clo f ps=>if (ps.map (Zlx bx ns)).all capOk then .clo f (ps.map (Zlx bx ns)) else .undef
 | p=>Zlx bx ns p
def YV (bx:Boxes) (ns:List Nat) (els:List (List Cell)):List (List Cell):=els.map (ZgB bx ns)
def ZgF (bx:Boxes) (ns:List Nat):Boxes→Boxes
 | []=>[]
 | (nm,b) :: l=>if ns.contains nm=true then(nm,{ b with ver:=0,els:=YV bx ns b.els }) :: ZgF bx ns l else ZgF bx ns l
def isNil:Cell→Bool
 | .slice .nil []=>true
 | _=>false
def mk1 (st:ASt):Nat×Option Nat×Nat×Nat→ASt
 | (i,none,0,0)=>(match st.env[i]? with
  | some (.one c)=>if isNil c=true then⟨st.env.set i (.one (.slice .no [])),st.boxes⟩ else st
  | _=>st)
 | (i,some o,0,0)=>(match getB st.boxes i with
  | some b=>(match b.els with
   | [cs]=>(match cs[o]? with
    | some c=>if isNil c=true∧b.frz=false∧ZB i=false then⟨st.env,setB st.boxes i { b with els:=[cs.set o (.slice .no [])] }⟩ else st
    | none=>st)
   | _=>st)
  | none=>st)
 | (i,none,nm,e)=>(match st.env[i]? with
  | some (.one c)=>if isNil c=true∧getB st.boxes nm=none∧0<e∧okN nm=true then⟨st.env.set i (.one (.ms nm 0 0 0 e)),setB st.boxes nm ⟨0,e,[],false,true⟩⟩ else st
  | _=>st)
 | (i,some o,nm,e)=>(match getB st.boxes i with
  | some b=>(match b.els with
   | [cs]=>(match cs[o]? with
    | some c=>if isNil c=true∧getB st.boxes nm=none∧0<e∧b.frz=false∧i≠nm∧okN nm=true∧ZB i=false then⟨st.env,setB (setB st.boxes nm ⟨0,e,[],false,true⟩) i { b with els:=[cs.set o (.ms nm 0 0 0 e)] }⟩ else st
    | none=>st)
   | _=>st)
  | none=>st)
def ZqH (st:ASt):List (Nat×Option Nat×Nat×Nat)→ASt
 | []=>st
 | x :: l=>ZqH (mk1 st x) l
def Zs6 (st:ASt):Nat×Option Nat×Nat×Nat→ASt
 | (i,none,nm',0)=>(match st.env[i]? with
  | some (.one (.ms nm ver 0 n e))=>(match getB st.boxes nm with
   | some b=>if b.ver=ver∧b.row=true∧nm≠nm'∧okN nm=true∧okN nm'=true then
     ⟨st.env.set i (.one (.ms nm' (Zr st.boxes nm') 0 n e)),setB (setB st.boxes nm' { b with ver:=Zr st.boxes nm' }) nm ⟨b.ver+1,b.e,[],false,true⟩⟩ else st
   | none=>st)
  | _=>st)
 | (i,some o,nm',0)=>(match getB st.boxes i with
  | some bi=>(match bi.els with
   | [cs]=>(match cs[o]? with
    | some (.ms nm ver 0 n e)=>(match getB st.boxes nm with
     | some b=>if b.ver=ver∧b.row=true∧nm≠nm'∧okN nm=true∧okN nm'=true∧i≠nm∧i≠nm'∧bi.frz=false∧ZB i=false then
       ⟨st.env,setB (setB (setB st.boxes nm' { b with ver:=Zr st.boxes nm' }) nm ⟨b.ver+1,b.e,[],false,true⟩) i { bi with els:=[cs.set o (.ms nm' (Zr st.boxes nm') 0 n e)] }⟩ else st
     | none=>st)
    | _=>st)
   | _=>st)
  | none=>st)
 | (i,some o,0,1)=>(match getB st.boxes o with
  | some b=>if i=1000000000∧okN o=true∧ZH b.els=true then⟨st.env,ZZ st.boxes (Xw st.boxes [o])⟩ else st
  | none=>st)
 | (i,none,1,1)=>(match st.env[i]? with
  | some (.one c)=>(match Z8 st.boxes c with
   | some d=>if Zb5 (nmC c)=true then⟨st.env.set i (.one d),ZZ st.boxes (Xw st.boxes (nmC c))⟩ else st
   | none=>st)
  | _=>st)
 | _=>st
def ZoQ (st:ASt):List (Nat×Option Nat×Nat×Nat)→ASt
 | []=>st
 | x :: l=>ZoQ (Zs6 st x) l
def Zsp (k:Kp) (st:ASt):ASt :=
 ZqH ⟨st.env.zipIdx.map fun(p,i)=>if k.ks.contains i then ZqO st.boxes k.ns p else .undef,ZgF st.boxes k.ns st.boxes⟩ k.nl
def Zcl (k:Kp) (st:ASt):ASt:=Zsp k (ZoQ st k.nl)
def firstId:Code→Nat
 | .region id _ _=>id
 | .seq a _=>firstId a
 | .block _ c=>firstId c
 | .loop c=>firstId c
 | _=>0
abbrev Keep:=Nat→Kp
def ZlJ (k:Kp) (f:ASt→Option (AE×ASt)):Nat→ASt→Option (AE×ASt)
 | 0,_=>none
 | n+1,st=>match f (Zcl k st) with
  | some (.normal,st')=>ZlJ k f n st'
  | r=>r
def ZbL (k:Kp) (st:ASt):ASt:=if k.ks.isEmpty then st else Zcl k st
def firstJ:Code→Option Nat
 | .region id _ _=>some (id+1000000)
 | .seq a _=>firstJ a
 | .block _ c=>firstJ c
 | .loop c=>some (firstId c)
 | _=>none
def Yt (tt:TT) (T:Tab) (G:Glob) (kp:Keep) (n:Nat):Code→ASt→Option (AE×ASt)
 | .skip,st=>some (.normal,st)
 | .region id ops draw,st =>
  if draw then(match ZdF tt T G ops.toList ops.toList (ZbL (kp (id+1000000)) st) with | some (st',fs)=>if ZhT ops.toList fs then some (.normal,st') else none | none=>none)
  else(match Zdd tt T G ops.toList ops.toList (ZbL (kp (id+1000000)) st) with | some st'=>some (.normal,st') | none=>none)
 | .seq a b,st=>match Yt tt T G kp n a st with
  | some (.normal,st')=>Yt tt T G kp n b st'
  | r=>r
 | .cond x a b,st=>match rd G st.get x with
  | some (.one (.v (.bool t)))=>if t then Yt tt T G kp n a st else Yt tt T G kp n b st
  | _=>none
 | .block id c,st=>match Yt tt T G kp n c st with
  | some (.exit id',st')=>if id'=id then some (.normal,st') else some (.exit id',st')
  | r=>r
 | .loop c,st=>ZlJ (kp (firstId c)) (Yt tt T G kp n c) n st
 | .exit id,st=>some (.exit id,st)
 | .ret,st=>some (.ret,st)
 | _,_=>none
def Zl3 (tt:TT) (st:ASt):ResultVar→Option PV
 | .tmp t=>some (st.get t)
 | .cell a t=>match tt t,st.get a with
  | some i,.ptr nm ver k off e=>(match getB st.boxes nm with
   | some b=>if b.ver=ver∧(k=0∨b.e=e) then(match b.els[k]? with | some l=>ZiO i l off | none=>none) else none
   | none=>none)
  | _,_=>none
def ZkP (tt:TT) (st:ASt):List ResultVar→Option (List PV)
 | []=>some []
 | r :: rs=>match Zl3 tt st r,ZkP tt st rs with | some p,some ps=>some (p :: ps) | _,_=>none
def Zjm (bx:Boxes) (w:Bool):Cell→Option Cell
 | .ms nm ver i n e=>if w then(match getB bx nm with
   | some b=>if b.ver=ver∧b.frz=false∧b.row=true∧b.e=e∧0<e∧i=0∧n≤b.els.length∧okN nm=true∧ZH b.els=true then some (.own e (Zk0 n b.els)) else none
   | none=>none)
  else(Z8 bx (.ms nm ver i n e)).map Cell.nn
 | c=>(Z8 bx c).map Cell.nn
def ZgT (bx:Boxes) (w:Bool):List Cell→Option (List Cell)
 | []=>some []
 | c :: cs=>match Zjm bx w c,ZgT bx w cs with | some d,some ds=>some (d :: ds) | _,_=>none
def ZiP (bx:Boxes) (w:Bool):PV→Option PV
 | .one c=>(Zjm bx w c).map .one
 | .agg cs=>(ZgT bx w cs).map .agg
 | .ptr nm ver 0 0 e=>match getB bx nm with
  | some b=>(match b.els with
   | [cs]=>if w=true∧b.ver=ver∧b.frz=false∧b.row=false∧okN nm=true then(ZgT bx w cs).map .io else none
   | _=>none)
  | none=>none
 | _=>none
def ZnM (bx:Boxes) (w:Bool):List PV→Option (List PV)
 | []=>some []
 | p :: ps=>match ZiP bx w p,ZnM bx w ps with | some q,some qs=>some (q :: qs) | _,_=>none
def owC (w:Bool):Cell→List Nat
 | .ms nm ..=>if w then[nm] else[]
 | _=>[]
def vwC (w:Bool):Cell→List Nat
 | .ms nm ..=>if w then[] else[nm]
 | .fv nm ..=>[nm]
 | _=>[]
def owL (w:Bool) (cs:List Cell):List Nat:=cs.flatMap (owC w)
def vwL (w:Bool) (cs:List Cell):List Nat:=cs.flatMap (vwC w)
def owP (bx:Boxes) (w:Bool):PV→List Nat
 | .one c=>owC w c
 | .agg cs=>owL w cs
 | .ptr nm _ _ _ _=>nm :: owL w (Zcz bx nm)
 | _=>[]
def vwP (bx:Boxes) (w:Bool):PV→List Nat
 | .one c=>vwC w c
 | .agg cs=>vwL w cs
 | .ptr nm _ _ _ _=>vwL w (Zcz bx nm)
 | _=>[]
def ioIn:Nat→Nat→List PV→List PV×List (Nat×Box)×List (Nat×Box)
 | _,_,[]=>([],[],[])
 | k,j,.io cs :: ps=>let r:=ioIn (k+1) (j+1) ps; let q:=YA [] (ioN (1000000+k)) 0 cs
  (.ptr (1000000+k) 0 0 0 cs.length :: r.1,(1000000+k,⟨0,cs.length,[q.1],false,false⟩) :: r.2.1,q.2++r.2.2)
 | k,j,.rio e els :: ps=>let r:=ioIn (k+1) (j+1) ps
  (.one (.ms (1000000+k) 0 0 els.length e) :: r.1,(1000000+k,⟨0,e,els,false,true⟩) :: r.2.1,r.2.2)
 | k,j,.one c :: ps=>let r:=ioIn k (j+1) ps; let q:=YA [] (ioN (1500000+j)) 0 [c]; (.one (q.1.headD c) :: r.1,r.2.1,q.2++r.2.2)
 | k,j,.agg cs :: ps=>let r:=ioIn k (j+1) ps; let q:=YA [] (ioN (1500000+j)) 0 cs; (.agg q.1 :: r.1,r.2.1,q.2++r.2.2)
 | k,j,p :: ps=>let r:=ioIn k (j+1) ps; (p :: r.1,r.2)
def Zk2 (args:List PV):Boxes:=ZZ [] ((ioIn 0 0 args).2.1++(ioIn 0 0 args).2.2)
def Zly (args:List PV):Bool:=nodupB (((ioIn 0 0 args).2.1++(ioIn 0 0 args).2.2).map (·.1)) && Zb5 ((ioIn 0 0 args).2.2.map (·.1))
def ZnN (bx:Boxes):Cell→Cell→Option Cell
 | .own e _,.ms nm ver i n e'=>match getB bx nm with
  | some b=>if b.ver=ver∧b.frz=false∧b.row=true∧b.e=e∧e'=e∧0<e∧i=0∧n≤b.els.length∧okN nm=true∧ZH b.els=true then some (.own e (Zk0 n b.els)) else none
  | none=>none
 | .own e _,.slice .nil []=>some (.own e [])
 | .own _ _,_=>none
 | _,c=>(Z8 bx c).map Cell.nn
def Zde (bx:Boxes):List Cell→List Cell→Option (List Cell)
 | [],[]=>some []
 | c :: cs,d :: ds=>match ZnN bx c d,Zde bx cs ds with | some x,some xs=>some (x :: xs) | _,_=>none
 | _,_=>none
def backO:Cell→Cell→List Nat
 | .own _ _,.ms nm ..=>[nm]
 | _,_=>[]
def backV:Cell→Cell→List Nat
 | .own _ _,_=>[]
 | _,c=>nmC c
def backOL:List Cell→List Cell→List Nat
 | c :: cs,d :: ds=>backO c d++backOL cs ds
 | _,_=>[]
def backVL:List Cell→List Cell→List Nat
 | c :: cs,d :: ds=>backV c d++backVL cs ds
 | _,_=>[]
def Zc2 (bx:Boxes):Nat→List PV→Option (List (List Cell)×List Nat×List Nat)
 | _,[]=>some ([],[],[])
 | k,.io cs0 :: ps=>match getB bx (1000000+k),Zc2 bx (k+1) ps with
  | some b,some (r,ow,vw)=>(match b.els with
   | [cs]=>if b.ver=0∧b.frz=false∧1000000+k<2000000 then(match Zde bx cs0 cs with | some ds=>some (ds :: r,backOL cs0 cs++ow,backVL cs0 cs++vw) | none=>none) else none
   | _=>none)
  | _,_=>none
 | k,.rio e els0 :: ps=>match getB bx (1000000+k),Zc2 bx (k+1) ps with
  | some b,some (r,ow,vw)=>if b.ver=0∧b.frz=false∧b.row=true∧b.e=e∧b.els.length=els0.length∧ZH b.els=true∧1000000+k<2000000 then some (b.els.flatten :: r,ow,vw) else none
  | _,_=>none
 | k,_ :: ps=>Zc2 bx k ps
def ret1:List PV→PV
 | [p]=>p
 | ps=>.tup ps
def ZkG (tt:TT) (w:Bool) (fn:Func) (args:List PV) (st:ASt):Option (PV×List (List Cell)) :=
 match ZkP tt st fn.results.toList with
 | some ps=>(match ZnM st.boxes w ps,Zc2 st.boxes 0 args with
  | some qs,some (outs,ow,vw)=>if nodupB (ow++ps.flatMap (owP st.boxes w)) && (ow++ps.flatMap (owP st.boxes w)).all (fun x=>!(vw++ps.flatMap (vwP st.boxes w)).contains x) && Zb5 (vw++ps.flatMap (vwP st.boxes w)) then some (ret1 qs,outs) else none
  | _,_=>none)
 | none=>none
def ZN (tt:TT) (T:Tab) (G:Glob) (kp:Keep) (w:Bool) (n:Nat) (fn:Func) (args:List PV):Option (PV×List (List Cell)) :=
 match fn.body with
 | some c =>
  if Zly args then
  match Yt tt T G kp n c ⟨(ioIn 0 0 args).1++List.replicate (fn.ntmps-args.length) .skip,Zk2 args⟩ with
  | some (.ret,st) | some (.normal,st)=>ZkG tt w fn args st
  | _=>none
  else none
 | none=>none
inductive Zk {α β:Type}(R:α→β→Prop):List α→List β→Prop
 | nil:Zk R [] []
 | cons {a b l m}:R a b→Zk R l m→Zk R (a :: l) (b :: m)
theorem Zk.length {α β:Type}{R:α→β→Prop}{l:List α}{m:List β}(h:Zk R l m):l.length=m.length:=by
 induction h with
 | nil=>rfl
 | cons _ _ ih=>simp[ih]
theorem Zk.mono {α β:Type}{R R':α→β→Prop}{l:List α}{m:List β}(h:Zk R l m) (hr:∀ a b,R a b→R' a b):Zk R' l m:=by
 induction h with
 | nil=>exact .nil
 | cons h _ ih=>exact .cons (hr _ _ h) ih
theorem Zk.get {α β:Type}{R:α→β→Prop}{l:List α}{m:List β}(h:Zk R l m){i:Nat}{a:α}(ha:l[i]? = some a):∃ b,m[i]? = some b∧R a b:=by
 induction h generalizing i with
 | nil=>simp at ha
 | cons h _ ih =>
  cases i with
  | zero=>simp at ha; subst ha; exact⟨_,by simp,h⟩
  | succ i=>simpa using ih (by simpa using ha)
theorem Zk.of_get {α β:Type}{R:α→β→Prop}:∀ {l:List α}{m:List β},l.length=m.length→(∀ (i:Nat) a b,l[i]? = some a→m[i]? = some b→R a b)→Zk R l m
 | [],[],_,_=>.nil
 | a :: l,b :: m,hl,h=>.cons (h 0 a b (by simp) (by simp)) (Zk.of_get (by simpa using hl) fun i x y hx hy=>h (i+1) x y (by simpa using hx) (by simpa using hy))
theorem Zk.append {α β:Type}{R:α→β→Prop}{l l':List α}{m m':List β}(h:Zk R l m) (h':Zk R l' m'):Zk R (l++l') (m++m'):=by
 induction h with
 | nil=>exact h'
 | cons h _ ih=>exact .cons h ih
theorem Zk.take {α β:Type}{R:α→β→Prop}{l:List α}{m:List β}(h:Zk R l m) (n:Nat):Zk R (l.take n) (m.take n):=by
 induction h generalizing n with
 | nil=>simpa using Zk.nil
 | cons h _ ih=>cases n with
  | zero=>exact .nil
  | succ n=>exact .cons h (ih n)
theorem Zk.drop {α β:Type}{R:α→β→Prop}{l:List α}{m:List β}(h:Zk R l m) (n:Nat):Zk R (l.drop n) (m.drop n):=by
 induction h generalizing n with
 | nil=>simpa using Zk.nil
 | cons h t ih=>cases n with
  | zero=>exact .cons h t
  | succ n=>simpa using ih n
section
variable {bx:Boxes}{n m:Nat}{b:Box}
theorem getB_set:getB (setB bx n b) m=if n=m then some b else getB bx m:=by
 induction bx with
 | nil=>simp[setB,getB]
 | cons x l ih =>
  obtain⟨k,c⟩:=x;simp only[setB];split
  ·simp[getB]
  ·split
   ·rename_i h; subst h; simp only[getB]; split <;> rfl
   ·rename_i h1 h2
    simp only[getB,ih];by_cases hk:k=m
    ·subst hk; simp[h2]
    ·simp[hk]
theorem getB_self:getB (setB bx n b) n=some b:=by simp[getB_set]
theorem Xa (h:n≠m):getB (setB bx n b) m=getB bx m:=by simp[getB_set,h]
theorem Zuf {b':Box}(h:n≠m):setB (setB bx n b) m b'=setB (setB bx m b') n b:=by
 induction bx with
 | nil=>simp only[setB]; split <;> (split <;> first | omega | rfl | (split <;> first | omega | rfl)) 
 | cons x l ih =>
  obtain⟨k,c⟩:=x;simp only[setB]
  repeat' split
  all_goals first | omega | (simp only[setB]; repeat' split) 
  all_goals first | omega | rfl | (simp only[ih]) | (congr 1; exact ih)
theorem ZvM {b':Box}:setB (setB bx n b) n b'=setB bx n b' := by
 induction bx with
 | nil=>simp[setB]
 | cons x l ih =>
  obtain⟨k,c⟩:=x;simp only[setB];split
  ·simp[setB]
  ·split
   ·simp[setB]
   ·rename_i h1 h2
    simp[setB,h1,h2,ih]
end
theorem Zhi {m:Nat}:∀ {l:List (Nat×Box)}{bx:Boxes},(∀ x∈l,x.1≠m)→getB (ZZ bx l) m=getB bx m
 | [],bx,_=>rfl
 | (n,b) :: l,bx,h=>by
  simp only[ZZ];rw[Zhi fun x hx=>h x (by simp[hx]),Xa (h (n,b) (by simp))]
inductive Yn (S:Nat→Nat→Prop) (w:World):Cell→Value→Prop
 | v (x:Value):x.oneCell'=true→(∀ a n c,x≠.slice a n c)→Yn S w (.v x) x
 | nil (a:Option Addr):Yn S w (.slice .nil []) (.slice a 0 0)
 | slice (els:List (List Cell)) (a:Option Addr) (c e b o:Nat) (m:Nat→Nat→Value)
   (hc:els.length≤c) (hx:c≤maxLen) (he:∀ l∈els,l.length=e) (h0:0<e)
   (ha:els≠[]→a=some ⟨b,o,none⟩)
   (hm:∀ i l,els[i]? = some l→∀ j,j<e→S b (o+i * e+j)∧w.cell? ⟨b,o+i * e+j,none⟩=some (m i j))
   (hr:∀ i l,els[i]? = some l→∀ j x,l[j]? = some x→Yn S w x (m i j)) :
   Yn S w (.slice .no els) (.slice a els.length c)
theorem Yn.one {S:Nat→Nat→Prop}{w:World}{c:Cell}{v:Value}(h:Yn S w c v):v.oneCell'=true:=by
 cases h with
 | v _ h=>exact h
 | nil=>rfl
 | slice=>rfl
theorem Yn.pure {S:Nat→Nat→Prop}{w:World}{c:Cell}{v:Value}(h:Yn S w c v):c.pureB=true:=by cases h <;> rfl
theorem Yn.mono {S S':Nat→Nat→Prop}{w w':World}{c:Cell}{v:Value}(h:Yn S w c v) (hS:∀ b o,S b o→S' b o)
  (hw:∀ b o,S b o→w'.cell? ⟨b,o,none⟩=w.cell? ⟨b,o,none⟩):Yn S' w' c v:=by
 induction h with
 | v x h hn=>exact .v x h hn
 | nil a=>exact .nil a
 | slice els a c e b o m hc hx he h0 ha hm hr ih =>
  exact .slice els a c e b o m hc hx he h0 ha (fun i l hl j hj=>⟨hS _ _ (hm i l hl j hj).1,(hw _ _ (hm i l hl j hj).1).trans (hm i l hl j hj).2⟩) (fun i l hl j x hxx=>ih i l hl j x hxx)
abbrev ZU (S:Nat→Nat→Prop) (w:World):List Cell→List Value→Prop:=Zk (Yn S w)
abbrev BM:=Nat→Option (Nat×Nat)
def Loc (bm:BM) (nm i n e:Nat) (x:Option Addr) (c:Nat):Prop :=
 match bm nm with
 | some (k,C)=>(0<n∨i=0)→x=some ⟨k,i * e,none⟩∧c≤C-i
 | none=>n=0∧c=0
def ZjU (bx:Boxes) (nm ver:Nat) (Q:Box→Prop):Prop:=∃ b,getB bx nm=some b∧ver≤b.ver∧(b.ver=ver→Q b)
inductive ZW (S:Nat→Nat→Prop) (w:World) (bm:BM) (bx:Boxes):Cell→Value→Prop
 | pure {c v}:Yn S w c v→ZW S w bm bx c v
 | ms (nm ver i n e:Nat) (x:Option Addr) (c:Nat):ZB nm=false→n≤c→c≤maxLen→(0<n→∃ k,x=some ⟨k,i * e,none⟩)→ZjU bx nm ver (fun b=>b.e=e∧b.row=true∧Loc bm nm i n e x c)→ZW S w bm bx (.ms nm ver i n e) (.slice x n c)
 | fv (nm ver off n e:Nat) (x:Option Addr) (c:Nat):ZB nm=false→n≤c→c≤maxLen→(0<n→∃ k,x=some ⟨k,off,none⟩)→ZjU bx nm ver (fun _=>0<n→∃ k C,bm nm=some (k,C)∧x=some ⟨k,off,none⟩)→ZW S w bm bx (.fv nm ver off n e) (.slice x n c)
 | bad {v}:v.oneCell'=true→ZW S w bm bx .bad v
 | mp (nm ver k:Nat):ZB nm=true→ZjU bx nm ver (fun _=>∃ C,bm nm=some (k,C))→ZW S w bm bx (.mp nm ver) (.map (some k))
inductive Zd8 (S:Nat→Nat→Prop) (w:World) (bm:BM) (bx:Boxes):PV→Value→Prop
 | one {c v}:ZW S w bm bx c v→Zd8 S w bm bx (.one c) v
 | agg {cs vs}:Zk (ZW S w bm bx) cs vs→Zd8 S w bm bx (.agg cs) (.agg vs.toArray)
 | ref {cs}(b o:Nat) (vs:List Value):ZU S w cs vs→(∀ j,j<vs.length→S b (o+j))→(∀ j u,vs[j]? = some u→w.cell? ⟨b,o+j,none⟩=some u)→Zd8 S w bm bx (.ref cs) (.pointer (some ⟨b,o,none⟩))
 | ptr (nm ver i off e k):ZB nm=false→ZjU bx nm ver (fun b=>(i=0∨b.e=e)∧∃ C,bm nm=some (k,C))→Zd8 S w bm bx (.ptr nm ver i off e) (.pointer (some ⟨k,i * e+off,none⟩))
 | fn (f:FuncId):Zd8 S w bm bx (.fn f) (.func (.func f) #[] #[])
inductive ZaK (S:Nat→Nat→Prop) (w:World) (bm:BM) (bx:Boxes):PV→Value→Prop
 | undef (v):ZaK S w bm bx .undef v
 | skip:ZaK S w bm bx .skip Go.undef
 | one {c v}:ZW S w bm bx c v→ZaK S w bm bx (.one c) v
 | agg {cs vs}:Zk (ZW S w bm bx) cs vs→ZaK S w bm bx (.agg cs) (.agg vs.toArray)
 | ref {cs}(b o:Nat) (vs:List Value):ZU S w cs vs→(∀ j,j<vs.length→S b (o+j))→(∀ j u,vs[j]? = some u→w.cell? ⟨b,o+j,none⟩=some u)→ZaK S w bm bx (.ref cs) (.pointer (some ⟨b,o,none⟩))
 | ptr (nm ver i off e k):ZB nm=false→ZjU bx nm ver (fun b=>(i=0∨b.e=e)∧∃ C,bm nm=some (k,C))→ZaK S w bm bx (.ptr nm ver i off e) (.pointer (some ⟨k,i * e+off,none⟩))
 | fn (f:FuncId):ZaK S w bm bx (.fn f) (.func (.func f) #[] #[])
 | clo {f ps vs}:Zk (Zd8 S w bm bx) ps vs→ZaK S w bm bx (.clo f ps) (.func (.func f) #[] vs.toArray)
theorem Zd8.toB {S:Nat→Nat→Prop}{w:World}{bm:BM}{bx:Boxes}{p:PV}{v:Value}(h:Zd8 S w bm bx p v):ZaK S w bm bx p v:=by
 cases h with
 | one h=>exact .one h
 | agg h=>exact .agg h
 | ref b o vs h1 h2 h3=>exact .ref b o vs h1 h2 h3
 | ptr nm ver i off e k hm h=>exact .ptr nm ver i off e k hm h
 | fn f=>exact .fn f
theorem ZaK.cap {S:Nat→Nat→Prop}{w:World}{bm:BM}{bx:Boxes}{p:PV}{v:Value}(h:ZaK S w bm bx p v) (hc:capOk p=true):Zd8 S w bm bx p v:=by
 cases h with
 | one h=>exact .one h
 | agg h=>exact .agg h
 | ref b o vs h1 h2 h3=>exact .ref b o vs h1 h2 h3
 | ptr nm ver i off e k hm h=>exact .ptr nm ver i off e k hm h
 | fn f=>exact .fn f
 | _=>simp[capOk] at hc
inductive X9 (S:Nat→Nat→Prop) (w:World) (bm:BM) (bx:Boxes):PV→Value→Prop
 | base {p v}:ZaK S w bm bx p v→X9 S w bm bx p v
 | tup {ps vs}:Zk (ZaK S w bm bx) ps vs→X9 S w bm bx (.tup ps) (.tuple vs.toArray)
def ZaX (bm:BM) (bx:Boxes) (bm':BM) (bx':Boxes):Prop :=
 ∀ nm b,getB bx nm=some b→∃ b',getB bx' nm=some b'∧b.ver≤b'.ver∧(b'.ver=b.ver→b'.e=b.e∧b'.row=b.row∧bm' nm=bm nm)
theorem ZaX.refl {bm:BM}{bx:Boxes}:ZaX bm bx bm bx:=fun nm b h=>⟨b,h,Nat.le_refl _,fun _=>⟨rfl,rfl,rfl⟩⟩
section
variable {S S':Nat→Nat→Prop}{w w':World}{bm bm':BM}{bx bx':Boxes}
theorem ZjU.le {nm ver:Nat}{Q Q':Box→Prop}(h:ZjU bx nm ver Q) (hr:ZaX bm bx bm' bx') (hq:∀ b b',Q b→b'.e=b.e→b'.row=b.row→bm' nm=bm nm→Q' b'):ZjU bx' nm ver Q' := by
 obtain⟨b,h1,h2,h3⟩:=h;obtain⟨b',k1,k2,k3⟩:=hr nm b h1;refine⟨b',k1,Nat.le_trans h2 k2,fun hv=>?_⟩;obtain⟨e1,e2,e3⟩:=k3 (by omega);exact hq b b' (h3 (by omega)) e1 e2 e3
theorem ZW.mono {c:Cell}{v:Value}(h:ZW S w bm bx c v) (hS:∀ b o,S b o→S' b o) (hw:∀ b o,S b o→w'.cell? ⟨b,o,none⟩=w.cell? ⟨b,o,none⟩) (hr:ZaX bm bx bm' bx'):ZW S' w' bm' bx' c v:=by
 cases h with
 | pure h=>exact .pure (h.mono hS hw)
 | ms nm ver i n e x c hm h1 h2 h3 h4=>exact .ms nm ver i n e x c hm h1 h2 h3 (h4.le hr fun b b' hq he hw hb=>⟨he.trans hq.1,hw.trans hq.2.1,by unfold Loc; rw[hb]; exact hq.2.2⟩)
 | fv nm ver i n e x c hm h1 h2 h3 h4=>exact .fv nm ver i n e x c hm h1 h2 h3 (h4.le hr fun b b' hq he _ hb h0=>by obtain⟨k,C,h5,h6⟩:=hq h0; exact⟨k,C,hb.trans h5,h6⟩)
 | bad h=>exact .bad h
 | mp nm ver k hm h=>exact .mp nm ver k hm (h.le hr fun b b' hq _ _ hb=>by rw[hb]; exact hq)
theorem ZW.one {c:Cell}{v:Value}(h:ZW S w bm bx c v):v.oneCell'=true:=by
 cases h with
 | pure h=>exact h.one
 | ms=>rfl
 | fv=>rfl
 | bad h=>exact h
 | mp=>rfl
theorem ZW.pureC {c:Cell}{v:Value}(h:ZW S w bm bx c v) (hp:c.pureB=true):Yn S w c v:=by
 cases h with
 | pure h=>exact h
 | _=>simp[Cell.pureB] at hp
theorem Zd8.mono {p:PV}{v:Value}(h:Zd8 S w bm bx p v) (hS:∀ b o,S b o→S' b o) (hw:∀ b o,S b o→w'.cell? ⟨b,o,none⟩=w.cell? ⟨b,o,none⟩) (hr:ZaX bm bx bm' bx'):Zd8 S' w' bm' bx' p v:=by
 cases h with
 | one h=>exact .one (h.mono hS hw hr)
 | agg h=>exact .agg (Zk.mono h fun _ _ h=>h.mono hS hw hr)
 | ref b o vs h hs hc =>
  refine .ref b o vs (Zk.mono h fun _ _ h=>h.mono hS hw) (fun j hj=>hS _ _ (hs j hj)) (fun j u hu=>?_);have hj:j<vs.length:=(List.getElem?_eq_some_iff.1 hu).1;exact(hw _ _ (hs j hj)).trans (hc j u hu)
 | ptr nm ver i off e k hm h=>exact .ptr nm ver i off e k hm (h.le hr fun b b' hq he _ hb=>⟨hq.1.imp id fun h=>he.trans h,by rw[hb]; exact hq.2⟩)
 | fn f=>exact .fn f
theorem ZaK.mono {p:PV}{v:Value}(h:ZaK S w bm bx p v) (hS:∀ b o,S b o→S' b o) (hw:∀ b o,S b o→w'.cell? ⟨b,o,none⟩=w.cell? ⟨b,o,none⟩) (hr:ZaX bm bx bm' bx'):ZaK S' w' bm' bx' p v:=by
 cases h with
 | undef=>exact .undef _
 | skip=>exact .skip
 | one h=>exact .one (h.mono hS hw hr)
 | agg h=>exact .agg (Zk.mono h fun _ _ h=>h.mono hS hw hr)
 | ref b o vs h hs hc =>
  refine .ref b o vs (Zk.mono h fun _ _ h=>h.mono hS hw) (fun j hj=>hS _ _ (hs j hj)) (fun j u hu=>?_);have hj:j<vs.length:=(List.getElem?_eq_some_iff.1 hu).1;exact(hw _ _ (hs j hj)).trans (hc j u hu)
 | ptr nm ver i off e k hm h=>exact .ptr nm ver i off e k hm (h.le hr fun b b' hq he _ hb=>⟨hq.1.imp id fun h=>he.trans h,by rw[hb]; exact hq.2⟩)
 | fn f=>exact .fn f
 | clo h=>exact .clo (Zk.mono h fun _ _ h=>h.mono hS hw hr)
theorem X9.mono {p:PV}{v:Value}(h:X9 S w bm bx p v) (hS:∀ b o,S b o→S' b o) (hw:∀ b o,S b o→w'.cell? ⟨b,o,none⟩=w.cell? ⟨b,o,none⟩) (hr:ZaX bm bx bm' bx'):X9 S' w' bm' bx' p v:=by
 cases h with
 | base h=>exact .base (h.mono hS hw hr)
 | tup h=>exact .tup (Zk.mono h fun _ _ h=>h.mono hS hw hr)
end
def Zcm (w:World) (b o:Nat) (vs:List Value):Prop:=∀ (j:Nat) u,vs[j]? = some u→w.cell? ⟨b,o+j,none⟩=some u
def Zj3 (G:Glob) (S:Nat→Nat→Prop) (w:World):Prop:=∀ g cs,G g=some cs→∃ vs:List Value,ZU S w cs vs∧(∀ j,j<vs.length→S g j)∧Zcm w g 0 vs
theorem Zj3.mono {G:Glob}{S S':Nat→Nat→Prop}{w w':World}(h:Zj3 G S w) (hS:∀ b o,S b o→S' b o) (hw:∀ b o,S b o→w'.cell? ⟨b,o,none⟩=w.cell? ⟨b,o,none⟩):Zj3 G S' w' := by
 intro g cs hg;obtain⟨vs,h1,h2,h3⟩:=h g cs hg;refine⟨vs,Zk.mono h1 fun _ _ h=>h.mono hS hw,fun j hj=>hS _ _ (h2 j hj),fun j u hu=>?_⟩;have hj:j<vs.length:=(List.getElem?_eq_some_iff.1 hu).1;rw[← h3 j u hu,Nat.zero_add];exact hw _ _ (h2 j hj)
def Zcn (a:Bool) (v:Value) (xs:List Value):Prop:=if a then v = .agg xs.toArray else xs=[v]
def ZjV (S:Nat→Nat→Prop) (w:World) (e:Nat) (h l:List Cell) (x:MapEntry):Prop :=
 ∃ kx vx,Zcn (e / 2 % 2 == 1) x.key kx∧Zcn (e % 2 == 1) x.val vx∧ZU S w l (kx++vx)∧kKind h (l.take h.length)=true∧kx.length=h.length∧vx.length=e / 4
def Zzk (S:Nat→Nat→Prop) (w:World) (k:Nat) (b:Box):Prop :=
 ∃ es clock h ls,w.heap[k]? = some (.map es clock)∧b.els=h :: ls∧Yd h=true∧b.frz=false∧Zk (ZjV S w b.e h) ls es.toList
def Zw4 (S:Nat→Nat→Prop) (w:World) (bm:BM) (bx:Boxes) (k C:Nat) (b:Box):Prop :=
 ∃ arr T,w.heap[k]? = some (.cells arr T (0,0))∧C * b.e≤arr.size∧∀ (i:Nat) c v,b.els.flatten[i]? = some c→arr[i]? = some v→ZW S w bm bx c v
def Zj4 (nm:Nat):Prop:=1000000≤nm∧nm<2000000
structure ZjW (S:Nat→Nat→Prop) (w:World) (bm:BM) (bx:Boxes) (B:Nat) (ks:List Nat) (nm k C:Nat) (b:Box):Prop where
 base:(¬ Zj4 nm∧(B≤k∨(k∈ks∧ZB nm=false)))∨(Zj4 nm∧ks[nm-1000000]? = some k)
 blk0:(ZB nm=false→Zw4 S w bm bx k C b)∧(ZB nm=true→Zzk S w k b)
 room0:ZB nm=false→b.els.length≤C
 cap:C≤maxLen
 free:∀ o,S k o→b.frz=true∧o<b.els.flatten.length
 held:b.frz=true→∀ o,o<b.els.flatten.length→S k o
 one:b.row=false→C=1
theorem ZjW.blk {S:Nat→Nat→Prop}{w:World}{bm:BM}{bx:Boxes}{B:Nat}{ks:List Nat}{nm k C:Nat}{b:Box}(h:ZjW S w bm bx B ks nm k C b) (hm:ZB nm=false):Zw4 S w bm bx k C b:=h.blk0.1 hm
theorem ZjW.room {S:Nat→Nat→Prop}{w:World}{bm:BM}{bx:Boxes}{B:Nat}{ks:List Nat}{nm k C:Nat}{b:Box}(h:ZjW S w bm bx B ks nm k C b) (hm:ZB nm=false):b.els.length≤C:=h.room0 hm
theorem Zdn {nm:Nat}(h:nm<1000000000000):ZB nm=false:=by simp[ZB]; omega
theorem ZjW.base' {S:Nat→Nat→Prop}{w:World}{bm:BM}{bx:Boxes}{B:Nat}{ks:List Nat}{nm k C:Nat}{b:Box}(h:ZjW S w bm bx B ks nm k C b):B≤k∨(k∈ks∧ZB nm=false):=by
 rcases h.base with h | h
 ·exact h.2
 ·exact .inr ⟨List.mem_of_getElem? h.2,Zdn (by have:=h.1.2; omega)⟩
theorem ZcA {nm:Nat}(h:okN nm=true):¬ Zj4 nm:=by
 simp[okN] at h
 rintro⟨h1,h2⟩
 omega
theorem ZbO {nm:Nat}(h:okN nm=true):ZB nm=false:=Zdn (by simp[okN] at h; omega)
theorem Zug {nm:Nat}(h:nm<1000000):¬ Zj4 nm:=fun hp=>by have:=hp.1; omega
theorem Zw6 {nm:Nat}(h:ZB nm=true):¬ Zj4 nm:=fun hp=>by simp[ZB] at h; have:=hp.2; omega
def Zmo (S:Nat→Nat→Prop) (w:World) (bm:BM) (bx:Boxes) (B:Nat) (ks:List Nat) (nm:Nat) (b:Box):Prop :=
 (ZB nm=false→∀ l∈b.els,l.length=b.e)∧(b.frz=true→ZH b.els=true)∧match bm nm with
 | none=>b.els=[]∧b.row=true∧ZB nm=false∧(Zj4 nm→∃ k,ks[nm-1000000]? = some k∧B≤k)
 | some (k,C)=>ZjW S w bm bx B ks nm k C b
structure XE (B:Nat) (ks:List Nat) (w w':World):Prop where
 os:w'.os=w.os
 tape:w'.tape=w.tape
 output:w'.output=w.output
 size:w.heap.size≤w'.heap.size
 block:∀ b,b<B→b ∉ ks→w'.heap[b]? = w.heap[b]?
 sz:∀ b arr T,b∈ks→w.heap[b]? = some (.cells arr T (0,0))→∃ arr' T',w'.heap[b]? = some (.cells arr' T' (0,0))∧arr.size≤arr'.size
theorem XE.refl (B:Nat) (ks:List Nat) (w:World):XE B ks w w:=⟨rfl,rfl,rfl,Nat.le_refl _,fun _ _ _=>rfl,fun _ arr T _ h=>⟨arr,T,h,Nat.le_refl _⟩⟩
theorem XE.trans {B:Nat}{ks:List Nat}{w w' w'':World}(h:XE B ks w w') (h':XE B ks w' w''):XE B ks w w'' :=
 ⟨h'.os.trans h.os,h'.tape.trans h.tape,h'.output.trans h.output,Nat.le_trans h.size h'.size,fun b hb hk=>(h'.block b hb hk).trans (h.block b hb hk),fun b arr T hk ha=>by
  obtain⟨a1,T1,h1,h2⟩:=h.sz b arr T hk ha;obtain⟨a2,T2,h3,h4⟩:=h'.sz b a1 T1 hk h1
  exact⟨a2,T2,h3,Nat.le_trans h2 h4⟩⟩
theorem XE.drew {B:Nat}{ks:List Nat}{w w':World}(h:XE B ks w w'):XE B ks w w'.drew:=⟨h.os,h.tape,h.output,h.size,h.block,h.sz⟩
structure Zl (G:Glob) (B:Nat) (ks:List Nat) (w0:World) (S0 S:Nat→Nat→Prop) (bm:BM) (st:ASt) (a:Act) (w:World):Prop where
 dfr:a.defers=[]
 size:a.tmps.size=st.env.length
 slots:∀ (i:Nat) p v,st.env[i]? = some p→a.tmps[i]? = some v→X9 S w bm st.boxes p v
 boxes:∀ (nm:Nat) b,getB st.boxes nm=some b→Zmo S w bm st.boxes B ks nm b
 inj:∀ nm nm' b b' k C C',getB st.boxes nm=some b→getB st.boxes nm'=some b'→bm nm=some (k,C)→bm nm'=some (k,C')→nm=nm'
 below:XE B ks w0 w
 base:B≤w.heap.size
 mono:∀ b o,S0 b o→S b o
 fresh:∀ b o,S b o→S0 b o∨B≤b∨b∈ks
 slt:∀ b o,S b o→b<w.heap.size
 glob:Zj3 G S w
 ksin:∀ k,k∈ks→True
def Sim (G:Glob) (B:Nat) (ks:List Nat) (w0:World) (S0:Nat→Nat→Prop) (st:ASt) (a:Act) (w:World):Prop:=∃ S bm,Zl G B ks w0 S0 S bm st a w
theorem Zaa {w:World}{b:Nat}{x:Obj}(h:w.heap[b]? = some x):b<w.heap.size:=by
 rcases Nat.lt_or_ge b w.heap.size with h' | h'
 ·exact h'
 ·rw[Array.getElem?_eq_none h'] at h; cases h
theorem Zm {α:Type}{l:List α}{n:Nat}{x:α}(h:l[n]? = some x):n<l.length:=(List.getElem?_eq_some_iff.1 h).1
section
variable {G:Glob}{B:Nat}{ks:List Nat}{w0:World}{S0 S S':Nat→Nat→Prop}{bm bm':BM}{st:ASt}{bx':Boxes}{a:Act}{w w':World}
theorem Zmo.lt {nm k C:Nat}{b:Box}{bx:Boxes}(h:Zmo S w bm bx B ks nm b) (hk:bm nm=some (k,C)):k<w.heap.size:=by
 obtain⟨_,_,h⟩:=h;rw[hk] at h;cases hm:ZB nm with
 | false=>obtain⟨arr,T,h1,_⟩:=h.blk0.1 hm; exact Zaa h1
 | true=>obtain⟨es,c,_,_,h1,_⟩:=h.blk0.2 hm; exact Zaa h1
theorem Zmo.els {nm:Nat}{b:Box}{bx:Boxes}(h:Zmo S w bm bx B ks nm b) (hm:ZB nm=false):∀ l∈b.els,l.length=b.e:=h.1 hm
theorem ZjV.mono {e:Nat}{hd l:List Cell}{x:MapEntry}(h:ZjV S w e hd l x) (hS:∀ b o,S b o→S' b o) (hw:∀ b o,S b o→w'.cell? ⟨b,o,none⟩=w.cell? ⟨b,o,none⟩):ZjV S' w' e hd l x:=by
 obtain⟨kx,vx,h1,h2,h3,h4⟩:=h;exact⟨kx,vx,h1,h2,Zk.mono h3 fun _ _ h=>h.mono hS hw,h4⟩
theorem Zl.change (h:Zl G B ks w0 S0 S bm st a w) (hr:ZaX bm st.boxes bm' bx') (hS:∀ b o,S b o→S' b o) (hw:∀ b o,S b o→w'.cell? ⟨b,o,none⟩=w.cell? ⟨b,o,none⟩)
  (hk:XE B ks w w') (hfresh:∀ b o,S' b o→S b o∨B≤b∨b∈ks) (hslt:∀ b o,S' b o→b<w'.heap.size)
  (hbx:∀ nm b,getB bx' nm=some b→(getB st.boxes nm=some b∧bm' nm=bm nm∧∀ k C,bm nm=some (k,C)→w'.heap[k]? = w.heap[k]?∧∀ o,S' k o→S k o)∨Zmo S' w' bm' bx' B ks nm b)
  (hinj:∀ nm nm' b b' k C C',getB bx' nm=some b→getB bx' nm'=some b'→bm' nm=some (k,C)→bm' nm'=some (k,C')→nm=nm') :
  Zl G B ks w0 S0 S' bm' ⟨st.env,bx'⟩ a w' := by
 refine⟨h.dfr,h.size,fun i p v hp hv=>(h.slots i p v hp hv).mono hS hw hr,fun nm b hb=>?_,hinj,h.below.trans hk,Nat.le_trans h.base hk.size,fun b o hs=>hS _ _ (h.mono b o hs),fun b o hs=>?_,hslt,h.glob.mono hS hw,h.ksin⟩
 ·rcases hbx nm b hb with ⟨h1,h2,h3⟩ | h1
  ·obtain⟨k1,k1',k2⟩:=h.boxes nm b h1
   refine⟨k1,k1',?_⟩;rw[h2];cases hbm:bm nm with
   | none=>rw[hbm] at k2; exact k2
   | some kc =>
    obtain⟨k,C⟩:=kc;rw[hbm] at k2;obtain⟨e1,e2⟩:=h3 k C hbm;refine⟨k2.base,⟨fun hm=>?_,fun hm=>?_⟩,k2.room0,k2.cap,fun o hs=>k2.free o (e2 o hs),fun hf o ho=>hS _ _ (k2.held hf o ho),k2.one⟩
    ·obtain⟨arr,T,b1,b2,b3⟩:=k2.blk hm
     exact⟨arr,T,e1.trans b1,b2,fun i c v hc hv=>(b3 i c v hc hv).mono hS hw hr⟩
    ·obtain⟨es,cl,hd,ls,b1,b2,b3,b5,b4⟩:=k2.blk0.2 hm
     exact⟨es,cl,hd,ls,e1.trans b1,b2,b3,b5,Zk.mono b4 fun _ _ h=>h.mono hS hw⟩
  ·exact h1
 ·rcases hfresh b o hs with h' | h'
  ·exact h.fresh _ _ h'
  ·exact .inr h'
theorem Zl.box1 (h:Zl G B ks w0 S0 S bm st a w) (nm:Nat) (b':Box) (k C:Nat)
  (hver:∀ b,getB st.boxes nm=some b→b.ver≤b'.ver∧(b'.ver=b.ver→b'.e=b.e∧b'.row=b.row∧some (k,C)=bm nm))
  (hown:w.heap.size≤k∨∃ C0 b,bm nm=some (k,C0)∧getB st.boxes nm=some b)
  (hkeep:w'.os=w.os∧w'.tape=w.tape∧w'.output=w.output∧w.heap.size≤w'.heap.size∧(∀ arr T,w.heap[k]? = some (.cells arr T (0,0))→∃ arr' T',w'.heap[k]? = some (.cells arr' T' (0,0))∧arr.size≤arr'.size)) (hblk:∀ b,b<w.heap.size→b≠k→w'.heap[b]? = w.heap[b]?)
  (hS:∀ b o,S b o→S' b o) (hw:∀ o,S k o→w'.cell? ⟨k,o,none⟩=w.cell? ⟨k,o,none⟩) (hnew:∀ b o,S' b o→S b o∨b=k) (hlt:k<w'.heap.size)
  (hbox:Zmo S' w' (fun m=>if m=nm then some (k,C) else bm m) (setB st.boxes nm b') B ks nm b') :
  Zl G B ks w0 S0 S' (fun m=>if m=nm then some (k,C) else bm m) ⟨st.env,setB st.boxes nm b'⟩ a w' := by
 have hkb:B≤k∨k∈ks:=by
  have:=hbox.2.2;simp only[if_true] at this;exact this.base'.imp id (·.1)
 have hcell:∀ b o,S b o→w'.cell? ⟨b,o,none⟩=w.cell? ⟨b,o,none⟩:=by
  intro b o hs;by_cases hb:b=k
  ·subst hb; exact hw o hs
  ·exact World.cell?_of_block (a:=⟨b,o,none⟩) (hblk b (h.slt _ _ hs) hb)
 have hother:∀ m b C',m≠nm→getB st.boxes m=some b→bm m=some (k,C')→False:=by
  intro m b C' hm hb hbm;rcases hown with h1 | ⟨C0,b0,h1,h2⟩
  ·have:=(h.boxes m b hb).lt hbm; omega
  ·exact hm (h.inj m nm b b0 k C' C0 hb h2 hbm h1)
 refine h.change (fun m b hb=>?_) hS hcell ⟨hkeep.1,hkeep.2.1,hkeep.2.2.1,hkeep.2.2.2.1,fun b hb hk=>?_,fun b arr T hk ha=>?_⟩ (fun b o hs=>?_) (fun b o hs=>?_) (fun m b hb=>?_) (fun m m' b b' k' C1 C2 hb hb' h1 h2=>?_)
 ·by_cases hm:nm=m
  ·subst hm
   exact⟨b',getB_self,(hver b hb).1,fun hv=>by obtain⟨e1,e2,e3⟩:=(hver b hb).2 hv; exact⟨e1,e2,by simpa using e3⟩⟩
  ·exact⟨b,by rw[Xa hm]; exact hb,Nat.le_refl _,fun _=>⟨rfl,rfl,by simp[Ne.symm hm]⟩⟩
 ·refine hblk b (Nat.lt_of_lt_of_le hb h.base) ?_
  rintro rfl
  rcases hkb with h' | h'
  ·omega
  ·exact hk h'
 ·by_cases hb:b=k
  ·subst hb; exact hkeep.2.2.2.2 arr T ha
  ·exact⟨arr,T,(hblk b (Zaa ha) hb).trans ha,Nat.le_refl _⟩
 ·rcases hnew b o hs with h' | rfl
  ·exact .inl h'
  ·exact .inr hkb
 ·rcases hnew b o hs with h' | rfl
  ·exact Nat.lt_of_lt_of_le (h.slt _ _ h') hkeep.2.2.2.1
  ·exact hlt
 ·rw[getB_set] at hb
  split at hb
  ·rename_i hm
   subst hm;simp at hb
   subst hb;exact .inr hbox
  ·rename_i hm
   refine .inl ⟨hb,by simp[Ne.symm hm],fun k2 C2 h2=>⟨hblk k2 ((h.boxes m b hb).lt h2) ?_,fun o hs=>?_⟩⟩
   ·rintro rfl; exact hother m b C2 (Ne.symm hm) hb h2
   ·rcases hnew k2 o hs with h' | rfl
    ·exact h'
    ·exact(hother m b C2 (Ne.symm hm) hb h2).elim
 ·rw[getB_set] at hb hb'
  by_cases hm:nm=m <;> by_cases hm':nm=m'
  ·exact hm.symm.trans hm'
  ·simp only[hm',if_false] at hb'
   simp only[Ne.symm hm',if_false] at h2;subst hm;simp at h1
   obtain⟨rfl,rfl⟩:=h1;exact(hother m' _ C2 (Ne.symm hm') hb' h2).elim
  ·simp only[hm,if_false] at hb
   simp only[Ne.symm hm,if_false] at h1;subst hm';simp at h2
   obtain⟨rfl,rfl⟩:=h2;exact(hother m _ C1 (Ne.symm hm) hb h1).elim
  ·simp only[hm,hm',if_false] at hb hb'
   simp only[Ne.symm hm,Ne.symm hm',if_false] at h1 h2;exact h.inj m m' _ _ k' C1 C2 hb hb' h1 h2
end
structure XF (P:Program) (t:TypeId) (i:TI):Prop where
 zsh:∃ info z,P.info? t=some info∧info.zero=some z∧z.isAgg=i.agg
 ex:∃ info d z,P.info? t=some info∧P.underlying t=some d∧info.zero=some z∧info.size=i.size∧tkind d=i.kind∧zcs z.cells.toList=some i.zero∧info.bytes=i.bytes∧i.flat=(Zc1 P 20 t && !P.eqGuardType P.depth t)
theorem Zn {P:Program}{t:TypeId}{i:TI}(h:Z0 P t=some i):XF P t i:=by
 unfold Z0 at h;split at h
 ·rename_i info d h1 h2
  split at h
  ·rename_i z hz
   split at h
   ·rename_i zs hzs
    split at h <;> simp only[Option.some.injEq,reduceCtorEq] at h
    rename_i hag;subst h;refine⟨⟨info,z,h1,hz,?_⟩,info,d,z,h1,h2,hz,rfl,rfl,hzs,rfl,rfl⟩;rw[hag];unfold TK.agg TI.agg;rfl
   ·simp at h
  ·simp at h
 ·simp at h
section
variable {P:Program}{t:TypeId}{i:TI}
theorem XF.run_size (h:XF P t i) (w:World):(sizeOf t).run P w = .ok i.size w:=by
 obtain⟨info,d,z,h1,h2,h3,h4,h5,h6,h7⟩:=h.ex;simp[sizeOf,typeInfo,h1,h4]
theorem XF.run_agg (h:XF P t i) (w:World):(isAgg t).run P w = .ok i.agg w:=by
 obtain⟨info,d,z,h1,h2,h3,h4,h5,h6,h7⟩:=h.ex;unfold TI.agg;rw[← h5];cases d <;> simp[isAgg,run_underlying h2,tkind]
theorem XF.slice (h:XF P t i){e:TypeId}(hk:i.kind = .slice e):P.underlying t=some (.slice e):=by
 obtain⟨info,d,z,h1,h2,h3,h4,h5,h6,h7⟩:=h.ex;rw[hk] at h5;cases d <;> simp[tkind] at h5
 subst h5; exact h2
theorem XF.array (h:XF P t i){n:Nat}{e:TypeId}(hk:i.kind = .array n e):P.underlying t=some (.array n e):=by
 obtain⟨info,d,z,h1,h2,h3,h4,h5,h6,h7⟩:=h.ex;rw[hk] at h5;cases d <;> simp[tkind] at h5
 obtain⟨rfl,rfl⟩:=h5; exact h2
theorem XF.int (h:XF P t i){k:IntKind}(hk:i.kind = .int k):P.underlying t=some (.int k):=by
 obtain⟨info,d,z,h1,h2,h3,h4,h5,h6,h7⟩:=h.ex;rw[hk] at h5;cases d <;> simp[tkind] at h5
 subst h5; exact h2
theorem XF.str (h:XF P t i) (hk:i.kind = .str):P.underlying t=some .string:=by
 obtain⟨info,d,z,h1,h2,h3,h4,h5,h6,h7⟩:=h.ex;rw[hk] at h5;cases d <;> simp[tkind] at h5
 exact h2
theorem XF.struct (h:XF P t i){fs:List (Nat×TypeId)}(hk:i.kind = .struct fs):∃ fields:Array Field,P.underlying t=some (.struct fields)∧fs=fields.toList.map fun f=>(f.offset,f.type):=by
 obtain⟨info,d,z,h1,h2,h3,h4,h5,h6,h7⟩:=h.ex;rw[hk] at h5;cases d <;> simp[tkind] at h5
 exact⟨_,h2,h5.symm⟩
theorem zcs_vals:∀ {vs:List Value}{zs:List Zc},zcs vs=some zs→vs=zs.map Zc.val
 | [],zs,h=>by simp[zcs] at h; subst h; rfl
 | v :: vs,zs,h=>by
  simp only[zcs] at h;split at h
  ·rename_i z zs' h1 h2
   simp at h
   subst h;simp[Zc.of_val h1,zcs_vals h2]
  ·simp at h
theorem XF.zero (h:XF P t i) (w:World):∃ z,(zeroValue t).run P w = .ok z w∧z.cells.toList=i.zero.map Zc.val:=by
 obtain⟨info,d,z,h1,h2,h3,h4,h5,h6,h7⟩:=h.ex;exact⟨z,by simp[zeroValue,typeInfo,h1,h3],zcs_vals h6⟩
theorem XF.zeroA (h:XF P t i) (w:World):∃ z zx,(zeroValue t).run P w = .ok z w∧Zcn i.agg z zx∧zx=i.zero.map Zc.val:=by
 obtain⟨z,h1,h2⟩:=h.zero w;obtain⟨info,z',g1,g2,g3⟩:=h.zsh
 have hz:z=z' := by
  simp[zeroValue,typeInfo,g1,g2] at h1
  exact h1.symm
 subst hz;refine⟨z,i.zero.map Zc.val,h1,?_,rfl⟩;unfold Zcn;rw[← g3,← h2];cases z <;> simp[Value.isAgg,Value.cells]
end
theorem Zjn (S:Nat→Nat→Prop) (w:World):∀ zs:List Zc,ZU S w (zs.map Zc.cell) (zs.map Zc.val)
 | []=>.nil
 | z :: zs=>.cons (by cases z <;> first | exact .v _ rfl (by simp) | exact .nil _) (Zjn S w zs)
theorem ZoR {S:Nat→Nat→Prop}{w:World}{v:Value}{c:Cell}(h:ofCell v=some c):Yn S w c v:=by
 cases v <;> simp only[ofCell] at h
 case int k n=>simp at h; subst h; exact .v _ rfl (by simp)
 case bool b=>simp at h; subst h; exact .v _ rfl (by simp)
 case string s=>simp at h; subst h; exact .v _ rfl (by simp)
 case slice a n c' =>
  cases a with
  | some a=>simp at h
  | none =>
   cases n with
   | succ n=>simp at h
   | zero=>cases c' with
    | succ n=>simp at h
    | zero=>simp at h; subst h; exact .nil _
 all_goals simp at h
theorem Zoa {S:Nat→Nat→Prop}{w:World}:∀ {vs:List Value}{cs:List Cell},ofCells vs=some cs→ZU S w cs vs
 | [],cs,h=>by simp[ofCells] at h; subst h; exact .nil
 | v :: vs,cs,h=>by
  simp only[ofCells] at h;split at h
  ·rename_i h1 h2
   simp at h
   subst h;exact .cons (ZoR h1) (Zoa h2)
  ·simp at h
theorem ZU.toM {S:Nat→Nat→Prop}{w:World}{bm:BM}{bx:Boxes}{cs:List Cell}{vs:List Value}(h:ZU S w cs vs):Zk (ZW S w bm bx) cs vs:=Zk.mono h fun _ _ h=>.pure h
theorem ZrY {S:Nat→Nat→Prop}{w:World}{bm:BM}{bx:Boxes}{v:Value}{p:PV}(h:ofConst v=some p):ZaK S w bm bx p v:=by
 unfold ofConst at h;split at h
 ·rename_i cs
  cases hc:ofCells cs.toList with
  | none=>simp[hc] at h
  | some ds =>
   simp[hc] at h
   subst h;have:=ZaK.agg (ZU.toM (bm:=bm) (bx:=bx) (Zoa (S:=S) (w:=w) hc));simpa using this
 ·injection h with h
  subst h;exact .undef _
 ·cases hc:ofCell v with
  | none=>simp[hc] at h
  | some c=>simp[hc] at h; subst h; exact .one (.pure (ZoR hc))
section
variable {G:Glob}{B:Nat}{ks:List Nat}{w0:World}{S0 S:Nat→Nat→Prop}{bm:BM}{st:ASt}{a:Act}{w:World}
theorem Zl.slot (h:Zl G B ks w0 S0 S bm st a w) (t:Nat):X9 S w bm st.boxes (st.get t) (a.tmps.getD t undef):=by
 unfold ASt.get;by_cases ht:t<st.env.length
 ·have ht':t<a.tmps.size:=by rw[h.size]; exact ht
  have:=h.slots t st.env[t] a.tmps[t] (by simp[ht]) (by simp[ht']);simpa[List.getD,ht,Array.getD,ht'] using this
 ·have:st.env.getD t .undef = .undef:=by simp[List.getD,List.getElem?_eq_none (Nat.le_of_not_lt ht)]
  rw[this];exact .base (.undef _)
theorem Zl.eval (h:Zl G B ks w0 S0 S bm st a w){x:Operand}{p:PV}(hr:rd G st.get x=some p):X9 S w bm st.boxes p (a.eval x):=by
 cases x with
 | tmp t =>
  simp[rd] at hr
  subst hr;exact h.slot t
 | const v =>
  simp only[rd] at hr;exact .base (ZrY hr)
 | global g =>
  simp only[rd] at hr;split at hr <;> simp at hr
  rename_i cs hg;subst hr;obtain⟨vs,h1,h2,h3⟩:=h.glob g cs hg;exact .base (.ref g 0 vs h1 (fun j hj=>by rw[Nat.zero_add]; exact h2 j hj) h3)
 | func f =>
  simp[rd] at hr
  subst hr;exact .base (.fn f)
theorem Zl.evalB (h:Zl G B ks w0 S0 S bm st a w){x:Operand}{p:PV}(hr:rd G st.get x=some p) (hp:∀ ps,p≠.tup ps):ZaK S w bm st.boxes p (a.eval x):=by
 have:=h.eval hr;generalize a.eval x=v at this ⊢;cases this with
 | base h=>exact h
 | tup h=>exact absurd rfl (hp _)
theorem Zl.evalC (h:Zl G B ks w0 S0 S bm st a w){x:Operand}{c:Cell}(hr:rd G st.get x=some (.one c)):ZW S w bm st.boxes c (a.eval x):=by
 have:=h.evalB hr (by simp);generalize a.eval x=v at this ⊢;cases this with
 | one h=>exact h
theorem Zl.evalV (h:Zl G B ks w0 S0 S bm st a w){x:Operand}{u:Value}(hr:rd G st.get x=some (.one (.v u))):a.eval x=u:=by
 have:=(h.evalC hr).pureC rfl;generalize a.eval x=v at this;cases this
 rfl
end
theorem Zcm.drop {w:World}{b o:Nat}{vs:List Value}(h:Zcm w b o vs) (k:Nat):Zcm w b (o+k) (vs.drop k):=by
 intro j u hu;rw[List.getElem?_drop] at hu;rw[Nat.add_assoc];exact h _ _ hu
theorem Zcm.take {w:World}{b o:Nat}{vs:List Value}(h:Zcm w b o vs) (k:Nat):Zcm w b o (vs.take k):=by
 intro j u hu;rw[List.getElem?_take] at hu;split at hu
 ·exact h _ _ hu
 ·simp at hu
theorem Zcm.load {P:Program}{w:World}{b o:Nat}{vs:List Value}(h:Zcm w b o vs):(loadCells ⟨b,o,none⟩ vs.length).run P w = .ok vs.toArray w :=
 run_loadCells_list w ⟨b,o,none⟩ vs fun j u hu=>by rw[Addr.add_lit]; exact h j u hu
theorem ZfD {P:Program}{t:TypeId}{i:TI}(ht:XF P t i){S:Nat→Nat→Prop}{w:World}{bm:BM}{bx:Boxes}{b o:Nat}{cs:List Cell}{vs:List Value}{off:Nat}{p:PV}
  (hr:Zk (ZW S w bm bx) cs vs) (hl:Zcm w b o vs) (hp:ZiO i cs off=some p):∃ v,(loadVar t ⟨b,o+off,none⟩).run P w = .ok v w∧ZaK S w bm bx p v:=by
 unfold ZiO at hp;by_cases hag:i.agg=true
 ·rw[if_pos hag] at hp
  split at hp
  ·rename_i hle
   simp at hp
   subst hp;have hr' := (hr.drop off).take i.size;have hl' := (hl.drop off).take i.size
   have hlen:((vs.drop off).take i.size).length=i.size:=by
    rw[← hr'.length];simp
    omega
   have hrun:=hl'.load (P:=P);rw[hlen] at hrun;refine⟨.agg ((vs.drop off).take i.size).toArray,?_,.agg hr'⟩;simp[loadVar,ht.run_agg,ht.run_size,hag,hrun]
  ·simp at hp
 ·rw[if_neg hag] at hp
  cases hc:cs[off]? with
  | none=>simp[hc] at hp
  | some c =>
   simp[hc] at hp
   subst hp;obtain⟨v,hv,hcv⟩:=hr.get hc;refine⟨v,?_,.one hcv⟩;simp only[Bool.not_eq_true] at hag;simp[loadVar,ht.run_agg,hag,hl _ _ hv]
theorem ZqP {P:Program}{t:TypeId}{i:TI}(ht:XF P t i){S:Nat→Nat→Prop}{w:World}{bm:BM}{bx:Boxes}{cs:List Cell}{vs:List Value}{off:Nat}{p:PV}
  (hr:Zk (ZW S w bm bx) cs vs) (hp:ZiO i cs off=some p):∃ v,(part t vs.toArray off).run P w = .ok v w∧ZaK S w bm bx p v:=by
 unfold ZiO at hp;by_cases hag:i.agg=true
 ·rw[if_pos hag] at hp
  split at hp
  ·rename_i hle
   simp at hp
   subst hp;have hr' := (hr.drop off).take i.size;refine⟨.agg ((vs.drop off).take i.size).toArray,?_,.agg hr'⟩;simp[part,ht.run_agg,ht.run_size,hag]
  ·simp at hp
 ·rw[if_neg hag] at hp
  cases hc:cs[off]? with
  | none=>simp[hc] at hp
  | some c =>
   simp[hc] at hp
   subst hp;obtain⟨v,hv,hcv⟩:=hr.get hc;refine⟨v,?_,.one hcv⟩;simp only[Bool.not_eq_true] at hag;simp[part,ht.run_agg,hag,hv]
section
variable {P:Program}{w:World}
theorem ZpO {s:Sem Value}{v:Value}(h:pureOf s=some v):s.run P w = .ok v w:=by
 unfold pureOf at h;split at h <;> simp at h
 subst h;rfl
theorem ZrZ {op:BinOp}{a b:ByteArray}{r:Value}(h:pureOf (Op.stringOp op a b)=some r):r.oneCell'=true∧∀ x n c,r≠.slice x n c:=by
 cases op
 case add =>
  simp only[Op.stringOp] at h;split at h
  ·simp[pureOf,unsupported] at h
  ·obtain rfl:_=r:=Option.some.inj h
   exact⟨rfl,by simp⟩
 case eql=>obtain rfl:_=r:=Option.some.inj h; exact⟨rfl,by simp⟩
 case neq=>obtain rfl:_=r:=Option.some.inj h; exact⟨rfl,by simp⟩
 case lss=>obtain rfl:_=r:=Option.some.inj h; exact⟨rfl,by simp⟩
 case leq=>obtain rfl:_=r:=Option.some.inj h; exact⟨rfl,by simp⟩
 case gtr=>obtain rfl:_=r:=Option.some.inj h; exact⟨rfl,by simp⟩
 case geq=>obtain rfl:_=r:=Option.some.inj h; exact⟨rfl,by simp⟩
 all_goals simp[pureOf,Op.stringOp,stuck] at h
theorem Zuh {op:BinOp}{t:TypeId}{k:IntKind}{a b:Int}{r:Value}(h:ZoP op k a b=some r) :
  (binOp op t (.int k a) (.int k b)).run P w = .ok r w∧∃ c,r=c∧r.oneCell'=true∧∀ x n c,r≠.slice x n c:=by
 cases op <;> simp only[ZoP] at h
 case quo=>split at h <;> simp at h; subst h; rename_i hb; simp[binOp,Op.intDiv,hb,Value.oneCell']
 case and=>obtain rfl:_=r:=Option.some.inj h; simp[binOp,Op.intBits,Value.oneCell']
 case or=>obtain rfl:_=r:=Option.some.inj h; simp[binOp,Op.intBits,Value.oneCell']
 case xor=>obtain rfl:_=r:=Option.some.inj h; simp[binOp,Op.intBits,Value.oneCell']
 case andNot=>obtain rfl:_=r:=Option.some.inj h; simp[binOp,Op.intBits,Value.oneCell']
 case rem=>split at h <;> simp at h; subst h; rename_i hb; simp[binOp,Op.intDiv,hb,Value.oneCell']
 all_goals (first | (simp at h; subst h; simp[binOp,Op.intArith,Op.intCmp,Value.oneCell']; done) | (simp at h; done))
theorem Zob {op:BinOp}{t:TypeId}{k k':IntKind}{a b:Int}{r:Value}(h:ZkZ op k a b=some r) :
  (Op.shift op k a k' b).run P w = .ok r w∧r.oneCell'=true∧∀ x n c,r≠.slice x n c:=by
 unfold ZkZ at h;split at h
 ·simp at h
 ·rename_i hb
  cases op <;> simp at h
  all_goals (subst h; simp[Op.shift,hb,Value.oneCell'])
theorem ZlK {op:BinOp}{t:TypeId}{x y:Operand}{k k':IntKind}{a b:Int}:(eqGuard op t x y (.int k a) (.int k' b)).run P w = .ok () w:=by
 unfold eqGuard;cases op <;> rfl
theorem Zyh {S:Nat→Nat→Prop}{op:BinOp}{t:TypeId}{ox oy:Operand}{x y:Cell}{u v r:Value}{bm:BM}{bx:Boxes}(hxm:ZW S w bm bx x u) (hym:ZW S w bm bx y v) (h:bin op x y=some r) :
  (do eqGuard op t ox oy u v; binOp op t u v:Sem Value).run P w = .ok r w∧r.oneCell'=true∧∀ x n c,r≠.slice x n c:=by
 have hp:x.pureB=true∧y.pureB=true:=by
  unfold bin at h;split at h <;> first | exact⟨rfl,rfl⟩ | simp at h
 have hx:=hxm.pureC hp.1;have hy:=hym.pureC hp.2;clear hxm hym hp;unfold bin at h;split at h
 ·cases hx; cases hy
  have hs:=fun k'=>Zob (P:=P) (w:=w) (t:=t) (k' := k') h
  refine⟨?_,(hs .i64).2⟩;simp[ZlK,binOp,(hs _).1]
 ·cases hx; cases hy
  have hs:=fun k'=>Zob (P:=P) (w:=w) (t:=t) (k' := k') h
  refine⟨?_,(hs .i64).2⟩;simp[ZlK,binOp,(hs _).1]
 ·cases hx; cases hy
  split at h
  ·rename_i hk
   subst hk;obtain⟨h1,_,_,h2⟩:=Zuh (P:=P) (w:=w) (t:=t) h;refine⟨?_,h2⟩;simp[ZlK,h1]
  ·simp at h
 ·cases hx; cases hy
  rename_i a b _ _ _ _;refine⟨?_,ZrZ h⟩;have h1:=ZpO (P:=P) (w:=w) h;have hg:(eqGuard op t ox oy (.string a) (.string b)).run P w = .ok () w:=by unfold eqGuard; cases op <;> rfl
  have hb:binOp op t (.string a) (.string b)=Op.stringOp op a b:=by cases op <;> rfl
  simp[hg,hb,h1]
 ·simp at h
end
theorem Zb6 {S:Nat→Nat→Prop}{w:World}{bm:BM}{bx:Boxes}{q:PV}{n:Nat}{v:Value}(h:idxOf q=some n) (hv:X9 S w bm bx q v):∃ k,v = .int k n:=by
 unfold idxOf at h;split at h
 ·split at h <;> simp at h
  rename_i k m h0;subst h;cases hv with
  | base hv=>cases hv with
   | one hv=>have hv:=hv.pureC rfl; cases hv; exact⟨k,by rw[Int.toNat_of_nonneg h0]⟩
 ·simp at h
theorem Zsq {R:Cell→Value→Prop}{place:Nat→Option (Nat×Nat)}:∀ {ps:List (Nat×PV)}{vs:List (Nat×Value)}{cells:List Cell}{cv:List Value}{r:List Cell},
  Zk (fun(p:Nat×PV) (v:Nat×Value)=>p.1=v.1∧∀ cs,p.2.cells=some cs→Zk R cs v.2.cells.toList) ps vs→Zk R cells cv→ZkD place cells ps=some r →
  ∃ rv:List Value,Instr.fill place cv.toArray vs=some rv.toArray∧Zk R r rv:=by
 intro ps;induction ps with
 | nil =>
  intro vs cells cv r h hc hf;cases h
  simp[ZkD] at hf
  subst hf;exact⟨cv,rfl,hc⟩
 | cons p ps ih =>
  intro vs cells cv r h hc hf;cases h with
  | @cons _ v _ vs hp hps =>
   obtain⟨i,p⟩:=p;obtain⟨j,v⟩:=v;obtain⟨rfl,hp⟩:=hp;simp only[ZkD] at hf;split at hf
   ·rename_i off size ds hpl hds
    split at hf
    ·rename_i hle
     obtain⟨h1,h2⟩:=hle;have hv:=hp ds hds;simp only at hv hpl;have hvl:v.cells.size=size:=by rw[← Array.length_toList,← hv.length,h1]
     have hcl:=hc.length
     have hnew:Zk R (ZE cells off ds) (cv.take off++v.cells.toList++cv.drop (off+v.cells.size)):=by
      unfold ZE;rw[show v.cells.size=ds.length by rw[hvl,h1]];exact((hc.take _).append hv).append (hc.drop _)
     obtain⟨rv,hrv,hr⟩:=ih hps hnew hf;refine⟨rv,?_,hr⟩;simp only[Instr.fill,hpl];rw[if_neg (by simp[hvl]; omega)];rw[← hrv]
     congr 1
     apply Array.ext'
     have key:∀ (l:List Value) (k:Nat) (arr:Array Value),off+k+l.length≤arr.size →
       ((l.zipIdx k).foldl (fun(cs:Array Value) (x:Value×Nat)=>cs.setIfInBounds (off+x.2) x.1) arr).toList=arr.toList.take (off+k)++l++arr.toList.drop (off+k+l.length):=by
      intro l;induction l with
      | nil=>intro k arr _; simp
      | cons x l ihl =>
       intro k arr hk;simp only[List.length_cons] at hk;rw[List.zipIdx_cons,List.foldl_cons,ihl (k+1) _ (by simp; omega)];simp only[Array.toList_setIfInBounds,List.length_cons];have e:=list_seg_step arr.toList (off+k) x l (by simp; omega);simpa[Nat.add_assoc] using e
     have:=key v.cells.toList 0 cv.toArray (by simp; omega);simp only[Nat.add_zero] at this;rw[← Array.foldl_toList,Array.toList_zipIdx,this];simp
    ·simp at hf
   ·simp at hf
section
variable {P:Program}{tt:TT}{T:Tab}{G:Glob}{B:Nat}{ks:List Nat}{w0:World}{S0 S:Nat→Nat→Prop}{bm:BM}{st:ASt}{a:Act}{w:World}
theorem Zmp (h:Zl G B ks w0 S0 S bm st a w):∀ {l:List (Nat×Operand)}{ps:List (Nat×PV)},Zgc G st.get l=some ps →
  Zk (fun(p:Nat×PV) (v:Nat×Value)=>p.1=v.1∧∀ cs,p.2.cells=some cs→Zk (ZW S w bm st.boxes) cs v.2.cells.toList) ps (l.map fun x=>(x.1,a.eval x.2))
 | [],ps,hr=>by simp[Zgc] at hr; subst hr; exact .nil
 | (i,x) :: l,ps,hr=>by
  simp only[Zgc] at hr;split at hr
  ·rename_i p ps' hp hps
   simp at hr
   subst hr;refine .cons ⟨rfl,fun cs hcs=>?_⟩ (Zmp h hps);simp only at hcs ⊢;cases p with
   | one c =>
    simp[PV.cells] at hcs
    subst hcs;have hc:=h.evalC hp;have h1:=hc.one;generalize a.eval x=v at hc h1 ⊢;have:v.cells.toList=[v]:=by cases v <;> simp_all [Value.cells,Value.oneCell']
    rw[this];exact .cons hc .nil
   | agg ds =>
    simp[PV.cells] at hcs
    subst hcs;have hb:=h.evalB hp (by simp);generalize a.eval x=v at hb ⊢;cases hb with
    | agg hb=>simpa[Value.cells] using hb
   | _=>simp[PV.cells] at hcs
  ·simp at hr
theorem Zm5 (h:Zl G B ks w0 S0 S bm st a w):∀ {l:List Operand}{ps:List PV},rds G st.get l=some ps→Zk (X9 S w bm st.boxes) ps (l.map a.eval)
 | [],ps,hr=>by simp[rds] at hr; subst hr; exact .nil
 | x :: l,ps,hr=>by
  simp only[rds] at hr;split at hr
  ·rename_i p ps' hp hps
   simp at hr
   subst hr;exact .cons (h.eval hp) (Zm5 h hps)
  ·simp at hr
theorem XS (htt:∀ t i,tt t=some i→Z0 P t=some i){t:TypeId}{s:Nat}(h:ZcQ tt t=some s):∃ i,XF P t i∧i.size=s:=by
 unfold ZcQ at h;split at h
 ·rename_i i hi
  simp at h
  exact⟨i,Zn (htt _ _ hi),h⟩
 ·simp at h
end
def valEq:Value→Value→Option Bool
 | .int k a,.int k' b=>if k=k' then some (a == b) else none
 | _,_=>none
def valsEq:List Value→List Value→Option Bool
 | [],[]=>some true
 | x :: xs,y :: ys=>match valEq x y,valsEq xs ys with | some a,some b=>some (a && b) | _,_=>none
 | _,_=>none
theorem Zs7 {S:Nat→Nat→Prop}{w:World}{bm:BM}{bx:Boxes}{c d:Cell}{x y:Value}{b:Bool}(hx:ZW S w bm bx c x) (hy:ZW S w bm bx d y) (h:cellEq c d=some b):valEq x y=some b:=by
 unfold cellEq at h;split at h
 ·have hx:=hx.pureC rfl
  have hy:=hy.pureC rfl;cases hx
  cases hy
  exact h
 ·simp at h
theorem Zm6 {S:Nat→Nat→Prop}{w:World}{bm:BM}{bx:Boxes}:∀ {cs ds:List Cell}{xs ys:List Value}{b:Bool},Zk (ZW S w bm bx) cs xs→Zk (ZW S w bm bx) ds ys→cellsEq cs ds=some b→valsEq xs ys=some b
 | [],[],xs,ys,b,hx,hy,h=>by cases hx; cases hy; exact h
 | [],_ :: _,xs,ys,b,hx,hy,h=>by simp[cellsEq] at h
 | _ :: _,[],xs,ys,b,hx,hy,h=>by simp[cellsEq] at h
 | c :: cs,d :: ds,xs,ys,b,hx,hy,h=>by
  cases hx with
  | cons hx hxs=>cases hy with
   | cons hy hys =>
    simp only[cellsEq] at h;split at h <;> simp at h
    rename_i b1 b2 h1 h2;subst h;simp[valsEq,Zs7 hx hy h1,Zm6 hxs hys h2]
theorem valsEq_split:∀ {xs ys:List Value}{b:Bool}(n:Nat),valsEq xs ys=some b→∃ b1 b2,valsEq (xs.take n) (ys.take n)=some b1∧valsEq (xs.drop n) (ys.drop n)=some b2∧b=(b1 && b2)
 | [],[],b,n,h=>by simp[valsEq] at h; subst h; exact⟨true,true,by simp[valsEq],by simp[valsEq],rfl⟩
 | [],_ :: _,b,n,h=>by simp[valsEq] at h
 | _ :: _,[],b,n,h=>by simp[valsEq] at h
 | x :: xs,y :: ys,b,0,h=>⟨true,b,by simp[valsEq],h,by simp⟩
 | x :: xs,y :: ys,b,n+1,h=>by
  simp only[valsEq] at h;split at h <;> simp at h
  rename_i a1 a2 h1 h2;subst h;obtain⟨b1,b2,e1,e2,rfl⟩:=valsEq_split n h2;exact⟨a1 && b1,b2,by simp[valsEq,h1,e1],by simpa using e2,by simp[Bool.and_assoc]⟩
theorem valsEq_len:∀ {xs ys:List Value}{b:Bool},valsEq xs ys=some b→xs.length=ys.length
 | [],[],_,_=>rfl
 | [],_ :: _,b,h=>by simp[valsEq] at h
 | _ :: _,[],b,h=>by simp[valsEq] at h
 | x :: xs,y :: ys,b,h=>by
  simp only[valsEq] at h;split at h <;> simp at h
  rename_i h2;simp[valsEq_len h2]
def Za5 (P:Program) (t:TypeId):Bool:=match P.underlying t with | some (.struct _) | some (.array ..)=>true | _=>false
def mkV (P:Program) (t:TypeId) (xs:List Value):Value:=if Za5 P t then .agg xs.toArray else xs.getD 0 undef
theorem Zgf {P:Program}{w:World}{t:TypeId}{xs:List Value}{off:Nat}(hi:(P.info? t).isSome=true) (hu:(P.underlying t).isSome=true) (hle:off+P.cellsOf t≤xs.length) (h1:Za5 P t=false→P.cellsOf t=1) :
  (part t xs.toArray off).run P w = .ok (mkV P t ((xs.drop off).take (P.cellsOf t))) w:=by
 obtain⟨i,hi⟩:=Option.isSome_iff_exists.1 hi;obtain⟨d,hu⟩:=Option.isSome_iff_exists.1 hu;have hs:P.cellsOf t=i.size:=by simp[Program.cellsOf,hi]
 have hag:(isAgg t).run P w = .ok (Za5 P t) w:=by
  unfold Za5;cases d <;> simp[isAgg,run_underlying hu,hu]
 have hsz:(sizeOf t).run P w = .ok i.size w:=by simp[sizeOf,typeInfo,hi]
 unfold mkV;cases ha:Za5 P t with
 | true=>simp[part,hag,ha,hsz,hs]
 | false =>
  have hc:=h1 ha;have hlt:off<xs.length:=by omega
  rw[hc];simp[part,hag,ha,hlt,List.take_one,List.head?_drop]
theorem ZlL {P:Program}{f:TypeId→Bool}{d:Field}{fs:List Field}{off n:Nat}(h:ZiN f P (d :: fs) off n=true):d.name ≠ "_" ∧ d.offset=off∧f d.type=true∧ZiN f P fs (off+P.cellsOf d.type) n=true:=by
 simp only[ZiN,Bool.and_eq_true,bne_iff_ne,beq_iff_eq] at h;exact⟨h.1.1.1,h.1.1.2,h.1.2,h.2⟩
theorem Zm7 {P:Program}{f:TypeId→Bool}:∀ {fs:List Field}{off n:Nat},ZiN f P fs off n=true→off≤n
 | [],off,n,h=>by simp[ZiN] at h; omega
 | d :: fs,off,n,h=>by have:=Zm7 (ZlL h).2.2.2; omega
theorem Zlz {P:Program}{d:Nat}{t:TypeId}(h:Zc1 P d t=true):(P.info? t).isSome=true∧(P.underlying t).isSome=true∧(Za5 P t=false→P.cellsOf t=1):=by
 cases d with
 | zero=>simp[Zc1] at h
 | succ d =>
  simp only[Zc1] at h;cases hu:P.underlying t with
  | none=>rw[hu] at h; simp at h
  | some x =>
   obtain⟨i,hi⟩:=info_of_underlying hu;refine⟨by simp[hi],rfl,fun ha=>?_⟩;rw[hu] at h;unfold Za5 at ha;rw[hu] at ha;cases x <;> simp_all
theorem Zm8 {P:Program}:∀ (d:Nat) (t:TypeId) (xs ys:List Value) (b:Bool) (D:Nat) (w:World),Zc1 P d t=true→d≤D→xs.length=P.cellsOf t→valsEq xs ys=some b →
  (Op.equalIn D t (mkV P t xs) (mkV P t ys)).run P w = .ok b w:=by
 intro d;induction d with
 | zero=>intro t xs ys b D w h; simp[Zc1] at h
 | succ d ih =>
  intro t xs ys b D w h hD hlen hv;obtain⟨D,rfl⟩:∃ D',D=D'+1:=⟨D-1,by omega⟩
  have hlen2:=valsEq_len hv;simp only[Zc1] at h
  have hscal:P.cellsOf t=1→∃ x y,xs=[x]∧ys=[y]∧valEq x y=some b:=by
   intro h1;rw[h1] at hlen
   match xs,ys,hlen,hlen2,hv with
   | [x],[y],_,_,hv =>
    simp only[valsEq] at hv;split at hv <;> simp at hv
    rename_i a1 a2 e1 e2;have:a2=true:=by simpa[valsEq] using e2.symm
    subst this;exact⟨x,y,rfl,rfl,by rw[e1,← hv]; simp⟩
  cases hu:P.underlying t with
  | none=>rw[hu] at h; simp at h
  | some td =>
   rw[hu] at h;obtain⟨i,hi⟩:=info_of_underlying hu;cases td with
   | int k =>
    simp only[beq_iff_eq] at h;obtain⟨x,y,rfl,rfl,he⟩:=hscal h;have ha:Za5 P t=false:=by simp[Za5,hu]
    simp only[mkV,ha];unfold valEq at he;split at he
    ·split at he <;> simp at he
     rename_i hk;subst hk he;simp[Op.equalIn,run_underlying hu]
    ·simp at he
   | array n e =>
    simp only[Bool.and_eq_true,beq_iff_eq] at h;obtain⟨he,hsz⟩:=h;obtain⟨f1,f2,f3⟩:=Zlz he;obtain⟨ei,hei⟩:=Option.isSome_iff_exists.1 f1;have ha:Za5 P t=true:=by simp[Za5,hu]
    simp only[mkV,ha,if_true];rw[run_equalIn_array w D _ _ hu hei]
    have key:∀ (m k:Nat) (b:Bool),k+m=n→valsEq (xs.drop (k * P.cellsOf e)) (ys.drop (k * P.cellsOf e))=some b→(Op.eqItems D e (P.cellsOf e) xs.toArray ys.toArray (List.range' k m)).run P w = .ok b w:=by
     intro m;induction m with
     | zero =>
      intro k b hk hb;have:xs.length≤k * P.cellsOf e:=by rw[hlen,hsz,← hk]; simp
      rw[List.drop_of_length_le this,List.drop_of_length_le (by omega)] at hb;simp[valsEq] at hb
      simp[Op.eqItems,hb]
     | succ m ihm =>
      intro k b hk hb
      have hle:k * P.cellsOf e+P.cellsOf e≤xs.length:=by
       rw[hlen,hsz,← hk];have:(k+1) * P.cellsOf e≤(k+(m+1)) * P.cellsOf e:=Nat.mul_le_mul_right _ (by omega);rw[Nat.add_mul] at this;omega
      obtain⟨b1,b2,e1,e2,rfl⟩:=valsEq_split (P.cellsOf e) hb;rw[List.drop_drop,List.drop_drop] at e2
      have e2':valsEq (xs.drop ((k+1) * P.cellsOf e)) (ys.drop ((k+1) * P.cellsOf e))=some b2:=by
       rw[Nat.add_mul,Nat.one_mul]; exact e2
      have r1:=ih e _ _ b1 D w he (by omega) (by simp; omega) e1;simp only[List.range'_succ,Op.eqItems,Sem.run_bind,Zgf f1 f2 hle f3,Zgf f1 f2 (show k * P.cellsOf e+P.cellsOf e≤ys.length by omega) f3,Result.andThen_ok,r1];cases b1 with
      | false=>simp
      | true=>simpa using ihm (k+1) b2 (by omega) e2'
    have:=key n 0 b (by omega) (by simpa using hv);rw[List.range_eq_range'];exact this
   | struct fs =>
    simp only[Bool.and_eq_true,Bool.not_eq_true'] at h;obtain⟨hst,hfs⟩:=h;have ha:Za5 P t=true:=by simp[Za5,hu]
    simp only[mkV,ha,if_true];have hfo:P.fieldsOf t=fs:=by simp[Program.fieldsOf,hu]
    rw[run_equalIn_struct w D t _ _ (by rw[hfo]; exact hu) hst,hfo]
    have key:∀ (l:List Field) (off:Nat) (b:Bool),ZiN (Zc1 P d) P l off (P.cellsOf t)=true→valsEq (xs.drop off) (ys.drop off)=some b→(Op.eqFields D xs.toArray ys.toArray l).run P w = .ok b w:=by
     intro l;induction l with
     | nil =>
      intro off b hf hb;simp[ZiN] at hf
      rw[List.drop_of_length_le (by omega),List.drop_of_length_le (by omega)] at hb;simp[valsEq] at hb
      simp[Op.eqFields,hb]
     | cons f l ihl =>
      intro off b hf hb;obtain⟨g1,g2,g3,g4⟩:=ZlL hf;have hle:=Zm7 g4;obtain⟨f1,f2,f3⟩:=Zlz g3;obtain⟨b1,b2,e1,e2,rfl⟩:=valsEq_split (P.cellsOf f.type) hb;rw[List.drop_drop,List.drop_drop] at e2;have r1:=ih f.type _ _ b1 D w g3 (by omega) (by simp; omega) e1;subst g2;simp only[Op.eqFields,g1,ne_eq,not_false_eq_true,if_true,Sem.run_bind,Zgf f1 f2 (show f.offset+P.cellsOf f.type≤xs.length by omega) f3,Zgf f1 f2 (show f.offset+P.cellsOf f.type≤ys.length by omega) f3,Result.andThen_ok,r1];cases b1 with
      | false=>simp
      | true=>simpa using ihl _ b2 g4 e2
    exact key fs.toList 0 b hfs (by simpa using hv)
   | _=>simp at h
section
variable {P:Program}{tt:TT}{T:Tab}{G:Glob}{B:Nat}{ks:List Nat}{w0:World}{S0 S:Nat→Nat→Prop}{bm:BM}{bx:Boxes}{st:ASt}{a:Act}{w:World}
def Val (P:Program) (S:Nat→Nat→Prop) (bm:BM) (bx:Boxes) (w:World) (x:Sem Value) (p:PV):Prop:=∃ v,x.run P w = .ok v w∧X9 S w bm bx p v
theorem Yn.unrow' {own:Own}{els:List (List Cell)}{v:Value}(h:Yn S w (.slice own els) v) (hne:els≠[]):∃ b o c,∃ (_:Nat) (_:Nat),v = .slice (some ⟨b,o,none⟩) els.length c∧True:=by
 cases h with
 | nil a=>exact absurd rfl hne
 | slice _ a c e b o m hc hx he h0 ha hm hr=>exact⟨b,o,c,0,0,by rw[ha hne],trivial⟩
theorem Zw7 (h:Zl G B ks w0 S0 S bm st a w){c x y:Operand}{p:PV}(hp:ZC tt G st.get (.pick c x y)=some p) :
  Val P S bm st.boxes w (do pure (if ← asBool (a.eval c) then a.eval x else a.eval y)) p:=by
 simp only[ZC] at hp;split at hp
 ·rename_i t hc
  have:=h.evalV hc;cases t with
  | true=>exact⟨a.eval x,by simp[this,asBool],h.eval (by simpa using hp)⟩
  | false=>exact⟨a.eval y,by simp[this,asBool],h.eval (by simpa using hp)⟩
 ·simp at hp
theorem Zmq (d:Nat){t e:TypeId}{b:Addr}{l c n m:Nat}(hu:P.underlying t=some (.slice e)):(Op.equalIn (d+1) t (.slice (some b) l c) (.slice none n m)).run P w = .ok false w:=by
 simp[Op.equalIn,run_underlying hu]
theorem Zou {op:BinOp}{t:TypeId}{u v:Value}{b:Bool}{p:PV}(hp:ZnK op b=some p) (h:(Op.equal t u v).run P w = .ok b w) (hb:∀ op,op = .eql∨op = .neq→binOp op t u v=(if op = .eql then(do pure (.bool (← Op.equal t u v))) else(do pure (.bool (!(← Op.equal t u v)))))) :
  ∃ r,(binOp op t u v).run P w = .ok r w∧X9 S w bm bx p r:=by
 unfold ZnK at hp;split at hp <;> simp at hp
 ·subst hp
  rw[hb .eql (.inl rfl)];exact⟨.bool b,by simp[h],.base (.one (.pure (.v _ rfl (by simp))))⟩
 ·subst hp
  rw[hb .neq (.inr rfl)];exact⟨.bool !b,by simp[h],.base (.one (.pure (.v _ rfl (by simp))))⟩
theorem Zui (htt:∀ t i,tt t=some i→Z0 P t=some i) (h:Zl G B ks w0 S0 S bm st a w){op:BinOp}{t t':TypeId}{x y:Operand}{p:PV}(hp:ZC tt G st.get (.binOp op t x y t')=some p) :
  Val P S bm st.boxes w (do eqGuard op t x y (a.eval x) (a.eval y); binOp op t (a.eval x) (a.eval y)) p:=by
 simp only[ZC] at hp;split at hp
 ·rename_i cx cy hx hy
  split at hp
  ·rename_i u v
   split at hp
   ·rename_i i hi
    split at hp
    ·rename_i hk
     have hu:P.underlying t=some .bool:=by
      obtain⟨info,d,z,h1,h2,h3,h4,h5,h6,h7⟩:=(Zn (htt _ _ hi)).ex;rw[hk] at h5;cases d <;> simp[tkind] at h5
      exact h2
     rw[h.evalV hx,h.evalV hy]
     have he:(Op.equal t (.bool u) (.bool v)).run P w = .ok (u == v) w:=by
      exact run_equalIn_bool w 9999 t u v hu
     obtain⟨r,h1,h2⟩:=Zou (S:=S) (bm:=bm) (bx:=st.boxes) hp he (by rintro op (rfl | rfl) <;> rfl);have hg:(eqGuard op t x y (.bool u) (.bool v)).run P w = .ok () w:=by unfold eqGuard; cases op <;> rfl
     exact⟨r,by simp[hg,h1],h2⟩
    ·simp at hp
   ·simp at hp
  ·rename_i o1 els o2 els2
   split at hp
   ·rename_i n c i hi
    split at hp
    ·rename_i e hk
     split at hp
     ·simp at hp
     ·rename_i hne
      have hu:=(Zn (htt _ _ hi)).slice hk;obtain⟨b,off,c',e',row,hv,_⟩:=((h.evalC hx).pureC rfl).unrow' hne;have hey:a.eval (.const (.slice none n c)) = .slice none n c:=rfl;rw[hv,hey]
      have he:(Op.equal t (.slice (some ⟨b,off,none⟩) els.length c') (.slice none n c)).run P w = .ok false w:=by
       exact Zmq 9999 hu
      obtain⟨r,h1,h2⟩:=Zou (S:=S) (bm:=bm) (bx:=st.boxes) hp he (by rintro op (rfl | rfl) <;> rfl);have hg:(eqGuard op t x (.const (.slice none n c)) (.slice (some ⟨b,off,none⟩) els.length c') (.slice none n c)).run P w = .ok () w:=by unfold eqGuard; cases op <;> rfl
      exact⟨r,by simp[hg,h1],h2⟩
    ·simp at hp
   ·simp at hp
  ·rename_i cx' cy' _ _
   split at hp <;> simp at hp
   rename_i r hb;subst hp;obtain⟨h1,h2,h3⟩:=Zyh (P:=P) (t:=t) (ox:=x) (oy:=y) (h.evalC hx) (h.evalC hy) hb;exact⟨r,h1,.base (.one (.pure (.v r h2 h3)))⟩
 ·rename_i cs ds hx hy
  split at hp
  ·rename_i i hi
   split at hp
   ·rename_i hc
    obtain⟨hfl,hag,hl1,hl2⟩:=hc;split at hp
    ·rename_i b hb
     have hts:=Zn (htt _ _ hi);obtain⟨info,d,z,h1,h2,h3,h4,h5,h6,h7,h8⟩:=hts.ex;rw[h8] at hfl;simp at hfl
     have hcells:P.cellsOf t=i.size:=by simp[Program.cellsOf,h1,h4]
     have haggT:Za5 P t=true:=by
      unfold Za5;unfold TI.agg at hag;rw[h2];rw[← h5] at hag;cases d <;> simp[tkind] at hag ⊢
     have hX:=h.evalB hx (by simp);have hY:=h.evalB hy (by simp);generalize a.eval x=vx at hX ⊢;generalize a.eval y=vy at hY ⊢;cases hX with
     | agg hX=>cases hY with
      | agg hY =>
       rename_i xs ys;have hv:=Zm6 hX hY hb;have he:=Zm8 (P:=P) 20 t xs ys b 10000 w hfl.1 (by omega) (by rw[← Zk.length hX,hl1,hcells]) hv;unfold mkV at he;rw[if_pos haggT,if_pos haggT] at he;have he':(Op.equal t (.agg xs.toArray) (.agg ys.toArray)).run P w = .ok b w:=he;obtain⟨r,h1,h2⟩:=Zou (S:=S) (bm:=bm) (bx:=st.boxes) hp he' (by rintro op (rfl | rfl) <;> rfl);have hg:=run_eqGuard_agg (P:=P) w op t x y xs.toArray ys.toArray hfl.2;exact⟨r,by simp[hg,h1],h2⟩
    ·simp at hp
   ·simp at hp
  ·simp at hp
 ·simp at hp
theorem Zr0 {op:BinOp}{k:IntKind}{x y:Int}{r:Value}(h:pureOf (Op.intBits op k x y)=some r):r.oneCell'=true∧∀ a n c,r≠.slice a n c:=by
 cases op <;> simp only[Op.intBits] at h
 case and=>obtain rfl:_=r:=Option.some.inj h; exact⟨rfl,by simp⟩
 case or=>obtain rfl:_=r:=Option.some.inj h; exact⟨rfl,by simp⟩
 case xor=>obtain rfl:_=r:=Option.some.inj h; exact⟨rfl,by simp⟩
 case andNot=>obtain rfl:_=r:=Option.some.inj h; exact⟨rfl,by simp⟩
 all_goals simp[pureOf,stuck] at h
theorem Zw8 (h:Zl G B ks w0 S0 S bm st a w){op:UnOp}{t:TypeId}{x:Operand}{p:PV}(hp:ZC tt G st.get (.unOp op t x)=some p) :
  Val P S bm st.boxes w (Op.unary op (a.eval x)) p:=by
 cases op <;> simp only[ZC] at hp
 ·split at hp <;> simp at hp
  rename_i k n hx;subst hp;rw[h.evalV hx];exact⟨.int k (k.wrap (0-n)),by simp[Op.unary,Op.intArith],.base (.one (.pure (by simpa using Yn.v _ rfl (by simp))))⟩
 ·split at hp
  ·rename_i k n hx
   split at hp <;> simp at hp
   rename_i r hr;subst hp;rw[h.evalV hx];have h1:=ZpO (P:=P) (w:=w) hr;have h2:=Zr0 hr;exact⟨r,by simpa[Op.unary] using h1,.base (.one (.pure (.v _ h2.1 h2.2)))⟩
  ·simp at hp
 ·split at hp <;> simp at hp
  rename_i b hx;subst hp;rw[h.evalV hx];exact⟨.bool !b,by simp[Op.unary],.base (.one (.pure (.v _ rfl (by simp))))⟩
 ·simp at hp
theorem Zs8 (htt:∀ t i,tt t=some i→Z0 P t=some i) (h:Zl G B ks w0 S0 S bm st a w){s d:TypeId}{x:Operand}{p:PV}(hp:ZC tt G st.get (.convert s d x)=some p) :
  Val P S bm st.boxes w (convert s d (a.eval x)) p:=by
 simp only[ZC] at hp;split at hp
 ·rename_i i j k n hi hj hx
  split at hp <;> simp at hp
  rename_i k1 k2 hk1 hk2;subst hp;rw[h.evalV hx];have h1:=(Zn (htt _ _ hi)).int hk1;have h2:=(Zn (htt _ _ hj)).int hk2;exact⟨.int k2 (k2.wrap n),by simp[convert,run_underlying h1,run_underlying h2,Conv.intToInt],.base (.one (.pure (.v _ rfl (by simp))))⟩
 ·simp at hp
theorem refs {S:Nat→Nat→Prop}{w:World}{bm:BM}{bx:Boxes}{cs:List Cell}{b o:Nat}{vs:List Value}(h1:ZU S w cs vs) (h2:∀ j,j<vs.length→S b (o+j)) (h3:∀ (j:Nat) u,vs[j]? = some u→w.cell? ⟨b,o+j,none⟩=some u) (k:Nat) :
  ZaK S w bm bx (.ref (cs.drop k)) (.pointer (some ⟨b,o+k,none⟩)):=by
 refine .ref b (o+k) (vs.drop k) (h1.drop k) (fun j hj=>?_) (fun j u hu=>?_)
 ·rw[Nat.add_assoc]; exact h2 _ (by simp at hj; omega)
 ·rw[Nat.add_assoc]; rw[List.getElem?_drop] at hu; exact h3 _ _ hu
theorem ZqQ (htt:∀ t i,tt t=some i→Z0 P t=some i) (h:Zl G B ks w0 S0 S bm st a w){s:TypeId}{x:Operand}{f:Nat}{p:PV}(hp:ZC tt G st.get (.fieldAddr s x f)=some p) :
  Val P S bm st.boxes w (Instr.fieldAt s (a.eval x) f) p:=by
 simp only[ZC] at hp;split at hp
 ·rename_i i q hi hx
  split at hp
  ·rename_i off ft hf
   split at hp
   ·rename_i n hs
    unfold Zl1 at hf;split at hf
    ·rename_i fs hk
     obtain⟨fields,hu,rfl⟩:=(Zn (htt _ _ hi)).struct hk;simp at hf
     obtain⟨fd,hfd,rfl,rfl⟩:=hf;obtain⟨fi,hfi,hsz⟩:=XS htt hs
     have hrun:∀ b o,(Instr.fieldAt s (.pointer (some ⟨b,o,none⟩)) f).run P w = .ok (.pointer (some ⟨b,o+fd.offset,none⟩)) w:=by
      intro b o;simp[Instr.fieldAt,run_underlying hu,hfd,Instr.sureAddr,fieldPlace,hfi.run_size,hsz,Addr.add_lit]
     have hb:=h.evalB hx (by rintro ps rfl; simp at hp);generalize a.eval x=v at hb ⊢;split at hp <;> simp at hp
     ·subst hp
      cases hb with
      | ref b o vs h1 h2 h3=>exact⟨_,hrun b o,.base (refs h1 h2 h3 _)⟩
     ·subst hp
      cases hb with
      | ptr nm ver i0 o e k hmap hk=>exact⟨_,hrun _ _,.base (by rw[Nat.add_assoc]; exact .ptr _ _ _ _ _ _ hmap hk)⟩
    ·simp at hf
   ·simp at hp
  ·simp at hp
 ·simp at hp
theorem ZvN (htt:∀ t i,tt t=some i→Z0 P t=some i) (h:Zl G B ks w0 S0 S bm st a w){s:TypeId}{x:Operand}{f:Nat}{p:PV}(hp:ZC tt G st.get (.field s x f)=some p) :
  Val P S bm st.boxes w (Instr.field s (a.eval x) f) p:=by
 simp only[ZC] at hp;split at hp
 ·rename_i i cs hi hx
  split at hp
  ·rename_i off ft hf
   split at hp
   ·rename_i j hj
    unfold Zl1 at hf;split at hf
    ·rename_i fs hk
     obtain⟨fields,hu,rfl⟩:=(Zn (htt _ _ hi)).struct hk;simp at hf
     obtain⟨fd,hfd,rfl,rfl⟩:=hf;have hb:=h.evalB hx (by simp);generalize a.eval x=v at hb ⊢;cases hb with
     | agg hr =>
      obtain⟨v,h1,h2⟩:=ZqP (P:=P) (bm:=bm) (Zn (htt _ _ hj)) hr hp;exact⟨v,by simp[Instr.field,run_underlying hu,hfd,asAgg,h1],.base h2⟩
    ·simp at hf
   ·simp at hp
  ·simp at hp
 ·simp at hp
theorem Zs9 {S:Nat→Nat→Prop}{w:World}{bm:BM}{bx:Boxes}{o:Own}{els:List (List Cell)}{v:Value}(h:Yn S w (.slice o els) v){n:Nat}{l:List Cell}(hl:els[n]? = some l) :
  ∃ b off c,v = .slice (some ⟨b,off,none⟩) els.length c∧ZaK S w bm bx (.ref l) (.pointer (some ⟨b,off+n * l.length,none⟩)):=by
 cases h with
 | nil a=>simp at hl
 | slice _ a c e b o m hc hx he h0 ha hm hr =>
  have hne:els≠[]:=by rintro rfl; simp at hl
  have hle:l.length=e:=he l (List.mem_of_getElem? hl);refine⟨b,o,c,by rw[ha hne],?_⟩;subst hle;refine .ref b _ ((List.range l.length).map (m n)) ?_ (fun j hj=>(hm n l hl j (by simpa using hj)).1) (fun j u hu=>?_)
  ·refine Zk.of_get (by simp) fun i x y hx hy=>?_
   have hi:=Zm hx;simp[hi] at hy
   subst hy;exact hr n l hl i x hx
  ·have hj:=Zm hu
   simp at hj
   simp[hj] at hu
   subst hu;exact(hm n l hl j hj).2
theorem ZqR (htt:∀ t i,tt t=some i→Z0 P t=some i) (h:Zl G B ks w0 S0 S bm st a w){t:TypeId}{x ix:Operand}{p:PV}(hp:ZC tt G st.get (.indexAddr t x ix)=some p) :
  Val P S bm st.boxes w (Instr.indexAt t (a.eval x) (a.eval ix)) p:=by
 simp only[ZC] at hp;split at hp
 ·rename_i i q r hi hx hix
  have hix' := h.eval hix;have hx' := h.eval hx;generalize a.eval ix=vi at hix' ⊢;generalize a.eval x=vx at hx' ⊢;split at hp
  ·rename_i e _ els n hk hn
   split at hp
   ·rename_i l s hl hs
    split at hp <;> simp at hp
    rename_i hls;subst hp;obtain⟨k,rfl⟩:=Zb6 hn hix';obtain⟨ei,hei,hes⟩:=XS htt hs;have hu:=(Zn (htt _ _ hi)).slice hk;cases hx' with
    | base hx'=>cases hx' with
     | one hx' =>
      obtain⟨b,off,c,rfl,hb⟩:=Zs9 (bm:=bm) (bx:=st.boxes) (hx'.pureC rfl) hl;have hlt:=Zm hl;refine⟨_,?_,.base hb⟩;have:¬ els.length≤n:=by omega
      simp[Instr.indexAt,run_underlying hu,asIntOf,this,hei.run_size,hes,hls,Addr.add_lit]
   ·simp at hp
  ·rename_i e nm ver k0 m s n hk hn
   split at hp <;> simp at hp
   rename_i hc;subst hp;obtain⟨k,rfl⟩:=Zb6 hn hix';obtain⟨ei,hei,hes⟩:=XS htt hc.2;have hu:=(Zn (htt _ _ hi)).slice hk;cases hx' with
   | base hx'=>cases hx' with
    | one hx'=>cases hx' with
     | pure hx'=>cases hx'
     | ms _ _ _ _ _ x c hmap h1 h2 h3 h4 =>
      obtain⟨kk,rfl⟩:=h3 (by omega);have:¬ m≤n:=by omega
      refine⟨.pointer (some ⟨kk,(k0+n) * s+0,none⟩),?_,.base (.ptr _ _ _ _ _ _ hmap ?_)⟩
      ·simp[Instr.indexAt,run_underlying hu,asIntOf,this,hei.run_size,hes,Addr.add_lit,Nat.add_mul]
      ·obtain⟨b,b1,b2,b3⟩:=h4
       refine⟨b,b1,b2,fun hv=>?_⟩;obtain⟨q1,q2,q3⟩:=b3 hv;refine⟨.inr q1,?_⟩;unfold Loc at q3;split at q3
       ·rename_i k' C hb
        obtain⟨e1,_⟩:=q3 (.inl (by omega));simp at e1
        exact⟨C,by rw[hb,e1]⟩
       ·omega
  ·rename_i e nm ver o m s n hk hn
   split at hp <;> simp at hp
   rename_i hc;subst hp;obtain⟨k,rfl⟩:=Zb6 hn hix';obtain⟨ei,hei,hes⟩:=XS htt hc.2;have hu:=(Zn (htt _ _ hi)).slice hk;cases hx' with
   | base hx'=>cases hx' with
    | one hx'=>cases hx' with
     | pure hx'=>cases hx'
     | fv _ _ _ _ _ x c hmap h1 h2 h3 h4 =>
      obtain⟨kk,rfl⟩:=h3 (by omega);have:¬ m≤n:=by omega
      refine⟨.pointer (some ⟨kk,0 * 0+(o+n * s),none⟩),?_,.base (.ptr _ _ _ _ _ _ hmap ?_)⟩
      ·simp[Instr.indexAt,run_underlying hu,asIntOf,this,hei.run_size,hes,Addr.add_lit]
      ·obtain⟨b,b1,b2,b3⟩:=h4
       refine⟨b,b1,b2,fun hv=>⟨.inl rfl,?_⟩⟩;obtain⟨k',C,e1,e2⟩:=b3 hv (by omega);simp at e2
       exact⟨C,by rw[e1,e2]⟩
  ·rename_i m e cs n hk hn
   split at hp
   ·rename_i s hs
    split at hp <;> simp at hp
    rename_i hlt;subst hp;obtain⟨k,rfl⟩:=Zb6 hn hix';obtain⟨ei,hei,hes⟩:=XS htt hs;have hu:=(Zn (htt _ _ hi)).array hk;cases hx' with
    | base hx'=>cases hx' with
     | ref b o vs h1 h2 h3 =>
      refine⟨_,?_,.base (refs h1 h2 h3 _)⟩;have:¬ m≤n:=by omega
      simp[Instr.indexAt,run_underlying hu,asIntOf,Instr.sureAddr,this,hei.run_size,hes,Addr.add_lit]
   ·simp at hp
  ·rename_i m e nm ver k0 o e' n hk hn
   split at hp
   ·rename_i s hs
    split at hp <;> simp at hp
    rename_i hlt;subst hp;obtain⟨k,rfl⟩:=Zb6 hn hix';obtain⟨ei,hei,hes⟩:=XS htt hs;have hu:=(Zn (htt _ _ hi)).array hk;cases hx' with
    | base hx'=>cases hx' with
     | ptr _ _ _ _ _ kk hmap hk =>
      refine⟨.pointer (some ⟨kk,k0 * e'+(o+n * s),none⟩),?_,.base (.ptr _ _ _ _ _ _ hmap hk)⟩;have:¬ m≤n:=by omega
      simp[Instr.indexAt,run_underlying hu,asIntOf,Instr.sureAddr,this,hei.run_size,hes,Addr.add_lit,Nat.add_assoc]
   ·simp at hp
  ·simp at hp
 ·simp at hp
theorem ZvO (htt:∀ t i,tt t=some i→Z0 P t=some i) (h:Zl G B ks w0 S0 S bm st a w){t:TypeId}{x ix:Operand}{p:PV}(hp:ZC tt G st.get (.index t x ix)=some p) :
  Val P S bm st.boxes w (Instr.index t (a.eval x) (a.eval ix)) p:=by
 simp only[ZC] at hp;split at hp
 ·rename_i i cs q hi hx hix
  have hix' := h.eval hix;have hx' := h.evalB hx (by simp);generalize a.eval ix=vi at hix' ⊢;generalize a.eval x=vx at hx' ⊢;split at hp
  ·rename_i m e n hk hn
   split at hp
   ·rename_i j hj
    split at hp
    ·rename_i hlt
     obtain⟨k,rfl⟩:=Zb6 hn hix';have hu:=(Zn (htt _ _ hi)).array hk;cases hx' with
     | agg hr =>
      obtain⟨v,h1,h2⟩:=ZqP (P:=P) (bm:=bm) (Zn (htt _ _ hj)) hr hp;have:¬ m≤n:=by omega
      exact⟨v,by simp[Instr.index,asIntOf,run_underlying hu,this,(Zn (htt _ _ hj)).run_size,h1],.base h2⟩
    ·simp at hp
   ·simp at hp
  ·simp at hp
 ·rename_i i s q hi hx hix
  have hix' := h.eval hix;rw[h.evalV hx];generalize a.eval ix=vi at hix' ⊢;split at hp
  ·rename_i n hk hn
   split at hp <;> simp at hp
   rename_i b hb;subst hp;obtain⟨k,rfl⟩:=Zb6 hn hix';have hu:=(Zn (htt _ _ hi)).str hk;refine⟨_,?_,.base (.one (.pure (.v _ rfl (by simp))))⟩
   have hs:s[n]? = some b:=by
    have hlt:n<s.data.size:=by
     rcases Nat.lt_or_ge n s.data.size with h' | h'
     ·exact h'
     ·rw[Array.getElem?_eq_none h'] at hb; cases hb
    have hlt':n<s.size:=hlt;rw[getElem?_pos s n hlt'];rw[getElem?_pos s.data n hlt] at hb;exact hb
   simp[Instr.index,asIntOf,run_underlying hu,hs]
  ·simp at hp
 ·simp at hp
theorem Zta (h:Zl G B ks w0 S0 S bm st a w){x:Operand}{n:Nat}{p:PV}(hp:ZC tt G st.get (.extract x n)=some p) :
  Val P S bm st.boxes w (Instr.extract (a.eval x) n) p:=by
 simp only[ZC] at hp;split at hp
 ·rename_i ps hx
  have hx' := h.eval hx;generalize a.eval x=vx at hx' ⊢;cases hx' with
  | base hx'=>cases hx'
  | tup hx' =>
   obtain⟨v,hv,hr⟩:=hx'.get hp;exact⟨v,by simp[Instr.extract,hv],.base hr⟩
 ·simp at hp
theorem ZoS (htt:∀ t i,tt t=some i→Z0 P t=some i):∀ {l:List Field}{pl:List (Nat×Nat)},Zl2 tt (l.map fun f=>(f.offset,f.type))=some pl→∀ w:World,
  (l.mapM fun f=>do pure (f.offset,← sizeOf f.type):Sem (List (Nat×Nat))).run P w = .ok pl w
 | [],pl,hpl,w=>by simp[Zl2] at hpl; subst hpl; simp
 | f :: l,pl,hpl,w=>by
  simp only[List.map_cons,Zl2] at hpl;split at hpl
  ·rename_i s l' hs hl'
   simp at hpl
   subst hpl;obtain⟨fi,hfi,rfl⟩:=XS htt hs;have:=ZoS htt hl' w;simp at this
   simp[hfi.run_size,this]
  ·simp at hpl
theorem ZvP (htt:∀ t i,tt t=some i→Z0 P t=some i) (h:Zl G B ks w0 S0 S bm st a w){t:TypeId}{parts:Array (Nat×Operand)}{p:PV}(hp:ZC tt G st.get (.build t parts)=some p) :
  Val P S bm st.boxes w (Instr.build t (parts.map fun(i,x)=>(i,a.eval x))) p:=by
 simp only[ZC] at hp;split at hp
 ·rename_i i ps hi hps
  have ht:=Zn (htt _ _ hi);obtain⟨z,hz,hzc⟩:=ht.zero w;have hparts:=Zmp h hps;have hz':Zk (ZW S w bm st.boxes) (i.zero.map Zc.cell) z.cells.toList:=by rw[hzc]; exact ZU.toM (Zjn S w _)
  split at hp
  ·rename_i fs hk
   obtain⟨fields,hu,rfl⟩:=ht.struct hk;split at hp
   ·rename_i pl hpl
    cases hf:ZkD (fun f=>pl[f]?) (i.zero.map Zc.cell) ps with
    | none=>simp[hf] at hp
    | some r =>
     simp[hf] at hp
     subst hp;obtain⟨rv,h1,h2⟩:=Zsq hparts hz' hf;refine⟨.agg rv.toArray,?_,.base (.agg h2)⟩;simp at h1
     have hm:(fields.mapM fun f=>do pure (f.offset,← sizeOf f.type):Sem (Array (Nat×Nat))).run P w = .ok pl.toArray w:=by
      rw[Array.mapM_eq_mapM_toList];simp only[Sem.run_map];rw[ZoS htt hpl w];rfl
     simp[Instr.build,hz,run_underlying hu]
     simp at hm
     rw[hm];simp[h1]
   ·simp at hp
  ·rename_i n e hk
   have hu:=ht.array hk;split at hp
   ·rename_i s hs
    obtain⟨ei,hei,rfl⟩:=XS htt hs;cases hf:ZkD (fun j=>some (j * ei.size,ei.size)) (i.zero.map Zc.cell) ps with
    | none=>simp[hf] at hp
    | some r =>
     simp[hf] at hp
     subst hp;obtain⟨rv,h1,h2⟩:=Zsq hparts hz' hf;refine⟨.agg rv.toArray,?_,.base (.agg h2)⟩;simp at h1
     simp[Instr.build,hz,run_underlying hu,hei.run_size,h1]
   ·simp at hp
  ·simp at hp
 ·simp at hp
theorem Zyj (htt:∀ t i,tt t=some i→Z0 P t=some i) (h:Zl G B ks w0 S0 S bm st a w){t ty:TypeId}{x:Operand}{p:PV}(hp:ZC tt G st.get (.call { callee:=.builtin .len,args:=#[x],argTypes:=#[t] })=some p) :
  Val P S bm st.boxes w (Builtin.len_ #[t] ty #[a.eval x]) p:=by
 simp only[ZC] at hp;split at hp
 ·rename_i i q hi hx
  have ht:=Zn (htt _ _ hi);have hx' := h.eval hx;generalize a.eval x=vx at hx' ⊢;split at hp <;> simp at hp
  ·rename_i e _ els hk
   subst hp;have hu:=ht.slice hk;cases hx' with
   | base hx'=>cases hx' with
    | one hx' =>
     have hx' := hx'.pureC rfl;refine⟨.int .i64 els.length,?_,.base (.one (.pure (.v _ rfl (by simp))))⟩;cases hx' with
     | nil a=>simp[Builtin.len_,run_underlying hu,goInt]
     | slice _ a c e b o m hc hx he h0 ha hm hr=>simp[Builtin.len_,run_underlying hu,goInt]
  ·rename_i e _ _ _ n _ hk
   subst hp;have hu:=ht.slice hk;cases hx' with
   | base hx'=>cases hx' with
    | one hx'=>cases hx' with
     | pure hx'=>cases hx'
     | ms _ _ _ _ _ x c hmap h1 h2 h3 h4=>exact⟨.int .i64 n,by simp[Builtin.len_,run_underlying hu,goInt],.base (.one (.pure (.v _ rfl (by simp))))⟩
  ·rename_i e _ _ _ n _ hk
   subst hp;have hu:=ht.slice hk;cases hx' with
   | base hx'=>cases hx' with
    | one hx'=>cases hx' with
     | pure hx'=>cases hx'
     | fv _ _ _ _ _ x c hmap h1 h2 h3 h4=>exact⟨.int .i64 n,by simp[Builtin.len_,run_underlying hu,goInt],.base (.one (.pure (.v _ rfl (by simp))))⟩
  ·rename_i s hk
   subst hp;have hu:=ht.str hk;cases hx' with
   | base hx'=>cases hx' with
    | one hx'=>have hx' := hx'.pureC rfl; cases hx'; exact⟨.int .i64 s.size,by simp[Builtin.len_,run_underlying hu,goInt],.base (.one (.pure (.v _ rfl (by simp))))⟩
  ·rename_i n e hk
   subst hp;have hu:=ht.array hk;exact⟨.int .i64 n,by simp[Builtin.len_,run_underlying hu,goInt],.base (.one (.pure (.v _ rfl (by simp))))⟩
 ·simp at hp
end
section
variable {P:Program}{tt:TT}{T:Tab}{G:Glob}{B:Nat}{ks:List Nat}{w0:World}{S0 S S':Nat→Nat→Prop}{bm bm':BM}{bx:Boxes}{st st':ASt}{a:Act}{w w':World}{Q:Exit→Act→World→Prop}{o:Oper}
theorem ZqS {s:Nat}:∀ (us:List Value) (k:Nat) (cur:List Value),(∀ u∈us,u.cells.size=s)→(k+us.length) * s≤cur.length →
  Instr.fill (fun i=>some (i * s,s)) cur.toArray ((us.zipIdx k).map fun x=>(x.2,x.1))=some (cur.take (k * s)++(us.map (·.cells.toList)).flatten++cur.drop ((k+us.length) * s)).toArray
 | [],k,cur,_,_=>by simp[Instr.fill]
 | u :: us,k,cur,hu,hl=>by
  have hs:u.cells.size=s:=hu u (by simp);simp only[List.length_cons] at hl
  have hk:k * s+s≤cur.length:=by
   have:(k+(us.length+1)) * s=k * s+s+us.length * s:=by rw[Nat.add_mul,Nat.add_mul]; omega
   omega
  simp only[List.zipIdx_cons,List.map_cons,Instr.fill];rw[if_neg (by simp[hs]; omega)]
  have key:∀ (l:List Value) (j:Nat) (arr:Array Value),k * s+j+l.length≤arr.size →
    ((l.zipIdx j).foldl (fun(cs:Array Value) (x:Value×Nat)=>cs.setIfInBounds (k * s+x.2) x.1) arr).toList=arr.toList.take (k * s+j)++l++arr.toList.drop (k * s+j+l.length):=by
   intro l;induction l with
   | nil=>intro k arr _; simp
   | cons x l ihl =>
    intro j arr hk;simp only[List.length_cons] at hk;rw[List.zipIdx_cons,List.foldl_cons,ihl (j+1) _ (by simp; omega)];simp only[Array.toList_setIfInBounds,List.length_cons];have e:=list_seg_step arr.toList (k * s+j) x l (by simp; omega);simpa[Nat.add_assoc] using e
  have h1:=key u.cells.toList 0 cur.toArray (by simp[hs]; omega);simp only[Nat.add_zero] at h1
  have h2:u.cells.zipIdx.foldl (fun(cs:Array Value) (x:Value×Nat)=>cs.setIfInBounds (k * s+x.2) x.1) cur.toArray=(cur.take (k * s)++u.cells.toList++cur.drop (k * s+s)).toArray:=by
   apply Array.ext'
   rw[← Array.foldl_toList,Array.toList_zipIdx,h1];simp[hs]
  have e2:(fun(cs:Array Value) (x:Value×Nat)=>match x with | (c,j)=>cs.setIfInBounds (k * s+j) c)=(fun(cs:Array Value) (x:Value×Nat)=>cs.setIfInBounds (k * s+x.2) x.1):=rfl
  rw[e2,h2,ZqS us (k+1) _ (fun x hx=>hu x (by simp[hx])) (by
   have:(k+1+us.length) * s=k * s+s+us.length * s:=by rw[Nat.add_mul,Nat.add_mul]; omega
   have:(k+(us.length+1)) * s=k * s+s+us.length * s:=by rw[Nat.add_mul,Nat.add_mul]; omega
   simp[hs]; omega)]
  have e3:(k+1) * s=k * s+s:=by rw[Nat.add_mul]; omega
  have e4:(k+1+us.length) * s=k * s+s+us.length * s:=by rw[Nat.add_mul,Nat.add_mul]; omega
  have e5:(k+(us.length+1)) * s=k * s+s+us.length * s:=by rw[Nat.add_mul,Nat.add_mul]; omega
  have hlen:(cur.take (k * s)++u.cells.toList).length=k * s+s:=by simp[hs]; omega
  congr 2
  rw[e3,List.length_cons,e4,e5];rw[List.take_left' hlen,List.drop_append,hlen,List.drop_of_length_le (by rw[hlen]; omega),List.drop_drop];simp
theorem Z3 {els:List (List Cell)}{e:Nat}(he:∀ l∈els,l.length=e):els.flatten.length=els.length * e:=by
 induction els with
 | nil=>simp
 | cons l els ih =>
  have:=ih (fun x hx=>he x (by simp[hx]));have h1:=he l (by simp);simp only[List.flatten_cons,List.length_append,List.length_cons,Nat.add_mul];omega
theorem Zjo {els:List (List Cell)}{e i j:Nat}{l:List Cell}(he:∀ l∈els,l.length=e) (hl:els[i]? = some l) (hj:j<e):els.flatten[i * e+j]? = l[j]? := by
 induction els generalizing i with
 | nil=>simp at hl
 | cons x els ih =>
  have h1:=he x (by simp);cases i with
  | zero =>
   simp at hl
   subst hl;simp only[List.flatten_cons,Nat.zero_mul,Nat.zero_add];rw[List.getElem?_append_left (by omega)]
  | succ i =>
   simp at hl
   simp only[List.flatten_cons];rw[Nat.add_mul,List.getElem?_append_right (by omega),h1];rw[show i * e+1 * e+j-e=i * e+j by omega];exact ih (fun x hx=>he x (by simp[hx])) hl
theorem Yn.row {els:List (List Cell)}{e b o c:Nat}{row:List Value}(he:∀ l∈els,l.length=e) (h0:0<e) (hc:els.length≤c) (hx:c≤maxLen)
  (hr:ZU S w els.flatten row) (hl:Zcm w b o row) (hS:∀ j,j<row.length→S b (o+j)):Yn S w (.slice .no els) (.slice (some ⟨b,o,none⟩) els.length c):=by
 have hlen:=Z3 he;have hrl:=hr.length
 have key:∀ (i:Nat) l,els[i]? = some l→∀ j,j<e→i * e+j<row.length:=by
  intro i l hl j hj;have hi:=Zm hl;have:(i+1) * e≤els.length * e:=Nat.mul_le_mul_right _ hi;rw[Nat.add_mul] at this;omega
 refine .slice els _ c e b o (fun i j=>row.getD (i * e+j) undef) hc hx he h0 (fun _=>rfl) (fun i l hl' j hj=>?_) (fun i l hl' j x hxj=>?_)
 ·have hk:=key i l hl' j hj
  refine⟨by rw[Nat.add_assoc]; exact hS _ hk,?_⟩;rw[Nat.add_assoc];exact hl _ _ (by simp[List.getD,hk])
 ·have hj:j<e:=by rw[← he l (List.mem_of_getElem? hl')]; exact Zm hxj
  have hk:=key i l hl' j hj;obtain⟨v,hv,hcv⟩:=hr.get ((Zjo he hl' hj).trans hxj);simpa[List.getD,hv] using hcv
theorem Yn.unrow {own:Own}{els:List (List Cell)}{v:Value}(h:Yn S w (.slice own els) v) (hne:els≠[]) :
  ∃ b o c e row,v = .slice (some ⟨b,o,none⟩) els.length c∧els.length≤c∧c≤maxLen∧0<e∧(∀ l∈els,l.length=e)∧ZU S w els.flatten row∧Zcm w b o row∧∀ j,j<row.length→S b (o+j):=by
 cases h with
 | nil a=>exact absurd rfl hne
 | slice _ a c e b o m hc hx he h0 ha hm hr =>
  have hlen:=Z3 he
  have hat:∀ q,q<els.length * e→∃ l,els[q / e]? = some l∧q % e<e∧q / e * e+q % e=q:=by
   intro q hq;have h1:q / e<els.length:=(Nat.div_lt_iff_lt_mul h0).2 hq;exact⟨els[q / e],by simp[h1],Nat.mod_lt _ h0,by rw[Nat.mul_comm]; exact Nat.div_add_mod q e⟩
  refine⟨b,o,c,e,(List.range (els.length * e)).map (fun q=>m (q / e) (q % e)),by rw[ha hne],hc,hx,h0,he,Zk.of_get (by simp[hlen]) fun i x y hx' hy=>?_,fun j u hu=>?_,fun j hj=>?_⟩
  ·have hi:i<els.length * e:=by rw[← hlen]; exact Zm hx'
   simp[hi] at hy
   subst hy;obtain⟨l,hl,h1,h2⟩:=hat i hi;rw[← h2,Zjo he hl h1] at hx';exact hr _ l hl _ _ hx'
  ·have hj:=Zm hu
   simp at hj
   simp[hj] at hu
   subst hu;obtain⟨l,hl,h1,h2⟩:=hat j hj;have:=(hm _ l hl _ h1).2;rw[Nat.add_assoc,h2] at this;exact this
  ·simp at hj
   obtain⟨l,hl,h1,h2⟩:=hat j hj;have:=(hm _ l hl _ h1).1
   rwa[Nat.add_assoc,h2] at this
theorem ZU.ones {cs:List Cell}{vs:List Value}(h:ZU S w cs vs):∀ v∈vs,v.oneCell'=true:=by
 induction h with
 | nil=>simp
 | cons h _ ih=>intro v hv; simp at hv; rcases hv with rfl | hv; exact h.one; exact ih v hv
theorem Yn.len {own:Own}{els:List (List Cell)}{v:Value}(h:Yn S w (.slice own els) v):∃ x c,v = .slice x els.length c∧els.length≤c∧c≤maxLen:=by
 cases h with
 | nil a=>exact⟨_,_,rfl,Nat.le_refl _,Nat.zero_le _⟩
 | slice _ a c e b o m hc hx he h0 ha hm hr=>exact⟨_,_,rfl,hc,hx⟩
theorem Yn.nil_no {own:Own}{v:Value}(h:Yn S w (.slice own []) v):∃ x c,v = .slice x 0 c:=by
 cases h with
 | nil a=>exact⟨_,_,rfl⟩
 | slice _ a c e b o m hc hx he h0 ha hm hr=>exact⟨_,_,rfl⟩
theorem Yn.no_empty (x:Option Addr){e:Nat}(he:0<e):Yn S w (.slice .no []) (.slice x 0 0) :=
 .slice [] x 0 e 0 0 (fun _ _=>undef) (Nat.le_refl _) (Nat.zero_le _) (by simp) he (by simp) (by simp) (by simp)
theorem Yn.nn {c:Cell}{v:Value}(h:Yn S w c v):Yn S w c.nn v:=by
 cases h with
 | v _ h1 h2=>exact .v _ h1 h2
 | nil a=>exact .slice [] a 0 1 0 0 (fun _ _=>undef) (Nat.le_refl _) (Nat.zero_le _) (by simp) (by omega) (by simp) (by simp) (by simp)
 | slice els a c e b o m hc hx he h0 ha hm hr=>exact .slice els a c e b o m hc hx he h0 ha hm hr
theorem Zk.map_left {α β γ:Type}{R:α→β→Prop}{R':γ→β→Prop}{f:α→γ}{l:List α}{m:List β}(h:Zk R l m) (hr:∀ a b,R a b→R' (f a) b):Zk R' (l.map f) m:=by
 induction h with
 | nil=>exact .nil
 | cons h _ ih=>exact .cons (hr _ _ h) ih
theorem Zk3 {z y:Nat}{x:Operand}{p:PV}{n:Nat}{code:BoundsCode}(h:Zl G B ks w0 S0 S bm st a w) (hx:rd G st.get x=some p) (hn:idxOf p=some n) (hle:n≤y):(Instr.sliceBound (a.eval x) y code).run P w = .ok n w:=by
 obtain⟨k,hk⟩:=Zb6 hn (h.eval hx);rw[hk];simp[Instr.sliceBound,asIntOf]
 omega
theorem ZlA {is:Bool}{len cap A b:Nat}{lo hi:Option Operand}{l hh:Option PV}(h:Zl G B ks w0 S0 S bm st a w) (hl:rdO G st.get lo=some l) (hh':rdO G st.get hi=some hh) (ha:Zes 0 l=some A) (hb:Zes len hh=some b)
  (hab:A≤b) (hbl:b≤len) (hlc:len≤cap):(Instr.sliceBounds is len cap (lo.map a.eval) (hi.map a.eval) none).run P w = .ok (A,b,cap) w:=by
 have h1:∀ x,lo=some x→∀ code,(Instr.sliceBound (a.eval x) b code).run P w = .ok A w:=by
  rintro x rfl code
  simp only[rdO] at hl;split at hl <;> simp at hl
  rename_i p hp;subst hl;exact Zk3 (z:=0) h hp ha hab
 have h0:lo=none→A=0:=by
  rintro rfl
  simp[rdO] at hl
  subst hl;simpa[Zes] using ha.symm
 have h2:∀ x,hi=some x→∀ code,(Instr.sliceBound (a.eval x) cap code).run P w = .ok b w:=by
  rintro x rfl code
  simp only[rdO] at hh';split at hh' <;> simp at hh'
  rename_i p hp;subst hh';exact Zk3 (z:=0) h hp hb (Nat.le_trans hbl hlc)
 have h3:hi=none→b=len:=by
  rintro rfl
  simp[rdO] at hh'
  subst hh';simpa[Zes] using hb.symm
 cases lo with
 | none =>
  have:=h0 rfl;subst this;cases hi with
  | none=>have:=h3 rfl; subst this; simp[Instr.sliceBounds]
  | some y=>simp[Instr.sliceBounds,h2 y rfl]
 | some x =>
  cases hi with
  | none=>have:=h3 rfl; subst this; simp[Instr.sliceBounds,h1 x rfl]
  | some y=>simp[Instr.sliceBounds,h1 x rfl,h2 y rfl]
theorem Zuj {els:List (List Cell)}{own:Own}{v:Value}{s A b:Nat}(h:Yn S w (.slice own els) v) (hab:A≤b) (hb:b≤els.length) (hs:∀ l∈els,l.length=s) :
  ∃ x c,v = .slice x els.length c∧els.length≤c∧Yn S w (.slice .no ((els.take b).drop A)) (.slice (if c=A then x else x.map (·.add (A * s))) (b-A) (c-A)):=by
 obtain⟨x,c,rfl,h1,h2⟩:=h.len;refine⟨x,c,rfl,h1,?_⟩;have hlen:((els.take b).drop A).length=b-A:=by simp; omega
 by_cases hne:A=b
 ·subst hne
  have he:(els.take A).drop A=[]:=List.drop_of_length_le (by simp; omega);rw[he,Nat.sub_self];have:=Yn.slice (S:=S) (w:=w) [] (if c=A then x else x.map (·.add (A * s))) (c-A) 1 0 0 (fun _ _=>undef) (Nat.zero_le _) (by omega) (by simp) (by omega) (by simp) (by simp) (by simp);exact this
 ·have hne':els≠[]:=by rintro rfl; simp at hb; omega
  obtain⟨b0,o0,c0,e0,row,hv,hc,hx,h0,he,hr,hl,hS⟩:=h.unrow hne';injection hv with hv _ hcc;subst hv hcc
  have hes:e0=s:=by
   obtain⟨l,hl'⟩:=List.exists_mem_of_ne_nil els hne';rw[← he l hl',hs l hl']
  subst hes;have hcA:¬ c=A:=by omega
  rw[if_neg hcA];simp only[Option.map_some,Addr.add_lit];rw[← hlen];have hsub:∀ l∈(els.take b).drop A,l.length=e0:=fun l hl=>he l (List.mem_of_mem_take (List.mem_of_mem_drop hl))
  have hfl:∀ n:Nat,(els.take n).flatten.length=(min n els.length) * e0:=fun n=>by
   rw[Z3 fun l hl=>he l (List.mem_of_mem_take hl)]; simp
  have hflat:((els.take b).drop A).flatten=(els.flatten.drop (A * e0)).take ((b-A) * e0):=by
   have e1:els.flatten=(els.take A).flatten++((els.take b).drop A).flatten++(els.drop b).flatten:=by
    rw[← List.flatten_append,← List.flatten_append]
    congr 1
    have:els.take A=(els.take b).take A:=by rw[List.take_take]; congr 1; omega
    rw[this,List.take_append_drop,List.take_append_drop]
   have hA:(els.take A).flatten.length=A * e0:=by rw[hfl]; congr 1; omega
   have hB:((els.take b).drop A).flatten.length=(b-A) * e0:=by rw[Z3 hsub,hlen]
   generalize (els.take A).flatten=F1 at e1 hA;generalize ((els.take b).drop A).flatten=F2 at e1 hB;rw[e1,List.append_assoc,List.drop_left' hA,List.take_left' hB]
  have hr':ZU S w ((els.take b).drop A).flatten ((row.drop (A * e0)).take ((b-A) * e0)):=by rw[hflat]; exact(hr.drop _).take _
  have:=Yn.row (S:=S) (w:=w) (b:=b0) (o:=o0+A * e0) (c:=c-A) hsub h0 (by rw[hlen]; omega) (by omega) hr' ((hl.drop _).take _) (fun j hj=>by
   rw[Nat.add_assoc];refine hS _ ?_;simp at hj
   omega)
  exact this
theorem Ztb {els:List (List Cell)}{own:Own}{v:Value}{s A b cc:Nat}(h:Yn S w (.slice own els) v) (hab:A≤b) (hbc:b≤cc) (hcc':cc≤els.length) (hs:∀ l∈els,l.length=s) :
  ∃ x c,v = .slice x els.length c∧els.length≤c∧Yn S w (.slice .no ((els.take b).drop A)) (.slice (if cc=A then x else x.map (·.add (A * s))) (b-A) (cc-A)):=by
 have hb:b≤els.length:=Nat.le_trans hbc hcc';obtain⟨x,c,rfl,h1,h2⟩:=h.len;refine⟨x,c,rfl,h1,?_⟩;have hlen:((els.take b).drop A).length=b-A:=by simp; omega
 by_cases hne:A=b
 ·subst hne
  have he:(els.take A).drop A=[]:=List.drop_of_length_le (by simp; omega);rw[he,Nat.sub_self];have:=Yn.slice (S:=S) (w:=w) [] (if cc=A then x else x.map (·.add (A * s))) (cc-A) 1 0 0 (fun _ _=>undef) (Nat.zero_le _) (by omega) (by simp) (by omega) (by simp) (by simp) (by simp);exact this
 ·have hne':els≠[]:=by rintro rfl; simp at hb; omega
  obtain⟨b0,o0,c0,e0,row,hv,hc,hx,h0,he,hr,hl,hS⟩:=h.unrow hne';injection hv with hv _ hcc;subst hv hcc
  have hes:e0=s:=by
   obtain⟨l,hl'⟩:=List.exists_mem_of_ne_nil els hne';rw[← he l hl',hs l hl']
  subst hes;have hcA:¬ cc=A:=by omega
  rw[if_neg hcA];simp only[Option.map_some,Addr.add_lit];rw[← hlen];have hsub:∀ l∈(els.take b).drop A,l.length=e0:=fun l hl=>he l (List.mem_of_mem_take (List.mem_of_mem_drop hl))
  have hfl:∀ n:Nat,(els.take n).flatten.length=(min n els.length) * e0:=fun n=>by
   rw[Z3 fun l hl=>he l (List.mem_of_mem_take hl)]; simp
  have hflat:((els.take b).drop A).flatten=(els.flatten.drop (A * e0)).take ((b-A) * e0):=by
   have e1:els.flatten=(els.take A).flatten++((els.take b).drop A).flatten++(els.drop b).flatten:=by
    rw[← List.flatten_append,← List.flatten_append]
    congr 1
    have:els.take A=(els.take b).take A:=by rw[List.take_take]; congr 1; omega
    rw[this,List.take_append_drop,List.take_append_drop]
   have hA:(els.take A).flatten.length=A * e0:=by rw[hfl]; congr 1; omega
   have hB:((els.take b).drop A).flatten.length=(b-A) * e0:=by rw[Z3 hsub,hlen]
   generalize (els.take A).flatten=F1 at e1 hA;generalize ((els.take b).drop A).flatten=F2 at e1 hB;rw[e1,List.append_assoc,List.drop_left' hA,List.take_left' hB]
  have hr':ZU S w ((els.take b).drop A).flatten ((row.drop (A * e0)).take ((b-A) * e0)):=by rw[hflat]; exact(hr.drop _).take _
  have:=Yn.row (S:=S) (w:=w) (b:=b0) (o:=o0+A * e0) (c:=cc-A) hsub h0 (by rw[hlen]; omega) (by omega) hr' ((hl.drop _).take _) (fun j hj=>by
   rw[Nat.add_assoc];refine hS _ ?_;simp at hj
   omega)
  exact this
theorem Ztc (htt:∀ t i,tt t=some i→Z0 P t=some i) (h:Zl G B ks w0 S0 S bm st a w){t:TypeId}{x:Operand}{lo hi:Option Operand}{p:PV}(hp:ZC tt G st.get (.slice t x lo hi none)=some p) :
  Val P S bm st.boxes w (Instr.sliceAt t (a.eval x) (lo.map a.eval) (hi.map a.eval) none) p:=by
 simp only[ZC] at hp;split at hp
 ·rename_i i q l hh hi' hx hl hhh
  have ht:=Zn (htt _ _ hi');have hx' := h.eval hx;split at hp
  ·rename_i e _ els hk
   split at hp
   ·rename_i A b s hA hb hs
    split at hp <;> simp at hp
    rename_i hc;subst hp;obtain⟨ei,hei,hes⟩:=XS htt hs;have hu:=ht.slice hk;generalize a.eval x=vx at hx' ⊢;cases hx' with
    | base hx'=>cases hx' with
     | one hx' =>
      obtain⟨y,c,rfl,h1,h2⟩:=Zuj (hx'.pureC rfl) hc.1 hc.2.1 hc.2.2;refine⟨_,?_,.base (.one (.pure h2))⟩;have hbd:=ZlA (P:=P) (is:=true) h hl hhh hA hb hc.1 hc.2.1 h1;simp[Instr.sliceAt,Instr.slice,run_underlying hu,hbd,hei.run_size,hes]
   ·simp at hp
  ·rename_i e nm ver k m s hk
   split at hp
   ·rename_i A b hA hb
    split at hp <;> simp at hp
    rename_i hc;subst hp;obtain⟨ei,hei,hes⟩:=XS htt hc.2.2;have hu:=ht.slice hk;generalize a.eval x=vx at hx' ⊢;cases hx' with
    | base hx'=>cases hx' with
     | one hx'=>cases hx' with
      | pure hx'=>cases hx'
      | ms _ _ _ _ _ y c hmap h1 h2 h3 h4 =>
       have hbd:=ZlA (P:=P) (is:=true) h hl hhh hA hb hc.1 hc.2.1 h1;refine⟨.slice (if c=A then y else y.map (·.add (A * s))) (b-A) (c-A),by simp[Instr.sliceAt,Instr.slice,run_underlying hu,hbd,hei.run_size,hes],.base (.one (.ms _ _ _ _ _ _ _ hmap (by omega) (by omega) (fun h0=>?_) ?_))⟩
       ·obtain⟨kk,rfl⟩:=h3 (by omega)
        rw[if_neg (by omega)];exact⟨kk,by simp[Addr.add_lit,Nat.add_mul]⟩
       ·obtain⟨bb,b1,b2,b3⟩:=h4
        refine⟨bb,b1,b2,fun hv=>?_⟩;obtain⟨q1,q2,q3⟩:=b3 hv;refine⟨q1,q2,?_⟩;unfold Loc at q3 ⊢;split at q3
        ·rename_i k' C hbm
         intro h0;rcases h0 with h0 | h0
         ·obtain⟨e1,e2⟩:=q3 (.inl (by omega))
          subst e1;rw[if_neg (by omega)];exact⟨by simp[Addr.add_lit,Nat.add_mul],by omega⟩
         ·have hA0:A=0:=by omega
          subst hA0;obtain⟨e1,e2⟩:=q3 (.inr (by omega));subst e1;refine⟨?_,by omega⟩;split
          ·simp
          ·simp[Addr.add_lit]
        ·omega
   ·simp at hp
  ·rename_i e nm ver k m s hk
   split at hp
   ·rename_i A b hA hb
    split at hp <;> simp at hp
    rename_i hc;subst hp;obtain⟨ei,hei,hes⟩:=XS htt hc.2.2;have hu:=ht.slice hk;generalize a.eval x=vx at hx' ⊢;cases hx' with
    | base hx'=>cases hx' with
     | one hx'=>cases hx' with
      | pure hx'=>cases hx'
      | fv _ _ _ _ _ y c hmap h1 h2 h3 h4 =>
       have hbd:=ZlA (P:=P) (is:=true) h hl hhh hA hb hc.1 hc.2.1 h1;refine⟨.slice (if c=A then y else y.map (·.add (A * s))) (b-A) (c-A),by simp[Instr.sliceAt,Instr.slice,run_underlying hu,hbd,hei.run_size,hes],.base (.one (.fv _ _ _ _ _ _ _ hmap (by omega) (by omega) (fun h0=>?_) ?_))⟩
       ·obtain⟨kk,rfl⟩:=h3 (by omega)
        rw[if_neg (by omega)];exact⟨kk,by simp[Addr.add_lit]⟩
       ·obtain⟨bb,b1,b2,b3⟩:=h4
        refine⟨bb,b1,b2,fun hv h0=>?_⟩;obtain⟨k',C,q1,q2⟩:=b3 hv (by omega);subst q2;rw[if_neg (by omega)];exact⟨k',C,q1,by simp[Addr.add_lit]⟩
   ·simp at hp
  ·rename_i m e nm ver o _ hk
   split at hp
   ·rename_i A b s hA hb hs
    split at hp <;> simp at hp
    rename_i hc;subst hp;obtain⟨ei,hei,hes⟩:=XS htt hs;have hu:=ht.array hk;generalize a.eval x=vx at hx' ⊢;cases hx' with
    | base hx'=>cases hx' with
     | ptr _ _ _ _ _ kk hmap hk' =>
      have hbd:=ZlA (P:=P) (is:=false) h hl hhh hA hb hc.1 hc.2.1 (Nat.le_refl _);refine⟨.slice (some (if m=A then⟨kk,o,none⟩ else(⟨kk,o,none⟩:Addr).add (A * s))) (b-A) (m-A),by simp[Instr.sliceAt,run_underlying hu,hbd,hei.run_size,hes,Instr.sureAddr],.base (.one (.fv _ _ _ _ _ _ _ hmap (by omega) (by omega) (fun h0=>?_) ?_))⟩
      ·rw[if_neg (by omega)]
       exact⟨kk,by simp[Addr.add_lit]⟩
      ·obtain⟨bb,b1,b2,b3⟩:=hk'
       refine⟨bb,b1,b2,fun hv h0=>?_⟩;obtain⟨_,C,q1⟩:=b3 hv;rw[if_neg (by omega)];exact⟨kk,C,q1,by simp[Addr.add_lit]⟩
   ·simp at hp
  ·simp at hp
 ·simp at hp
theorem ZoT {len cap A b c:Nat}{lo:Option Operand}{hx mx:Operand}{l:Option PV}{hv qv:PV}(h:Zl G B ks w0 S0 S bm st a w) (hl:rdO G st.get lo=some l) (hh:rd G st.get hx=some hv) (hq:rd G st.get mx=some qv) (ha:Zes 0 l=some A) (hb:idxOf hv=some b) (hc:idxOf qv=some c)
  (hab:A≤b) (hbc:b≤c) (hcc:c≤cap):(Instr.sliceBounds true len cap (lo.map a.eval) (some (a.eval hx)) (some (a.eval mx))).run P w = .ok (A,b,c) w:=by
 have h1:∀ x,lo=some x→∀ code,(Instr.sliceBound (a.eval x) b code).run P w = .ok A w:=by
  rintro x rfl code
  simp only[rdO] at hl;split at hl <;> simp at hl
  rename_i p hp;subst hl;exact Zk3 (z:=0) h hp ha hab
 have h0:lo=none→A=0:=by
  rintro rfl
  simp[rdO] at hl
  subst hl;simpa[Zes] using ha.symm
 have h2:∀ code,(Instr.sliceBound (a.eval hx) c code).run P w = .ok b w:=fun code=>Zk3 (z:=0) h hh hb hbc
 have h3:∀ code,(Instr.sliceBound (a.eval mx) cap code).run P w = .ok c w:=fun code=>Zk3 (z:=0) h hq hc hcc
 cases lo with
 | none =>
  have:=h0 rfl;subst this;simp[Instr.sliceBounds,h2,h3]
 | some x=>simp[Instr.sliceBounds,h1 x rfl,h2,h3]
theorem Zuk (htt:∀ t i,tt t=some i→Z0 P t=some i) (h:Zl G B ks w0 S0 S bm st a w){t:TypeId}{x:Operand}{lo:Option Operand}{hx mx:Operand}{p:PV}(hp:ZC tt G st.get (.slice t x lo (some hx) (some mx))=some p) :
  Val P S bm st.boxes w (Instr.sliceAt t (a.eval x) (lo.map a.eval) (some (a.eval hx)) (some (a.eval mx))) p:=by
 simp only[ZC] at hp;split at hp
 ·rename_i i q l hh qq hi' hxx hl hhh hqq
  have ht:=Zn (htt _ _ hi');have hx' := h.eval hxx;split at hp
  ·rename_i e nm ver k m s b c hk hb hc0
   split at hp
   ·rename_i A hA
    split at hp <;> simp at hp
    rename_i hc;subst hp;obtain⟨ei,hei,hes⟩:=XS htt hc.2.2.2;have hu:=ht.slice hk;generalize a.eval x=vx at hx' ⊢;cases hx' with
    | base hx'=>cases hx' with
     | one hx'=>cases hx' with
      | pure hx'=>cases hx'
      | ms _ _ _ _ _ y c0 hmap h1 h2 h3 h4 =>
       have hbd:=ZoT (P:=P) (len:=m) (cap:=c0) h hl hhh hqq hA hb hc0 hc.1 hc.2.1 (by omega);refine⟨.slice (if c=A then y else y.map (·.add (A * s))) (b-A) (c-A),by simp[Instr.sliceAt,Instr.slice,run_underlying hu,hbd,hei.run_size,hes],.base (.one (.ms _ _ _ _ _ _ _ hmap (by omega) (by omega) (fun h0=>?_) ?_))⟩
       ·obtain⟨kk,rfl⟩:=h3 (by omega)
        rw[if_neg (by omega)];exact⟨kk,by simp[Addr.add_lit,Nat.add_mul]⟩
       ·obtain⟨bb,b1,b2,b3⟩:=h4
        refine⟨bb,b1,b2,fun hv=>?_⟩;obtain⟨q1,q2,q3⟩:=b3 hv;refine⟨q1,q2,?_⟩;unfold Loc at q3 ⊢;split at q3
        ·rename_i k' C hbm
         intro h0;rcases h0 with h0 | h0
         ·obtain⟨e1,e2⟩:=q3 (.inl (by omega))
          subst e1;rw[if_neg (by omega)];exact⟨by simp[Addr.add_lit,Nat.add_mul],by omega⟩
         ·have hA0:A=0:=by omega
          subst hA0;obtain⟨e1,e2⟩:=q3 (.inr (by omega));subst e1;refine⟨?_,by omega⟩;split
          ·simp
          ·simp[Addr.add_lit]
        ·omega
   ·simp at hp
  ·rename_i e _ els b c hk hb hc0
   split at hp
   ·rename_i A s hA hs
    split at hp <;> simp at hp
    rename_i hc;subst hp;obtain⟨ei,hei,hes⟩:=XS htt hs;have hu:=ht.slice hk;generalize a.eval x=vx at hx' ⊢;cases hx' with
    | base hx'=>cases hx' with
     | one hx' =>
      obtain⟨y,c0,rfl,h1,h2⟩:=Ztb (hx'.pureC rfl) hc.1 hc.2.1 hc.2.2.1 hc.2.2.2;refine⟨_,?_,.base (.one (.pure h2))⟩;have hbd:=ZoT (P:=P) (len:=els.length) (cap:=c0) h hl hhh hqq hA hb hc0 hc.1 hc.2.1 (by omega);simp[Instr.sliceAt,Instr.slice,run_underlying hu,hbd,hei.run_size,hes]
   ·simp at hp
  ·simp at hp
 ·simp at hp
theorem Ztd (htt:∀ t i,tt t=some i→Z0 P t=some i) (h:Zl G B ks w0 S0 S bm st a w){t:TypeId}{x:Operand}{p:PV}(hp:ZC tt G st.get (.sliceToArrayPointer t x)=some p) :
  Val P S bm st.boxes w (Instr.arrayAt t (a.eval x)) p:=by
 simp only[ZC] at hp;split at hp
 ·rename_i i _ els hi hx
  have ht:=Zn (htt _ _ hi);have hx' := h.evalC hx;generalize a.eval x=vx at hx' ⊢;split at hp
  ·rename_i n e hk
   split at hp
   ·rename_i s hs
    split at hp <;> simp at hp
    rename_i hc;subst hp;have hu:=ht.array hk;have hne:els≠[]:=by rintro rfl; simp at hc; omega
    obtain⟨b0,o0,c0,e0,row,rfl,h1,h2,h3,h4,h5,h6,h7⟩:=(hx'.pureC rfl).unrow hne;refine⟨.pointer (some ⟨b0,o0,none⟩),?_,.base (.ref b0 o0 row h5 h7 h6)⟩;simp[Instr.arrayAt,run_underlying hu]
    omega
   ·simp at hp
  ·simp at hp
 ·rename_i i nm ver k n e hi hx
  have ht:=Zn (htt _ _ hi);have hx' := h.evalC hx;generalize a.eval x=vx at hx' ⊢;split at hp
  ·rename_i m t' hk
   split at hp <;> simp at hp
   rename_i hc;subst hp;have hu:=ht.array hk;cases hx' with
   | pure hx'=>cases hx'
   | ms _ _ _ _ _ x c hmap hnc hcm hx0 hr =>
    obtain⟨k0,rfl⟩:=hx0 (by omega);refine⟨.pointer (some ⟨k0,k * e,none⟩),?_,.base ?_⟩
    ·simp[Instr.arrayAt,run_underlying hu]
     omega
    ·obtain⟨bb,b1,b2,b3⟩:=hr
     have:=ZaK.ptr (S:=S) (w:=w) (bm:=bm) (bx:=st.boxes) nm ver 0 (k * e) (m * e) k0 hmap ⟨bb,b1,b2,fun hv=>by
      obtain⟨_,_,hl⟩:=b3 hv;refine⟨.inl rfl,?_⟩;unfold Loc at hl;split at hl
      ·rename_i k1 C1 e1
       have:=(hl (.inl (by omega))).1;simp at this
       exact⟨C1,by rw[e1,this]⟩
      ·omega⟩
     simpa using this
  ·simp at hp
 ·simp at hp
theorem Zmr {f:Int→Int→Int}{g:Value→Value→Sem Value}(hg:∀ k x y,g (.int k x) (.int k y)=pure (.int k (f x y))):∀ {ps:List PV}{vs:List Value}{k:IntKind}{x m:Int},Zk (X9 S w bm bx) ps vs→Zjl f k x ps=some m →
  (vs.foldlM g (.int k x)).run P w = .ok (.int k m) w
 | [],vs,k,x,m,h,hm=>by cases h; simp[Zjl] at hm; subst hm; rfl
 | p :: ps,vs,k,x,m,h,hm=>by
  cases h with
  | cons h1 h2 =>
   unfold Zjl at hm;split at hm
   ·simp at *
   ·rename_i k' b l heq
    injection heq with e1 e2;subst e1 e2;split at hm
    case isFalse=>simp at hm
    rename_i hk;subst hk;cases h1 with
    | base h1=>cases h1 with
     | one h1 =>
      have h1:=h1.pureC rfl;cases h1
      simp only[List.foldlM_cons,hg];simpa using Zmr hg h2 hm
   ·simp at hm
theorem Zr1 (h:Zl G B ks w0 S0 S bm st a w){x:Operand}{p:PV}(ho:o.op = .nilCheck x) (hp:ZC tt G st.get (.nilCheck x)=some p):∃ v,(execOp a.eval o).run P w = .ok (.value v) w∧X9 S w bm st.boxes p v:=by
 simp only[ZC] at hp;split at hp <;> (try simp at hp)
 all_goals
  rename_i hx;subst hp;have hx' := h.evalB hx (by simp);refine⟨a.eval x,?_,.base hx'⟩;simp only[execOp,ho];generalize a.eval x=vx at hx' ⊢;cases hx'
  rfl
theorem caps_ok:∀ {ps:List PV}{vs:List Value},Zk (X9 S w bm bx) ps vs→ps.all capOk=true→Zk (Zd8 S w bm bx) ps vs
 | [],vs,h,_=>by cases h; exact .nil
 | p :: ps,vs,h,hc=>by
  cases h with
  | cons h1 h2 =>
   simp only[List.all_cons,Bool.and_eq_true] at hc;refine .cons ?_ (caps_ok h2 hc.2);cases h1 with
   | base h1=>exact h1.cap hc.1
   | tup h1=>simp[capOk] at hc
theorem ZfW {x:Sem Value}{p:PV}(hx:execOp a.eval o=(do pure (.value (← x)))) (h:Val P S bm bx w x p):∃ v,(execOp a.eval o).run P w = .ok (.value v) w∧X9 S w bm bx p v:=by
 obtain⟨v,h1,h2⟩:=h;exact⟨v,by rw[hx]; simp[h1],h2⟩
theorem ZpP (htt:∀ t i,tt t=some i→Z0 P t=some i) (h:Zl G B ks w0 S0 S bm st a w){p:PV}(hp:ZC tt G st.get o.op=some p) :
  ∃ v,(execOp a.eval o).run P w = .ok (.value v) w∧X9 S w bm st.boxes p v:=by
 cases hop:o.op <;> rw[hop] at hp
 case move x=>exact⟨a.eval x,by simp[execOp,hop],h.eval (by simpa[ZC] using hp)⟩
 case assign x=>exact⟨a.eval x,by simp[execOp,hop],h.eval (by simpa[ZC] using hp)⟩
 case nilCheck x=>exact Zr1 h hop hp
 case pick c x y =>
  obtain⟨v,h1,h2⟩:=Zw7 (P:=P) h hp;refine⟨v,?_,h2⟩;simp at h1
  simp only[execOp,hop,Sem.run_bind,Sem.run_pure];generalize (asBool (a.eval c)).run P w=r at h1;cases r with
  | ok b w'=>simp at h1 ⊢; obtain⟨rfl,rfl⟩:=h1; simp
  | halt _ _=>simp[Result.andThen] at h1
 case build t parts=>exact ZfW (by simp only[execOp,hop]) (ZvP htt h hp)
 case binOp op t x y t'=>exact ZfW (by simp only[execOp,hop]) (Zui htt h hp)
 case unOp op t x=>exact ZfW (by simp only[execOp,hop]) (Zw8 h hp)
 case convert s d x=>exact ZfW (by simp only[execOp,hop]) (Zs8 htt h hp)
 case fieldAddr s x f=>exact ZfW (by simp only[execOp,hop]) (ZqQ htt h hp)
 case field s x f=>exact ZfW (by simp only[execOp,hop]) (ZvN htt h hp)
 case indexAddr t x i=>exact ZfW (by simp only[execOp,hop]) (ZqR htt h hp)
 case index t x i=>exact ZfW (by simp only[execOp,hop]) (ZvO htt h hp)
 case extract x n=>exact ZfW (by simp only[execOp,hop]) (Zta h hp)
 case slice t x lo hi mx =>
  cases mx with
  | none=>exact ZfW (by simp only[execOp,hop]; rfl) (Ztc htt h hp)
  | some mx=>cases hi with
   | none=>simp[ZC] at hp
   | some hx=>exact ZfW (by simp only[execOp,hop]; rfl) (Zuk htt h hp)
 case sliceToArrayPointer t x=>exact ZfW (by simp only[execOp,hop]) (Ztd htt h hp)
 case call c =>
  unfold ZC at hp;split at hp
  all_goals first
   | (simp at hp; done)
   | (rename_i heq; cases heq; done)
   | skip
  ·rename_i x t heq
   injection heq with heq;subst heq;obtain⟨v,h1,h2⟩:=Zyj (P:=P) (ty:=o.type) htt h (x:=x) (t:=t) (p:=p) (by simp only[ZC]; exact hp);refine⟨v,?_,h2⟩;simp only[execOp,hop,resolve,Sem.run_bind,Sem.run_pure,Result.andThen_ok,invoke,builtin];simp[h1]
  ·rename_i args ts heq
   injection heq with heq;subst heq;split at hp
   ·rename_i k x l hl
    split at hp <;> simp at hp
    rename_i m hm;subst hp;have hr:=Zm5 h hl;have he:args.toList.map a.eval=(args.map a.eval).toList:=by simp
    rw[he] at hr;refine⟨.int k m,?_,.base (.one (.pure (.v _ rfl (by simp))))⟩
    have hmin:(Builtin.min_ ts o.type (args.map a.eval)).run P w = .ok (.int k m) w:=by
     unfold Builtin.min_;generalize (args.map a.eval).toList=vs at hr;cases hr with
     | cons h1 h2 =>
      cases h1 with
      | base h1=>cases h1 with
       | one h1 =>
        have h1:=h1.pureC rfl;cases h1
        exact Zmr (fun k x y=>rfl) h2 hm
    simp only[execOp,hop,resolve,Sem.run_bind,Sem.run_pure,Result.andThen_ok,invoke,builtin];simp[hmin]
   ·simp at hp
  ·rename_i args ts heq
   injection heq with heq;subst heq;split at hp
   ·rename_i k x l hl
    split at hp <;> simp at hp
    rename_i m hm;subst hp;have hr:=Zm5 h hl;have he:args.toList.map a.eval=(args.map a.eval).toList:=by simp
    rw[he] at hr;refine⟨.int k m,?_,.base (.one (.pure (.v _ rfl (by simp))))⟩
    have hmin:(Builtin.max_ ts o.type (args.map a.eval)).run P w = .ok (.int k m) w:=by
     unfold Builtin.max_;generalize (args.map a.eval).toList=vs at hr;cases hr with
     | cons h1 h2 =>
      cases h1 with
      | base h1=>cases h1 with
       | one h1 =>
        have h1:=h1.pureC rfl;cases h1
        exact Zmr (fun k x y=>rfl) h2 hm
    simp only[execOp,hop,resolve,Sem.run_bind,Sem.run_pure,Result.andThen_ok,invoke,builtin];simp[hmin]
   ·simp at hp
 case makeFunc fn first caps =>
  cases fn with
  | func f =>
   simp only[ZC] at hp;split at hp
   ·rename_i hf
    split at hp
    ·rename_i ps hps
     split at hp <;> simp only[Option.some.injEq,reduceCtorEq] at hp
     rename_i hc;subst hp;have hr:=Zm5 h hps;have hf0:first = #[]:=by simpa using hf
     subst hf0;refine⟨.func (.func f) #[] (caps.map a.eval),by simp[execOp,hop,Instr.makeFunc],.base ?_⟩;have:=ZaK.clo (f:=f) (caps_ok hr hc);have he:(List.map a.eval caps.toList).toArray=caps.map a.eval:=by rw[← Array.toList_map]
     rw[he] at this;exact this
    ·simp at hp
   ·simp at hp
  | _=>simp[ZC] at hp
 all_goals (simp[ZC] at hp)
end
structure ZdG (w w':World) (arr:Array Value) (T:TypeId):Prop where
 os:w'.os=w.os
 tape:w'.tape=w.tape
 output:w'.output=w.output
 size:w'.heap.size=w.heap.size+1
 old:∀ b,b<w.heap.size→w'.heap[b]? = w.heap[b]?
 new:w'.heap[w.heap.size]? = some (.cells arr T (0,0))
theorem ZdG.alloc (w:World) (arr:Array Value) (T:TypeId):ZdG w (w.alloc (.cells arr T)) arr T:=by
 have:=(Below.refl w.heap.size w).alloc (Nat.le_refl _) (.cells arr T);exact⟨this.os,this.tape,this.output,by simp,this.block,heap_alloc_new w _⟩
theorem ZdG.drew (w:World) (arr:Array Value) (T:TypeId):ZdG w (w.drew.alloc (.cells arr T)) arr T:=by
 have:=ZdG.alloc w.drew arr T;exact⟨this.os,this.tape,this.output,this.size,this.old,this.new⟩
section
variable {P:Program}{tt:TT}{T:Tab}{G:Glob}{B:Nat}{ks:List Nat}{w0:World}{S0 S S':Nat→Nat→Prop}{bm bm':BM}{bx:Boxes}{st st':ASt}{a:Act}{w w':World}{Q:Exit→Act→World→Prop}{o:Oper}
theorem Yi {K:Act→World→Prop}{v:Value}(h:(execOp a.eval o).run P w = .ok (.value v) w') (hk:K (a.put o.dst v) w'):o.wp P a w K Q:=by
 unfold Oper.wp;rw[h];exact hk
theorem Zov {K:Act→World→Prop}(h:(execOp a.eval o).run P w = .ok .skip w') (hk:K (a.put o.dst undef) w'):o.wp P a w K Q:=by
 unfold Oper.wp;rw[h];exact hk
theorem Zl.put (h:Zl G B ks w0 S0 S bm st a w) (d:Nat){p:PV}{v:Value}(hp:X9 S w bm st.boxes p v):Zl G B ks w0 S0 S bm ⟨st.env.set d p,st.boxes⟩ (a.put (some d) v) w:=by
 refine⟨h.dfr,by simp[Act.put,h.size],fun i q u hq hu=>?_,h.boxes,h.inj,h.below,h.base,h.mono,h.fresh,h.slt,h.glob,h.ksin⟩;simp only[Act.put] at hu;rw[List.getElem?_set] at hq;rw[Array.getElem?_setIfInBounds] at hu;by_cases hd:d=i
 ·subst hd
  simp at hq hu
  obtain⟨_,rfl⟩:=hq;obtain⟨_,rfl⟩:=hu;exact hp
 ·simp only[hd,if_false] at hq hu
  exact h.slots i q u hq hu
theorem Zl.putDst (h:Zl G B ks w0 S0 S bm st a w) (d:Option Nat){p:PV}{v:Value}(hp:X9 S w bm st.boxes p v):Zl G B ks w0 S0 S bm ⟨Y5 st.env (Zdb d p),st.boxes⟩ (a.put d v) w:=by
 cases d with
 | none=>exact h
 | some d=>exact h.put d hp
theorem Zl.drew (h:Zl G B ks w0 S0 S bm st a w):Zl G B ks w0 S0 S bm st a w.drew :=
 h.change ZaX.refl (fun _ _ h=>h) (fun _ _ _=>rfl) (XE.refl _ _ _).drew (fun _ _ h=>.inl h) h.slt (fun nm b hb=>.inl ⟨hb,rfl,fun _ _ _=>⟨rfl,fun _ h=>h⟩⟩) h.inj
theorem Zoc {nm:Nat}{b':Box}{X:Box→Prop}(hv:b'.ver=Zr bx nm):∀ b,getB bx nm=some b→b.ver≤b'.ver∧(b'.ver=b.ver→X b):=by
 intro b hb;have:Zr bx nm=b.ver+1:=by simp[Zr,hb]
 exact⟨by omega,fun h=>by omega⟩
theorem Zl.newBox (h:Zl G B ks w0 S0 S bm st a w) (nm:Nat){e C:Nat}{els:List (List Cell)}{rw':Bool}{arr:Array Value}{Ty:TypeId}(hnb:ZdG w w' arr Ty) (hes:∀ l∈els,l.length=e) (hC:els.length≤C) (hcm:C≤maxLen)
  (hsz:C * e≤arr.size) (hone:rw'=false→C=1) (hn:nm<1000000) (hrep:∀ (i:Nat) c v,els.flatten[i]? = some c→arr[i]? = some v→ZW S w bm st.boxes c v) :
  Zl G B ks w0 S0 S (fun m=>if m=nm then some (w.heap.size,C) else bm m) ⟨st.env,setB st.boxes nm ⟨Zr st.boxes nm,e,els,false,rw'⟩⟩ a w' := by
 have hlt:w.heap.size<w'.heap.size:=by rw[hnb.size]; omega
 have hS0:∀ o,¬ S w.heap.size o:=fun o hs=>Nat.lt_irrefl _ (h.slt _ _ hs)
 have hver:=Zoc (bx:=st.boxes) (nm:=nm) (b' := ⟨Zr st.boxes nm,e,els,false,rw'⟩) (X:=fun b=>e=b.e∧rw'=b.row∧some (w.heap.size,C)=bm nm) rfl;refine h.box1 nm ⟨Zr st.boxes nm,e,els,false,rw'⟩ w.heap.size C hver (.inl (Nat.le_refl _)) ⟨hnb.os,hnb.tape,hnb.output,by omega,fun arr T h=>absurd (Zaa h) (Nat.lt_irrefl _)⟩ (fun b hb _=>hnb.old b hb) (fun _ _ h=>h) (fun o hs=>absurd hs (hS0 o)) (fun _ _ h=>.inl h) hlt ?_;have hnm:ZB nm=false:=Zdn (by omega);refine⟨fun _=>hes,fun hf=>by simp at hf,?_⟩;simp only[if_true];refine⟨.inl ⟨Zug hn,.inl h.base⟩,⟨fun _=>⟨arr,Ty,hnb.new,hsz,fun i c v hc hv=>(hrep i c v hc hv).mono (fun _ _ h=>h) (fun b o hs=>World.cell?_of_block (a:=⟨b,o,none⟩) (hnb.old b (h.slt _ _ hs))) ?_⟩,fun hm=>by rw[hnm] at hm; cases hm⟩,fun _=>hC,hcm,fun o hs=>absurd hs (hS0 o),fun hf=>by simp at hf,hone⟩;intro m b hb;by_cases hm:nm=m
 ·subst hm
  exact⟨_,getB_self,(hver b hb).1,fun hv=>by obtain⟨e1,e2,e3⟩:=(hver b hb).2 hv; exact⟨e1,e2,by simpa using e3⟩⟩
 ·exact⟨b,by rw[Xa hm]; exact hb,Nat.le_refl _,fun _=>⟨rfl,rfl,by simp[Ne.symm hm]⟩⟩
theorem Zl.lies (h:Zl G B ks w0 S0 S bm st a w){nm k C:Nat}{b:Box}(hmap:ZB nm=false) (hb:getB st.boxes nm=some b) (hk:bm nm=some (k,C)){i:Nat}{l:List Cell}(hl:b.els[i]? = some l) :
  ∃ vs:List Value,Zcm w k (i * b.e) vs∧Zk (ZW S w bm st.boxes) l vs:=by
 obtain⟨hes,_,hB⟩:=h.boxes nm b hb;have hes:=hes hmap;rw[hk] at hB;obtain⟨arr,Ty,h1,h2,h3⟩:=hB.blk hmap;have hll:l.length=b.e:=hes l (List.mem_of_getElem? hl);have hi:=Zm hl
 have hle:i * b.e+b.e≤arr.size:=by
  have:(i+1) * b.e≤C * b.e:=Nat.mul_le_mul_right _ (by have:=hB.room hmap; omega);rw[Nat.add_mul] at this;omega
 refine⟨(arr.toList.drop (i * b.e)).take b.e,fun j u hu=>?_,Zk.of_get (by simp[hll]; omega) fun j c v hc hv=>?_⟩
 ·have hj:=Zm hu
  simp at hj
  rw[List.getElem?_take_of_lt (by omega),List.getElem?_drop] at hu;simp only[World.cell?,h1];simpa using hu
 ·have hj:=Zm hc
  rw[List.getElem?_take_of_lt (by omega),List.getElem?_drop] at hv;exact h3 (i * b.e+j) c v (by rw[Zjo hes hl (by omega)]; exact hc) (by simpa using hv)
theorem Zl.liesAll (h:Zl G B ks w0 S0 S bm st a w){nm k C:Nat}{b:Box}(hmap:ZB nm=false) (hb:getB st.boxes nm=some b) (hk:bm nm=some (k,C)) :
  ∃ vs:List Value,Zcm w k 0 vs∧Zk (ZW S w bm st.boxes) b.els.flatten vs:=by
 obtain⟨hes,_,hB⟩:=h.boxes nm b hb;have hes:=hes hmap;rw[hk] at hB;obtain⟨arr,Ty,h1,h2,h3⟩:=hB.blk hmap
 have hle:b.els.flatten.length≤arr.size:=by
  rw[Z3 hes];have:b.els.length * b.e≤C * b.e:=Nat.mul_le_mul_right _ (hB.room hmap);omega
 refine⟨arr.toList.take b.els.flatten.length,fun j u hu=>?_,Zk.of_get (by first | exact(List.length_take.trans (Nat.min_eq_left (Array.length_toList ▸ hle))) | exact(List.length_take.trans (Nat.min_eq_left (Array.length_toList ▸ hle))).symm) fun j c v hc hv=>?_⟩
 ·have hj:=Zm hu
  simp at hj
  rw[List.getElem?_take_of_lt (by simp; omega)] at hu;simp only[World.cell?,h1];simpa using hu
 ·have hj:=Zm hc
  rw[List.getElem?_take_of_lt (by omega)] at hv;exact h3 j c v hc (by simpa using hv)
theorem Zw9 (htt:∀ t i,tt t=some i→Z0 P t=some i) (h:Zl G B ks w0 S0 S bm st a w){t:TypeId}{x:Operand}{u:Upd}(ho:o.op = .load t x) (hu:eff tt T G o st.get st.boxes=some u) :
  o.wp P a w (Sim G B ks w0 S0 (u.app st)) Q:=by
 unfold eff at hu;rw[ho] at hu;simp only at hu
 have hex:∀ {v:Value},(Instr.loadAt t (a.eval x)).run P w = .ok v w→(execOp a.eval o).run P w = .ok (.value v) w:=by
  intro v hv;simp[execOp,ho,hv]
 split at hu
 ·rename_i i cs hi hx
  split at hu <;> simp at hu
  rename_i p hp;subst hu;have hb:=h.evalB hx (by simp);generalize a.eval x=vx at hb hex;cases hb with
  | ref b o' vs h1 h2 h3 =>
   obtain⟨v,hv,hr⟩:=ZfD (P:=P) (bm:=bm) (bx:=st.boxes) (Zn (htt _ _ hi)) (ZU.toM h1) (b:=b) (o:=o') h3 hp;refine Yi (hex (v:=v) ?_) ⟨S,bm,h.putDst o.dst (.base hr)⟩;simpa[Instr.loadAt,Instr.sureAddr] using hv
 ·rename_i i nm ver k off e hi hx
  split at hu
  ·rename_i b hb
   split at hu
   ·rename_i hc
    split at hu <;> simp at hu
    rename_i p hp;subst hu;have hp' := h.evalB hx (by simp);generalize a.eval x=vx at hp' hex;cases hp' with
    | ptr _ _ _ _ _ kk hmap hk =>
     obtain⟨b',q1,q2,q3⟩:=hk;rw[hb] at q1;injection q1 with q1;subst q1;obtain⟨_,C,hbm⟩:=q3 hc.1;obtain⟨vs,hl1,hl2⟩:=h.liesAll hmap hb hbm;obtain⟨v,hv,hr⟩:=ZfD (P:=P) (bm:=bm) (bx:=st.boxes) (Zn (htt _ _ hi)) hl2 hl1 hp;refine Yi (hex (v:=v) ?_) ⟨S,bm,h.putDst o.dst (.base hr)⟩;rw[hc.2.2.1];simpa[Instr.loadAt,Instr.sureAddr] using hv
   split at hu
   ·rename_i _ hc
    split at hu
    ·rename_i l hl
     split at hu <;> simp at hu
     rename_i p hp;subst hu;have hp' := h.evalB hx (by simp);generalize a.eval x=vx at hp' hex;cases hp' with
     | ptr _ _ _ _ _ kk hmap hk =>
      obtain⟨b',q1,q2,q3⟩:=hk;rw[hb] at q1;injection q1 with q1;subst q1;obtain⟨_,C,hbm⟩:=q3 hc.1;obtain⟨vs,hl1,hl2⟩:=h.lies hmap hb hbm hl;obtain⟨v,hv,hr⟩:=ZfD (P:=P) (bm:=bm) (bx:=st.boxes) (Zn (htt _ _ hi)) hl2 hl1 hp;refine Yi (hex (v:=v) ?_) ⟨S,bm,h.putDst o.dst (.base hr)⟩
      have he:k * e=k * b.e:=by
       rcases hc.2 with rfl | h'
       ·simp
       ·rw[h']
      rw[he];simpa[Instr.loadAt,Instr.sureAddr] using hv
    ·simp at hu
   ·simp at hu
  ·simp at hu
 ·simp at hu
theorem Zl.write (h:Zl G B ks w0 S0 S bm st a w){nm k C:Nat}{b:Box}(hmap:ZB nm=false) (hb:getB st.boxes nm=some b) (hk:bm nm=some (k,C)) (hf:b.frz=false){els':List (List Cell)}{off:Nat}{us:List Value}
  (hes:∀ l∈els',l.length=b.e) (hlen:els'.length=b.els.length) (h1:∀ v∈us,v.oneCell'=true) (hle:off+us.length≤b.els.flatten.length)
  (hnew:∀ (i:Nat) c,els'.flatten[i]? = some c→if off≤i∧i<off+us.length then ∀ v,us[i-off]? = some v→ZW S w bm st.boxes c v else b.els.flatten[i]? = some c) :
  ∃ w',(storeCells ⟨k,off,none⟩ us).run P w = .ok () w'∧Zl G B ks w0 S0 S bm ⟨st.env,setB st.boxes nm { b with els:=els' }⟩ a w' := by
 obtain⟨hes0,_,hB⟩:=h.boxes nm b hb;have hes0:=hes0 hmap;rw[hk] at hB;obtain⟨arr,Ty,ha1,ha2,ha3⟩:=hB.blk hmap
 have hfl:b.els.flatten.length≤arr.size:=by
  rw[Z3 hes0];exact Nat.le_trans (Nat.mul_le_mul_right _ (hB.room hmap)) ha2
 have hrun:=run_storeCells_at P k off Ty us 0 arr w ha1 (by omega) h1;simp only[Nat.add_zero] at hrun;generalize hw':w.setRow k (arr.toList.take off++us++arr.toList.drop (off+us.length)).toArray=w' at hrun;have hblk':w'.heap[k]? = some (.cells (arr.toList.take off++us++arr.toList.drop (off+us.length)).toArray Ty (0,0)):=by rw[← hw']; exact setRow_heap w k arr _ Ty _ ha1
 have hother:∀ b',b'≠k→w'.heap[b']? = w.heap[b']? := fun b' hb'=>by rw[← hw']; exact setRow_other w k b' _ hb'
 have hS0:∀ o,¬ S k o:=fun o hs=>by have:=(hB.free o hs).1; rw[hf] at this; simp at this
 have hcell:∀ b' o,S b' o→w'.cell? ⟨b',o,none⟩=w.cell? ⟨b',o,none⟩:=fun b' o hs=>by
  have:b'≠k:=by rintro rfl; exact hS0 o hs
  exact World.cell?_of_block (a:=⟨b',o,none⟩) (hother b' this)
 have hrefs:ZaX bm st.boxes (fun m=>if m=nm then some (k,C) else bm m) (setB st.boxes nm { b with els:=els' }):=by
  intro m b0 hb0;by_cases hm:nm=m
  ·subst hm
   rw[hb] at hb0;injection hb0 with hb0;subst hb0;exact⟨_,getB_self,Nat.le_refl _,fun _=>⟨rfl,rfl,by simp[hk]⟩⟩
  ·exact⟨b0,by rw[Xa hm]; exact hb0,Nat.le_refl _,fun _=>⟨rfl,rfl,by simp[Ne.symm hm]⟩⟩
 have hbm:(fun m=>if m=nm then some (k,C) else bm m)=bm:=by
  funext m
  by_cases hm:m=nm
  ·subst hm; simp[hk]
  ·simp[hm]
 have hflen:els'.flatten.length=b.els.flatten.length:=by rw[Z3 hes,Z3 hes0,hlen]
 refine⟨w',hrun,?_⟩
 have:=h.box1 (S' := S) (w' := w') nm { b with els:=els' } k C (fun b0 hb0=>by rw[hb] at hb0; injection hb0 with hb0; subst hb0; exact⟨Nat.le_refl _,fun _=>⟨rfl,rfl,hk.symm⟩⟩) (.inr ⟨C,b,hk,hb⟩)
  ⟨by rw[← hw']; rfl,by rw[← hw']; rfl,by rw[← hw']; rfl,by rw[← hw']; simp[World.setRow],fun arr0 T0 h0=>by
   rw[ha1] at h0;injection h0 with h0;injection h0 with h0 _ _;subst h0
   exact⟨_,_,hblk',by simp; omega⟩⟩ (fun b' _ hb'=>hother b' hb') (fun _ _ h=>h) (fun o hs=>absurd hs (hS0 o)) (fun _ _ h=>.inl h) (Zaa hblk') ?_
 ·rw[hbm] at this
  exact this
 ·refine⟨fun _=>hes,fun hf'=>by rw[hf] at hf'; simp at hf',?_⟩
  simp only[if_true];refine⟨hB.base,⟨fun _=>⟨_,Ty,hblk',?_,fun i c v hc hv=>?_⟩,fun hm=>by rw[hmap] at hm; cases hm⟩,fun _=>by rw[hlen]; exact hB.room hmap,hB.cap,fun o hs=>absurd hs (hS0 o),fun hf'=>by rw[hf] at hf'; simp at hf',hB.one⟩
  ·have:C * b.e≤arr.size:=ha2
   simp
   omega
  ·have hn:=hnew i c hc
   have hi:=Zm hc;rw[hflen] at hi;have hm:min off arr.size=off:=by omega
   simp only[List.getElem?_toArray,List.getElem?_append,List.length_append,List.length_take,Array.length_toList,hm] at hv;refine ZW.mono ?_ (fun _ _ h=>h) hcell hrefs;split at hn
   ·rename_i hin
    rw[if_pos hin.2,if_neg (by omega)] at hv;exact hn v hv
   ·rename_i hin
    refine ha3 i c v hn ?_;by_cases h2:i<off+us.length
    ·rw[if_pos h2,if_pos (by omega)] at hv
     rw[List.getElem?_take_of_lt (by omega)] at hv;simpa using hv
    ·rw[if_neg h2,List.getElem?_drop,show off+us.length+(i-(off+us.length))=i by omega] at hv
     simpa using hv
end
section
variable {P:Program}{tt:TT}{T:Tab}{G:Glob}{B:Nat}{ks:List Nat}{w0:World}{S0 S S':Nat→Nat→Prop}{bm bm':BM}{bx:Boxes}{st st':ASt}{a:Act}{w w':World}{Q:Exit→Act→World→Prop}{o:Oper}
theorem Zow {els:List (List Cell)}{e i n:Nat}(hes:∀ l∈els,l.length=e) (hle:i+n≤els.length):((els.drop i).take n).flatten=(els.flatten.drop (i * e)).take (n * e):=by
 have e1:els.flatten=(els.take i).flatten++(((els.drop i).take n).flatten++(els.drop (i+n)).flatten):=by
  rw[← List.flatten_append,← List.flatten_append]
  congr 1
  rw[← List.drop_drop,List.take_append_drop,List.take_append_drop]
 have hA:(els.take i).flatten.length=i * e:=by rw[Z3 fun l hl=>hes l (List.mem_of_mem_take hl)]; congr 1; simp; omega
 have hB:((els.drop i).take n).flatten.length=n * e:=by rw[Z3 fun l hl=>hes l (List.mem_of_mem_drop (List.mem_of_mem_take hl))]; congr 1; simp; omega
 generalize (els.take i).flatten=F1 at e1 hA;generalize ((els.drop i).take n).flatten=F2 at e1 hB;rw[e1,List.drop_left' hA,List.take_left' hB]
theorem Zk4 {e:Nat}:∀ {n:Nat}{cs:List Cell},(Zap e n cs).length=n
 | 0,cs=>rfl
 | n+1,cs=>by simp[Zap,Zk4]
theorem Zms {e:Nat}:∀ {n:Nat}{cs:List Cell},n * e≤cs.length→∀ l∈Zap e n cs,l.length=e
 | 0,cs,h,l,hl=>by simp[Zap] at hl
 | n+1,cs,h,l,hl=>by
  rw[Nat.add_mul] at h;simp only[Zap,List.mem_cons] at hl;rcases hl with rfl | hl
  ·simp; omega
  ·exact Zms (n:=n) (by simp; omega) l hl
theorem Zmt {e:Nat}:∀ {n:Nat}{cs:List Cell},n * e≤cs.length→(Zap e n cs).flatten=cs.take (n * e)
 | 0,cs,h=>by simp[Zap]
 | n+1,cs,h=>by
  rw[Nat.add_mul] at h;simp only[Zap,List.flatten_cons];rw[Zmt (n:=n) (by simp; omega),Nat.add_mul,Nat.one_mul,Nat.add_comm (n * e) e,List.take_add]
def Yu (bm:BM) (bx:Boxes) (l:List Nat) (k o:Nat):Prop:=∃ nm,nm∈l∧∃ b C,getB bx nm=some b∧bm nm=some (k,C)∧o<b.els.flatten.length
def orS (S S':Nat→Nat→Prop):Nat→Nat→Prop:=fun k o=>S k o∨S' k o
theorem Zul {R:Cell→Value→Prop}{cs:List Cell}{vs:List Value}(h:Zk (ZW S w bm bx) cs vs) (hp:Yd cs=true):ZU S w cs vs:=by
 induction h with
 | nil=>exact .nil
 | cons h _ ih =>
  simp[Yd] at hp
  exact .cons (h.pureC hp.1) (ih (by simpa[Yd] using hp.2))
theorem ZhU {els:List (List Cell)}(h:ZH els=true):Yd els.flatten=true:=by
 simp only[ZH,Yd,List.all_eq_true,List.mem_flatten] at *;rintro x ⟨l,hl,hx⟩
 exact h l hl x hx
theorem Zl.rowOf (h:Zl G B ks w0 S0 S bm st a w){nm k C:Nat}{b:Box}(hmap:ZB nm=false) (hb:getB st.boxes nm=some b) (hk:bm nm=some (k,C)) (hp:Yd b.els.flatten=true) :
  ∃ row:List Value,ZU S w b.els.flatten row∧Zcm w k 0 row:=by
 obtain⟨hes,_,hB⟩:=h.boxes nm b hb;have hes:=hes hmap;rw[hk] at hB;obtain⟨arr,Ty,h1,h2,h3⟩:=hB.blk hmap
 have hfl:b.els.flatten.length≤arr.size:=by
  rw[Z3 hes];exact Nat.le_trans (Nat.mul_le_mul_right _ (hB.room hmap)) h2
 have hm:Zk (ZW S w bm st.boxes) b.els.flatten (arr.toList.take b.els.flatten.length):=Zk.of_get (by simp[-List.length_flatten]; omega) fun j c v hc hv=>by
  have hj:=Zm hc;rw[List.getElem?_take_of_lt hj] at hv;exact h3 j c v hc (by simpa using hv)
 refine⟨_,Zul (R:=fun _ _=>True) hm hp,fun j u hu=>?_⟩;have hj:=Zm hu;simp[-List.length_flatten] at hj
 rw[List.getElem?_take_of_lt (by omega)] at hu;rw[Nat.zero_add];simp only[World.cell?,h1];simpa using hu
theorem Zjp (h:Zl G B ks w0 S0 S bm st a w){c c':Cell}{v:Value}(hc:ZW S w bm st.boxes c v) (hv:Z8 st.boxes c=some c'){l:List Nat}(hl:∀ nm∈nmC c,nm∈l):Yn (orS S (Yu bm st.boxes l)) w c' v:=by
 cases c with
 | v x=>simp[Z8] at hv; subst hv; exact(hc.pureC rfl).mono (fun _ _ h=>.inl h) (fun _ _ _=>rfl)
 | slice o els=>simp[Z8] at hv; subst hv; exact(hc.pureC rfl).mono (fun _ _ h=>.inl h) (fun _ _ _=>rfl)
 | own e els=>simp[Z8] at hv
 | bad=>simp[Z8] at hv
 | mp nm ver=>simp[Z8] at hv
 | ms nm ver i n e =>
  simp only[Z8] at hv;split at hv
  ·rename_i b hb
   split at hv <;> simp at hv
   rename_i hcond;obtain⟨hver,he0,hle,hpu⟩:=hcond;subst hv;cases hc with
   | pure hc=>cases hc
   | ms _ _ _ _ _ x c hmap h1 h2 h3 h4 =>
    obtain⟨b',q1,q2,q3⟩:=h4;rw[hb] at q1;injection q1 with q1;subst q1;obtain⟨r1,r2,r3⟩:=q3 hver;have hlen:((b.els.drop i).take n).length=n:=by simp; omega
    obtain⟨hes,_,_⟩:=h.boxes nm b hb;have hes:=hes hmap;rcases Nat.eq_zero_or_pos n with h0 | h0
    ·subst h0
     simp only[List.take_zero];exact .slice [] x c e 0 0 (fun _ _=>undef) (by simp) h2 (by simp) he0 (by simp) (by simp) (by simp)
    ·unfold Loc at r3
     split at r3
     ·rename_i k C hbm
      obtain⟨rfl,hcC⟩:=r3 (.inl h0);obtain⟨row,g1,g2⟩:=h.rowOf hmap hb hbm (ZhU hpu);have hsub:∀ l∈(b.els.drop i).take n,l.length=e:=fun l hl=>by rw[← r1]; exact hes l (List.mem_of_mem_drop (List.mem_of_mem_take hl))
      have hr:ZU S w ((b.els.drop i).take n).flatten ((row.drop (i * e)).take (n * e)):=by rw[Zow (e:=e) (by rw[← r1]; exact hes) hle]; exact(g1.drop _).take _
      have:=Yn.row (S:=orS S (Yu bm st.boxes l)) (w:=w) (b:=k) (o:=i * e) (c:=c) hsub he0 (by omega) h2 (Zk.mono hr fun _ _ h=>h.mono (fun _ _ h=>.inl h) (fun _ _ _=>rfl)) (by have:=(g2.drop (i * e)).take (n * e); simpa using this) (fun j hj=>by
       refine .inr ⟨nm,hl nm (by simp[nmC]),b,C,hb,hbm,?_⟩;rw[g1.length];simp at hj
       omega)
      rw[hlen] at this;exact this
     ·omega
  ·simp at hv
 | fv nm ver off n e =>
  simp only[Z8] at hv;split at hv
  ·rename_i b hb
   split at hv
   ·rename_i cs hels
    split at hv <;> simp at hv
    rename_i hcond;obtain⟨hver,he0,hle,hpu⟩:=hcond;subst hv;cases hc with
    | pure hc=>cases hc
    | fv _ _ _ _ _ x c hmap h1 h2 h3 h4 =>
     obtain⟨b',q1,q2,q3⟩:=h4;rw[hb] at q1;injection q1 with q1;subst q1;have r3:=q3 hver;have hlen:(Zap e n (cs.drop off)).length=n:=Zk4;rcases Nat.eq_zero_or_pos n with h0 | h0
     ·subst h0
      simp only[Zap];exact .slice [] x c e 0 0 (fun _ _=>undef) (by simp) h2 (by simp) he0 (by simp) (by simp) (by simp)
     ·obtain⟨k,C,hbm,rfl⟩:=r3 h0
      have hfl:b.els.flatten=cs:=by rw[hels]; simp
      obtain⟨row,g1,g2⟩:=h.rowOf hmap hb hbm (by rw[hfl]; exact hpu);rw[hfl] at g1;have hle':n * e≤(cs.drop off).length:=by simp; omega
      have hr:ZU S w (Zap e n (cs.drop off)).flatten ((row.drop off).take (n * e)):=by rw[Zmt hle']; exact(g1.drop _).take _
      have:=Yn.row (S:=orS S (Yu bm st.boxes l)) (w:=w) (b:=k) (o:=off) (c:=c) (Zms hle') he0 (by omega) h2 (Zk.mono hr fun _ _ h=>h.mono (fun _ _ h=>.inl h) (fun _ _ _=>rfl)) (by have:=(g2.drop off).take (n * e); simpa using this) (fun j hj=>by
       refine .inr ⟨nm,hl nm (by simp[nmC]),b,C,hb,hbm,?_⟩;rw[hfl,g1.length];simp at hj
       omega)
      rw[hlen] at this;exact this
   ·simp at hv
  ·simp at hv
theorem Zk5 (h:Zl G B ks w0 S0 S bm st a w):∀ {cs cs':List Cell}{vs:List Value},Zk (ZW S w bm st.boxes) cs vs→XD st.boxes cs=some cs'→∀ {l:List Nat},(∀ nm∈nmL cs,nm∈l)→ZU (orS S (Yu bm st.boxes l)) w cs' vs
 | [],cs',vs,hc,hv,l,hl=>by cases hc; simp[XD] at hv; subst hv; exact .nil
 | c :: cs,cs',vs,hc,hv,l,hl=>by
  cases hc with
  | cons h1 h2 =>
   simp only[XD] at hv;split at hv <;> simp at hv
   rename_i d ds e1 e2;subst hv;exact .cons (Zjp h h1 e1 fun nm hn=>hl nm (by simp[nmL]; exact .inl hn)) (Zk5 h h2 e2 fun nm hn=>hl nm (by simp only[nmL,List.flatMap_cons,List.mem_append]; exact .inr (by simpa[nmL] using hn)))
theorem Zte {c c':Cell}(h:Z8 bx c=some c'):c'.pureB=true:=by
 cases c <;> simp only[Z8] at h
 ·simp at h; subst h; rfl
 ·simp at h; subst h; rfl
 ·split at h
  ·split at h <;> simp at h; subst h; rfl
  ·simp at h
 ·split at h
  ·split at h
   ·split at h <;> simp at h; subst h; rfl
   ·simp at h
  ·simp at h
 ·simp at h
 ·simp at h
 ·simp at h
theorem viewL_pure:∀ {cs cs':List Cell},XD bx cs=some cs'→Yd cs'=true∧cs'.length=cs.length
 | [],cs',h=>by simp[XD] at h; subst h; exact⟨rfl,rfl⟩
 | c :: cs,cs',h=>by
  simp only[XD] at h;split at h <;> simp at h
  rename_i d ds h1 h2;subst h;obtain⟨e1,e2⟩:=viewL_pure h2;exact⟨by simp[Yd,Zte h1]; simpa[Yd] using e1,by simp[e2]⟩
theorem ZlB {c c':Cell}(h:Z8 bx c=some c'):∀ nm∈nmC c,∃ b,getB bx nm=some b∧ZH b.els=true:=by
 cases c <;> simp only[Z8] at h
 ·simp[nmC]
 ·simp[nmC]
 ·split at h
  ·rename_i b hb
   split at h <;> simp at h
   rename_i hc;intro nm hn;simp[nmC] at hn
   subst hn;exact⟨b,hb,hc.2.2.2⟩
  ·simp at h
 ·split at h
  ·rename_i b hb
   split at h
   ·rename_i cs hels
    split at h <;> simp at h
    rename_i hc;intro nm hn;simp[nmC] at hn
    subst hn;exact⟨b,hb,by rw[hels]; simp[ZH,hc.2.2.2]⟩
   ·simp at h
  ·simp at h
 ·simp at h
 ·simp at h
 ·simp at h
theorem viewL_box:∀ {cs cs':List Cell},XD bx cs=some cs'→∀ nm∈nmL cs,∃ b,getB bx nm=some b∧ZH b.els=true
 | [],cs',h=>by simp[nmL]
 | c :: cs,cs',h=>by
  simp only[XD] at h;split at h <;> simp at h
  rename_i d ds h1 h2;intro nm hn;simp only[nmL,List.flatMap_cons,List.mem_append] at hn;rcases hn with hn | hn
  ·exact ZlB h1 nm hn
  ·exact viewL_box h2 nm (by simpa[nmL] using hn)
theorem Zl.freeze1 (h:Zl G B ks w0 S0 S bm st a w){nm:Nat}{b:Box}(hb:getB st.boxes nm=some b) (hp:ZH b.els=true) (hn:okN nm=true) :
  Zl G B ks w0 S0 (orS S (Yu bm st.boxes [nm])) bm ⟨st.env,setB st.boxes nm { b with frz:=true }⟩ a w:=by
 have hmap:ZB nm=false:=ZbO hn;obtain⟨hes,_,hB⟩:=h.boxes nm b hb
 have hrefs:ZaX bm st.boxes bm (setB st.boxes nm { b with frz:=true }):=by
  intro m b0 hb0;by_cases hm:nm=m
  ·subst hm
   rw[hb] at hb0;injection hb0 with hb0;subst hb0;exact⟨_,getB_self,Nat.le_refl _,fun _=>⟨rfl,rfl,rfl⟩⟩
  ·exact⟨b0,by rw[Xa hm]; exact hb0,Nat.le_refl _,fun _=>⟨rfl,rfl,rfl⟩⟩
 cases hk:bm nm with
 | none =>
  rw[hk] at hB
  have hL:Yu bm st.boxes [nm]=fun _ _=>False:=by
   funext k o
   apply propext
   refine⟨?_,False.elim⟩;rintro⟨m,hm,b',C,_,h2,_⟩
   simp at hm
   subst hm;rw[hk] at h2;cases h2
  have hS:orS S (Yu bm st.boxes [nm])=S:=by
   funext k o
   simp[orS,hL]
  rw[hS];refine h.change hrefs (fun _ _ h=>h) (fun _ _ _=>rfl) (XE.refl _ _ _) (fun _ _ h=>.inl h) h.slt (fun m b' hb'=>?_) (fun m m' b1 b2 k C C' h1 h2 h3 h4=>?_)
  ·rw[getB_set] at hb'
   split at hb'
   ·rename_i hm
    subst hm;simp at hb'
    subst hb';refine .inr ⟨hes,fun _=>hp,?_⟩;rw[hk];exact hB
   ·exact .inl ⟨hb',rfl,fun _ _ _=>⟨rfl,fun _ h=>h⟩⟩
  ·have key:∀ m b,getB (setB st.boxes nm { b with frz:=true }) m=some b→True:=fun _ _ _=>trivial
   have g1:∃ b,getB st.boxes m=some b:=by
    rw[getB_set] at h1;split at h1
    ·rename_i hm; subst hm; exact⟨b,hb⟩
    ·exact⟨_,h1⟩
   have g2:∃ b,getB st.boxes m'=some b:=by
    rw[getB_set] at h2;split at h2
    ·rename_i hm; subst hm; exact⟨b,hb⟩
    ·exact⟨_,h2⟩
   obtain⟨c1,g1⟩:=g1;obtain⟨c2,g2⟩:=g2;exact h.inj m m' c1 c2 k C C' g1 g2 h3 h4
 | some kc =>
  obtain⟨k,C⟩:=kc;rw[hk] at hB
  have hbm:(fun m=>if m=nm then some (k,C) else bm m)=bm:=by
   funext m
   by_cases hm:m=nm
   ·subst hm; simp[hk]
   ·simp[hm]
  have hLk:∀ k' o,Yu bm st.boxes [nm] k' o↔k'=k∧o<b.els.flatten.length:=by
   intro k' o;constructor
   ·rintro⟨m,hm,b',C',h1,h2,h3⟩
    simp at hm
    subst hm;rw[hb] at h1;injection h1 with h1;subst h1;rw[hk] at h2;simp at h2
    exact⟨h2.1.symm,h3⟩
   ·rintro⟨rfl,h3⟩
    exact⟨nm,by simp,b,C,hb,hk,h3⟩
  obtain⟨arr,Ty,ha1,ha2,ha3⟩:=hB.blk hmap
  have:=h.box1 (S' := orS S (Yu bm st.boxes [nm])) (w' := w) nm { b with frz:=true } k C (fun b0 hb0=>by rw[hb] at hb0; injection hb0 with hb0; subst hb0; exact⟨Nat.le_refl _,fun _=>⟨rfl,rfl,hk.symm⟩⟩) (.inr ⟨C,b,hk,hb⟩)
   ⟨rfl,rfl,rfl,Nat.le_refl _,fun arr T h=>⟨arr,T,h,Nat.le_refl _⟩⟩ (fun _ _ _=>rfl) (fun _ _ h=>.inl h) (fun _ _=>rfl) (fun b' o hs=>hs.imp id fun hs=>((hLk _ _).1 hs).1) (Zaa ha1) ?_
  ·rw[hbm] at this
   exact this
  ·refine⟨hes,fun _=>hp,?_⟩
   simp only[if_true];refine⟨hB.base,⟨fun _=>⟨arr,Ty,ha1,ha2,fun i c v hc hv=>(ha3 i c v hc hv).mono (fun _ _ h=>.inl h) (fun _ _ _=>rfl) (by rw[hbm]; exact hrefs)⟩,fun hm=>by rw[hmap] at hm; cases hm⟩,hB.room0,hB.cap,fun o hs=>⟨rfl,?_⟩,fun _ o ho=>.inr ((hLk _ _).2 ⟨rfl,ho⟩),hB.one⟩;rcases hs with hs | hs
   ·exact(hB.free o hs).2
   ·exact((hLk _ _).1 hs).2
theorem Zox {nm:Nat}{b:Box}(hb:getB bx nm=some b):∀ l:List Nat,Xw (setB bx nm { b with frz:=true }) l=Xw bx l
 | []=>rfl
 | m :: l=>by
  simp only[Xw,getB_set];by_cases hm:nm=m
  ·subst hm
   simp[hb,Zox hb l]
  ·simp[hm,Zox hb l]
theorem ZvQ {nm:Nat}{b:Box}(hb:getB bx nm=some b) (l:List Nat):Yu bm (setB bx nm { b with frz:=true }) l=Yu bm bx l:=by
 funext k o
 apply propext
 constructor
 ·rintro⟨m,hm,b',C,h1,h2,h3⟩
  rw[getB_set] at h1;split at h1
  ·rename_i he
   subst he;simp at h1
   subst h1;exact⟨nm,hm,b,C,hb,h2,h3⟩
  ·exact⟨m,hm,b',C,h1,h2,h3⟩
 ·rintro⟨m,hm,b',C,h1,h2,h3⟩
  by_cases he:nm=m
  ·subst he
   rw[hb] at h1;injection h1 with h1;subst h1;exact⟨nm,hm,_,C,getB_self,h2,h3⟩
  ·exact⟨m,hm,b',C,by rw[Xa he]; exact h1,h2,h3⟩
theorem Zl.freeze:∀ (l:List Nat){st:ASt}{S:Nat→Nat→Prop},Zl G B ks w0 S0 S bm st a w→(∀ nm∈l,∃ b,getB st.boxes nm=some b∧ZH b.els=true)→Zb5 l=true →
  Zl G B ks w0 S0 (orS S (Yu bm st.boxes l)) bm ⟨st.env,ZZ st.boxes (Xw st.boxes l)⟩ a w
 | [],st,S,h,_,_=>by
  have hS:orS S (Yu bm st.boxes [])=S:=by
   funext k o
   simp[orS,Yu]
  rw[hS];exact h
 | nm :: l,st,S,h,hb,hf=>by
  obtain⟨b,h1,h2⟩:=hb nm (by simp);simp[Zb5] at hf
  have hs:=h.freeze1 h1 h2 hf.1
  have:=Zl.freeze l hs (fun m hm=>by
   obtain⟨b',g1,g2⟩:=hb m (by simp[hm]);simp only[getB_set];by_cases he:nm=m
   ·subst he
    rw[h1] at g1;injection g1 with g1;subst g1;exact⟨{ b with frz:=true },by simp,h2⟩
   ·exact⟨b',by simp[he,g1],g2⟩) (by simpa[Zb5] using hf.2)
  simp only[Zox h1,ZvQ h1] at this
  have hS:orS (orS S (Yu bm st.boxes [nm])) (Yu bm st.boxes l)=orS S (Yu bm st.boxes (nm :: l)):=by
   funext k o
   apply propext
   simp only[orS,Yu,List.mem_cons,List.not_mem_nil,or_false];constructor
   ·rintro((h | ⟨m,rfl,h⟩) | ⟨m,hm,h⟩)
    ·exact .inl h
    ·exact .inr ⟨m,.inl rfl,h⟩
    ·exact .inr ⟨m,.inr hm,h⟩
   ·rintro(h | ⟨m,rfl | hm,h⟩)
    ·exact .inl (.inl h)
    ·exact .inl (.inr ⟨m,rfl,h⟩)
    ·exact .inr ⟨m,hm,h⟩
  rw[hS] at this;simp only[Xw,h1,ZZ];exact this
end
structure Src (P:Program) (w:World) (t':TypeId) (size n:Nat) (y:Value) (news:List Value):Prop where
 ty:∃ d,P.underlying t'=some d∧∀ k,d≠.int k
 len:∀ w,(Builtin.lenOf y).run P w = .ok n w
 cells:∀ m,m≤n→(Builtin.firstCells size m y).run P w = .ok (news.take (m * size)).toArray w
 drawn:∀ m,m≤n→(Builtin.firstCells size m y).run P w.drew = .ok (news.take (m * size)).toArray w.drew
 hl:news.length=n * size
section
variable {P:Program}{tt:TT}{T:Tab}{G:Glob}{B:Nat}{ks:List Nat}{w0:World}{S0 S S':Nat→Nat→Prop}{bm bm':BM}{bx:Boxes}{st st':ASt}{a:Act}{w w':World}{Q:Exit→Act→World→Prop}{o:Oper}
theorem Src.all {t':TypeId}{size n:Nat}{y:Value}{news:List Value}(h:Src P w t' size n y news):(Builtin.firstCells size n y).run P w = .ok news.toArray w∧(Builtin.firstCells size n y).run P w.drew = .ok news.toArray w.drew:=by
 have h1:=h.cells n (Nat.le_refl _);have h2:=h.drawn n (Nat.le_refl _);rw[List.take_of_length_le (by rw[h.hl]; exact Nat.le_refl _)] at h1 h2;exact⟨h1,h2⟩
theorem Ztf {t t' ty e:TypeId}{i:TypeInfo}(ht:P.underlying t=some (.slice e)) (hi:P.info? e=some i){n:Nat}{y:Value}{news:List Value}(hs:Src P w t' i.size n y news)
  {g off sLen sCap:Nat}{cur:Array Value}{Ty:TypeId}(hg:w.heap[g]? = some (.cells cur Ty (0,0))) (h1:∀ u∈news,u.oneCell'=true) (hroom:sLen+n≤sCap) (hfit:off+sLen * i.size+news.length≤cur.size) :
  (Builtin.append_ #[t,t'] ty #[.slice (some ⟨g,off,none⟩) sLen sCap,y]).run P w =
   .ok (.slice (some ⟨g,off,none⟩) (sLen+n) sCap) (w.setRow g (cur.toList.take (off+sLen * i.size)++news++cur.toList.drop (off+sLen * i.size+news.length)).toArray):=by
 obtain⟨d,hd,hdn⟩:=hs.ty;have hf:=hs.all.1;have hst:=run_storeCells_at P g (off+sLen * i.size) Ty news 0 cur w hg (by simpa using hfit) h1;simp only[Nat.add_zero] at hst;have hlen:=hs.len w
 have hz:((match d with | .int _=>true | _=>false):Bool)=false:=by
  cases d <;> first | rfl | (exact absurd rfl (hdn _))
 simp[Builtin.append_,run_underlying ht,run_underlying hd,sizeOf,typeInfo,hi]
 cases d <;> first | (exact absurd rfl (hdn _)) | simp[hlen,hroom,hf,Addr.add_lit,hst]
theorem Zm9 {t t' ty e:TypeId}{i:TypeInfo}(ht:P.underlying t=some (.slice e)) (hi:P.info? e=some i){y:Value}{news:List Value}(hs:Src P w t' i.size 0 y news) (b:Option Addr){n c:Nat}(hc:n≤c) :
  (Builtin.append_ #[t,t'] ty #[.slice b n c,y]).run P w = .ok (.slice b n c) w:=by
 obtain⟨d,hd,hdn⟩:=hs.ty;have hf:=hs.all.1;have hl:=hs.hl;simp at hl
 subst hl;have hlen:=hs.len w;simp[Builtin.append_,run_underlying ht,run_underlying hd,sizeOf,typeInfo,hi]
 cases d <;> first | (exact absurd rfl (hdn _)) | (cases b <;> simp[hlen,hc,hf,storeCells])
theorem Zk6 {t t' ty e:TypeId}{i:TypeInfo}{z:Value}(ht:P.underlying t=some (.slice e)) (hi:P.info? e=some i) (hz:i.zero=some z){n:Nat}{y:Value}{news:List Value}(hs:Src P w t' i.size n y news)
  {x:Option Addr}{sLen sCap:Nat}{olds:List Value}(hold:(Builtin.firstCells i.size sLen (.slice x sLen sCap)).run P w.drew = .ok olds.toArray w.drew) (hgr:sCap<sLen+n) (h63:((sLen+n:Nat):Int)≤9223372036854775807) (hfit:Builtin.nextslicecap (sLen+n) sCap * i.bytes≤281474976710656) :
  (Builtin.append_ #[t,t'] ty #[.slice x sLen sCap,y]).run P w =
   .ok (.slice (some ⟨w.heap.size,0,none⟩) (sLen+n) (grownCap w (sLen+n) sCap e))
    (w.drew.alloc (.cells ((olds++news).toArray++Builtin.zeroCells z.cells (grownCap w (sLen+n) sCap e-(sLen+n))) e)):=by
 obtain⟨d,hd,hdn⟩:=hs.ty;have hf:=hs.all.2;have hlen:=hs.len w;have hn:¬ (sLen+n≤sCap):=by omega
 have h63':¬ (9223372036854775807<((sLen:Int)+(n:Int))):=by omega
 have h48':¬ (281474976710656<Builtin.nextslicecap (sLen+n) sCap * i.bytes):=by omega
 simp[Builtin.append_,run_underlying ht,run_underlying hd,sizeOf,typeInfo,hi]
 cases d <;> first | (exact absurd rfl (hdn _)) | (simp[hlen,zeroValue,typeInfo,hi,hz,hn,h63',h48',Question.forced,hf,hold,newRow,grownCap]; done) | (simp[hlen,zeroValue,typeInfo,hi,hz,hn,h63',h48',Question.forced,hf,hold,newRow,grownCap]; congr 2; apply Array.ext'; simp[List.append_assoc])
theorem Zcm.drew {b o:Nat}{vs:List Value}(h:Zcm w b o vs):Zcm w.drew b o vs:=fun j u hu=>h j u hu
theorem ZqT (h:Zl G B ks w0 S0 S bm st a w){c:Cell}{v:Value}{ow:Own}{els:List (List Cell)}(hc:ZW S w bm st.boxes c v) (hv:Z8 st.boxes c=some (.slice ow els)) :
  ∃ x cc,v = .slice x els.length cc∧els.length≤cc∧(els≠[]→∃ b2 o2 e row,x=some ⟨b2,o2,none⟩∧(∀ l∈els,l.length=e)∧ZU S w els.flatten row∧Zcm w b2 o2 row):=by
 have hpu0:c = .slice ow els→∃ x cc,v = .slice x els.length cc∧els.length≤cc∧(els≠[]→∃ b2 o2 e row,x=some ⟨b2,o2,none⟩∧(∀ l∈els,l.length=e)∧ZU S w els.flatten row∧Zcm w b2 o2 row):=fun hce=>by
  subst hce;have hr:=hc.pureC rfl;obtain⟨x,cc,rfl,h1,h2⟩:=hr.len;refine⟨x,cc,rfl,h1,fun hne=>?_⟩;obtain⟨b2,o2,c2,e2,row2,hv2,hl2,hm2,he2,hlen2,r2,l2,s2⟩:=hr.unrow hne;injection hv2 with hv2 _ hv3;subst hv2 hv3;exact⟨b2,o2,e2,row2,rfl,hlen2,r2,l2⟩
 cases c with
 | v x=>simp[Z8] at hv
 | slice o els=>exact hpu0 (by simpa[Z8] using hv)
 | own e els=>simp[Z8] at hv
 | bad=>simp[Z8] at hv
 | mp nm ver=>simp[Z8] at hv
 | ms nm ver i n e =>
  simp only[Z8] at hv;split at hv
  ·rename_i b hb
   split at hv <;> simp at hv
   rename_i hcond;obtain⟨hver,he0,hle,hpu⟩:=hcond;obtain⟨_,rfl⟩:=hv;cases hc with
   | pure hc=>cases hc
   | ms _ _ _ _ _ x c hmap h1 h2 h3 h4 =>
    obtain⟨b',q1,q2,q3⟩:=h4;rw[hb] at q1;injection q1 with q1;subst q1;obtain⟨r1,r2,r3⟩:=q3 hver;have hlen:((b.els.drop i).take n).length=n:=by simp; omega
    obtain⟨hes,_,_⟩:=h.boxes nm b hb;have hes:=hes hmap;refine⟨x,c,by rw[hlen],by rw[hlen]; exact h1,fun hne=>?_⟩;have h0:0<n:=by rw[← hlen]; exact List.length_pos_iff.2 hne
    unfold Loc at r3;split at r3
    ·rename_i k C hbm
     obtain⟨rfl,hcC⟩:=r3 (.inl h0);obtain⟨row,g1,g2⟩:=h.rowOf hmap hb hbm (ZhU hpu);exact⟨k,i * e,e,(row.drop (i * e)).take (n * e),rfl,fun l hl=>by rw[← r1]; exact hes l (List.mem_of_mem_drop (List.mem_of_mem_take hl)),by rw[Zow (e:=e) (by rw[← r1]; exact hes) hle]; exact(g1.drop _).take _,by have:=(g2.drop (i * e)).take (n * e); simpa using this⟩
    ·omega
  ·simp at hv
 | fv nm ver off n e =>
  simp only[Z8] at hv;split at hv
  ·rename_i b hb
   split at hv
   ·rename_i cs hels
    split at hv <;> simp at hv
    rename_i hcond;obtain⟨hver,he0,hle,hpu⟩:=hcond;obtain⟨_,rfl⟩:=hv;cases hc with
    | pure hc=>cases hc
    | fv _ _ _ _ _ x c hmap h1 h2 h3 h4 =>
     obtain⟨b',q1,q2,q3⟩:=h4;rw[hb] at q1;injection q1 with q1;subst q1;have r3:=q3 hver;have hlen:(Zap e n (cs.drop off)).length=n:=Zk4;refine⟨x,c,by rw[hlen],by rw[hlen]; exact h1,fun hne=>?_⟩;have h0:0<n:=by rw[← hlen]; exact List.length_pos_iff.2 hne
     obtain⟨k,C,hbm,rfl⟩:=r3 h0;have hfl:b.els.flatten=cs:=by rw[hels]; simp
     obtain⟨row,g1,g2⟩:=h.rowOf hmap hb hbm (by rw[hfl]; exact hpu);rw[hfl] at g1;have hle':n * e≤(cs.drop off).length:=by simp; omega
     exact⟨k,off,e,(row.drop off).take (n * e),rfl,Zms hle',by rw[Zmt hle']; exact(g1.drop _).take _,by have:=(g2.drop off).take (n * e); simpa using this⟩
   ·simp at hv
  ·simp at hv
theorem ZnO (htt:∀ t i,tt t=some i→Z0 P t=some i) (h:Zl G B ks w0 S0 S bm st a w){t':TypeId}{i':TI}(hi':tt t'=some i'){q:PV}{els':List (List Cell)}(hq:ZgS st.boxes i'.kind q=some els'){size:Nat}(hes:∀ l∈els',l.length=size) (h0:0<size)
  {y:Value}(hy:X9 S w bm st.boxes q y):∃ news:List Value,Src P w t' size els'.length y news∧ZU S w els'.flatten news:=by
 have ht:=Zn (htt _ _ hi');cases q with
 | one c =>
  have hc:ZW S w bm st.boxes c y:=by
   cases hy with
   | base hy=>cases hy with
    | one hy=>exact hy
  have hsl:∀ els o,Z8 st.boxes c=some (.slice o els)→els=els'→(∃ e,i'.kind = .slice e)→∃ news:List Value,Src P w t' size els'.length y news∧ZU S w els'.flatten news:=by
   rintro els o hv rfl ⟨e,hk⟩
   have hu:=ht.slice hk;obtain⟨x,cc,rfl,_,hrow⟩:=ZqT h hc hv;rcases Classical.em (els=[]) with he | he
   ·subst he
    refine⟨[],⟨⟨_,hu,by simp⟩,fun w=>rfl,fun m hm=>?_,fun m hm=>?_,by simp⟩,.nil⟩
    all_goals
     obtain rfl:m=0:=by simpa using hm
     cases x <;> simp[Builtin.firstCells,loadCells,loadCellsFrom]
   ·obtain⟨b2,o2,e2,row2,rfl,hlen2,r2,l2⟩:=hrow he
    have hrl:row2.length=els.length * size:=by rw[← r2.length,Z3 hes]
    have hfc:∀ (w':World),Zcm w' b2 o2 row2→∀ m,m≤els.length→(Builtin.firstCells size m (.slice (some ⟨b2,o2,none⟩) els.length cc)).run P w' = .ok (row2.take (m * size)).toArray w' := by
     intro w' hlw m hm;have:=(hlw.take (m * size)).load (P:=P)
     have hml:(row2.take (m * size)).length=m * size:=by
      simp only[List.length_take,hrl];exact Nat.min_eq_left (Nat.mul_le_mul_right _ hm)
     rw[hml] at this;simp[Builtin.firstCells,this]
    exact⟨row2,⟨⟨_,hu,by simp⟩,fun w=>rfl,hfc w l2,hfc w.drew l2.drew,hrl⟩,r2⟩
  have hfin:(∃ e,i'.kind = .slice e)→Zh7 st.boxes c=some els'→∃ news:List Value,Src P w t' size els'.length y news∧ZU S w els'.flatten news:=by
   intro hk hq;unfold Zh7 at hq;split at hq <;> simp at hq
   rename_i o els hv;exact hsl els o hv hq hk
  cases c with
  | v x =>
   cases x with
   | string s =>
    simp only[ZgS] at hq;split at hq <;> simp at hq
    rename_i hk;have hu:=ht.str hk
    have hs1:s.data.toList≠[]→size=1:=by
     intro hne;obtain⟨b,hb⟩:=List.exists_mem_of_ne_nil _ hne;have:=hes [.v (.int .u8 b.toNat)] (by rw[← hq]; exact List.mem_map.2 ⟨b,hb,rfl⟩);simpa using this.symm
    have hyv:y = .string s:=by have:=hc.pureC rfl; cases this; rfl
    subst hyv;have hlen:els'.length=s.size:=by rw[← hq]; simp
    have hlen':s.data.toList.length=s.size:=by simp
    refine⟨s.data.toList.map (fun b=>Value.int .u8 b.toNat),⟨⟨_,hu,by simp⟩,fun w=>by rw[hlen]; rfl,fun m hm=>?_,fun m hm=>?_,?_⟩,?_⟩
    ·rcases Classical.em (s.data.toList=[]) with he | he
     ·have:s.size=0:=by rw[← hlen',he]; rfl
      obtain rfl:m=0:=by omega
      simp[Builtin.firstCells]
     ·rw[hs1 he]
      simp only[Builtin.firstCells,Sem.run_pure,Nat.mul_one]
      congr 1
      apply Array.ext'
      simp[ByteArray.data_extract]
    ·rcases Classical.em (s.data.toList=[]) with he | he
     ·have:s.size=0:=by rw[← hlen',he]; rfl
      obtain rfl:m=0:=by omega
      simp[Builtin.firstCells]
     ·rw[hs1 he]
      simp only[Builtin.firstCells,Sem.run_pure,Nat.mul_one]
      congr 1
      apply Array.ext'
      simp[ByteArray.data_extract]
    ·rcases Classical.em (s.data.toList=[]) with he | he
     ·rw[hlen,← hlen',he]; simp
     ·rw[hs1 he,hlen,← hlen']; simp
    ·rw[← hq]
     clear hq hes hs1 hlen hlen';induction s.data.toList with
     | nil=>exact .nil
     | cons b l ih=>exact .cons (.v _ rfl (by simp)) ih
   | _ =>
    simp only[ZgS] at hq;split at hq
    ·rename_i e hk; exact hfin ⟨e,hk⟩ hq
    ·simp at hq
  | _ =>
   simp only[ZgS] at hq;split at hq
   ·rename_i e hk; exact hfin ⟨e,hk⟩ hq
   ·simp at hq
 | _=>simp[ZgS] at hq
end
section
variable {P:Program}{tt:TT}{T:Tab}{G:Glob}{B:Nat}{ks:List Nat}{w0:World}{S0 S S':Nat→Nat→Prop}{bm bm':BM}{bx:Boxes}{st st':ASt}{a:Act}{w w':World}{Q:Exit→Act→World→Prop}{o:Oper}
theorem setBs_append:∀ (l m:List (Nat×Box)) (bx:Boxes),ZZ bx (l++m)=ZZ (ZZ bx l) m
 | [],m,bx=>rfl
 | (n,b) :: l,m,bx=>setBs_append l m _
theorem frzL_names:∀ {l:List Nat},∀ x∈Xw bx l,x.1∈l
 | [],x,hx=>by simp[Xw] at hx
 | nm :: l,x,hx=>by
  simp only[Xw] at hx;split at hx
  ·simp at hx
   rcases hx with rfl | hx
   ·simp
   ·exact List.mem_cons_of_mem _ (frzL_names x hx)
  ·exact List.mem_cons_of_mem _ (frzL_names x hx)
theorem Zoy {l:List Nat}{m:Nat}(h:m ∉ l):getB (ZZ bx (Xw bx l)) m=getB bx m:=Zhi fun x hx he=>h (he ▸ frzL_names x hx)
theorem ZvR (htt:∀ t i,tt t=some i→Z0 P t=some i) (h:Zl G B ks w0 S0 S bm st a w){t:TypeId}{u:Upd}(ho:o.op = .alloc t) (hu:eff tt T G o st.get st.boxes=some u):o.wp P a w (Sim G B ks w0 S0 (u.app st)) Q:=by
 unfold eff at hu;rw[ho] at hu;simp only at hu;split at hu
 ·rename_i i d hi hd
  split at hu <;> simp at hu
  rename_i hz;subst hu;have ht:=Zn (htt _ _ hi);obtain⟨z,hz1,hz2⟩:=ht.zero w
  have hrun:(execOp a.eval o).run P w = .ok (.value (.pointer (some ⟨w.heap.size,0,none⟩))) (w.alloc (.cells (i.zero.map Zc.val).toArray t)):=by
   have:z.cells=(i.zero.map Zc.val).toArray:=by apply Array.ext'; simpa using hz2
   simp[execOp,ho,Instr.alloc,hz1,newVar,newRow,this]
  have hs:=h.newBox (rw' := false) d (e:=i.size) (C:=1) (els:=[i.zero.map Zc.cell]) (ZdG.alloc w (i.zero.map Zc.val).toArray t) (by simpa using hz.1) (by simp) (by unfold maxLen; omega) (by simp[hz.1]) (fun _=>rfl) hz.2 (fun j c v hc hv=>by
   obtain⟨v',h1,h2⟩:=(Zjn S w i.zero).get (i:=j) (a:=c) (by simpa using hc);have:v'=v:=by rw[List.getElem?_toArray,h1] at hv; simpa using hv
   subst this
   exact .pure h2)
  refine Yi hrun ⟨S,(fun m=>if m=d then some (w.heap.size,1) else bm m),?_⟩;rw[hd]
  have:=hs.put d (p:=.ptr d (Zr st.boxes d) 0 0 i.size) (v:=.pointer (some ⟨w.heap.size,0,none⟩)) (.base (by
   have:=ZaK.ptr (S:=S) (w:=w.alloc (.cells (i.zero.map Zc.val).toArray t)) (bm:=fun m=>if m=d then some (w.heap.size,1) else bm m) (bx:=setB st.boxes d ⟨Zr st.boxes d,i.size,[i.zero.map Zc.cell],false,false⟩) d (Zr st.boxes d) 0 0 i.size w.heap.size (Zdn (Nat.lt_of_lt_of_le hz.2 (by decide))) ⟨_,getB_self,Nat.le_refl _,fun _=>⟨.inl rfl,1,by simp⟩⟩
   simpa using this))
  exact this
 ·simp at hu
theorem ZpQ (h:Zl G B ks w0 S0 S bm st a w){x:Operand}{p:PV}{cs:List Cell}(hp:rd G st.get x=some p) (hcs:p.cells=some cs):Zk (ZW S w bm st.boxes) cs (a.eval x).cells.toList:=by
 cases p with
 | one c =>
  simp[PV.cells] at hcs
  subst hcs;have hc:=h.evalC hp;have h1:=hc.one;generalize a.eval x=v at hc h1 ⊢;have:v.cells.toList=[v]:=by cases v <;> simp_all [Value.cells,Value.oneCell']
  rw[this];exact .cons hc .nil
 | agg ds =>
  simp[PV.cells] at hcs
  subst hcs;have hb:=h.evalB hp (by simp);generalize a.eval x=v at hb ⊢;cases hb with
  | agg hb=>simpa[Value.cells] using hb
 | _=>simp[PV.cells] at hcs
theorem Zyk (h:Zl G B ks w0 S0 S bm st a w){t:TypeId}{x:Operand}{u:Upd}(ho:o.op = .box t x) (hu:eff tt T G o st.get st.boxes=some u):o.wp P a w (Sim G B ks w0 S0 (u.app st)) Q:=by
 unfold eff at hu;rw[ho] at hu;simp only at hu;split at hu
 ·rename_i p d hp hd
  split at hu
  case h_2=>simp at hu
  rename_i cs hcs;split at hu <;> simp at hu
  rename_i hdn;subst hu;have hrep:=ZpQ h hp hcs
  have hrun:(execOp a.eval o).run P w = .ok (.value (.pointer (some ⟨w.heap.size,0,none⟩))) (w.alloc (.cells (a.eval x).cells.toList.toArray t)):=by
   simp[execOp,ho,Instr.box,newVar,newRow]
  have hs:=h.newBox (rw' := false) d (e:=cs.length) (C:=1) (els:=[cs]) (ZdG.alloc w (a.eval x).cells.toList.toArray t) (by simp) (by simp) (by unfold maxLen; omega) (by have:=hrep.length; simp at this; simp[this]) (fun _=>rfl) hdn (fun j c v hc hv=>by
   obtain⟨v',h1,h2⟩:=hrep.get (i:=j) (a:=c) (by simpa using hc);have:v'=v:=by rw[List.getElem?_toArray,h1] at hv; simpa using hv
   subst this
   exact h2)
  refine Yi hrun ⟨S,(fun m=>if m=d then some (w.heap.size,1) else bm m),?_⟩;rw[hd]
  have:=hs.put d (p:=.ptr d (Zr st.boxes d) 0 0 cs.length) (v:=.pointer (some ⟨w.heap.size,0,none⟩)) (.base (by
   have:=ZaK.ptr (S:=S) (w:=w.alloc (.cells (a.eval x).cells.toList.toArray t)) (bm:=fun m=>if m=d then some (w.heap.size,1) else bm m) (bx:=setB st.boxes d ⟨Zr st.boxes d,cs.length,[cs],false,false⟩) d (Zr st.boxes d) 0 0 cs.length w.heap.size (Zdn (Nat.lt_of_lt_of_le hdn (by decide))) ⟨_,getB_self,Nat.le_refl _,fun _=>⟨.inl rfl,1,by simp⟩⟩
   simpa using this))
  exact this
 ·simp at hu
theorem ZnP {F ds:List Cell}{p i:Nat}(hle:p+ds.length≤F.length):(ZE F p ds)[i]? = if p≤i∧i<p+ds.length then ds[i-p]? else F[i]? := by
 unfold ZE;have hm:min p F.length=p:=by omega
 simp only[List.getElem?_append,List.length_append,List.length_take,hm];by_cases h1:i<p
 ·rw[if_pos (by omega),if_pos h1,if_neg (by omega),List.getElem?_take_of_lt h1]
 ·by_cases h2:i<p+ds.length
  ·rw[if_pos h2,if_neg h1,if_pos ⟨by omega,h2⟩]
  ·rw[if_neg h2,if_neg (by omega),List.getElem?_drop,show p+ds.length+(i-(p+ds.length))=i by omega]
theorem ZnQ {F ds:List Cell}{p:Nat}(hle:p+ds.length≤F.length):(ZE F p ds).length=F.length:=by
 unfold ZE;simp
 omega
theorem Zmu {S:Nat→Nat→Prop}{w:World}{cs:List Cell}{vs:List Value}(h:ZU S w cs vs):ZU S w (nnL cs) vs:=Zk.map_left h fun _ _ h=>h.nn
theorem ZqU (cs:List Cell):(nnL cs).length=cs.length:=by simp[nnL]
theorem Zl.writeP (h:Zl G B ks w0 S0 S bm st a w){nm k C:Nat}{b:Box}(hmap:ZB nm=false) (hb:getB st.boxes nm=some b) (hk:bm nm=some (k,C)) (hf:b.frz=false){els':List (List Cell)}{off:Nat}{ds:List Cell}{us:List Value}
  (hes:∀ l∈els',l.length=b.e) (hlen:els'.length=b.els.length) (hr:Zk (ZW S w bm st.boxes) ds us) (hle:off+ds.length≤b.els.flatten.length) (hfl:els'.flatten=ZE b.els.flatten off ds) :
  ∃ w',(storeCells ⟨k,off,none⟩ us).run P w = .ok () w'∧Zl G B ks w0 S0 S bm ⟨st.env,setB st.boxes nm { b with els:=els' }⟩ a w' := by
 have hl:=hr.length;refine h.write hmap hb hk hf hes hlen (fun v hv=>?_) (by omega) (fun i c hc=>?_)
 ·obtain⟨j,hj⟩:=List.getElem?_of_mem hv
  have hjl:j<ds.length:=by have:=Zm hj; omega
  obtain⟨v',hv',hcv⟩:=hr.get (i:=j) (a:=ds[j]) (by simp[hjl]);rw[hj] at hv';injection hv' with hv';subst hv';exact hcv.one
 ·rw[hfl,ZnP hle] at hc
  rw[← hl];split at hc
  ·rename_i hin
   rw[if_pos hin];intro v hv;obtain⟨v',hv',hcv⟩:=hr.get hc;rw[hv] at hv';injection hv' with hv';subst hv';exact hcv
  ·rename_i hin
   rw[if_neg hin];exact hc
theorem ZvS {els:List (List Cell)}{e k:Nat}{l l':List Cell}(hes:∀ l∈els,l.length=e) (hl:els[k]? = some l):(els.set k l').flatten=els.flatten.take (k * e)++l'++els.flatten.drop (k * e+e):=by
 induction els generalizing k with
 | nil=>simp at hl
 | cons x els ih =>
  have hx:=hes x (by simp);cases k with
  | zero =>
   simp at hl
   subst hl;simp only[List.set_cons_zero,List.flatten_cons,Nat.zero_mul,List.take_zero,List.nil_append,Nat.zero_add];rw[List.drop_left' hx]
  | succ k =>
   simp at hl
   simp only[List.set_cons_succ,List.flatten_cons,ih (fun l hl=>hes l (by simp[hl])) hl];have e1:(k+1) * e=e+k * e:=by rw[Nat.add_mul]; omega
   rw[e1,List.take_append,List.drop_append];have h2:x.take (e+k * e)=x:=List.take_of_length_le (by omega);have h3:x.drop (e+k * e+e)=[]:=List.drop_of_length_le (by omega);rw[h2,h3,hx];have h4:e+k * e-e=k * e:=by omega
   have h5:e+k * e+e-e=k * e+e:=by omega
   rw[h4,h5];simp
theorem ZqV {els:List (List Cell)}{e k off:Nat}{l ds:List Cell}(hes:∀ l∈els,l.length=e) (hl:els[k]? = some l) (hle:off+ds.length≤l.length):(els.set k (ZE l off ds)).flatten=ZE els.flatten (k * e+off) ds:=by
 have hk:=Zm hl;have hll:=hes l (List.mem_of_getElem? hl);have hfl:=Z3 hes
 have hkk:k * e+e≤els.flatten.length:=by
  have:(k+1) * e≤els.length * e:=Nat.mul_le_mul_right _ hk;rw[Nat.add_mul] at this;omega
 apply List.ext_getElem?
 intro i;rw[ZvS hes hl,ZnP (by omega)];have hseg:∀ j,j<e→els.flatten[k * e+j]? = l[j]? := fun j hj=>Zjo hes hl hj
 have hpl:(ZE l off ds).length=e:=by rw[ZnQ hle,hll]
 have hm:min (k * e) els.flatten.length=k * e:=by omega
 simp only[List.getElem?_append,List.length_append,List.length_take,hm,hpl];by_cases h1:i<k * e
 ·rw[if_pos (by omega),if_pos h1,List.getElem?_take_of_lt h1,if_neg (by omega)]
 ·by_cases h2:i<k * e+e
  ·rw[if_pos h2,if_neg h1,ZnP hle]
   by_cases h3:off≤i-k * e∧i-k * e<off+ds.length
   ·rw[if_pos h3,if_pos (by omega),show i-(k * e+off)=i-k * e-off by omega]
   ·rw[if_neg h3,if_neg (by omega),← hseg _ (by omega),show k * e+(i-k * e)=i by omega]
  ·rw[if_neg h2,List.getElem?_drop,if_neg (by omega),show k * e+e+(i-(k * e+e))=i by omega]
theorem ZvT (htt:∀ t i,tt t=some i→Z0 P t=some i) (h:Zl G B ks w0 S0 S bm st a w){t:TypeId}{x y:Operand}{u:Upd}(ho:o.op = .store t x y) (hu:eff tt T G o st.get st.boxes=some u):o.wp P a w (Sim G B ks w0 S0 (u.app st)) Q:=by
 unfold eff at hu;rw[ho] at hu;simp only at hu;split at hu
 ·rename_i i nm ver k off e p hi hx hy
  split at hu
  ·rename_i b ds hb hds
   split at hu
   ·rename_i hc
    obtain⟨hdst,hver,hke,hf⟩:=hc;split at hu
    ·rename_i l hl
     split at hu
     ·rename_i hlen
      have hp' := h.evalB hx (by simp)
      have hex:∀ {w'},(Instr.storeAt t (a.eval x) (a.eval y)).run P w = .ok () w'→(execOp a.eval o).run P w = .ok .skip w' := by
       intro w' hv;simp[execOp,ho,hv]
      have hrep:=ZpQ h hy hds;have hsz:(a.eval y).cells.size=i.size:=by rw[← hlen.1,hrep.length]; simp
      have hmap:ZB nm=false:=by
       have hp2:=hp';generalize a.eval x=vx at hp2;cases hp2 with
       | ptr _ _ _ _ _ kk hm hk=>exact hm
      obtain⟨hes,_,_⟩:=h.boxes nm b hb;have hes:=hes hmap;have hll:=hes l (List.mem_of_getElem? hl);have hkl:=Zm hl;have hfl:=Z3 hes
      have hkk:k * b.e+b.e≤b.els.flatten.length:=by
       have:(k+1) * b.e≤b.els.length * b.e:=Nat.mul_le_mul_right _ hkl;rw[Nat.add_mul] at this;omega
      generalize a.eval x=vx at hp' hex;cases hp' with
      | ptr _ _ _ _ _ kk hmap hk =>
       obtain⟨b',q1,q2,q3⟩:=hk;rw[hb] at q1;injection q1 with q1;subst q1;obtain⟨_,C,hbm⟩:=q3 hver
       have hek:k * e=k * b.e:=by
        rcases hke with rfl | h'
        ·simp
        ·rw[h']
       have hrun:∀ {w'},(storeCells ⟨kk,k * b.e+off,none⟩ (a.eval y).cells.toList).run P w = .ok () w'→(execOp a.eval o).run P w = .ok .skip w' := by
        intro w' hw;refine hex ?_;rw[hek];simp[Instr.storeAt,Instr.sureAddr,storeVar,(Zn (htt _ _ hi)).run_size,hsz,hw]
       split at hu
       ·split at hu
        ·rename_i us hus
         split at hu <;> simp at hu
         rename_i hnn;simp at hnn
         subst hu;have hfz:=Zl.freeze (nmL ds) h (viewL_box hus) (by simpa using hnn.2);have hvl:=Zmu (Zk5 h hrep hus (l:=nmL ds) (fun _ h=>h));have hul:(nnL us).length=ds.length:=by rw[ZqU]; exact(viewL_pure hus).2
         have hb':getB (ZZ st.boxes (Xw st.boxes (nmL ds))) nm=some b:=by rw[Zoy hnn.1]; exact hb
         obtain⟨w',hw1,hw2⟩:=hfz.writeP (P:=P) (els' := b.els.set k (ZE l off (nnL us))) (off:=k * b.e+off) (ds:=nnL us) hmap hb' hbm hf
          (fun m hm=>by
           rcases List.mem_or_eq_of_mem_set hm with h' | rfl
           ·exact hes m h'
           ·rw[ZnQ (by omega),hll]) (by simp) (ZU.toM hvl) (by omega) (ZqV hes hl (by omega))
         refine Zov (hrun hw1) ⟨orS S (Yu bm st.boxes (nmL ds)),bm,?_⟩;rw[hdst];simp only[Upd.app,Y5,setBs_append,ZZ,Act.put];exact hw2
        ·simp at hu
       ·simp at hu
        subst hu
        obtain⟨w',hw1,hw2⟩:=h.writeP (P:=P) (els' := b.els.set k (ZE l off ds)) (off:=k * b.e+off) (ds:=ds) hmap hb hbm hf
         (fun m hm=>by
          rcases List.mem_or_eq_of_mem_set hm with h' | rfl
          ·exact hes m h'
          ·rw[ZnQ (by omega),hll]) (by simp) hrep (by omega) (ZqV hes hl (by omega))
        refine Zov (hrun hw1) ⟨S,bm,?_⟩;rw[hdst];exact hw2
     ·simp at hu
    ·simp at hu
   ·simp at hu
  ·simp at hu
 ·simp at hu
end
section
variable {P:Program}{tt:TT}{T:Tab}{G:Glob}{B:Nat}{ks:List Nat}{w0:World}{S0 S S':Nat→Nat→Prop}{bm bm':BM}{bx:Boxes}{st st':ASt}{a:Act}{w w':World}{Q:Exit→Act→World→Prop}{o:Oper}
theorem Ztg (h:Zl G B ks w0 S0 S bm st a w){l:List Nat}:∀ {ps:List (Nat×PV)}{vs:List (Nat×Value)}{els:List (List Cell)},
  Zk (fun(p:Nat×PV) (v:Nat×Value)=>p.1=v.1∧∀ cs,p.2.cells=some cs→Zk (ZW S w bm st.boxes) cs v.2.cells.toList) ps vs→Zgd st.boxes ps=some els→(∀ nm∈Ze6 ps,nm∈l) →
  ZU (orS S (Yu bm st.boxes l)) w els.flatten (vs.map (·.2.cells.toList)).flatten∧els.length=ps.length∧(∀ s,(∀ l∈els,l.length=s)→∀ v∈vs.map (·.2),v.cells.size=s)∧∀ nm∈Ze6 ps,∃ b,getB st.boxes nm=some b∧ZH b.els=true:=by
 intro ps;induction ps with
 | nil =>
  intro vs els h hm _;cases h
  simp[Zgd] at hm
  subst hm;exact⟨.nil,rfl,by simp,by simp[Ze6]⟩
 | cons p ps ih =>
  intro vs els h hm hl;cases h with
  | @cons _ v _ vs h1 h2 =>
   obtain⟨n,p⟩:=p;simp only[Zgd] at hm;split at hm
   ·rename_i cs r hc hr
    split at hm <;> simp at hm
    rename_i ds hds;subst hm
    have hnm:nmP p=nmL cs:=by
     cases p <;> simp[PV.cells] at hc
     ·subst hc; simp[nmP,nmL]
     ·subst hc; rfl
    have hl1:∀ nm∈nmL cs,nm∈l:=fun nm hn=>hl nm (by simp only[Ze6,List.flatMap_cons,List.mem_append]; left; rw[hnm]; exact hn)
    have hl2:∀ nm∈Ze6 ps,nm∈l:=fun nm hn=>hl nm (by simp only[Ze6,List.flatMap_cons,List.mem_append]; right; exact hn)
    obtain⟨i1,i2,i3,i4⟩:=ih h2 hr hl2;have hcs:=Zmu (Zk5 ‹Zl G B ks w0 S0 S bm st a w› (h1.2 cs hc) hds hl1);refine⟨by simpa using Zk.append hcs i1,by simp[i2],fun s hs v' hv'=>?_,fun nm hn=>?_⟩
    ·simp only[List.map_cons,List.mem_cons] at hv'
     rcases hv' with rfl | hv'
     ·rw[← Array.length_toList,← hcs.length]; exact hs (nnL ds) (by simp)
     ·exact i3 s (fun l hl=>hs l (by simp[hl])) v' hv'
    ·simp only[Ze6,List.flatMap_cons,List.mem_append] at hn
     rcases hn with hn | hn
     ·exact viewL_box hds nm (by rw[hnm] at hn; exact hn)
     ·exact i4 nm hn
   ·simp at hm
theorem Zum {vs:List (Nat×Value)}{n:Nat}(h:vs.map (·.1)=List.range n):vs=((vs.map (·.2)).zipIdx).map fun x=>(x.2,x.1):=by
 apply List.ext_getElem?
 intro i;have hi:=congrArg (fun l=>l[i]?) h;simp only[List.getElem?_map] at hi ⊢;cases hv:vs[i]? with
 | none=>simp[hv]
 | some v =>
  have hlt:i<n:=by
   rw[hv] at hi;rcases Nat.lt_or_ge i n with h' | h'
   ·exact h'
   ·simp[Nat.not_lt.2 h'] at hi
  rw[hv] at hi;simp[hlt] at hi
  simp[hv]
  rw[← hi]
theorem Zyl {R:(Nat×PV)→(Nat×Value)→Prop}{ps:List (Nat×PV)}{vs:List (Nat×Value)}(h:Zk (fun(p:Nat×PV) (v:Nat×Value)=>p.1=v.1∧R p v) ps vs):vs.map (·.1)=ps.map (·.1):=by
 induction h with
 | nil=>rfl
 | cons h _ ih=>simp[ih,h.1]
theorem Zsr {d n e c C:Nat}{v:Value}{k:Nat}{b:Box}(hmap:ZB d=false) (hb:b.e=e) (hr:b.row=true) (hn:n≤c) (hcC:c≤C) (hC:c≤maxLen) (hbm:bm d=some (k,C)) (hg:getB bx d=some b):ZW S w bm bx (.ms d b.ver 0 n e) (.slice (some ⟨k,0,none⟩) n c):=by
 refine .ms _ _ _ _ _ _ _ hmap hn hC (fun _=>⟨k,by simp⟩) ⟨b,hg,Nat.le_refl _,fun _=>⟨hb,hr,?_⟩⟩;unfold Loc;rw[hbm];exact fun _=>⟨by simp,by omega⟩
theorem Zl4 {d n e C:Nat}{v:Value}{k:Nat}{b:Box}(hmap:ZB d=false) (hb:b.e=e) (hr:b.row=true) (hn:n≤C) (hC:C≤maxLen) (hbm:bm d=some (k,C)) (hg:getB bx d=some b):ZW S w bm bx (.ms d b.ver 0 n e) (.slice (some ⟨k,0,none⟩) n C):=Zsr (v:=v) hmap hb hr hn (Nat.le_refl _) hC hbm hg
theorem Zqx (htt:∀ t i,tt t=some i→Z0 P t=some i) (h:Zl G B ks w0 S0 S bm st a w){t:TypeId}{len:Nat}{parts:Array (Nat×Operand)}{u:Upd}
  (ho:o.op = .buildSlice t len parts) (hu:eff tt T G o st.get st.boxes=some u):o.wp P a w (Sim G B ks w0 S0 (u.app st)) Q:=by
 unfold eff at hu;rw[ho] at hu;simp only at hu;split at hu
 ·rename_i i ps d hi hps hd
  split at hu
  ·rename_i e hk
   split at hu
   ·rename_i j els hj hels
    split at hu <;> simp at hu
    rename_i hcond;obtain⟨hsz,hmax,hzl,hrange,hall,hnd,hfo,hdn⟩:=hcond;subst hu;have hparts:=Zmp h hps;obtain⟨r1,r2,r3,r4⟩:=Ztg h (l:=Ze6 ps) hparts hels (fun _ h=>h);have hes:∀ l∈els,l.length=j.size:=by simpa using hall
    have hut:=(Zn (htt _ _ hi)).slice hk;have hje:=Zn (htt _ _ hj);obtain⟨z,hz,hzc⟩:=hje.zero w;have hzs:z.cells.size=j.size:=by rw[← Array.length_toList,hzc]; simpa using hzl
    have hpl:ps.length=len:=by have:=congrArg List.length hrange; simpa using this
    have hel:els.length=len:=r2.trans hpl
    let vs:=parts.toList.map fun x=>(x.1,a.eval x.2)
    have hvr:vs.map (·.1)=List.range len:=(Zyl hparts).trans hrange;have hvl:vs.length=len:=by have:=congrArg List.length hvr; simpa using this
    generalize hrw:(vs.map (·.2.cells.toList)).flatten=row at r1;have hrl:row.length=len * j.size:=by rw[← r1.length,Z3 hes,hel]
    have hrun:(execOp a.eval o).run P w = .ok (.value (.slice (some ⟨w.heap.size,0,none⟩) len len)) (w.alloc (.cells row.toArray e)):=by
     have hfill:=ZqS (s:=j.size) (vs.map (·.2)) 0 ((List.range (len * j.size)).map (fun q=>z.cells[q % z.cells.size]!)) (r3 _ hes) (by simp[hvl]);rw[← Zum hvr] at hfill;simp only[Nat.zero_mul,List.take_zero,List.nil_append,Nat.zero_add,List.length_map,hvl] at hfill;rw[List.drop_of_length_le (by simp)] at hfill;have hrow:((vs.map (·.2)).map (·.cells.toList)).flatten=(vs.map (·.2.cells.toList)).flatten:=by rw[List.map_map]; rfl
     rw[List.append_nil,hrow,hrw] at hfill;have hm24:¬ 16777216<len * j.size:=by omega
     rcases Nat.eq_zero_or_pos len with h0 | h0
     ·subst h0
      have hv0:vs=[]:=List.length_eq_zero_iff.1 hvl
      have hpn:parts = #[]:=by
       have:=congrArg List.length hv0;simp[vs] at this
       exact this
      have hr0:row=[]:=List.length_eq_zero_iff.1 (by simpa using hrl);subst hpn hr0;simp[execOp,ho,Instr.buildSlice,run_underlying hut,hje.run_size,Instr.fill,newRow]
      congr 2
      exact Array.eq_empty_of_size_eq_zero (by simp)
     ·have hz0:¬ len * j.size=0:=by have:=Nat.mul_pos h0 hsz; omega
      have hf'':Instr.fill (fun i=>some (i * j.size,j.size)) ((Array.range (len * j.size)).map (fun q=>z.cells[q % j.size]!)) (parts.map fun x=>(x.1,a.eval x.2)).toList=some row.toArray:=by
       rw[← hfill,← hzs]
       congr 1
       ·apply Array.ext'; simp
       ·simp[vs]
      simp only[execOp,ho,Instr.buildSlice,Sem.run_bind,run_underlying hut,Result.andThen_ok,hje.run_size,hz,Sem.run_ite];simp only[gt_iff_lt,hm24,hz0,if_false];simp[hzs]
      simp at hf''
      rw[hf''];simp[newRow]
    have hfz:=Zl.freeze (Ze6 ps) h r4 hfo
    have hnv:Zr (ZZ st.boxes (Xw st.boxes (Ze6 ps))) d=Zr st.boxes d:=by
     unfold Zr;rw[Zoy (by simpa using hnd)]
    have hcm:len≤maxLen:=by unfold maxLen; have:len≤len * j.size:=Nat.le_mul_of_pos_right _ hsz; omega
    have hs:=hfz.newBox (rw' := true) d (e:=j.size) (C:=len) (els:=els) (ZdG.alloc w row.toArray e) hes (by omega) hcm (by simp[hrl]) (fun h=>by simp at h) hdn (fun q c v hc hv=>by
     obtain⟨v',h1,h2⟩:=r1.get hc;have:v'=v:=by rw[List.getElem?_toArray,h1] at hv; simpa using hv
     subst this
     exact .pure h2)
    simp only[hnv] at hs;refine Yi hrun ⟨orS S (Yu bm st.boxes (Ze6 ps)),(fun m=>if m=d then some (w.heap.size,len) else bm m),?_⟩;rw[hd];have:=hs.put d (p:=.one (.ms d (Zr st.boxes d) 0 len j.size)) (v:=.slice (some ⟨w.heap.size,0,none⟩) len len) (.base (.one (Zl4 (v:=undef) (b:=⟨Zr st.boxes d,j.size,els,false,true⟩) (Zdn (Nat.lt_of_lt_of_le hdn (by decide))) rfl rfl (Nat.le_refl _) hcm (by simp) getB_self)));simp only[Upd.app,Y5,setBs_append,ZZ];exact this
   ·simp at hu
  ·simp at hu
 ·simp at hu
theorem ZvU {z:Array Value}{n s q:Nat}(hz:z.size=s) (h0:0<s) (hq:q<n * s):(madeCells z (n * s))[q]? = z[q % s]? := by
 have hlt:q % s<z.size:=by rw[hz]; exact Nat.mod_lt _ h0
 simp[madeCells,hq,hz]
 rw[Array.getElem?_eq_getElem hlt];simp[getElem!_pos,hlt]
theorem ZqW (htt:∀ t i,tt t=some i→Z0 P t=some i) (h:Zl G B ks w0 S0 S bm st a w){t:TypeId}{lo co:Operand}{u:Upd}
  (ho:o.op = .makeSlice t lo co) (hu:eff tt T G o st.get st.boxes=some u):o.wp P a w (Sim G B ks w0 S0 (u.app st)) Q:=by
 unfold eff at hu;rw[ho] at hu;simp only at hu;split at hu
 ·rename_i i p q d hi hp hq hd
  split at hu
  ·rename_i e n m hk hn hm
   split at hu
   ·rename_i j hj
    split at hu <;> simp at hu
    rename_i hcond;obtain⟨hsz,hzl,hnm,hby,h63,hdn⟩:=hcond;subst hu;have hut:=(Zn (htt _ _ hi)).slice hk;obtain⟨info,dd,z,k1,k2,k3,k4,k5,k6,k7,_⟩:=(Zn (htt _ _ hj)).ex;have hzs:z.cells.size=j.size:=by rw[← Array.length_toList,zcs_vals k6]; simpa using hzl
    obtain⟨kn,hvn⟩:=Zb6 hn (h.eval hp);obtain⟨km,hvm⟩:=Zb6 hm (h.eval hq)
    have hbb:(info.bytes:Int) * (m:Int)≤281474976710656:=by
     have:((info.bytes * m:Nat):Int)≤281474976710656:=by rw[k7,Nat.mul_comm]; omega
     rwa[Int.natCast_mul] at this
    have hr:=run_make (P:=P) w t e info z hut k1 k3 kn km n m (by omega) (by omega) hbb (by omega);simp only[Int.toNat_natCast,k4] at hr
    have hrun:(execOp a.eval o).run P w = .ok (.value (.slice (some ⟨w.heap.size,0,none⟩) n m)) (w.alloc (.cells (madeCells z.cells (m * j.size)) e)):=by
     simp only[execOp,ho,hvn,hvm];simp[hr]
    have hml:m≤maxLen:=by unfold maxLen; omega
    have hflat:∀ (q:Nat) c,(List.replicate n (j.zero.map Zc.cell)).flatten[q]? = some c→q<n * j.size∧(j.zero.map Zc.cell)[q % j.size]? = some c:=by
     intro q c hc;have hlen:(List.replicate n (j.zero.map Zc.cell)).flatten.length=n * j.size:=by rw[Z3 (e:=j.size) (by simp[hzl])]; simp
     have hq:=Zm hc;rw[hlen] at hq;refine⟨hq,?_⟩;have hd1:q / j.size<n:=(Nat.div_lt_iff_lt_mul hsz).2 hq;have:=Zjo (els:=List.replicate n (j.zero.map Zc.cell)) (e:=j.size) (i:=q / j.size) (j:=q % j.size) (l:=j.zero.map Zc.cell) (by simp[hzl]) (by simp[hd1]) (Nat.mod_lt _ hsz);rw[Nat.mul_comm,Nat.div_add_mod] at this;rw[← this];exact hc
    have hs:=h.newBox (rw' := true) d (e:=j.size) (C:=m) (els:=List.replicate n (j.zero.map Zc.cell)) (ZdG.alloc w (madeCells z.cells (m * j.size)) e) (by simp[hzl]) (by simpa using hnm) hml (by simp[size_madeCells]) (fun h=>by simp at h) hdn (fun q c v hc hv=>by
     obtain⟨h1,h2⟩:=hflat q c hc;have hqm:q<m * j.size:=Nat.lt_of_lt_of_le h1 (Nat.mul_le_mul_right _ hnm);rw[ZvU hzs hsz hqm] at hv;obtain⟨v',h3,h4⟩:=(Zjn S w j.zero).get h2;have hzv:z.cells.toList=j.zero.map Zc.val:=zcs_vals k6
     have:v'=v:=by
      rw[← hzv] at h3;have h5:z.cells[q % j.size]? = some v' := by simpa using h3
      rw[h5] at hv;simpa using hv
     subst this
     exact .pure h4)
    refine Yi hrun ⟨S,(fun q=>if q=d then some (w.heap.size,m) else bm q),?_⟩;rw[hd];exact hs.put d (p:=.one (.ms d (Zr st.boxes d) 0 n j.size)) (v:=.slice (some ⟨w.heap.size,0,none⟩) n m) (.base (.one (Zl4 (v:=undef) (b:=⟨Zr st.boxes d,j.size,List.replicate n (j.zero.map Zc.cell),false,true⟩) (Zdn (Nat.lt_of_lt_of_le hdn (by decide))) rfl rfl hnm hml (by simp) getB_self)))
   ·simp at hu
  ·simp at hu
 ·simp at hu
end
end Go.Av
