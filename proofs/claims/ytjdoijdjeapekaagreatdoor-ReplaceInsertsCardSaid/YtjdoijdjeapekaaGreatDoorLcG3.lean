import Derived.Test.YtjdoijdjeapekaaGreatDoorLcG2
import Derived.Test.YtjdoijdjeapekaaGreatDoorLcG1
import Derived.Test.YtjdoijdjeapekaaGreatDoorAvP2
import Derived.Shelf.RegionOpenPlain
import Derived.Deep.RegionLaw
import Derived.Deep.LoopGhost
import Derived.Lib.Walk
import Derived.Lib.SliceRun
import Derived.Test.YtjdoijdjeapekaaGreatDoorAvP3
import Derived.IntWalk
section
namespace Go.Lc
open Go.RowKit
open Go.Av
set_option maxRecDepth 100000
set_option linter.unusedSimpArgs false
set_option linter.unusedVariables false
abbrev Tapi_Header:=Int×(Arr 32)×(Arr 32)×Int×Int×Int
abbrev Tapi_Block:=Tapi_Header×(List Tapi_Tx)
end Go.Lc
end
section
namespace Go.Lc
open Go.RowKit
open Go.Av
set_option maxRecDepth 100000
set_option linter.unusedSimpArgs false
set_option linter.unusedVariables false
noncomputable def Lreplace_sound_k1 : Option Bool :=
 some (true)
noncomputable def Lreplace_sound_k2 (p29 : Int) (p55 : (List (Tapi_OutPoint×Bool))) : Option ((Int×(List (Tapi_OutPoint×Bool))) ⊕ (Bool)) :=
 some (.inl (IntKind.i64.wrap (p29 + 1),p55))
noncomputable def Lreplace_sound_s2 (x44 : Tapi_Entry) (p29 : Int) : (Int×(List (Tapi_OutPoint×Bool)))→Option ((Int×(List (Tapi_OutPoint×Bool))) ⊕ ((Int×(List (Tapi_OutPoint×Bool))) ⊕ (Bool)))
 | (p54,p55)=>(if p54 < (x44.1.2.1.length : Int) then (idx (x44.1.2.1) (p54)).bind fun x57=>(if (mget x57.1 p55).getD false = true then some (.inr (.inr (false))) else some (.inl (IntKind.i64.wrap (p54 + 1),mput x57.1 true p55))) else (Lreplace_sound_k2 p29 p55).map Sum.inr)
noncomputable def Lreplace_sound_s1 (a0 : (List Tapi_Entry)) : (Int×(List (Tapi_OutPoint×Bool)))→Option ((Int×(List (Tapi_OutPoint×Bool))) ⊕ (Bool))
 | (p29,p30)=>(if p29 < (a0.length : Int) then (idx (a0) (p29)).bind fun x44=>(Ltx_Check x44.1).bind fun y45=>((if ¬ (y45 = 0) then some (false) else (Ltx_Coinbase x44.1).bind fun y46=>some (y46))).bind fun z47=>((if (¬ (y45 = 0)∨z47 = true) then some (false) else (Lreplace_money x44.2).bind fun y48=>some (!(y48)))).bind fun z49=>(if ((¬ (y45 = 0)∨z47 = true)∨z49 = true) then some (.inr (false)) else runLoop (Lreplace_sound_s2 x44 p29) (0,p30)) else (Lreplace_sound_k1).map Sum.inr)
noncomputable def Lreplace_sound (a0 : (List Tapi_Entry)) : Option (Bool) :=
 runLoop (Lreplace_sound_s1 a0) (0,([] : (List (Tapi_OutPoint×Bool))))
noncomputable def Lreplace_cloneItems_k1 (p12 : (List (List Int))) : Option (List (List Int)) :=
 some (p12)
noncomputable def Lreplace_cloneItems_s1 (y1 : ((List (List Int)))) : (Int×(List (List Int)))→Option ((Int×(List (List Int))) ⊕ ((List (List Int))))
 | (p11,p12)=>(if p11 < (y1.length : Int) then (inA (p12.length) (p11)).bind fun j16=>((p12)[j16]?).bind fun x17=>(Lbytes_Clone x17).bind fun y18=>some (.inl (IntKind.i64.wrap (p11 + 1),(p12).set j16 y18)) else (Lreplace_cloneItems_k1 p12).map Sum.inr)
noncomputable def Lreplace_cloneItems (a0 : (List (List Int))) : Option ((List (List Int))) :=
 (Lslices_Clone_of__byte_byte a0).bind fun y1=>runLoop (Lreplace_cloneItems_s1 y1) (0,y1)
noncomputable def Lreplace_cloneTx_k2 (a0 : Tapi_Tx) (p13 : (List Tapi_Input)) (p27 : (List Tapi_Output)) : Option Tapi_Tx :=
 some ((a0.1,p13,p27,a0.2.2.2))
noncomputable def Lreplace_cloneTx_s2 (y2 : ((List Tapi_Output))) (a0 : Tapi_Tx) (p13 : (List Tapi_Input)) : (Int×(List Tapi_Output))→Option ((Int×(List Tapi_Output)) ⊕ (Tapi_Tx))
 | (p26,p27)=>(if p26 < (y2.length : Int) then (inA (p27.length) (p26)).bind fun j31=>((p27)[j31]?).bind fun x32=>(Lbytes_Clone x32.2).bind fun y33=>some (.inl (IntKind.i64.wrap (p26 + 1),(p27).set j31 (x32.1,y33))) else (Lreplace_cloneTx_k2 a0 p13 p27).map Sum.inr)
noncomputable def Lreplace_cloneTx_k1 (y2 : ((List Tapi_Output))) (a0 : Tapi_Tx) (p13 : (List Tapi_Input)) : Option Tapi_Tx :=
 runLoop (Lreplace_cloneTx_s2 y2 a0 p13) (0,y2)
noncomputable def Lreplace_cloneTx_s1 (y1 : ((List Tapi_Input))) (y2 : ((List Tapi_Output))) (a0 : Tapi_Tx) : (Int×(List Tapi_Input))→Option ((Int×(List Tapi_Input)) ⊕ (Tapi_Tx))
 | (p12,p13)=>(if p12 < (y1.length : Int) then (inA (p13.length) (p12)).bind fun j34=>((p13)[j34]?).bind fun x35=>(Lreplace_cloneItems x35.2.2).bind fun y36=>some (.inl (IntKind.i64.wrap (p12 + 1),(p13).set j34 (x35.1,x35.2.1,y36))) else (Lreplace_cloneTx_k1 y2 a0 p13).map Sum.inr)
noncomputable def Lreplace_cloneTx (a0 : Tapi_Tx) : Option (Tapi_Tx) :=
 (Lslices_Clone_of__api_Input_api_Input a0.2.1).bind fun y1=>(Lslices_Clone_of__api_Output_api_Output a0.2.2.1).bind fun y2=>runLoop (Lreplace_cloneTx_s1 y1 y2 a0) (0,y1)
noncomputable def Lreplace_Insert_1__r (a0 : Tapi_Entry) (a1 : (Arr 32)) : Option (Bool) :=
 (Ltx_ID a0.1).bind fun y1=>some (decide (y1 = a1))
noncomputable def Lslices_IndexFunc_of__api_Entry_api_Entry__replace_Insert_1_k1 : Option Int :=
 some ((-1))
noncomputable def Lslices_IndexFunc_of__api_Entry_api_Entry__replace_Insert_1_s1 (a0 : (List Tapi_Entry)) (a1 : (Arr 32)) : Int→Option ((Int) ⊕ (Int))
 | p6=>(if p6 < (a0.length : Int) then (idx (a0) (p6)).bind fun x9=>(Lreplace_Insert_1__r x9 a1).bind fun y10=>(if y10 = true then some (.inr (p6)) else some (.inl (IntKind.i64.wrap (p6 + 1)))) else (Lslices_IndexFunc_of__api_Entry_api_Entry__replace_Insert_1_k1).map Sum.inr)
noncomputable def Lslices_IndexFunc_of__api_Entry_api_Entry__replace_Insert_1 (a0 : (List Tapi_Entry)) (a1 : (Arr 32)) : Option (Int) :=
 runLoop (Lslices_IndexFunc_of__api_Entry_api_Entry__replace_Insert_1_s1 a0 a1) 0
noncomputable def Lslices_ContainsFunc_of__api_Entry_api_Entry__replace_Insert_1 (a0 : (List Tapi_Entry)) (a1 : (Arr 32)) : Option (Bool) :=
 (Lslices_IndexFunc_of__api_Entry_api_Entry__replace_Insert_1 a0 a1).bind fun y1=>some (decide (0≤y1))
end Go.Lc
end
section
namespace Go.Lc
open Go.RowKit
open Go.Av
set_option maxRecDepth 100000
set_option linter.unusedSimpArgs false
set_option linter.unusedVariables false
end Go.Lc
end
section
namespace Go.Lc
open Go.RowKit
open Go.Av
set_option maxRecDepth 100000
set_option linter.unusedSimpArgs false
set_option linter.unusedVariables false
noncomputable def Lreplace_worst_k1 (p19 : Int) : Option Int :=
 some (p19)
noncomputable def Lreplace_worst_k2 (p21 : Int) (p28 : Int) (p29 : Int) : Option ((Int×Int×Int) ⊕ (Int)) :=
 some (.inl (p28,p29,IntKind.i64.wrap (p21 + 1)))
noncomputable def Lreplace_worst_s1 (a0 : (List Tapi_Entry)) : (Int×Int×Int)→Option ((Int×Int×Int) ⊕ (Int))
 | (p19,p20,p21)=>(if p21 < (a0.length : Int) then (idx (a0) (p21)).bind fun x26=>(Lreplace_rateOf x26).bind fun y27=>(if y27≤p20 then Lreplace_worst_k2 p21 p21 y27 else Lreplace_worst_k2 p21 p19 p20) else (Lreplace_worst_k1 p19).map Sum.inr)
noncomputable def Lreplace_worst (a0 : (List Tapi_Entry)) : Option (Int) :=
 ((a0)[0]?).bind fun x1=>(Lreplace_rateOf x1).bind fun y2=>runLoop (Lreplace_worst_s1 a0) (0,y2,0)
noncomputable def Lslices_Delete_of__api_Entry_api_Entry (a0 : (List Tapi_Entry)) (a1 : Int) (a2 : Int) : Option (List Tapi_Entry) :=
 (chk (0≤a1∧a1 < a2∧a2≤(a0.length : Int))).bind fun _=>some (a0.take a1.toNat++a0.drop a2.toNat)
noncomputable def Lreplace_Insert_k3 (p61 : (List Tapi_Entry)) (p62 : (List (Arr 32))) : Option ((List Tapi_Entry)×(List (Arr 32))×Int) :=
 some ((p61,p62,0))
noncomputable def Lreplace_Insert_s3 (a3 : Int) : ((List Tapi_Entry)×(List (Arr 32)))→Option (((List Tapi_Entry)×(List (Arr 32))) ⊕ ((List Tapi_Entry)×(List (Arr 32))×Int))
 | (p61,p62)=>(if (0 < (p61.length : Int)∧a3 < (p61.length : Int)) then (Lreplace_worst p61).bind fun y69=>(inA (p61.length) (y69)).bind fun j70=>((p61)[j70]?).bind fun x71=>(Ltx_ID x71.1).bind fun y72=>(chk (p62.length + 1≤4398046511104)).bind fun _=>(Lslices_Delete_of__api_Entry_api_Entry p61 y69 (IntKind.i64.wrap (y69 + 1))).bind fun y74=>some (.inl (y74,p62++[y72])) else (Lreplace_Insert_k3 p61 p62).map Sum.inr)
noncomputable def Lreplace_Insert_k2 (a1 : Tapi_Tx) (p21 : (List Tapi_Entry)) (a3 : Int) (a2 : Int) (p40 : (List (Arr 32))) : Option ((List Tapi_Entry)×(List (Arr 32))×Int) :=
 (Lreplace_cloneTx a1).bind fun y45=>(chk (p21.length + 1≤1954687338268)).bind fun _=>runLoop (Lreplace_Insert_s3 a3) (p21++[((y45.1,y45.2.1,y45.2.2.1,y45.2.2.2),a2)],p40)
noncomputable def Lreplace_Insert_s2 (p20 : (List Tapi_Entry)) (a1 : Tapi_Tx) (p21 : (List Tapi_Entry)) (a3 : Int) (a2 : Int) : (Int×(List (Arr 32)))→Option ((Int×(List (Arr 32))) ⊕ ((List Tapi_Entry)×(List (Arr 32))×Int))
 | (p39,p40)=>(if p39 < (p20.length : Int) then (inA (p20.length) (p39)).bind fun j75=>((p20)[j75]?).bind fun x76=>(Ltx_ID x76.1).bind fun y77=>(chk (p40.length + 1≤4398046511104)).bind fun _=>some (.inl (IntKind.i64.wrap (p39 + 1),p40++[y77])) else (Lreplace_Insert_k2 a1 p21 a3 a2 p40).map Sum.inr)
noncomputable def Lreplace_Insert_k1 (p20 : (List Tapi_Entry)) (a1 : Tapi_Tx) (a2 : Int) (p21 : (List Tapi_Entry)) (a3 : Int) : Option ((List Tapi_Entry)×(List (Arr 32))×Int) :=
 (Lreplace_Accept p20 a1 a2).bind fun y29=>(if ¬ (y29 = 0) then some ((([] : (List Tapi_Entry)),([] : (List (Arr 32))),y29)) else runLoop (Lreplace_Insert_s2 p20 a1 p21 a3 a2) (0,[]))
noncomputable def Lreplace_Insert_k4 (p19 : Int) (p84 : (List Tapi_Entry)) (p85 : (List Tapi_Entry)) : Option ((Int×(List Tapi_Entry)×(List Tapi_Entry)) ⊕ ((List Tapi_Entry)×(List (Arr 32))×Int)) :=
 some (.inl (IntKind.i64.wrap (p19 + 1),p84,p85))
noncomputable def Lreplace_Insert_s1 (a0 : (List Tapi_Entry)) (a1 : Tapi_Tx) (a2 : Int) (a3 : Int) : (Int×(List Tapi_Entry)×(List Tapi_Entry))→Option ((Int×(List Tapi_Entry)×(List Tapi_Entry)) ⊕ ((List Tapi_Entry)×(List (Arr 32))×Int))
 | (p19,p20,p21)=>(if p19 < (a0.length : Int) then (idx (a0) (p19)).bind fun x79=>(Lreplace_Conflict x79.1 a1).bind fun y80=>(if y80 = true then (chk (p20.length + 1≤1954687338268)).bind fun _=>Lreplace_Insert_k4 p19 (p20++[x79]) p21 else (Lreplace_cloneTx x79.1).bind fun y87=>(chk (p21.length + 1≤1954687338268)).bind fun _=>Lreplace_Insert_k4 p19 p20 (p21++[((y87.1,y87.2.1,y87.2.2.1,y87.2.2.2),x79.2)])) else (Lreplace_Insert_k1 p20 a1 a2 p21 a3).map Sum.inr)
noncomputable def Lreplace_Insert (a0 : (List Tapi_Entry)) (a1 : Tapi_Tx) (a2 : Int) (a3 : Int) : Option ((List Tapi_Entry)×(List (Arr 32))×Int) :=
 (Lreplace_sound a0).bind fun y1=>(if ¬ (y1 = true) then some ((([] : (List Tapi_Entry)),([] : (List (Arr 32))),6)) else (Ltx_ID a1).bind fun y2=>(Lslices_ContainsFunc_of__api_Entry_api_Entry__replace_Insert_1 a0 y2).bind fun y3=>(if y3 = true then some ((([] : (List Tapi_Entry)),([] : (List (Arr 32))),150)) else runLoop (Lreplace_Insert_s1 a0 a1 a2 a3) (0,[],[])))
noncomputable def Lref36_sound_k1 : Option Bool :=
 some (true)
noncomputable def Lref36_sound_k2 (p35 : Int) : Option ((Int) ⊕ (Bool)) :=
 some (.inl (IntKind.i64.wrap (p35 + 1)))
noncomputable def Lref36_sound_s2 (p35 : Int) (a0 : (List Tapi_Entry)) : Int→Option ((Int) ⊕ ((Int) ⊕ (Bool)))
 | p66=>(if p66 < p35 then (idx (a0) (p66)).bind fun x70=>(idx (a0) (p35)).bind fun x71=>(Lref36_Conflict x70.1 x71.1).bind fun y72=>(if y72 = true then some (.inr (.inr (false))) else some (.inl (IntKind.i64.wrap (p66 + 1)))) else (Lref36_sound_k2 p35).map Sum.inr)
noncomputable def Lref36_sound_s1 (a0 : (List Tapi_Entry)) : Int→Option ((Int) ⊕ (Bool))
 | p35=>(if p35 < (a0.length : Int) then (idx (a0) (p35)).bind fun x53=>(Lref09_Check x53.1).bind fun y54=>((if ¬ (y54 = 0) then some (false) else (Lref09_Coinbase x53.1).bind fun y55=>some (y55))).bind fun z56=>((if (¬ (y54 = 0)∨z56 = true) then some (false) else (Lref36_money x53.2).bind fun y57=>some (!(y57)))).bind fun z58=>(if ((¬ (y54 = 0)∨z56 = true)∨z58 = true) then some (.inr (false)) else runLoop (Lref36_sound_s2 p35 a0) 0) else (Lref36_sound_k1).map Sum.inr)
noncomputable def Lref36_sound (a0 : (List Tapi_Entry)) : Option (Bool) :=
 runLoop (Lref36_sound_s1 a0) 0
noncomputable def Lref36_rate (a0 : Tapi_Entry) : Option (Int) :=
 (Lref09_Weight a0.1).bind fun y1=>(Lref33_Rate a0.2 y1).bind fun y2=>some (y2)
noncomputable def Lref36_Insert_k3 (p127 : (List Tapi_Entry)) (p128 : (List (Arr 32))) : Option ((List Tapi_Entry)×(List (Arr 32))×Int) :=
 some ((p127,p128,0))
noncomputable def Lref36_Insert_k4 (p127 : (List Tapi_Entry)) (p190 : Int) (p128 : (List (Arr 32))) : Option (((List Tapi_Entry)×(List (Arr 32))) ⊕ ((List Tapi_Entry)×(List (Arr 32))×Int)) :=
 (inA (p127.length) (p190)).bind fun j199=>((p127)[j199]?).bind fun x200=>(Lref09_ID x200.1).bind fun y201=>(chk (p128.length + 1≤4398046511104)).bind fun _=>(chk (p190≤(p127.length : Int)∧0≤p190)).bind fun _=>(chk (((p127).take (p190).toNat).length≤1954687338268)).bind fun _=>(chk (0≤IntKind.i64.wrap (p190 + 1)∧IntKind.i64.wrap (p190 + 1)≤(p127.length : Int))).bind fun _=>(chk (((p127).take (p190).toNat).length + (((p127).drop (IntKind.i64.wrap (p190 + 1)).toNat).take (p127.length - (IntKind.i64.wrap (p190 + 1)).toNat)).length≤1954687338268)).bind fun _=>some (.inl ((p127).take (p190).toNat++((p127).drop (IntKind.i64.wrap (p190 + 1)).toNat).take (p127.length - (IntKind.i64.wrap (p190 + 1)).toNat),p128++[y201]))
noncomputable def Lref36_Insert_k5 (p191 : Int) (p213 : Int) : Option ((Int×Int) ⊕ (((List Tapi_Entry)×(List (Arr 32))) ⊕ ((List Tapi_Entry)×(List (Arr 32))×Int))) :=
 some (.inl (p213,IntKind.i64.wrap (p191 + 1)))
noncomputable def Lref36_Insert_s4 (p127 : (List Tapi_Entry)) (p128 : (List (Arr 32))) : (Int×Int)→Option ((Int×Int) ⊕ (((List Tapi_Entry)×(List (Arr 32))) ⊕ ((List Tapi_Entry)×(List (Arr 32))×Int)))
 | (p190,p191)=>(if p191 < (p127.length : Int) then (inA (p127.length) (p191)).bind fun j207=>((p127)[j207]?).bind fun x208=>(Lref36_rate x208).bind fun y209=>(inA (p127.length) (p190)).bind fun j210=>((p127)[j210]?).bind fun x211=>(Lref36_rate x211).bind fun y212=>(if y209≤y212 then Lref36_Insert_k5 p191 p191 else Lref36_Insert_k5 p191 p190) else (Lref36_Insert_k4 p127 p190 p128).map Sum.inr)
noncomputable def Lref36_Insert_s3 (a3 : Int) : ((List Tapi_Entry)×(List (Arr 32)))→Option (((List Tapi_Entry)×(List (Arr 32))) ⊕ ((List Tapi_Entry)×(List (Arr 32))×Int))
 | (p127,p128)=>(if (a3 < (p127.length : Int)∧0 < (p127.length : Int)) then runLoop (Lref36_Insert_s4 p127 p128) (0,0) else (Lref36_Insert_k3 p127 p128).map Sum.inr)
noncomputable def Lref36_Insert_k2 (p21 : (List Tapi_Entry)) (a3 : Int) (a1 : Tapi_Tx) (a2 : Int) (p41 : (List (Arr 32))) : Option ((List Tapi_Entry)×(List (Arr 32))×Int) :=
 (chk (p21.length + 1≤1954687338268)).bind fun _=>runLoop (Lref36_Insert_s3 a3) (p21++[(a1,a2)],p41)
noncomputable def Lref36_Insert_s2 (p20 : (List Tapi_Entry)) (p21 : (List Tapi_Entry)) (a3 : Int) (a1 : Tapi_Tx) (a2 : Int) : (Int×(List (Arr 32)))→Option ((Int×(List (Arr 32))) ⊕ ((List Tapi_Entry)×(List (Arr 32))×Int))
 | (p40,p41)=>(if p40 < (p20.length : Int) then (inA (p20.length) (p40)).bind fun j214=>((p20)[j214]?).bind fun x215=>(Lref09_ID x215.1).bind fun y216=>(chk (p41.length + 1≤4398046511104)).bind fun _=>some (.inl (IntKind.i64.wrap (p40 + 1),p41++[y216])) else (Lref36_Insert_k2 p21 a3 a1 a2 p41).map Sum.inr)
noncomputable def Lref36_Insert_k1 (p20 : (List Tapi_Entry)) (a1 : Tapi_Tx) (a2 : Int) (p21 : (List Tapi_Entry)) (a3 : Int) : Option ((List Tapi_Entry)×(List (Arr 32))×Int) :=
 (Lref36_Accept p20 a1 a2).bind fun y30=>(if ¬ (y30 = 0) then some ((([] : (List Tapi_Entry)),([] : (List (Arr 32))),y30)) else runLoop (Lref36_Insert_s2 p20 p21 a3 a1 a2) (0,[]))
noncomputable def Lref36_Insert_k6 (p19 : Int) (p224 : (List Tapi_Entry)) (p225 : (List Tapi_Entry)) : Option ((Int×(List Tapi_Entry)×(List Tapi_Entry)) ⊕ ((List Tapi_Entry)×(List (Arr 32))×Int)) :=
 some (.inl (IntKind.i64.wrap (p19 + 1),p224,p225))
noncomputable def Lref36_Insert_s1 (a0 : (List Tapi_Entry)) (a1 : Tapi_Tx) (a2 : Int) (a3 : Int) : (Int×(List Tapi_Entry)×(List Tapi_Entry))→Option ((Int×(List Tapi_Entry)×(List Tapi_Entry)) ⊕ ((List Tapi_Entry)×(List (Arr 32))×Int))
 | (p19,p20,p21)=>(if p19 < (a0.length : Int) then (idx (a0) (p19)).bind fun x218=>(Lref09_ID x218.1).bind fun y219=>(Lref09_ID a1).bind fun y220=>(if y219 = y220 then some (.inr ((([] : (List Tapi_Entry)),([] : (List (Arr 32))),150))) else (Lref36_Conflict x218.1 a1).bind fun y221=>(if y221 = true then (chk (p20.length + 1≤1954687338268)).bind fun _=>Lref36_Insert_k6 p19 (p20++[x218]) p21 else (chk (p21.length + 1≤1954687338268)).bind fun _=>Lref36_Insert_k6 p19 p20 (p21++[x218]))) else (Lref36_Insert_k1 p20 a1 a2 p21 a3).map Sum.inr)
noncomputable def Lref36_Insert (a0 : (List Tapi_Entry)) (a1 : Tapi_Tx) (a2 : Int) (a3 : Int) : Option ((List Tapi_Entry)×(List (Arr 32))×Int) :=
 (Lref36_sound a0).bind fun y1=>(if ¬ (y1 = true) then some ((([] : (List Tapi_Entry)),([] : (List (Arr 32))),6)) else runLoop (Lref36_Insert_s1 a0 a1 a2 a3) (0,[],[]))
noncomputable def Lref36_Same_k1 : Option Bool :=
 some (true)
noncomputable def Lref36_Same_s1 (a0 : (List Tapi_Entry)) (a1 : (List Tapi_Entry)) : Int→Option ((Int) ⊕ (Bool))
 | p10=>(if p10 < (a0.length : Int) then (idx (a0) (p10)).bind fun x15=>(idx (a1) (p10)).bind fun x16=>((if ¬ (x15.2 = x16.2) then some (false) else (Lref09_SameTx x15.1 x16.1).bind fun y17=>some (!(y17)))).bind fun z18=>(if (¬ (x15.2 = x16.2)∨z18 = true) then some (.inr (false)) else some (.inl (IntKind.i64.wrap (p10 + 1)))) else (Lref36_Same_k1).map Sum.inr)
noncomputable def Lref36_Same (a0 : (List Tapi_Entry)) (a1 : (List Tapi_Entry)) : Option (Bool) :=
 (if ¬ ((a0.length : Int) = (a1.length : Int)) then some (false) else runLoop (Lref36_Same_s1 a0 a1) 0)
noncomputable def Lreplace_Confirm_1__r (a0 : Tapi_Tx) (a1 : Tapi_Entry) : Option (Bool) :=
 (Lreplace_Conflict a1.1 a0).bind fun y1=>some (y1)
noncomputable def Lslices_IndexFunc_of__api_Tx_api_Tx__replace_Confirm_1_k1 : Option Int :=
 some ((-1))
noncomputable def Lslices_IndexFunc_of__api_Tx_api_Tx__replace_Confirm_1_s1 (a0 : (List Tapi_Tx)) (a1 : Tapi_Entry) : Int→Option ((Int) ⊕ (Int))
 | p6=>(if p6 < (a0.length : Int) then (idx (a0) (p6)).bind fun x9=>(Lreplace_Confirm_1__r x9 a1).bind fun y10=>(if y10 = true then some (.inr (p6)) else some (.inl (IntKind.i64.wrap (p6 + 1)))) else (Lslices_IndexFunc_of__api_Tx_api_Tx__replace_Confirm_1_k1).map Sum.inr)
noncomputable def Lslices_IndexFunc_of__api_Tx_api_Tx__replace_Confirm_1 (a0 : (List Tapi_Tx)) (a1 : Tapi_Entry) : Option (Int) :=
 runLoop (Lslices_IndexFunc_of__api_Tx_api_Tx__replace_Confirm_1_s1 a0 a1) 0
noncomputable def Lslices_ContainsFunc_of__api_Tx_api_Tx__replace_Confirm_1 (a0 : (List Tapi_Tx)) (a1 : Tapi_Entry) : Option (Bool) :=
 (Lslices_IndexFunc_of__api_Tx_api_Tx__replace_Confirm_1 a0 a1).bind fun y1=>some (decide (0≤y1))
noncomputable def Lreplace_Confirm_k2 (p27 : (List Tapi_Entry)) : Option (List Tapi_Entry) :=
 some (p27)
noncomputable def Lreplace_Confirm_k3 (p26 : Int) (p41 : (List Tapi_Entry)) : Option ((Int×(List Tapi_Entry)) ⊕ ((List Tapi_Entry))) :=
 some (.inl (IntKind.i64.wrap (p26 + 1),p41))
noncomputable def Lreplace_Confirm_s2 (a0 : (List Tapi_Entry)) (p8 : (List ((Arr 32)×Bool))) (a1 : Tapi_Block) : (Int×(List Tapi_Entry))→Option ((Int×(List Tapi_Entry)) ⊕ ((List Tapi_Entry)))
 | (p26,p27)=>(if p26 < (a0.length : Int) then (idx (a0) (p26)).bind fun x35=>(Ltx_ID x35.1).bind fun y36=>((if ¬ ((mget y36 p8).getD false = true) then (Lslices_ContainsFunc_of__api_Tx_api_Tx__replace_Confirm_1 a1.2 x35).bind fun y37=>some (!(y37)) else some (false))).bind fun z38=>(if (¬ ((mget y36 p8).getD false = true)∧z38 = true) then (Lreplace_cloneTx x35.1).bind fun y42=>(chk (p27.length + 1≤1954687338268)).bind fun _=>Lreplace_Confirm_k3 p26 (p27++[((y42.1,y42.2.1,y42.2.2.1,y42.2.2.2),x35.2)]) else Lreplace_Confirm_k3 p26 p27) else (Lreplace_Confirm_k2 p27).map Sum.inr)
noncomputable def Lreplace_Confirm_k1 (a0 : (List Tapi_Entry)) (p8 : (List ((Arr 32)×Bool))) (a1 : Tapi_Block) : Option (List Tapi_Entry) :=
 runLoop (Lreplace_Confirm_s2 a0 p8 a1) (0,[])
noncomputable def Lreplace_Confirm_s1 (a1 : Tapi_Block) (a0 : (List Tapi_Entry)) : (Int×(List ((Arr 32)×Bool)))→Option ((Int×(List ((Arr 32)×Bool))) ⊕ ((List Tapi_Entry)))
 | (p7,p8)=>(if p7 < (a1.2.length : Int) then (idx (a1.2) (p7)).bind fun x44=>(Ltx_ID x44).bind fun y45=>some (.inl (IntKind.i64.wrap (p7 + 1),mput y45 true p8)) else (Lreplace_Confirm_k1 a0 p8 a1).map Sum.inr)
noncomputable def Lreplace_Confirm (a0 : (List Tapi_Entry)) (a1 : Tapi_Block) : Option ((List Tapi_Entry)) :=
 runLoop (Lreplace_Confirm_s1 a1 a0) (0,([] : (List ((Arr 32)×Bool))))
noncomputable def Lref36_Confirm_k1 (p65 : (List Tapi_Entry)) : Option (List Tapi_Entry) :=
 some (p65)
noncomputable def Lref36_Confirm_k3 (p64 : Int) (p127 : (List Tapi_Entry)) : Option ((Int×(List Tapi_Entry)) ⊕ ((List Tapi_Entry))) :=
 some (.inl (IntKind.i64.wrap (p64 + 1),p127))
noncomputable def Lref36_Confirm_k2 (p114 : Bool) (a0 : (List Tapi_Entry)) (p64 : Int) (p65 : (List Tapi_Entry)) : Option ((Int×(List Tapi_Entry)) ⊕ ((List Tapi_Entry))) :=
 (if p114 = true then (idx (a0) (p64)).bind fun x128=>(chk (p65.length + 1≤1954687338268)).bind fun _=>Lref36_Confirm_k3 p64 (p65++[x128]) else Lref36_Confirm_k3 p64 p65)
noncomputable def Lref36_Confirm_s2 (a1 : Tapi_Block) (a0 : (List Tapi_Entry)) (p64 : Int) (p65 : (List Tapi_Entry)) : (Bool×Int)→Option ((Bool×Int) ⊕ ((Int×(List Tapi_Entry)) ⊕ ((List Tapi_Entry))))
 | (p114,p115)=>(if p115 < (a1.2.length : Int) then ((if p114 = true then (idx (a0) (p64)).bind fun x130=>(Lref09_ID x130.1).bind fun y131=>(idx (a1.2) (p115)).bind fun x132=>(Lref09_ID x132).bind fun y133=>some (!(decide (y131 = y133))) else some (false))).bind fun z134=>((if (p114 = true∧z134 = true) then (idx (a0) (p64)).bind fun x135=>(idx (a1.2) (p115)).bind fun x136=>(Lref36_Conflict x135.1 x136).bind fun y137=>some (!(y137)) else some (false))).bind fun z138=>some (.inl (((p114 && z134) && z138),IntKind.i64.wrap (p115 + 1))) else (Lref36_Confirm_k2 p114 a0 p64 p65).map Sum.inr)
noncomputable def Lref36_Confirm_s1 (a0 : (List Tapi_Entry)) (a1 : Tapi_Block) : (Int×(List Tapi_Entry))→Option ((Int×(List Tapi_Entry)) ⊕ ((List Tapi_Entry)))
 | (p64,p65)=>(if p64 < (a0.length : Int) then runLoop (Lref36_Confirm_s2 a1 a0 p64 p65) (true,0) else (Lref36_Confirm_k1 p65).map Sum.inr)
noncomputable def Lref36_Confirm (a0 : (List Tapi_Entry)) (a1 : Tapi_Block) : Option ((List Tapi_Entry)) :=
 runLoop (Lref36_Confirm_s1 a0 a1) (0,[])
noncomputable def Llaw36_ReplaceInserts_k2 (y3 : ((List Tapi_Entry)×Tlightclientmill_Deck)) (y14 : (Int×Tlightclientmill_Deck)) (p10 : Int) (p11 : (List Tapi_Input)) (p12 : (List Tapi_Output)) (p13 : Int) : Option Bool :=
 (chk (y3.1.length≤1954687338268)).bind fun _=>(chk (y3.1.length + 1≤1954687338268)).bind fun _=>(Lmill_Tx y14.2).bind fun y152=>(Lreplace_Insert (y3.1++[((p10,p11,p12,p13),(-1))]) (y152.1.1,y152.1.2.1,y152.1.2.2.1,y152.1.2.2.2) 9 9).bind fun y153=>(Lmill_New ([] : (List Int))).bind fun y154=>(Lmill_Tx y154).bind fun y155=>(Lref36_Insert (y3.1++[((p10,p11,p12,p13),(-1))]) (y155.1.1,y155.1.2.1,y155.1.2.2.1,y155.1.2.2.2) 9 9).bind fun y156=>(Lmill_Tx y152.2).bind fun y157=>((if y153.2.2 = y156.2.2 then (Lreplace_Confirm y3.1 ((0,zA 32,zA 32,0,0,0),[(y157.1.1,y157.1.2.1,y157.1.2.2.1,y157.1.2.2.2),(p10,p11,p12,p13)])).bind fun y158=>(Lref36_Confirm y3.1 ((0,zA 32,zA 32,0,0,0),[(y157.1.1,y157.1.2.1,y157.1.2.2.1,y157.1.2.2.2),(p10,p11,p12,p13)])).bind fun y159=>(Lref36_Same y158 y159).bind fun y160=>some (y160) else some (false))).bind fun z161=>some ((decide (y153.2.2 = y156.2.2) && z161))
noncomputable def Llaw36_ReplaceInserts_k3 (p104 : Int) : Option ((Int) ⊕ (Bool)) :=
 some (.inl (IntKind.i64.wrap (p104 + 1)))
noncomputable def Llaw36_ReplaceInserts_k4 (p192 : Int) : Option ((Int) ⊕ ((Int) ⊕ (Bool))) :=
 some (.inl (IntKind.i64.wrap (p192 + 1)))
noncomputable def Llaw36_ReplaceInserts_s3 (y209 : ((List Tapi_Entry)×(List (Arr 32))×Int)) (y210 : ((List Tapi_Entry)×(List (Arr 32))×Int)) (p192 : Int) : Int→Option ((Int) ⊕ ((Int) ⊕ ((Int) ⊕ (Bool))))
 | p218=>(if p218 < (y209.2.1.length : Int) then (idx (y209.2.1) (p218)).bind fun x221=>(idx (y210.2.1) (p218)).bind fun x222=>(if ¬ (x221 = x222) then some (.inr (.inr (.inr (false)))) else some (.inl (IntKind.i64.wrap (p218 + 1)))) else (Llaw36_ReplaceInserts_k4 p192).map Sum.inr)
noncomputable def Llaw36_ReplaceInserts_s2 (a2 : Int) (y164 : (Int)) (y3 : ((List Tapi_Entry)×Tlightclientmill_Deck)) (p10 : Int) (p11 : (List Tapi_Input)) (p12 : (List Tapi_Output)) (p13 : Int) (x163 : Int) (p104 : Int) : Int→Option ((Int) ⊕ ((Int) ⊕ (Bool)))
 | p192=>(if p192 < (2 : Int) then (inA (2) (p192)).bind fun j207=>(([a2,y164])[j207]?).bind fun x208=>(Lreplace_Insert y3.1 (p10,p11,p12,p13) x163 x208).bind fun y209=>(Lref36_Insert y3.1 (p10,p11,p12,p13) x163 x208).bind fun y210=>((if ¬ (y209.2.2 = y210.2.2) then some (false) else (Lref36_Same y209.1 y210.1).bind fun y211=>some (!(y211)))).bind fun z212=>(if ((¬ (y209.2.2 = y210.2.2)∨z212 = true)∨¬ ((y209.2.1.length : Int) = (y210.2.1.length : Int))) then some (.inr (.inr (false))) else runLoop (Llaw36_ReplaceInserts_s3 y209 y210 p192) 0) else (Llaw36_ReplaceInserts_k3 p104).map Sum.inr)
noncomputable def Llaw36_ReplaceInserts_s1 (a1 : Int) (y14 : (Int×Tlightclientmill_Deck)) (a2 : Int) (y3 : ((List Tapi_Entry)×Tlightclientmill_Deck)) (p10 : Int) (p11 : (List Tapi_Input)) (p12 : (List Tapi_Output)) (p13 : Int) : Int→Option ((Int) ⊕ (Bool))
 | p104=>(if p104 < (2 : Int) then (inA (2) (p104)).bind fun j162=>(([a1,y14.1])[j162]?).bind fun x163=>(Lmill_Mod a2 6).bind fun y164=>runLoop (Llaw36_ReplaceInserts_s2 a2 y164 y3 p10 p11 p12 p13 x163 p104) 0 else (Llaw36_ReplaceInserts_k2 y3 y14 p10 p11 p12 p13).map Sum.inr)
noncomputable def Llaw36_ReplaceInserts_k1 (a1 : Int) (a2 : Int) (y3 : ((List Tapi_Entry)×Tlightclientmill_Deck)) (p9 : Tlightclientmill_Deck) (p10 : Int) (p11 : (List Tapi_Input)) (p12 : (List Tapi_Output)) (p13 : Int) : Option Bool :=
 (Lmill_Deck_Next p9 4000).bind fun y14=>runLoop (Llaw36_ReplaceInserts_s1 a1 y14 a2 y3 p10 p11 p12 p13) 0
noncomputable def Llaw36_ReplaceInserts (a0 : (List Int)) (a1 : Int) (a2 : Int) : Option (Bool) :=
 (Llaw36_sane).bind fun y1=>(if ¬ (y1 = true) then some (false) else (Lmill_New a0).bind fun y2=>(Lmill_Pool y2 5).bind fun y3=>(Lmill_Tx y3.2).bind fun y4=>(if 0 < (y3.1.length : Int) then (Lmill_Deck_Next y4.2 (y3.1.length : Int)).bind fun y223=>(inA (y3.1.length) (y223.1)).bind fun j224=>((y3.1)[j224]?).bind fun x225=>(Llaw36_heir y223.2 x225.1).bind fun y226=>Llaw36_ReplaceInserts_k1 a1 a2 y3 y226.2 y226.1.1 y226.1.2.1 y226.1.2.2.1 y226.1.2.2.2 else Llaw36_ReplaceInserts_k1 a1 a2 y3 y4.2 y4.1.1 y4.1.2.1 y4.1.2.2.1 y4.1.2.2.2))

end Go.Lc
end
section
namespace Go.Av
open Go.RowKit
set_option linter.unusedVariables false
/-! short forms for printed walks -/
theorem bA {β : Type} {n : Nat} {i : Int} {f : Nat→Option β} {y : β} (h : (inA n i).bind f = some y) : ∃ j,(0≤i∧i.toNat = j∧j < n)∧f j = some y :=
 let ⟨j,h1,h2⟩:=bs h
 ⟨j,inA_some h1,h2⟩
theorem bI {α β : Type} {l : List α} {i : Int} {f : α→Option β} {y : β} (h : (idx l i).bind f = some y) : ∃ x,(0≤i∧l[i.toNat]? = some x∧∀ h' : i.toNat < l.length,l[i.toNat] = x)∧f x = some y :=
 let ⟨x,h1,h2⟩:=bs h
 ⟨x,⟨(idx_some h1).1,(idx_some h1).2,getE_of (idx_some h1).2⟩,h2⟩
theorem bC {β : Type} {p : Prop} [Decidable p] {f : Unit→Option β} {y : β} (h : (chk p).bind f = some y) : p∧f () = some y :=
 let ⟨_,h1,h2⟩:=bs h
 ⟨chk_some h1,h2⟩
theorem bG {α β : Type} {o : Option α} {f : α→Option β} {y : β} {P : α→Prop} (h : o.bind f = some y) (k : ∀ x,o = some x→P x) : ∃ x,P x∧f x = some y :=
 let ⟨x,h1,h2⟩:=bs h
 ⟨x,k x h1,h2⟩
theorem eqT (p : Prop) : (p = True)∨¬ p:=(Classical.em p).imp eq_true id
theorem ifP {α : Type} {c : Prop} [Decidable c] {a b r : α} (h : (if c then a else b) = r) (hc : c:=by simp [-Int.ofNat_toNat, *]) : a = r:=by rwa [if_pos hc] at h
theorem ifPb {α β : Type} {c : Prop} [Decidable c] {a b : Option α} {f : α→Option β} {r : Option β} (h : (if c then a else b).bind f = r) (hc : c:=by simp [-Int.ofNat_toNat, *]) : a.bind f = r:=by rwa [if_pos hc] at h
theorem ifNb {α β : Type} {c : Prop} [Decidable c] {a b : Option α} {f : α→Option β} {r : Option β} (h : (if c then a else b).bind f = r) (hc : ¬ c:=by simp [-Int.ofNat_toNat, *]) : b.bind f = r:=by rwa [if_neg hc] at h
theorem ifN {α : Type} {c : Prop} [Decidable c] {a b r : α} (h : (if c then a else b) = r) (hc : ¬ c:=by simp [-Int.ofNat_toNat, *]) : b = r:=by rwa [if_neg hc] at h
attribute [simp] arC_get arC_sub arC_put
/-! contracts -/
structure Con (α β : Type) where
 E : α→List PV
 R : α→β→PV×List (List Cell)
 g : α→Option β
section
variable {α β : Type} {K : Con α β}
noncomputable def Con.G (K : Con α β) : List PV→Option (PV×List (List Cell)):=lift K.E fun x=>(K.g x).map (K.R x)
def Con.Inj (K : Con α β) : Prop:=∀ a b,K.E a = K.E b→a = b
theorem Con.Inj.eq (hi : K.Inj) {x : α} {y : β} (h : K.g x = some y) : K.G (K.E x) = some (K.R x y):=lift_som hi h
theorem Con.none {ps : List PV} (h : ∀ a,K.E a = ps→False) : K.G ps = none:=lift_none h
def tabAll (T : Tab) : List (Nat×(List PV→Option (PV×List (List Cell))))→Prop
 | []=>True
 | (g,F) :: l=>T g = some F∧tabAll T l
theorem tabAll_sub {l m : List (Nat×(List PV→Option (PV×List (List Cell))))} {own : Nat→List (List Nat)} (h : ∀ p∈m,(tab l own).fn p.1 = some p.2) : tabAll (tab l own) m:=by
 induction m with
 | nil=>trivial
 | cons p m ih=>exact ⟨h p (by simp),ih fun q hq=>h q (by simp [hq])⟩
/-- what a walk shows -/
def Walk (tt : TT) (G : Glob) (l : List (Nat×(List PV→Option (PV×List (List Cell))))) (own : Nat→List (List Nat)) (fn : Func) (K : Con α β) : Prop :=
 ∀ T : Tab,T.own = own→tabAll T l→∀ x y,K.g x = some y→∃ kp fl n,execFn tt T G kp fl n fn (K.E x) = some (K.R x y)
def kpL : List (Nat×Kp)→Keep
 | [],_=>⟨[],[],[]⟩
 | (j,q) :: l,i=>if i = j then q else kpL l i
theorem Walk.of {tt : TT} {G : Glob} {l : List (Nat×(List PV→Option (PV×List (List Cell))))} {own : Nat→List (List Nat)} {fn : Func} {c : Code} {n : Nat} (kl : List (Nat×Kp)) (w : Bool) (hb : fn.body = some c) (hn : fn.ntmps = n)
  (h : ∀ T : Tab,T.own = own→tabAll T l→∀ x y,K.g x = some y→ioChk (K.E x) = true∧EndE tt T G (kpL kl) c ⟨(ioIn 0 0 (K.E x)).1++List.replicate (n - (K.E x).length) .skip,ioBx (K.E x)⟩ (FinQ tt w fn (K.E x) (K.R x y))) : Walk tt G l own fn K :=
 fun T h1 h2 x y h3=>fnE (kp:=kpL kl) (w:=w) hb (h T h1 h2 x y h3).1 (by rw [hn]; exact (h T h1 h2 x y h3).2)
def distinctF : List (Nat×(List PV→Option (PV×List (List Cell))))→Bool
 | []=>true
 | (g,_) :: l=>l.all (fun q=>!(q.1 == g)) && distinctF l
theorem tabAll_tab {own : Nat→List (List Nat)} : ∀ {l : List (Nat×(List PV→Option (PV×List (List Cell))))},distinctF l = true→∀ p∈l,tabF l p.1 = some p.2
 | [],_,p,hp=>by simp at hp
 | (g,F) :: l,h,p,hp=>by
  simp only [distinctF,Bool.and_eq_true,List.all_eq_true] at h;simp only [tabF];rcases List.mem_cons.1 hp with rfl | hp
  ·simp
  ·have:=h.1 p hp
   rw [if_neg (by simpa using this)];exact tabAll_tab (own:=own) h.2 p hp
theorem mkW {P : Program} {tt : TT} {G : Glob} {l : List (Nat×(List PV→Option (PV×List (List Cell))))} {own : Nat→List (List Nat)} (hm : P.follows .mixedOrders = true) (htt : ∀ t i,tt t = some i→tinfo P t = some i)
  {f : FuncId} {fn : Func} {c : Code} (w : Walk tt G l own fn K) (hT : AllI P G l) (hf : P.funcs[f]? = some fn) (hb : fn.body = some c) (hname : (!(fn.name == "runtime.NumGoroutine") && distinctF l) = true) : Impl P G f K.G:=by
 simp only [Bool.and_eq_true,Bool.not_eq_true'] at hname;exact mkI (T:=tab l own) hm htt (tab_ok hT) hf hb hname.1 fun x y hy=>w _ rfl (tabAll_sub (tabAll_tab (own:=own) hname.2)) x y hy
end
/-! steps -/
attribute [simp] kpL
section
variable {tt : TT} {T : Tab} {G : Glob} {kp : Keep} {st st0 st1 : ASt} {a b c d : Code} {Q Q' : AE→ASt→Prop} {P R H : Prop}
def Imp (R P : Prop) : Prop:=R→P
structure SameP (X R : Prop) : Prop where
 h : X = R
theorem Imp.of (e : SameP P R) : Imp P R:=fun p=>e.h ▸ p
theorem im_seq_reg {id : Nat} {ops : Array Oper} (hc : c = .region id ops false) (h : runL tt T G ops.toList ops.toList st = some st1) (hq : Imp R (EndE tt T G kp b st1 Q)) (hj : (kp (id + 1000000)).ks.isEmpty = true:=by rfl) : Imp R (EndE tt T G kp (.seq c b) st Q):=fun r=>ee_seq_reg hc h (hq r) hj
theorem im_seq_draw {id : Nat} {ops : Array Oper} {fs : List Foot} (hc : c = .region id ops true) (h : runU tt T G ops.toList ops.toList st = some (st1,fs)) (hd : drawOk ops.toList fs = true) (hq : Imp R (EndE tt T G kp b st1 Q)) (hj : (kp (id + 1000000)).ks.isEmpty = true:=by rfl) : Imp R (EndE tt T G kp (.seq c b) st Q):=fun r=>ee_seq_draw hc h hd (hq r) hj
theorem im_reg {id : Nat} {ops : Array Oper} (hc : c = .region id ops false) (h : runL tt T G ops.toList ops.toList st = some st1) (hq : Imp R (Q .normal st1)) (hj : (kp (id + 1000000)).ks.isEmpty = true:=by rfl) : Imp R (EndE tt T G kp c st Q):=fun r=>ee_reg hc h (hq r) hj
theorem im_draw {id : Nat} {ops : Array Oper} {fs : List Foot} (hc : c = .region id ops true) (h : runU tt T G ops.toList ops.toList st = some (st1,fs)) (hd : drawOk ops.toList fs = true) (hq : Imp R (Q .normal st1)) (hj : (kp (id + 1000000)).ks.isEmpty = true:=by rfl) : Imp R (EndE tt T G kp c st Q):=fun r=>ee_draw hc h hd (hq r) hj
theorem im_assoc (h : Imp R (EndE tt T G kp (.seq a (.seq b d)) st Q)) : Imp R (EndE tt T G kp (.seq (.seq a b) d) st Q):=fun r=>ee_assoc (h r)
theorem im_skip (h : Imp R (Q .normal st)) : Imp R (EndE tt T G kp .skip st Q):=fun r=>ee_skip (h r)
theorem im_ret (h : Imp R (Q .ret st)) : Imp R (EndE tt T G kp .ret st Q):=fun r=>ee_ret (h r)
theorem im_exit {id : Nat} (h : Imp R (Q (.exit id) st)) : Imp R (EndE tt T G kp (.exit id) st Q):=fun r=>ee_exit (h r)
theorem im_seq_skip (h : Imp R (EndE tt T G kp b st Q)) : Imp R (EndE tt T G kp (.seq .skip b) st Q):=fun r=>ee_seq_skip (h r)
theorem im_seq_ret (h : Imp R (Q .ret st)) : Imp R (EndE tt T G kp (.seq .ret b) st Q):=fun r=>ee_seq_ret (h r)
theorem im_seq_exit {id : Nat} (h : Imp R (Q (.exit id) st)) : Imp R (EndE tt T G kp (.seq (.exit id) b) st Q):=fun r=>ee_seq_exit (h r)
theorem im_block {id : Nat} (h : Imp R (EndE tt T G kp c st (outOf id Q))) : Imp R (EndE tt T G kp (.block id c) st Q):=fun r=>ee_block (h r)
theorem im_seq_block {id : Nat} (h : Imp R (EndE tt T G kp c st (outOf id (thenQ (fun s=>EndE tt T G kp d s Q) Q)))) : Imp R (EndE tt T G kp (.seq (.block id c) d) st Q):=fun r=>ee_seq_block (h r)
theorem im_condT {x : Operand} (h : rd G st.get x = some (bV true)) (h1 : Imp R (EndE tt T G kp a st Q)) : Imp R (EndE tt T G kp (.cond x a b) st Q):=fun r=>ee_condT h (h1 r)
theorem im_condF {x : Operand} (h : rd G st.get x = some (bV false)) (h1 : Imp R (EndE tt T G kp b st Q)) : Imp R (EndE tt T G kp (.cond x a b) st Q):=fun r=>ee_condF h (h1 r)
theorem im_seq_condT {x : Operand} (h : rd G st.get x = some (bV true)) (h1 : Imp R (EndE tt T G kp (.seq a d) st Q)) : Imp R (EndE tt T G kp (.seq (.cond x a b) d) st Q):=fun r=>ee_seq_condT h (h1 r)
theorem im_seq_condF {x : Operand} (h : rd G st.get x = some (bV false)) (h1 : Imp R (EndE tt T G kp (.seq b d) st Q)) : Imp R (EndE tt T G kp (.seq (.cond x a b) d) st Q):=fun r=>ee_seq_condF h (h1 r)
theorem im_pq (h : Imp R P) (e : H = P) : Imp R H:=fun r=>e ▸ h r
/-- the straight steps -/
theorem go (k : R) (h : ∀ X : Prop,SameP X R→Imp X P:=by
 intro X e
 repeat (first
  | (with_reducible refine im_assoc ?_)
  | (with_reducible refine im_seq_skip ?_)
  | (with_reducible refine im_seq_block ?_)
  | (with_reducible refine im_seq_exit ?_)
  | (with_reducible refine im_seq_ret ?_)
  | (with_reducible refine im_block ?_)
  | (with_reducible refine im_skip ?_)
  | (with_reducible refine im_exit ?_)
  | (with_reducible refine im_ret ?_)
  | (with_reducible refine im_seq_condT ?_ ?_; · simp [-Int.ofNat_toNat,bV, *]; done)
  | (with_reducible refine im_seq_condF ?_ ?_; · simp [-Int.ofNat_toNat,bV, *]; done)
  | (refine im_seq_reg rfl (by first | (simp [-Int.ofNat_toNat, *] <;> rfl) | fail) ?_)
  | (refine im_seq_draw rfl (by simp [-Int.ofNat_toNat, *]; first | exact ⟨rfl,rfl⟩ | rfl) (by kernel_rfl) ?_)
  | (with_reducible refine im_condT ?_ ?_; · simp [-Int.ofNat_toNat,bV, *]; done)
  | (with_reducible refine im_condF ?_ ?_; · simp [-Int.ofNat_toNat,bV, *]; done)
  | (refine im_reg rfl (by first | (simp [-Int.ofNat_toNat, *] <;> rfl) | fail) ?_)
  | (refine im_draw rfl (by simp [-Int.ofNat_toNat, *]; first | exact ⟨rfl,rfl⟩ | rfl) (by kernel_rfl) ?_)
  | (refine im_pq ?_ (by simp only [pq,reduceCtorEq]; rfl)))
 exact Imp.of e) : P:=h R ⟨rfl⟩ k
/-- a condition in its normal form -/
theorem nrm {p q : Prop} (c : p) (h : p→q:=by
 intro h;try simp [-Int.ofNat_toNat] at h
 first | exact (eq_true h : (_ = _) = True) | exact h) : q:=h c
/-- what is left of the names of a loop's head -/
theorem nst (k : R) (h : P = R:=by simp only [und,List.replicate,List.cons_append,List.nil_append]; rfl) : P:=h ▸ k
/-- the end -/
theorem fin (h : H) (k : H→P:=by
 intro h;obtain rfl:=Option.some.inj h
 repeat (simp only [pq,reduceCtorEq]; rintro rfl)
 simp [-Int.ofNat_toNat,FinQ, *]) : P:=k h
/-- the end of a loop's body -/
theorem bk (h : H) (k : H→P:=by
 intro h;obtain rfl:=Option.some.inj h
 repeat (simp only [pq,reduceCtorEq]; rintro rfl)
 simp only [pq,reduceCtorEq]
 simp [-Int.ofNat_toNat,und,List.replicate,Nat.add_assoc, *]) : P:=k h
theorem lp {σ ρ : Type} {step : σ→Option (σ ⊕ ρ)} (n : Nat) (H : σ→ASt) {s : σ} {r : ρ}
  (hr : runLoop step s = some r)
  (hb : ∀ s x,step s = some x→EndE tt T G kp c (H s) (QL (kp n) H Q r x)) (hn : firstId c = n:=by kernel_rfl) (hf : forget (kp n) st = H s:=by simp [-Int.ofNat_toNat,und,List.replicate, *]) : EndE tt T G kp (.loop c) st Q :=
 ee_loop (by rw [hn]) hr hf hb
theorem ua (h : EndE tt T G kp (.seq (.seq a b) d) st Q) : EndE tt T G kp (.seq a (.seq b d)) st Q:=by
 obtain ⟨n0,e,s,h1,h2⟩:=h;refine ⟨n0,e,s,fun n hn=>?_,h2⟩;rw [← h1 n hn];simp only [exec];cases exec tt T G kp n a st with
 | none=>rfl
 | some x=>obtain ⟨e,s⟩:=x; cases e <;> rfl
theorem jn {H : ASt} (key : Nat) (h0 : EndE tt T G kp d H Q) (h : EndE tt T G kp d H Q→EndE tt T G kp c H Q:=by first | exact id | exact ua | exact fun h=>ua (ua h)) (hc : firstJ c = some key:=by rfl) (ha : (kp key).ks.isEmpty = false:=by rfl) (hf : forget (kp key) st = forget (kp key) H:=by simp [-Int.ofNat_toNat,und,List.replicate, *]) : EndE tt T G kp c st Q :=
 ee_join hc rfl ha hf (h h0)
end
/-! code -/
abbrev kk (fn : Func) (F : (Nat→Code)→Code) : Code:=F (reg fn)
abbrev co (n : Nat) (a b : Code) : Code:=.cond (.tmp n) a b
end Go.Av
end
section
namespace Go.Av
open Go.RowKit
set_option linter.unusedVariables false
set_option linter.unusedSimpArgs false
/-! slices.Delete of an own row: elements i to j - 1 are taken out,in place -/
/-- the world behind it -/
structure DelW (w w' : World) (k s n i j : Nat) (arr : Array Value) (T : TypeId) : Prop where
 os : w'.os = w.os
 tape : w'.tape = w.tape
 output : w'.output = w.output
 size : w'.heap.size = w.heap.size
 other : ∀ b,b≠k→w'.heap[b]? = w.heap[b]?
 row : ∃ arr',w'.heap[k]? = some (.cells arr' T (0,0))∧arr'.size = arr.size∧∀ q,q < (i + (n - j)) * s→arr'[q]? = if q < i * s then arr[q]? else arr[q + (j - i) * s]?
def delF (s : Nat) : List PV→Option (PV×List (List Cell))
 | [.one (.own e els),.one (.v (.int .i64 i)),.one (.v (.int .i64 j))]=>if e = s∧0≤i∧i < j∧j≤els.length then some (.one (.own e (els.take i.toNat++els.drop j.toNat)),[]) else none
 | _=>none
theorem delF_some {s : Nat} {ps : List PV} {r : PV×List (List Cell)} (h : delF s ps = some r) : ∃ els i j,ps = [.one (.own s els),.one (.v (.int .i64 (i : Nat))),.one (.v (.int .i64 (j : Nat)))]∧i < j∧j≤els.length∧r = (.one (.own s (els.take i++els.drop j)),[]):=by
 unfold delF at h;split at h
 ·rename_i e els i j
  split at h
  ·rename_i hc
   obtain ⟨rfl,h1,h2,h3⟩:=hc;obtain ⟨i,rfl⟩:=Int.eq_ofNat_of_zero_le h1;obtain ⟨j,rfl⟩:=Int.eq_ofNat_of_zero_le (a:=j) (by omega);injection h with h;exact ⟨els,i,j,rfl,by omega,by omega,by rw [← h]; rfl⟩
  ·cases h
 ·cases h
theorem flat_del {els : List (List Cell)} {s i j : Nat} (hes : ∀ l∈els,l.length = s) (hij : i < j) (hj : j≤els.length) {q : Nat} {c : Cell} (hc : (els.take i++els.drop j).flatten[q]? = some c) :
  q < (i + (els.length - j)) * s∧els.flatten[if q < i * s then q else q + (j - i) * s]? = some c:=by
 have hl:=getElem_pos hc;have h1 : (els.take i).flatten.length = i * s:=by rw [flat_len fun l hl=>hes l (List.mem_of_mem_take hl),List.length_take,Nat.min_eq_left (by omega)]
 have h2 : (els.drop j).flatten.length = (els.length - j) * s:=by rw [flat_len fun l hl=>hes l (List.mem_of_mem_drop hl),List.length_drop]
 have h3 : els.flatten = (els.take i).flatten++(els.drop i).flatten:=by rw [← List.flatten_append,List.take_append_drop]
 have h4 : els.flatten = (els.take j).flatten++(els.drop j).flatten:=by rw [← List.flatten_append,List.take_append_drop]
 have h5 : (els.take j).flatten.length = j * s:=by rw [flat_len fun l hl=>hes l (List.mem_of_mem_take hl),List.length_take,Nat.min_eq_left (by omega)]
 rw [List.flatten_append] at hc hl;rw [List.length_append,h1,h2,← Nat.add_mul] at hl;refine ⟨hl,?_⟩;split
 ·rename_i h
  rw [h3,List.getElem?_append_left (by omega)];rw [List.getElem?_append_left (by omega)] at hc;exact hc
 ·rename_i h
  have e1 : i * s + (j - i) * s = j * s:=by rw [← Nat.add_mul]; congr 1; omega
  rw [List.getElem?_append_right (by omega),h1] at hc;rw [h4,List.getElem?_append_right (by omega),h5];rw [show q + (j - i) * s - j * s = q - i * s by omega];exact hc
theorem impl_del {P : Program} {G : Glob} {f : FuncId} {s : Nat} (hf : ∃ fn,P.funcs[f]? = some fn∧fn.body.isNone = false∧(fn.name == "runtime.NumGoroutine") = false)
  (hrun : ∀ (w : World) (k n C i j : Nat) (arr : Array Value) (T : TypeId),w.heap[k]? = some (.cells arr T (0,0))→C * s≤arr.size→n≤C→C≤maxLen→i < j→j≤n→(∀ q v,q < n * s→arr[q]? = some v→v.oneCell' = true) →
   Calls P f #[.slice (some ⟨k,0,none⟩) n C,.int .i64 i,.int .i64 j] w fun e w'=>e = .returned (.slice (some ⟨k,0,none⟩) (i + (n - j)) C)∧DelW w w' k s n i j arr T) : Impl P G f (delF s):=by
 refine ⟨hf,?_⟩;intro S w ks hs ps vs r outs hg hS ha hk hF;obtain ⟨els,i,j,rfl,hij,hj,hr⟩:=delF_some hF;injection hr with hr1 hr2;subst hr1 hr2;cases ha with
 | one a1 ha=>cases ha with
  | one a2 ha=>cases ha with
   | one a3 ha =>
    cases ha
    cases a2 with
    | pure a2=>cases a3 with
     | pure a3 =>
      cases a2 with
      | v _ _ _=>cases a3 with
       | v _ _ _ =>
        cases a1 with
        | pure a1=>cases a1
        | none=>simp at hj; omega
        | own _ _ n k C hn ho =>
         subst hn;obtain ⟨arr,T,hb,hsz,hrep⟩:=ho.blk;have hfl : els.flatten.length = els.length * s:=flat_len ho.len;have h1c : ∀ q v,q < els.length * s→arr[q]? = some v→v.oneCell' = true:=fun q v hq hv=>(hrep q (els.flatten[q]'(by omega)) v (by simp) hv).one
         refine (hrun w k els.length C i j arr T hb hsz ho.room ho.cap hij hj h1c).mono ?_;rintro e w' ⟨rfl,hw⟩
         obtain ⟨arr',hb',hsz',hget⟩:=hw.row
         have hcell : ∀ b o,S b o→w'.cell? ⟨b,o,none⟩ = w.cell? ⟨b,o,none⟩:=fun b o h=>by
          have : b≠k:=by rintro rfl; exact ho.free o h
          exact World.cell?_of_block (a:=⟨b,o,none⟩) (hw.other b this)
         refine ⟨_,S,[some (k,C)],[],rfl,.base (.one (.own s _ _ k C (by simp; omega) ⟨.inr (by simp [blksOf]),⟨arr',T,hb',by omega,fun q c v hc hv=>?_⟩,by simp; have:=ho.room; omega,ho.cap,fun l hl=>?_,ho.free⟩)),.skip (by simp) (by simp) (.skip (by simp) (by simp) (.skip (by simp) (by simp) .nil)),by simp [blksOf],⟨hw.os,hw.tape,hw.output,by rw [hw.size]; exact Nat.le_refl _,fun b _ hb2=>hw.other b (by rintro rfl; simp [blksOf] at hb2),fun b a1 T1 hb2 h1=>?_⟩,fun _ _ h=>h,fun _ _ h=>.inl h,fun b o h=>by rw [hw.size]; exact hS b o h⟩
         ·obtain ⟨h1,h2⟩:=flat_del ho.len hij hj hc
          rw [hget q h1] at hv;refine (hrep _ c v h2 ?_).mono (fun _ _ h=>h) hcell;split <;> rename_i h <;> simp only [h,if_true,if_false] at hv <;> exact hv
         ·rcases List.mem_append.1 hl with hl | hl
          ·exact ho.len l (List.mem_of_mem_take hl)
          ·exact ho.len l (List.mem_of_mem_drop hl)
         ·simp [blksOf] at hb2
          subst hb2;rw [hb] at h1;injection h1 with h1;injection h1 with h1 _ _;subst h1;exact ⟨arr',T,hb',by omega⟩
theorem impl_wk {P : Program} {G : Glob} {f : FuncId} {F F' : List PV→Option (PV×List (List Cell))} (h : Impl P G f F) (hw : ∀ ps r,F' ps = some r→F ps = some r) : Impl P G f F' :=
 ⟨h.1,fun S w ks hh ps vs r outs a1 a2 a3 a4 hF=>h.2 S w ks hh ps vs r outs a1 a2 a3 a4 (hw _ _ hF)⟩
/-- append in place as one step of a region that draws -/
theorem step_app_in {P : Program} {ops : Array Oper} {o : Oper} {a : Act} {w : World} {K : Act→World→Prop} {Q : Exit→Act→World→Prop} {E : Prop}
  (hg : o.guard = none) (s x : Operand) (t : TypeId) (hop : o.op = Op.call { callee:=Callee.builtin Builtin.append,args:=#[s,x],argTypes:=#[t,t] })
  (e : TypeId) (i : TypeInfo) (h1 : P.underlying t = some (.slice e)) (h2 : P.info? e = some i) (b n cap : Nat) (hs : a.eval s = .slice (some ⟨b,0,none⟩) n cap) (v : Value) (m : Nat) (news : List Value) (hx : a.eval x = v) (hsrc : Src P w t i.size m v news)
  (arr : Array Value) (T : TypeId) (hb : w.heap[b]? = some (.cells arr T (0,0))) (h1c : ∀ u∈news,u.oneCell' = true) (hroom : n + m≤cap) (hfit : 0 + n * i.size + news.length≤arr.size)
  (hK : K (a.put o.dst (.slice (some ⟨b,0,none⟩) (n + m) cap)) (w.setRow b (arr.toList.take (0 + n * i.size)++news++arr.toList.drop (0 + n * i.size + news.length)).toArray)) :
  if Region.wanted o (yielded ops a.tmps) = true then Oper.wp P o a w K Q else E:=by
 have hw : Region.wanted o (yielded ops a.tmps) = true:=by simp [Region.wanted,hg]
 rw [if_pos hw];have hrun:=run_app_in (P:=P) (ty:=o.type) h1 h2 hsrc hb h1c hroom hfit;unfold Oper.wp;simp [execOp,hop,resolve,invoke,builtin,hs,hx,hrun,Result.andThen]
 simp only [Nat.zero_add,List.append_assoc] at hK;exact hK
theorem src_row {P : Program} {w : World} {t e : TypeId} {size m c b o : Nat} {news : List Value} (ht : P.underlying t = some (.slice e)) (hl : news.length = m * size) (h : Lies w b o news) : Src P w t size m (.slice (some ⟨b,o,none⟩) m c) news:=by
 have hfc : ∀ (w' : World),Lies w' b o news→∀ q,q≤m→(Builtin.firstCells size q (.slice (some ⟨b,o,none⟩) m c)).run P w' = .ok (news.take (q * size)).toArray w' := by
  intro w' hlw q hq;have:=(hlw.take (q * size)).load (P:=P)
  have hml : (news.take (q * size)).length = q * size:=by
   simp only [List.length_take,hl];exact Nat.min_eq_left (Nat.mul_le_mul_right _ hq)
  rw [hml] at this;simp [Builtin.firstCells,this]
 exact ⟨⟨_,ht,by simp⟩,fun w=>rfl,hfc w h,hfc w.drew h.drew,hl⟩
/-- the cells behind the last element are cleared -/
theorem run_clear_row {P : Program} {t e : TypeId} {z : Value} {zs : List Zc} (ht : P.underlying t = some (.slice e)) (hz : ∀ w,(zeroValue e).run P w = .ok z w) (hz2 : z.cells.toList = zs.map Zc.val) {w : World} {k lo m : Nat} (c : Nat) {arr : Array Value} {T : TypeId}
  (hb : w.heap[k]? = some (.cells arr T (0,0))) (hm : 0 < m) (hfit : lo + m * zs.length≤arr.size) :
  ∃ zl : List Value,zl.length = m * zs.length∧∀ ty,(Builtin.clear_ #[t] ty #[.slice (some ⟨k,lo,none⟩) m c]).run P w = .ok (.tuple #[]) (w.setRow k (arr.toList.take lo++zl++arr.toList.drop (lo + zl.length)).toArray):=by
 have hzs : z.cells.size = zs.length:=by rw [← Array.length_toList,hz2]; simp
 have hl : (Builtin.zeroCells z.cells m).toList.length = m * zs.length:=by rw [Array.length_toList,zeros_size hzs]
 refine ⟨(Builtin.zeroCells z.cells m).toList,hl,fun ty=>?_⟩;have hr : All2 (RepC (fun _ _=>False) w) (List.replicate m (zs.map Zc.cell)).flatten (Builtin.zeroCells z.cells m).toList:=zeros_rep hz2 rfl
 have h1 : ∀ v∈(Builtin.zeroCells z.cells m).toList,v.oneCell' = true:=by
  intro v hv;obtain ⟨q,hq⟩:=List.getElem?_of_mem hv;have hql:=getElem_pos hq;rw [← hr.length] at hql;obtain ⟨v',hv',hc⟩:=hr.get (i:=q) (a:=(List.replicate m (zs.map Zc.cell)).flatten[q]) (by simp [hql]);rw [hq] at hv';injection hv' with hv';subst hv';exact hc.one
 have hst:=run_storeCells_at P k lo T (Builtin.zeroCells z.cells m).toList 0 arr w hb (by omega) h1;simp only [Nat.add_zero] at hst;exact run_clear (i:=default) ht hz (fun ad had _=>by injection had with had; subst had; exact hst) (fun h=>by rcases h with h | h <;> first | (simp at h; done) | omega)
theorem getElem?_splice {α : Type} {l m : List α} {o q : Nat} (h : o + m.length≤l.length) : (l.take o++m++l.drop (o + m.length))[q]? = if q < o then l[q]? else if q < o + m.length then m[q - o]? else l[q]? := by
 have h1 : (l.take o).length = o:=by simp; omega
 split
 ·rename_i hq
  rw [List.append_assoc,List.getElem?_append_left (by omega),List.getElem?_take_of_lt hq]
 ·rename_i hq
  split
  ·rename_i hq2
   rw [List.append_assoc,List.getElem?_append_right (by omega),h1,List.getElem?_append_left (by omega)]
  ·rename_i hq2
   rw [List.getElem?_append_right (by simp; omega),List.getElem?_drop]
   congr 1
   simp
   omega
theorem del_world {w : World} {k s n i j : Nat} {arr : Array Value} {T : TypeId} {news zl : List Value} (hb : w.heap[k]? = some (.cells arr T (0,0))) (hij : i < j) (hj : j≤n) (hn : n * s≤arr.size) (hnews : news = (arr.toList.drop (j * s)).take ((n - j) * s)) (hzl : zl.length = (n - (i + (n - j))) * s) {a1 a2 : Nat} (ha1 : a1 = i * s) (ha2 : a2 = (i + (n - j)) * s) {A1 : List Value} (hA1 : A1 = arr.toList.take a1++news++arr.toList.drop (a1 + news.length)) :
  DelW w ((w.drew.setRow k A1.toArray).setRow k (A1.toArray.toList.take a2++zl++A1.toArray.toList.drop (a2 + zl.length)).toArray) k s n i j arr T:=by
 subst ha1 ha2
 have hnl : news.length = (n - j) * s:=by
  rw [hnews,List.length_take,List.length_drop,Array.length_toList];refine Nat.min_eq_left ?_;have : (n - j) * s + j * s = n * s:=by rw [← Nat.add_mul]; congr 1; omega
  omega
 have e1 : i * s + (n - j) * s = (i + (n - j)) * s:=(Nat.add_mul _ _ _).symm;have e2 : (i + (n - j)) * s + (n - (i + (n - j))) * s = n * s:=by rw [← Nat.add_mul]; congr 1; omega
 have e3 : i * s + (j - i) * s = j * s:=by rw [← Nat.add_mul]; congr 1; omega
 have hf1 : i * s + news.length≤arr.toList.length:=by rw [hnl,Array.length_toList]; omega
 have hl1 : A1.length = arr.size:=by rw [hA1]; simp; omega
 have hf2 : (i + (n - j)) * s + zl.length≤A1.toArray.toList.length:=by rw [hzl]; simp only [List.toList_toArray]; omega
 have hb' : w.drew.heap[k]? = some (.cells arr T (0,0)):=hb;have h1:=setRow_heap w.drew k arr A1.toArray T (0,0) hb';have h2:=setRow_heap (w.drew.setRow k A1.toArray) k A1.toArray (A1.toArray.toList.take ((i + (n - j)) * s)++zl++A1.toArray.toList.drop ((i + (n - j)) * s + zl.length)).toArray T (0,0) h1;refine ⟨rfl,rfl,rfl,by simp,fun b hbk=>?_,_,h2,?_,fun q hq=>?_⟩
 ·rw [setRow_other _ _ _ _ hbk,setRow_other _ _ _ _ hbk]; rfl
 ·simp only [List.size_toArray,List.length_append,List.length_take,List.length_drop]
  simp only [List.toList_toArray] at hf2 ⊢;omega
 ·rw [List.getElem?_toArray,getElem?_splice hf2,if_pos hq,List.toList_toArray,hA1,getElem?_splice hf1]
  split
  ·simp
  ·rename_i h
   rw [if_pos (by omega),hnews,List.getElem?_take_of_lt (by omega),List.getElem?_drop,Array.getElem?_toList]
   congr 1
   omega
end Go.Av
end
section
/- Ranges of numbers of a type. -/
namespace Go.Av
theorem wfi_i64 {x : Int} (h : (Lit.int .i64 x).wf = true) : -9223372036854775808≤x∧x≤9223372036854775807:=by simpa [Lit.wf,IntKind.has,IntKind.min,IntKind.max,IntKind.signed,IntKind.bits] using h
end Go.Av
end
section
/- Plain facts about steps that may fail,loops and numbers. -/
namespace Go.Lc
open Go.RowKit
open Go.Av
set_option linter.unusedVariables false

/-! loops -/
theorem runLoop_step {σ ρ : Type} {step : σ→Option (σ ⊕ ρ)} {s s' : σ} (h : step s = some (.inl s')) : runLoop step s = runLoop step s' := by rw [runLoop_eq,h]
theorem runLoop_exit {σ ρ : Type} {step : σ→Option (σ ⊕ ρ)} {s : σ} {x : Option ρ} (h : step s = x.map .inr) : runLoop step s = x:=by
 rw [runLoop_eq,h];cases x <;> rfl
theorem runLoop_end {σ ρ : Type} {step : σ→Option (σ ⊕ ρ)} {s : σ} {r : ρ} (h : step s = some (.inr r)) : runLoop step s = some r:=by rw [runLoop_eq,h]
/-- n steps,and what is then done -/
theorem runLoop_to {σ ρ : Type} {step : σ→Option (σ ⊕ ρ)} (enc : Nat→σ) (n : Nat) {x : Option ρ} (h : ∀ i,i < n→step (enc i) = some (.inl (enc (i + 1)))) (he : step (enc n) = x.map .inr) : runLoop step (enc 0) = x:=by
 have key : ∀ k,k≤n→runLoop step (enc (n - k)) = x:=by
  intro k;induction k with
  | zero=>intro _; exact runLoop_exit he
  | succ k ih =>
   intro hk;rw [runLoop_step (h (n - (k + 1)) (by omega)),show n - (k + 1) + 1 = n - k by omega];exact ih (by omega)
 have:=key n (Nat.le_refl _)
 rwa [Nat.sub_self] at this
/-- a loop with an invariant -/
theorem runLoop_inv {σ ρ : Type} {step : σ→Option (σ ⊕ ρ)} (I : Nat→σ→Prop) (Q : ρ→Prop) (h : ∀ i s,I i s→(∃ j s',j < i∧step s = some (.inl s')∧I j s')∨∃ r,step s = some (.inr r)∧Q r) : ∀ (n : Nat) (s : σ),I n s→∃ r,runLoop step s = some r∧Q r:=by
 intro n;induction n using Nat.strongRecOn with
 | _ n ih =>
  intro s hs;rcases h n s hs with ⟨j,s',hj,h1,h2⟩ | ⟨r,h1,h2⟩
  ·obtain ⟨r,h3,h4⟩:=ih j hj s' h2
   exact ⟨r,(runLoop_step h1).trans h3,h4⟩
  ·exact ⟨r,runLoop_end h1,h2⟩

/-! steps that do not fail -/
def Tot {α : Type} (x : Option α) (Q : α→Prop) : Prop:=∃ a,x = some a∧Q a
section
variable {α β : Type} {x : Option α} {f : α→Option β} {P : α→Prop} {Q : β→Prop}
theorem Tot.bind (h : Tot x P) (k : ∀ a,P a→Tot (f a) Q) : Tot (x.bind f) Q:=by
 obtain ⟨a,rfl,ha⟩:=h;exact k a ha
theorem Tot.mono {P' : α→Prop} (h : Tot x P) (k : ∀ a,P a→P' a) : Tot x P' := by
 obtain ⟨a,h1,ha⟩:=h;exact ⟨a,h1,k a ha⟩
theorem tot_some {a : α} (h : P a) : Tot (some a) P:=⟨a,rfl,h⟩
theorem tot_ite {c : Prop} [Decidable c] {a b : Option α} (h1 : c→Tot a P) (h2 : ¬ c→Tot b P) : Tot (if c then a else b) P:=by
 by_cases h : c
 ·rw [if_pos h]; exact h1 h
 ·rw [if_neg h]; exact h2 h
theorem Tot.inr {ρ σ : Type} {x : Option ρ} {Q : ρ→Prop} (h : Tot x Q) : ∃ r,(x.map Sum.inr : Option (σ ⊕ ρ)) = some (.inr r)∧Q r:=by
 obtain ⟨a,rfl,ha⟩:=h;exact ⟨a,rfl,ha⟩
end
theorem bind_some' {α β : Type} (a : α) (f : α→Option β) : (some a).bind f = f a:=rfl
theorem chk_bind {p : Prop} [Decidable p] {α : Type} {f : Unit→Option α} (h : p) : (chk p).bind f = f ():=by rw [chk_pos h]; rfl
theorem idx_get {α : Type} {l : List α} {i : Nat} (h : i < l.length) : idx l (i : Int) = some l[i]:=by simp [idx,h]
theorem idx_bind {α β : Type} {l : List α} {i : Nat} {f : α→Option β} (h : i < l.length) : (idx l (i : Int)).bind f = f l[i]:=by rw [idx_get h]; rfl
theorem inA_nat {n i : Nat} (h : i < n) : inA n (i : Int) = some i:=by simp [inA,h]
theorem inA_bind {β : Type} {n i : Nat} {f : Nat→Option β} (h : i < n) : (inA n (i : Int)).bind f = f i:=by rw [inA_nat h]; rfl
theorem get_bind {α β : Type} {l : List α} {i : Nat} {f : α→Option β} (h : i < l.length) : (l[i]?).bind f = f l[i]:=by rw [List.getElem?_eq_getElem h]; rfl

/-! numbers -/
theorem wi (n : Int) (h : -9223372036854775808≤n∧n≤9223372036854775807) : IntKind.i64.wrap n = n:=IntWalk.i64_in n h
theorem wi_succ {i n : Nat} (h : i < n) (hn : n≤9223372036854775807) : IntKind.i64.wrap ((i : Int) + 1) = ((i + 1 : Nat) : Int):=by rw [wi _ (by omega)]; omega
theorem wu (n : Int) (h : 0≤n∧n≤18446744073709551615) : IntKind.u64.wrap n = n:=IntWalk.u64_in n h

/-! lists -/
theorem fill_step {α : Type} (f : Nat→α) (z : α) {i k : Nat} (h : i < k) : (((List.range i).map f)++List.replicate (k - i) z).set i (f i) = ((List.range (i + 1)).map f)++List.replicate (k - (i + 1)) z:=by
 rw [List.set_append_right _ _ (by simp)];simp only [List.length_map,List.length_range,Nat.sub_self];rw [show k - i = (k - (i + 1)) + 1 by omega,List.replicate_succ,List.set_cons_zero,List.range_succ,List.map_append];simp
theorem fill_len {α : Type} (f : Nat→α) (z : α) {i k : Nat} (h : i≤k) : (((List.range i).map f)++List.replicate (k - i) z).length = k:=by simp; omega
end Go.Lc
end
section
/- Encodings: what the codec and its reference compute. -/
namespace Go.Lc
open Go.RowKit
open Go.Av
set_option linter.unusedVariables false

theorem least_bad (bad : Nat→Prop) : ∀ n,(∃ i,i < n∧bad i)→∃ m,m < n∧bad m∧∀ j,j < m→¬ bad j:=by
 classical
 intro n;induction n with
 | zero=>rintro ⟨i,h,_⟩; omega
 | succ n ih =>
  intro h;by_cases hx : ∃ i,i < n∧bad i
  ·obtain ⟨m,h1,h2,h3⟩:=ih hx
   exact ⟨m,by omega,h2,h3⟩
  ·obtain ⟨i,hi,hb⟩:=h
   have : i = n:=by
    rcases Nat.lt_or_ge i n with h' | h'
    ·exact absurd ⟨i,h',hb⟩ hx
    ·omega
   subst this;exact ⟨i,by omega,hb,fun j hj hb=>hx ⟨j,hj,hb⟩⟩
theorem runLoop_scan {σ ρ : Type} {step : σ→Option (σ ⊕ ρ)} (enc : Nat→σ) (n : Nat) (bad : Nat→Prop) (rb x : Option ρ) (h : ∀ i,i < n→¬ bad i→step (enc i) = some (.inl (enc (i + 1)))) (hb : ∀ i,i < n→bad i→step (enc i) = rb.map .inr) (he : step (enc n) = x.map .inr) : runLoop step (enc 0) = (by classical exact if ∃ i,i < n∧bad i then rb else x):=by
 classical
 by_cases hx : ∃ i,i < n∧bad i
 ·rw [if_pos hx]
  obtain ⟨m,hm,hbm,hmin⟩:=least_bad bad n hx;exact runLoop_to enc m (fun i hi=>h i (by omega) (hmin i hi)) (hb m hm hbm)
 ·rw [if_neg hx]
  exact runLoop_to enc n (fun i hi=>h i hi fun hbi=>hx ⟨i,hi,hbi⟩) he
theorem scan_list {σ ρ α : Type} {step : σ→Option (σ ⊕ ρ)} (enc : Nat→σ) (l : List α) (bad : α→Prop) (rb x : Option ρ) (h : ∀ i (hi : i < l.length),¬ bad l[i]→step (enc i) = some (.inl (enc (i + 1)))) (hb : ∀ i (hi : i < l.length),bad l[i]→step (enc i) = rb.map .inr) (he : step (enc l.length) = x.map .inr) : runLoop step (enc 0) = (by classical exact if ∃ a∈l,bad a then rb else x):=by
 classical
 rw [runLoop_scan enc l.length (fun i=>∃ hi : i < l.length,bad l[i]) rb x (fun i hi hn=>h i hi fun hb=>hn ⟨hi,hb⟩) (fun i hi ⟨_,hbi⟩=>hb i hi hbi) he]
 have : (∃ i,i < l.length∧∃ hi : i < l.length,bad l[i])↔∃ a∈l,bad a:=by
  constructor
  ·rintro ⟨i,_,hi,hb⟩
   exact ⟨_,List.getElem_mem hi,hb⟩
  ·rintro ⟨a,ha,hb⟩
   obtain ⟨i,hi,rfl⟩:=List.getElem_of_mem ha;exact ⟨i,hi,hi,hb⟩
 simp only [this]
/-- as scan_list,for any way to decide -/
theorem scan_dec {σ ρ α : Type} {step : σ→Option (σ ⊕ ρ)} (enc : Nat→σ) (l : List α) (bad : α→Prop) (rb x : Option ρ) [inst : Decidable (∃ a∈l,bad a)] (h : ∀ i (hi : i < l.length),¬ bad l[i]→step (enc i) = some (.inl (enc (i + 1)))) (hb : ∀ i (hi : i < l.length),bad l[i]→step (enc i) = rb.map .inr) (he : step (enc l.length) = x.map .inr) {s : σ} (hs : s = enc 0) : runLoop step s = if ∃ a∈l,bad a then rb else x:=by
 subst hs;rw [scan_list enc l bad rb x h hb he];split
 ·rfl
 ·rfl
theorem flatMap_take {α β : Type} {l : List α} (f : α→List β) {i : Nat} (h : i < l.length) : (l.take (i + 1)).flatMap f = (l.take i).flatMap f++f l[i]:=by
 rw [List.take_succ_eq_append_getElem h,List.flatMap_append];simp
theorem flatMap_take_le {α β : Type} (l : List α) (f : α→List β) (i : Nat) : ((l.take i).flatMap f).length≤(l.flatMap f).length:=by
 conv=>rhs; rw [← List.take_append_drop i l]
 rw [List.flatMap_append,List.length_append];omega

/-! numbers,lowest byte first -/
def lowB (n : Int) (k : Nat) : List Int:=(List.range k).map fun i=>IntKind.u8.wrap (n.fdiv (2 ^ (8 * i)))
@[simp] theorem lowB_len (n : Int) (k : Nat) : (lowB n k).length = k:=by simp [lowB]
theorem low_pow {i : Nat} (h : i < 8) : min (IntKind.i64.wrap (8 * (i : Int))).toNat 64 = 8 * i:=by
 rw [wi _ (by omega)];omega
theorem lowest_eq (n : Int) (k : Nat) (hk : k≤8) : Lcodec_lowest n k = some (lowB n k):=by
 unfold Lcodec_lowest;rw [chk_bind (by omega)]
 have:=runLoop_to (step:=Lcodec_lowest_s1 k n) (fun i=>((i : Int),((List.range i).map fun i=>IntKind.u8.wrap (n.fdiv (2 ^ (8 * i))))++List.replicate (k - i) 0)) k (x:=some (lowB n k)) (fun i hi=>by
  simp only [Lcodec_lowest_s1];rw [if_pos (by omega),chk_bind (by rw [wi _ (by omega)]; omega),fill_len _ _ (by omega),inA_bind hi,low_pow (by omega),fill_step (fun i=>IntKind.u8.wrap (n.fdiv (2 ^ (8 * i)))) 0 hi,wi_succ hi (by omega)]) (by
  simp only [Lcodec_lowest_s1];rw [if_neg (by omega)]
  simp [Lcodec_lowest_k1,lowB])
 simpa using this
theorem little_eq (n : Int) (k : Nat) (hk : k≤8) : Lref01_little n k = some (lowB n k):=by
 unfold Lref01_little;rw [chk_bind (by omega)]
 have:=runLoop_to (step:=Lref01_little_s1 k n) (fun i=>((i : Int),((List.range i).map fun i=>IntKind.u8.wrap (n.fdiv (2 ^ (8 * i))))++List.replicate (k - i) 0)) k (x:=some (lowB n k)) (fun i hi=>by
  simp only [Lref01_little_s1];rw [if_pos (by simp; omega),chk_bind (by rw [wi _ (by omega)]; omega),fill_len _ _ (by omega),inA_bind hi,low_pow (by omega),fill_step (fun i=>IntKind.u8.wrap (n.fdiv (2 ^ (8 * i)))) 0 hi,wi_succ hi (by omega)]) (by
  simp only [Lref01_little_s1];rw [if_neg (by simp)]
  simp [Lref01_little_k1,lowB])
 simpa using this
theorem extend_eq {a b : List Int} (h : a.length + b.length≤140737488355328) : Lcodec_extend a b = some (a++b):=by
 unfold Lcodec_extend;rw [wi _ (by omega),chk_bind (by omega),chk_bind (by omega),chk_bind (by omega)]
theorem joined_eq {a b : List Int} (h : a.length + b.length≤140737488355328) : Lref01_joined a b = some (a++b):=by
 unfold Lref01_joined;rw [wi _ (by omega),chk_bind (by omega),chk_bind (by omega),chk_bind (by omega)]
section
variable {b : List Int} {n : Int}
theorem u32_eq (h : b.length≤140737488355000) : Lcodec_AppendU32 b n = some (b++lowB (IntKind.u64.wrap n) 4):=by
 unfold Lcodec_AppendU32;have this : Lcodec_lowest (IntKind.u64.wrap n) 4 = some (lowB (IntKind.u64.wrap n) 4):=lowest_eq _ 4 (by omega);rw [this,bind_some',extend_eq (by simp; omega)];rfl
theorem u64_eq (h : b.length≤140737488355000) : Lcodec_AppendU64 b n = some (b++lowB n 8):=by
 unfold Lcodec_AppendU64;have this : Lcodec_lowest n 8 = some (lowB n 8):=lowest_eq _ 8 (by omega);rw [this,bind_some',extend_eq (by simp; omega)];rfl
theorem u16_eq (h : b.length≤140737488355000) : Lcodec_AppendU16 b n = some (b++lowB (IntKind.u64.wrap n) 2):=by
 unfold Lcodec_AppendU16;have this : Lcodec_lowest (IntKind.u64.wrap n) 2 = some (lowB (IntKind.u64.wrap n) 2):=lowest_eq _ 2 (by omega);rw [this,bind_some',extend_eq (by simp; omega)];rfl
theorem ru32_eq (h : b.length≤140737488355000) : Lref01_AppendU32 b n = some (b++lowB (IntKind.u64.wrap n) 4):=by
 unfold Lref01_AppendU32;have this : Lref01_little (IntKind.u64.wrap n) 4 = some (lowB (IntKind.u64.wrap n) 4):=little_eq _ 4 (by omega);rw [this,bind_some',joined_eq (by simp; omega)];rfl
theorem ru64_eq (h : b.length≤140737488355000) : Lref01_AppendU64 b n = some (b++lowB n 8):=by
 unfold Lref01_AppendU64;have this : Lref01_little n 8 = some (lowB n 8):=little_eq _ 8 (by omega);rw [this,bind_some',joined_eq (by simp; omega)];rfl
/-- a size -/
def sizeB (n : Int) : List Int:=if n < 253 then lowB n 1 else if n < 65536 then 253 :: lowB n 2 else if n < 4294967296 then 254 :: lowB n 4 else 255 :: lowB n 8
theorem sizeB_len (n : Int) : (sizeB n).length≤9:=by
 unfold sizeB;split
 ·simp
 ·split
  ·simp
  ·split <;> simp
theorem size_eq (h0 : 0≤n∧n≤18446744073709551615) (h : b.length≤140737488354900) : Lcodec_AppendSize b n = some (b++sizeB n):=by
 unfold Lcodec_AppendSize sizeB;split
 ·rw [extend_eq (by simp; omega)]
  simp [lowB]
 ·split
  ·rw [extend_eq (by simp; omega),bind_some',u16_eq (by simp; omega),IntWalk.u16_in _ (by omega),wu _ (by omega)]
   simp
  ·split
   ·rw [extend_eq (by simp; omega),bind_some',u32_eq (by simp; omega),IntWalk.u32_in _ (by omega),wu _ (by omega)]
    simp
   ·rw [extend_eq (by simp; omega),bind_some',u64_eq (by simp; omega)]
    simp
theorem rsize_eq (h0 : 0≤n∧n≤18446744073709551615) (h : b.length≤140737488354900) : Lref01_AppendSize b n = some (b++sizeB n):=by
 have l1 : Lref01_little n 1 = some (lowB n 1):=little_eq n 1 (by omega);have l2 : Lref01_little n 2 = some (lowB n 2):=little_eq n 2 (by omega);have l4 : Lref01_little n 4 = some (lowB n 4):=little_eq n 4 (by omega);have l8 : Lref01_little n 8 = some (lowB n 8):=little_eq n 8 (by omega);unfold Lref01_AppendSize sizeB;split
 ·rw [l1,bind_some',joined_eq (by simp; omega)]
  rfl
 ·split
  ·rw [l2,bind_some',joined_eq (by simp),bind_some',joined_eq (by simp; omega)]
   rfl
  ·split
   ·rw [l4,bind_some',joined_eq (by simp),bind_some',joined_eq (by simp; omega)]
    rfl
   ·rw [l8,bind_some',joined_eq (by simp),bind_some',joined_eq (by simp; omega)]
    rfl
end
/-- bytes behind their size -/
def bytesB (s : List Int) : List Int:=sizeB s.length++s
theorem bytesB_len (s : List Int) : (bytesB s).length≤9 + s.length:=by
 have:=sizeB_len s.length;simp [bytesB]
 omega
theorem len_u64 {n : Nat} (h : n≤140737488355328) : IntKind.u64.wrap (n : Int) = n:=wu _ (by omega)
theorem abytes_eq {b s : List Int} (h : b.length + s.length≤140737488354900) : Lcodec_AppendBytes b s = some (b++bytesB s):=by
 unfold Lcodec_AppendBytes;have:=sizeB_len s.length;rw [len_u64 (by omega),size_eq (by omega) (by omega),bind_some',extend_eq (by simp; omega)];simp [bytesB]
theorem rbytes_eq {b s : List Int} (h : b.length + s.length≤140737488354900) : Lref01_AppendBytes b s = some (b++bytesB s):=by
 unfold Lref01_AppendBytes;have:=sizeB_len s.length;rw [len_u64 (by omega),rsize_eq (by omega) (by omega),bind_some',joined_eq (by simp; omega)];simp [bytesB]
theorem hash_eq {b : List Int} {a : Arr 32} (h : b.length≤140737488355000) : Lcodec_AppendHash b a = some (b++a.l):=by
 unfold Lcodec_AppendHash;rw [extend_eq (by rw [a.hl]; omega)];rfl
theorem rhash_eq {b : List Int} {a : Arr 32} (h : b.length≤140737488355000) : Lref01_AppendHash b a = some (b++a.l):=by
 unfold Lref01_AppendHash;rw [joined_eq (by rw [a.hl]; omega)];rfl
def pointB (o : Tapi_OutPoint) : List Int:=o.1.l++lowB (IntKind.u64.wrap o.2) 4
@[simp] theorem pointB_len (o : Tapi_OutPoint) : (pointB o).length = 36:=by simp [pointB,o.1.hl]
theorem point_eq (o : Tapi_OutPoint) : Ltx_Point o = some (pointB o):=by
 unfold Ltx_Point;rw [hash_eq (by simp),bind_some',u32_eq (by simp [o.1.hl])];rfl
theorem rpoint_eq (o : Tapi_OutPoint) : Lref09_Point o = some (pointB o):=by
 unfold Lref09_Point;rw [rhash_eq (by simp),bind_some',ru32_eq (by simp [o.1.hl])];rfl
end Go.Lc
end
section
/- Transactions: encodings,limits,weights; the program's and the reference's are the same. -/
namespace Go.Lc
open Go.RowKit
open Go.Av
set_option linter.unusedVariables false

def inB (x : Tapi_Input) : List Int:=pointB x.1++lowB (IntKind.u64.wrap x.2.1) 4
@[simp] theorem inB_len (x : Tapi_Input) : (inB x).length = 40:=by simp [inB]
def outB (o : Tapi_Output) : List Int:=lowB (IntKind.u64.wrap o.1) 8++bytesB o.2
def witB (x : Tapi_Input) : List Int:=sizeB x.2.2.length++x.2.2.flatMap bytesB
def headB (t : Tapi_Tx) : List Int:=lowB (IntKind.u64.wrap t.1) 4++sizeB t.2.1.length
def encS (t : Tapi_Tx) (w : Bool) : List Int:=headB t++t.2.1.flatMap inB++sizeB t.2.2.1.length++t.2.2.1.flatMap outB++lowB (IntKind.u64.wrap t.2.2.2) 4++(if w then t.2.1.flatMap witB else [])
/-- a bound for everything on the way -/
def encM (t : Tapi_Tx) : Nat:=100 + (t.2.1.map fun x=>60 + (x.2.2.map fun s=>20 + s.length).sum).sum + (t.2.2.1.map fun o=>60 + o.2.length).sum
theorem flatMap_len_le {α β : Type} (f : α→List β) (g : α→Nat) (h : ∀ a,(f a).length≤g a) (l : List α) : (l.flatMap f).length≤(l.map g).sum:=by
 induction l with
 | nil=>simp
 | cons a l ih =>
  simp only [List.flatMap_cons,List.length_append,List.map_cons,List.sum_cons];have:=h a;omega
theorem sum_mem_le {α : Type} (g : α→Nat) {l : List α} {a : α} (h : a∈l) : g a≤(l.map g).sum:=by
 induction l with
 | nil=>simp at h
 | cons b l ih =>
  simp only [List.map_cons,List.sum_cons];rcases List.mem_cons.1 h with rfl | h
  ·omega
  ·have:=ih h
   omega
theorem sum_const_le {α : Type} (g : α→Nat) (c : Nat) (h : ∀ a,c≤g a) (l : List α) : c * l.length≤(l.map g).sum:=by
 induction l with
 | nil=>simp
 | cons a l ih =>
  have:=h a;simp only [List.map_cons,List.sum_cons,List.length_cons,Nat.mul_add];omega
theorem witB_le (x : Tapi_Input) : (witB x).length≤9 + (x.2.2.map fun s=>20 + s.length).sum:=by
 have h1:=sizeB_len x.2.2.length;have h2:=flatMap_len_le bytesB (fun s=>20 + s.length) (fun s=>by have:=bytesB_len s; omega) x.2.2;simp only [witB,List.length_append];omega
theorem outB_le (o : Tapi_Output) : (outB o).length≤20 + o.2.length:=by
 have:=bytesB_len o.2;simp only [outB,List.length_append,lowB_len];omega

section
variable {t : Tapi_Tx} {w : Bool}
/-- the parts,from the left -/
def enc1 (t : Tapi_Tx) (i : Nat) : List Int:=headB t++(t.2.1.take i).flatMap inB
def enc2 (t : Tapi_Tx) (i : Nat) : List Int:=headB t++t.2.1.flatMap inB++sizeB t.2.2.1.length++(t.2.2.1.take i).flatMap outB
def enc3 (t : Tapi_Tx) (i : Nat) : List Int:=headB t++t.2.1.flatMap inB++sizeB t.2.2.1.length++t.2.2.1.flatMap outB++lowB (IntKind.u64.wrap t.2.2.2) 4++(t.2.1.take i).flatMap witB
theorem enc_ins (t : Tapi_Tx) : (t.2.1.flatMap inB).length + (t.2.1.flatMap witB).length≤(t.2.1.map fun x=>60 + (x.2.2.map fun s=>20 + s.length).sum).sum:=by
 induction t.2.1 with
 | nil=>simp
 | cons x l ih =>
  have:=witB_le x;simp only [List.flatMap_cons,List.length_append,List.map_cons,List.sum_cons,inB_len];omega
theorem enc_outs (t : Tapi_Tx) : (t.2.2.1.flatMap outB).length≤(t.2.2.1.map fun o=>60 + o.2.length).sum:=flatMap_len_le outB _ (fun o=>by have:=outB_le o; omega) _
theorem headB_len (t : Tapi_Tx) : (headB t).length≤13:=by
 have:=sizeB_len t.2.1.length;simp only [headB,List.length_append,lowB_len];omega
theorem enc1_le (i : Nat) : (enc1 t i).length + 50≤encM t:=by
 have h1:=headB_len t;have h2:=flatMap_take_le t.2.1 inB i;have h3:=enc_ins t;simp only [enc1,encM,List.length_append];omega
theorem enc2_le (i : Nat) : (enc2 t i).length + 50≤encM t:=by
 have h1:=headB_len t;have h2:=flatMap_take_le t.2.2.1 outB i;have h3:=enc_ins t;have h4:=enc_outs t;have h5:=sizeB_len t.2.2.1.length;simp only [enc2,encM,List.length_append];omega
theorem enc3_le (i : Nat) : (enc3 t i).length + 50≤encM t:=by
 have h1:=headB_len t;have h2:=flatMap_take_le t.2.1 witB i;have h3:=enc_ins t;have h4:=enc_outs t;have h5:=sizeB_len t.2.2.1.length;simp only [enc3,encM,List.length_append,lowB_len];omega
theorem encM_ins (t : Tapi_Tx) : t.2.1.length≤encM t:=by
 have:=sum_const_le (fun x : Tapi_Input=>60 + (x.2.2.map fun s=>20 + s.length).sum) 60 (fun x=>by omega) t.2.1;unfold encM;omega
theorem encM_outs (t : Tapi_Tx) : t.2.2.1.length≤encM t:=by
 have:=sum_const_le (fun o : Tapi_Output=>60 + o.2.length) 60 (fun x=>by omega) t.2.2.1;unfold encM;omega
theorem encM_in {x : Tapi_Input} (h : x∈t.2.1) : 60 + (x.2.2.map fun s=>20 + s.length).sum≤encM t:=by
 have:=sum_mem_le (fun x : Tapi_Input=>60 + (x.2.2.map fun s=>20 + s.length).sum) h;unfold encM;omega
theorem encM_out {o : Tapi_Output} (h : o∈t.2.2.1) : 60 + o.2.length≤encM t:=by
 have:=sum_mem_le (fun o : Tapi_Output=>60 + o.2.length) h;unfold encM;omega
theorem encM_wits {x : Tapi_Input} (h : x∈t.2.1) : x.2.2.length≤encM t:=by
 have h1:=encM_in h;have:=sum_const_le (fun s : List Int=>20 + s.length) 20 (fun x=>by omega) x.2.2;omega
theorem encM_wit {x : Tapi_Input} (h : x∈t.2.1) {s : List Int} (hs : s∈x.2.2) : 20 + s.length≤encM t:=by
 have h1:=encM_in h;have:=sum_mem_le (fun s : List Int=>20 + s.length) hs;omega
end
section
variable {t : Tapi_Tx} {w : Bool}
theorem enc3_succ {i : Nat} (h : i < t.2.1.length) : enc3 t (i + 1) = enc3 t i++sizeB (t.2.1[i]).2.2.length++(t.2.1[i]).2.2.flatMap bytesB:=by
 simp only [enc3,flatMap_take witB h,witB,List.append_assoc]
theorem enc3_len {i : Nat} (h : i < t.2.1.length) : (enc3 t i++sizeB (t.2.1[i]).2.2.length).length + ((t.2.1[i]).2.2.flatMap bytesB).length + 50≤encM t:=by
 have:=enc3_le (t:=t) (i + 1);rw [enc3_succ h] at this;simp only [List.length_append] at this ⊢;omega
theorem wit_len {x : Tapi_Input} {j : Nat} (h : j < x.2.2.length) : ((x.2.2.take j).flatMap bytesB).length + (bytesB x.2.2[j]).length≤(x.2.2.flatMap bytesB).length:=by
 have:=flatMap_take_le x.2.2 bytesB (j + 1);rw [flatMap_take bytesB h] at this;simpa using this
theorem tx_wits (hM : encM t≤1000000000000) {i : Nat} (h : i < t.2.1.length) {q : List Int} (hq : q.length + ((t.2.1[i]).2.2.flatMap bytesB).length + 50≤encM t) :
  runLoop (Ltx_encode_s4 t.2.1[i] (i : Int)) (0,q) = some (.inl (((i + 1 : Nat) : Int),q++(t.2.1[i]).2.2.flatMap bytesB)):=by
 have hmem:=List.getElem_mem h;have hwl:=encM_wits hmem;have hil:=encM_ins t;generalize t.2.1[i] = x at hq hmem hwl ⊢
 have:=runLoop_to (step:=Ltx_encode_s4 x (i : Int)) (fun j=>((j : Int),q++(x.2.2.take j).flatMap bytesB)) x.2.2.length (x:=some (.inl (((i + 1 : Nat) : Int),q++x.2.2.flatMap bytesB))) (fun j hj=>by
  simp only [Ltx_encode_s4];have h1:=wit_len hj;have h2:=encM_wit hmem (List.getElem_mem hj);rw [if_pos (by omega),idx_bind hj,abytes_eq (by simp; omega),bind_some',chk_bind (by simp only [List.length_append,List.nil_append]; omega),wi_succ hj (by omega),flatMap_take bytesB hj];simp) (by
  simp only [Ltx_encode_s4];rw [if_neg (by omega)]
  simp only [Ltx_encode_k4,List.take_length,wi_succ h (by omega)])
 simpa using this
theorem tx_k2 (hM : encM t≤1000000000000) : Ltx_encode_k2 t (enc2 t t.2.2.1.length) w = some (encS t w):=by
 have hil:=encM_ins t;have h2:=enc2_le (t:=t) t.2.2.1.length;unfold Ltx_encode_k2;rw [u32_eq (by simp),bind_some',chk_bind (by simp; omega)];have he : enc2 t t.2.2.1.length++([]++lowB (IntKind.u64.wrap t.2.2.2) 4) = enc3 t 0:=by simp [enc2,enc3]
 rw [he];cases w with
 | false=>simp [encS,enc3]
 | true =>
  rw [if_neg (by simp)]
  have:=runLoop_to (step:=Ltx_encode_s3 t) (fun i=>((i : Int),enc3 t i)) t.2.1.length (x:=some (encS t true)) (fun i hi=>by
   have h3:=enc3_len hi;have h5:=encM_wits (List.getElem_mem hi);simp only [Ltx_encode_s3];rw [if_pos (by omega),idx_bind hi,len_u64 (by omega),size_eq (by omega) (by simp),bind_some',chk_bind (by simp only [List.length_append,List.nil_append] at h3 ⊢; omega),List.nil_append,tx_wits hM hi h3,enc3_succ hi]) (by
   simp only [Ltx_encode_s3];rw [if_neg (by omega)]
   simp [Ltx_encode_k3,enc3,encS])
  simpa using this
theorem enc2_succ {i : Nat} (h : i < t.2.2.1.length) : enc2 t (i + 1) = enc2 t i++lowB (IntKind.u64.wrap (t.2.2.1[i]).1) 8++bytesB (t.2.2.1[i]).2:=by
 simp only [enc2,flatMap_take outB h,outB,List.append_assoc]
theorem tx_k1 (hM : encM t≤1000000000000) : Ltx_encode_k1 t (enc1 t t.2.1.length) w = some (encS t w):=by
 have hol:=encM_outs t;have h2:=enc2_le (t:=t) 0;have h1:=sizeB_len t.2.2.1.length;have he : enc1 t t.2.1.length++sizeB t.2.2.1.length = enc2 t 0:=by simp [enc1,enc2]
 unfold Ltx_encode_k1;rw [len_u64 (by omega),size_eq (by omega) (by simp),bind_some',List.nil_append,chk_bind (by rw [← List.length_append,he]; omega),he]
 have:=runLoop_to (step:=Ltx_encode_s2 t w) (fun i=>((i : Int),enc2 t i)) t.2.2.1.length (x:=some (encS t w)) (fun i hi=>by
  have h3:=enc2_le (t:=t) (i + 1);have h4:=encM_out (List.getElem_mem hi);rw [enc2_succ hi] at h3 ⊢;simp only [List.length_append,lowB_len] at h3;simp only [Ltx_encode_s2];rw [if_pos (by omega),idx_bind hi,u64_eq (by simp),bind_some',chk_bind (by simp; omega),abytes_eq (by simp; omega),bind_some',chk_bind (by simp; omega),wi_succ hi (by omega)];simp) (by
  simp only [Ltx_encode_s2]
  rw [if_neg (by omega),tx_k2 hM])
 simpa using this
theorem enc1_succ {i : Nat} (h : i < t.2.1.length) : enc1 t (i + 1) = enc1 t i++pointB (t.2.1[i]).1++lowB (IntKind.u64.wrap (t.2.1[i]).2.1) 4:=by
 simp only [enc1,flatMap_take inB h,inB,List.append_assoc]
theorem tx_encode (hM : encM t≤1000000000000) : Ltx_encode t w = some (encS t w):=by
 have hil:=encM_ins t;have h1:=sizeB_len t.2.1.length;have he : lowB (IntKind.u64.wrap t.1) 4++sizeB t.2.1.length = enc1 t 0:=by simp [enc1,headB]
 unfold Ltx_encode;rw [u32_eq (by simp),bind_some',len_u64 (by omega),size_eq (by omega) (by simp),bind_some',List.nil_append,List.nil_append,chk_bind (by simp; omega),he]
 have:=runLoop_to (step:=Ltx_encode_s1 t w) (fun i=>((i : Int),enc1 t i)) t.2.1.length (x:=some (encS t w)) (fun i hi=>by
  have h3:=enc1_le (t:=t) (i + 1);rw [enc1_succ hi] at h3 ⊢;simp only [List.length_append,lowB_len,pointB_len] at h3;simp only [Ltx_encode_s1];rw [if_pos (by omega),idx_bind hi,point_eq,bind_some',chk_bind (by simp; omega),u32_eq (by simp),bind_some',chk_bind (by simp; omega),wi_succ hi (by omega)];simp) (by
  simp only [Ltx_encode_s1]
  rw [if_neg (by omega),tx_k1 hM])
 simpa using this

/-! the reference -/
theorem rout_eq {o : Tapi_Output} (h : o.2.length≤140737488354000) : Lref09_Out o = some (outB o):=by
 unfold Lref09_Out;rw [ru64_eq (by simp),bind_some',rbytes_eq (by simp; omega)];rfl
theorem rtx_wits (hM : encM t≤1000000000000) {i : Nat} (h : i < t.2.1.length) {q : List Int} (hq : q.length + ((t.2.1[i]).2.2.flatMap bytesB).length + 50≤encM t) :
  runLoop (Lref09_encode_s4 t.2.1[i] (i : Int)) (0,q) = some (.inl (((i + 1 : Nat) : Int),q++(t.2.1[i]).2.2.flatMap bytesB)):=by
 have hmem:=List.getElem_mem h;have hwl:=encM_wits hmem;have hil:=encM_ins t;generalize t.2.1[i] = x at hq hmem hwl ⊢
 have:=runLoop_to (step:=Lref09_encode_s4 x (i : Int)) (fun j=>((j : Int),q++(x.2.2.take j).flatMap bytesB)) x.2.2.length (x:=some (.inl (((i + 1 : Nat) : Int),q++x.2.2.flatMap bytesB))) (fun j hj=>by
  simp only [Lref09_encode_s4];have h1:=wit_len hj;have h2:=encM_wit hmem (List.getElem_mem hj);rw [if_pos (by omega),idx_bind hj,rbytes_eq (by simp only [List.length_append]; omega),bind_some',wi_succ hj (by omega),flatMap_take bytesB hj];simp) (by
  simp only [Lref09_encode_s4];rw [if_neg (by omega)]
  simp only [Lref09_encode_k4,List.take_length,wi_succ h (by omega)])
 simpa using this
theorem rtx_k2 (hM : encM t≤1000000000000) : Lref09_encode_k2 (enc2 t t.2.2.1.length) t w = some (encS t w):=by
 have hil:=encM_ins t;have h2:=enc2_le (t:=t) t.2.2.1.length;unfold Lref09_encode_k2;rw [ru32_eq (by omega),bind_some'];have he : enc2 t t.2.2.1.length++lowB (IntKind.u64.wrap t.2.2.2) 4 = enc3 t 0:=by simp [enc2,enc3]
 rw [he];cases w with
 | false =>
  by_cases h0 : (0 : Int) < t.2.1.length
  ·refine runLoop_exit ?_
   simp only [Lref09_encode_s3];rw [if_pos h0,show (0 : Int) = ((0 : Nat) : Int) from rfl,idx_bind (by omega)];simp [Lref09_encode_k3,encS,enc3]
  ·refine runLoop_exit ?_
   simp only [Lref09_encode_s3];rw [if_neg h0];simp [Lref09_encode_k3,encS,enc3]
 | true =>
  have:=runLoop_to (step:=Lref09_encode_s3 t true) (fun i=>((i : Int),enc3 t i)) t.2.1.length (x:=some (encS t true)) (fun i hi=>by
   have h3:=enc3_len hi;have h4:=enc3_le (t:=t) i;have h5:=encM_wits (List.getElem_mem hi);simp only [Lref09_encode_s3];rw [if_pos (by omega),idx_bind hi,if_neg (by simp),len_u64 (by omega),rsize_eq (by omega) (by omega),bind_some',rtx_wits hM hi h3,enc3_succ hi]) (by
   simp only [Lref09_encode_s3];rw [if_neg (by omega)]
   simp [Lref09_encode_k3,enc3,encS])
  simpa using this
theorem rtx_k1 (hM : encM t≤1000000000000) : Lref09_encode_k1 (enc1 t t.2.1.length) t w = some (encS t w):=by
 have hol:=encM_outs t;have h0:=enc1_le (t:=t) t.2.1.length;have he : enc1 t t.2.1.length++sizeB t.2.2.1.length = enc2 t 0:=by simp [enc1,enc2]
 unfold Lref09_encode_k1;rw [len_u64 (by omega),rsize_eq (by omega) (by omega),bind_some',he]
 have:=runLoop_to (step:=Lref09_encode_s2 t w) (fun i=>((i : Int),enc2 t i)) t.2.2.1.length (x:=some (encS t w)) (fun i hi=>by
  have h3:=enc2_le (t:=t) (i + 1);have h4:=encM_out (List.getElem_mem hi);rw [enc2_succ hi] at h3 ⊢;simp only [List.length_append,lowB_len] at h3;simp only [Lref09_encode_s2];rw [if_pos (by omega),idx_bind hi,rout_eq (by omega),bind_some',chk_bind (by simp only [outB,List.length_append,lowB_len]; omega),wi_succ hi (by omega)];simp [outB]) (by
  simp only [Lref09_encode_s2]
  rw [if_neg (by omega),rtx_k2 hM])
 simpa using this
theorem rtx_encode (hM : encM t≤1000000000000) : Lref09_encode t w = some (encS t w):=by
 have hil:=encM_ins t;have he : lowB (IntKind.u64.wrap t.1) 4++sizeB t.2.1.length = enc1 t 0:=by simp [enc1,headB]
 unfold Lref09_encode;rw [ru32_eq (by simp),bind_some',len_u64 (by omega),rsize_eq (by omega) (by simp),bind_some',List.nil_append,he]
 have:=runLoop_to (step:=Lref09_encode_s1 t w) (fun i=>((i : Int),enc1 t i)) t.2.1.length (x:=some (encS t w)) (fun i hi=>by
  have h3:=enc1_le (t:=t) (i + 1);rw [enc1_succ hi] at h3 ⊢;simp only [List.length_append,lowB_len,pointB_len] at h3;simp only [Lref09_encode_s1];rw [if_pos (by omega),idx_bind hi,rpoint_eq,bind_some',chk_bind (by simp; omega),ru32_eq (by simp; omega),bind_some',wi_succ hi (by omega)]) (by
  simp only [Lref09_encode_s1]
  rw [if_neg (by omega),rtx_k1 hM])
 simpa using this

/-! limits -/
/-- outputs and inputs keep their limits -/
def limS (t : Tapi_Tx) : Prop:=t.2.1.length≤64∧t.2.2.1.length≤64∧(∀ o∈t.2.2.1,0≤o.1∧o.2.length≤520)∧∀ x∈t.2.1,x.2.2.length≤32∧∀ s∈x.2.2,s.length≤520
noncomputable def fitsS (t : Tapi_Tx) : Bool:=by classical exact decide (limS t∧(encS t true).length≤20000)
theorem sum_le_const {α : Type} (g : α→Nat) (c : Nat) {l : List α} (h : ∀ a∈l,g a≤c) : (l.map g).sum≤c * l.length:=by
 induction l with
 | nil=>simp
 | cons a l ih =>
  have h1:=h a (by simp);have h2:=ih fun b hb=>h b (by simp [hb])
  simp only [List.map_cons,List.sum_cons,List.length_cons,Nat.mul_add];omega
theorem lim_M (h : limS t) : encM t≤3000000:=by
 obtain ⟨h1,h2,h3,h4⟩:=h
 have e1:=sum_le_const (fun x : Tapi_Input=>60 + (x.2.2.map fun s=>20 + s.length).sum) 20000 (l:=t.2.1) (fun x hx=>by
  obtain ⟨g1,g2⟩:=h4 x hx;have:=sum_le_const (fun s : List Int=>20 + s.length) 540 (l:=x.2.2) (fun s hs=>by have:=g2 s hs; omega);have:=Nat.mul_le_mul_left 540 g1
  omega)
 have e2:=sum_le_const (fun o : Tapi_Output=>60 + o.2.length) 600 (l:=t.2.2.1) (fun o ho=>by have:=(h3 o ho).2; omega);have:=Nat.mul_le_mul_left 20000 h1;have:=Nat.mul_le_mul_left 600 h2;unfold encM;omega
/-- a transaction whose lists are short enough for a machine -/
theorem fits_enc (h : fitsS t = true) : encM t≤1000000000000:=by
 classical
 unfold fitsS at h;simp only [decide_eq_true_eq] at h;have:=lim_M h.1;omega
end
section
theorem enc_len {t : Tapi_Tx} {w : Bool} : (encS t w).length≤encM t:=by
 have h1:=enc3_le (t:=t) t.2.1.length
 have h2 : (encS t w).length≤(enc3 t t.2.1.length).length:=by
  cases w <;> simp [encS,enc3]
 omega
noncomputable def weightS (t : Tapi_Tx) : Int:=if fitsS t = true then 3 * (encS t false).length + (encS t true).length else 0

theorem tx_fits3 {x : Tapi_Input} {i n : Nat} (hi : i < n) (hn : n≤64) (hw : x.2.2.length≤32) : runLoop (Ltx_fits_s3 x (i : Int)) 0 = (if ∃ s∈x.2.2,520 < s.length then some (.inr false) else some (.inl ((i + 1 : Nat) : Int))):=by
 refine scan_dec (step:=Ltx_fits_s3 x (i : Int)) (fun j=>(j : Int)) x.2.2 (fun s=>520 < s.length) (some (.inr false)) (some (.inl ((i + 1 : Nat) : Int))) (fun j hj hb=>?_) (fun j hj hb=>?_) ?_ rfl
 ·simp only [Ltx_fits_s3]
  rw [if_pos (by omega),idx_bind hj,if_neg (by omega),wi_succ hj (by omega)]
 ·simp only [Ltx_fits_s3]
  rw [if_pos (by omega),idx_bind hj,if_pos (by omega)];rfl
 ·simp only [Ltx_fits_s3]
  rw [if_neg (by omega)];simp only [Ltx_fits_k3,wi_succ hi (by omega)]
theorem tx_fits (t : Tapi_Tx) : Ltx_fits t = some (fitsS t):=by
 classical
 unfold Ltx_fits fitsS;by_cases h0 : 64 < t.2.1.length∨64 < t.2.2.1.length
 ·rw [if_pos (by omega)]
  have : ¬ limS t:=fun h=>by have:=h.1; have:=h.2.1; omega
  simp [this]
 ·rw [if_neg (by omega)]
  have h1:=scan_dec (step:=Ltx_fits_s1 t) (fun i=>(i : Int)) t.2.2.1 (fun o=>o.1 < 0∨520 < o.2.length) (some false) (Ltx_fits_k1 t) (fun i hi hb=>by
   simp only [Ltx_fits_s1];rw [if_pos (by omega),idx_bind hi,if_neg (by omega),wi_succ hi (by omega)]) (fun i hi hb=>by
   simp only [Ltx_fits_s1];rw [if_pos (by omega),idx_bind hi,if_pos (by omega)];rfl) (by
   simp only [Ltx_fits_s1]
   rw [if_neg (by omega)]) (s:=0) rfl
  rw [h1];by_cases hb1 : ∃ o∈t.2.2.1,o.1 < 0∨520 < o.2.length
  ·rw [if_pos hb1]
   obtain ⟨o,ho,hb⟩:=hb1;have : ¬ limS t:=fun h=>by have:=h.2.2.1 o ho; omega
   simp [this]
  ·rw [if_neg hb1]
   unfold Ltx_fits_k1
   have h2:=scan_dec (step:=Ltx_fits_s2 t) (fun i=>(i : Int)) t.2.1 (fun x=>32 < x.2.2.length∨∃ s∈x.2.2,520 < s.length) (some false) (Ltx_fits_k2 t) (fun i hi hb=>by
    have h3 : ¬ 32 < (t.2.1[i]).2.2.length:=fun h=>hb (.inl h)
    have h4 : ¬ ∃ s∈(t.2.1[i]).2.2,520 < s.length:=fun h=>hb (.inr h)
    simp only [Ltx_fits_s2];rw [if_pos (by omega),idx_bind hi,if_neg (by omega),tx_fits3 hi (by omega) (by omega),if_neg h4]) (fun i hi hb=>by
    simp only [Ltx_fits_s2];rw [if_pos (by omega),idx_bind hi];by_cases h3 : 32 < (t.2.1[i]).2.2.length
    ·rw [if_pos (by omega)]
     rfl
    ·rw [if_neg (by omega),tx_fits3 hi (by omega) (by omega),if_pos (hb.resolve_left h3)]
     rfl) (by
    simp only [Ltx_fits_s2]
    rw [if_neg (by omega)]) (s:=0) rfl
   rw [h2];by_cases hb2 : ∃ x∈t.2.1,32 < x.2.2.length∨∃ s∈x.2.2,520 < s.length
   ·rw [if_pos hb2]
    obtain ⟨x,hx,hb⟩:=hb2
    have : ¬ limS t:=fun h=>by
     obtain ⟨g1,g2⟩:=h.2.2.2 x hx;rcases hb with hb | ⟨s,hs,hb⟩
     ·omega
     ·have:=g2 s hs; omega
    simp [this]
   ·rw [if_neg hb2]
    have hlim : limS t:=by
     refine ⟨by omega,by omega,fun o ho=>?_,fun x hx=>⟨?_,fun s hs=>?_⟩⟩
     ·have : ¬ (o.1 < 0∨520 < o.2.length):=fun h=>hb1 ⟨o,ho,h⟩
      omega
     ·have : ¬ 32 < x.2.2.length:=fun h=>hb2 ⟨x,hx,.inl h⟩
      omega
     ·have : ¬ 520 < s.length:=fun h=>hb2 ⟨x,hx,.inr ⟨s,hs,h⟩⟩
      omega
    unfold Ltx_fits_k2;rw [tx_encode (by have:=lim_M hlim; omega),bind_some'];have e : (((encS t true).length : Int)≤20000)↔((encS t true).length≤20000):=by omega
    simp [hlim,e]
theorem tx_weight (t : Tapi_Tx) : Ltx_Weight t = some (weightS t):=by
 unfold Ltx_Weight weightS;rw [tx_fits,bind_some'];by_cases h : fitsS t = true
 ·rw [if_neg (by simp [h]),tx_encode (fits_enc h),bind_some',tx_encode (fits_enc h),bind_some',if_pos h]
  have h1:=fits_enc h;rw [wi (3 * ((encS t false).length : Int)) (by have:=enc_len (t:=t) (w:=false); omega),wi _ (by have:=enc_len (t:=t) (w:=false); have:=enc_len (t:=t) (w:=true); omega)]
 ·rw [if_pos h,if_neg h]

theorem rtx_fits3 {x : Tapi_Input} {i n : Nat} (hi : i < n) (hn : n≤64) (hw : x.2.2.length≤32) : runLoop (Lref09_Fits_s3 x (i : Int)) 0 = (if ∃ s∈x.2.2,520 < s.length then some (.inr false) else some (.inl ((i + 1 : Nat) : Int))):=by
 refine scan_dec (step:=Lref09_Fits_s3 x (i : Int)) (fun j=>(j : Int)) x.2.2 (fun s=>520 < s.length) (some (.inr false)) (some (.inl ((i + 1 : Nat) : Int))) (fun j hj hb=>?_) (fun j hj hb=>?_) ?_ rfl
 ·simp only [Lref09_Fits_s3]
  rw [if_pos (by omega),idx_bind hj,if_neg (by omega),wi_succ hj (by omega)]
 ·simp only [Lref09_Fits_s3]
  rw [if_pos (by omega),idx_bind hj,if_pos (by omega)];rfl
 ·simp only [Lref09_Fits_s3]
  rw [if_neg (by omega)];simp only [Lref09_Fits_k3,wi_succ hi (by omega)]
theorem rtx_fits (t : Tapi_Tx) : Lref09_Fits t = some (fitsS t):=by
 classical
 unfold Lref09_Fits fitsS;by_cases h0 : 64 < t.2.1.length∨64 < t.2.2.1.length
 ·rw [if_pos (by omega)]
  have : ¬ limS t:=fun h=>by have:=h.1; have:=h.2.1; omega
  simp [this]
 ·rw [if_neg (by omega)]
  have h1:=scan_dec (step:=Lref09_Fits_s1 t) (fun i=>(i : Int)) t.2.2.1 (fun o=>o.1 < 0∨520 < o.2.length) (some false) (Lref09_Fits_k1 t) (fun i hi hb=>by
   simp only [Lref09_Fits_s1];rw [if_pos (by omega),idx_bind hi,if_neg (by omega),wi_succ hi (by omega)]) (fun i hi hb=>by
   simp only [Lref09_Fits_s1];rw [if_pos (by omega),idx_bind hi,if_pos (by omega)];rfl) (by
   simp only [Lref09_Fits_s1]
   rw [if_neg (by omega)]) (s:=0) rfl
  rw [h1];by_cases hb1 : ∃ o∈t.2.2.1,o.1 < 0∨520 < o.2.length
  ·rw [if_pos hb1]
   obtain ⟨o,ho,hb⟩:=hb1;have : ¬ limS t:=fun h=>by have:=h.2.2.1 o ho; omega
   simp [this]
  ·rw [if_neg hb1]
   unfold Lref09_Fits_k1
   have h2:=scan_dec (step:=Lref09_Fits_s2 t) (fun i=>(i : Int)) t.2.1 (fun x=>32 < x.2.2.length∨∃ s∈x.2.2,520 < s.length) (some false) (Lref09_Fits_k2 t) (fun i hi hb=>by
    have h3 : ¬ 32 < (t.2.1[i]).2.2.length:=fun h=>hb (.inl h)
    have h4 : ¬ ∃ s∈(t.2.1[i]).2.2,520 < s.length:=fun h=>hb (.inr h)
    simp only [Lref09_Fits_s2];rw [if_pos (by omega),idx_bind hi,if_neg (by omega),rtx_fits3 hi (by omega) (by omega),if_neg h4]) (fun i hi hb=>by
    simp only [Lref09_Fits_s2];rw [if_pos (by omega),idx_bind hi];by_cases h3 : 32 < (t.2.1[i]).2.2.length
    ·rw [if_pos (by omega)]
     rfl
    ·rw [if_neg (by omega),rtx_fits3 hi (by omega) (by omega),if_pos (hb.resolve_left h3)]
     rfl) (by
    simp only [Lref09_Fits_s2]
    rw [if_neg (by omega)]) (s:=0) rfl
   rw [h2];by_cases hb2 : ∃ x∈t.2.1,32 < x.2.2.length∨∃ s∈x.2.2,520 < s.length
   ·rw [if_pos hb2]
    obtain ⟨x,hx,hb⟩:=hb2
    have : ¬ limS t:=fun h=>by
     obtain ⟨g1,g2⟩:=h.2.2.2 x hx;rcases hb with hb | ⟨s,hs,hb⟩
     ·omega
     ·have:=g2 s hs; omega
    simp [this]
   ·rw [if_neg hb2]
    have hlim : limS t:=by
     refine ⟨by omega,by omega,fun o ho=>?_,fun x hx=>⟨?_,fun s hs=>?_⟩⟩
     ·have : ¬ (o.1 < 0∨520 < o.2.length):=fun h=>hb1 ⟨o,ho,h⟩
      omega
     ·have : ¬ 32 < x.2.2.length:=fun h=>hb2 ⟨x,hx,.inl h⟩
      omega
     ·have : ¬ 520 < s.length:=fun h=>hb2 ⟨x,hx,.inr ⟨s,hs,h⟩⟩
      omega
    unfold Lref09_Fits_k2;rw [rtx_encode (by have:=lim_M hlim; omega),bind_some'];have e : (((encS t true).length : Int)≤20000)↔((encS t true).length≤20000):=by omega
    simp [hlim,e]
theorem rtx_weight (t : Tapi_Tx) : Lref09_Weight t = some (weightS t):=by
 unfold Lref09_Weight weightS;rw [rtx_fits,bind_some'];by_cases h : fitsS t = true
 ·rw [if_neg (by simp [h]),rtx_encode (fits_enc h),bind_some',rtx_encode (fits_enc h),bind_some',if_pos h]
  have h1:=fits_enc h;rw [wi (3 * ((encS t false).length : Int)) (by have:=enc_len (t:=t) (w:=false); omega),wi _ (by have:=enc_len (t:=t) (w:=false); have:=enc_len (t:=t) (w:=true); omega)]
 ·rw [if_pos h,if_neg h]
end
end Go.Lc
end
section
/- What is drawn from lists of numbers is always something; law 34,weights. -/
namespace Go.Lc
open Go.RowKit
open Go.Av
set_option linter.unusedVariables false

/-- what a loop's step leads to -/
def Nx {σ ρ : Type} (I : Nat→σ→Prop) (Q : ρ→Prop) (n : Nat) : σ ⊕ ρ→Prop
 | .inl s=>∃ j,j < n∧I j s
 | .inr r=>Q r
theorem tot_loop {σ ρ : Type} {step : σ→Option (σ ⊕ ρ)} {I : Nat→σ→Prop} {Q : ρ→Prop} (h : ∀ n s,I n s→Tot (step s) (Nx I Q n)) {n : Nat} {s : σ} (hs : I n s) : Tot (runLoop step s) Q:=by
 refine runLoop_inv I Q (fun i s hi=>?_) n s hs;obtain ⟨x,h1,h2⟩:=h i s hi;cases x with
 | inl s' =>
  obtain ⟨j,hj,h3⟩:=h2;exact .inl ⟨j,s',hj,h1,h3⟩
 | inr r=>exact .inr ⟨r,h1,h2⟩
theorem Tot.out {σ ρ : Type} {I : Nat→σ→Prop} {Q : ρ→Prop} {n : Nat} {x : Option ρ} (h : Tot x Q) : Tot (x.map .inr) (Nx I Q n):=by
 obtain ⟨r,rfl,h⟩:=h;exact ⟨_,rfl,h⟩
theorem tot_chk {α : Type} {p : Prop} [Decidable p] {f : Unit→Option α} {Q : α→Prop} (hp : p) (h : Tot (f ()) Q) : Tot ((chk p).bind f) Q:=by rw [chk_bind hp]; exact h
theorem tot_idx {α β : Type} {l : List α} {i : Int} {f : α→Option β} {Q : β→Prop} (h0 : 0≤i) (h1 : i < l.length) (h : ∀ x∈l,Tot (f x) Q) : Tot ((idx l i).bind f) Q:=by
 obtain ⟨n,rfl⟩:=Int.eq_ofNat_of_zero_le h0;rw [idx_bind (by omega)];exact h _ (List.getElem_mem _)
theorem tot_inA {β : Type} {n : Nat} {i : Int} {f : Nat→Option β} {Q : β→Prop} (h0 : 0≤i) (h1 : i < n) (h : ∀ j : Nat,(j : Int) = i→j < n→Tot (f j) Q) : Tot ((inA n i).bind f) Q:=by
 obtain ⟨m,rfl⟩:=Int.eq_ofNat_of_zero_le h0;rw [inA_bind (by omega)];exact h _ rfl (by omega)
theorem tot_get {α β : Type} {l : List α} {i : Nat} {f : α→Option β} {Q : β→Prop} (h1 : i < l.length) (h : ∀ x,l[i]? = some x→Tot (f x) Q) : Tot ((l[i]?).bind f) Q:=by
 rw [get_bind h1];exact h _ (List.getElem?_eq_getElem h1)

/-! remainders -/
def modS (v n : Int) : Int:=if v.tmod n < 0 then v.tmod n + n else v.tmod n
theorem modS_in (v : Int) {n : Int} (h : 1≤n) : 0≤modS v n∧modS v n < n:=by
 have h1:=Int.tmod_lt_of_pos v (b:=n) (by omega)
 have h2 : -n < v.tmod n:=by
  have:=Int.lt_tmod_of_pos v (b:=n) (by omega);omega
 unfold modS;split <;> omega
theorem mod_eq (v : Int) {n : Int} (h : 1≤n) (h2 : n≤4611686018427387904) : Lmill_Mod v n = some (modS v n):=by
 have h1:=modS_in v h;unfold Lmill_Mod Lmill_Mod_k1;rw [chk_bind (by omega)];unfold modS at *;split
 ·rename_i hn
  rw [if_pos hn] at h1;rw [wi _ (by omega)]
 ·rfl

/-! decks -/
def DeckOk (d : Tlightclientmill_Deck) : Prop:=0≤d.2∧d.2≤d.1.length∧d.1.length≤9223372036854775807
theorem next_tot {d : Tlightclientmill_Deck} (h : DeckOk d) {n : Int} (hn : 1≤n) (hn2 : n≤4611686018427387904) : Tot (Lmill_Deck_Next d n) fun r=>(0≤r.1∧r.1 < n)∧DeckOk r.2:=by
 obtain ⟨h1,h2,h3⟩:=h;unfold Lmill_Deck_Next Lmill_Deck_Left;rw [bind_some'];by_cases hl : d.2 < d.1.length
 ·rw [if_neg (by simp [hl])]
  dsimp only;rw [wi (d.2 + 1) (by omega),wi _ (by omega),show d.2 + 1 - 1 = d.2 by omega];refine tot_idx h1 hl fun x _=>?_
  rw [mod_eq x hn hn2];exact tot_some ⟨modS_in x hn,by dsimp only; omega,by dsimp only; omega,h3⟩
 ·rw [if_pos (by simp [hl])]
  exact tot_some ⟨⟨by dsimp only; omega,by dsimp only; omega⟩,h1,h2,h3⟩
theorem range_tot {d : Tlightclientmill_Deck} (h : DeckOk d) {a b : Int} (ha : 0≤a) (hab : a≤b) (hb : b≤1000000000) : Tot (Lmill_Deck_Range d a b) fun r=>(a≤r.1∧r.1≤b)∧DeckOk r.2:=by
 unfold Lmill_Deck_Range;rw [wi (b - a) (by omega),wi _ (by omega)];refine (next_tot h (by omega) (by omega)).bind fun r hr=>?_
 rw [wi _ (by omega)];exact tot_some ⟨by dsimp only; omega,hr.2⟩
theorem hash_tot {d : Tlightclientmill_Deck} (h : DeckOk d) : Tot (Lmill_Hash d) fun r=>DeckOk r.2:=by
 unfold Lmill_Hash;refine (next_tot h (by omega) (by omega)).bind fun r hr=>(next_tot hr.2 (by omega) (by omega)).bind fun s hs=>tot_some hs.2
theorem script_eq (j : Int) : Lmade_Script j = some [1,1,IntKind.u8.wrap (1 + j.tmod 6),5]:=rfl

/-! law 34: fees and weights -/
theorem fee_eq (a b : Int) : Lbuild_Fee a b = Lref34_Fee a b:=by
 unfold Lbuild_Fee Lref34_Fee Lref34_in;by_cases h1 : 0≤a <;> by_cases h2 : a≤80000 <;> by_cases h3 : 0≤b <;> by_cases h4 : b≤1048576 <;> simp [h1,h2,h3,h4] <;> omega
theorem fee_tot (a b : Int) : ∃ x,Lref34_Fee a b = some x:=by
 rw [← fee_eq];unfold Lbuild_Fee;split <;> exact ⟨_,rfl⟩
end Go.Lc
end
