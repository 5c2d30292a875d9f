import Derived.Test.YtjdoijdjeapekaaGreatDoorLcG1
section
namespace Go.Lc
open Go.RowKit
open Go.Av
set_option maxRecDepth 100000
set_option linter.unusedSimpArgs false
set_option linter.unusedVariables false
noncomputable def Lref01_Same (a0 : (List Int)) (a1 : (List Int)) : Option (Bool) :=
 some (decide (strOf a0 = strOf a1))
end Go.Lc
end
section
namespace Go.Lc
open Go.RowKit
open Go.Av
set_option maxRecDepth 100000
set_option linter.unusedSimpArgs false
set_option linter.unusedVariables false
end Go.Lc
end
section
namespace Go.Lc
open Go.RowKit
open Go.Av
set_option maxRecDepth 100000
set_option linter.unusedSimpArgs false
set_option linter.unusedVariables false
abbrev Tapi_Signature:=(Arr 4)×(Arr 4)
abbrev Tapi_Signed:=Int×(Arr 4)×Tapi_Signature
noncomputable def Lbytes_Clone (a0 : (List Int)) : Option (List Int) :=
 (chk (a0.length≤140737488355328)).bind fun _=>some (a0)
noncomputable def Lslices_Clone_of__api_Output_api_Output (a0 : (List Tapi_Output)) : Option (List Tapi_Output) :=
 (chk (a0.length≤4398046511104)).bind fun _=>some (a0)
noncomputable def Lslices_Clone_of__byte_byte (a0 : (List (List Int))) : Option (List (List Int)) :=
 (chk (a0.length≤5864062014805)).bind fun _=>some (a0)
noncomputable def Lref09_SameOut (a0 : Tapi_Output) (a1 : Tapi_Output) : Option (Bool) :=
 ((if a0.1 = a1.1 then (Lref01_Same a0.2 a1.2).bind fun y1=>some (y1) else some (false))).bind fun z2=>some ((decide (a0.1 = a1.1) && z2))
noncomputable def Lref09_SameTx_k2 : Option Bool :=
 some (true)
noncomputable def Lref09_SameTx_s2 (a0 : Tapi_Tx) (a1 : Tapi_Tx) : Int→Option ((Int) ⊕ (Bool))
 | p49=>(if p49 < (a0.2.2.1.length : Int) then (idx (a0.2.2.1) (p49)).bind fun x53=>(idx (a1.2.2.1) (p49)).bind fun x54=>(Lref09_SameOut x53 x54).bind fun y55=>(if ¬ (y55 = true) then some (.inr (false)) else some (.inl (IntKind.i64.wrap (p49 + 1)))) else (Lref09_SameTx_k2).map Sum.inr)
noncomputable def Lref09_SameTx_k1 (a0 : Tapi_Tx) (a1 : Tapi_Tx) : Option Bool :=
 runLoop (Lref09_SameTx_s2 a0 a1) 0
noncomputable def Lref09_SameTx_k3 (p28 : Int) : Option ((Int) ⊕ (Bool)) :=
 some (.inl (IntKind.i64.wrap (p28 + 1)))
noncomputable def Lref09_SameTx_s3 (x56 : Tapi_Input) (x57 : Tapi_Input) (p28 : Int) : Int→Option ((Int) ⊕ ((Int) ⊕ (Bool)))
 | p65=>(if p65 < (x56.2.2.length : Int) then (idx (x56.2.2) (p65)).bind fun x69=>(idx (x57.2.2) (p65)).bind fun x70=>(Lref01_Same x69 x70).bind fun y71=>(if ¬ (y71 = true) then some (.inr (.inr (false))) else some (.inl (IntKind.i64.wrap (p65 + 1)))) else (Lref09_SameTx_k3 p28).map Sum.inr)
noncomputable def Lref09_SameTx_s1 (a0 : Tapi_Tx) (a1 : Tapi_Tx) : Int→Option ((Int) ⊕ (Bool))
 | p28=>(if p28 < (a0.2.1.length : Int) then (idx (a0.2.1) (p28)).bind fun x56=>(idx (a1.2.1) (p28)).bind fun x57=>(if ((¬ ((x56.1.1 = x57.1.1∧x56.1.2 = x57.1.2))∨¬ (x56.2.1 = x57.2.1))∨¬ ((x56.2.2.length : Int) = (x57.2.2.length : Int))) then some (.inr (false)) else runLoop (Lref09_SameTx_s3 x56 x57 p28) 0) else (Lref09_SameTx_k1 a0 a1).map Sum.inr)
noncomputable def Lref09_SameTx (a0 : Tapi_Tx) (a1 : Tapi_Tx) : Option (Bool) :=
 (if (((¬ (a0.1 = a1.1)∨¬ (a0.2.2.2 = a1.2.2.2))∨¬ ((a0.2.1.length : Int) = (a1.2.1.length : Int)))∨¬ ((a0.2.2.1.length : Int) = (a1.2.2.1.length : Int))) then some (false) else runLoop (Lref09_SameTx_s1 a0 a1) 0)
end Go.Lc
end
section
namespace Go.Lc
open Go.RowKit
open Go.Av
set_option maxRecDepth 100000
set_option linter.unusedSimpArgs false
set_option linter.unusedVariables false
end Go.Lc
end
