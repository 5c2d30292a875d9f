import Derived.Test.YtjdoijdjeapekaaDoorLcG1
section
namespace Go.Lc
open Go.RowKit
open Go.Av
set_option maxRecDepth 100000
set_option linter.unusedSimpArgs false
set_option linter.unusedVariables false
noncomputable def Lref01_Same (a0 : (List Int)) (a1 : (List Int)) : Option (Bool) :=
 some (decide (strOf a0 = strOf a1))
end Go.Lc
end
section
namespace Go.Lc
open Go.RowKit
open Go.Av
set_option maxRecDepth 100000
set_option linter.unusedSimpArgs false
set_option linter.unusedVariables false
end Go.Lc
end
section
namespace Go.Lc
open Go.RowKit
open Go.Av
set_option maxRecDepth 100000
set_option linter.unusedSimpArgs false
set_option linter.unusedVariables false
abbrev Tapi_Signature:=(Arr 4)×(Arr 4)
abbrev Tapi_Signed:=Int×(Arr 4)×Tapi_Signature
noncomputable def Lbytes_Clone (a0 : (List Int)) : Option (List Int) :=
 (chk (a0.length≤140737488355328)).bind fun _=>some (a0)
noncomputable def Lslices_Clone_of__api_Output_api_Output (a0 : (List Tapi_Output)) : Option (List Tapi_Output) :=
 (chk (a0.length≤4398046511104)).bind fun _=>some (a0)
noncomputable def Lslices_Clone_of__byte_byte (a0 : (List (List Int))) : Option (List (List Int)) :=
 (chk (a0.length≤5864062014805)).bind fun _=>some (a0)
noncomputable def Lslices_Clone_of__api_Coin_api_Coin (a0 : (List Tapi_Coin)) : Option (List Tapi_Coin) :=
 (chk (a0.length≤1599289640401)).bind fun _=>some (a0)
noncomputable def Lref09_SameOut (a0 : Tapi_Output) (a1 : Tapi_Output) : Option (Bool) :=
 ((if a0.1 = a1.1 then (Lref01_Same a0.2 a1.2).bind fun y1=>some (y1) else some (false))).bind fun z2=>some ((decide (a0.1 = a1.1) && z2))
end Go.Lc
end
section
namespace Go.Lc
open Go.RowKit
open Go.Av
set_option maxRecDepth 100000
set_option linter.unusedSimpArgs false
set_option linter.unusedVariables false
end Go.Lc
end
