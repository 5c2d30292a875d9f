import Derived.Test.YtjdoijdjeapekaaLcG1
section
namespace Go.Lc
open Go.RowKit
open Go.Av
set_option maxRecDepth 100000
set_option linter.unusedSimpArgs false
set_option linter.unusedVariables false
noncomputable def Lref01_Same (a0 : (List Int)) (a1 : (List Int)) : Option (Bool) :=
 some (decide (strOf a0 = strOf a1))
end Go.Lc
end
section
namespace Go.Lc
open Go.RowKit
open Go.Av
set_option maxRecDepth 100000
set_option linter.unusedSimpArgs false
set_option linter.unusedVariables false
end Go.Lc
end
section
namespace Go.Lc
open Go.RowKit
open Go.Av
set_option maxRecDepth 100000
set_option linter.unusedSimpArgs false
set_option linter.unusedVariables false
abbrev Tapi_Signature:=(Arr 4)×(Arr 4)
abbrev Tapi_Signed:=Int×(Arr 4)×Tapi_Signature
noncomputable def Lbytes_Clone (a0 : (List Int)) : Option (List Int) :=
 (chk (a0.length≤140737488355328)).bind fun _=>some (a0)
noncomputable def Lref09_SameOut (a0 : Tapi_Output) (a1 : Tapi_Output) : Option (Bool) :=
 ((if a0.1 = a1.1 then (Lref01_Same a0.2 a1.2).bind fun y1=>some (y1) else some (false))).bind fun z2=>some ((decide (a0.1 = a1.1) && z2))
end Go.Lc
end
section
namespace Go.Lc
open Go.RowKit
open Go.Av
set_option maxRecDepth 100000
set_option linter.unusedSimpArgs false
set_option linter.unusedVariables false
end Go.Lc
end
