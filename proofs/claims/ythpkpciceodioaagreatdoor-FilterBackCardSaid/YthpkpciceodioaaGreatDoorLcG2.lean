import Derived.Test.YthpkpciceodioaaGreatDoorLcG1
section
namespace Go.Lc
open Go.RowKit
open Go.Av
set_option maxRecDepth 100000
set_option linter.unusedSimpArgs false
set_option linter.unusedVariables false
abbrev Tapi_Filter:=Int×(List Int)
noncomputable def Lmath_bits_Len64 (a0 : Int) : Option Int :=
 (chk (0≤a0∧a0≤18446744073709551615)).bind fun _=>some (Lib.bitLen a0.toNat : Int)
noncomputable def Lref01_Same (a0 : (List Int)) (a1 : (List Int)) : Option (Bool) :=
 some (decide (strOf a0 = strOf a1))
noncomputable def Lref19_Same (a0 : Tapi_Filter) (a1 : Tapi_Filter) : Option (Bool) :=
 ((if a0.1 = a1.1 then (Lref01_Same a0.2 a1.2).bind fun y1=>some (y1) else some (false))).bind fun z2=>some ((decide (a0.1 = a1.1) && z2))
end Go.Lc
end
section
namespace Go.Lc
open Go.RowKit
open Go.Av
set_option maxRecDepth 100000
set_option linter.unusedSimpArgs false
set_option linter.unusedVariables false
noncomputable def Lfilter_Encode (a0 : Tapi_Filter) : Option ((List Int)×Int) :=
 (if ((a0.1 < 0∨4096 < a0.1)∨200000 < (a0.2.length : Int)) then some ((([] : (List Int)),4)) else (Lcodec_AppendSize ([] : (List Int)) (IntKind.u64.wrap (a0.1))).bind fun y1=>(Lcodec_AppendBytes y1 a0.2).bind fun y2=>some ((y2,0)))
def Oeapi_Filter (x : Tapi_Filter) : Prop:=(-9223372036854775808≤x.1∧x.1≤9223372036854775807)∧OeS_I_u8 x.2
end Go.Lc
end
section
namespace Go.Lc
open Go.RowKit
open Go.Av
set_option maxRecDepth 100000
set_option linter.unusedSimpArgs false
set_option linter.unusedVariables false
noncomputable def Lref02_FromUint (a0 : Int) : Option ((Arr 4)) :=
 some ((zA 4).put 0 a0)
end Go.Lc
end
section
namespace Go.Lc
open Go.RowKit
open Go.Av
set_option maxRecDepth 100000
set_option linter.unusedSimpArgs false
set_option linter.unusedVariables false
noncomputable def Lref02_Cmp_k1 : Option Int :=
 some (0)
noncomputable def Lref02_Cmp_s1 (a0 : (Arr 4)) (a1 : (Arr 4)) : Int→Option ((Int) ⊕ (Int))
 | p3=>(if 0≤p3 then (inA (4) (p3)).bind fun j5=>(if a0.at j5 < a1.at j5 then some (.inr ((-1))) else (if a1.at j5 < a0.at j5 then some (.inr (1)) else some (.inl (IntKind.i64.wrap (p3 - 1))))) else (Lref02_Cmp_k1).map Sum.inr)
noncomputable def Lref02_Cmp (a0 : (Arr 4)) (a1 : (Arr 4)) : Option (Int) :=
 runLoop (Lref02_Cmp_s1 a0 a1) 3
noncomputable def Lref02_Bit (a0 : (Arr 4)) (a1 : Int) : Option (Bool) :=
 (inA (4) (IntKind.i64.wrap ((a1).tdiv 64))).bind fun j1=>(chk (¬ ((a1).tmod 64 < 0))).bind fun _=>some (decide (bits .and .u64 ((a0.at j1).fdiv (2 ^ (min ((a1).tmod 64).toNat 64))) 1 = 1))
noncomputable def Lref02_Shr_k1 (p12 : (Arr 4)) : Option (Arr 4) :=
 some (p12)
noncomputable def Lref02_Shr_k2 (p11 : Int) (p20 : (Arr 4)) : Option ((Int×(Arr 4)) ⊕ ((Arr 4))) :=
 some (.inl (IntKind.i64.wrap (p11 + 1),p20))
noncomputable def Lref02_Shr_s1 (a1 : Int) (a0 : (Arr 4)) : (Int×(Arr 4))→Option ((Int×(Arr 4)) ⊕ ((Arr 4)))
 | (p11,p12)=>(if IntKind.i64.wrap (p11 + a1) < 256 then (Lref02_Bit a0 (IntKind.i64.wrap (p11 + a1))).bind fun y17=>(if y17 = true then (inA (4) (IntKind.i64.wrap ((p11).tdiv 64))).bind fun j21=>(chk (¬ ((p11).tmod 64 < 0))).bind fun _=>Lref02_Shr_k2 p11 (p12.put j21 (bits .or .u64 (p12.at j21) (IntKind.u64.wrap (1 * (2 ^ (min ((p11).tmod 64).toNat 64)))))) else Lref02_Shr_k2 p11 p12) else (Lref02_Shr_k1 p12).map Sum.inr)
noncomputable def Lref02_Shr (a0 : (Arr 4)) (a1 : Int) : Option ((Arr 4)) :=
 (if a1≤0 then some (a0) else (if 256≤a1 then some (zA 4) else runLoop (Lref02_Shr_s1 a1 a0) (0,zA 4)))
end Go.Lc
end
