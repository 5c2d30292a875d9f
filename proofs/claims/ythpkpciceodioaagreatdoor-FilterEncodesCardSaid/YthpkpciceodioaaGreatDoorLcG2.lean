import Derived.Test.YthpkpciceodioaaGreatDoorLcG1
section
namespace Go.Lc
open Go.RowKit
open Go.Av
set_option maxRecDepth 100000
set_option linter.unusedSimpArgs false
set_option linter.unusedVariables false
abbrev Tapi_Filter:=Int×(List Int)
noncomputable def Lmath_bits_Len64 (a0 : Int) : Option Int :=
 (chk (0≤a0∧a0≤18446744073709551615)).bind fun _=>some (Lib.bitLen a0.toNat : Int)
noncomputable def Lref01_Join_k1 (p8 : (List Int)) : Option (List Int) :=
 some (p8)
noncomputable def Lref01_Join_s1 (a0 : (List (List Int))) : (Int×(List Int))→Option ((Int×(List Int)) ⊕ ((List Int)))
 | (p7,p8)=>(if p7 < (a0.length : Int) then (idx (a0) (p7)).bind fun x11=>(Lref01_joined p8 x11).bind fun y12=>some (.inl (IntKind.i64.wrap (p7 + 1),y12)) else (Lref01_Join_k1 p8).map Sum.inr)
noncomputable def Lref01_Join (a0 : (List (List Int))) : Option ((List Int)) :=
 runLoop (Lref01_Join_s1 a0) (0,([] : (List Int)))
noncomputable def Lref01_Same (a0 : (List Int)) (a1 : (List Int)) : Option (Bool) :=
 some (decide (strOf a0 = strOf a1))
noncomputable def Lref19_Same (a0 : Tapi_Filter) (a1 : Tapi_Filter) : Option (Bool) :=
 ((if a0.1 = a1.1 then (Lref01_Same a0.2 a1.2).bind fun y1=>some (y1) else some (false))).bind fun z2=>some ((decide (a0.1 = a1.1) && z2))
end Go.Lc
end
section
namespace Go.Lc
open Go.RowKit
open Go.Av
set_option maxRecDepth 100000
set_option linter.unusedSimpArgs false
set_option linter.unusedVariables false
noncomputable def Lslices_Concat_of__byte_byte_k2 (p16 : (List Int)) : Option (List Int) :=
 some (p16)
noncomputable def Lslices_Concat_of__byte_byte_s2 (a0 : (List (List Int))) : (Int×(List Int))→Option ((Int×(List Int)) ⊕ ((List Int)))
 | (p15,p16)=>(if p15 < (a0.length : Int) then (idx (a0) (p15)).bind fun x19=>(chk (p16.length + x19.length≤140737488355328)).bind fun _=>some (.inl (IntKind.i64.wrap (p15 + 1),p16++x19)) else (Lslices_Concat_of__byte_byte_k2 p16).map Sum.inr)
noncomputable def Lslices_Concat_of__byte_byte_k1 (p5 : Int) (a0 : (List (List Int))) : Option (List Int) :=
 (chk (0≤p5∧p5≤70368744177664)).bind fun _=>runLoop (Lslices_Concat_of__byte_byte_s2 a0) (0,([] : (List Int)))
noncomputable def Lslices_Concat_of__byte_byte_k3 (p5 : Int) (x21 : (List Int)) (p6 : Int) : Option ((Int×Int) ⊕ ((List Int))) :=
 some (.inl (IntKind.i64.wrap (p5 + (x21.length : Int)),IntKind.i64.wrap (p6 + 1)))
noncomputable def Lslices_Concat_of__byte_byte_s1 (a0 : (List (List Int))) : (Int×Int)→Option ((Int×Int) ⊕ ((List Int)))
 | (p5,p6)=>(if p6 < (a0.length : Int) then (idx (a0) (p6)).bind fun x21=>(if IntKind.i64.wrap (p5 + (x21.length : Int)) < 0 then ((none : Option Unit)).bind fun _=>Lslices_Concat_of__byte_byte_k3 p5 x21 p6 else Lslices_Concat_of__byte_byte_k3 p5 x21 p6) else (Lslices_Concat_of__byte_byte_k1 p5 a0).map Sum.inr)
noncomputable def Lslices_Concat_of__byte_byte (a0 : (List (List Int))) : Option ((List Int)) :=
 runLoop (Lslices_Concat_of__byte_byte_s1 a0) (0,0)
noncomputable def Lfilter_Header (a0 : (Arr 32)) (a1 : (Arr 32)) : Option ((Arr 32)) :=
 (Lslices_Concat_of__byte_byte [a0.l,a1.l]).bind fun y1=>(Lsha_Double y1).bind fun y2=>some (y2)
noncomputable def Lfilter_Encode (a0 : Tapi_Filter) : Option ((List Int)×Int) :=
 (if ((a0.1 < 0∨4096 < a0.1)∨200000 < (a0.2.length : Int)) then some ((([] : (List Int)),4)) else (Lcodec_AppendSize ([] : (List Int)) (IntKind.u64.wrap (a0.1))).bind fun y1=>(Lcodec_AppendBytes y1 a0.2).bind fun y2=>some ((y2,0)))
noncomputable def Lfilter_Hash (a0 : Tapi_Filter) : Option ((Arr 32)) :=
 (Lfilter_Encode a0).bind fun y1=>(if ¬ (y1.2 = 0) then some (zA 32) else (Lsha_Double y1.1).bind fun y2=>some (y2))
noncomputable def Lref20_Header (a0 : (Arr 32)) (a1 : (Arr 32)) : Option ((Arr 32)) :=
 (Lref01_Join [a0.l,a1.l]).bind fun y1=>(Lref03_Double y1).bind fun y2=>some (y2)
noncomputable def Lref20_Encode (a0 : Tapi_Filter) : Option ((List Int)×Int) :=
 (if ((a0.1 < 0∨4096 < a0.1)∨200000 < (a0.2.length : Int)) then some ((([] : (List Int)),4)) else (Lref01_AppendSize ([] : (List Int)) (IntKind.u64.wrap (a0.1))).bind fun y1=>(Lref01_AppendBytes y1 a0.2).bind fun y2=>some ((y2,0)))
noncomputable def Lref20_Hash (a0 : Tapi_Filter) : Option ((Arr 32)) :=
 (Lref20_Encode a0).bind fun y1=>(if ¬ (y1.2 = 0) then some (zA 32) else (Lref03_Double y1.1).bind fun y2=>some (y2))
def Oeapi_Filter (x : Tapi_Filter) : Prop:=(-9223372036854775808≤x.1∧x.1≤9223372036854775807)∧OeS_I_u8 x.2
end Go.Lc
end
section
namespace Go.Lc
open Go.RowKit
open Go.Av
set_option maxRecDepth 100000
set_option linter.unusedSimpArgs false
set_option linter.unusedVariables false
noncomputable def Lref02_FromUint (a0 : Int) : Option ((Arr 4)) :=
 some ((zA 4).put 0 a0)
end Go.Lc
end
section
namespace Go.Lc
open Go.RowKit
open Go.Av
set_option maxRecDepth 100000
set_option linter.unusedSimpArgs false
set_option linter.unusedVariables false
noncomputable def Lref02_Cmp_k1 : Option Int :=
 some (0)
noncomputable def Lref02_Cmp_s1 (a0 : (Arr 4)) (a1 : (Arr 4)) : Int→Option ((Int) ⊕ (Int))
 | p3=>(if 0≤p3 then (inA (4) (p3)).bind fun j5=>(if a0.at j5 < a1.at j5 then some (.inr ((-1))) else (if a1.at j5 < a0.at j5 then some (.inr (1)) else some (.inl (IntKind.i64.wrap (p3 - 1))))) else (Lref02_Cmp_k1).map Sum.inr)
noncomputable def Lref02_Cmp (a0 : (Arr 4)) (a1 : (Arr 4)) : Option (Int) :=
 runLoop (Lref02_Cmp_s1 a0 a1) 3
noncomputable def Lref02_Bit (a0 : (Arr 4)) (a1 : Int) : Option (Bool) :=
 (inA (4) (IntKind.i64.wrap ((a1).tdiv 64))).bind fun j1=>(chk (¬ ((a1).tmod 64 < 0))).bind fun _=>some (decide (bits .and .u64 ((a0.at j1).fdiv (2 ^ (min ((a1).tmod 64).toNat 64))) 1 = 1))
noncomputable def Lref02_Shr_k1 (p12 : (Arr 4)) : Option (Arr 4) :=
 some (p12)
noncomputable def Lref02_Shr_k2 (p11 : Int) (p20 : (Arr 4)) : Option ((Int×(Arr 4)) ⊕ ((Arr 4))) :=
 some (.inl (IntKind.i64.wrap (p11 + 1),p20))
noncomputable def Lref02_Shr_s1 (a1 : Int) (a0 : (Arr 4)) : (Int×(Arr 4))→Option ((Int×(Arr 4)) ⊕ ((Arr 4)))
 | (p11,p12)=>(if IntKind.i64.wrap (p11 + a1) < 256 then (Lref02_Bit a0 (IntKind.i64.wrap (p11 + a1))).bind fun y17=>(if y17 = true then (inA (4) (IntKind.i64.wrap ((p11).tdiv 64))).bind fun j21=>(chk (¬ ((p11).tmod 64 < 0))).bind fun _=>Lref02_Shr_k2 p11 (p12.put j21 (bits .or .u64 (p12.at j21) (IntKind.u64.wrap (1 * (2 ^ (min ((p11).tmod 64).toNat 64)))))) else Lref02_Shr_k2 p11 p12) else (Lref02_Shr_k1 p12).map Sum.inr)
noncomputable def Lref02_Shr (a0 : (Arr 4)) (a1 : Int) : Option ((Arr 4)) :=
 (if a1≤0 then some (a0) else (if 256≤a1 then some (zA 4) else runLoop (Lref02_Shr_s1 a1 a0) (0,zA 4)))
end Go.Lc
end
