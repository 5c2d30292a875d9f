import Derived.Test.YthpkpciceodioaaGreatDoorLcG2
import Derived.Test.YthpkpciceodioaaGreatDoorLcG1
import Derived.IntWalk
section
namespace Go.Lc
open Go.RowKit
open Go.Av
set_option maxRecDepth 100000
set_option linter.unusedSimpArgs false
set_option linter.unusedVariables false
abbrev Tapi_Header:=Int×(Arr 32)×(Arr 32)×Int×Int×Int
noncomputable def Lslices_Clone_bytes (a0 : (List Int)) : Option (List Int) :=
 (chk (a0.length≤140737488355328)).bind fun _=>some (a0)
noncomputable def Lblock_EncodeHeader (a0 : Tapi_Header) : Option ((List Int)) :=
 (Lcodec_AppendU32 ([] : (List Int)) a0.1).bind fun y1=>(Lcodec_AppendHash y1 a0.2.1).bind fun y2=>(Lcodec_AppendHash y2 a0.2.2.1).bind fun y3=>(Lcodec_AppendU32 y3 a0.2.2.2.1).bind fun y4=>(Lcodec_AppendU32 y4 a0.2.2.2.2.1).bind fun y5=>(Lcodec_AppendU32 y5 a0.2.2.2.2.2).bind fun y6=>some (y6)
noncomputable def Lblock_Hash (a0 : Tapi_Header) : Option ((Arr 32)) :=
 (Lblock_EncodeHeader a0).bind fun y1=>(Lsha_Double y1).bind fun y2=>some (y2)
noncomputable def Lref02_Zero (a0 : (Arr 4)) : Option (Bool) :=
 some (decide (a0 = zA 4))
noncomputable def Lref02_Len_k1 : Option Int :=
 some (0)
noncomputable def Lref02_Len_s1 (a0 : (Arr 4)) : Int→Option ((Int) ⊕ (Int))
 | p4=>(if 0≤p4 then (Lref02_Bit a0 p4).bind fun y6=>(if y6 = true then some (.inr (IntKind.i64.wrap (p4 + 1))) else some (.inl (IntKind.i64.wrap (p4 - 1)))) else (Lref02_Len_k1).map Sum.inr)
noncomputable def Lref02_Len (a0 : (Arr 4)) : Option (Int) :=
 runLoop (Lref02_Len_s1 a0) 255
noncomputable def Lmath_bits_Add64 (a0 : Int) (a1 : Int) (a2 : Int) : Option (Int×Int) :=
 (chk ((0≤a0∧0≤a1)∧(a1≤18446744073709551615∧0≤a2)∧a2≤1)).bind fun _=>some ((a0 + a1 + a2) % 18446744073709551616,(a0 + a1 + a2) / 18446744073709551616)
noncomputable def Lref02_Add_k1 (p9 : (Arr 4)) (p7 : Int) : Option ((Arr 4)×Bool) :=
 some ((p9,decide (p7 = 1)))
noncomputable def Lref02_Add_s1 (a0 : (Arr 4)) (a1 : (Arr 4)) : (Int×Int×(Arr 4))→Option ((Int×Int×(Arr 4)) ⊕ ((Arr 4)×Bool))
 | (p7,p8,p9)=>(if p8 < 4 then (inA (4) (p8)).bind fun j12=>(Lmath_bits_Add64 (a0.at j12) (a1.at j12) p7).bind fun y13=>some (.inl (y13.2,IntKind.i64.wrap (p8 + 1),p9.put j12 y13.1)) else (Lref02_Add_k1 p9 p7).map Sum.inr)
noncomputable def Lref02_Add (a0 : (Arr 4)) (a1 : (Arr 4)) : Option ((Arr 4)×Bool) :=
 runLoop (Lref02_Add_s1 a0 a1) (0,0,zA 4)
noncomputable def Lref02_Shl_k1 (p6 : (Arr 4)) : Option (Arr 4) :=
 some (p6)
noncomputable def Lref02_Shl_s1 : (Int×(Arr 4))→Option ((Int×(Arr 4)) ⊕ ((Arr 4)))
 | (p5,p6)=>(if 0 < p5 then (Lref02_Add p6 p6).bind fun y8=>some (.inl (IntKind.i64.wrap (p5 - 1),y8.1)) else (Lref02_Shl_k1 p6).map Sum.inr)
noncomputable def Lref02_Shl (a0 : (Arr 4)) (a1 : Int) : Option ((Arr 4)) :=
 (if 256≤a1 then some (zA 4) else runLoop (Lref02_Shl_s1) (a1,a0))
noncomputable def Lref12_Expand_k1 (p7 : (Arr 4)) : Option ((Arr 4)×Int) :=
 (Lref02_Zero p7).bind fun y8=>(if y8 = true then some ((zA 4,120)) else some ((p7,0)))
noncomputable def Lref12_Expand (a0 : Int) : Option ((Arr 4)×Int) :=
 (Lref02_FromUint (IntKind.u64.wrap (bits .and .u32 a0 16777215))).bind fun y1=>(if ¬ (bits .and .u32 a0 8388608 = 0) then some ((zA 4,120)) else (if IntKind.i64.wrap ((a0).fdiv 16777216) < 3 then (Lref02_Shr y1 (IntKind.i64.wrap (8 * (IntKind.i64.wrap (3 - (IntKind.i64.wrap ((a0).fdiv 16777216))))))).bind fun y9=>Lref12_Expand_k1 y9 else (Lref02_Zero y1).bind fun y10=>((if ¬ (y10 = true) then (Lref02_Len y1).bind fun y11=>some (decide (256 < IntKind.i64.wrap (y11 + (IntKind.i64.wrap (8 * (IntKind.i64.wrap ((IntKind.i64.wrap ((a0).fdiv 16777216)) - 3))))))) else some (false))).bind fun z12=>(if (¬ (y10 = true)∧z12 = true) then some ((zA 4,120)) else (Lref02_Shl y1 (IntKind.i64.wrap (8 * (IntKind.i64.wrap ((IntKind.i64.wrap ((a0).fdiv 16777216)) - 3))))).bind fun y13=>Lref12_Expand_k1 y13)))
noncomputable def Lref11_EncodeHeader_k1 (p11 : (List Int)) : Option (List Int) :=
 some (p11)
noncomputable def Lref11_EncodeHeader_s1 (a0 : Tapi_Header) : (Int×(List Int))→Option ((Int×(List Int)) ⊕ ((List Int)))
 | (p10,p11)=>(if p10 < (3 : Int) then (inA (3) (p10)).bind fun j15=>(([a0.2.2.2.1,a0.2.2.2.2.1,a0.2.2.2.2.2])[j15]?).bind fun x16=>(Lref01_AppendU32 p11 x16).bind fun y17=>some (.inl (IntKind.i64.wrap (p10 + 1),y17)) else (Lref11_EncodeHeader_k1 p11).map Sum.inr)
noncomputable def Lref11_EncodeHeader (a0 : Tapi_Header) : Option ((List Int)) :=
 (Lref01_AppendU32 ([] : (List Int)) a0.1).bind fun y1=>(Lref01_AppendHash y1 a0.2.1).bind fun y2=>(Lref01_AppendHash y2 a0.2.2.1).bind fun y3=>runLoop (Lref11_EncodeHeader_s1 a0) (0,y3)
noncomputable def Lref11_Hash (a0 : Tapi_Header) : Option ((Arr 32)) :=
 (Lref11_EncodeHeader a0).bind fun y1=>(Lref03_Double y1).bind fun y2=>some (y2)
noncomputable def Lref02_FromBytes_k1 (p9 : (Arr 4)) : Option (Arr 4) :=
 some (p9)
noncomputable def Lref02_FromBytes_s1 (a0 : (Arr 32)) : (Int×(Arr 4))→Option ((Int×(Arr 4)) ⊕ ((Arr 4)))
 | (p8,p9)=>(if p8 < 32 then (inA (4) (IntKind.i64.wrap ((IntKind.i64.wrap (31 - p8)).tdiv 8))).bind fun j13=>(inA (32) (p8)).bind fun j14=>(chk (¬ (IntKind.i64.wrap (8 * ((IntKind.i64.wrap (31 - p8)).tmod 8)) < 0))).bind fun _=>some (.inl (IntKind.i64.wrap (p8 + 1),p9.put j13 (bits .or .u64 (p9.at j13) (IntKind.u64.wrap ((IntKind.u64.wrap (a0.at j14)) * (2 ^ (min (IntKind.i64.wrap (8 * ((IntKind.i64.wrap (31 - p8)).tmod 8))).toNat 64))))))) else (Lref02_FromBytes_k1 p9).map Sum.inr)
noncomputable def Lref02_FromBytes (a0 : (Arr 32)) : Option ((Arr 4)) :=
 runLoop (Lref02_FromBytes_s1 a0) (0,zA 4)
noncomputable def Lcodec_room (a0 : (List Int)) (a1 : Int) (a2 : Int) : Option (Int) :=
 (if (a1 < 0∨(a0.length : Int) < a1) then some (5) else (if IntKind.i64.wrap ((a0.length : Int) - a1) < a2 then some (1) else some (0)))
noncomputable def Lcodec_read_of_uint8_k1 (p8 : Int) (a1 : Int) (a2 : Int) : Option (Int×Int×Int) :=
 some ((p8,IntKind.i64.wrap (a1 + a2),0))
noncomputable def Lcodec_read_of_uint8_s1 (a2 : Int) (a0 : (List Int)) (a1 : Int) : (Int×Int)→Option ((Int×Int) ⊕ (Int×Int×Int))
 | (p8,p9)=>(if p9 < a2 then (idx (a0) (IntKind.i64.wrap (a1 + p9))).bind fun x12=>(chk (¬ (IntKind.i64.wrap (8 * p9) < 0))).bind fun _=>some (.inl (bits .or .u8 p8 (IntKind.u8.wrap (x12 * (2 ^ (min (IntKind.i64.wrap (8 * p9)).toNat 8)))),IntKind.i64.wrap (p9 + 1))) else (Lcodec_read_of_uint8_k1 p8 a1 a2).map Sum.inr)
noncomputable def Lcodec_read_of_uint8 (a0 : (List Int)) (a1 : Int) (a2 : Int) : Option (Int×Int×Int) :=
 (Lcodec_room a0 a1 a2).bind fun y1=>(if ¬ (y1 = 0) then some ((0,0,y1)) else runLoop (Lcodec_read_of_uint8_s1 a2 a0 a1) (0,0))
noncomputable def Lcodec_U8 (a0 : (List Int)) (a1 : Int) : Option (Int×Int×Int) :=
 (Lcodec_read_of_uint8 a0 a1 1).bind fun y1=>some ((y1.1,y1.2.1,y1.2.2))
noncomputable def Lcodec_read_of_uint16_k1 (p8 : Int) (a1 : Int) (a2 : Int) : Option (Int×Int×Int) :=
 some ((p8,IntKind.i64.wrap (a1 + a2),0))
noncomputable def Lcodec_read_of_uint16_s1 (a2 : Int) (a0 : (List Int)) (a1 : Int) : (Int×Int)→Option ((Int×Int) ⊕ (Int×Int×Int))
 | (p8,p9)=>(if p9 < a2 then (idx (a0) (IntKind.i64.wrap (a1 + p9))).bind fun x12=>(chk (¬ (IntKind.i64.wrap (8 * p9) < 0))).bind fun _=>some (.inl (bits .or .u16 p8 (IntKind.u16.wrap ((IntKind.u16.wrap (x12)) * (2 ^ (min (IntKind.i64.wrap (8 * p9)).toNat 16)))),IntKind.i64.wrap (p9 + 1))) else (Lcodec_read_of_uint16_k1 p8 a1 a2).map Sum.inr)
noncomputable def Lcodec_read_of_uint16 (a0 : (List Int)) (a1 : Int) (a2 : Int) : Option (Int×Int×Int) :=
 (Lcodec_room a0 a1 a2).bind fun y1=>(if ¬ (y1 = 0) then some ((0,0,y1)) else runLoop (Lcodec_read_of_uint16_s1 a2 a0 a1) (0,0))
noncomputable def Lcodec_U16 (a0 : (List Int)) (a1 : Int) : Option (Int×Int×Int) :=
 (Lcodec_read_of_uint16 a0 a1 2).bind fun y1=>some ((y1.1,y1.2.1,y1.2.2))
noncomputable def Lcodec_read_of_uint32_k1 (p8 : Int) (a1 : Int) (a2 : Int) : Option (Int×Int×Int) :=
 some ((p8,IntKind.i64.wrap (a1 + a2),0))
noncomputable def Lcodec_read_of_uint32_s1 (a2 : Int) (a0 : (List Int)) (a1 : Int) : (Int×Int)→Option ((Int×Int) ⊕ (Int×Int×Int))
 | (p8,p9)=>(if p9 < a2 then (idx (a0) (IntKind.i64.wrap (a1 + p9))).bind fun x12=>(chk (¬ (IntKind.i64.wrap (8 * p9) < 0))).bind fun _=>some (.inl (bits .or .u32 p8 (IntKind.u32.wrap ((IntKind.u32.wrap (x12)) * (2 ^ (min (IntKind.i64.wrap (8 * p9)).toNat 32)))),IntKind.i64.wrap (p9 + 1))) else (Lcodec_read_of_uint32_k1 p8 a1 a2).map Sum.inr)
noncomputable def Lcodec_read_of_uint32 (a0 : (List Int)) (a1 : Int) (a2 : Int) : Option (Int×Int×Int) :=
 (Lcodec_room a0 a1 a2).bind fun y1=>(if ¬ (y1 = 0) then some ((0,0,y1)) else runLoop (Lcodec_read_of_uint32_s1 a2 a0 a1) (0,0))
noncomputable def Lcodec_U32 (a0 : (List Int)) (a1 : Int) : Option (Int×Int×Int) :=
 (Lcodec_read_of_uint32 a0 a1 4).bind fun y1=>some ((y1.1,y1.2.1,y1.2.2))
noncomputable def Lcodec_read_of_uint64_k1 (p8 : Int) (a1 : Int) (a2 : Int) : Option (Int×Int×Int) :=
 some ((p8,IntKind.i64.wrap (a1 + a2),0))
noncomputable def Lcodec_read_of_uint64_s1 (a2 : Int) (a0 : (List Int)) (a1 : Int) : (Int×Int)→Option ((Int×Int) ⊕ (Int×Int×Int))
 | (p8,p9)=>(if p9 < a2 then (idx (a0) (IntKind.i64.wrap (a1 + p9))).bind fun x12=>(chk (¬ (IntKind.i64.wrap (8 * p9) < 0))).bind fun _=>some (.inl (bits .or .u64 p8 (IntKind.u64.wrap ((IntKind.u64.wrap (x12)) * (2 ^ (min (IntKind.i64.wrap (8 * p9)).toNat 64)))),IntKind.i64.wrap (p9 + 1))) else (Lcodec_read_of_uint64_k1 p8 a1 a2).map Sum.inr)
noncomputable def Lcodec_read_of_uint64 (a0 : (List Int)) (a1 : Int) (a2 : Int) : Option (Int×Int×Int) :=
 (Lcodec_room a0 a1 a2).bind fun y1=>(if ¬ (y1 = 0) then some ((0,0,y1)) else runLoop (Lcodec_read_of_uint64_s1 a2 a0 a1) (0,0))
noncomputable def Lcodec_U64 (a0 : (List Int)) (a1 : Int) : Option (Int×Int×Int) :=
 (Lcodec_read_of_uint64 a0 a1 8).bind fun y1=>some ((y1.1,y1.2.1,y1.2.2))
noncomputable def Lcodec_Size_k1 (a2 : Int) (p5 : Int) (p6 : Int) (p7 : Int) (p8 : Int) : Option (Int×Int×Int) :=
 (if ¬ (p6 = 0) then some ((0,0,p6)) else (if p7 < p8 then some ((0,0,3)) else (if a2 < p7 then some ((0,0,4)) else some ((p7,p5,0)))))
noncomputable def Lcodec_Size (a0 : (List Int)) (a1 : Int) (a2 : Int) : Option (Int×Int×Int) :=
 (Lcodec_U8 a0 a1).bind fun y1=>(if ¬ (y1.2.2 = 0) then some ((0,0,y1.2.2)) else (if y1.1 = 253 then (Lcodec_U16 a0 y1.2.1).bind fun y9=>Lcodec_Size_k1 a2 y9.2.1 y9.2.2 (IntKind.u64.wrap (y9.1)) 253 else (if y1.1 = 254 then (Lcodec_U32 a0 y1.2.1).bind fun y10=>Lcodec_Size_k1 a2 y10.2.1 y10.2.2 (IntKind.u64.wrap (y10.1)) 65536 else (if y1.1 = 255 then (Lcodec_U64 a0 y1.2.1).bind fun y11=>Lcodec_Size_k1 a2 y11.2.1 y11.2.2 y11.1 4294967296 else Lcodec_Size_k1 a2 y1.2.1 y1.2.2 (IntKind.u64.wrap (y1.1)) 0))))
noncomputable def Lcodec_Bytes (a0 : (List Int)) (a1 : Int) (a2 : Int) : Option ((List Int)×Int×Int) :=
 (if a2 < 0 then some ((([] : (List Int)),0,5)) else (Lcodec_Size a0 a1 (IntKind.u64.wrap (a2))).bind fun y1=>(if ¬ (y1.2.2 = 0) then some ((([] : (List Int)),0,y1.2.2)) else (if IntKind.u64.wrap (IntKind.i64.wrap ((a0.length : Int) - y1.2.1)) < y1.1 then some ((([] : (List Int)),0,1)) else (chk (0≤y1.2.1∧y1.2.1≤IntKind.i64.wrap (y1.2.1 + (IntKind.i64.wrap (y1.1)))∧IntKind.i64.wrap (y1.2.1 + (IntKind.i64.wrap (y1.1)))≤(a0.length : Int))).bind fun _=>(Lcodec_extend (((a0).take ((IntKind.i64.wrap (y1.2.1 + (IntKind.i64.wrap (y1.1)))).toNat)).drop ((y1.2.1).toNat)) ([] : (List Int))).bind fun y3=>some ((y3,IntKind.i64.wrap (y1.2.1 + (IntKind.i64.wrap (y1.1))),0)))))
noncomputable def Lcodec_End (a0 : (List Int)) (a1 : Int) : Option (Int) :=
 (if (a1 < 0∨(a0.length : Int) < a1) then some (5) else (if a1 < (a0.length : Int) then some (2) else some (0)))
noncomputable def Lfilter_Decode (a0 : (List Int)) : Option (Tapi_Filter×Int) :=
 (Lcodec_Size a0 0 4096).bind fun y1=>(if ¬ (y1.2.2 = 0) then some (((0,([] : (List Int))),y1.2.2)) else (Lcodec_Bytes a0 y1.2.1 200000).bind fun y2=>(if ¬ (y2.2.2 = 0) then some (((0,([] : (List Int))),y2.2.2)) else (Lcodec_End a0 y2.2.1).bind fun y3=>(if ¬ (y3 = 0) then some (((0,([] : (List Int))),y3)) else some (((IntKind.i64.wrap (y1.1),y2.1),0)))))
noncomputable def Lref01_number_k1 (p5 : Int) (a1 : Int) (a2 : Int) : Option (Int×Int×Int) :=
 some ((p5,IntKind.i64.wrap (a1 + a2),0))
noncomputable def Lref01_number_s1 (a0 : (List Int)) (a1 : Int) (a2 : Int) : (Int×Int)→Option ((Int×Int) ⊕ (Int×Int×Int))
 | (p5,p6)=>(if 0≤p6 then (idx (a0) (IntKind.i64.wrap (a1 + p6))).bind fun x8=>some (.inl (bits .or .u64 (IntKind.u64.wrap (p5 * 256)) (IntKind.u64.wrap (x8)),IntKind.i64.wrap (p6 - 1))) else (Lref01_number_k1 p5 a1 a2).map Sum.inr)
noncomputable def Lref01_number (a0 : (List Int)) (a1 : Int) (a2 : Int) : Option (Int×Int×Int) :=
 (if (a1 < 0∨(a0.length : Int) < a1) then some ((0,0,5)) else (if IntKind.i64.wrap ((a0.length : Int) - a1) < a2 then some ((0,0,1)) else runLoop (Lref01_number_s1 a0 a1 a2) (0,IntKind.i64.wrap (a2 - 1))))
noncomputable def Lref01_Size_k1 (a2 : Int) (p4 : Int) (p5 : Int) : Option (Int×Int×Int) :=
 (if a2 < p5 then some ((0,0,4)) else some ((p5,p4,0)))
noncomputable def Lref01_Size (a0 : (List Int)) (a1 : Int) (a2 : Int) : Option (Int×Int×Int) :=
 (Lref01_number a0 a1 1).bind fun y1=>(if ¬ (y1.2.2 = 0) then some ((0,0,y1.2.2)) else (if 253≤y1.1 then (chk (¬ (IntKind.u64.wrap (y1.1 - 253) < 0))).bind fun _=>(Lref01_number a0 y1.2.1 (IntKind.i64.wrap (2 * (2 ^ (min (IntKind.u64.wrap (y1.1 - 253)).toNat 64))))).bind fun y7=>(if ¬ (y7.2.2 = 0) then some ((0,0,y7.2.2)) else (if (((y1.1 = 253∧y7.1 < 253)∨(y1.1 = 254∧y7.1 < 65536))∨(y1.1 = 255∧y7.1 < 4294967296)) then some ((0,0,3)) else Lref01_Size_k1 a2 y7.2.1 y7.1)) else Lref01_Size_k1 a2 y1.2.1 y1.1))
noncomputable def Lref01_Bytes (a0 : (List Int)) (a1 : Int) (a2 : Int) : Option ((List Int)×Int×Int) :=
 (if a2 < 0 then some ((([] : (List Int)),0,5)) else (Lref01_Size a0 a1 (IntKind.u64.wrap (a2))).bind fun y1=>(if ¬ (y1.2.2 = 0) then some ((([] : (List Int)),0,y1.2.2)) else (if IntKind.u64.wrap (IntKind.i64.wrap ((a0.length : Int) - y1.2.1)) < y1.1 then some ((([] : (List Int)),0,1)) else (chk (0≤y1.2.1∧y1.2.1≤IntKind.i64.wrap (y1.2.1 + (IntKind.i64.wrap (y1.1)))∧IntKind.i64.wrap (y1.2.1 + (IntKind.i64.wrap (y1.1)))≤(a0.length : Int))).bind fun _=>(Lref01_joined ([] : (List Int)) (((a0).take ((IntKind.i64.wrap (y1.2.1 + (IntKind.i64.wrap (y1.1)))).toNat)).drop ((y1.2.1).toNat))).bind fun y3=>some ((y3,IntKind.i64.wrap (y1.2.1 + (IntKind.i64.wrap (y1.1))),0)))))
noncomputable def Lref01_End (a0 : (List Int)) (a1 : Int) : Option (Int) :=
 (if (a1 < 0∨(a0.length : Int) < a1) then some (5) else (if a1 < (a0.length : Int) then some (2) else some (0)))
noncomputable def Lref20_Decode_k1 (y1 : (Int×Int×Int)) (y2 : ((List Int)×Int×Int)) (p4 : Int) : Option (Tapi_Filter×Int) :=
 (if ¬ (p4 = 0) then some (((0,([] : (List Int))),p4)) else some (((IntKind.i64.wrap (y1.1),y2.1),0)))
noncomputable def Lref20_Decode (a0 : (List Int)) : Option (Tapi_Filter×Int) :=
 (Lref01_Size a0 0 4096).bind fun y1=>(if ¬ (y1.2.2 = 0) then some (((0,([] : (List Int))),y1.2.2)) else (Lref01_Bytes a0 y1.2.1 200000).bind fun y2=>(if y2.2.2 = 0 then (Lref01_End a0 y2.2.1).bind fun y5=>Lref20_Decode_k1 y1 y2 y5 else Lref20_Decode_k1 y1 y2 y2.2.2))

end Go.Lc
end
section
namespace Go.Lc
open Go.RowKit
open Go.Av
set_option maxRecDepth 100000
set_option linter.unusedSimpArgs false
set_option linter.unusedVariables false
noncomputable def Lconst_true : Option Bool :=
 some true
noncomputable def Llaw20_FilterEncodes_c (a0 : Tapi_Filter) (a1 : (List Int)) (a2 : (Arr 32)) (a3 : (Arr 32)) : Option (Bool) :=
 (Lconst_true).bind fun y1=>(if ¬ (y1 = true) then some (false) else (if (1000 < (a0.2.length : Int)∨1000 < (a1.length : Int)) then some (true) else (Lfilter_Encode a0).bind fun y2=>(Lref20_Encode a0).bind fun y3=>(Lfilter_Decode a1).bind fun y4=>(Lref20_Decode a1).bind fun y5=>((if y2.2 = y3.2 then (Lref01_Same y2.1 y3.1).bind fun y6=>some (y6) else some (false))).bind fun z7=>((if ((y2.2 = y3.2∧z7 = true)∧y4.2 = y5.2) then (Lref19_Same y4.1 y5.1).bind fun y8=>some (y8) else some (false))).bind fun z9=>((if (((y2.2 = y3.2∧z7 = true)∧y4.2 = y5.2)∧z9 = true) then (Lfilter_Hash a0).bind fun y10=>(Lref20_Hash a0).bind fun y11=>some (decide (y10 = y11)) else some (false))).bind fun z12=>((if ((((y2.2 = y3.2∧z7 = true)∧y4.2 = y5.2)∧z9 = true)∧z12 = true) then (Lfilter_Header a2 a3).bind fun y13=>(Lref20_Header a2 a3).bind fun y14=>some (decide (y13 = y14)) else some (false))).bind fun z15=>some ((((((decide (y2.2 = y3.2) && z7) && decide (y4.2 = y5.2)) && z9) && z12) && z15))))

end Go.Lc
end
section
namespace Go.Av
open Go.RowKit
set_option linter.unusedVariables false
/-! short forms for printed walks -/
theorem bA {β : Type} {n : Nat} {i : Int} {f : Nat→Option β} {y : β} (h : (inA n i).bind f = some y) : ∃ j,(0≤i∧i.toNat = j∧j < n)∧f j = some y :=
 let ⟨j,h1,h2⟩:=bs h
 ⟨j,inA_some h1,h2⟩
theorem bI {α β : Type} {l : List α} {i : Int} {f : α→Option β} {y : β} (h : (idx l i).bind f = some y) : ∃ x,(0≤i∧l[i.toNat]? = some x∧∀ h' : i.toNat < l.length,l[i.toNat] = x)∧f x = some y :=
 let ⟨x,h1,h2⟩:=bs h
 ⟨x,⟨(idx_some h1).1,(idx_some h1).2,getE_of (idx_some h1).2⟩,h2⟩
theorem bC {β : Type} {p : Prop} [Decidable p] {f : Unit→Option β} {y : β} (h : (chk p).bind f = some y) : p∧f () = some y :=
 let ⟨_,h1,h2⟩:=bs h
 ⟨chk_some h1,h2⟩
theorem bG {α β : Type} {o : Option α} {f : α→Option β} {y : β} {P : α→Prop} (h : o.bind f = some y) (k : ∀ x,o = some x→P x) : ∃ x,P x∧f x = some y :=
 let ⟨x,h1,h2⟩:=bs h
 ⟨x,k x h1,h2⟩
theorem eqT (p : Prop) : (p = True)∨¬ p:=(Classical.em p).imp eq_true id
theorem ifP {α : Type} {c : Prop} [Decidable c] {a b r : α} (h : (if c then a else b) = r) (hc : c:=by simp [-Int.ofNat_toNat, *]) : a = r:=by rwa [if_pos hc] at h
theorem ifPb {α β : Type} {c : Prop} [Decidable c] {a b : Option α} {f : α→Option β} {r : Option β} (h : (if c then a else b).bind f = r) (hc : c:=by simp [-Int.ofNat_toNat, *]) : a.bind f = r:=by rwa [if_pos hc] at h
theorem ifNb {α β : Type} {c : Prop} [Decidable c] {a b : Option α} {f : α→Option β} {r : Option β} (h : (if c then a else b).bind f = r) (hc : ¬ c:=by simp [-Int.ofNat_toNat, *]) : b.bind f = r:=by rwa [if_neg hc] at h
theorem ifN {α : Type} {c : Prop} [Decidable c] {a b r : α} (h : (if c then a else b) = r) (hc : ¬ c:=by simp [-Int.ofNat_toNat, *]) : b = r:=by rwa [if_neg hc] at h
attribute [simp] arC_get arC_sub arC_put
/-! contracts -/
structure Con (α β : Type) where
 E : α→List PV
 R : α→β→PV×List (List Cell)
 g : α→Option β
section
variable {α β : Type} {K : Con α β}
noncomputable def Con.G (K : Con α β) : List PV→Option (PV×List (List Cell)):=lift K.E fun x=>(K.g x).map (K.R x)
def Con.Inj (K : Con α β) : Prop:=∀ a b,K.E a = K.E b→a = b
theorem Con.Inj.eq (hi : K.Inj) {x : α} {y : β} (h : K.g x = some y) : K.G (K.E x) = some (K.R x y):=lift_som hi h
theorem Con.none {ps : List PV} (h : ∀ a,K.E a = ps→False) : K.G ps = none:=lift_none h
def tabAll (T : Tab) : List (Nat×(List PV→Option (PV×List (List Cell))))→Prop
 | []=>True
 | (g,F) :: l=>T g = some F∧tabAll T l
theorem tabAll_sub {l m : List (Nat×(List PV→Option (PV×List (List Cell))))} {own : Nat→List (List Nat)} (h : ∀ p∈m,(tab l own).fn p.1 = some p.2) : tabAll (tab l own) m:=by
 induction m with
 | nil=>trivial
 | cons p m ih=>exact ⟨h p (by simp),ih fun q hq=>h q (by simp [hq])⟩
/-- what a walk shows -/
def Walk (tt : TT) (G : Glob) (l : List (Nat×(List PV→Option (PV×List (List Cell))))) (own : Nat→List (List Nat)) (fn : Func) (K : Con α β) : Prop :=
 ∀ T : Tab,T.own = own→tabAll T l→∀ x y,K.g x = some y→∃ kp fl n,execFn tt T G kp fl n fn (K.E x) = some (K.R x y)
def kpL : List (Nat×Kp)→Keep
 | [],_=>⟨[],[],[]⟩
 | (j,q) :: l,i=>if i = j then q else kpL l i
theorem Walk.of {tt : TT} {G : Glob} {l : List (Nat×(List PV→Option (PV×List (List Cell))))} {own : Nat→List (List Nat)} {fn : Func} {c : Code} {n : Nat} (kl : List (Nat×Kp)) (w : Bool) (hb : fn.body = some c) (hn : fn.ntmps = n)
  (h : ∀ T : Tab,T.own = own→tabAll T l→∀ x y,K.g x = some y→ioChk (K.E x) = true∧EndE tt T G (kpL kl) c ⟨(ioIn 0 0 (K.E x)).1++List.replicate (n - (K.E x).length) .skip,ioBx (K.E x)⟩ (FinQ tt w fn (K.E x) (K.R x y))) : Walk tt G l own fn K :=
 fun T h1 h2 x y h3=>fnE (kp:=kpL kl) (w:=w) hb (h T h1 h2 x y h3).1 (by rw [hn]; exact (h T h1 h2 x y h3).2)
def distinctF : List (Nat×(List PV→Option (PV×List (List Cell))))→Bool
 | []=>true
 | (g,_) :: l=>l.all (fun q=>!(q.1 == g)) && distinctF l
theorem tabAll_tab {own : Nat→List (List Nat)} : ∀ {l : List (Nat×(List PV→Option (PV×List (List Cell))))},distinctF l = true→∀ p∈l,tabF l p.1 = some p.2
 | [],_,p,hp=>by simp at hp
 | (g,F) :: l,h,p,hp=>by
  simp only [distinctF,Bool.and_eq_true,List.all_eq_true] at h;simp only [tabF];rcases List.mem_cons.1 hp with rfl | hp
  ·simp
  ·have:=h.1 p hp
   rw [if_neg (by simpa using this)];exact tabAll_tab (own:=own) h.2 p hp
theorem mkW {P : Program} {tt : TT} {G : Glob} {l : List (Nat×(List PV→Option (PV×List (List Cell))))} {own : Nat→List (List Nat)} (hm : P.follows .mixedOrders = true) (htt : ∀ t i,tt t = some i→tinfo P t = some i)
  {f : FuncId} {fn : Func} {c : Code} (w : Walk tt G l own fn K) (hT : AllI P G l) (hf : P.funcs[f]? = some fn) (hb : fn.body = some c) (hname : (!(fn.name == "runtime.NumGoroutine") && distinctF l) = true) : Impl P G f K.G:=by
 simp only [Bool.and_eq_true,Bool.not_eq_true'] at hname;exact mkI (T:=tab l own) hm htt (tab_ok hT) hf hb hname.1 fun x y hy=>w _ rfl (tabAll_sub (tabAll_tab (own:=own) hname.2)) x y hy
end
/-! steps -/
attribute [simp] kpL
section
variable {tt : TT} {T : Tab} {G : Glob} {kp : Keep} {st st0 st1 : ASt} {a b c d : Code} {Q Q' : AE→ASt→Prop} {P R H : Prop}
def Imp (R P : Prop) : Prop:=R→P
structure SameP (X R : Prop) : Prop where
 h : X = R
theorem Imp.of (e : SameP P R) : Imp P R:=fun p=>e.h ▸ p
theorem im_seq_reg {id : Nat} {ops : Array Oper} (hc : c = .region id ops false) (h : runL tt T G ops.toList ops.toList st = some st1) (hq : Imp R (EndE tt T G kp b st1 Q)) (hj : (kp (id + 1000000)).ks.isEmpty = true:=by rfl) : Imp R (EndE tt T G kp (.seq c b) st Q):=fun r=>ee_seq_reg hc h (hq r) hj
theorem im_seq_draw {id : Nat} {ops : Array Oper} {fs : List Foot} (hc : c = .region id ops true) (h : runU tt T G ops.toList ops.toList st = some (st1,fs)) (hd : drawOk ops.toList fs = true) (hq : Imp R (EndE tt T G kp b st1 Q)) (hj : (kp (id + 1000000)).ks.isEmpty = true:=by rfl) : Imp R (EndE tt T G kp (.seq c b) st Q):=fun r=>ee_seq_draw hc h hd (hq r) hj
theorem im_reg {id : Nat} {ops : Array Oper} (hc : c = .region id ops false) (h : runL tt T G ops.toList ops.toList st = some st1) (hq : Imp R (Q .normal st1)) (hj : (kp (id + 1000000)).ks.isEmpty = true:=by rfl) : Imp R (EndE tt T G kp c st Q):=fun r=>ee_reg hc h (hq r) hj
theorem im_draw {id : Nat} {ops : Array Oper} {fs : List Foot} (hc : c = .region id ops true) (h : runU tt T G ops.toList ops.toList st = some (st1,fs)) (hd : drawOk ops.toList fs = true) (hq : Imp R (Q .normal st1)) (hj : (kp (id + 1000000)).ks.isEmpty = true:=by rfl) : Imp R (EndE tt T G kp c st Q):=fun r=>ee_draw hc h hd (hq r) hj
theorem im_assoc (h : Imp R (EndE tt T G kp (.seq a (.seq b d)) st Q)) : Imp R (EndE tt T G kp (.seq (.seq a b) d) st Q):=fun r=>ee_assoc (h r)
theorem im_skip (h : Imp R (Q .normal st)) : Imp R (EndE tt T G kp .skip st Q):=fun r=>ee_skip (h r)
theorem im_ret (h : Imp R (Q .ret st)) : Imp R (EndE tt T G kp .ret st Q):=fun r=>ee_ret (h r)
theorem im_exit {id : Nat} (h : Imp R (Q (.exit id) st)) : Imp R (EndE tt T G kp (.exit id) st Q):=fun r=>ee_exit (h r)
theorem im_seq_skip (h : Imp R (EndE tt T G kp b st Q)) : Imp R (EndE tt T G kp (.seq .skip b) st Q):=fun r=>ee_seq_skip (h r)
theorem im_seq_ret (h : Imp R (Q .ret st)) : Imp R (EndE tt T G kp (.seq .ret b) st Q):=fun r=>ee_seq_ret (h r)
theorem im_seq_exit {id : Nat} (h : Imp R (Q (.exit id) st)) : Imp R (EndE tt T G kp (.seq (.exit id) b) st Q):=fun r=>ee_seq_exit (h r)
theorem im_block {id : Nat} (h : Imp R (EndE tt T G kp c st (outOf id Q))) : Imp R (EndE tt T G kp (.block id c) st Q):=fun r=>ee_block (h r)
theorem im_seq_block {id : Nat} (h : Imp R (EndE tt T G kp c st (outOf id (thenQ (fun s=>EndE tt T G kp d s Q) Q)))) : Imp R (EndE tt T G kp (.seq (.block id c) d) st Q):=fun r=>ee_seq_block (h r)
theorem im_condT {x : Operand} (h : rd G st.get x = some (bV true)) (h1 : Imp R (EndE tt T G kp a st Q)) : Imp R (EndE tt T G kp (.cond x a b) st Q):=fun r=>ee_condT h (h1 r)
theorem im_condF {x : Operand} (h : rd G st.get x = some (bV false)) (h1 : Imp R (EndE tt T G kp b st Q)) : Imp R (EndE tt T G kp (.cond x a b) st Q):=fun r=>ee_condF h (h1 r)
theorem im_seq_condT {x : Operand} (h : rd G st.get x = some (bV true)) (h1 : Imp R (EndE tt T G kp (.seq a d) st Q)) : Imp R (EndE tt T G kp (.seq (.cond x a b) d) st Q):=fun r=>ee_seq_condT h (h1 r)
theorem im_seq_condF {x : Operand} (h : rd G st.get x = some (bV false)) (h1 : Imp R (EndE tt T G kp (.seq b d) st Q)) : Imp R (EndE tt T G kp (.seq (.cond x a b) d) st Q):=fun r=>ee_seq_condF h (h1 r)
theorem im_pq (h : Imp R P) (e : H = P) : Imp R H:=fun r=>e ▸ h r
/-- the straight steps -/
theorem go (k : R) (h : ∀ X : Prop,SameP X R→Imp X P:=by
 intro X e
 repeat (first
  | (with_reducible refine im_assoc ?_)
  | (with_reducible refine im_seq_skip ?_)
  | (with_reducible refine im_seq_block ?_)
  | (with_reducible refine im_seq_exit ?_)
  | (with_reducible refine im_seq_ret ?_)
  | (with_reducible refine im_block ?_)
  | (with_reducible refine im_skip ?_)
  | (with_reducible refine im_exit ?_)
  | (with_reducible refine im_ret ?_)
  | (with_reducible refine im_seq_condT ?_ ?_; · simp [-Int.ofNat_toNat,bV, *]; done)
  | (with_reducible refine im_seq_condF ?_ ?_; · simp [-Int.ofNat_toNat,bV, *]; done)
  | (refine im_seq_reg rfl (by first | (simp [-Int.ofNat_toNat, *] <;> rfl) | fail) ?_)
  | (refine im_seq_draw rfl (by simp [-Int.ofNat_toNat, *]; first | exact ⟨rfl,rfl⟩ | rfl) (by kernel_rfl) ?_)
  | (with_reducible refine im_condT ?_ ?_; · simp [-Int.ofNat_toNat,bV, *]; done)
  | (with_reducible refine im_condF ?_ ?_; · simp [-Int.ofNat_toNat,bV, *]; done)
  | (refine im_reg rfl (by first | (simp [-Int.ofNat_toNat, *] <;> rfl) | fail) ?_)
  | (refine im_draw rfl (by simp [-Int.ofNat_toNat, *]; first | exact ⟨rfl,rfl⟩ | rfl) (by kernel_rfl) ?_)
  | (refine im_pq ?_ (by simp only [pq,reduceCtorEq]; rfl)))
 exact Imp.of e) : P:=h R ⟨rfl⟩ k
/-- a condition in its normal form -/
theorem nrm {p q : Prop} (c : p) (h : p→q:=by
 intro h;try simp [-Int.ofNat_toNat] at h
 first | exact (eq_true h : (_ = _) = True) | exact h) : q:=h c
/-- what is left of the names of a loop's head -/
theorem nst (k : R) (h : P = R:=by simp only [und,List.replicate,List.cons_append,List.nil_append]; rfl) : P:=h ▸ k
/-- the end -/
theorem fin (h : H) (k : H→P:=by
 intro h;obtain rfl:=Option.some.inj h
 repeat (simp only [pq,reduceCtorEq]; rintro rfl)
 simp [-Int.ofNat_toNat,FinQ, *]) : P:=k h
/-- the end of a loop's body -/
theorem bk (h : H) (k : H→P:=by
 intro h;obtain rfl:=Option.some.inj h
 repeat (simp only [pq,reduceCtorEq]; rintro rfl)
 simp only [pq,reduceCtorEq]
 simp [-Int.ofNat_toNat,und,List.replicate,Nat.add_assoc, *]) : P:=k h
theorem lp {σ ρ : Type} {step : σ→Option (σ ⊕ ρ)} (n : Nat) (H : σ→ASt) {s : σ} {r : ρ}
  (hr : runLoop step s = some r)
  (hb : ∀ s x,step s = some x→EndE tt T G kp c (H s) (QL (kp n) H Q r x)) (hn : firstId c = n:=by kernel_rfl) (hf : forget (kp n) st = H s:=by simp [-Int.ofNat_toNat,und,List.replicate, *]) : EndE tt T G kp (.loop c) st Q :=
 ee_loop (by rw [hn]) hr hf hb
theorem ua (h : EndE tt T G kp (.seq (.seq a b) d) st Q) : EndE tt T G kp (.seq a (.seq b d)) st Q:=by
 obtain ⟨n0,e,s,h1,h2⟩:=h;refine ⟨n0,e,s,fun n hn=>?_,h2⟩;rw [← h1 n hn];simp only [exec];cases exec tt T G kp n a st with
 | none=>rfl
 | some x=>obtain ⟨e,s⟩:=x; cases e <;> rfl
theorem jn {H : ASt} (key : Nat) (h0 : EndE tt T G kp d H Q) (h : EndE tt T G kp d H Q→EndE tt T G kp c H Q:=by first | exact id | exact ua | exact fun h=>ua (ua h)) (hc : firstJ c = some key:=by rfl) (ha : (kp key).ks.isEmpty = false:=by rfl) (hf : forget (kp key) st = forget (kp key) H:=by simp [-Int.ofNat_toNat,und,List.replicate, *]) : EndE tt T G kp c st Q :=
 ee_join hc rfl ha hf (h h0)
end
/-! code -/
abbrev kk (fn : Func) (F : (Nat→Code)→Code) : Code:=F (reg fn)
abbrev co (n : Nat) (a b : Code) : Code:=.cond (.tmp n) a b
end Go.Av
end
section
/- Plain facts about steps that may fail,loops and numbers. -/
namespace Go.Lc
open Go.RowKit
open Go.Av
set_option linter.unusedVariables false

/-! loops -/
theorem runLoop_step {σ ρ : Type} {step : σ→Option (σ ⊕ ρ)} {s s' : σ} (h : step s = some (.inl s')) : runLoop step s = runLoop step s' := by rw [runLoop_eq,h]
theorem runLoop_exit {σ ρ : Type} {step : σ→Option (σ ⊕ ρ)} {s : σ} {x : Option ρ} (h : step s = x.map .inr) : runLoop step s = x:=by
 rw [runLoop_eq,h];cases x <;> rfl
theorem runLoop_end {σ ρ : Type} {step : σ→Option (σ ⊕ ρ)} {s : σ} {r : ρ} (h : step s = some (.inr r)) : runLoop step s = some r:=by rw [runLoop_eq,h]
/-- n steps,and what is then done -/
theorem runLoop_to {σ ρ : Type} {step : σ→Option (σ ⊕ ρ)} (enc : Nat→σ) (n : Nat) {x : Option ρ} (h : ∀ i,i < n→step (enc i) = some (.inl (enc (i + 1)))) (he : step (enc n) = x.map .inr) : runLoop step (enc 0) = x:=by
 have key : ∀ k,k≤n→runLoop step (enc (n - k)) = x:=by
  intro k;induction k with
  | zero=>intro _; exact runLoop_exit he
  | succ k ih =>
   intro hk;rw [runLoop_step (h (n - (k + 1)) (by omega)),show n - (k + 1) + 1 = n - k by omega];exact ih (by omega)
 have:=key n (Nat.le_refl _)
 rwa [Nat.sub_self] at this
/-! steps that do not fail -/
def Tot {α : Type} (x : Option α) (Q : α→Prop) : Prop:=∃ a,x = some a∧Q a
section
variable {α β : Type} {x : Option α} {f : α→Option β} {P : α→Prop} {Q : β→Prop}
theorem Tot.bind (h : Tot x P) (k : ∀ a,P a→Tot (f a) Q) : Tot (x.bind f) Q:=by
 obtain ⟨a,rfl,ha⟩:=h;exact k a ha
theorem Tot.mono {P' : α→Prop} (h : Tot x P) (k : ∀ a,P a→P' a) : Tot x P' := by
 obtain ⟨a,h1,ha⟩:=h;exact ⟨a,h1,k a ha⟩
theorem Tot.inr {ρ σ : Type} {x : Option ρ} {Q : ρ→Prop} (h : Tot x Q) : ∃ r,(x.map Sum.inr : Option (σ ⊕ ρ)) = some (.inr r)∧Q r:=by
 obtain ⟨a,rfl,ha⟩:=h;exact ⟨a,rfl,ha⟩
end
theorem bind_some' {α β : Type} (a : α) (f : α→Option β) : (some a).bind f = f a:=rfl
theorem chk_bind {p : Prop} [Decidable p] {α : Type} {f : Unit→Option α} (h : p) : (chk p).bind f = f ():=by rw [chk_pos h]; rfl
theorem idx_get {α : Type} {l : List α} {i : Nat} (h : i < l.length) : idx l (i : Int) = some l[i]:=by simp [idx,h]
theorem idx_bind {α β : Type} {l : List α} {i : Nat} {f : α→Option β} (h : i < l.length) : (idx l (i : Int)).bind f = f l[i]:=by rw [idx_get h]; rfl
theorem inA_nat {n i : Nat} (h : i < n) : inA n (i : Int) = some i:=by simp [inA,h]
theorem inA_bind {β : Type} {n i : Nat} {f : Nat→Option β} (h : i < n) : (inA n (i : Int)).bind f = f i:=by rw [inA_nat h]; rfl
/-! numbers -/
theorem wi (n : Int) (h : -9223372036854775808≤n∧n≤9223372036854775807) : IntKind.i64.wrap n = n:=IntWalk.i64_in n h
theorem wi_succ {i n : Nat} (h : i < n) (hn : n≤9223372036854775807) : IntKind.i64.wrap ((i : Int) + 1) = ((i + 1 : Nat) : Int):=by rw [wi _ (by omega)]; omega
theorem wu (n : Int) (h : 0≤n∧n≤18446744073709551615) : IntKind.u64.wrap n = n:=IntWalk.u64_in n h

/-! lists -/
theorem fill_step {α : Type} (f : Nat→α) (z : α) {i k : Nat} (h : i < k) : (((List.range i).map f)++List.replicate (k - i) z).set i (f i) = ((List.range (i + 1)).map f)++List.replicate (k - (i + 1)) z:=by
 rw [List.set_append_right _ _ (by simp)];simp only [List.length_map,List.length_range,Nat.sub_self];rw [show k - i = (k - (i + 1)) + 1 by omega,List.replicate_succ,List.set_cons_zero,List.range_succ,List.map_append];simp
theorem fill_len {α : Type} (f : Nat→α) (z : α) {i k : Nat} (h : i≤k) : (((List.range i).map f)++List.replicate (k - i) z).length = k:=by simp; omega
end Go.Lc
end
section
/- a way to compute lifted functions at given arguments: twins that the kernel can run -/
namespace Go.Lc
open Go.RowKit
open Go.Av
set_option linter.unusedVariables false
set_option linter.unusedSimpArgs false
class Force (α : Type) where
 force : {β : Type}→α→(α→β)→β
 eq : ∀ {β : Type} (a : α) (k : α→β),force a k = k a
noncomputable def forceN {β : Type} (n : Nat) (k : Nat→β) : β:=Nat.rec (motive:=fun _=>β) (k Nat.zero) (fun m _=>k (Nat.succ m)) n
theorem forceN_eq {β : Type} (n : Nat) (k : Nat→β) : forceN n k = k n:=by cases n <;> rfl
noncomputable instance : Force Nat:=⟨forceN,forceN_eq⟩
noncomputable def forceI {β : Type} (i : Int) (k : Int→β) : β:=Int.rec (motive:=fun _=>β) (fun n=>forceN n fun m=>k (Int.ofNat m)) (fun n=>forceN n fun m=>k (Int.negSucc m)) i
theorem forceI_eq {β : Type} (i : Int) (k : Int→β) : forceI i k = k i:=by
 cases i with
 | ofNat n=>exact forceN_eq n fun m=>k (Int.ofNat m)
 | negSucc n=>exact forceN_eq n fun m=>k (Int.negSucc m)
noncomputable instance : Force Int:=⟨forceI,forceI_eq⟩
noncomputable def forceB {β : Type} (b : Bool) (k : Bool→β) : β:=Bool.rec (motive:=fun _=>β) (k false) (k true) b
theorem forceB_eq {β : Type} (b : Bool) (k : Bool→β) : forceB b k = k b:=by cases b <;> rfl
noncomputable instance : Force Bool:=⟨forceB,forceB_eq⟩
noncomputable instance : Force Unit:=⟨fun _ k=>k (),fun _ _=>rfl⟩
noncomputable def forceP {α γ β : Type} [Force α] [Force γ] (p : α×γ) (k : α×γ→β) : β:=Prod.rec (motive:=fun _=>β) (fun a c=>Force.force a fun a=>Force.force c fun c=>k (a,c)) p
theorem forceP_eq {α γ β : Type} [Force α] [Force γ] (p : α×γ) (k : α×γ→β) : forceP p k = k p:=by
 obtain ⟨a,c⟩:=p;exact (Force.eq a _).trans (Force.eq c _)
noncomputable instance {α γ : Type} [Force α] [Force γ] : Force (α×γ):=⟨forceP,forceP_eq⟩
noncomputable def forceL {α β : Type} [Force α] (l : List α) (k : List α→β) : β:=List.rec (motive:=fun _=>(List α→β)→β) (fun k=>k []) (fun a _ ih k=>Force.force a fun a=>ih fun l=>k (a :: l)) l k
theorem forceL_eq {α β : Type} [Force α] (l : List α) (k : List α→β) : forceL l k = k l:=by
 induction l generalizing k with
 | nil=>rfl
 | cons a l ih =>
  refine (Force.eq (β:=β) a _).trans ?_;exact ih fun l=>k (a :: l)
noncomputable instance {α : Type} [Force α] : Force (List α):=⟨forceL,forceL_eq⟩
/-- an array anew: its length is looked at,not proved -/
noncomputable def forceA {n : Nat} {β : Type} (a : Arr n) (k : Arr n→β) : β:=forceL a.l fun l=>if h : Nat.beq l.length n = true then k ⟨l,Nat.eq_of_beq_eq_true h⟩ else k a
theorem forceA_eq {n : Nat} {β : Type} (a : Arr n) (k : Arr n→β) : forceA a k = k a:=by
 unfold forceA;rw [forceL_eq];split <;> rfl
noncomputable instance {n : Nat} : Force (Arr n):=⟨forceA,forceA_eq⟩
noncomputable def _root_.Option.bindF {α β : Type} [Force α] (o : Option α) (f : α→Option β) : Option β:=Option.rec (motive:=fun _=>Option β) none (fun x=>Force.force x f) o
theorem bindF_eq {α β : Type} [Force α] (o : Option α) (f : α→Option β) : o.bindF f = o.bind f:=by
 cases o with
 | none=>rfl
 | some x=>exact Force.eq x f
noncomputable def runF {σ ρ : Type} [Force σ] (step : σ→Option (σ ⊕ ρ)) (s : σ) : Option ρ :=
 Nat.rec (motive:=fun _=>σ→Option ρ) (fun _=>none) (fun _ ih s=>Option.rec (motive:=fun _=>Option ρ) none (fun x=>Sum.rec (motive:=fun _=>Option ρ) (fun s'=>Force.force s' ih) (fun r=>some r) x) (step s)) 1000000 s
noncomputable instance {α γ : Type} [Force α] [Force γ] : Force (α ⊕ γ):=⟨fun x k=>Sum.rec (motive:=fun _=>_) (fun a=>Force.force a fun a=>k (.inl a)) (fun c=>Force.force c fun c=>k (.inr c)) x,fun x k=>by cases x <;> exact Force.eq _ _⟩
noncomputable instance {α : Type} [Force α] : Force (Option α):=⟨fun x k=>Option.rec (motive:=fun _=>_) (k none) (fun a=>Force.force a fun a=>k (some a)) x,fun x k=>by cases x <;> first | rfl | exact Force.eq _ _⟩
/-- what the first says,the second says too -/
def Le {α : Type} (o o' : Option α) : Prop:=∀ x,o = some x→o' = some x
theorem Le.refl {α : Type} (o : Option α) : Le o o:=fun _ h=>h
theorem le_bind {α β : Type} [Force α] {o o' : Option α} {f f' : α→Option β} (h : Le o o') (hf : ∀ x,Le (f x) (f' x)) : Le (o.bindF f) (o'.bind f'):=by
 intro y hy;rw [bindF_eq] at hy;obtain ⟨x,hx,hy⟩:=Option.bind_eq_some_iff.1 hy;rw [h _ hx];exact hf x _ hy
theorem le_map {α β : Type} {o o' : Option α} {f : α→β} (h : Le o o') : Le (o.map f) (o'.map f):=by
 intro y hy;obtain ⟨x,hx,rfl⟩:=Option.map_eq_some_iff.1 hy;rw [h _ hx];rfl
theorem le_ite {α : Type} {p : Prop} [Decidable p] {a a' b b' : Option α} (h : Le a a') (h' : Le b b') : Le (if p then a else b) (if p then a' else b'):=by
 split
 ·exact h
 ·exact h'
theorem le_run {σ ρ : Type} [Force σ] {step step' : σ→Option (σ ⊕ ρ)} {s : σ} (h : ∀ s,Le (step s) (step' s)) : Le (runF step s) (runLoop step' s):=by
 have key : ∀ (n : Nat) (s : σ) (r : ρ),(Nat.rec (motive:=fun _=>σ→Option ρ) (fun _=>none) (fun _ ih s=>Option.rec (motive:=fun _=>Option ρ) none (fun x=>Sum.rec (motive:=fun _=>Option ρ) (fun s'=>Force.force s' ih) (fun r=>some r) x) (step s)) n s : Option ρ) = some r→runLoop step' s = some r:=by
  intro n;induction n with
  | zero=>intro s r h; cases h
  | succ n ih =>
   intro s r hr;simp only at hr;rcases hs : step s with _ | (s' | r')
   ·rw [hs] at hr; cases hr
   ·rw [hs] at hr
    have hr:=(Force.eq s' _).symm.trans hr;rw [runLoop_step (h s _ hs)];exact ih s' r hr
   ·rw [hs] at hr
    obtain rfl:=Option.some.inj hr;exact runLoop_end (h s _ hs)
 intro r hr;exact key 1000000 s r hr
class Lec {α : Type} (o o' : Option α) : Prop where
 h : Le o o'
theorem Lec.mk' {α : Type} {o o' p p' : Option α} (e : o = p) (e' : o' = p') (h : Le p p' := by
 repeat' (first
  | (with_reducible exact Le.refl _)
  | (with_reducible exact Lec.h)
  | (with_reducible refine le_run fun s=>?_; repeat (first | (with_reducible exact Lec.h) | (rcases s with ⟨_,s⟩)))
  | (with_reducible refine le_bind ?_ fun _=>?_)
  | (with_reducible refine le_ite ?_ ?_)
  | (with_reducible refine le_map ?_))) : Lec o o' := ⟨by rw [e,e']; exact h⟩
end Go.Lc
end
section
namespace Go.Lc
open Go.RowKit
open Go.Av
set_option maxRecDepth 100000
set_option linter.unusedVariables false
noncomputable def Fref02_Bit (a0 : (Arr 4)) (a1 : Int) : Option (Bool) :=
 (inA (4) (IntKind.i64.wrap ((a1).tdiv 64))).bindF fun j1=>(chk (¬ ((a1).tmod 64 < 0))).bindF fun _=>some (decide (bits .and .u64 ((a0.at j1).fdiv (2 ^ (min ((a1).tmod 64).toNat 64))) 1 = 1))
instance {a0 a1} : Lec (Fref02_Bit a0 a1) (Lref02_Bit a0 a1):=.mk' (Fref02_Bit.eq_1 ..) (Lref02_Bit.eq_1 ..)
noncomputable def Fref02_Shr_k1 (p12 : (Arr 4)) : Option (Arr 4) :=
 some (p12)
instance {p12} : Lec (Fref02_Shr_k1 p12) (Lref02_Shr_k1 p12):=.mk' (Fref02_Shr_k1.eq_1 ..) (Lref02_Shr_k1.eq_1 ..)
noncomputable def Fref02_Shr_k2 (p11 : Int) (p20 : (Arr 4)) : Option ((Int×(Arr 4)) ⊕ ((Arr 4))) :=
 some (.inl (IntKind.i64.wrap (p11 + 1),p20))
instance {p11 p20} : Lec (Fref02_Shr_k2 p11 p20) (Lref02_Shr_k2 p11 p20):=.mk' (Fref02_Shr_k2.eq_1 ..) (Lref02_Shr_k2.eq_1 ..)
noncomputable def Fref02_Shr_s1 (a1 : Int) (a0 : (Arr 4)) : (Int×(Arr 4))→Option ((Int×(Arr 4)) ⊕ ((Arr 4)))
 | (p11,p12)=>(if IntKind.i64.wrap (p11 + a1) < 256 then (Fref02_Bit a0 (IntKind.i64.wrap (p11 + a1))).bindF fun y17=>(if y17 = true then (inA (4) (IntKind.i64.wrap ((p11).tdiv 64))).bindF fun j21=>(chk (¬ ((p11).tmod 64 < 0))).bindF fun _=>Fref02_Shr_k2 p11 (p12.put j21 (bits .or .u64 (p12.at j21) (IntKind.u64.wrap (1 * (2 ^ (min ((p11).tmod 64).toNat 64)))))) else Fref02_Shr_k2 p11 p12) else (Fref02_Shr_k1 p12).map Sum.inr)
instance {a1 a0 p11 p12} : Lec (Fref02_Shr_s1 a1 a0 (p11,p12)) (Lref02_Shr_s1 a1 a0 (p11,p12)):=.mk' (Fref02_Shr_s1.eq_1 ..) (Lref02_Shr_s1.eq_1 ..)
noncomputable def Fref02_Shr (a0 : (Arr 4)) (a1 : Int) : Option ((Arr 4)) :=
 (if a1≤0 then some (a0) else (if 256≤a1 then some (zA 4) else runF (Fref02_Shr_s1 a1 a0) (0,zA 4)))
instance {a0 a1} : Lec (Fref02_Shr a0 a1) (Lref02_Shr a0 a1):=.mk' (Fref02_Shr.eq_1 ..) (Lref02_Shr.eq_1 ..)
noncomputable def Fmath_bits_Add64 (a0 : Int) (a1 : Int) (a2 : Int) : Option (Int×Int) :=
 (chk ((0≤a0∧0≤a1)∧(a1≤18446744073709551615∧0≤a2)∧a2≤1)).bindF fun _=>some ((a0 + a1 + a2) % 18446744073709551616,(a0 + a1 + a2) / 18446744073709551616)
instance {a0 a1 a2} : Lec (Fmath_bits_Add64 a0 a1 a2) (Lmath_bits_Add64 a0 a1 a2):=.mk' (Fmath_bits_Add64.eq_1 ..) (Lmath_bits_Add64.eq_1 ..)
noncomputable def Fref02_Add_k1 (p9 : (Arr 4)) (p7 : Int) : Option ((Arr 4)×Bool) :=
 some ((p9,decide (p7 = 1)))
instance {p9 p7} : Lec (Fref02_Add_k1 p9 p7) (Lref02_Add_k1 p9 p7):=.mk' (Fref02_Add_k1.eq_1 ..) (Lref02_Add_k1.eq_1 ..)
noncomputable def Fref02_Add_s1 (a0 : (Arr 4)) (a1 : (Arr 4)) : (Int×Int×(Arr 4))→Option ((Int×Int×(Arr 4)) ⊕ ((Arr 4)×Bool))
 | (p7,p8,p9)=>(if p8 < 4 then (inA (4) (p8)).bindF fun j12=>(Fmath_bits_Add64 (a0.at j12) (a1.at j12) p7).bindF fun y13=>some (.inl (y13.2,IntKind.i64.wrap (p8 + 1),p9.put j12 y13.1)) else (Fref02_Add_k1 p9 p7).map Sum.inr)
instance {a0 a1 p7 p8 p9} : Lec (Fref02_Add_s1 a0 a1 (p7,p8,p9)) (Lref02_Add_s1 a0 a1 (p7,p8,p9)):=.mk' (Fref02_Add_s1.eq_1 ..) (Lref02_Add_s1.eq_1 ..)
noncomputable def Fref02_Add (a0 : (Arr 4)) (a1 : (Arr 4)) : Option ((Arr 4)×Bool) :=
 runF (Fref02_Add_s1 a0 a1) (0,0,zA 4)
instance {a0 a1} : Lec (Fref02_Add a0 a1) (Lref02_Add a0 a1):=.mk' (Fref02_Add.eq_1 ..) (Lref02_Add.eq_1 ..)
noncomputable def Fref02_Shl_k1 (p6 : (Arr 4)) : Option (Arr 4) :=
 some (p6)
instance {p6} : Lec (Fref02_Shl_k1 p6) (Lref02_Shl_k1 p6):=.mk' (Fref02_Shl_k1.eq_1 ..) (Lref02_Shl_k1.eq_1 ..)
noncomputable def Fref02_Shl_s1 : (Int×(Arr 4))→Option ((Int×(Arr 4)) ⊕ ((Arr 4)))
 | (p5,p6)=>(if 0 < p5 then (Fref02_Add p6 p6).bindF fun y8=>some (.inl (IntKind.i64.wrap (p5 - 1),y8.1)) else (Fref02_Shl_k1 p6).map Sum.inr)
instance {p5 p6} : Lec (Fref02_Shl_s1 (p5,p6)) (Lref02_Shl_s1 (p5,p6)):=.mk' (Fref02_Shl_s1.eq_1 ..) (Lref02_Shl_s1.eq_1 ..)
noncomputable def Fref02_Shl (a0 : (Arr 4)) (a1 : Int) : Option ((Arr 4)) :=
 (if 256≤a1 then some (zA 4) else runF (Fref02_Shl_s1) (a1,a0))
instance {a0 a1} : Lec (Fref02_Shl a0 a1) (Lref02_Shl a0 a1):=.mk' (Fref02_Shl.eq_1 ..) (Lref02_Shl.eq_1 ..)
noncomputable def Fref02_Cmp_k1 : Option Int :=
 some (0)
instance : Lec (Fref02_Cmp_k1) (Lref02_Cmp_k1):=.mk' (Fref02_Cmp_k1.eq_1 ..) (Lref02_Cmp_k1.eq_1 ..)
noncomputable def Fref02_Cmp_s1 (a0 : (Arr 4)) (a1 : (Arr 4)) : Int→Option ((Int) ⊕ (Int))
 | p3=>(if 0≤p3 then (inA (4) (p3)).bindF fun j5=>(if a0.at j5 < a1.at j5 then some (.inr ((-1))) else (if a1.at j5 < a0.at j5 then some (.inr (1)) else some (.inl (IntKind.i64.wrap (p3 - 1))))) else (Fref02_Cmp_k1).map Sum.inr)
instance {a0 a1 p3} : Lec (Fref02_Cmp_s1 a0 a1 p3) (Lref02_Cmp_s1 a0 a1 p3):=.mk' (Fref02_Cmp_s1.eq_1 ..) (Lref02_Cmp_s1.eq_1 ..)
noncomputable def Fref02_Cmp (a0 : (Arr 4)) (a1 : (Arr 4)) : Option (Int) :=
 runF (Fref02_Cmp_s1 a0 a1) 3
instance {a0 a1} : Lec (Fref02_Cmp a0 a1) (Lref02_Cmp a0 a1):=.mk' (Fref02_Cmp.eq_1 ..) (Lref02_Cmp.eq_1 ..)
noncomputable def Fref02_Zero (a0 : (Arr 4)) : Option (Bool) :=
 some (decide (a0 = zA 4))
instance {a0} : Lec (Fref02_Zero a0) (Lref02_Zero a0):=.mk' (Fref02_Zero.eq_1 ..) (Lref02_Zero.eq_1 ..)
noncomputable def Fref02_FromUint (a0 : Int) : Option ((Arr 4)) :=
 some ((zA 4).put 0 a0)
instance {a0} : Lec (Fref02_FromUint a0) (Lref02_FromUint a0):=.mk' (Fref02_FromUint.eq_1 ..) (Lref02_FromUint.eq_1 ..)
noncomputable def Fref02_Len_k1 : Option Int :=
 some (0)
instance : Lec (Fref02_Len_k1) (Lref02_Len_k1):=.mk' (Fref02_Len_k1.eq_1 ..) (Lref02_Len_k1.eq_1 ..)
noncomputable def Fref02_Len_s1 (a0 : (Arr 4)) : Int→Option ((Int) ⊕ (Int))
 | p4=>(if 0≤p4 then (Fref02_Bit a0 p4).bindF fun y6=>(if y6 = true then some (.inr (IntKind.i64.wrap (p4 + 1))) else some (.inl (IntKind.i64.wrap (p4 - 1)))) else (Fref02_Len_k1).map Sum.inr)
instance {a0 p4} : Lec (Fref02_Len_s1 a0 p4) (Lref02_Len_s1 a0 p4):=.mk' (Fref02_Len_s1.eq_1 ..) (Lref02_Len_s1.eq_1 ..)
noncomputable def Fref02_Len (a0 : (Arr 4)) : Option (Int) :=
 runF (Fref02_Len_s1 a0) 255
instance {a0} : Lec (Fref02_Len a0) (Lref02_Len a0):=.mk' (Fref02_Len.eq_1 ..) (Lref02_Len.eq_1 ..)
noncomputable def Fref12_Expand_k1 (p7 : (Arr 4)) : Option ((Arr 4)×Int) :=
 (Fref02_Zero p7).bindF fun y8=>(if y8 = true then some ((zA 4,120)) else some ((p7,0)))
instance {p7} : Lec (Fref12_Expand_k1 p7) (Lref12_Expand_k1 p7):=.mk' (Fref12_Expand_k1.eq_1 ..) (Lref12_Expand_k1.eq_1 ..)
noncomputable def Fref12_Expand (a0 : Int) : Option ((Arr 4)×Int) :=
 (Fref02_FromUint (IntKind.u64.wrap (bits .and .u32 a0 16777215))).bindF fun y1=>(if ¬ (bits .and .u32 a0 8388608 = 0) then some ((zA 4,120)) else (if IntKind.i64.wrap ((a0).fdiv 16777216) < 3 then (Fref02_Shr y1 (IntKind.i64.wrap (8 * (IntKind.i64.wrap (3 - (IntKind.i64.wrap ((a0).fdiv 16777216))))))).bindF fun y9=>Fref12_Expand_k1 y9 else (Fref02_Zero y1).bindF fun y10=>((if ¬ (y10 = true) then (Fref02_Len y1).bindF fun y11=>some (decide (256 < IntKind.i64.wrap (y11 + (IntKind.i64.wrap (8 * (IntKind.i64.wrap ((IntKind.i64.wrap ((a0).fdiv 16777216)) - 3))))))) else some (false))).bindF fun z12=>(if (¬ (y10 = true)∧z12 = true) then some ((zA 4,120)) else (Fref02_Shl y1 (IntKind.i64.wrap (8 * (IntKind.i64.wrap ((IntKind.i64.wrap ((a0).fdiv 16777216)) - 3))))).bindF fun y13=>Fref12_Expand_k1 y13)))
instance {a0} : Lec (Fref12_Expand a0) (Lref12_Expand a0):=.mk' (Fref12_Expand.eq_1 ..) (Lref12_Expand.eq_1 ..)
noncomputable def Fref02_FromBytes_k1 (p9 : (Arr 4)) : Option (Arr 4) :=
 some (p9)
instance {p9} : Lec (Fref02_FromBytes_k1 p9) (Lref02_FromBytes_k1 p9):=.mk' (Fref02_FromBytes_k1.eq_1 ..) (Lref02_FromBytes_k1.eq_1 ..)
noncomputable def Fref02_FromBytes_s1 (a0 : (Arr 32)) : (Int×(Arr 4))→Option ((Int×(Arr 4)) ⊕ ((Arr 4)))
 | (p8,p9)=>(if p8 < 32 then (inA (4) (IntKind.i64.wrap ((IntKind.i64.wrap (31 - p8)).tdiv 8))).bindF fun j13=>(inA (32) (p8)).bindF fun j14=>(chk (¬ (IntKind.i64.wrap (8 * ((IntKind.i64.wrap (31 - p8)).tmod 8)) < 0))).bindF fun _=>some (.inl (IntKind.i64.wrap (p8 + 1),p9.put j13 (bits .or .u64 (p9.at j13) (IntKind.u64.wrap ((IntKind.u64.wrap (a0.at j14)) * (2 ^ (min (IntKind.i64.wrap (8 * ((IntKind.i64.wrap (31 - p8)).tmod 8))).toNat 64))))))) else (Fref02_FromBytes_k1 p9).map Sum.inr)
instance {a0 p8 p9} : Lec (Fref02_FromBytes_s1 a0 (p8,p9)) (Lref02_FromBytes_s1 a0 (p8,p9)):=.mk' (Fref02_FromBytes_s1.eq_1 ..) (Lref02_FromBytes_s1.eq_1 ..)
noncomputable def Fref02_FromBytes (a0 : (Arr 32)) : Option ((Arr 4)) :=
 runF (Fref02_FromBytes_s1 a0) (0,zA 4)
instance {a0} : Lec (Fref02_FromBytes a0) (Lref02_FromBytes a0):=.mk' (Fref02_FromBytes.eq_1 ..) (Lref02_FromBytes.eq_1 ..)
noncomputable def Fmath_bits_RotateLeft32 (a0 : Int) (a1 : Int) : Option (Int) :=
 (chk (¬ (bits .and .u64 (IntKind.u64.wrap (a1)) 31 < 0))).bindF fun _=>(chk (¬ (IntKind.u64.wrap (32 - (bits .and .u64 (IntKind.u64.wrap (a1)) 31)) < 0))).bindF fun _=>some (bits .or .u32 (IntKind.u32.wrap (a0 * (2 ^ (min (bits .and .u64 (IntKind.u64.wrap (a1)) 31).toNat 32)))) ((a0).fdiv (2 ^ (min (IntKind.u64.wrap (32 - (bits .and .u64 (IntKind.u64.wrap (a1)) 31))).toNat 32))))
instance {a0 a1} : Lec (Fmath_bits_RotateLeft32 a0 a1) (Lmath_bits_RotateLeft32 a0 a1):=.mk' (Fmath_bits_RotateLeft32.eq_1 ..) (Lmath_bits_RotateLeft32.eq_1 ..)
noncomputable def Fsha_rotr (a0 : Int) (a1 : Int) : Option (Int) :=
 (Fmath_bits_RotateLeft32 a0 (IntKind.i64.wrap (-a1))).bindF fun y1=>some (y1)
instance {a0 a1} : Lec (Fsha_rotr a0 a1) (Lsha_rotr a0 a1):=.mk' (Fsha_rotr.eq_1 ..) (Lsha_rotr.eq_1 ..)
noncomputable def Fsha_schedule_k2 (p52 : (Arr 64)) : Option (Arr 64) :=
 some (p52)
instance {p52} : Lec (Fsha_schedule_k2 p52) (Lsha_schedule_k2 p52):=.mk' (Fsha_schedule_k2.eq_1 ..) (Lsha_schedule_k2.eq_1 ..)
noncomputable def Fsha_schedule_s2 : (Int×(Arr 64))→Option ((Int×(Arr 64)) ⊕ ((Arr 64)))
 | (p51,p52)=>(if p51 < 64 then (inA (64) (IntKind.i64.wrap (p51 - 15))).bindF fun j62=>(Fsha_rotr (p52.at j62) 7).bindF fun y63=>(Fsha_rotr (p52.at j62) 18).bindF fun y64=>(inA (64) (IntKind.i64.wrap (p51 - 2))).bindF fun j65=>(Fsha_rotr (p52.at j65) 17).bindF fun y66=>(Fsha_rotr (p52.at j65) 19).bindF fun y67=>(inA (64) (IntKind.i64.wrap (p51 - 16))).bindF fun j68=>(inA (64) (IntKind.i64.wrap (p51 - 7))).bindF fun j69=>(inA (64) (p51)).bindF fun j70=>some (.inl (IntKind.i64.wrap (p51 + 1),p52.put j70 (IntKind.u32.wrap ((IntKind.u32.wrap ((IntKind.u32.wrap ((p52.at j68) + (bits .xor .u32 (bits .xor .u32 y63 y64) ((p52.at j62).fdiv 8)))) + (p52.at j69))) + (bits .xor .u32 (bits .xor .u32 y66 y67) ((p52.at j65).fdiv 1024)))))) else (Fsha_schedule_k2 p52).map Sum.inr)
instance {p51 p52} : Lec (Fsha_schedule_s2 (p51,p52)) (Lsha_schedule_s2 (p51,p52)):=.mk' (Fsha_schedule_s2.eq_1 ..) (Lsha_schedule_s2.eq_1 ..)
noncomputable def Fsha_schedule_k1 (p21 : (Arr 64)) : Option (Arr 64) :=
 runF (Fsha_schedule_s2) (16,p21)
instance {p21} : Lec (Fsha_schedule_k1 p21) (Lsha_schedule_k1 p21):=.mk' (Fsha_schedule_k1.eq_1 ..) (Lsha_schedule_k1.eq_1 ..)
noncomputable def Fsha_schedule_k3 (p20 : Int) (p78 : (Arr 64)) : Option ((Int×(Arr 64)) ⊕ ((Arr 64))) :=
 some (.inl (IntKind.i64.wrap (p20 + 1),p78))
instance {p20 p78} : Lec (Fsha_schedule_k3 p20 p78) (Lsha_schedule_k3 p20 p78):=.mk' (Fsha_schedule_k3.eq_1 ..) (Lsha_schedule_k3.eq_1 ..)
noncomputable def Fsha_schedule_s3 (p20 : Int) (a0 : (Arr 64)) : (Int×(Arr 64))→Option ((Int×(Arr 64)) ⊕ ((Int×(Arr 64)) ⊕ ((Arr 64))))
 | (p77,p78)=>(if p77 < 4 then (inA (64) (p20)).bindF fun j81=>(inA (64) (IntKind.i64.wrap ((IntKind.i64.wrap (4 * p20)) + p77))).bindF fun j82=>some (.inl (IntKind.i64.wrap (p77 + 1),p78.put j81 (bits .or .u32 (IntKind.u32.wrap ((p78.at j81) * 256)) (IntKind.u32.wrap (a0.at j82))))) else (Fsha_schedule_k3 p20 p78).map Sum.inr)
instance {p20 a0 p77 p78} : Lec (Fsha_schedule_s3 p20 a0 (p77,p78)) (Lsha_schedule_s3 p20 a0 (p77,p78)):=.mk' (Fsha_schedule_s3.eq_1 ..) (Lsha_schedule_s3.eq_1 ..)
noncomputable def Fsha_schedule_s1 (a0 : (Arr 64)) : (Int×(Arr 64))→Option ((Int×(Arr 64)) ⊕ ((Arr 64)))
 | (p20,p21)=>(if p20 < 16 then runF (Fsha_schedule_s3 p20 a0) (0,p21) else (Fsha_schedule_k1 p21).map Sum.inr)
instance {a0 p20 p21} : Lec (Fsha_schedule_s1 a0 (p20,p21)) (Lsha_schedule_s1 a0 (p20,p21)):=.mk' (Fsha_schedule_s1.eq_1 ..) (Lsha_schedule_s1.eq_1 ..)
noncomputable def Fsha_schedule (a0 : (Arr 64)) : Option ((Arr 64)) :=
 runF (Fsha_schedule_s1 a0) (0,zA 64)
instance {a0} : Lec (Fsha_schedule a0) (Lsha_schedule a0):=.mk' (Fsha_schedule.eq_1 ..) (Lsha_schedule.eq_1 ..)
noncomputable def Fsha_Compress_k1 (a0 : (Arr 8)) (p24 : Int) (p25 : Int) (p26 : Int) (p27 : Int) (p28 : Int) (p29 : Int) (p30 : Int) (p31 : Int) : Option (Arr 8) :=
 some (((((((((zA 8).put 0 (IntKind.u32.wrap ((a0.at 0) + p24))).put 1 (IntKind.u32.wrap ((a0.at 1) + p25))).put 2 (IntKind.u32.wrap ((a0.at 2) + p26))).put 3 (IntKind.u32.wrap ((a0.at 3) + p27))).put 4 (IntKind.u32.wrap ((a0.at 4) + p28))).put 5 (IntKind.u32.wrap ((a0.at 5) + p29))).put 6 (IntKind.u32.wrap ((a0.at 6) + p30))).put 7 (IntKind.u32.wrap ((a0.at 7) + p31)))
instance {a0 p24 p25 p26 p27 p28 p29 p30 p31} : Lec (Fsha_Compress_k1 a0 p24 p25 p26 p27 p28 p29 p30 p31) (Lsha_Compress_k1 a0 p24 p25 p26 p27 p28 p29 p30 p31):=.mk' (Fsha_Compress_k1.eq_1 ..) (Lsha_Compress_k1.eq_1 ..)
noncomputable def Fsha_Compress_s1 (y1 : ((Arr 64))) (a0 : (Arr 8)) : (Int×Int×Int×Int×Int×Int×Int×Int×Int)→Option ((Int×Int×Int×Int×Int×Int×Int×Int×Int) ⊕ ((Arr 8)))
 | (p24,p25,p26,p27,p28,p29,p30,p31,p32)=>(if p32 < 64 then (Fsha_rotr p28 6).bindF fun y40=>(Fsha_rotr p28 11).bindF fun y41=>(Fsha_rotr p28 25).bindF fun y42=>(inA (64) (p32)).bindF fun j43=>(Fsha_rotr p24 2).bindF fun y44=>(Fsha_rotr p24 13).bindF fun y45=>(Fsha_rotr p24 22).bindF fun y46=>some (.inl (IntKind.u32.wrap ((IntKind.u32.wrap ((IntKind.u32.wrap ((IntKind.u32.wrap ((IntKind.u32.wrap (p31 + (bits .xor .u32 (bits .xor .u32 y40 y41) y42))) + (bits .xor .u32 (bits .and .u32 p28 p29) (bits .and .u32 (bits .xor .u32 4294967295 p28) p30)))) + (shaK.at j43))) + (y1.at j43))) + (IntKind.u32.wrap ((bits .xor .u32 (bits .xor .u32 y44 y45) y46) + (bits .xor .u32 (bits .xor .u32 (bits .and .u32 p24 p25) (bits .and .u32 p24 p26)) (bits .and .u32 p25 p26))))),p24,p25,p26,IntKind.u32.wrap (p27 + (IntKind.u32.wrap ((IntKind.u32.wrap ((IntKind.u32.wrap ((IntKind.u32.wrap (p31 + (bits .xor .u32 (bits .xor .u32 y40 y41) y42))) + (bits .xor .u32 (bits .and .u32 p28 p29) (bits .and .u32 (bits .xor .u32 4294967295 p28) p30)))) + (shaK.at j43))) + (y1.at j43)))),p28,p29,p30,IntKind.i64.wrap (p32 + 1))) else (Fsha_Compress_k1 a0 p24 p25 p26 p27 p28 p29 p30 p31).map Sum.inr)
instance {y1 a0 p24 p25 p26 p27 p28 p29 p30 p31 p32} : Lec (Fsha_Compress_s1 y1 a0 (p24,p25,p26,p27,p28,p29,p30,p31,p32)) (Lsha_Compress_s1 y1 a0 (p24,p25,p26,p27,p28,p29,p30,p31,p32)):=.mk' (Fsha_Compress_s1.eq_1 ..) (Lsha_Compress_s1.eq_1 ..)
noncomputable def Fsha_Compress (a0 : (Arr 8)) (a1 : (Arr 64)) : Option ((Arr 8)) :=
 (Fsha_schedule a1).bindF fun y1=>runF (Fsha_Compress_s1 y1 a0) (a0.at 0,a0.at 1,a0.at 2,a0.at 3,a0.at 4,a0.at 5,a0.at 6,a0.at 7,0)
instance {a0 a1} : Lec (Fsha_Compress a0 a1) (Lsha_Compress a0 a1):=.mk' (Fsha_Compress.eq_1 ..) (Lsha_Compress.eq_1 ..)
noncomputable def Fsha_Pad_k1 (p10 : (List Int)) : Option (List Int) :=
 some (p10)
instance {p10} : Lec (Fsha_Pad_k1 p10) (Lsha_Pad_k1 p10):=.mk' (Fsha_Pad_k1.eq_1 ..) (Lsha_Pad_k1.eq_1 ..)
noncomputable def Fsha_Pad_s1 (a0 : Int) : (Int×(List Int))→Option ((Int×(List Int)) ⊕ ((List Int)))
 | (p9,p10)=>(if p9 < 8 then (chk (¬ (IntKind.i64.wrap (56 - (IntKind.i64.wrap (8 * p9))) < 0))).bindF fun _=>(chk (p10.length + 1≤140737488355328)).bindF fun _=>some (.inl (IntKind.i64.wrap (p9 + 1),p10++[IntKind.u8.wrap ((IntKind.u64.wrap (8 * a0)).fdiv (2 ^ (min (IntKind.i64.wrap (56 - (IntKind.i64.wrap (8 * p9)))).toNat 64)))])) else (Fsha_Pad_k1 p10).map Sum.inr)
instance {a0 p9 p10} : Lec (Fsha_Pad_s1 a0 (p9,p10)) (Lsha_Pad_s1 a0 (p9,p10)):=.mk' (Fsha_Pad_s1.eq_1 ..) (Lsha_Pad_s1.eq_1 ..)
noncomputable def Fsha_Pad (a0 : Int) : Option ((List Int)) :=
 (chk (0≤IntKind.u64.wrap (1 + ((IntKind.u64.wrap (64 - ((IntKind.u64.wrap (a0 + 9)).tmod 64))).tmod 64))∧IntKind.u64.wrap (1 + ((IntKind.u64.wrap (64 - ((IntKind.u64.wrap (a0 + 9)).tmod 64))).tmod 64))≤IntKind.u64.wrap (9 + ((IntKind.u64.wrap (64 - ((IntKind.u64.wrap (a0 + 9)).tmod 64))).tmod 64))∧IntKind.u64.wrap (9 + ((IntKind.u64.wrap (64 - ((IntKind.u64.wrap (a0 + 9)).tmod 64))).tmod 64))≤140737488355328)).bindF fun _=>(chk (0 < (List.replicate ((IntKind.u64.wrap (1 + ((IntKind.u64.wrap (64 - ((IntKind.u64.wrap (a0 + 9)).tmod 64))).tmod 64))).toNat) 0).length)).bindF fun _=>runF (Fsha_Pad_s1 a0) (0,(List.replicate ((IntKind.u64.wrap (1 + ((IntKind.u64.wrap (64 - ((IntKind.u64.wrap (a0 + 9)).tmod 64))).tmod 64))).toNat) 0).set 0 128)
instance {a0} : Lec (Fsha_Pad a0) (Lsha_Pad a0):=.mk' (Fsha_Pad.eq_1 ..) (Lsha_Pad.eq_1 ..)
noncomputable def Fsha_row_k1 (p8 : (List Int)) : Option (List Int) :=
 some (p8)
instance {p8} : Lec (Fsha_row_k1 p8) (Lsha_row_k1 p8):=.mk' (Fsha_row_k1.eq_1 ..) (Lsha_row_k1.eq_1 ..)
noncomputable def Fsha_row_s1 (a0 : (List (List Int))) : (Int×(List Int))→Option ((Int×(List Int)) ⊕ ((List Int)))
 | (p7,p8)=>(if p7 < (a0.length : Int) then (idx (a0) (p7)).bindF fun x11=>(chk (p8.length + x11.length≤140737488355328)).bindF fun _=>some (.inl (IntKind.i64.wrap (p7 + 1),p8++x11)) else (Fsha_row_k1 p8).map Sum.inr)
instance {a0 p7 p8} : Lec (Fsha_row_s1 a0 (p7,p8)) (Lsha_row_s1 a0 (p7,p8)):=.mk' (Fsha_row_s1.eq_1 ..) (Lsha_row_s1.eq_1 ..)
noncomputable def Fsha_row (a0 : (List (List Int))) : Option ((List Int)) :=
 runF (Fsha_row_s1 a0) (0,[])
instance {a0} : Lec (Fsha_row a0) (Lsha_row a0):=.mk' (Fsha_row.eq_1 ..) (Lsha_row.eq_1 ..)
noncomputable def Fsha_Sum_k2 (p24 : (Arr 32)) : Option (Arr 32) :=
 some (p24)
instance {p24} : Lec (Fsha_Sum_k2 p24) (Lsha_Sum_k2 p24):=.mk' (Fsha_Sum_k2.eq_1 ..) (Lsha_Sum_k2.eq_1 ..)
noncomputable def Fsha_Sum_s2 (p12 : (Arr 8)) : (Int×(Arr 32))→Option ((Int×(Arr 32)) ⊕ ((Arr 32)))
 | (p23,p24)=>(if p23 < 32 then (inA (8) (IntKind.i64.wrap ((p23).tdiv 4))).bindF fun j28=>(chk (¬ (IntKind.i64.wrap (24 - (IntKind.i64.wrap (((p23).tmod 4) * 8))) < 0))).bindF fun _=>(inA (32) (p23)).bindF fun j30=>some (.inl (IntKind.i64.wrap (p23 + 1),p24.put j30 (IntKind.u8.wrap ((p12.at j28).fdiv (2 ^ (min (IntKind.i64.wrap (24 - (IntKind.i64.wrap (((p23).tmod 4) * 8)))).toNat 32)))))) else (Fsha_Sum_k2 p24).map Sum.inr)
instance {p12 p23 p24} : Lec (Fsha_Sum_s2 p12 (p23,p24)) (Lsha_Sum_s2 p12 (p23,p24)):=.mk' (Fsha_Sum_s2.eq_1 ..) (Lsha_Sum_s2.eq_1 ..)
noncomputable def Fsha_Sum_k1 (p12 : (Arr 8)) : Option (Arr 32) :=
 runF (Fsha_Sum_s2 p12) (0,zA 32)
instance {p12} : Lec (Fsha_Sum_k1 p12) (Lsha_Sum_k1 p12):=.mk' (Fsha_Sum_k1.eq_1 ..) (Lsha_Sum_k1.eq_1 ..)
noncomputable def Fsha_Sum_s1 (y2 : ((List Int))) : (Int×(Arr 8))→Option ((Int×(Arr 8)) ⊕ ((Arr 32)))
 | (p11,p12)=>(if p11 < IntKind.i64.wrap (((y2.length : Int)).tdiv 64) then (chk (0≤IntKind.i64.wrap (64 * p11)∧IntKind.i64.wrap (64 * p11)≤(y2.length : Int))).bindF fun _=>(chk (64≤(y2.length - (IntKind.i64.wrap (64 * p11)).toNat))).bindF fun _=>(Fsha_Compress p12 (arOf 64 ((y2).drop ((IntKind.i64.wrap (64 * p11)).toNat)))).bindF fun y33=>some (.inl (IntKind.i64.wrap (p11 + 1),y33)) else (Fsha_Sum_k1 p12).map Sum.inr)
instance {y2 p11 p12} : Lec (Fsha_Sum_s1 y2 (p11,p12)) (Lsha_Sum_s1 y2 (p11,p12)):=.mk' (Fsha_Sum_s1.eq_1 ..) (Lsha_Sum_s1.eq_1 ..)
noncomputable def Fsha_Sum (a0 : (List Int)) : Option ((Arr 32)) :=
 (Fsha_Pad (IntKind.u64.wrap ((a0.length : Int)))).bindF fun y1=>(Fsha_row [a0,y1]).bindF fun y2=>runF (Fsha_Sum_s1 y2) (0,shaInitial)
instance {a0} : Lec (Fsha_Sum a0) (Lsha_Sum a0):=.mk' (Fsha_Sum.eq_1 ..) (Lsha_Sum.eq_1 ..)
noncomputable def Fsha_Double (a0 : (List Int)) : Option ((Arr 32)) :=
 (Fsha_Sum a0).bindF fun y1=>(Fsha_Sum y1.l).bindF fun y2=>some (y2)
instance {a0} : Lec (Fsha_Double a0) (Lsha_Double a0):=.mk' (Fsha_Double.eq_1 ..) (Lsha_Double.eq_1 ..)
noncomputable def Fref03_rotr (a0 : Int) (a1 : Int) : Option (Int) :=
 (Fmath_bits_RotateLeft32 a0 (IntKind.i64.wrap (-a1))).bindF fun y1=>some (y1)
instance {a0 a1} : Lec (Fref03_rotr a0 a1) (Lref03_rotr a0 a1):=.mk' (Fref03_rotr.eq_1 ..) (Lref03_rotr.eq_1 ..)
noncomputable def Fref03_schedule_k2 (p39 : (Arr 64)) : Option (Arr 64) :=
 some (p39)
instance {p39} : Lec (Fref03_schedule_k2 p39) (Lref03_schedule_k2 p39):=.mk' (Fref03_schedule_k2.eq_1 ..) (Lref03_schedule_k2.eq_1 ..)
noncomputable def Fref03_schedule_s2 : (Int×(Arr 64))→Option ((Int×(Arr 64)) ⊕ ((Arr 64)))
 | (p38,p39)=>(if p38 < 64 then (inA (64) (IntKind.i64.wrap (p38 - 15))).bindF fun j49=>(Fref03_rotr (p39.at j49) 7).bindF fun y50=>(Fref03_rotr (p39.at j49) 18).bindF fun y51=>(inA (64) (IntKind.i64.wrap (p38 - 2))).bindF fun j52=>(Fref03_rotr (p39.at j52) 17).bindF fun y53=>(Fref03_rotr (p39.at j52) 19).bindF fun y54=>(inA (64) (IntKind.i64.wrap (p38 - 16))).bindF fun j55=>(inA (64) (IntKind.i64.wrap (p38 - 7))).bindF fun j56=>(inA (64) (p38)).bindF fun j57=>some (.inl (IntKind.i64.wrap (p38 + 1),p39.put j57 (IntKind.u32.wrap ((IntKind.u32.wrap ((IntKind.u32.wrap ((p39.at j55) + (bits .xor .u32 (bits .xor .u32 y50 y51) ((p39.at j49).fdiv 8)))) + (p39.at j56))) + (bits .xor .u32 (bits .xor .u32 y53 y54) ((p39.at j52).fdiv 1024)))))) else (Fref03_schedule_k2 p39).map Sum.inr)
instance {p38 p39} : Lec (Fref03_schedule_s2 (p38,p39)) (Lref03_schedule_s2 (p38,p39)):=.mk' (Fref03_schedule_s2.eq_1 ..) (Lref03_schedule_s2.eq_1 ..)
noncomputable def Fref03_schedule_k1 (p13 : (Arr 64)) : Option (Arr 64) :=
 runF (Fref03_schedule_s2) (16,p13)
instance {p13} : Lec (Fref03_schedule_k1 p13) (Lref03_schedule_k1 p13):=.mk' (Fref03_schedule_k1.eq_1 ..) (Lref03_schedule_k1.eq_1 ..)
noncomputable def Fref03_schedule_s1 (a0 : (Arr 64)) : (Int×(Arr 64))→Option ((Int×(Arr 64)) ⊕ ((Arr 64)))
 | (p12,p13)=>(if p12 < 16 then (inA (64) (IntKind.i64.wrap (4 * p12))).bindF fun j58=>(inA (64) (IntKind.i64.wrap ((IntKind.i64.wrap (4 * p12)) + 1))).bindF fun j59=>(inA (64) (IntKind.i64.wrap ((IntKind.i64.wrap (4 * p12)) + 2))).bindF fun j60=>(inA (64) (IntKind.i64.wrap ((IntKind.i64.wrap (4 * p12)) + 3))).bindF fun j61=>(inA (64) (p12)).bindF fun j62=>some (.inl (IntKind.i64.wrap (p12 + 1),p13.put j62 (bits .or .u32 (bits .or .u32 (bits .or .u32 (IntKind.u32.wrap ((IntKind.u32.wrap (a0.at j58)) * 16777216)) (IntKind.u32.wrap ((IntKind.u32.wrap (a0.at j59)) * 65536))) (IntKind.u32.wrap ((IntKind.u32.wrap (a0.at j60)) * 256))) (IntKind.u32.wrap (a0.at j61))))) else (Fref03_schedule_k1 p13).map Sum.inr)
instance {a0 p12 p13} : Lec (Fref03_schedule_s1 a0 (p12,p13)) (Lref03_schedule_s1 a0 (p12,p13)):=.mk' (Fref03_schedule_s1.eq_1 ..) (Lref03_schedule_s1.eq_1 ..)
noncomputable def Fref03_schedule (a0 : (Arr 64)) : Option ((Arr 64)) :=
 runF (Fref03_schedule_s1 a0) (0,zA 64)
instance {a0} : Lec (Fref03_schedule a0) (Lref03_schedule a0):=.mk' (Fref03_schedule.eq_1 ..) (Lref03_schedule.eq_1 ..)
noncomputable def Fref03_constants : Option ((Arr 64)) :=
 some (((((((((((((((((((((((((((((((((((((((((((((((((((((((((((((((((zA 64).put 0 1116352408).put 1 1899447441).put 2 3049323471).put 3 3921009573).put 4 961987163).put 5 1508970993).put 6 2453635748).put 7 2870763221).put 8 3624381080).put 9 310598401).put 10 607225278).put 11 1426881987).put 12 1925078388).put 13 2162078206).put 14 2614888103).put 15 3248222580).put 16 3835390401).put 17 4022224774).put 18 264347078).put 19 604807628).put 20 770255983).put 21 1249150122).put 22 1555081692).put 23 1996064986).put 24 2554220882).put 25 2821834349).put 26 2952996808).put 27 3210313671).put 28 3336571891).put 29 3584528711).put 30 113926993).put 31 338241895).put 32 666307205).put 33 773529912).put 34 1294757372).put 35 1396182291).put 36 1695183700).put 37 1986661051).put 38 2177026350).put 39 2456956037).put 40 2730485921).put 41 2820302411).put 42 3259730800).put 43 3345764771).put 44 3516065817).put 45 3600352804).put 46 4094571909).put 47 275423344).put 48 430227734).put 49 506948616).put 50 659060556).put 51 883997877).put 52 958139571).put 53 1322822218).put 54 1537002063).put 55 1747873779).put 56 1955562222).put 57 2024104815).put 58 2227730452).put 59 2361852424).put 60 2428436474).put 61 2756734187).put 62 3204031479).put 63 3329325298)
instance : Lec (Fref03_constants) (Lref03_constants):=.mk' (Fref03_constants.eq_1 ..) (Lref03_constants.eq_1 ..)
noncomputable def Fref03_Compress_k1 (a0 : (Arr 8)) (p25 : Int) (p26 : Int) (p27 : Int) (p28 : Int) (p29 : Int) (p30 : Int) (p31 : Int) (p32 : Int) : Option (Arr 8) :=
 some (((((((((zA 8).put 0 (IntKind.u32.wrap ((a0.at 0) + p25))).put 1 (IntKind.u32.wrap ((a0.at 1) + p26))).put 2 (IntKind.u32.wrap ((a0.at 2) + p27))).put 3 (IntKind.u32.wrap ((a0.at 3) + p28))).put 4 (IntKind.u32.wrap ((a0.at 4) + p29))).put 5 (IntKind.u32.wrap ((a0.at 5) + p30))).put 6 (IntKind.u32.wrap ((a0.at 6) + p31))).put 7 (IntKind.u32.wrap ((a0.at 7) + p32)))
instance {a0 p25 p26 p27 p28 p29 p30 p31 p32} : Lec (Fref03_Compress_k1 a0 p25 p26 p27 p28 p29 p30 p31 p32) (Lref03_Compress_k1 a0 p25 p26 p27 p28 p29 p30 p31 p32):=.mk' (Fref03_Compress_k1.eq_1 ..) (Lref03_Compress_k1.eq_1 ..)
noncomputable def Fref03_Compress_s1 (y2 : ((Arr 64))) (y1 : ((Arr 64))) (a0 : (Arr 8)) : (Int×Int×Int×Int×Int×Int×Int×Int×Int)→Option ((Int×Int×Int×Int×Int×Int×Int×Int×Int) ⊕ ((Arr 8)))
 | (p25,p26,p27,p28,p29,p30,p31,p32,p33)=>(if p33 < 64 then (Fref03_rotr p29 6).bindF fun y41=>(Fref03_rotr p29 11).bindF fun y42=>(Fref03_rotr p29 25).bindF fun y43=>(inA (64) (p33)).bindF fun j44=>(Fref03_rotr p25 2).bindF fun y45=>(Fref03_rotr p25 13).bindF fun y46=>(Fref03_rotr p25 22).bindF fun y47=>some (.inl (IntKind.u32.wrap ((IntKind.u32.wrap ((IntKind.u32.wrap ((IntKind.u32.wrap ((IntKind.u32.wrap (p32 + (bits .xor .u32 (bits .xor .u32 y41 y42) y43))) + (bits .xor .u32 (bits .and .u32 p29 p30) (bits .and .u32 (bits .xor .u32 4294967295 p29) p31)))) + (y2.at j44))) + (y1.at j44))) + (IntKind.u32.wrap ((bits .xor .u32 (bits .xor .u32 y45 y46) y47) + (bits .xor .u32 (bits .xor .u32 (bits .and .u32 p25 p26) (bits .and .u32 p25 p27)) (bits .and .u32 p26 p27))))),p25,p26,p27,IntKind.u32.wrap (p28 + (IntKind.u32.wrap ((IntKind.u32.wrap ((IntKind.u32.wrap ((IntKind.u32.wrap (p32 + (bits .xor .u32 (bits .xor .u32 y41 y42) y43))) + (bits .xor .u32 (bits .and .u32 p29 p30) (bits .and .u32 (bits .xor .u32 4294967295 p29) p31)))) + (y2.at j44))) + (y1.at j44)))),p29,p30,p31,IntKind.i64.wrap (p33 + 1))) else (Fref03_Compress_k1 a0 p25 p26 p27 p28 p29 p30 p31 p32).map Sum.inr)
instance {y2 y1 a0 p25 p26 p27 p28 p29 p30 p31 p32 p33} : Lec (Fref03_Compress_s1 y2 y1 a0 (p25,p26,p27,p28,p29,p30,p31,p32,p33)) (Lref03_Compress_s1 y2 y1 a0 (p25,p26,p27,p28,p29,p30,p31,p32,p33)):=.mk' (Fref03_Compress_s1.eq_1 ..) (Lref03_Compress_s1.eq_1 ..)
noncomputable def Fref03_Compress (a0 : (Arr 8)) (a1 : (Arr 64)) : Option ((Arr 8)) :=
 (Fref03_schedule a1).bindF fun y1=>(Fref03_constants).bindF fun y2=>runF (Fref03_Compress_s1 y2 y1 a0) (a0.at 0,a0.at 1,a0.at 2,a0.at 3,a0.at 4,a0.at 5,a0.at 6,a0.at 7,0)
instance {a0 a1} : Lec (Fref03_Compress a0 a1) (Lref03_Compress a0 a1):=.mk' (Fref03_Compress.eq_1 ..) (Lref03_Compress.eq_1 ..)
noncomputable def Fref03_Pad_k2 (p13 : (List Int)) : Option (List Int) :=
 some (p13)
instance {p13} : Lec (Fref03_Pad_k2 p13) (Lref03_Pad_k2 p13):=.mk' (Fref03_Pad_k2.eq_1 ..) (Lref03_Pad_k2.eq_1 ..)
noncomputable def Fref03_Pad_s2 (a0 : Int) : (Int×(List Int))→Option ((Int×(List Int)) ⊕ ((List Int)))
 | (p12,p13)=>(if 0≤p12 then (chk (¬ (IntKind.i64.wrap (8 * p12) < 0))).bindF fun _=>(chk (p13.length + 1≤140737488355328)).bindF fun _=>some (.inl (IntKind.i64.wrap (p12 - 1),p13++[IntKind.u8.wrap ((IntKind.u64.wrap (8 * a0)).fdiv (2 ^ (min (IntKind.i64.wrap (8 * p12)).toNat 64)))])) else (Fref03_Pad_k2 p13).map Sum.inr)
instance {a0 p12 p13} : Lec (Fref03_Pad_s2 a0 (p12,p13)) (Lref03_Pad_s2 a0 (p12,p13)):=.mk' (Fref03_Pad_s2.eq_1 ..) (Lref03_Pad_s2.eq_1 ..)
noncomputable def Fref03_Pad_k1 (a0 : Int) (p4 : (List Int)) : Option (List Int) :=
 runF (Fref03_Pad_s2 a0) (7,p4)
instance {a0 p4} : Lec (Fref03_Pad_k1 a0 p4) (Lref03_Pad_k1 a0 p4):=.mk' (Fref03_Pad_k1.eq_1 ..) (Lref03_Pad_k1.eq_1 ..)
noncomputable def Fref03_Pad_s1 (a0 : Int) : (List Int)→Option (((List Int)) ⊕ ((List Int)))
 | p4=>(if ¬ ((IntKind.u64.wrap ((IntKind.u64.wrap (a0 + (IntKind.u64.wrap ((p4.length : Int))))) + 8)).tmod 64 = 0) then (chk (p4.length + 1≤140737488355328)).bindF fun _=>some (.inl (p4++[0])) else (Fref03_Pad_k1 a0 p4).map Sum.inr)
instance {a0 p4} : Lec (Fref03_Pad_s1 a0 p4) (Lref03_Pad_s1 a0 p4):=.mk' (Fref03_Pad_s1.eq_1 ..) (Lref03_Pad_s1.eq_1 ..)
noncomputable def Fref03_Pad (a0 : Int) : Option ((List Int)) :=
 runF (Fref03_Pad_s1 a0) [128]
instance {a0} : Lec (Fref03_Pad a0) (Lref03_Pad a0):=.mk' (Fref03_Pad.eq_1 ..) (Lref03_Pad.eq_1 ..)
noncomputable def Fref03_Initial : Option ((Arr 8)) :=
 some (((((((((zA 8).put 0 1779033703).put 1 3144134277).put 2 1013904242).put 3 2773480762).put 4 1359893119).put 5 2600822924).put 6 528734635).put 7 1541459225)
instance : Lec (Fref03_Initial) (Lref03_Initial):=.mk' (Fref03_Initial.eq_1 ..) (Lref03_Initial.eq_1 ..)
noncomputable def Fref03_Sum_k2 (p27 : (Arr 32)) : Option (Arr 32) :=
 some (p27)
instance {p27} : Lec (Fref03_Sum_k2 p27) (Lref03_Sum_k2 p27):=.mk' (Fref03_Sum_k2.eq_1 ..) (Lref03_Sum_k2.eq_1 ..)
noncomputable def Fref03_Sum_s2 (p12 : (Arr 8)) : (Int×(Arr 32))→Option ((Int×(Arr 32)) ⊕ ((Arr 32)))
 | (p26,p27)=>(if p26 < 8 then (inA (8) (p26)).bindF fun j33=>(inA (32) (IntKind.i64.wrap (4 * p26))).bindF fun j34=>(inA (32) (IntKind.i64.wrap ((IntKind.i64.wrap (4 * p26)) + 1))).bindF fun j35=>(inA (32) (IntKind.i64.wrap ((IntKind.i64.wrap (4 * p26)) + 2))).bindF fun j36=>(inA (32) (IntKind.i64.wrap ((IntKind.i64.wrap (4 * p26)) + 3))).bindF fun j37=>some (.inl (IntKind.i64.wrap (p26 + 1),(((p27.put j34 (IntKind.u8.wrap ((p12.at j33).fdiv 16777216))).put j35 (IntKind.u8.wrap ((p12.at j33).fdiv 65536))).put j36 (IntKind.u8.wrap ((p12.at j33).fdiv 256))).put j37 (IntKind.u8.wrap (p12.at j33)))) else (Fref03_Sum_k2 p27).map Sum.inr)
instance {p12 p26 p27} : Lec (Fref03_Sum_s2 p12 (p26,p27)) (Lref03_Sum_s2 p12 (p26,p27)):=.mk' (Fref03_Sum_s2.eq_1 ..) (Lref03_Sum_s2.eq_1 ..)
noncomputable def Fref03_Sum_k1 (p12 : (Arr 8)) : Option (Arr 32) :=
 runF (Fref03_Sum_s2 p12) (0,zA 32)
instance {p12} : Lec (Fref03_Sum_k1 p12) (Lref03_Sum_k1 p12):=.mk' (Fref03_Sum_k1.eq_1 ..) (Lref03_Sum_k1.eq_1 ..)
noncomputable def Fref03_Sum_s1 (a0 : (List Int)) (y2 : ((List Int))) : (Int×(Arr 8))→Option ((Int×(Arr 8)) ⊕ ((Arr 32)))
 | (p11,p12)=>(if IntKind.i64.wrap (p11 + 64)≤(a0.length + y2.length : Int) then (chk (0≤p11∧p11≤((a0++y2).length : Int))).bindF fun _=>(Fref03_Compress p12 ((zA 64).over ((a0++y2).drop (p11).toNat))).bindF fun y39=>some (.inl (IntKind.i64.wrap (p11 + 64),y39)) else (Fref03_Sum_k1 p12).map Sum.inr)
instance {a0 y2 p11 p12} : Lec (Fref03_Sum_s1 a0 y2 (p11,p12)) (Lref03_Sum_s1 a0 y2 (p11,p12)):=.mk' (Fref03_Sum_s1.eq_1 ..) (Lref03_Sum_s1.eq_1 ..)
noncomputable def Fref03_Sum (a0 : (List Int)) : Option ((Arr 32)) :=
 (chk (a0.length≤140737488355328)).bindF fun _=>(Fref03_Pad (IntKind.u64.wrap ((a0.length : Int)))).bindF fun y2=>(chk (a0.length + y2.length≤140737488355328)).bindF fun _=>(Fref03_Initial).bindF fun y4=>runF (Fref03_Sum_s1 a0 y2) (0,y4)
instance {a0} : Lec (Fref03_Sum a0) (Lref03_Sum a0):=.mk' (Fref03_Sum.eq_1 ..) (Lref03_Sum.eq_1 ..)
noncomputable def Fref03_Double (a0 : (List Int)) : Option ((Arr 32)) :=
 (Fref03_Sum a0).bindF fun y1=>(Fref03_Sum y1.l).bindF fun y2=>some (y2)
instance {a0} : Lec (Fref03_Double a0) (Lref03_Double a0):=.mk' (Fref03_Double.eq_1 ..) (Lref03_Double.eq_1 ..)
end Go.Lc
end
section
/- Encodings: what the codec and its reference compute. -/
namespace Go.Lc
open Go.RowKit
open Go.Av
set_option linter.unusedVariables false

/-! numbers,lowest byte first -/
def lowB (n : Int) (k : Nat) : List Int:=(List.range k).map fun i=>IntKind.u8.wrap (n.fdiv (2 ^ (8 * i)))
@[simp] theorem lowB_len (n : Int) (k : Nat) : (lowB n k).length = k:=by simp [lowB]
theorem low_pow {i : Nat} (h : i < 8) : min (IntKind.i64.wrap (8 * (i : Int))).toNat 64 = 8 * i:=by
 rw [wi _ (by omega)];omega
theorem lowest_eq (n : Int) (k : Nat) (hk : k≤8) : Lcodec_lowest n k = some (lowB n k):=by
 unfold Lcodec_lowest;rw [chk_bind (by omega)]
 have:=runLoop_to (step:=Lcodec_lowest_s1 k n) (fun i=>((i : Int),((List.range i).map fun i=>IntKind.u8.wrap (n.fdiv (2 ^ (8 * i))))++List.replicate (k - i) 0)) k (x:=some (lowB n k)) (fun i hi=>by
  simp only [Lcodec_lowest_s1];rw [if_pos (by omega),chk_bind (by rw [wi _ (by omega)]; omega),fill_len _ _ (by omega),inA_bind hi,low_pow (by omega),fill_step (fun i=>IntKind.u8.wrap (n.fdiv (2 ^ (8 * i)))) 0 hi,wi_succ hi (by omega)]) (by
  simp only [Lcodec_lowest_s1];rw [if_neg (by omega)]
  simp [Lcodec_lowest_k1,lowB])
 simpa using this
theorem little_eq (n : Int) (k : Nat) (hk : k≤8) : Lref01_little n k = some (lowB n k):=by
 unfold Lref01_little;rw [chk_bind (by omega)]
 have:=runLoop_to (step:=Lref01_little_s1 k n) (fun i=>((i : Int),((List.range i).map fun i=>IntKind.u8.wrap (n.fdiv (2 ^ (8 * i))))++List.replicate (k - i) 0)) k (x:=some (lowB n k)) (fun i hi=>by
  simp only [Lref01_little_s1];rw [if_pos (by simp; omega),chk_bind (by rw [wi _ (by omega)]; omega),fill_len _ _ (by omega),inA_bind hi,low_pow (by omega),fill_step (fun i=>IntKind.u8.wrap (n.fdiv (2 ^ (8 * i)))) 0 hi,wi_succ hi (by omega)]) (by
  simp only [Lref01_little_s1];rw [if_neg (by simp)]
  simp [Lref01_little_k1,lowB])
 simpa using this
theorem extend_eq {a b : List Int} (h : a.length + b.length≤140737488355328) : Lcodec_extend a b = some (a++b):=by
 unfold Lcodec_extend;rw [wi _ (by omega),chk_bind (by omega),chk_bind (by omega),chk_bind (by omega)]
theorem joined_eq {a b : List Int} (h : a.length + b.length≤140737488355328) : Lref01_joined a b = some (a++b):=by
 unfold Lref01_joined;rw [wi _ (by omega),chk_bind (by omega),chk_bind (by omega),chk_bind (by omega)]
section
variable {b : List Int} {n : Int}
theorem u32_eq (h : b.length≤140737488355000) : Lcodec_AppendU32 b n = some (b++lowB (IntKind.u64.wrap n) 4):=by
 unfold Lcodec_AppendU32;have this : Lcodec_lowest (IntKind.u64.wrap n) 4 = some (lowB (IntKind.u64.wrap n) 4):=lowest_eq _ 4 (by omega);rw [this,bind_some',extend_eq (by simp; omega)];rfl
theorem u64_eq (h : b.length≤140737488355000) : Lcodec_AppendU64 b n = some (b++lowB n 8):=by
 unfold Lcodec_AppendU64;have this : Lcodec_lowest n 8 = some (lowB n 8):=lowest_eq _ 8 (by omega);rw [this,bind_some',extend_eq (by simp; omega)];rfl
theorem u16_eq (h : b.length≤140737488355000) : Lcodec_AppendU16 b n = some (b++lowB (IntKind.u64.wrap n) 2):=by
 unfold Lcodec_AppendU16;have this : Lcodec_lowest (IntKind.u64.wrap n) 2 = some (lowB (IntKind.u64.wrap n) 2):=lowest_eq _ 2 (by omega);rw [this,bind_some',extend_eq (by simp; omega)];rfl
theorem ru32_eq (h : b.length≤140737488355000) : Lref01_AppendU32 b n = some (b++lowB (IntKind.u64.wrap n) 4):=by
 unfold Lref01_AppendU32;have this : Lref01_little (IntKind.u64.wrap n) 4 = some (lowB (IntKind.u64.wrap n) 4):=little_eq _ 4 (by omega);rw [this,bind_some',joined_eq (by simp; omega)];rfl
/-- a size -/
def sizeB (n : Int) : List Int:=if n < 253 then lowB n 1 else if n < 65536 then 253 :: lowB n 2 else if n < 4294967296 then 254 :: lowB n 4 else 255 :: lowB n 8
theorem sizeB_len (n : Int) : (sizeB n).length≤9:=by
 unfold sizeB;split
 ·simp
 ·split
  ·simp
  ·split <;> simp
theorem size_eq (h0 : 0≤n∧n≤18446744073709551615) (h : b.length≤140737488354900) : Lcodec_AppendSize b n = some (b++sizeB n):=by
 unfold Lcodec_AppendSize sizeB;split
 ·rw [extend_eq (by simp; omega)]
  simp [lowB]
 ·split
  ·rw [extend_eq (by simp; omega),bind_some',u16_eq (by simp; omega),IntWalk.u16_in _ (by omega),wu _ (by omega)]
   simp
  ·split
   ·rw [extend_eq (by simp; omega),bind_some',u32_eq (by simp; omega),IntWalk.u32_in _ (by omega),wu _ (by omega)]
    simp
   ·rw [extend_eq (by simp; omega),bind_some',u64_eq (by simp; omega)]
    simp
theorem rsize_eq (h0 : 0≤n∧n≤18446744073709551615) (h : b.length≤140737488354900) : Lref01_AppendSize b n = some (b++sizeB n):=by
 have l1 : Lref01_little n 1 = some (lowB n 1):=little_eq n 1 (by omega);have l2 : Lref01_little n 2 = some (lowB n 2):=little_eq n 2 (by omega);have l4 : Lref01_little n 4 = some (lowB n 4):=little_eq n 4 (by omega);have l8 : Lref01_little n 8 = some (lowB n 8):=little_eq n 8 (by omega);unfold Lref01_AppendSize sizeB;split
 ·rw [l1,bind_some',joined_eq (by simp; omega)]
  rfl
 ·split
  ·rw [l2,bind_some',joined_eq (by simp),bind_some',joined_eq (by simp; omega)]
   rfl
  ·split
   ·rw [l4,bind_some',joined_eq (by simp),bind_some',joined_eq (by simp; omega)]
    rfl
   ·rw [l8,bind_some',joined_eq (by simp),bind_some',joined_eq (by simp; omega)]
    rfl
end
/-- bytes behind their size -/
def bytesB (s : List Int) : List Int:=sizeB s.length++s
theorem bytesB_len (s : List Int) : (bytesB s).length≤9 + s.length:=by
 have:=sizeB_len s.length;simp [bytesB]
 omega
theorem len_u64 {n : Nat} (h : n≤140737488355328) : IntKind.u64.wrap (n : Int) = n:=wu _ (by omega)
theorem abytes_eq {b s : List Int} (h : b.length + s.length≤140737488354900) : Lcodec_AppendBytes b s = some (b++bytesB s):=by
 unfold Lcodec_AppendBytes;have:=sizeB_len s.length;rw [len_u64 (by omega),size_eq (by omega) (by omega),bind_some',extend_eq (by simp; omega)];simp [bytesB]
theorem rbytes_eq {b s : List Int} (h : b.length + s.length≤140737488354900) : Lref01_AppendBytes b s = some (b++bytesB s):=by
 unfold Lref01_AppendBytes;have:=sizeB_len s.length;rw [len_u64 (by omega),rsize_eq (by omega) (by omega),bind_some',joined_eq (by simp; omega)];simp [bytesB]
theorem hash_eq {b : List Int} {a : Arr 32} (h : b.length≤140737488355000) : Lcodec_AppendHash b a = some (b++a.l):=by
 unfold Lcodec_AppendHash;rw [extend_eq (by rw [a.hl]; omega)];rfl
theorem rhash_eq {b : List Int} {a : Arr 32} (h : b.length≤140737488355000) : Lref01_AppendHash b a = some (b++a.l):=by
 unfold Lref01_AppendHash;rw [joined_eq (by rw [a.hl]; omega)];rfl
def pointB (o : Tapi_OutPoint) : List Int:=o.1.l++lowB (IntKind.u64.wrap o.2) 4
@[simp] theorem pointB_len (o : Tapi_OutPoint) : (pointB o).length = 36:=by simp [pointB,o.1.hl]
theorem point_eq (o : Tapi_OutPoint) : Ltx_Point o = some (pointB o):=by
 unfold Ltx_Point;rw [hash_eq (by simp),bind_some',u32_eq (by simp [o.1.hl])];rfl
end Go.Lc
end
section
/- Transactions: encodings,limits,weights; the program's and the reference's are the same. -/
namespace Go.Lc
open Go.RowKit
open Go.Av
set_option linter.unusedVariables false

def inB (x : Tapi_Input) : List Int:=pointB x.1++lowB (IntKind.u64.wrap x.2.1) 4
@[simp] theorem inB_len (x : Tapi_Input) : (inB x).length = 40:=by simp [inB]
def outB (o : Tapi_Output) : List Int:=lowB (IntKind.u64.wrap o.1) 8++bytesB o.2
section
variable {t : Tapi_Tx} {w : Bool}
end
section
variable {t : Tapi_Tx} {w : Bool}
/-! the reference -/
/-! limits -/
end
section
end
end Go.Lc
end
section
/- What is drawn from lists of numbers is always something; law 34,weights. -/
namespace Go.Lc
open Go.RowKit
open Go.Av
set_option linter.unusedVariables false

/-- what a loop's step leads to -/
def Nx {σ ρ : Type} (I : Nat→σ→Prop) (Q : ρ→Prop) (n : Nat) : σ ⊕ ρ→Prop
 | .inl s=>∃ j,j < n∧I j s
 | .inr r=>Q r
theorem Tot.out {σ ρ : Type} {I : Nat→σ→Prop} {Q : ρ→Prop} {n : Nat} {x : Option ρ} (h : Tot x Q) : Tot (x.map .inr) (Nx I Q n):=by
 obtain ⟨r,rfl,h⟩:=h;exact ⟨_,rfl,h⟩
/-! remainders -/
/-! decks -/
/-! law 34: fees and weights -/
end Go.Lc
end
