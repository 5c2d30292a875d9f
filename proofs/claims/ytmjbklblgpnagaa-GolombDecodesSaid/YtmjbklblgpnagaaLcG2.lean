import Derived.Test.YtmjbklblgpnagaaLcG1
import Derived.Test.YtmjbklblgpnagaaAvP3
import Derived.IntWalk
import Derived.Sort.AssemblyPlain
section
namespace Go.Lc
open Go.RowKit
open Go.Av
set_option maxRecDepth 100000
set_option linter.unusedSimpArgs false
set_option linter.unusedVariables false
abbrev Tapi_Bits := (List Int) × Int
abbrev Tapi_Filter := Int × (List Int)
noncomputable def Lcmp_isNaN_of_uint64 (a0 : Int) : Option (Bool) :=
 some (!(decide (a0 = a0)))
noncomputable def Lcmp_Less_of_uint64 (a0 : Int) (a1 : Int) : Option (Bool) :=
 (Lcmp_isNaN_of_uint64 a0).bind fun y1 => ((if y1 = true then (Lcmp_isNaN_of_uint64 a1).bind fun y2 => some (!(y2)) else some (false))).bind fun z3 => some (((y1 && z3) || decide (a0 < a1)))
noncomputable def Lslices_IsSorted_of__uint64_uint64_k1 : Option Bool :=
 some (true)
noncomputable def Lslices_IsSorted_of__uint64_uint64_s1 (a0 : (List Int)) : Int → Option ((Int) ⊕ (Bool))
 | p8 => (if 0 < p8 then (idx (a0) (p8)).bind fun x12 => (idx (a0) (IntKind.i64.wrap (p8 - 1))).bind fun x13 => (Lcmp_Less_of_uint64 x12 x13).bind fun y14 => (if y14 = true then some (.inr (false)) else some (.inl (IntKind.i64.wrap (p8 - 1)))) else (Lslices_IsSorted_of__uint64_uint64_k1).map Sum.inr)
noncomputable def Lslices_IsSorted_of__uint64_uint64 (a0 : (List Int)) : Option (Bool) :=
 runLoop (Lslices_IsSorted_of__uint64_uint64_s1 a0) (IntKind.i64.wrap ((a0.length : Int) - 1))
noncomputable def Lbits_Valid (a0 : Tapi_Bits) : Option (Bool) :=
 (if ((a0.2 < 0 ∨ 1600000 < a0.2) ∨ ¬ ((a0.1.length : Int) = IntKind.i64.wrap ((IntKind.i64.wrap (a0.2 + 7)).tdiv 8))) then some (false) else ((if (a0.2).tmod 8 = 0 then some (false) else (idx (a0.1) (IntKind.i64.wrap ((a0.1.length : Int) - 1))).bind fun x1 => (chk (¬ ((a0.2).tmod 8 < 0))).bind fun _ => some (decide (bits .and .u8 x1 ((255 : Int).fdiv (2 ^ (min ((a0.2).tmod 8).toNat 8))) = 0)))).bind fun z3 => some ((decide ((a0.2).tmod 8 = 0) || z3)))
noncomputable def Lbits_begin (a0 : Tapi_Bits) : Option (Tapi_Bits) :=
 (chk (0 ≤ (a0.1.length : Int) ∧ (a0.1.length : Int) ≤ 140737488355328)).bind fun _ => some (((a0.1).take (min (a0.1.length) ((((a0.1.length : Int)).toNat))) ++ (List.replicate (((a0.1.length : Int)).toNat) 0).drop (min (a0.1.length) ((((a0.1.length : Int)).toNat))), a0.2))
noncomputable def Lbits_writer_put_k2 (a0 : Tapi_Bits) (p6 : (List Int)) : Option Tapi_Bits :=
 some ((p6, IntKind.i64.wrap (a0.2 + 1)))
noncomputable def Lbits_writer_put_k1 (a1 : Bool) (a0 : Tapi_Bits) (p2 : (List Int)) : Option Tapi_Bits :=
 (if a1 = true then (inA (p2.length) (IntKind.i64.wrap ((a0.2).tdiv 8))).bind fun j7 => ((p2)[j7]?).bind fun x8 => (chk (¬ ((a0.2).tmod 8 < 0))).bind fun _ => Lbits_writer_put_k2 a0 ((p2).set j7 (bits .or .u8 x8 ((128 : Int).fdiv (2 ^ (min ((a0.2).tmod 8).toNat 8))))) else Lbits_writer_put_k2 a0 p2)
noncomputable def Lbits_writer_put (a0 : Tapi_Bits) (a1 : Bool) : Option (Tapi_Bits) :=
 (if (a0.2).tmod 8 = 0 then (chk (a0.1.length + 1 ≤ 140737488355328)).bind fun _ => Lbits_writer_put_k1 a1 a0 (a0.1 ++ [0]) else Lbits_writer_put_k1 a1 a0 a0.1)
noncomputable def Lbits_writer_number_s1 (a2 : Int) (a1 : Int) : (Int × Int × (List Int)) → Option ((Int × Int × (List Int)) ⊕ (Tapi_Bits))
 | (p8, p9, p10) => (if p8 < a2 then (chk (¬ (IntKind.i64.wrap ((IntKind.i64.wrap (a2 - 1)) - p8) < 0))).bind fun _ => (Lbits_writer_put (p10, p9) (decide (bits .and .u64 ((a1).fdiv (2 ^ (min (IntKind.i64.wrap ((IntKind.i64.wrap (a2 - 1)) - p8)).toNat 64))) 1 = 1))).bind fun y12 => some (.inl (IntKind.i64.wrap (p8 + 1), y12.2, y12.1)) else some (.inr ((p10, p9))))
noncomputable def Lbits_writer_number (a0 : Tapi_Bits) (a1 : Int) (a2 : Int) : Option (Tapi_Bits) :=
 runLoop (Lbits_writer_number_s1 a2 a1) (0, a0.2, a0.1)
noncomputable def Lbits_AppendRice_k1 (p11 : (List Int)) (p10 : Int) (a1 : Int) (a2 : Int) : Option (Tapi_Bits × Int) :=
 (Lbits_writer_put (p11, p10) false).bind fun y13 => (Lbits_writer_number (y13.1, y13.2) a1 a2).bind fun y14 => some (((y14.1, y14.2), 0))
noncomputable def Lbits_AppendRice_s1 (a1 : Int) (a2 : Int) : (Int × Int × (List Int)) → Option ((Int × Int × (List Int)) ⊕ (Tapi_Bits × Int))
 | (p9, p10, p11) => (if p9 < (a1).fdiv (2 ^ (min (a2).toNat 64)) then (Lbits_writer_put (p11, p10) true).bind fun y15 => some (.inl (IntKind.u64.wrap (p9 + 1), y15.2, y15.1)) else (Lbits_AppendRice_k1 p11 p10 a1 a2).map Sum.inr)
noncomputable def Lbits_AppendRice (a0 : Tapi_Bits) (a1 : Int) (a2 : Int) : Option (Tapi_Bits × Int) :=
 (Lbits_Valid a0).bind fun y1 => (if ¬ (y1 = true) then some (((([] : (List Int)), 0), 6)) else (if (a2 < 0 ∨ 32 < a2) then some (((([] : (List Int)), 0), 5)) else (chk (¬ (a2 < 0))).bind fun _ => (if (65536 < (a1).fdiv (2 ^ (min (a2).toNat 64)) ∨ 1600000 < IntKind.i64.wrap ((IntKind.i64.wrap ((IntKind.i64.wrap (a0.2 + (IntKind.i64.wrap ((a1).fdiv (2 ^ (min (a2).toNat 64)))))) + 1)) + a2)) then some (((([] : (List Int)), 0), 4)) else (Lbits_begin a0).bind fun y3 => runLoop (Lbits_AppendRice_s1 a1 a2) (0, y3.2, y3.1))))
noncomputable def Lgolomb_Encode_k1 (a0 : (List Int)) (p12 : (List Int)) : Option (Tapi_Filter × Int) :=
 some ((((a0.length : Int), p12), 0))
noncomputable def Lgolomb_Encode_s1 (a0 : (List Int)) (a1 : Int) : (Int × Int × (List Int) × Int) → Option ((Int × Int × (List Int) × Int) ⊕ (Tapi_Filter × Int))
 | (p10, p11, p12, p13) => (if p11 < (a0.length : Int) then (idx (a0) (p11)).bind fun x16 => (Lbits_AppendRice (p12, p13) (IntKind.u64.wrap (x16 - p10)) a1).bind fun y17 => (if ¬ (y17.2 = 0) then some (.inr (((0, ([] : (List Int))), y17.2))) else some (.inl (x16, IntKind.i64.wrap (p11 + 1), y17.1.1, y17.1.2))) else (Lgolomb_Encode_k1 a0 p12).map Sum.inr)
noncomputable def Lgolomb_Encode (a0 : (List Int)) (a1 : Int) : Option (Tapi_Filter × Int) :=
 (if 4096 < (a0.length : Int) then some (((0, ([] : (List Int))), 4)) else (if (a1 < 0 ∨ 32 < a1) then some (((0, ([] : (List Int))), 5)) else (Lslices_IsSorted_of__uint64_uint64 a0).bind fun y1 => (if ¬ (y1 = true) then some (((0, ([] : (List Int))), 6)) else runLoop (Lgolomb_Encode_s1 a0 a1) (0, 0, ([] : (List Int)), 0))))
noncomputable def Lmath_bits_Mul64 (a0 : Int) (a1 : Int) : Option (Int × Int) :=
 some ((IntKind.u64.wrap ((IntKind.u64.wrap ((IntKind.u64.wrap (((a0).fdiv 4294967296) * ((a1).fdiv 4294967296))) + ((IntKind.u64.wrap ((IntKind.u64.wrap (((a0).fdiv 4294967296) * (bits .and .u64 a1 4294967295))) + ((IntKind.u64.wrap ((bits .and .u64 a0 4294967295) * (bits .and .u64 a1 4294967295))).fdiv 4294967296))).fdiv 4294967296))) + ((IntKind.u64.wrap ((bits .and .u64 (IntKind.u64.wrap ((IntKind.u64.wrap (((a0).fdiv 4294967296) * (bits .and .u64 a1 4294967295))) + ((IntKind.u64.wrap ((bits .and .u64 a0 4294967295) * (bits .and .u64 a1 4294967295))).fdiv 4294967296))) 4294967295) + (IntKind.u64.wrap ((bits .and .u64 a0 4294967295) * ((a1).fdiv 4294967296))))).fdiv 4294967296)), IntKind.u64.wrap (a0 * a1)))
noncomputable def Lsip_Scale (a0 : Int) (a1 : Int) : Option (Int) :=
 (Lmath_bits_Mul64 a0 a1).bind fun y1 => some (y1.1)
noncomputable def Lmath_bits_RotateLeft64 (a0 : Int) (a1 : Int) : Option (Int) :=
 (chk (¬ (bits .and .u64 (IntKind.u64.wrap (a1)) 63 < 0))).bind fun _ => (chk (¬ (IntKind.u64.wrap (64 - (bits .and .u64 (IntKind.u64.wrap (a1)) 63)) < 0))).bind fun _ => some (bits .or .u64 (IntKind.u64.wrap (a0 * (2 ^ (min (bits .and .u64 (IntKind.u64.wrap (a1)) 63).toNat 64)))) ((a0).fdiv (2 ^ (min (IntKind.u64.wrap (64 - (bits .and .u64 (IntKind.u64.wrap (a1)) 63))).toNat 64))))
noncomputable def Lsip_rounds_k1 (p20 : (Arr 4)) : Option (Arr 4) :=
 some (p20)
noncomputable def Lsip_rounds_s1 (a1 : Int) : (Int × (Arr 4)) → Option ((Int × (Arr 4)) ⊕ ((Arr 4)))
 | (p19, p20) => (if p19 < a1 then (Lmath_bits_RotateLeft64 ((p20.put 0 (IntKind.u64.wrap ((p20.at 0) + (p20.at 1)))).at 1) 13).bind fun y29 => (Lmath_bits_RotateLeft64 ((((p20.put 0 (IntKind.u64.wrap ((p20.at 0) + (p20.at 1)))).put 1 y29).put 1 (bits .xor .u64 (((p20.put 0 (IntKind.u64.wrap ((p20.at 0) + (p20.at 1)))).put 1 y29).at 1) (((p20.put 0 (IntKind.u64.wrap ((p20.at 0) + (p20.at 1)))).put 1 y29).at 0))).at 0) 32).bind fun y30 => (some (((((p20.put 0 (IntKind.u64.wrap ((p20.at 0) + (p20.at 1)))).put 1 y29).put 1 (bits .xor .u64 (((p20.put 0 (IntKind.u64.wrap ((p20.at 0) + (p20.at 1)))).put 1 y29).at 1) (((p20.put 0 (IntKind.u64.wrap ((p20.at 0) + (p20.at 1)))).put 1 y29).at 0))).put 0 y30).put 2 (IntKind.u64.wrap ((((((p20.put 0 (IntKind.u64.wrap ((p20.at 0) + (p20.at 1)))).put 1 y29).put 1 (bits .xor .u64 (((p20.put 0 (IntKind.u64.wrap ((p20.at 0) + (p20.at 1)))).put 1 y29).at 1) (((p20.put 0 (IntKind.u64.wrap ((p20.at 0) + (p20.at 1)))).put 1 y29).at 0))).put 0 y30).at 2) + (((((p20.put 0 (IntKind.u64.wrap ((p20.at 0) + (p20.at 1)))).put 1 y29).put 1 (bits .xor .u64 (((p20.put 0 (IntKind.u64.wrap ((p20.at 0) + (p20.at 1)))).put 1 y29).at 1) (((p20.put 0 (IntKind.u64.wrap ((p20.at 0) + (p20.at 1)))).put 1 y29).at 0))).put 0 y30).at 3))))).bind fun x31 => (Lmath_bits_RotateLeft64 (x31.at 3) 16).bind fun y32 => (Lmath_bits_RotateLeft64 ((((x31.put 3 y32).put 3 (bits .xor .u64 ((x31.put 3 y32).at 3) ((x31.put 3 y32).at 2))).put 0 (IntKind.u64.wrap ((((x31.put 3 y32).put 3 (bits .xor .u64 ((x31.put 3 y32).at 3) ((x31.put 3 y32).at 2))).at 0) + (((x31.put 3 y32).put 3 (bits .xor .u64 ((x31.put 3 y32).at 3) ((x31.put 3 y32).at 2))).at 3)))).at 3) 21).bind fun y33 => (some (((((x31.put 3 y32).put 3 (bits .xor .u64 ((x31.put 3 y32).at 3) ((x31.put 3 y32).at 2))).put 0 (IntKind.u64.wrap ((((x31.put 3 y32).put 3 (bits .xor .u64 ((x31.put 3 y32).at 3) ((x31.put 3 y32).at 2))).at 0) + (((x31.put 3 y32).put 3 (bits .xor .u64 ((x31.put 3 y32).at 3) ((x31.put 3 y32).at 2))).at 3)))).put 3 y33).put 3 (bits .xor .u64 (((((x31.put 3 y32).put 3 (bits .xor .u64 ((x31.put 3 y32).at 3) ((x31.put 3 y32).at 2))).put 0 (IntKind.u64.wrap ((((x31.put 3 y32).put 3 (bits .xor .u64 ((x31.put 3 y32).at 3) ((x31.put 3 y32).at 2))).at 0) + (((x31.put 3 y32).put 3 (bits .xor .u64 ((x31.put 3 y32).at 3) ((x31.put 3 y32).at 2))).at 3)))).put 3 y33).at 3) (((((x31.put 3 y32).put 3 (bits .xor .u64 ((x31.put 3 y32).at 3) ((x31.put 3 y32).at 2))).put 0 (IntKind.u64.wrap ((((x31.put 3 y32).put 3 (bits .xor .u64 ((x31.put 3 y32).at 3) ((x31.put 3 y32).at 2))).at 0) + (((x31.put 3 y32).put 3 (bits .xor .u64 ((x31.put 3 y32).at 3) ((x31.put 3 y32).at 2))).at 3)))).put 3 y33).at 0)))).bind fun x34 => (Lmath_bits_RotateLeft64 ((x34.put 2 (IntKind.u64.wrap ((x34.at 2) + (x34.at 1)))).at 1) 17).bind fun y35 => (Lmath_bits_RotateLeft64 ((((x34.put 2 (IntKind.u64.wrap ((x34.at 2) + (x34.at 1)))).put 1 y35).put 1 (bits .xor .u64 (((x34.put 2 (IntKind.u64.wrap ((x34.at 2) + (x34.at 1)))).put 1 y35).at 1) (((x34.put 2 (IntKind.u64.wrap ((x34.at 2) + (x34.at 1)))).put 1 y35).at 2))).at 2) 32).bind fun y36 => some (.inl (IntKind.i64.wrap (p19 + 1), (((x34.put 2 (IntKind.u64.wrap ((x34.at 2) + (x34.at 1)))).put 1 y35).put 1 (bits .xor .u64 (((x34.put 2 (IntKind.u64.wrap ((x34.at 2) + (x34.at 1)))).put 1 y35).at 1) (((x34.put 2 (IntKind.u64.wrap ((x34.at 2) + (x34.at 1)))).put 1 y35).at 2))).put 2 y36)) else (Lsip_rounds_k1 p20).map Sum.inr)
noncomputable def Lsip_rounds (a0 : (Arr 4)) (a1 : Int) : Option ((Arr 4)) :=
 runLoop (Lsip_rounds_s1 a1) (0, a0)
noncomputable def Lsip_absorb (a0 : (Arr 4)) (a1 : Int) : Option ((Arr 4)) :=
 (Lsip_rounds (a0.put 3 (bits .xor .u64 (a0.at 3) a1)) 2).bind fun y1 => some (y1.put 0 (bits .xor .u64 (y1.at 0) a1))
noncomputable def Lsip_word_k1 (p7 : Int) : Option Int :=
 some (p7)
noncomputable def Lsip_word_s1 (a0 : (List Int)) : (Int × Int) → Option ((Int × Int) ⊕ (Int))
 | (p7, p8) => (if p8 < (a0.length : Int) then (idx (a0) (p8)).bind fun x11 => (chk (¬ (IntKind.i64.wrap (8 * p8) < 0))).bind fun _ => some (.inl (bits .or .u64 p7 (IntKind.u64.wrap ((IntKind.u64.wrap (x11)) * (2 ^ (min (IntKind.i64.wrap (8 * p8)).toNat 64)))), IntKind.i64.wrap (p8 + 1))) else (Lsip_word_k1 p7).map Sum.inr)
noncomputable def Lsip_word (a0 : (List Int)) : Option (Int) :=
 runLoop (Lsip_word_s1 a0) (0, 0)
noncomputable def Lsip_Sum_k1 (a1 : (List Int)) (p10 : (Arr 4)) : Option Int :=
 (chk (0 ≤ IntKind.i64.wrap (8 * (IntKind.i64.wrap (((a1.length : Int)).tdiv 8))) ∧ IntKind.i64.wrap (8 * (IntKind.i64.wrap (((a1.length : Int)).tdiv 8))) ≤ (a1.length : Int))).bind fun _ => (Lsip_word ((a1).drop ((IntKind.i64.wrap (8 * (IntKind.i64.wrap (((a1.length : Int)).tdiv 8)))).toNat))).bind fun y15 => (Lsip_absorb p10 (bits .or .u64 y15 (IntKind.u64.wrap ((IntKind.u64.wrap (((a1.length : Int)).tmod 256)) * 72057594037927936)))).bind fun y16 => (Lsip_rounds (y16.put 2 (bits .xor .u64 (y16.at 2) 255)) 4).bind fun y17 => some (bits .xor .u64 (bits .xor .u64 (bits .xor .u64 (y17.at 0) (y17.at 1)) (y17.at 2)) (y17.at 3))
noncomputable def Lsip_Sum_s1 (a1 : (List Int)) : (Int × (Arr 4)) → Option ((Int × (Arr 4)) ⊕ (Int))
 | (p9, p10) => (if p9 < IntKind.i64.wrap (((a1.length : Int)).tdiv 8) then (chk (0 ≤ IntKind.i64.wrap (8 * p9) ∧ IntKind.i64.wrap (8 * p9) ≤ IntKind.i64.wrap ((IntKind.i64.wrap (8 * p9)) + 8) ∧ IntKind.i64.wrap ((IntKind.i64.wrap (8 * p9)) + 8) ≤ (a1.length : Int))).bind fun _ => (Lsip_word (((a1).take ((IntKind.i64.wrap ((IntKind.i64.wrap (8 * p9)) + 8)).toNat)).drop ((IntKind.i64.wrap (8 * p9)).toNat))).bind fun y19 => (Lsip_absorb p10 y19).bind fun y20 => some (.inl (IntKind.i64.wrap (p9 + 1), y20)) else (Lsip_Sum_k1 a1 p10).map Sum.inr)
noncomputable def Lsip_Sum (a0 : (Arr 2)) (a1 : (List Int)) : Option (Int) :=
 runLoop (Lsip_Sum_s1 a1) (0, ((((zA 4).put 0 (bits .xor .u64 (a0.at 0) 8317987319222330741)).put 1 (bits .xor .u64 (a0.at 1) 7237128888997146477)).put 2 (bits .xor .u64 (a0.at 0) 7816392313619706465)).put 3 (bits .xor .u64 (a0.at 1) 8387220255154660723))
noncomputable def Lmath_bits_Len32 (a0 : Int) : Option Int :=
 (chk (0 ≤ a0 ∧ a0 ≤ 4294967295)).bind fun _ => some (Lib.bitLen a0.toNat : Int)
noncomputable def Lmath_bits_Len64 (a0 : Int) : Option Int :=
 (chk (0 ≤ a0 ∧ a0 ≤ 18446744073709551615)).bind fun _ => some (Lib.bitLen a0.toNat : Int)
noncomputable def Lmath_bits_Len (a0 : Int) : Option (Int) :=
 (Lmath_bits_Len64 a0).bind fun y1 => some (y1)
noncomputable def Lslices_nextPowerOfTwo (a0 : Int) : Option (Int) :=
 (Lmath_bits_Len (IntKind.u64.wrap (a0))).bind fun y1 => (chk (¬ (y1 < 0))).bind fun _ => some (IntKind.u64.wrap (1 * (2 ^ (min (y1).toNat 64))))
noncomputable def Lslices_xorshift_Next (a0 : Int) : Option (Int × Int) :=
 some ((bits .xor .u64 (bits .xor .u64 (bits .xor .u64 a0 (IntKind.u64.wrap (a0 * 8192))) ((bits .xor .u64 a0 (IntKind.u64.wrap (a0 * 8192))).fdiv 128)) (IntKind.u64.wrap ((bits .xor .u64 (bits .xor .u64 a0 (IntKind.u64.wrap (a0 * 8192))) ((bits .xor .u64 a0 (IntKind.u64.wrap (a0 * 8192))).fdiv 128)) * 131072)), bits .xor .u64 (bits .xor .u64 (bits .xor .u64 a0 (IntKind.u64.wrap (a0 * 8192))) ((bits .xor .u64 a0 (IntKind.u64.wrap (a0 * 8192))).fdiv 128)) (IntKind.u64.wrap ((bits .xor .u64 (bits .xor .u64 a0 (IntKind.u64.wrap (a0 * 8192))) ((bits .xor .u64 a0 (IntKind.u64.wrap (a0 * 8192))).fdiv 128)) * 131072))))
noncomputable def Lslices_order2Ordered_of_uint64 (a0 : (List Int)) (a1 : Int) (a2 : Int) (a3 : Int) : Option (Int × Int × Int) :=
 (idx (a0) (a2)).bind fun x1 => (idx (a0) (a1)).bind fun x2 => (Lcmp_Less_of_uint64 x1 x2).bind fun y3 => (if y3 = true then some ((a2, a1, IntKind.i64.wrap (a3 + 1))) else some ((a1, a2, a3)))
noncomputable def Lslices_medianOrdered_of_uint64 (a0 : (List Int)) (a1 : Int) (a2 : Int) (a3 : Int) (a4 : Int) : Option (Int × Int) :=
 (Lslices_order2Ordered_of_uint64 a0 a1 a2 a4).bind fun y1 => (Lslices_order2Ordered_of_uint64 a0 y1.2.1 a3 y1.2.2).bind fun y2 => (Lslices_order2Ordered_of_uint64 a0 y1.1 y2.1 y2.2.2).bind fun y3 => some ((y3.2.1, y3.2.2))
noncomputable def Lslices_medianAdjacentOrdered_of_uint64 (a0 : (List Int)) (a1 : Int) (a2 : Int) : Option (Int × Int) :=
 (Lslices_medianOrdered_of_uint64 a0 (IntKind.i64.wrap (a1 - 1)) a1 (IntKind.i64.wrap (a1 + 1)) a2).bind fun y1 => some ((y1.1, y1.2))
noncomputable def Lslices_choosePivotOrdered_of_uint64_k1 (p9 : Int) (p10 : Int) : Option (Int × Int) :=
 (if p10 = 0 then some ((p9, 1)) else (if p10 = 12 then some ((p9, 2)) else some ((p9, 0))))
noncomputable def Lslices_choosePivotOrdered_of_uint64_k2 (a0 : (List Int)) (p14 : Int) (p15 : Int) (p16 : Int) (p17 : Int) : Option (Int × Int) :=
 (Lslices_medianOrdered_of_uint64 a0 p14 p15 p16 p17).bind fun y18 => Lslices_choosePivotOrdered_of_uint64_k1 y18.1 y18.2
noncomputable def Lslices_choosePivotOrdered_of_uint64 (a0 : (List Int)) (a1 : Int) (a2 : Int) : Option (Int × Int) :=
 (if 8 ≤ IntKind.i64.wrap (a2 - a1) then (if 50 ≤ IntKind.i64.wrap (a2 - a1) then (Lslices_medianAdjacentOrdered_of_uint64 a0 (IntKind.i64.wrap (a1 + (IntKind.i64.wrap (IntKind.i64.wrap ((IntKind.i64.wrap (a2 - a1)).tdiv 4))))) 0).bind fun y19 => (Lslices_medianAdjacentOrdered_of_uint64 a0 (IntKind.i64.wrap (a1 + (IntKind.i64.wrap ((IntKind.i64.wrap ((IntKind.i64.wrap (a2 - a1)).tdiv 4)) * 2)))) y19.2).bind fun y20 => (Lslices_medianAdjacentOrdered_of_uint64 a0 (IntKind.i64.wrap (a1 + (IntKind.i64.wrap ((IntKind.i64.wrap ((IntKind.i64.wrap (a2 - a1)).tdiv 4)) * 3)))) y20.2).bind fun y21 => Lslices_choosePivotOrdered_of_uint64_k2 a0 y19.1 y20.1 y21.1 y21.2 else Lslices_choosePivotOrdered_of_uint64_k2 a0 (IntKind.i64.wrap (a1 + (IntKind.i64.wrap (IntKind.i64.wrap ((IntKind.i64.wrap (a2 - a1)).tdiv 4))))) (IntKind.i64.wrap (a1 + (IntKind.i64.wrap ((IntKind.i64.wrap ((IntKind.i64.wrap (a2 - a1)).tdiv 4)) * 2)))) (IntKind.i64.wrap (a1 + (IntKind.i64.wrap ((IntKind.i64.wrap ((IntKind.i64.wrap (a2 - a1)).tdiv 4)) * 3)))) 0) else Lslices_choosePivotOrdered_of_uint64_k1 (IntKind.i64.wrap (a1 + (IntKind.i64.wrap ((IntKind.i64.wrap ((IntKind.i64.wrap (a2 - a1)).tdiv 4)) * 2)))) 0)
noncomputable def Lslices_insertionSortOrdered_of_uint64_k1 (p77 : Int) (p104 : (List Int)) : Option ((Int × (List Int)) ⊕ ((List Int))) :=
 some (.inl (IntKind.i64.wrap (p77 + 1), p104))
noncomputable def Lslices_insertionSortOrdered_of_uint64_s2 (a1 : Int) (p77 : Int) : (Int × (List Int)) → Option ((Int × (List Int)) ⊕ ((Int × (List Int)) ⊕ ((List Int))))
 | (p103, p104) => ((if a1 < p103 then (inA (p104.length) (p103)).bind fun j116 => ((p104)[j116]?).bind fun x117 => (inA (p104.length) (IntKind.i64.wrap (p103 - 1))).bind fun j118 => ((p104)[j118]?).bind fun x119 => (Lcmp_Less_of_uint64 x117 x119).bind fun y120 => some (y120) else some (false))).bind fun z121 => (if (a1 < p103 ∧ z121 = true) then (inA (p104.length) (IntKind.i64.wrap (p103 - 1))).bind fun j122 => ((p104)[j122]?).bind fun x123 => (inA (p104.length) (p103)).bind fun j124 => ((p104)[j124]?).bind fun x125 => (inA (((p104).set j124 x123).length) (IntKind.i64.wrap (p103 - 1))).bind fun j126 => some (.inl (IntKind.i64.wrap (p103 - 1), ((p104).set j124 x123).set j126 x125)) else (Lslices_insertionSortOrdered_of_uint64_k1 p77 p104).map Sum.inr)
noncomputable def Lslices_insertionSortOrdered_of_uint64_s1 (a2 : Int) (a1 : Int) (a0 : (List Int)) : (Int × (List Int)) → Option ((Int × (List Int)) ⊕ ((List Int)))
 | (p77, p78) => (if p77 < a2 then runLoop (Lslices_insertionSortOrdered_of_uint64_s2 a1 p77) (p77, p78) else (chk (p78.length = a0.length)).bind fun _ => some (.inr (p78)))
noncomputable def Lslices_insertionSortOrdered_of_uint64 (a0 : (List Int)) (a1 : Int) (a2 : Int) : Option ((List Int)) :=
 runLoop (Lslices_insertionSortOrdered_of_uint64_s1 a2 a1 a0) (IntKind.i64.wrap (a1 + 1), a0)
noncomputable def Lslices_siftDownOrdered_of_uint64_k1 (p30 : (List Int)) (a3 : Int) (p29 : Int) (a0 : (List Int)) (p37 : Int) : Option ((Int × (List Int)) ⊕ ((List Int))) :=
 (inA (p30.length) (IntKind.i64.wrap (a3 + p29))).bind fun j38 => ((p30)[j38]?).bind fun x39 => (inA (p30.length) (IntKind.i64.wrap (a3 + p37))).bind fun j40 => ((p30)[j40]?).bind fun x41 => (Lcmp_Less_of_uint64 x39 x41).bind fun y42 => (if ¬ (y42 = true) then (chk (p30.length = a0.length)).bind fun _ => some (.inr (p30)) else (inA (((p30).set j38 x41).length) (IntKind.i64.wrap (a3 + p37))).bind fun j43 => some (.inl (p37, ((p30).set j38 x41).set j43 x39)))
noncomputable def Lslices_siftDownOrdered_of_uint64_s1 (a2 : Int) (a0 : (List Int)) (a3 : Int) : (Int × (List Int)) → Option ((Int × (List Int)) ⊕ ((List Int)))
 | (p29, p30) => (if a2 ≤ IntKind.i64.wrap ((IntKind.i64.wrap (2 * p29)) + 1) then (chk (p30.length = a0.length)).bind fun _ => some (.inr (p30)) else ((if IntKind.i64.wrap ((IntKind.i64.wrap ((IntKind.i64.wrap (2 * p29)) + 1)) + 1) < a2 then (inA (p30.length) (IntKind.i64.wrap (a3 + (IntKind.i64.wrap ((IntKind.i64.wrap (2 * p29)) + 1))))).bind fun j31 => ((p30)[j31]?).bind fun x32 => (inA (p30.length) (IntKind.i64.wrap ((IntKind.i64.wrap (a3 + (IntKind.i64.wrap ((IntKind.i64.wrap (2 * p29)) + 1)))) + 1))).bind fun j33 => ((p30)[j33]?).bind fun x34 => (Lcmp_Less_of_uint64 x32 x34).bind fun y35 => some (y35) else some (false))).bind fun z36 => (if (IntKind.i64.wrap ((IntKind.i64.wrap ((IntKind.i64.wrap (2 * p29)) + 1)) + 1) < a2 ∧ z36 = true) then Lslices_siftDownOrdered_of_uint64_k1 p30 a3 p29 a0 (IntKind.i64.wrap ((IntKind.i64.wrap ((IntKind.i64.wrap (2 * p29)) + 1)) + 1)) else Lslices_siftDownOrdered_of_uint64_k1 p30 a3 p29 a0 (IntKind.i64.wrap ((IntKind.i64.wrap (2 * p29)) + 1))))
noncomputable def Lslices_siftDownOrdered_of_uint64 (a0 : (List Int)) (a1 : Int) (a2 : Int) (a3 : Int) : Option ((List Int)) :=
 runLoop (Lslices_siftDownOrdered_of_uint64_s1 a2 a0 a3) (a1, a0)
noncomputable def Lslices_heapSortOrdered_of_uint64_s2 (a1 : Int) (a0 : (List Int)) : (Int × (List Int)) → Option ((Int × (List Int)) ⊕ ((List Int)))
 | (p27, p28) => (if 0 ≤ p27 then (inA (p28.length) (IntKind.i64.wrap (a1 + p27))).bind fun j29 => ((p28)[j29]?).bind fun x30 => (inA (p28.length) (a1)).bind fun j31 => ((p28)[j31]?).bind fun x32 => (inA (((p28).set j31 x30).length) (IntKind.i64.wrap (a1 + p27))).bind fun j33 => (Lslices_siftDownOrdered_of_uint64 (((p28).set j31 x30).set j33 x32) 0 p27 a1).bind fun y34 => (chk (y34.length = (((p28).set j31 x30).set j33 x32).length)).bind fun _ => some (.inl (IntKind.i64.wrap (p27 - 1), y34)) else (chk (p28.length = a0.length)).bind fun _ => some (.inr (p28)))
noncomputable def Lslices_heapSortOrdered_of_uint64_k1 (a1 : Int) (a0 : (List Int)) (a2 : Int) (p8 : (List Int)) : Option (List Int) :=
 runLoop (Lslices_heapSortOrdered_of_uint64_s2 a1 a0) (IntKind.i64.wrap ((IntKind.i64.wrap (a2 - a1)) - 1), p8)
noncomputable def Lslices_heapSortOrdered_of_uint64_s1 (a2 : Int) (a1 : Int) (a0 : (List Int)) : (Int × (List Int)) → Option ((Int × (List Int)) ⊕ ((List Int)))
 | (p7, p8) => (if 0 ≤ p7 then (Lslices_siftDownOrdered_of_uint64 p8 p7 (IntKind.i64.wrap (a2 - a1)) a1).bind fun y36 => (chk (y36.length = p8.length)).bind fun _ => some (.inl (IntKind.i64.wrap (p7 - 1), y36)) else (Lslices_heapSortOrdered_of_uint64_k1 a1 a0 a2 p8).map Sum.inr)
noncomputable def Lslices_heapSortOrdered_of_uint64 (a0 : (List Int)) (a1 : Int) (a2 : Int) : Option ((List Int)) :=
 runLoop (Lslices_heapSortOrdered_of_uint64_s1 a2 a1 a0) (IntKind.i64.wrap ((IntKind.i64.wrap ((IntKind.i64.wrap (a2 - a1)) - 1)).tdiv 2), a0)
noncomputable def Lslices_reverseRangeOrdered_of_uint64_s1 (a0 : (List Int)) : (Int × Int × (List Int)) → Option ((Int × Int × (List Int)) ⊕ ((List Int)))
 | (p14, p15, p16) => (if p14 < p15 then (inA (p16.length) (p15)).bind fun j17 => ((p16)[j17]?).bind fun x18 => (inA (p16.length) (p14)).bind fun j19 => ((p16)[j19]?).bind fun x20 => (inA (((p16).set j19 x18).length) (p15)).bind fun j21 => some (.inl (IntKind.i64.wrap (p14 + 1), IntKind.i64.wrap (p15 - 1), ((p16).set j19 x18).set j21 x20)) else (chk (p16.length = a0.length)).bind fun _ => some (.inr (p16)))
noncomputable def Lslices_reverseRangeOrdered_of_uint64 (a0 : (List Int)) (a1 : Int) (a2 : Int) : Option ((List Int)) :=
 runLoop (Lslices_reverseRangeOrdered_of_uint64_s1 a0) (a1, IntKind.i64.wrap (a2 - 1), a0)
noncomputable def Lslices_partialInsertionSortOrdered_of_uint64_k1 (p148 : (List Int)) (a0 : (List Int)) : Option (Bool × (List Int)) :=
 (chk (p148.length = a0.length)).bind fun _ => some ((false, p148))
noncomputable def Lslices_partialInsertionSortOrdered_of_uint64_k4 (p233 : Int) (p147 : Int) (p290 : (List Int)) : Option ((Int × Int × (List Int)) ⊕ (Bool × (List Int))) :=
 some (.inl (p233, IntKind.i64.wrap (p147 + 1), p290))
noncomputable def Lslices_partialInsertionSortOrdered_of_uint64_s3 (a2 : Int) (p233 : Int) (p147 : Int) : (Int × (List Int)) → Option ((Int × (List Int)) ⊕ ((Int × Int × (List Int)) ⊕ (Bool × (List Int))))
 | (p305, p306) => (if p305 < a2 then (inA (p306.length) (p305)).bind fun j307 => ((p306)[j307]?).bind fun x308 => (inA (p306.length) (IntKind.i64.wrap (p305 - 1))).bind fun j309 => ((p306)[j309]?).bind fun x310 => (Lcmp_Less_of_uint64 x308 x310).bind fun y311 => (if ¬ (y311 = true) then (Lslices_partialInsertionSortOrdered_of_uint64_k4 p233 p147 p306).map Sum.inr else (inA (((p306).set j307 x310).length) (IntKind.i64.wrap (p305 - 1))).bind fun j312 => some (.inl (IntKind.i64.wrap (p305 + 1), ((p306).set j307 x310).set j312 x308))) else (Lslices_partialInsertionSortOrdered_of_uint64_k4 p233 p147 p306).map Sum.inr)
noncomputable def Lslices_partialInsertionSortOrdered_of_uint64_k3 (a2 : Int) (p233 : Int) (p147 : Int) (p267 : (List Int)) : Option ((Int × Int × (List Int)) ⊕ (Bool × (List Int))) :=
 (if 2 ≤ IntKind.i64.wrap (a2 - p233) then runLoop (Lslices_partialInsertionSortOrdered_of_uint64_s3 a2 p233 p147) (IntKind.i64.wrap (p233 + 1), p267) else Lslices_partialInsertionSortOrdered_of_uint64_k4 p233 p147 p267)
noncomputable def Lslices_partialInsertionSortOrdered_of_uint64_s4 (a2 : Int) (p233 : Int) (p147 : Int) : (Int × (List Int)) → Option ((Int × (List Int)) ⊕ ((Int × Int × (List Int)) ⊕ (Bool × (List Int))))
 | (p327, p328) => (if 1 ≤ p327 then (inA (p328.length) (p327)).bind fun j329 => ((p328)[j329]?).bind fun x330 => (inA (p328.length) (IntKind.i64.wrap (p327 - 1))).bind fun j331 => ((p328)[j331]?).bind fun x332 => (Lcmp_Less_of_uint64 x330 x332).bind fun y333 => (if ¬ (y333 = true) then (Lslices_partialInsertionSortOrdered_of_uint64_k3 a2 p233 p147 p328).map Sum.inr else (inA (((p328).set j329 x332).length) (IntKind.i64.wrap (p327 - 1))).bind fun j334 => some (.inl (IntKind.i64.wrap (p327 - 1), ((p328).set j329 x332).set j334 x330))) else (Lslices_partialInsertionSortOrdered_of_uint64_k3 a2 p233 p147 p328).map Sum.inr)
noncomputable def Lslices_partialInsertionSortOrdered_of_uint64_k2 (p233 : Int) (a2 : Int) (p148 : (List Int)) (a0 : (List Int)) (a1 : Int) (p147 : Int) : Option ((Int × Int × (List Int)) ⊕ (Bool × (List Int))) :=
 (if p233 = a2 then (chk (p148.length = a0.length)).bind fun _ => some (.inr ((true, p148))) else (if IntKind.i64.wrap (a2 - a1) < 50 then (chk (p148.length = a0.length)).bind fun _ => some (.inr ((false, p148))) else (inA (p148.length) (IntKind.i64.wrap (p233 - 1))).bind fun j240 => ((p148)[j240]?).bind fun x241 => (inA (p148.length) (p233)).bind fun j242 => ((p148)[j242]?).bind fun x243 => (inA (((p148).set j242 x241).length) (IntKind.i64.wrap (p233 - 1))).bind fun j244 => (if 2 ≤ IntKind.i64.wrap (p233 - a1) then runLoop (Lslices_partialInsertionSortOrdered_of_uint64_s4 a2 p233 p147) (IntKind.i64.wrap (p233 - 1), ((p148).set j242 x241).set j244 x243) else Lslices_partialInsertionSortOrdered_of_uint64_k3 a2 p233 p147 (((p148).set j242 x241).set j244 x243))))
noncomputable def Lslices_partialInsertionSortOrdered_of_uint64_s2 (a2 : Int) (p148 : (List Int)) (a0 : (List Int)) (a1 : Int) (p147 : Int) : Int → Option ((Int) ⊕ ((Int × Int × (List Int)) ⊕ (Bool × (List Int))))
 | p233 => ((if p233 < a2 then (inA (p148.length) (p233)).bind fun j335 => ((p148)[j335]?).bind fun x336 => (inA (p148.length) (IntKind.i64.wrap (p233 - 1))).bind fun j337 => ((p148)[j337]?).bind fun x338 => (Lcmp_Less_of_uint64 x336 x338).bind fun y339 => some (!(y339)) else some (false))).bind fun z340 => (if (p233 < a2 ∧ z340 = true) then some (.inl (IntKind.i64.wrap (p233 + 1))) else (Lslices_partialInsertionSortOrdered_of_uint64_k2 p233 a2 p148 a0 a1 p147).map Sum.inr)
noncomputable def Lslices_partialInsertionSortOrdered_of_uint64_s1 (a2 : Int) (a0 : (List Int)) (a1 : Int) : (Int × Int × (List Int)) → Option ((Int × Int × (List Int)) ⊕ (Bool × (List Int)))
 | (p146, p147, p148) => (if p147 < 5 then runLoop (Lslices_partialInsertionSortOrdered_of_uint64_s2 a2 p148 a0 a1 p147) p146 else (Lslices_partialInsertionSortOrdered_of_uint64_k1 p148 a0).map Sum.inr)
noncomputable def Lslices_partialInsertionSortOrdered_of_uint64 (a0 : (List Int)) (a1 : Int) (a2 : Int) : Option (Bool × (List Int)) :=
 runLoop (Lslices_partialInsertionSortOrdered_of_uint64_s1 a2 a0 a1) (IntKind.i64.wrap (a1 + 1), 0, a0)
noncomputable def Lslices_partitionEqualOrdered_of_uint64_k1 (p101 : (List Int)) (a0 : (List Int)) (p147 : Int) : Option (Int × (List Int)) :=
 (chk (p101.length = a0.length)).bind fun _ => some ((p147, p101))
noncomputable def Lslices_partitionEqualOrdered_of_uint64_k3 (p181 : Int) (p161 : Int) (p101 : (List Int)) (a0 : (List Int)) : Option ((Int × Int × (List Int)) ⊕ (Int × (List Int))) :=
 (if p181 < p161 then (Lslices_partitionEqualOrdered_of_uint64_k1 p101 a0 p161).map Sum.inr else (inA (p101.length) (p181)).bind fun j188 => ((p101)[j188]?).bind fun x189 => (inA (p101.length) (p161)).bind fun j190 => ((p101)[j190]?).bind fun x191 => (inA (((p101).set j190 x189).length) (p181)).bind fun j192 => some (.inl (IntKind.i64.wrap (p161 + 1), IntKind.i64.wrap (p181 - 1), ((p101).set j190 x189).set j192 x191)))
noncomputable def Lslices_partitionEqualOrdered_of_uint64_s3 (p161 : Int) (p101 : (List Int)) (a1 : Int) (a0 : (List Int)) : Int → Option ((Int) ⊕ ((Int × Int × (List Int)) ⊕ (Int × (List Int))))
 | p181 => ((if p161 ≤ p181 then (inA (p101.length) (a1)).bind fun j193 => ((p101)[j193]?).bind fun x194 => (inA (p101.length) (p181)).bind fun j195 => ((p101)[j195]?).bind fun x196 => (Lcmp_Less_of_uint64 x194 x196).bind fun y197 => some (y197) else some (false))).bind fun z198 => (if (p161 ≤ p181 ∧ z198 = true) then some (.inl (IntKind.i64.wrap (p181 - 1))) else (Lslices_partitionEqualOrdered_of_uint64_k3 p181 p161 p101 a0).map Sum.inr)
noncomputable def Lslices_partitionEqualOrdered_of_uint64_k2 (p161 : Int) (p101 : (List Int)) (a1 : Int) (a0 : (List Int)) (p100 : Int) : Option ((Int × Int × (List Int)) ⊕ (Int × (List Int))) :=
 runLoop (Lslices_partitionEqualOrdered_of_uint64_s3 p161 p101 a1 a0) p100
noncomputable def Lslices_partitionEqualOrdered_of_uint64_s2 (p100 : Int) (p101 : (List Int)) (a1 : Int) (a0 : (List Int)) : Int → Option ((Int) ⊕ ((Int × Int × (List Int)) ⊕ (Int × (List Int))))
 | p161 => ((if p161 ≤ p100 then (inA (p101.length) (a1)).bind fun j199 => ((p101)[j199]?).bind fun x200 => (inA (p101.length) (p161)).bind fun j201 => ((p101)[j201]?).bind fun x202 => (Lcmp_Less_of_uint64 x200 x202).bind fun y203 => some (!(y203)) else some (false))).bind fun z204 => (if (p161 ≤ p100 ∧ z204 = true) then some (.inl (IntKind.i64.wrap (p161 + 1))) else (Lslices_partitionEqualOrdered_of_uint64_k2 p161 p101 a1 a0 p100).map Sum.inr)
noncomputable def Lslices_partitionEqualOrdered_of_uint64_s1 (a1 : Int) (a0 : (List Int)) : (Int × Int × (List Int)) → Option ((Int × Int × (List Int)) ⊕ (Int × (List Int)))
 | (p99, p100, p101) => runLoop (Lslices_partitionEqualOrdered_of_uint64_s2 p100 p101 a1 a0) p99
noncomputable def Lslices_partitionEqualOrdered_of_uint64 (a0 : (List Int)) (a1 : Int) (a2 : Int) (a3 : Int) : Option (Int × (List Int)) :=
 (inA (a0.length) (a3)).bind fun j1 => ((a0)[j1]?).bind fun x2 => (inA (a0.length) (a1)).bind fun j3 => ((a0)[j3]?).bind fun x4 => (inA (((a0).set j3 x2).length) (a3)).bind fun j5 => runLoop (Lslices_partitionEqualOrdered_of_uint64_s1 a1 a0) (IntKind.i64.wrap (a1 + 1), IntKind.i64.wrap (a2 - 1), ((a0).set j3 x2).set j5 x4)
noncomputable def Lslices_partitionOrdered_of_uint64_k3 (p151 : (List Int)) (a1 : Int) (a0 : (List Int)) (p197 : Int) : Option (Int × Bool × (List Int)) :=
 (inA (p151.length) (a1)).bind fun j198 => ((p151)[j198]?).bind fun x199 => (inA (p151.length) (p197)).bind fun j200 => ((p151)[j200]?).bind fun x201 => (inA (((p151).set j200 x199).length) (a1)).bind fun j202 => (chk ((((p151).set j200 x199).set j202 x201).length = a0.length)).bind fun _ => some ((p197, false, ((p151).set j200 x199).set j202 x201))
noncomputable def Lslices_partitionOrdered_of_uint64_k5 (p236 : Int) (p216 : Int) (p151 : (List Int)) (a1 : Int) (a0 : (List Int)) : Option ((Int × Int × (List Int)) ⊕ (Int × Bool × (List Int))) :=
 (if p236 < p216 then (Lslices_partitionOrdered_of_uint64_k3 p151 a1 a0 p236).map Sum.inr else (inA (p151.length) (p236)).bind fun j243 => ((p151)[j243]?).bind fun x244 => (inA (p151.length) (p216)).bind fun j245 => ((p151)[j245]?).bind fun x246 => (inA (((p151).set j245 x244).length) (p236)).bind fun j247 => some (.inl (IntKind.i64.wrap (p216 + 1), IntKind.i64.wrap (p236 - 1), ((p151).set j245 x244).set j247 x246)))
noncomputable def Lslices_partitionOrdered_of_uint64_s5 (p216 : Int) (p151 : (List Int)) (a1 : Int) (a0 : (List Int)) : Int → Option ((Int) ⊕ ((Int × Int × (List Int)) ⊕ (Int × Bool × (List Int))))
 | p236 => ((if p216 ≤ p236 then (inA (p151.length) (p236)).bind fun j248 => ((p151)[j248]?).bind fun x249 => (inA (p151.length) (a1)).bind fun j250 => ((p151)[j250]?).bind fun x251 => (Lcmp_Less_of_uint64 x249 x251).bind fun y252 => some (!(y252)) else some (false))).bind fun z253 => (if (p216 ≤ p236 ∧ z253 = true) then some (.inl (IntKind.i64.wrap (p236 - 1))) else (Lslices_partitionOrdered_of_uint64_k5 p236 p216 p151 a1 a0).map Sum.inr)
noncomputable def Lslices_partitionOrdered_of_uint64_k4 (p216 : Int) (p151 : (List Int)) (a1 : Int) (a0 : (List Int)) (p150 : Int) : Option ((Int × Int × (List Int)) ⊕ (Int × Bool × (List Int))) :=
 runLoop (Lslices_partitionOrdered_of_uint64_s5 p216 p151 a1 a0) p150
noncomputable def Lslices_partitionOrdered_of_uint64_s4 (p150 : Int) (p151 : (List Int)) (a1 : Int) (a0 : (List Int)) : Int → Option ((Int) ⊕ ((Int × Int × (List Int)) ⊕ (Int × Bool × (List Int))))
 | p216 => ((if p216 ≤ p150 then (inA (p151.length) (p216)).bind fun j254 => ((p151)[j254]?).bind fun x255 => (inA (p151.length) (a1)).bind fun j256 => ((p151)[j256]?).bind fun x257 => (Lcmp_Less_of_uint64 x255 x257).bind fun y258 => some (y258) else some (false))).bind fun z259 => (if (p216 ≤ p150 ∧ z259 = true) then some (.inl (IntKind.i64.wrap (p216 + 1))) else (Lslices_partitionOrdered_of_uint64_k4 p216 p151 a1 a0 p150).map Sum.inr)
noncomputable def Lslices_partitionOrdered_of_uint64_s3 (a1 : Int) (a0 : (List Int)) : (Int × Int × (List Int)) → Option ((Int × Int × (List Int)) ⊕ (Int × Bool × (List Int)))
 | (p149, p150, p151) => runLoop (Lslices_partitionOrdered_of_uint64_s4 p150 p151 a1 a0) p149
noncomputable def Lslices_partitionOrdered_of_uint64_k2 (p39 : Int) (p19 : Int) (a0 : (List Int)) (j3 : Nat) (x2 : Int) (j5 : Nat) (x4 : Int) (a1 : Int) : Option (Int × Bool × (List Int)) :=
 (if p39 < p19 then (inA ((((a0).set j3 x2).set j5 x4).length) (a1)).bind fun j46 => ((((a0).set j3 x2).set j5 x4)[j46]?).bind fun x47 => (inA ((((a0).set j3 x2).set j5 x4).length) (p39)).bind fun j48 => ((((a0).set j3 x2).set j5 x4)[j48]?).bind fun x49 => (inA (((((a0).set j3 x2).set j5 x4).set j48 x47).length) (a1)).bind fun j50 => (chk ((((((a0).set j3 x2).set j5 x4).set j48 x47).set j50 x49).length = a0.length)).bind fun _ => some ((p39, true, ((((a0).set j3 x2).set j5 x4).set j48 x47).set j50 x49)) else (inA ((((a0).set j3 x2).set j5 x4).length) (p39)).bind fun j51 => ((((a0).set j3 x2).set j5 x4)[j51]?).bind fun x52 => (inA ((((a0).set j3 x2).set j5 x4).length) (p19)).bind fun j53 => ((((a0).set j3 x2).set j5 x4)[j53]?).bind fun x54 => (inA (((((a0).set j3 x2).set j5 x4).set j53 x52).length) (p39)).bind fun j55 => runLoop (Lslices_partitionOrdered_of_uint64_s3 a1 a0) (IntKind.i64.wrap (p19 + 1), IntKind.i64.wrap (p39 - 1), ((((a0).set j3 x2).set j5 x4).set j53 x52).set j55 x54))
noncomputable def Lslices_partitionOrdered_of_uint64_s2 (p19 : Int) (a0 : (List Int)) (j3 : Nat) (x2 : Int) (j5 : Nat) (x4 : Int) (a1 : Int) : Int → Option ((Int) ⊕ (Int × Bool × (List Int)))
 | p39 => ((if p19 ≤ p39 then (inA ((((a0).set j3 x2).set j5 x4).length) (p39)).bind fun j260 => ((((a0).set j3 x2).set j5 x4)[j260]?).bind fun x261 => (inA ((((a0).set j3 x2).set j5 x4).length) (a1)).bind fun j262 => ((((a0).set j3 x2).set j5 x4)[j262]?).bind fun x263 => (Lcmp_Less_of_uint64 x261 x263).bind fun y264 => some (!(y264)) else some (false))).bind fun z265 => (if (p19 ≤ p39 ∧ z265 = true) then some (.inl (IntKind.i64.wrap (p39 - 1))) else (Lslices_partitionOrdered_of_uint64_k2 p39 p19 a0 j3 x2 j5 x4 a1).map Sum.inr)
noncomputable def Lslices_partitionOrdered_of_uint64_k1 (p19 : Int) (a0 : (List Int)) (j3 : Nat) (x2 : Int) (j5 : Nat) (x4 : Int) (a1 : Int) (a2 : Int) : Option (Int × Bool × (List Int)) :=
 runLoop (Lslices_partitionOrdered_of_uint64_s2 p19 a0 j3 x2 j5 x4 a1) (IntKind.i64.wrap (a2 - 1))
noncomputable def Lslices_partitionOrdered_of_uint64_s1 (a2 : Int) (a0 : (List Int)) (j3 : Nat) (x2 : Int) (j5 : Nat) (x4 : Int) (a1 : Int) : Int → Option ((Int) ⊕ (Int × Bool × (List Int)))
 | p19 => ((if p19 ≤ IntKind.i64.wrap (a2 - 1) then (inA ((((a0).set j3 x2).set j5 x4).length) (p19)).bind fun j266 => ((((a0).set j3 x2).set j5 x4)[j266]?).bind fun x267 => (inA ((((a0).set j3 x2).set j5 x4).length) (a1)).bind fun j268 => ((((a0).set j3 x2).set j5 x4)[j268]?).bind fun x269 => (Lcmp_Less_of_uint64 x267 x269).bind fun y270 => some (y270) else some (false))).bind fun z271 => (if (p19 ≤ IntKind.i64.wrap (a2 - 1) ∧ z271 = true) then some (.inl (IntKind.i64.wrap (p19 + 1))) else (Lslices_partitionOrdered_of_uint64_k1 p19 a0 j3 x2 j5 x4 a1 a2).map Sum.inr)
noncomputable def Lslices_partitionOrdered_of_uint64 (a0 : (List Int)) (a1 : Int) (a2 : Int) (a3 : Int) : Option (Int × Bool × (List Int)) :=
 (inA (a0.length) (a3)).bind fun j1 => ((a0)[j1]?).bind fun x2 => (inA (a0.length) (a1)).bind fun j3 => ((a0)[j3]?).bind fun x4 => (inA (((a0).set j3 x2).length) (a3)).bind fun j5 => runLoop (Lslices_partitionOrdered_of_uint64_s1 a2 a0 j3 x2 j5 x4 a1) (IntKind.i64.wrap (a1 + 1))
noncomputable def Lslices_breakPatternsOrdered_of_uint64_k1 (p20 : (List Int)) (a1 : Int) (p19 : Int) (y22 : (Int × Int)) (p23 : Int) : Option ((Int × (List Int) × Int) ⊕ ((List Int))) :=
 (inA (p20.length) (IntKind.i64.wrap (a1 + p23))).bind fun j24 => ((p20)[j24]?).bind fun x25 => (inA (p20.length) (p19)).bind fun j26 => ((p20)[j26]?).bind fun x27 => (inA (((p20).set j26 x25).length) (IntKind.i64.wrap (a1 + p23))).bind fun j28 => some (.inl (IntKind.i64.wrap (p19 + 1), ((p20).set j26 x25).set j28 x27, y22.2))
noncomputable def Lslices_breakPatternsOrdered_of_uint64_s1 (a1 : Int) (a2 : Int) (y1 : (Int)) (a0 : (List Int)) : (Int × (List Int) × Int) → Option ((Int × (List Int) × Int) ⊕ ((List Int)))
 | (p19, p20, p21) => (if p19 ≤ IntKind.i64.wrap ((IntKind.i64.wrap (a1 + (IntKind.i64.wrap ((IntKind.i64.wrap ((IntKind.i64.wrap (a2 - a1)).tdiv 4)) * 2)))) + 1) then (Lslices_xorshift_Next p21).bind fun y22 => (if IntKind.i64.wrap (a2 - a1) ≤ IntKind.i64.wrap (bits .and .u64 y22.1 (IntKind.u64.wrap (y1 - 1))) then Lslices_breakPatternsOrdered_of_uint64_k1 p20 a1 p19 y22 (IntKind.i64.wrap ((IntKind.i64.wrap (bits .and .u64 y22.1 (IntKind.u64.wrap (y1 - 1)))) - (IntKind.i64.wrap (a2 - a1)))) else Lslices_breakPatternsOrdered_of_uint64_k1 p20 a1 p19 y22 (IntKind.i64.wrap (bits .and .u64 y22.1 (IntKind.u64.wrap (y1 - 1))))) else (chk (p20.length = a0.length)).bind fun _ => some (.inr (p20)))
noncomputable def Lslices_breakPatternsOrdered_of_uint64 (a0 : (List Int)) (a1 : Int) (a2 : Int) : Option ((List Int)) :=
 (if 8 ≤ IntKind.i64.wrap (a2 - a1) then (Lslices_nextPowerOfTwo (IntKind.i64.wrap (a2 - a1))).bind fun y1 => runLoop (Lslices_breakPatternsOrdered_of_uint64_s1 a1 a2 y1 a0) (IntKind.i64.wrap ((IntKind.i64.wrap (a1 + (IntKind.i64.wrap ((IntKind.i64.wrap ((IntKind.i64.wrap (a2 - a1)).tdiv 4)) * 2)))) - 1), a0, IntKind.u64.wrap (IntKind.i64.wrap (a2 - a1))) else some (a0))
noncomputable def Lslices_pdqsortOrdered_of_uint64_k3 (p101 : Int) (p118 : Int) (p102 : Int) (p113 : Int) (p104 : Bool) (p105 : Bool) (rf : (List Int) → Int → Int → Int → Option ((List Int))) (p123 : (List Int)) : Option ((Int × Int × Int × Bool × Bool × (List Int)) ⊕ ((List Int))) :=
 ((if 0 < p101 then (inA (p123.length) (IntKind.i64.wrap (p101 - 1))).bind fun j124 => ((p123)[j124]?).bind fun x125 => (inA (p123.length) (p118)).bind fun j126 => ((p123)[j126]?).bind fun x127 => (Lcmp_Less_of_uint64 x125 x127).bind fun y128 => some (!(y128)) else some (false))).bind fun z129 => (if (0 < p101 ∧ z129 = true) then (Lslices_partitionEqualOrdered_of_uint64 p123 p101 p102 p118).bind fun y130 => (chk (y130.2.length = p123.length)).bind fun _ => some (.inl (y130.1, p102, p113, p104, p105, y130.2)) else (Lslices_partitionOrdered_of_uint64 p123 p101 p102 p118).bind fun y132 => (chk (y132.2.2.length = p123.length)).bind fun _ => (if IntKind.i64.wrap (y132.1 - p101) < IntKind.i64.wrap (p102 - y132.1) then (rf y132.2.2 p101 y132.1 p113).bind fun y134 => (chk (y134.length = y132.2.2.length)).bind fun _ => some (.inl (IntKind.i64.wrap (y132.1 + 1), p102, p113, decide (IntKind.i64.wrap ((IntKind.i64.wrap (p102 - p101)).tdiv 8) ≤ IntKind.i64.wrap (y132.1 - p101)), y132.2.1, y134)) else (rf y132.2.2 (IntKind.i64.wrap (y132.1 + 1)) p102 p113).bind fun y136 => (chk (y136.length = y132.2.2.length)).bind fun _ => some (.inl (p101, y132.1, p113, decide (IntKind.i64.wrap ((IntKind.i64.wrap (p102 - p101)).tdiv 8) ≤ IntKind.i64.wrap (p102 - y132.1)), y132.2.1, y136))))
noncomputable def Lslices_pdqsortOrdered_of_uint64_k2 (p104 : Bool) (p105 : Bool) (p101 : Int) (p102 : Int) (a0 : (List Int)) (p113 : Int) (rf : (List Int) → Int → Int → Int → Option ((List Int))) (p118 : Int) (p119 : Int) (p120 : (List Int)) : Option ((Int × Int × Int × Bool × Bool × (List Int)) ⊕ ((List Int))) :=
 (if ((p104 = true ∧ p105 = true) ∧ p119 = 1) then (Lslices_partialInsertionSortOrdered_of_uint64 p120 p101 p102).bind fun y138 => (chk (y138.2.length = p120.length)).bind fun _ => (if y138.1 = true then (chk (y138.2.length = a0.length)).bind fun _ => some (.inr (y138.2)) else Lslices_pdqsortOrdered_of_uint64_k3 p101 p118 p102 p113 p104 p105 rf y138.2) else Lslices_pdqsortOrdered_of_uint64_k3 p101 p118 p102 p113 p104 p105 rf p120)
noncomputable def Lslices_pdqsortOrdered_of_uint64_k1 (p101 : Int) (p102 : Int) (p104 : Bool) (p105 : Bool) (a0 : (List Int)) (rf : (List Int) → Int → Int → Int → Option ((List Int))) (p113 : Int) (p114 : (List Int)) : Option ((Int × Int × Int × Bool × Bool × (List Int)) ⊕ ((List Int))) :=
 (Lslices_choosePivotOrdered_of_uint64 p114 p101 p102).bind fun y115 => (if y115.2 = 2 then (Lslices_reverseRangeOrdered_of_uint64 p114 p101 p102).bind fun y140 => (chk (y140.length = p114.length)).bind fun _ => Lslices_pdqsortOrdered_of_uint64_k2 p104 p105 p101 p102 a0 p113 rf (IntKind.i64.wrap ((IntKind.i64.wrap (p102 - 1)) - (IntKind.i64.wrap (y115.1 - p101)))) 1 y140 else Lslices_pdqsortOrdered_of_uint64_k2 p104 p105 p101 p102 a0 p113 rf y115.1 y115.2 p114)
noncomputable def Lslices_pdqsortOrdered_of_uint64_s1 (a0 : (List Int)) (rf : (List Int) → Int → Int → Int → Option ((List Int))) : (Int × Int × Int × Bool × Bool × (List Int)) → Option ((Int × Int × Int × Bool × Bool × (List Int)) ⊕ ((List Int)))
 | (p101, p102, p103, p104, p105, p106) => (if IntKind.i64.wrap (p102 - p101) ≤ 12 then (Lslices_insertionSortOrdered_of_uint64 p106 p101 p102).bind fun y107 => (chk (y107.length = p106.length)).bind fun _ => (chk (y107.length = a0.length)).bind fun _ => some (.inr (y107)) else (if p103 = 0 then (Lslices_heapSortOrdered_of_uint64 p106 p101 p102).bind fun y109 => (chk (y109.length = p106.length)).bind fun _ => (chk (y109.length = a0.length)).bind fun _ => some (.inr (y109)) else (if ¬ (p104 = true) then (Lslices_breakPatternsOrdered_of_uint64 p106 p101 p102).bind fun y142 => (chk (y142.length = p106.length)).bind fun _ => Lslices_pdqsortOrdered_of_uint64_k1 p101 p102 p104 p105 a0 rf (IntKind.i64.wrap (p103 - 1)) y142 else Lslices_pdqsortOrdered_of_uint64_k1 p101 p102 p104 p105 a0 rf p103 p106)))
noncomputable def Lslices_pdqsortOrdered_of_uint64_b (rf : (List Int) → Int → Int → Int → Option ((List Int))) (a0 : (List Int)) (a1 : Int) (a2 : Int) (a3 : Int) : Option ((List Int)) :=
 runLoop (Lslices_pdqsortOrdered_of_uint64_s1 a0 rf) (a1, a2, a3, true, true, a0)
noncomputable def Lslices_pdqsortOrdered_of_uint64_n : Nat → (List Int) → Int → Int → Int → Option ((List Int))
 | 0, _, _, _, _ => none
 | n + 1, a0, a1, a2, a3 => Lslices_pdqsortOrdered_of_uint64_b (Lslices_pdqsortOrdered_of_uint64_n n) a0 a1 a2 a3
noncomputable def Lslices_pdqsortOrdered_of_uint64 (a0 : (List Int)) (a1 : Int) (a2 : Int) (a3 : Int) : Option ((List Int)) := fixN fun n => Lslices_pdqsortOrdered_of_uint64_n n a0 a1 a2 a3
noncomputable def Lslices_Sort_of__uint64_uint64 (a0 : (List Int)) : Option ((List Int)) :=
 (Lmath_bits_Len (IntKind.u64.wrap ((a0.length : Int)))).bind fun y1 => (Lslices_pdqsortOrdered_of_uint64 a0 0 (a0.length : Int) y1).bind fun y2 => (chk (y2.length = a0.length)).bind fun _ => (chk (y2.length = a0.length)).bind fun _ => some (y2)
noncomputable def Lgolomb_values_k1 (p11 : (List Int)) : Option (List Int) :=
 (Lslices_Sort_of__uint64_uint64 p11).bind fun y16 => (chk (y16.length = p11.length)).bind fun _ => some (y16)
noncomputable def Lgolomb_values_s1 (a1 : (List (List Int))) (a0 : (Arr 2)) (a2 : Int) (a3 : Int) : (Int × (List Int)) → Option ((Int × (List Int)) ⊕ ((List Int)))
 | (p10, p11) => (if p10 < (a1.length : Int) then (idx (a1) (p10)).bind fun x18 => (Lsip_Sum a0 x18).bind fun y19 => (Lsip_Scale y19 (IntKind.u64.wrap ((IntKind.u64.wrap (a2)) * a3))).bind fun y20 => (chk (p11.length + 1 ≤ 17592186044416)).bind fun _ => some (.inl (IntKind.i64.wrap (p10 + 1), p11 ++ [y20])) else (Lgolomb_values_k1 p11).map Sum.inr)
noncomputable def Lgolomb_values (a0 : (Arr 2)) (a1 : (List (List Int))) (a2 : Int) (a3 : Int) : Option ((List Int)) :=
 runLoop (Lgolomb_values_s1 a1 a0 a2 a3) (0, [])
noncomputable def Lgolomb_Build_k1 (a0 : (Arr 2)) (p13 : (List (List Int))) (a3 : Int) (a2 : Int) : Option (Tapi_Filter × Int) :=
 (Lgolomb_values a0 p13 (p13.length : Int) a3).bind fun y18 => (Lgolomb_Encode y18 a2).bind fun y19 => some ((y19.1, y19.2))
noncomputable def Lgolomb_Build_k2 (p11 : Int) (p22 : (List (ByteArray × Bool))) (p23 : (List (List Int))) : Option ((Int × (List (ByteArray × Bool)) × (List (List Int))) ⊕ (Tapi_Filter × Int)) :=
 some (.inl (IntKind.i64.wrap (p11 + 1), p22, p23))
noncomputable def Lgolomb_Build_s1 (a1 : (List (List Int))) (a0 : (Arr 2)) (a3 : Int) (a2 : Int) : (Int × (List (ByteArray × Bool)) × (List (List Int))) → Option ((Int × (List (ByteArray × Bool)) × (List (List Int))) ⊕ (Tapi_Filter × Int))
 | (p11, p12, p13) => (if p11 < (a1.length : Int) then (idx (a1) (p11)).bind fun x20 => (if ¬ ((mget (strOf x20) p12).getD false = true) then (chk (p13.length + 1 ≤ 5864062014805)).bind fun _ => Lgolomb_Build_k2 p11 (mput (strOf x20) true p12) (p13 ++ [x20]) else Lgolomb_Build_k2 p11 p12 p13) else (Lgolomb_Build_k1 a0 p13 a3 a2).map Sum.inr)
noncomputable def Lgolomb_Build (a0 : (Arr 2)) (a1 : (List (List Int))) (a2 : Int) (a3 : Int) : Option (Tapi_Filter × Int) :=
 (if 4096 < (a1.length : Int) then some (((0, ([] : (List Int))), 4)) else (if (((a3 < 1 ∨ 1099511627776 < a3) ∨ a2 < 0) ∨ 32 < a2) then some (((0, ([] : (List Int))), 5)) else runLoop (Lgolomb_Build_s1 a1 a0 a3 a2) (0, ([] : (List (ByteArray × Bool))), [])))
noncomputable def Llaw19_sane : Option (Bool) :=
 (Lgolomb_Encode [1, 3] 2).bind fun y1 => (Lgolomb_Build (⟨[0, 0], rfl⟩ : Arr 2) ([] : (List (List Int))) 2 5).bind fun y2 => ((if ((y1.2 = 0 ∧ y1.1.1 = 2) ∧ (y1.1.2.length : Int) = 1) then ((y1.1.2)[0]?).bind fun x3 => some (decide (x3 = 40)) else some (false))).bind fun z4 => some (((((((decide (y1.2 = 0) && decide (y1.1.1 = 2)) && decide ((y1.1.2.length : Int) = 1)) && z4) && decide (y2.2 = 0)) && decide (y2.1.1 = 0)) && decide ((y2.1.2.length : Int) = 0)))
noncomputable def Lref18_bit (a0 : Tapi_Bits) (a1 : Int) : Option (Bool) :=
 (idx (a0.1) (IntKind.i64.wrap ((a1).tdiv 8))).bind fun x1 => (chk (¬ (IntKind.i64.wrap (7 - ((a1).tmod 8)) < 0))).bind fun _ => some (decide (bits .and .u8 ((x1).fdiv (2 ^ (min (IntKind.i64.wrap (7 - ((a1).tmod 8))).toNat 8))) 1 = 1))
noncomputable def Lref18_Valid_k1 : Option Bool :=
 some (true)
noncomputable def Lref18_Valid_s1 (a0 : Tapi_Bits) : Int → Option ((Int) ⊕ (Bool))
 | p4 => (if p4 < IntKind.i64.wrap (8 * (a0.1.length : Int)) then (Lref18_bit a0 p4).bind fun y6 => (if y6 = true then some (.inr (false)) else some (.inl (IntKind.i64.wrap (p4 + 1)))) else (Lref18_Valid_k1).map Sum.inr)
noncomputable def Lref18_Valid (a0 : Tapi_Bits) : Option (Bool) :=
 (if ((a0.2 < 0 ∨ 1600000 < a0.2) ∨ ¬ ((a0.1.length : Int) = IntKind.i64.wrap ((IntKind.i64.wrap (a0.2 + 7)).tdiv 8))) then some (false) else runLoop (Lref18_Valid_s1 a0) a0.2)
noncomputable def Lref01_Join_k1 (p8 : (List Int)) : Option (List Int) :=
 some (p8)
noncomputable def Lref01_Join_s1 (a0 : (List (List Int))) : (Int × (List Int)) → Option ((Int × (List Int)) ⊕ ((List Int)))
 | (p7, p8) => (if p7 < (a0.length : Int) then (idx (a0) (p7)).bind fun x11 => (Lref01_joined p8 x11).bind fun y12 => some (.inl (IntKind.i64.wrap (p7 + 1), y12)) else (Lref01_Join_k1 p8).map Sum.inr)
noncomputable def Lref01_Join (a0 : (List (List Int))) : Option ((List Int)) :=
 runLoop (Lref01_Join_s1 a0) (0, ([] : (List Int)))
noncomputable def Lref18_put_k2 (a0 : Tapi_Bits) (p6 : (List Int)) : Option Tapi_Bits :=
 some ((p6, IntKind.i64.wrap (a0.2 + 1)))
noncomputable def Lref18_put_k1 (a1 : Bool) (a0 : Tapi_Bits) (p2 : (List Int)) : Option Tapi_Bits :=
 (if a1 = true then (inA (p2.length) (IntKind.i64.wrap ((a0.2).tdiv 8))).bind fun j7 => ((p2)[j7]?).bind fun x8 => (chk (¬ (IntKind.i64.wrap (7 - ((a0.2).tmod 8)) < 0))).bind fun _ => Lref18_put_k2 a0 ((p2).set j7 (bits .or .u8 x8 (IntKind.u8.wrap (1 * (2 ^ (min (IntKind.i64.wrap (7 - ((a0.2).tmod 8))).toNat 8)))))) else Lref18_put_k2 a0 p2)
noncomputable def Lref18_put (a0 : Tapi_Bits) (a1 : Bool) : Option (Tapi_Bits) :=
 (if (a0.2).tmod 8 = 0 then (chk (a0.1.length + 1 ≤ 140737488355328)).bind fun _ => Lref18_put_k1 a1 a0 (a0.1 ++ [0]) else Lref18_put_k1 a1 a0 a0.1)
noncomputable def Lref18_AppendRice_k2 (p26 : (List Int)) (p25 : Int) : Option (Tapi_Bits × Int) :=
 some (((p26, p25), 0))
noncomputable def Lref18_AppendRice_s2 (a1 : Int) : (Int × Int × (List Int)) → Option ((Int × Int × (List Int)) ⊕ (Tapi_Bits × Int))
 | (p24, p25, p26) => (if 0 ≤ p24 then (chk (¬ (p24 < 0))).bind fun _ => (Lref18_put (p26, p25) (decide (bits .and .u64 ((a1).fdiv (2 ^ (min (p24).toNat 64))) 1 = 1))).bind fun y30 => some (.inl (IntKind.i64.wrap (p24 - 1), y30.2, y30.1)) else (Lref18_AppendRice_k2 p26 p25).map Sum.inr)
noncomputable def Lref18_AppendRice_k1 (p14 : (List Int)) (p13 : Int) (a1 : Int) (a2 : Int) : Option (Tapi_Bits × Int) :=
 (Lref18_put (p14, p13) false).bind fun y16 => runLoop (Lref18_AppendRice_s2 a1) (IntKind.i64.wrap (a2 - 1), y16.2, y16.1)
noncomputable def Lref18_AppendRice_s1 (a1 : Int) (a2 : Int) : (Int × Int × (List Int)) → Option ((Int × Int × (List Int)) ⊕ (Tapi_Bits × Int))
 | (p12, p13, p14) => (if 0 < p12 then (Lref18_put (p14, p13) true).bind fun y31 => some (.inl (IntKind.u64.wrap (p12 - 1), y31.2, y31.1)) else (Lref18_AppendRice_k1 p14 p13 a1 a2).map Sum.inr)
noncomputable def Lref18_AppendRice (a0 : Tapi_Bits) (a1 : Int) (a2 : Int) : Option (Tapi_Bits × Int) :=
 (Lref18_Valid a0).bind fun y1 => (if ¬ (y1 = true) then some (((([] : (List Int)), 0), 6)) else (if (a2 < 0 ∨ 32 < a2) then some (((([] : (List Int)), 0), 5)) else (chk (¬ (a2 < 0))).bind fun _ => ((if 65536 < (a1).fdiv (2 ^ (min (a2).toNat 64)) then some (false) else (chk (¬ (a2 < 0))).bind fun _ => some (decide (1600000 < IntKind.i64.wrap ((IntKind.i64.wrap ((IntKind.i64.wrap (a0.2 + (IntKind.i64.wrap ((a1).fdiv (2 ^ (min (a2).toNat 64)))))) + 1)) + a2))))).bind fun z4 => (if (65536 < (a1).fdiv (2 ^ (min (a2).toNat 64)) ∨ z4 = true) then some (((([] : (List Int)), 0), 4)) else (Lref01_Join [a0.1]).bind fun y5 => (chk (¬ (a2 < 0))).bind fun _ => runLoop (Lref18_AppendRice_s1 a1 a2) ((a1).fdiv (2 ^ (min (a2).toNat 64)), a0.2, y5))))
noncomputable def Lref19_Encode_k2 (a0 : (List Int)) (p19 : (List Int)) : Option (Tapi_Filter × Int) :=
 some ((((a0.length : Int), p19), 0))
noncomputable def Lref19_Encode_s2 (a0 : (List Int)) (a1 : Int) : (Int × Int × (List Int) × Int) → Option ((Int × Int × (List Int) × Int) ⊕ (Tapi_Filter × Int))
 | (p17, p18, p19, p20) => (if p18 < (a0.length : Int) then (idx (a0) (p18)).bind fun x23 => (Lref18_AppendRice (p19, p20) (IntKind.u64.wrap (x23 - p17)) a1).bind fun y24 => (if ¬ (y24.2 = 0) then some (.inr (((0, ([] : (List Int))), y24.2))) else some (.inl (x23, IntKind.i64.wrap (p18 + 1), y24.1.1, y24.1.2))) else (Lref19_Encode_k2 a0 p19).map Sum.inr)
noncomputable def Lref19_Encode_k1 (a0 : (List Int)) (a1 : Int) : Option (Tapi_Filter × Int) :=
 runLoop (Lref19_Encode_s2 a0 a1) (0, 0, ([] : (List Int)), 0)
noncomputable def Lref19_Encode_s1 (a0 : (List Int)) (a1 : Int) : Int → Option ((Int) ⊕ (Tapi_Filter × Int))
 | p6 => (if p6 < (a0.length : Int) then (idx (a0) (IntKind.i64.wrap (p6 - 1))).bind fun x25 => (idx (a0) (p6)).bind fun x26 => (if x26 < x25 then some (.inr (((0, ([] : (List Int))), 6))) else some (.inl (IntKind.i64.wrap (p6 + 1)))) else (Lref19_Encode_k1 a0 a1).map Sum.inr)
noncomputable def Lref19_Encode (a0 : (List Int)) (a1 : Int) : Option (Tapi_Filter × Int) :=
 (if 4096 < (a0.length : Int) then some (((0, ([] : (List Int))), 4)) else (if (a1 < 0 ∨ 32 < a1) then some (((0, ([] : (List Int))), 5)) else runLoop (Lref19_Encode_s1 a0 a1) 1))
noncomputable def Llaw19_same_k1 : Option Bool :=
 some (true)
noncomputable def Llaw19_same_s1 (a0 : (List Int)) (a1 : (List Int)) : Int → Option ((Int) ⊕ (Bool))
 | p6 => (if p6 < (a0.length : Int) then (idx (a0) (p6)).bind fun x9 => (idx (a1) (p6)).bind fun x10 => (if ¬ (x9 = x10) then some (.inr (false)) else some (.inl (IntKind.i64.wrap (p6 + 1)))) else (Llaw19_same_k1).map Sum.inr)
noncomputable def Llaw19_same (a0 : (List Int)) (a1 : (List Int)) : Option (Bool) :=
 (if ¬ ((a0.length : Int) = (a1.length : Int)) then some (false) else runLoop (Llaw19_same_s1 a0 a1) 0)
noncomputable def Lbits_bit (a0 : Tapi_Bits) (a1 : Int) : Option (Bool) :=
 (idx (a0.1) (IntKind.i64.wrap ((a1).tdiv 8))).bind fun x1 => (chk (¬ ((a1).tmod 8 < 0))).bind fun _ => some (!(decide (bits .and .u8 x1 ((128 : Int).fdiv (2 ^ (min ((a1).tmod 8).toNat 8))) = 0)))
noncomputable def Lbits_number_k1 (p7 : Int) : Option Int :=
 some (p7)
noncomputable def Lbits_number_k2 (p8 : Int) (p12 : Int) : Option ((Int × Int) ⊕ (Int)) :=
 some (.inl (p12, IntKind.i64.wrap (p8 + 1)))
noncomputable def Lbits_number_s1 (a2 : Int) (a0 : Tapi_Bits) (a1 : Int) : (Int × Int) → Option ((Int × Int) ⊕ (Int))
 | (p7, p8) => (if p8 < a2 then (Lbits_bit a0 (IntKind.i64.wrap (a1 + p8))).bind fun y11 => (if y11 = true then Lbits_number_k2 p8 (bits .or .u64 (IntKind.u64.wrap (p7 * 2)) 1) else Lbits_number_k2 p8 (IntKind.u64.wrap (p7 * 2))) else (Lbits_number_k1 p7).map Sum.inr)
noncomputable def Lbits_number (a0 : Tapi_Bits) (a1 : Int) (a2 : Int) : Option (Int) :=
 runLoop (Lbits_number_s1 a2 a0 a1) (0, 0)
noncomputable def Lbits_ReadRice_k1 (a0 : Tapi_Bits) (p7 : Int) (a2 : Int) (a1 : Int) : Option (Int × Int × Int) :=
 (if IntKind.i64.wrap (a0.2 - p7) < IntKind.i64.wrap (1 + a2) then some ((0, 0, 1)) else (chk (¬ (a2 < 0))).bind fun _ => (Lbits_number a0 (IntKind.i64.wrap (p7 + 1)) a2).bind fun y11 => some ((bits .or .u64 (IntKind.u64.wrap ((IntKind.u64.wrap (IntKind.i64.wrap (p7 - a1))) * (2 ^ (min (a2).toNat 64)))) y11, IntKind.i64.wrap ((IntKind.i64.wrap (p7 + 1)) + a2), 0)))
noncomputable def Lbits_ReadRice_s1 (a0 : Tapi_Bits) (a1 : Int) (a2 : Int) : Int → Option ((Int) ⊕ (Int × Int × Int))
 | p7 => ((if p7 < a0.2 then (Lbits_bit a0 p7).bind fun y12 => some (y12) else some (false))).bind fun z13 => (if (p7 < a0.2 ∧ z13 = true) then (if 65536 < IntKind.i64.wrap ((IntKind.i64.wrap (p7 + 1)) - a1) then some (.inr ((0, 0, 4))) else some (.inl (IntKind.i64.wrap (p7 + 1)))) else (Lbits_ReadRice_k1 a0 p7 a2 a1).map Sum.inr)
noncomputable def Lbits_ReadRice (a0 : Tapi_Bits) (a1 : Int) (a2 : Int) : Option (Int × Int × Int) :=
 (Lbits_Valid a0).bind fun y1 => (if ¬ (y1 = true) then some ((0, 0, 6)) else (if (((a2 < 0 ∨ 32 < a2) ∨ a1 < 0) ∨ a0.2 < a1) then some ((0, 0, 5)) else runLoop (Lbits_ReadRice_s1 a0 a1 a2) a1))
noncomputable def Lbits_Read (a0 : Tapi_Bits) (a1 : Int) (a2 : Int) : Option (Int × Int × Int) :=
 (Lbits_Valid a0).bind fun y1 => (if ¬ (y1 = true) then some ((0, 0, 6)) else (if (((a2 < 0 ∨ 64 < a2) ∨ a1 < 0) ∨ a0.2 < a1) then some ((0, 0, 5)) else (if IntKind.i64.wrap (a0.2 - a1) < a2 then some ((0, 0, 1)) else (Lbits_number a0 a1 a2).bind fun y2 => some ((y2, IntKind.i64.wrap (a1 + a2), 0)))))
noncomputable def Lgolomb_Decode_k1 (a0 : Tapi_Filter) (p10 : Int) (p12 : (List Int)) : Option ((List Int) × Int) :=
 (if 8 ≤ IntKind.i64.wrap ((IntKind.i64.wrap (8 * (a0.2.length : Int))) - p10) then some ((([] : (List Int)), 2)) else (Lbits_Read (a0.2, IntKind.i64.wrap (8 * (a0.2.length : Int))) p10 (IntKind.i64.wrap ((IntKind.i64.wrap (8 * (a0.2.length : Int))) - p10))).bind fun y15 => (if ¬ (y15.2.2 = 0) then some ((([] : (List Int)), y15.2.2)) else (if ¬ (y15.1 = 0) then some ((([] : (List Int)), 3)) else some ((p12, 0)))))
noncomputable def Lgolomb_Decode_s1 (a0 : Tapi_Filter) (a1 : Int) : (Int × Int × Int × (List Int)) → Option ((Int × Int × Int × (List Int)) ⊕ ((List Int) × Int))
 | (p9, p10, p11, p12) => (if p11 < a0.1 then (Lbits_ReadRice (a0.2, IntKind.i64.wrap (8 * (a0.2.length : Int))) p10 a1).bind fun y16 => (if ¬ (y16.2.2 = 0) then some (.inr ((([] : (List Int)), y16.2.2))) else (if IntKind.u64.wrap (p9 + y16.1) < p9 then some (.inr ((([] : (List Int)), 5))) else (chk (p12.length + 1 ≤ 17592186044416)).bind fun _ => some (.inl (IntKind.u64.wrap (p9 + y16.1), y16.2.1, IntKind.i64.wrap (p11 + 1), p12 ++ [IntKind.u64.wrap (p9 + y16.1)])))) else (Lgolomb_Decode_k1 a0 p10 p12).map Sum.inr)
noncomputable def Lgolomb_Decode (a0 : Tapi_Filter) (a1 : Int) : Option ((List Int) × Int) :=
 (if (4096 < a0.1 ∨ 200000 < (a0.2.length : Int)) then some ((([] : (List Int)), 4)) else (if ((a0.1 < 0 ∨ a1 < 0) ∨ 32 < a1) then some ((([] : (List Int)), 5)) else (chk (0 ≤ a0.1 ∧ a0.1 ≤ 17592186044416)).bind fun _ => runLoop (Lgolomb_Decode_s1 a0 a1) (0, 0, 0, ([] : (List Int)))))
noncomputable def Lref18_number_k1 (p7 : Int) : Option Int :=
 some (p7)
noncomputable def Lref18_number_k2 (p8 : Int) (p12 : Int) : Option ((Int × Int) ⊕ (Int)) :=
 some (.inl (p12, IntKind.i64.wrap (p8 + 1)))
noncomputable def Lref18_number_s1 (a1 : Int) (a2 : Int) (a0 : Tapi_Bits) : (Int × Int) → Option ((Int × Int) ⊕ (Int))
 | (p7, p8) => (if p8 < IntKind.i64.wrap (a1 + a2) then (Lref18_bit a0 p8).bind fun y11 => (if y11 = true then Lref18_number_k2 p8 (IntKind.u64.wrap ((IntKind.u64.wrap (p7 * 2)) + 1)) else Lref18_number_k2 p8 (IntKind.u64.wrap (p7 * 2))) else (Lref18_number_k1 p7).map Sum.inr)
noncomputable def Lref18_number (a0 : Tapi_Bits) (a1 : Int) (a2 : Int) : Option (Int) :=
 runLoop (Lref18_number_s1 a1 a2 a0) (0, a1)
noncomputable def Lref18_ReadRice_k1 (a0 : Tapi_Bits) (a1 : Int) (p7 : Int) (a2 : Int) : Option (Int × Int × Int) :=
 (if IntKind.i64.wrap ((IntKind.i64.wrap (a0.2 - a1)) - p7) < IntKind.i64.wrap (1 + a2) then some ((0, 0, 1)) else (chk (¬ (a2 < 0))).bind fun _ => (Lref18_number a0 (IntKind.i64.wrap ((IntKind.i64.wrap (a1 + p7)) + 1)) a2).bind fun y11 => some ((bits .or .u64 (IntKind.u64.wrap ((IntKind.u64.wrap (p7)) * (2 ^ (min (a2).toNat 64)))) y11, IntKind.i64.wrap ((IntKind.i64.wrap ((IntKind.i64.wrap (a1 + p7)) + 1)) + a2), 0)))
noncomputable def Lref18_ReadRice_s1 (a1 : Int) (a0 : Tapi_Bits) (a2 : Int) : Int → Option ((Int) ⊕ (Int × Int × Int))
 | p7 => ((if IntKind.i64.wrap (a1 + p7) < a0.2 then (Lref18_bit a0 (IntKind.i64.wrap (a1 + p7))).bind fun y12 => some (y12) else some (false))).bind fun z13 => (if (IntKind.i64.wrap (a1 + p7) < a0.2 ∧ z13 = true) then (if 65536 < IntKind.i64.wrap (p7 + 1) then some (.inr ((0, 0, 4))) else some (.inl (IntKind.i64.wrap (p7 + 1)))) else (Lref18_ReadRice_k1 a0 a1 p7 a2).map Sum.inr)
noncomputable def Lref18_ReadRice (a0 : Tapi_Bits) (a1 : Int) (a2 : Int) : Option (Int × Int × Int) :=
 (Lref18_Valid a0).bind fun y1 => (if ¬ (y1 = true) then some ((0, 0, 6)) else (if (((a2 < 0 ∨ 32 < a2) ∨ a1 < 0) ∨ a0.2 < a1) then some ((0, 0, 5)) else runLoop (Lref18_ReadRice_s1 a1 a0 a2) 0))
noncomputable def Lref18_Read (a0 : Tapi_Bits) (a1 : Int) (a2 : Int) : Option (Int × Int × Int) :=
 (Lref18_Valid a0).bind fun y1 => (if ¬ (y1 = true) then some ((0, 0, 6)) else (if (((a2 < 0 ∨ 64 < a2) ∨ a1 < 0) ∨ a0.2 < a1) then some ((0, 0, 5)) else (if IntKind.i64.wrap (a0.2 - a1) < a2 then some ((0, 0, 1)) else (Lref18_number a0 a1 a2).bind fun y2 => some ((y2, IntKind.i64.wrap (a1 + a2), 0)))))
noncomputable def Lref19_Decode_k1 (a0 : Tapi_Filter) (p7 : Int) (p9 : (List Int)) : Option ((List Int) × Int) :=
 (if 8 ≤ IntKind.i64.wrap ((IntKind.i64.wrap (8 * (a0.2.length : Int))) - p7) then some ((([] : (List Int)), 2)) else (Lref18_Read (a0.2, IntKind.i64.wrap (8 * (a0.2.length : Int))) p7 (IntKind.i64.wrap ((IntKind.i64.wrap (8 * (a0.2.length : Int))) - p7))).bind fun y12 => (if ¬ (y12.1 = 0) then some ((([] : (List Int)), 3)) else some ((p9, 0))))
noncomputable def Lref19_Decode_s1 (a0 : Tapi_Filter) (a1 : Int) : (Int × Int × (List Int)) → Option ((Int × Int × (List Int)) ⊕ ((List Int) × Int))
 | (p7, p8, p9) => (if (p9.length : Int) < a0.1 then (Lref18_ReadRice (a0.2, IntKind.i64.wrap (8 * (a0.2.length : Int))) p7 a1).bind fun y13 => (if ¬ (y13.2.2 = 0) then some (.inr ((([] : (List Int)), y13.2.2))) else (if IntKind.u64.wrap (p8 + y13.1) < p8 then some (.inr ((([] : (List Int)), 5))) else (chk (p9.length + 1 ≤ 17592186044416)).bind fun _ => some (.inl (y13.2.1, IntKind.u64.wrap (p8 + y13.1), p9 ++ [IntKind.u64.wrap (p8 + y13.1)])))) else (Lref19_Decode_k1 a0 p7 p9).map Sum.inr)
noncomputable def Lref19_Decode (a0 : Tapi_Filter) (a1 : Int) : Option ((List Int) × Int) :=
 (if (4096 < a0.1 ∨ 200000 < (a0.2.length : Int)) then some ((([] : (List Int)), 4)) else (if ((a0.1 < 0 ∨ a1 < 0) ∨ 32 < a1) then some ((([] : (List Int)), 5)) else runLoop (Lref19_Decode_s1 a0 a1) (0, 0, [])))
noncomputable def Llaw19_GolombDecodes (a0 : Tapi_Filter) (a1 : Int) : Option (Bool) :=
 (Llaw19_sane).bind fun y1 => (if ¬ (y1 = true) then some (false) else (if 400 < (a0.2.length : Int) then some (true) else (Lgolomb_Decode a0 a1).bind fun y2 => (Lref19_Decode a0 a1).bind fun y3 => ((if y2.2 = y3.2 then (Llaw19_same y2.1 y3.1).bind fun y4 => some (y4) else some (false))).bind fun z5 => some ((decide (y2.2 = y3.2) && z5))))
end Go.Lc
end
section
namespace Go.Lc
open Go.RowKit
open Go.Av
set_option maxRecDepth 100000
set_option linter.unusedSimpArgs false
set_option linter.unusedVariables false
def Oeapi_Filter (x : Tapi_Filter) : Prop := (-9223372036854775808 ≤ x.1 ∧ x.1 ≤ 9223372036854775807) ∧ OeS_I_u8 x.2
end Go.Lc
end
section
/- Ranges of numbers of a type. -/
namespace Go.Av
theorem wfi_i64 {x : Int} (h : (Lit.int .i64 x).wf = true) : -9223372036854775808 ≤ x ∧ x ≤ 9223372036854775807 := by simpa [Lit.wf, IntKind.has, IntKind.min, IntKind.max, IntKind.signed, IntKind.bits] using h
theorem wfi_u8 {x : Int} (h : (Lit.int .u8 x).wf = true) : 0 ≤ x ∧ x ≤ 255 := by simpa [Lit.wf, IntKind.has, IntKind.min, IntKind.max, IntKind.signed, IntKind.bits] using h
end Go.Av
end
section
/- Plain facts about steps that may fail, loops and numbers. -/
namespace Go.Lc
open Go.RowKit
open Go.Av
set_option linter.unusedVariables false

/-! loops -/
theorem runLoop_step {σ ρ : Type} {step : σ → Option (σ ⊕ ρ)} {s s' : σ} (h : step s = some (.inl s')) : runLoop step s = runLoop step s' := by rw [runLoop_eq, h]
theorem runLoop_exit {σ ρ : Type} {step : σ → Option (σ ⊕ ρ)} {s : σ} {x : Option ρ} (h : step s = x.map .inr) : runLoop step s = x := by
 rw [runLoop_eq, h]
 cases x <;> rfl
theorem runLoop_end {σ ρ : Type} {step : σ → Option (σ ⊕ ρ)} {s : σ} {r : ρ} (h : step s = some (.inr r)) : runLoop step s = some r := by rw [runLoop_eq, h]
/-- n steps, and what is then done -/
theorem runLoop_to {σ ρ : Type} {step : σ → Option (σ ⊕ ρ)} (enc : Nat → σ) (n : Nat) {x : Option ρ} (h : ∀ i, i < n → step (enc i) = some (.inl (enc (i + 1)))) (he : step (enc n) = x.map .inr) : runLoop step (enc 0) = x := by
 have key : ∀ k, k ≤ n → runLoop step (enc (n - k)) = x := by
  intro k
  induction k with
  | zero => intro _; exact runLoop_exit he
  | succ k ih =>
   intro hk
   rw [runLoop_step (h (n - (k + 1)) (by omega)), show n - (k + 1) + 1 = n - k by omega]
   exact ih (by omega)
 have := key n (Nat.le_refl _)
 rwa [Nat.sub_self] at this
/-- a loop with an invariant -/
theorem runLoop_inv {σ ρ : Type} {step : σ → Option (σ ⊕ ρ)} (I : Nat → σ → Prop) (Q : ρ → Prop) (h : ∀ i s, I i s → (∃ j s', j < i ∧ step s = some (.inl s') ∧ I j s') ∨ ∃ r, step s = some (.inr r) ∧ Q r) : ∀ (n : Nat) (s : σ), I n s → ∃ r, runLoop step s = some r ∧ Q r := by
 intro n
 induction n using Nat.strongRecOn with
 | _ n ih =>
  intro s hs
  rcases h n s hs with ⟨j, s', hj, h1, h2⟩ | ⟨r, h1, h2⟩
  ·obtain ⟨r, h3, h4⟩ := ih j hj s' h2
   exact ⟨r, (runLoop_step h1).trans h3, h4⟩
  ·exact ⟨r, runLoop_end h1, h2⟩

/-! steps that do not fail -/
def Tot {α : Type} (x : Option α) (Q : α → Prop) : Prop := ∃ a, x = some a ∧ Q a
section
variable {α β : Type} {x : Option α} {f : α → Option β} {P : α → Prop} {Q : β → Prop}
theorem Tot.bind (h : Tot x P) (k : ∀ a, P a → Tot (f a) Q) : Tot (x.bind f) Q := by
 obtain ⟨a, rfl, ha⟩ := h
 exact k a ha
theorem Tot.mono {P' : α → Prop} (h : Tot x P) (k : ∀ a, P a → P' a) : Tot x P' := by
 obtain ⟨a, h1, ha⟩ := h
 exact ⟨a, h1, k a ha⟩
theorem tot_some {a : α} (h : P a) : Tot (some a) P := ⟨a, rfl, h⟩
theorem tot_ite {c : Prop} [Decidable c] {a b : Option α} (h1 : c → Tot a P) (h2 : ¬ c → Tot b P) : Tot (if c then a else b) P := by
 by_cases h : c
 ·rw [if_pos h]; exact h1 h
 ·rw [if_neg h]; exact h2 h
theorem Tot.inr {ρ σ : Type} {x : Option ρ} {Q : ρ → Prop} (h : Tot x Q) : ∃ r, (x.map Sum.inr : Option (σ ⊕ ρ)) = some (.inr r) ∧ Q r := by
 obtain ⟨a, rfl, ha⟩ := h
 exact ⟨a, rfl, ha⟩
end
theorem bind_some' {α β : Type} (a : α) (f : α → Option β) : (some a).bind f = f a := rfl
theorem chk_bind {p : Prop} [Decidable p] {α : Type} {f : Unit → Option α} (h : p) : (chk p).bind f = f () := by rw [chk_pos h]; rfl
theorem idx_get {α : Type} {l : List α} {i : Nat} (h : i < l.length) : idx l (i : Int) = some l[i] := by simp [idx, h]
theorem idx_bind {α β : Type} {l : List α} {i : Nat} {f : α → Option β} (h : i < l.length) : (idx l (i : Int)).bind f = f l[i] := by rw [idx_get h]; rfl
theorem inA_nat {n i : Nat} (h : i < n) : inA n (i : Int) = some i := by simp [inA, h]
theorem inA_bind {β : Type} {n i : Nat} {f : Nat → Option β} (h : i < n) : (inA n (i : Int)).bind f = f i := by rw [inA_nat h]; rfl
theorem get_bind {α β : Type} {l : List α} {i : Nat} {f : α → Option β} (h : i < l.length) : (l[i]?).bind f = f l[i] := by rw [List.getElem?_eq_getElem h]; rfl

/-! numbers -/
theorem wi (n : Int) (h : -9223372036854775808 ≤ n ∧ n ≤ 9223372036854775807) : IntKind.i64.wrap n = n := IntWalk.i64_in n h
theorem wi_succ {i n : Nat} (h : i < n) (hn : n ≤ 9223372036854775807) : IntKind.i64.wrap ((i : Int) + 1) = ((i + 1 : Nat) : Int) := by rw [wi _ (by omega)]; omega
theorem wu (n : Int) (h : 0 ≤ n ∧ n ≤ 18446744073709551615) : IntKind.u64.wrap n = n := IntWalk.u64_in n h

/-! lists -/
theorem fill_step {α : Type} (f : Nat → α) (z : α) {i k : Nat} (h : i < k) : (((List.range i).map f) ++ List.replicate (k - i) z).set i (f i) = ((List.range (i + 1)).map f) ++ List.replicate (k - (i + 1)) z := by
 rw [List.set_append_right _ _ (by simp)]
 simp only [List.length_map, List.length_range, Nat.sub_self]
 rw [show k - i = (k - (i + 1)) + 1 by omega, List.replicate_succ, List.set_cons_zero, List.range_succ, List.map_append]
 simp
theorem fill_len {α : Type} (f : Nat → α) (z : α) {i k : Nat} (h : i ≤ k) : (((List.range i).map f) ++ List.replicate (k - i) z).length = k := by simp; omega
end Go.Lc
end
section
/- The sort of the program, function by function: what each computes, in the words of the kit's plain sort. -/
namespace Go.Lc
open Go.RowKit
open Go.Av
open Go.Sort
set_option linter.unusedVariables false
set_option linter.unusedSimpArgs false

theorem less_eq (x y : Int) : Lcmp_Less_of_uint64 x y = some (ltInt x y) := by simp [Lcmp_Less_of_uint64, Lcmp_isNaN_of_uint64, ltInt]
theorem gA {d : Array Int} {i : Nat} (h : i < d.size) : d.toList[i]? = some d[i]! := by
 rw [getElem!_pos d i h]
 simp [h]
theorem gB {β : Type} {d : Array Int} {i : Nat} {f : Int → Option β} (h : i < d.size) : (d.toList[i]?).bind f = f d[i]! := by rw [gA h]; rfl
theorem iB {β : Type} {d : Array Int} {i : Nat} {f : Nat → Option β} (h : i < d.size) : (inA d.toList.length (i : Int)).bind f = f i := inA_bind (by simpa using h)
theorem iB1 {β : Type} {d : Array Int} {i j : Nat} {x : Int} {f : Nat → Option β} (h : i < d.size) : (inA (d.toList.set j x).length (i : Int)).bind f = f i := inA_bind (by simpa using h)
theorem swpL (d : Array Int) (i j : Nat) : (d.toList.set i d[j]!).set j d[i]! = (swp d i j).toList := by simp [swp]
theorem sB {β : Type} (x : Bool) (f : Bool → Option β) : (some x).bind f = f x := rfl
theorem wI (n : Nat) (h : n < 9223372036854775808) : IntKind.i64.wrap (n : Int) = (n : Int) := wi _ (by omega)
theorem wS {i : Nat} (h : i < 9223372036854775807) : IntKind.i64.wrap ((i : Int) + 1) = ((i + 1 : Nat) : Int) := by rw [wi _ (by omega)]; omega
theorem wP {i : Nat} (h : i < 9223372036854775807) : IntKind.i64.wrap (((i + 1 : Nat) : Int) - 1) = (i : Int) := by rw [wi _ (by omega)]; omega

/-! insertion sort -/
theorem insInner_size (lt : Int → Int → Bool) (a : Nat) : ∀ (j : Nat) (d : Array Int), (insInner lt a j d).size = d.size
 | 0, d => by rw [insInner]
 | j + 1, d => by
  rw [insInner]
  split
  ·rw [insInner_size lt a j, size_swp]
  ·rfl
theorem ins_inner (a : Nat) (i : Int) : ∀ (j : Nat) (d : Array Int), j < d.size → d.size < 4611686018427387904 → runLoop (Lslices_insertionSortOrdered_of_uint64_s2 (a : Int) i) ((j : Int), d.toList) = Lslices_insertionSortOrdered_of_uint64_k1 i (insInner ltInt a j d).toList
 | 0, d, hj, hs => by
  rw [insInner]
  refine runLoop_exit ?_
  have h : ¬ ((a : Int) < ((0 : Nat) : Int)) := by omega
  simp only [Lslices_insertionSortOrdered_of_uint64_s2, if_neg h, sB, h, false_and, if_false]
 | j + 1, d, hj, hs => by
  have hj' : j < d.size := by omega
  rw [insInner]
  by_cases h : a < j + 1
  ·have hc : (a : Int) < ((j + 1 : Nat) : Int) := by omega
   by_cases hl : ltInt d[j + 1]! d[j]! = true
   ·rw [runLoop_step (s' := ((j : Int), (swp d (j + 1) j).toList)), ins_inner a i j _ (by rw [size_swp]; exact hj') (by rw [size_swp]; exact hs), if_pos (by simp [h, hl])]
    simp only [Lslices_insertionSortOrdered_of_uint64_s2, if_pos hc, hc, true_and, wP (show j < 9223372036854775807 by omega), iB hj, iB hj', gB hj, gB hj', less_eq, sB, hl, if_true, iB1 hj', swpL]
   ·rw [if_neg (by simp [hl])]
    refine runLoop_exit ?_
    simp only [Lslices_insertionSortOrdered_of_uint64_s2, if_pos hc, hc, true_and, wP (show j < 9223372036854775807 by omega), iB hj, iB hj', gB hj, gB hj', less_eq, sB, (by simpa using hl : ltInt d[j + 1]! d[j]! = false), if_true, if_false, Bool.false_eq_true]
  ·rw [if_neg (by simp [h])]
   refine runLoop_exit ?_
   have hc : ¬ (a : Int) < ((j + 1 : Nat) : Int) := by omega
   simp only [Lslices_insertionSortOrdered_of_uint64_s2, if_neg hc, sB, hc, false_and, if_false]
theorem ins_outer (a b : Nat) (l0 : List Int) : ∀ (n i : Nat) (d : Array Int), b - i = n → b ≤ d.size → d.size < 4611686018427387904 → d.size = l0.length → runLoop (Lslices_insertionSortOrdered_of_uint64_s1 (b : Int) (a : Int) l0) ((i : Int), d.toList) = some (insOuter ltInt a b i d).toList := by
 intro n
 induction n with
 | zero =>
  intro i d h hb hs h0
  rw [insOuter, if_neg (by omega)]
  refine runLoop_end ?_
  simp only [Lslices_insertionSortOrdered_of_uint64_s1, if_neg (show ¬ (i : Int) < (b : Int) by omega)]
  rw [chk_bind (by simpa using h0)]
 | succ n ih =>
  intro i d h hb hs h0
  rw [insOuter, if_pos (by omega), ← ih (i + 1) _ (by omega) (by rw [insInner_size]; exact hb) (by rw [insInner_size]; exact hs) (by rw [insInner_size]; exact h0)]
  refine runLoop_step ?_
  simp only [Lslices_insertionSortOrdered_of_uint64_s1, if_pos (show (i : Int) < (b : Int) by omega)]
  rw [ins_inner a _ i d (by omega) hs, Lslices_insertionSortOrdered_of_uint64_k1, wS (by omega)]
theorem ins_eq (d : Array Int) (a b : Nat) (hb : b ≤ d.size) (ha : a ≤ b) (hs : d.size < 4611686018427387904) : Lslices_insertionSortOrdered_of_uint64 d.toList (a : Int) (b : Int) = some (insertionSort ltInt d a b).toList := by
 rw [Lslices_insertionSortOrdered_of_uint64, wS (by omega), ins_outer a b d.toList _ (a + 1) d rfl hb hs (by simp)]
 rfl

/-! heap sort -/
theorem wA {i j : Nat} (h : i + j < 9223372036854775808) : IntKind.i64.wrap ((i : Int) + (j : Int)) = ((i + j : Nat) : Int) := by rw [wi _ (by omega)]; omega
theorem wM {i : Nat} (h : 2 * i < 9223372036854775808) : IntKind.i64.wrap (2 * (i : Int)) = ((2 * i : Nat) : Int) := by rw [wi _ (by omega)]; omega
theorem wD {i j : Nat} (h : i ≤ j) (hj : j < 9223372036854775808) : IntKind.i64.wrap ((j : Int) - (i : Int)) = ((j - i : Nat) : Int) := by rw [wi _ (by omega)]; omega
theorem sift_k1 (d : Array Int) (first root child : Nat) (l0 : List Int) (h1 : first + root < d.size) (h2 : first + child < d.size) (hs : d.size < 4611686018427387904) (h0 : d.size = l0.length) :
  Lslices_siftDownOrdered_of_uint64_k1 d.toList (first : Int) (root : Int) l0 (child : Int) = if (!ltInt d[first + root]! d[first + child]!) = true then some (.inr d.toList) else some (.inl ((child : Int), (swp d (first + root) (first + child)).toList)) := by
 have hc : d.toList.length = l0.length := by simpa using h0
 rw [Lslices_siftDownOrdered_of_uint64_k1, wA (by omega), wA (by omega)]
 simp only [iB h1, iB h2, gB h1, gB h2, less_eq, sB, iB1 h2, swpL]
 cases ltInt d[first + root]! d[first + child]! <;> simp [chk_pos h0]
theorem sift_size (lt : Int → Int → Bool) (hi first : Nat) : ∀ (n root : Nat) (d : Array Int), hi - root = n → (siftDown lt hi first root d).size = d.size := by
 intro n
 induction n using Nat.strongRecOn with
 | _ n ih =>
  intro root d h
  rw [siftDown]
  split
  ·rfl
  ·split
   ·split
    ·rfl
    ·split
     ·rw [ih _ (by omega) _ _ rfl, size_swp]
     ·rfl
   ·split
    ·rfl
    ·rw [ih _ (by omega) _ _ rfl, size_swp]
theorem sift_loop (hi first : Nat) (l0 : List Int) : ∀ (n root : Nat) (d : Array Int), hi - root = n → first + hi ≤ d.size → d.size < 4611686018427387904 → root ≤ d.size → d.size = l0.length → runLoop (Lslices_siftDownOrdered_of_uint64_s1 (hi : Int) l0 (first : Int)) ((root : Int), d.toList) = some (siftDown ltInt hi first root d).toList := by
 intro n
 induction n using Nat.strongRecOn with
 | _ n ih =>
  intro root d h hf hs hr h0
  have hc : d.toList.length = l0.length := by simpa using h0
  rw [siftDown]
  by_cases g : 2 * root + 1 ≥ hi
  ·rw [dif_pos g]
   refine runLoop_end ?_
   simp only [Lslices_siftDownOrdered_of_uint64_s1, wM (show 2 * root < 9223372036854775808 by omega), wS (show 2 * root < 9223372036854775807 by omega), if_pos (show (hi : Int) ≤ ((2 * root + 1 : Nat) : Int) by omega)]
   rw [chk_bind hc]
  ·rw [dif_neg g]
   have hr1 : first + root < d.size := by omega
   have hc1 : first + (2 * root + 1) < d.size := by omega
   have g' : ¬ (hi : Int) ≤ ((2 * root + 1 : Nat) : Int) := by omega
   have hgo : ∀ child, root < child → first + child < d.size → child < hi → Lslices_siftDownOrdered_of_uint64_s1 (hi : Int) l0 (first : Int) ((root : Int), d.toList) = Lslices_siftDownOrdered_of_uint64_k1 d.toList (first : Int) (root : Int) l0 (child : Int) → runLoop (Lslices_siftDownOrdered_of_uint64_s1 (hi : Int) l0 (first : Int)) ((root : Int), d.toList) = some (if (!ltInt d[first + root]! d[first + child]!) = true then d else siftDown ltInt hi first child (swp d (first + root) (first + child))).toList := by
    intro child hch hcd hchi hst
    rw [sift_k1 d first root child l0 hr1 hcd hs h0] at hst
    by_cases hl : (!ltInt d[first + root]! d[first + child]!) = true
    ·rw [if_pos hl] at hst ⊢
     exact runLoop_end hst
    ·rw [if_neg hl] at hst ⊢
     rw [runLoop_step hst]
     exact ih (hi - child) (by omega) child _ rfl (by rw [size_swp]; exact hf) (by rw [size_swp]; exact hs) (by rw [size_swp]; omega) (by rw [size_swp]; exact h0)
   by_cases g2 : 2 * root + 1 + 1 < hi
   ·have hc2 : first + (2 * root + 1) + 1 < d.size := by omega
    have g2' : ((2 * root + 1 + 1 : Nat) : Int) < (hi : Int) := by omega
    by_cases hl : ltInt d[first + (2 * root + 1)]! d[first + (2 * root + 1) + 1]! = true
    ·rw [if_pos (by simp [g2, hl]), hgo (2 * root + 1 + 1) (by omega) (by omega) g2]
     ·simp only [dif_pos g2]
     ·simp only [Lslices_siftDownOrdered_of_uint64_s1, wM (show 2 * root < 9223372036854775808 by omega), wS (show 2 * root < 9223372036854775807 by omega), wS (show 2 * root + 1 < 9223372036854775807 by omega), if_neg g', g2', if_true, wA (show first + (2 * root + 1) < 9223372036854775808 by omega), wS (show first + (2 * root + 1) < 9223372036854775807 by omega), iB hc1, iB hc2, gB hc1, gB hc2, less_eq, sB, hl, true_and]
    ·rw [if_neg (by simp [hl]), hgo (2 * root + 1) (by omega) (by omega) (by omega)]
     simp only [Lslices_siftDownOrdered_of_uint64_s1, wM (show 2 * root < 9223372036854775808 by omega), wS (show 2 * root < 9223372036854775807 by omega), wS (show 2 * root + 1 < 9223372036854775807 by omega), if_neg g', g2', if_true, wA (show first + (2 * root + 1) < 9223372036854775808 by omega), wS (show first + (2 * root + 1) < 9223372036854775807 by omega), iB hc1, iB hc2, gB hc1, gB hc2, less_eq, sB, (by simpa using hl : ltInt d[first + (2 * root + 1)]! d[first + (2 * root + 1) + 1]! = false), true_and, Bool.false_eq_true, if_false]
   ·rw [if_neg (by simp [g2]), hgo (2 * root + 1) (by omega) (by omega) (by omega)]
    have g2' : ¬ ((2 * root + 1 + 1 : Nat) : Int) < (hi : Int) := by omega
    simp only [Lslices_siftDownOrdered_of_uint64_s1, wM (show 2 * root < 9223372036854775808 by omega), wS (show 2 * root < 9223372036854775807 by omega), wS (show 2 * root + 1 < 9223372036854775807 by omega), if_neg g', g2', sB, false_and, if_false]
theorem sift_eq (d : Array Int) (root hi first : Nat) (hf : first + hi ≤ d.size) (hs : d.size < 4611686018427387904) (hr : root ≤ d.size) : Lslices_siftDownOrdered_of_uint64 d.toList (root : Int) (hi : Int) (first : Int) = some (siftDown ltInt hi first root d).toList := sift_loop hi first d.toList _ root d rfl hf hs hr (by simp)
theorem heapPop_loop (first : Nat) (l0 : List Int) : ∀ (k : Nat) (d : Array Int), first + k ≤ d.size → d.size < 4611686018427387904 → d.size = l0.length → runLoop (Lslices_heapSortOrdered_of_uint64_s2 (first : Int) l0) ((k : Int) - 1, d.toList) = some (heapPop ltInt first k d).toList := by
 intro k
 induction k with
 | zero =>
  intro d hf hs h0
  have hc : d.toList.length = l0.length := by simpa using h0
  rw [heapPop]
  refine runLoop_end ?_
  simp only [Lslices_heapSortOrdered_of_uint64_s2, if_neg (show ¬ (0 : Int) ≤ ((0 : Nat) : Int) - 1 by omega)]
  rw [chk_bind hc]
 | succ k ih =>
  intro d hf hs h0
  have h1 : first < d.size := by omega
  have h2 : first + k < d.size := by omega
  have e : ((k + 1 : Nat) : Int) - 1 = (k : Int) := by omega
  have hsz : (siftDown ltInt k first 0 (swp d first (first + k))).size = d.size := by rw [sift_size _ _ _ _ _ _ rfl, size_swp]
  rw [heapPop, ← ih _ (by rw [hsz]; omega) (by rw [hsz]; exact hs) (by rw [hsz]; exact h0)]
  refine runLoop_step ?_
  simp only [Lslices_heapSortOrdered_of_uint64_s2, e, if_pos (show (0 : Int) ≤ (k : Int) by omega), wA (show first + k < 9223372036854775808 by omega), iB h1, iB h2, gB h1, gB h2, iB1 h2, swpL]
  have := sift_eq (swp d first (first + k)) 0 k first (by rw [size_swp]; omega) (by rw [size_swp]; exact hs) (Nat.zero_le _)
  rw [show (((0 : Nat) : Int)) = 0 from rfl] at this
  rw [this, bind_some', chk_bind (by simp [sift_size _ _ _ _ _ _ rfl]), wi _ (by omega)]
theorem heapBuild_loop (a b : Nat) (l0 : List Int) (hab : a ≤ b) : ∀ (k : Nat) (d : Array Int), k ≤ d.size + 1 → b ≤ d.size → d.size < 4611686018427387904 → d.size = l0.length → runLoop (Lslices_heapSortOrdered_of_uint64_s1 (b : Int) (a : Int) l0) ((k : Int) - 1, d.toList) = some (heapPop ltInt a (b - a) (heapBuild ltInt (b - a) a k d)).toList := by
 intro k
 induction k with
 | zero =>
  intro d hk hb hs h0
  rw [heapBuild]
  refine runLoop_exit ?_
  simp only [Lslices_heapSortOrdered_of_uint64_s1, if_neg (show ¬ (0 : Int) ≤ ((0 : Nat) : Int) - 1 by omega), Lslices_heapSortOrdered_of_uint64_k1, wD hab (show b < 9223372036854775808 by omega)]
  rw [wi _ (by omega), heapPop_loop a l0 (b - a) d (by omega) hs h0]
 | succ k ih =>
  intro d hk hb hs h0
  have e : ((k + 1 : Nat) : Int) - 1 = (k : Int) := by omega
  have hsz : (siftDown ltInt (b - a) a k d).size = d.size := sift_size _ _ _ _ _ _ rfl
  rw [heapBuild, ← ih _ (by rw [hsz]; omega) (by rw [hsz]; exact hb) (by rw [hsz]; exact hs) (by rw [hsz]; exact h0)]
  refine runLoop_step ?_
  simp only [Lslices_heapSortOrdered_of_uint64_s1, e, if_pos (show (0 : Int) ≤ (k : Int) by omega), wD hab (show b < 9223372036854775808 by omega)]
  rw [sift_eq d k (b - a) a (by omega) hs (by omega), bind_some', chk_bind (by simp [hsz]), wi _ (by omega)]
theorem heap_eq (d : Array Int) (a b : Nat) (hab : a ≤ b) (hb : b ≤ d.size) (hs : d.size < 4611686018427387904) : Lslices_heapSortOrdered_of_uint64 d.toList (a : Int) (b : Int) = some (heapSort ltInt d a b).toList := by
 have e : IntKind.i64.wrap ((IntKind.i64.wrap (((b - a : Nat) : Int) - 1)).tdiv 2) = (((b - a - 1) / 2 + 1 : Nat) : Int) - 1 := by
  rw [wi (((b - a : Nat) : Int) - 1) (by omega)]
  rcases Nat.eq_zero_or_pos (b - a) with h | h
  ·rw [h]; decide
  ·have e1 : ((b - a : Nat) : Int) - 1 = ((b - a - 1 : Nat) : Int) := by omega
   have e2 : (((b - a - 1 : Nat) : Int)).tdiv 2 = (((b - a - 1) / 2 : Nat) : Int) := by
    rw [Int.tdiv_eq_ediv_of_nonneg (by omega)]; omega
   rw [e1, e2, wi _ (by omega)]
   omega
 rw [Lslices_heapSortOrdered_of_uint64, wD hab (by omega), e, heapBuild_loop a b d.toList hab _ d (by omega) hb hs (by simp)]
 rfl

/-! reverse -/
theorem rev_loop (l0 : List Int) : ∀ (n i j : Nat) (d : Array Int), j - i = n → j < d.size ∨ j ≤ i → i < 4611686018427387904 → d.size < 4611686018427387904 → d.size = l0.length → runLoop (Lslices_reverseRangeOrdered_of_uint64_s1 l0) ((i : Int), (j : Int), d.toList) = some (reverseLoop i j d).toList := by
 intro n
 induction n using Nat.strongRecOn with
 | _ n ih =>
  intro i j d h hj hi hs h0
  have hc : d.toList.length = l0.length := by simpa using h0
  rw [reverseLoop]
  by_cases g : i < j
  ·have hi' : i < d.size := by omega
   have hj' : j < d.size := by omega
   rw [if_pos g, ← ih (j - 1 - (i + 1)) (by omega) (i + 1) (j - 1) _ rfl (by rw [size_swp]; omega) (by omega) (by rw [size_swp]; exact hs) (by rw [size_swp]; exact h0)]
   refine runLoop_step ?_
   simp only [Lslices_reverseRangeOrdered_of_uint64_s1, if_pos (show (i : Int) < (j : Int) by omega), iB hi', iB hj', gB hi', gB hj', iB1 hj', swpL, wS (show i < 9223372036854775807 by omega)]
   rw [wi _ (by omega), show (j : Int) - 1 = ((j - 1 : Nat) : Int) by omega]
  ·rw [if_neg g]
   refine runLoop_end ?_
   simp only [Lslices_reverseRangeOrdered_of_uint64_s1, if_neg (show ¬ (i : Int) < (j : Int) by omega)]
   rw [chk_bind hc]
theorem rev_eq (d : Array Int) (a b : Nat) (hab : a < b) (hb : b ≤ d.size) (hs : d.size < 4611686018427387904) : Lslices_reverseRangeOrdered_of_uint64 d.toList (a : Int) (b : Int) = some (reverseRange d a b).toList := by
 rw [Lslices_reverseRangeOrdered_of_uint64, wi _ (by omega), show (b : Int) - 1 = ((b - 1 : Nat) : Int) by omega, rev_loop d.toList _ a (b - 1) d rfl (by omega) (by omega) hs (by simp)]
 rfl

/-! the scans -/
theorem scanUp_loop {ρ : Type} (step : Int → Option (Int ⊕ ρ)) (k : Int → Option ρ) (p : Int → Bool) (d : Array Int) (j : Nat) (h1 : ∀ i : Nat, i ≤ j → step (i : Int) = if p d[i]! = true then some (.inl ((i + 1 : Nat) : Int)) else (k (i : Int)).map .inr) (h2 : ∀ i : Nat, ¬ i ≤ j → step (i : Int) = (k (i : Int)).map .inr) : ∀ (n i : Nat), j + 1 - i = n → runLoop step (i : Int) = k ((scanUp p d j i : Nat) : Int) := by
 intro n
 induction n with
 | zero =>
  intro i hn
  rw [scanUp, if_neg (by simp; omega)]
  exact runLoop_exit (h2 i (by omega))
 | succ n ih =>
  intro i hn
  rw [scanUp]
  by_cases hp : p d[i]! = true
  ·rw [if_pos (by simp [hp]; omega), ← ih (i + 1) (by omega)]
   exact runLoop_step (by rw [h1 i (by omega), if_pos hp])
  ·rw [if_neg (by simp [hp])]
   exact runLoop_exit (by rw [h1 i (by omega), if_neg hp])
theorem scanDown_loop {ρ : Type} (step : Int → Option (Int ⊕ ρ)) (k : Int → Option ρ) (p : Int → Bool) (d : Array Int) (i : Nat) (hi : 1 ≤ i) (h1 : ∀ j : Nat, i ≤ j + 1 → j + 1 < d.size → step ((j + 1 : Nat) : Int) = if p d[j + 1]! = true then some (.inl (j : Int)) else (k ((j + 1 : Nat) : Int)).map .inr) (h2 : ∀ j : Nat, ¬ i ≤ j → step (j : Int) = (k (j : Int)).map .inr) : ∀ (j : Nat), j < d.size → runLoop step (j : Int) = k ((scanDown p d i j : Nat) : Int)
 | 0, _ => by
  rw [scanDown]
  exact runLoop_exit (h2 0 (by omega))
 | j + 1, hj => by
  rw [scanDown]
  by_cases hij : i ≤ j + 1
  ·by_cases hp : p d[j + 1]! = true
   ·rw [if_pos (by simp [hp]; omega), ← scanDown_loop step k p d i hi h1 h2 j (by omega)]
    exact runLoop_step (by rw [h1 j hij hj, if_pos hp])
   ·rw [if_neg (by simp [hp])]
    exact runLoop_exit (by rw [h1 j hij hj, if_neg hp])
  ·rw [if_neg (by simp [hij])]
   exact runLoop_exit (h2 (j + 1) hij)

/-! partitionEqual -/
theorem pe_up (d : Array Int) (a j : Nat) (l0 : List Int) (ha : a < d.size) (hj : j < d.size) (hs : d.size < 4611686018427387904) (i : Nat) : runLoop (Lslices_partitionEqualOrdered_of_uint64_s2 (j : Int) d.toList (a : Int) l0) (i : Int) = Lslices_partitionEqualOrdered_of_uint64_k2 ((scanUp (fun x => !ltInt d[a]! x) d j i : Nat) : Int) d.toList (a : Int) l0 (j : Int) := by
 refine scanUp_loop _ (fun q => Lslices_partitionEqualOrdered_of_uint64_k2 q d.toList (a : Int) l0 (j : Int)) _ d j (fun i hi => ?_) (fun i hi => ?_) _ i rfl
 ·have hc : (i : Int) ≤ (j : Int) := by omega
  have hi' : i < d.size := by omega
  simp only [Lslices_partitionEqualOrdered_of_uint64_s2, hc, if_true, iB ha, iB hi', gB ha, gB hi', less_eq, sB, true_and, wS (show i < 9223372036854775807 by omega)]
 ·have hc : ¬ (i : Int) ≤ (j : Int) := by omega
  simp only [Lslices_partitionEqualOrdered_of_uint64_s2, hc, if_false, sB, false_and]
theorem pe_down (d : Array Int) (a i : Nat) (l0 : List Int) (ha : a < d.size) (hi : 1 ≤ i) (hs : d.size < 4611686018427387904) (j : Nat) (hj : j < d.size) : runLoop (Lslices_partitionEqualOrdered_of_uint64_s3 (i : Int) d.toList (a : Int) l0) (j : Int) = Lslices_partitionEqualOrdered_of_uint64_k3 ((scanDown (fun x => ltInt d[a]! x) d i j : Nat) : Int) (i : Int) d.toList l0 := by
 refine scanDown_loop _ (fun q => Lslices_partitionEqualOrdered_of_uint64_k3 q (i : Int) d.toList l0) _ d i hi (fun j hij hj => ?_) (fun j hj => ?_) j hj
 ·have hc : (i : Int) ≤ ((j + 1 : Nat) : Int) := by omega
  simp only [Lslices_partitionEqualOrdered_of_uint64_s3, hc, if_true, iB ha, iB hj, gB ha, gB hj, less_eq, sB, true_and, wP (show j < 9223372036854775807 by omega)]
 ·have hc : ¬ (i : Int) ≤ (j : Int) := by omega
  simp only [Lslices_partitionEqualOrdered_of_uint64_s3, hc, if_false, sB, false_and]
theorem pe_loop (a : Nat) (l0 : List Int) : ∀ (n i j : Nat) (d : Array Int), j + 1 - i = n → 1 ≤ i → a < d.size → j < d.size → d.size < 4611686018427387904 → i ≤ j + 2 → d.size = l0.length → runLoop (Lslices_partitionEqualOrdered_of_uint64_s1 (a : Int) l0) ((i : Int), (j : Int), d.toList) = some (((partEqLoop ltInt a i j d).1 : Int), (partEqLoop ltInt a i j d).2.toList) := by
 intro n
 induction n using Nat.strongRecOn with
 | _ n ih =>
  intro i j d hn hi ha hj hs hij h0
  have hc : d.toList.length = l0.length := by simpa using h0
  have u1 := scanUp_ge (fun x => !ltInt d[a]! x) d j i
  have v1 := scanDown_le (fun x => ltInt d[a]! x) d (scanUp (fun x => !ltInt d[a]! x) d j i) j
  have hst : Lslices_partitionEqualOrdered_of_uint64_s1 (a : Int) l0 ((i : Int), (j : Int), d.toList) = Lslices_partitionEqualOrdered_of_uint64_k3 ((scanDown (fun x => ltInt d[a]! x) d (scanUp (fun x => !ltInt d[a]! x) d j i) j : Nat) : Int) ((scanUp (fun x => !ltInt d[a]! x) d j i : Nat) : Int) d.toList l0 := by
   rw [Lslices_partitionEqualOrdered_of_uint64_s1, pe_up d a j l0 ha hj hs i, Lslices_partitionEqualOrdered_of_uint64_k2, pe_down d a _ l0 ha (by omega) hs j hj]
  rw [partEqLoop_eq]
  generalize scanUp (fun x => !ltInt d[a]! x) d j i = i2 at u1 v1 hst ⊢
  generalize scanDown (fun x => ltInt d[a]! x) d i2 j = j2 at v1 hst ⊢
  by_cases g : i2 > j2
  ·rw [if_pos g]
   refine runLoop_end ?_
   rw [hst, Lslices_partitionEqualOrdered_of_uint64_k3, if_pos (by omega), Lslices_partitionEqualOrdered_of_uint64_k1, chk_bind hc]
   rfl
  ·rw [if_neg g]
   have hi2 : i2 < d.size := by omega
   have hj2 : j2 < d.size := by omega
   rw [← ih (j2 - 1 + 1 - (i2 + 1)) (by omega) (i2 + 1) (j2 - 1) (swp d i2 j2) rfl (by omega) (by rw [size_swp]; exact ha) (by rw [size_swp]; omega) (by rw [size_swp]; exact hs) (by omega) (by rw [size_swp]; exact h0)]
   refine runLoop_step ?_
   rw [hst, Lslices_partitionEqualOrdered_of_uint64_k3, if_neg (by omega)]
   simp only [iB hi2, iB hj2, gB hi2, gB hj2, iB1 hj2, swpL, wS (show i2 < 9223372036854775807 by omega)]
   rw [wi _ (by omega), show (j2 : Int) - 1 = ((j2 - 1 : Nat) : Int) by omega]
theorem pe_eq (d : Array Int) (a b pivot : Nat) (hap : a ≤ pivot) (hpb : pivot < b) (hb : b ≤ d.size) (hs : d.size < 4611686018427387904) : Lslices_partitionEqualOrdered_of_uint64 d.toList (a : Int) (b : Int) (pivot : Int) = some (((partitionEqual ltInt d a b pivot).1 : Int), (partitionEqual ltInt d a b pivot).2.toList) := by
 have hp : pivot < d.size := by omega
 have ha : a < d.size := by omega
 rw [Lslices_partitionEqualOrdered_of_uint64]
 simp only [iB hp, iB ha, gB hp, gB ha, iB1 hp, swpL, wS (show a < 9223372036854775807 by omega)]
 rw [wi _ (by omega), show (b : Int) - 1 = ((b - 1 : Nat) : Int) by omega, pe_loop a d.toList _ (a + 1) (b - 1) (swp d a pivot) rfl (by omega) (by rw [size_swp]; exact ha) (by rw [size_swp]; omega) (by rw [size_swp]; exact hs) (by omega) (by simp [size_swp])]
 rfl

/-! partition -/
theorem pt_up (d : Array Int) (a j : Nat) (l0 : List Int) (ha : a < d.size) (hj : j < d.size) (hs : d.size < 4611686018427387904) (i : Nat) : runLoop (Lslices_partitionOrdered_of_uint64_s4 (j : Int) d.toList (a : Int) l0) (i : Int) = Lslices_partitionOrdered_of_uint64_k4 ((scanUp (fun x => ltInt x d[a]!) d j i : Nat) : Int) d.toList (a : Int) l0 (j : Int) := by
 refine scanUp_loop _ (fun q => Lslices_partitionOrdered_of_uint64_k4 q d.toList (a : Int) l0 (j : Int)) _ d j (fun i hi => ?_) (fun i hi => ?_) _ i rfl
 ·have hc : (i : Int) ≤ (j : Int) := by omega
  have hi' : i < d.size := by omega
  simp only [Lslices_partitionOrdered_of_uint64_s4, hc, if_true, iB ha, iB hi', gB ha, gB hi', less_eq, sB, true_and, wS (show i < 9223372036854775807 by omega)]
 ·have hc : ¬ (i : Int) ≤ (j : Int) := by omega
  simp only [Lslices_partitionOrdered_of_uint64_s4, hc, if_false, sB, false_and]
theorem pt_down (d : Array Int) (a i : Nat) (l0 : List Int) (ha : a < d.size) (hi : 1 ≤ i) (hs : d.size < 4611686018427387904) (j : Nat) (hj : j < d.size) : runLoop (Lslices_partitionOrdered_of_uint64_s5 (i : Int) d.toList (a : Int) l0) (j : Int) = Lslices_partitionOrdered_of_uint64_k5 ((scanDown (fun x => !ltInt x d[a]!) d i j : Nat) : Int) (i : Int) d.toList (a : Int) l0 := by
 refine scanDown_loop _ (fun q => Lslices_partitionOrdered_of_uint64_k5 q (i : Int) d.toList (a : Int) l0) _ d i hi (fun j hij hj => ?_) (fun j hj => ?_) j hj
 ·have hc : (i : Int) ≤ ((j + 1 : Nat) : Int) := by omega
  simp only [Lslices_partitionOrdered_of_uint64_s5, hc, if_true, iB ha, iB hj, gB ha, gB hj, less_eq, sB, true_and, wP (show j < 9223372036854775807 by omega)]
 ·have hc : ¬ (i : Int) ≤ (j : Int) := by omega
  simp only [Lslices_partitionOrdered_of_uint64_s5, hc, if_false, sB, false_and]
theorem pt_k3 (d : Array Int) (a j : Nat) (l0 : List Int) (ha : a < d.size) (hj : j < d.size) (h0 : d.size = l0.length) : Lslices_partitionOrdered_of_uint64_k3 d.toList (a : Int) l0 (j : Int) = some ((j : Int), false, (swp d j a).toList) := by
 have hc : (swp d j a).toList.length = l0.length := by simpa [size_swp] using h0
 simp only [Lslices_partitionOrdered_of_uint64_k3, iB ha, iB hj, gB ha, gB hj, iB1 ha, swpL, chk_bind hc]
theorem pt_loop (a : Nat) (l0 : List Int) : ∀ (n i j : Nat) (d : Array Int), j + 1 - i = n → 1 ≤ i → a < d.size → j < d.size → d.size < 4611686018427387904 → i ≤ j + 2 → d.size = l0.length → runLoop (Lslices_partitionOrdered_of_uint64_s3 (a : Int) l0) ((i : Int), (j : Int), d.toList) = some (((partLoop ltInt a i j d).1 : Int), false, (swp (partLoop ltInt a i j d).2 (partLoop ltInt a i j d).1 a).toList) := by
 intro n
 induction n using Nat.strongRecOn with
 | _ n ih =>
  intro i j d hn hi ha hj hs hij h0
  have u1 := scanUp_ge (fun x => ltInt x d[a]!) d j i
  have v1 := scanDown_le (fun x => !ltInt x d[a]!) d (scanUp (fun x => ltInt x d[a]!) d j i) j
  have hst : Lslices_partitionOrdered_of_uint64_s3 (a : Int) l0 ((i : Int), (j : Int), d.toList) = Lslices_partitionOrdered_of_uint64_k5 ((scanDown (fun x => !ltInt x d[a]!) d (scanUp (fun x => ltInt x d[a]!) d j i) j : Nat) : Int) ((scanUp (fun x => ltInt x d[a]!) d j i : Nat) : Int) d.toList (a : Int) l0 := by
   rw [Lslices_partitionOrdered_of_uint64_s3, pt_up d a j l0 ha hj hs i, Lslices_partitionOrdered_of_uint64_k4, pt_down d a _ l0 ha (by omega) hs j hj]
  rw [partLoop_eq]
  generalize scanUp (fun x => ltInt x d[a]!) d j i = i2 at u1 v1 hst ⊢
  generalize scanDown (fun x => !ltInt x d[a]!) d i2 j = j2 at v1 hst ⊢
  by_cases g : i2 > j2
  ·rw [if_pos g]
   refine runLoop_end ?_
   rw [hst, Lslices_partitionOrdered_of_uint64_k5, if_pos (by omega), pt_k3 d a j2 l0 ha (by omega) h0]
   rfl
  ·rw [if_neg g]
   have hi2 : i2 < d.size := by omega
   have hj2 : j2 < d.size := by omega
   rw [← ih (j2 - 1 + 1 - (i2 + 1)) (by omega) (i2 + 1) (j2 - 1) (swp d i2 j2) rfl (by omega) (by rw [size_swp]; exact ha) (by rw [size_swp]; omega) (by rw [size_swp]; exact hs) (by omega) (by rw [size_swp]; exact h0)]
   refine runLoop_step ?_
   rw [hst, Lslices_partitionOrdered_of_uint64_k5, if_neg (by omega)]
   simp only [iB hi2, iB hj2, gB hi2, gB hj2, iB1 hj2, swpL, wS (show i2 < 9223372036854775807 by omega)]
   rw [wi _ (by omega), show (j2 : Int) - 1 = ((j2 - 1 : Nat) : Int) by omega]
theorem pt_eq (d0 : Array Int) (a b pivot : Nat) (hap : a ≤ pivot) (hpb : pivot < b) (hb : b ≤ d0.size) (hs : d0.size < 4611686018427387904) : Lslices_partitionOrdered_of_uint64 d0.toList (a : Int) (b : Int) (pivot : Int) = some (((partition ltInt d0 a b pivot).1 : Int), (partition ltInt d0 a b pivot).2.1, (partition ltInt d0 a b pivot).2.2.toList) := by
 have hp : pivot < d0.size := by omega
 have ha : a < d0.size := by omega
 rw [Lslices_partitionOrdered_of_uint64]
 simp only [iB hp, iB ha, gB hp, gB ha, iB1 hp, wS (show a < 9223372036854775807 by omega)]
 have hl := swpL d0 a pivot
 have h0 : (swp d0 a pivot).size = d0.toList.length := by simp [size_swp]
 have ha' : a < (swp d0 a pivot).size := by rw [size_swp]; exact ha
 have hb' : b ≤ (swp d0 a pivot).size := by rw [size_swp]; exact hb
 have hs' : (swp d0 a pivot).size < 4611686018427387904 := by rw [size_swp]; exact hs
 rw [partition]
 simp only
 generalize swp d0 a pivot = d at hl h0 ha' hb' hs' ⊢
 have eb : IntKind.i64.wrap ((b : Int) - 1) = ((b - 1 : Nat) : Int) := by rw [wi _ (by omega)]; omega
 have hj : b - 1 < d.size := by omega
 have e1 : runLoop (Lslices_partitionOrdered_of_uint64_s1 (b : Int) d0.toList a d0[pivot]! pivot d0[a]! (a : Int)) ((a + 1 : Nat) : Int) = Lslices_partitionOrdered_of_uint64_k1 ((scanUp (fun x => ltInt x d[a]!) d (b - 1) (a + 1) : Nat) : Int) d0.toList a d0[pivot]! pivot d0[a]! (a : Int) (b : Int) := by
  refine scanUp_loop _ (fun q => Lslices_partitionOrdered_of_uint64_k1 q d0.toList a d0[pivot]! pivot d0[a]! (a : Int) (b : Int)) _ d (b - 1) (fun i hi => ?_) (fun i hi => ?_) _ (a + 1) rfl
  ·have hc : (i : Int) ≤ ((b - 1 : Nat) : Int) := by omega
   have hi' : i < d.size := by omega
   simp only [Lslices_partitionOrdered_of_uint64_s1, eb, hl, hc, if_true, iB ha', iB hi', gB ha', gB hi', less_eq, sB, true_and, wS (show i < 9223372036854775807 by omega)]
  ·have hc : ¬ (i : Int) ≤ ((b - 1 : Nat) : Int) := by omega
   simp only [Lslices_partitionOrdered_of_uint64_s1, eb, hc, if_false, sB, false_and]
 have u1 := scanUp_ge (fun x => ltInt x d[a]!) d (b - 1) (a + 1)
 generalize scanUp (fun x => ltInt x d[a]!) d (b - 1) (a + 1) = i at e1 u1 ⊢
 have e2 : runLoop (Lslices_partitionOrdered_of_uint64_s2 (i : Int) d0.toList a d0[pivot]! pivot d0[a]! (a : Int)) ((b - 1 : Nat) : Int) = Lslices_partitionOrdered_of_uint64_k2 ((scanDown (fun x => !ltInt x d[a]!) d i (b - 1) : Nat) : Int) (i : Int) d0.toList a d0[pivot]! pivot d0[a]! (a : Int) := by
  refine scanDown_loop _ (fun q => Lslices_partitionOrdered_of_uint64_k2 q (i : Int) d0.toList a d0[pivot]! pivot d0[a]! (a : Int)) _ d i (by omega) (fun j hij hj => ?_) (fun j hj => ?_) (b - 1) hj
  ·have hc : (i : Int) ≤ ((j + 1 : Nat) : Int) := by omega
   simp only [Lslices_partitionOrdered_of_uint64_s2, hl, hc, if_true, iB ha', iB hj, gB ha', gB hj, less_eq, sB, true_and, wP (show j < 9223372036854775807 by omega)]
  ·have hc : ¬ (i : Int) ≤ (j : Int) := by omega
   simp only [Lslices_partitionOrdered_of_uint64_s2, hc, if_false, sB, false_and]
 have v1 := scanDown_le (fun x => !ltInt x d[a]!) d i (b - 1)
 generalize scanDown (fun x => !ltInt x d[a]!) d i (b - 1) = j at e2 v1 ⊢
 rw [e1, Lslices_partitionOrdered_of_uint64_k1, eb, e2, Lslices_partitionOrdered_of_uint64_k2, hl]
 have hj2 : j < d.size := by omega
 by_cases g : i > j
 ·have hc : (swp d j a).toList.length = d0.toList.length := by rw [← h0]; simp [size_swp]
  simp only [if_pos (show (j : Int) < (i : Int) by omega), if_pos g, iB ha', iB hj2, gB ha', gB hj2, iB1 ha', swpL, chk_bind hc]
 ·have hi2 : i < d.size := by omega
  simp only [if_neg (show ¬ (j : Int) < (i : Int) by omega), if_neg g, iB hi2, iB hj2, gB hi2, gB hj2, iB1 hj2, swpL, wS (show i < 9223372036854775807 by omega)]
  rw [wi _ (by omega), show (j : Int) - 1 = ((j - 1 : Nat) : Int) by omega, pt_loop a d0.toList _ (i + 1) (j - 1) (swp d i j) rfl (by omega) (by rw [size_swp]; exact ha') (by rw [size_swp]; omega) (by rw [size_swp]; exact hs') (by omega) (by rw [size_swp]; exact h0)]
end Go.Lc
end
section
/- The sort of the program, the rest: it gives the sorted list. -/
namespace Go.Lc
open Go.RowKit
open Go.Av
open Go.Sort
set_option linter.unusedVariables false
set_option linter.unusedSimpArgs false

/-! partialInsertionSort -/
theorem shiftDown_size (lt : Int → Int → Bool) : ∀ (j : Nat) (d : Array Int), (shiftDown lt j d).size = d.size
 | 0, d => by rw [shiftDown]
 | j + 1, d => by
  rw [shiftDown]
  split
  ·rfl
  ·rw [shiftDown_size lt j, size_swp]
theorem shiftUp_size (lt : Int → Int → Bool) (b : Nat) : ∀ (n j : Nat) (d : Array Int), b - j = n → (shiftUp lt b j d).size = d.size := by
 intro n
 induction n with
 | zero => intro j d h; rw [shiftUp, if_neg (by omega)]
 | succ n ih =>
  intro j d h
  rw [shiftUp, if_pos (by omega)]
  split
  ·rfl
  ·rw [ih _ _ (by omega), size_swp]
theorem scanSorted_spec (lt : Int → Int → Bool) (d : Array Int) (b : Nat) : ∀ (n i : Nat), b - i = n → i ≤ scanSorted lt d b i ∧ (i ≤ b → scanSorted lt d b i ≤ b) := by
 intro n
 induction n with
 | zero => intro i h; rw [scanSorted, if_neg (by simp; omega)]; exact ⟨Nat.le_refl _, fun h => h⟩
 | succ n ih =>
  intro i h
  rw [scanSorted]
  split
  ·have := ih (i + 1) (by omega); omega
  ·exact ⟨Nat.le_refl _, fun h => h⟩
theorem pi_scan (d : Array Int) (a b : Nat) (c : Int) (l0 : List Int) (hb : b ≤ d.size) (hs : d.size < 4611686018427387904) : ∀ (n i : Nat), b - i = n → 1 ≤ i → runLoop (Lslices_partialInsertionSortOrdered_of_uint64_s2 (b : Int) d.toList l0 (a : Int) c) (i : Int) = Lslices_partialInsertionSortOrdered_of_uint64_k2 ((scanSorted ltInt d b i : Nat) : Int) (b : Int) d.toList l0 (a : Int) c := by
 intro n
 induction n with
 | zero =>
  intro i h hi
  rw [scanSorted, if_neg (by simp; omega)]
  refine runLoop_exit ?_
  simp only [Lslices_partialInsertionSortOrdered_of_uint64_s2, (show ¬ (i : Int) < (b : Int) by omega), if_false, sB, false_and]
 | succ n ih =>
  intro i h hi
  obtain ⟨i, rfl⟩ : ∃ k, i = k + 1 := ⟨i - 1, by omega⟩
  have h1 : i + 1 < d.size := by omega
  have h2 : i < d.size := by omega
  have hc : ((i + 1 : Nat) : Int) < (b : Int) := by omega
  rw [scanSorted]
  cases hl : ltInt d[i + 1]! d[i]! with
  | false =>
   rw [if_pos (by simp [hl]; omega), ← ih _ (by omega) (by omega)]
   refine runLoop_step ?_
   simp only [Lslices_partialInsertionSortOrdered_of_uint64_s2, hc, if_true, iB h1, gB h1, wP (show i < 9223372036854775807 by omega), iB h2, gB h2, less_eq, sB, hl, Bool.not_false, true_and, wS (show i + 1 < 9223372036854775807 by omega)]
  | true =>
   rw [if_neg (by simp [hl])]
   refine runLoop_exit ?_
   simp only [Lslices_partialInsertionSortOrdered_of_uint64_s2, hc, if_true, iB h1, gB h1, wP (show i < 9223372036854775807 by omega), iB h2, gB h2, less_eq, sB, hl, Bool.not_true, true_and, Bool.false_eq_true, if_false]
theorem pi_down (b i : Nat) (c : Int) : ∀ (j : Nat) (d : Array Int), j < d.size → d.size < 4611686018427387904 → runLoop (Lslices_partialInsertionSortOrdered_of_uint64_s4 (b : Int) (i : Int) c) ((j : Int), d.toList) = Lslices_partialInsertionSortOrdered_of_uint64_k3 (b : Int) (i : Int) c (shiftDown ltInt j d).toList
 | 0, d, hj, hs => by
  rw [shiftDown]
  refine runLoop_exit ?_
  simp only [Lslices_partialInsertionSortOrdered_of_uint64_s4, if_neg (show ¬ (1 : Int) ≤ ((0 : Nat) : Int) by omega)]
 | j + 1, d, hj, hs => by
  have hj' : j < d.size := by omega
  have hc : (1 : Int) ≤ ((j + 1 : Nat) : Int) := by omega
  rw [shiftDown]
  cases hl : ltInt d[j + 1]! d[j]! with
  | false =>
   rw [if_pos (by simp)]
   refine runLoop_exit ?_
   simp only [Lslices_partialInsertionSortOrdered_of_uint64_s4, if_pos hc, iB hj, gB hj, wP (show j < 9223372036854775807 by omega), iB hj', gB hj', less_eq, sB, hl, Bool.false_eq_true, not_false_eq_true, if_true]
  | true =>
   rw [if_neg (by simp), ← pi_down b i c j _ (by rw [size_swp]; exact hj') (by rw [size_swp]; exact hs)]
   refine runLoop_step ?_
   simp only [Lslices_partialInsertionSortOrdered_of_uint64_s4, if_pos hc, iB hj, gB hj, wP (show j < 9223372036854775807 by omega), iB hj', gB hj', less_eq, sB, hl, not_true_eq_false, if_false, iB1 hj', swpL]
theorem pi_up (b i : Nat) (c : Int) : ∀ (n j : Nat) (d : Array Int), b - j = n → 1 ≤ j → b ≤ d.size → d.size < 4611686018427387904 → runLoop (Lslices_partialInsertionSortOrdered_of_uint64_s3 (b : Int) (i : Int) c) ((j : Int), d.toList) = Lslices_partialInsertionSortOrdered_of_uint64_k4 (i : Int) c (shiftUp ltInt b j d).toList := by
 intro n
 induction n with
 | zero =>
  intro j d h hj hb hs
  rw [shiftUp, if_neg (by omega)]
  refine runLoop_exit ?_
  simp only [Lslices_partialInsertionSortOrdered_of_uint64_s3, if_neg (show ¬ (j : Int) < (b : Int) by omega)]
 | succ n ih =>
  intro j d h hj hb hs
  obtain ⟨j, rfl⟩ : ∃ k, j = k + 1 := ⟨j - 1, by omega⟩
  have h1 : j + 1 < d.size := by omega
  have h2 : j < d.size := by omega
  have hc : ((j + 1 : Nat) : Int) < (b : Int) := by omega
  rw [shiftUp, if_pos (by omega)]
  cases hl : ltInt d[j + 1]! d[j]! with
  | false =>
   rw [if_pos (by simp [hl])]
   refine runLoop_exit ?_
   simp only [Lslices_partialInsertionSortOrdered_of_uint64_s3, if_pos hc, iB h1, gB h1, wP (show j < 9223372036854775807 by omega), iB h2, gB h2, less_eq, sB, hl, Bool.false_eq_true, not_false_eq_true, if_true]
  | true =>
   rw [if_neg (by simp [hl]), show j + 1 - 1 = j by omega, ← ih _ _ (by omega) (by omega) (by rw [size_swp]; exact hb) (by rw [size_swp]; exact hs)]
   refine runLoop_step ?_
   simp only [Lslices_partialInsertionSortOrdered_of_uint64_s3, if_pos hc, iB h1, gB h1, wP (show j < 9223372036854775807 by omega), iB h2, gB h2, less_eq, sB, hl, not_true_eq_false, if_false, iB1 h2, swpL, wS (show j + 1 < 9223372036854775807 by omega)]
theorem pi_loop (a b : Nat) (l0 : List Int) : ∀ (s i : Nat) (d : Array Int), s ≤ 5 → a < i → i ≤ b → b ≤ d.size → d.size < 4611686018427387904 → d.size = l0.length → runLoop (Lslices_partialInsertionSortOrdered_of_uint64_s1 (b : Int) l0 (a : Int)) ((i : Int), ((5 - s : Nat) : Int), d.toList) = some ((partialIns ltInt a b s i d).2, (partialIns ltInt a b s i d).1.toList) := by
 intro s
 induction s with
 | zero =>
  intro i d h5 hai hib hb hs h0
  have hc : d.toList.length = l0.length := by simpa using h0
  rw [partialIns]
  refine runLoop_end ?_
  simp only [Lslices_partialInsertionSortOrdered_of_uint64_s1, if_neg (show ¬ ((5 - 0 : Nat) : Int) < 5 by omega), Lslices_partialInsertionSortOrdered_of_uint64_k1, chk_bind hc]
  rfl
 | succ s ih =>
  intro i d h5 hai hib hb hs h0
  have hc : d.toList.length = l0.length := by simpa using h0
  obtain ⟨u1, u2⟩ := scanSorted_spec ltInt d b _ i rfl
  have hst : Lslices_partialInsertionSortOrdered_of_uint64_s1 (b : Int) l0 (a : Int) ((i : Int), ((5 - (s + 1) : Nat) : Int), d.toList) = Lslices_partialInsertionSortOrdered_of_uint64_k2 ((scanSorted ltInt d b i : Nat) : Int) (b : Int) d.toList l0 (a : Int) ((5 - (s + 1) : Nat) : Int) := by
   rw [Lslices_partialInsertionSortOrdered_of_uint64_s1, if_pos (by omega), pi_scan d a b _ l0 hb hs _ i rfl (by omega)]
  rw [partialIns]
  have u3 := u2 hib
  simp only
  generalize scanSorted ltInt d b i = k at u1 u3 hst ⊢
  clear u2
  by_cases g : k = b
  ·rw [if_pos g]
   refine runLoop_end ?_
   rw [hst, Lslices_partialInsertionSortOrdered_of_uint64_k2, if_pos (by omega), chk_bind hc]
  ·rw [if_neg g]
   by_cases g2 : b - a < 50
   ·rw [if_pos g2]
    refine runLoop_end ?_
    rw [hst, Lslices_partialInsertionSortOrdered_of_uint64_k2, if_neg (by omega), wD (by omega) (by omega), if_pos (by omega), chk_bind hc]
   ·rw [if_neg g2]
    obtain ⟨k, rfl⟩ : ∃ q, k = q + 1 := ⟨k - 1, by omega⟩
    have h1 : k + 1 < d.size := by omega
    have h2 : k < d.size := by omega
    rw [show k + 1 - 1 = k by omega]
    have e1 : Lslices_partialInsertionSortOrdered_of_uint64_s1 (b : Int) l0 (a : Int) ((i : Int), ((5 - (s + 1) : Nat) : Int), d.toList) = Lslices_partialInsertionSortOrdered_of_uint64_k3 (b : Int) ((k + 1 : Nat) : Int) ((5 - (s + 1) : Nat) : Int) (if k + 1 - a ≥ 2 then shiftDown ltInt k (swp d (k + 1) k) else swp d (k + 1) k).toList := by
     rw [hst, Lslices_partialInsertionSortOrdered_of_uint64_k2, if_neg (by omega), wD (by omega) (by omega), if_neg (by omega)]
     simp only [wP (show k < 9223372036854775807 by omega), iB h1, iB h2, gB h1, gB h2, iB1 h2, swpL, wD (show a ≤ k + 1 by omega) (show k + 1 < 9223372036854775808 by omega)]
     by_cases g3 : k + 1 - a ≥ 2
     ·rw [if_pos (show (2 : Int) ≤ ((k + 1 - a : Nat) : Int) by omega), if_pos g3, pi_down b (k + 1) _ k _ (by rw [size_swp]; exact h2) (by rw [size_swp]; exact hs)]
     ·rw [if_neg (show ¬ (2 : Int) ≤ ((k + 1 - a : Nat) : Int) by omega), if_neg g3]
    have hz : (if k + 1 - a ≥ 2 then shiftDown ltInt k (swp d (k + 1) k) else swp d (k + 1) k).size = d.size := by
     split
     ·rw [shiftDown_size, size_swp]
     ·rw [size_swp]
    generalize (if k + 1 - a ≥ 2 then shiftDown ltInt k (swp d (k + 1) k) else swp d (k + 1) k) = d2 at e1 hz ⊢
    have hz2 : (if b - (k + 1) ≥ 2 then shiftUp ltInt b (k + 1 + 1) d2 else d2).size = d.size := by
     split
     ·rw [shiftUp_size _ _ _ _ _ rfl, hz]
     ·exact hz
    rw [← ih (k + 1) _ (by omega) (by omega) (by omega) (by rw [hz2]; exact hb) (by rw [hz2]; exact hs) (by rw [hz2]; exact h0)]
    refine runLoop_step ?_
    have ec : IntKind.i64.wrap (((5 - (s + 1) : Nat) : Int) + 1) = ((5 - s : Nat) : Int) := by rw [wS (by omega)]; omega
    rw [e1, Lslices_partialInsertionSortOrdered_of_uint64_k3, wD (by omega) (by omega)]
    by_cases g4 : b - (k + 1) ≥ 2
    ·rw [if_pos (by omega), if_pos g4, wS (by omega), pi_up b (k + 1) _ _ (k + 1 + 1) d2 rfl (by omega) (by rw [hz]; exact hb) (by rw [hz]; exact hs), Lslices_partialInsertionSortOrdered_of_uint64_k4, ec]
    ·rw [if_neg (by omega), if_neg g4, Lslices_partialInsertionSortOrdered_of_uint64_k4, ec]
theorem pi_eq (d : Array Int) (a b : Nat) (hab : a < b) (hb : b ≤ d.size) (hs : d.size < 4611686018427387904) : Lslices_partialInsertionSortOrdered_of_uint64 d.toList (a : Int) (b : Int) = some ((partialInsertionSort ltInt d a b).2, (partialInsertionSort ltInt d a b).1.toList) := by
 rw [Lslices_partialInsertionSortOrdered_of_uint64, wS (by omega)]
 exact pi_loop a b d.toList 5 (a + 1) d (by omega) (by omega) (by omega) hb hs (by simp)

/-! the pivot -/
def In (lo hi : Nat) (x : Int) : Prop := ∃ n : Nat, x = (n : Int) ∧ lo ≤ n ∧ n < hi
theorem xB {β : Type} {d : Array Int} {i : Nat} {f : Int → Option β} (h : i < d.size) : (idx d.toList (i : Int)).bind f = f d[i]! := by
 rw [idx_bind (by simpa using h)]
 congr 1
 simp [getElem!_pos d i h]
theorem order2_in (d : Array Int) (lo hi : Nat) (hh : hi ≤ d.size) {x y : Int} (s : Int) (hx : In lo hi x) (hy : In lo hi y) : Tot (Lslices_order2Ordered_of_uint64 d.toList x y s) fun r => In lo hi r.1 ∧ In lo hi r.2.1 := by
 obtain ⟨i, rfl, h1, h2⟩ := hx
 obtain ⟨j, rfl, h3, h4⟩ := hy
 rw [Lslices_order2Ordered_of_uint64, xB (by omega), xB (by omega), less_eq, sB]
 exact tot_ite (fun _ => tot_some ⟨⟨j, rfl, h3, h4⟩, ⟨i, rfl, h1, h2⟩⟩) (fun _ => tot_some ⟨⟨i, rfl, h1, h2⟩, ⟨j, rfl, h3, h4⟩⟩)
theorem median_in (d : Array Int) (lo hi : Nat) (hh : hi ≤ d.size) {x y z : Int} (s : Int) (hx : In lo hi x) (hy : In lo hi y) (hz : In lo hi z) : Tot (Lslices_medianOrdered_of_uint64 d.toList x y z s) fun r => In lo hi r.1 := by
 rw [Lslices_medianOrdered_of_uint64]
 refine (order2_in d lo hi hh s hx hy).bind fun r1 h1 => (order2_in d lo hi hh _ h1.2 hz).bind fun r2 h2 => (order2_in d lo hi hh _ h1.1 h2.1).bind fun r3 h3 => tot_some h3.2
theorem medianAdj_in (d : Array Int) (lo hi : Nat) (hh : hi ≤ d.size) (hs : d.size < 4611686018427387904) (i : Nat) (s : Int) (h1 : lo < i) (h2 : i + 1 < hi) : Tot (Lslices_medianAdjacentOrdered_of_uint64 d.toList (i : Int) s) fun r => In lo hi r.1 := by
 rw [Lslices_medianAdjacentOrdered_of_uint64, wS (by omega), wi _ (by omega), show (i : Int) - 1 = ((i - 1 : Nat) : Int) by omega]
 exact (median_in d lo hi hh s ⟨i - 1, rfl, by omega, by omega⟩ ⟨i, rfl, by omega, by omega⟩ ⟨i + 1, rfl, by omega, by omega⟩).bind fun r h => tot_some h
theorem cp_k1 {lo hi : Nat} {p : Int} (s : Int) (h : In lo hi p) : Tot (Lslices_choosePivotOrdered_of_uint64_k1 p s) fun r => In lo hi r.1 := by
 rw [Lslices_choosePivotOrdered_of_uint64_k1]
 exact tot_ite (fun _ => tot_some h) (fun _ => tot_ite (fun _ => tot_some h) (fun _ => tot_some h))
theorem cp_k2 (d : Array Int) (lo hi : Nat) (hh : hi ≤ d.size) {x y z : Int} (s : Int) (hx : In lo hi x) (hy : In lo hi y) (hz : In lo hi z) : Tot (Lslices_choosePivotOrdered_of_uint64_k2 d.toList x y z s) fun r => In lo hi r.1 := by
 rw [Lslices_choosePivotOrdered_of_uint64_k2]
 exact (median_in d lo hi hh s hx hy hz).bind fun r h => cp_k1 _ h
theorem pivot_in (d : Array Int) (a b : Nat) (hab : a < b) (hb : b ≤ d.size) (hs : d.size < 4611686018427387904) : Tot (Lslices_choosePivotOrdered_of_uint64 d.toList (a : Int) (b : Int)) fun r => In a b r.1 := by
 have e0 : IntKind.i64.wrap ((b : Int) - (a : Int)) = ((b - a : Nat) : Int) := wD (by omega) (by omega)
 have e1 : IntKind.i64.wrap ((((b - a : Nat) : Int)).tdiv 4) = (((b - a) / 4 : Nat) : Int) := by
  rw [Int.tdiv_eq_ediv_of_nonneg (by omega), wi _ (by omega)]; omega
 have e2 : IntKind.i64.wrap ((((b - a) / 4 : Nat) : Int)) = (((b - a) / 4 : Nat) : Int) := wI _ (by omega)
 have e3 : IntKind.i64.wrap ((((b - a) / 4 : Nat) : Int) * 2) = (((b - a) / 4 * 2 : Nat) : Int) := by rw [wi _ (by omega)]; omega
 have e4 : IntKind.i64.wrap ((((b - a) / 4 : Nat) : Int) * 3) = (((b - a) / 4 * 3 : Nat) : Int) := by rw [wi _ (by omega)]; omega
 rw [Lslices_choosePivotOrdered_of_uint64]
 simp only [e0, e1, e2, e3, e4, wA (show a + (b - a) / 4 < 9223372036854775808 by omega), wA (show a + (b - a) / 4 * 2 < 9223372036854775808 by omega), wA (show a + (b - a) / 4 * 3 < 9223372036854775808 by omega)]
 refine tot_ite (fun h8 => tot_ite (fun h50 => ?_) (fun _ => ?_)) (fun _ => ?_)
 ·exact (medianAdj_in d a b hb hs _ _ (by omega) (by omega)).bind fun r1 h1 => (medianAdj_in d a b hb hs _ _ (by omega) (by omega)).bind fun r2 h2 => (medianAdj_in d a b hb hs _ _ (by omega) (by omega)).bind fun r3 h3 => cp_k2 d a b hb _ h1 h2 h3
 ·exact cp_k2 d a b hb _ ⟨_, rfl, by omega, by omega⟩ ⟨_, rfl, by omega, by omega⟩ ⟨_, rfl, by omega, by omega⟩
 ·exact cp_k1 _ ⟨_, rfl, by omega, by omega⟩
end Go.Lc
end
section
/- The sort of the program, the end: slices.Sort gives the sorted list. -/
namespace Go.Lc
open Go.RowKit
open Go.Av
open Go.Sort
set_option linter.unusedVariables false
set_option linter.unusedSimpArgs false

/-! breakPatterns -/
theorem bitLenAux_zero : ∀ f : Nat, Lib.bitLenAux f 0 = 0
 | 0 => rfl
 | f + 1 => by simp [Lib.bitLenAux]
theorem bitLenAux_pow : ∀ (f x : Nat), 0 < x → 2 ^ Lib.bitLenAux f x ≤ 2 * x
 | 0, x, h => by simp [Lib.bitLenAux]; omega
 | f + 1, x, h => by
  simp only [Lib.bitLenAux, if_neg (show ¬ x = 0 by omega)]
  rcases Nat.eq_zero_or_pos (x / 2) with h0 | h0
  ·rw [h0, bitLenAux_zero]; simp; omega
  ·have := bitLenAux_pow f (x / 2) h0
   rw [Nat.pow_add, Nat.pow_one]
   omega
theorem bitLen_pow {x : Nat} (h : 0 < x) : 2 ^ Lib.bitLen x ≤ 2 * x := bitLenAux_pow 64 x h
theorem bitLen_lt {x k : Nat} (h : 0 < x) (hk : 2 * x < 2 ^ k) : Lib.bitLen x < k := by
 have := bitLen_pow h
 exact (Nat.pow_lt_pow_iff_right (by omega)).1 (Nat.lt_of_le_of_lt this hk)
theorem len_eq {x : Int} (h : 0 ≤ x ∧ x ≤ 18446744073709551615) : Lmath_bits_Len x = some (Lib.bitLen x.toNat : Int) := by
 rw [Lmath_bits_Len, Lmath_bits_Len64, chk_bind h]
 rfl
theorem wu_nat {n : Nat} (h : n ≤ 18446744073709551615) : IntKind.u64.wrap (n : Int) = (n : Int) := wu _ (by omega)
theorem np2 {n : Nat} (h : 0 < n) (hn : n < 4611686018427387904) : Lslices_nextPowerOfTwo (n : Int) = some ((2 ^ Lib.bitLen n : Nat) : Int) := by
 have h1 := bitLen_pow h
 have h2 : Lib.bitLen n < 64 := bitLen_lt h (by omega)
 rw [Lslices_nextPowerOfTwo, wu_nat (by omega), len_eq (by omega), bind_some', chk_bind (by omega)]
 rw [show min ((Lib.bitLen ((n : Int).toNat) : Int)).toNat 64 = Lib.bitLen n by simp; omega]
 rw [show (1 * (2 ^ Lib.bitLen n) : Int) = ((2 ^ Lib.bitLen n : Nat) : Int) by simp]
 rw [wu_nat (by omega)]
theorem bits_and_le (x : Int) {m : Nat} (h : m ≤ 18446744073709551615) : ∃ q : Nat, bits .and .u64 x (m : Int) = (q : Int) ∧ q ≤ m := by
 refine ⟨(BitVec.ofInt 64 x &&& BitVec.ofInt 64 (m : Int)).toNat, ?_, ?_⟩
 ·have hb := (BitVec.ofInt 64 x &&& BitVec.ofInt 64 (m : Int)).isLt
  show IntKind.u64.wrap ((BitVec.ofInt 64 x &&& BitVec.ofInt 64 (m : Int)).toNat : Int) = _
  exact wu_nat (by omega)
 ·rw [BitVec.toNat_and]
  refine Nat.le_trans Nat.and_le_right ?_
  simp [BitVec.toNat_ofInt]
  omega
theorem bp_k1 (d : Array Int) (a idx : Nat) (y : Int × Int) (o : Nat) (h1 : idx < d.size) (h2 : a + o < d.size) (hs : d.size < 4611686018427387904) : Lslices_breakPatternsOrdered_of_uint64_k1 d.toList (a : Int) (idx : Int) y (o : Int) = some (.inl (((idx + 1 : Nat) : Int), (swp d idx (a + o)).toList, y.2)) := by
 rw [Lslices_breakPatternsOrdered_of_uint64_k1]
 simp only [wA (show a + o < 9223372036854775808 by omega), iB h1, iB h2, gB h1, gB h2, iB1 h2, swpL, wS (show idx < 9223372036854775807 by omega)]
theorem bp_perm (d : Array Int) (a b : Nat) (hab : a ≤ b) (hb : b ≤ d.size) (hs : d.size < 4611686018427387904) : ∃ d', Lslices_breakPatternsOrdered_of_uint64 d.toList (a : Int) (b : Int) = some d'.toList ∧ PermIn a b d d' := by
 have e0 : IntKind.i64.wrap ((b : Int) - (a : Int)) = ((b - a : Nat) : Int) := wD (by omega) (by omega)
 rw [Lslices_breakPatternsOrdered_of_uint64]
 by_cases h8 : 8 ≤ b - a
 ·have e1 : IntKind.i64.wrap ((((b - a : Nat) : Int)).tdiv 4) = (((b - a) / 4 : Nat) : Int) := by
   rw [Int.tdiv_eq_ediv_of_nonneg (by omega), wi _ (by omega)]; omega
  have e3 : IntKind.i64.wrap ((((b - a) / 4 : Nat) : Int) * 2) = (((b - a) / 4 * 2 : Nat) : Int) := by rw [wi _ (by omega)]; omega
  have e4 : IntKind.i64.wrap (((a + (b - a) / 4 * 2 : Nat) : Int) - 1) = ((a + (b - a) / 4 * 2 - 1 : Nat) : Int) := by rw [wi _ (by omega)]; omega
  have hy := bitLen_pow (x := b - a) (by omega)
  have hy0 : 0 < 2 ^ Lib.bitLen (b - a) := Nat.pow_pos (by omega)
  have e5 : IntKind.u64.wrap (((2 ^ Lib.bitLen (b - a) : Nat) : Int) - 1) = ((2 ^ Lib.bitLen (b - a) - 1 : Nat) : Int) := by rw [wu _ (by omega)]; omega
  rw [if_pos (by omega), e0, np2 (by omega) (by omega), bind_some']
  simp only [e1, e3, wA (show a + (b - a) / 4 * 2 < 9223372036854775808 by omega), e4]
  generalize 2 ^ Lib.bitLen (b - a) = y at hy hy0 e5
  have hl := runLoop_inv (step := Lslices_breakPatternsOrdered_of_uint64_s1 (a : Int) (b : Int) (y : Int) d.toList) (fun n s => ∃ (idx : Nat) (d' : Array Int), s.1 = (idx : Int) ∧ s.2.1 = d'.toList ∧ PermIn a b d d' ∧ a ≤ idx ∧ idx ≤ a + (b - a) / 4 * 2 + 2 ∧ n = a + (b - a) / 4 * 2 + 2 - idx) (fun r => ∃ d' : Array Int, r = d'.toList ∧ PermIn a b d d') ?_ _ ((a + (b - a) / 4 * 2 - 1 : Nat), d.toList, IntKind.u64.wrap ((b - a : Nat) : Int)) ⟨_, d, rfl, rfl, permIn_refl d a b, by omega, by omega, rfl⟩
  ·obtain ⟨r, h1, d', rfl, h2⟩ := hl
   exact ⟨d', h1, h2⟩
  ·rintro n ⟨p1, p2, p3⟩ ⟨idx, d', h1, h2, hp, ha, hi, hn⟩
   simp only at h1 h2
   subst h1 h2 hn
   have hz : d'.size = d.size := hp.1
   by_cases hc : idx ≤ a + (b - a) / 4 * 2 + 1
   ·refine .inl ?_
    obtain ⟨q, hq, hqy⟩ := bits_and_le (x := (bits .xor .u64 (bits .xor .u64 (bits .xor .u64 p3 (IntKind.u64.wrap (p3 * 8192))) ((bits .xor .u64 p3 (IntKind.u64.wrap (p3 * 8192))).fdiv 128)) (IntKind.u64.wrap ((bits .xor .u64 (bits .xor .u64 p3 (IntKind.u64.wrap (p3 * 8192))) ((bits .xor .u64 p3 (IntKind.u64.wrap (p3 * 8192))).fdiv 128)) * 131072)))) (m := y - 1) (by omega)
    have hk : ∀ (o : Nat) (yy : Int × Int), o < b - a → ∃ j s', j < a + (b - a) / 4 * 2 + 2 - idx ∧ Lslices_breakPatternsOrdered_of_uint64_k1 d'.toList (a : Int) (idx : Int) yy (o : Int) = some (.inl s') ∧ ∃ (idx2 : Nat) (d2 : Array Int), s'.1 = (idx2 : Int) ∧ s'.2.1 = d2.toList ∧ PermIn a b d d2 ∧ a ≤ idx2 ∧ idx2 ≤ a + (b - a) / 4 * 2 + 2 ∧ j = a + (b - a) / 4 * 2 + 2 - idx2 := by
     intro o yy ho
     refine ⟨a + (b - a) / 4 * 2 + 2 - (idx + 1), _, by omega, bp_k1 d' a idx yy o (by omega) (by omega) (by omega), idx + 1, _, rfl, rfl, ?_, by omega, by omega, rfl⟩
     exact permIn_trans _ _ _ a b hp (swp_permIn d' a b idx (a + o) (by omega) (by omega) (by omega) (by omega) (by omega))
    rw [Lslices_breakPatternsOrdered_of_uint64_s1]
    simp only [e0, e1, e3, wA (show a + (b - a) / 4 * 2 < 9223372036854775808 by omega), wS (show a + (b - a) / 4 * 2 < 9223372036854775807 by omega), if_pos (show (idx : Int) ≤ ((a + (b - a) / 4 * 2 + 1 : Nat) : Int) by omega), Lslices_xorshift_Next, bind_some', e5, hq, wI q (by omega)]
    by_cases ho : b - a ≤ q
    ·rw [if_pos (by omega), wD ho (by omega)]
     exact hk (q - (b - a)) _ (by omega)
    ·rw [if_neg (by omega)]
     exact hk q _ (by omega)
   ·refine .inr ⟨d'.toList, ?_, d', rfl, hp⟩
    rw [Lslices_breakPatternsOrdered_of_uint64_s1]
    simp only [e0, e1, e3, wA (show a + (b - a) / 4 * 2 < 9223372036854775808 by omega), wS (show a + (b - a) / 4 * 2 < 9223372036854775807 by omega), if_neg (show ¬ (idx : Int) ≤ ((a + (b - a) / 4 * 2 + 1 : Nat) : Int) by omega)]
    rw [chk_bind (by simp [hz])]
 ·rw [if_neg (by omega)]
  exact ⟨d, rfl, permIn_refl d a b⟩

/-! pdqsort -/
def Srt (a b : Nat) (d : Array Int) (x : Option (List Int)) : Prop := ∃ d', x = some d'.toList ∧ PermIn a b d d' ∧ SortedIn ltInt a b d'
theorem pdq_k1 (l0 : List Int) (rf : List Int → Int → Int → Int → Option (List Int)) (wb wp : Bool) (lim : Int) (d : Array Int) (a b : Nat) (hab : a < b) (hb : b ≤ d.size) (hs : d.size < 4611686018427387904) :
  ∃ (d2 : Array Int) (pv : Nat) (hint : Int), PermIn a b d d2 ∧ a ≤ pv ∧ pv < b ∧ Lslices_pdqsortOrdered_of_uint64_k1 (a : Int) (b : Int) wb wp l0 rf lim d.toList = Lslices_pdqsortOrdered_of_uint64_k2 wb wp (a : Int) (b : Int) l0 lim rf (pv : Int) hint d2.toList := by
 obtain ⟨r, hr, p, hp, h1, h2⟩ := pivot_in d a b hab hb hs
 rw [Lslices_pdqsortOrdered_of_uint64_k1, hr, bind_some']
 by_cases g : r.2 = 2
 ·have hrev := reverseRange_holds d a b (by omega) hb
  refine ⟨reverseRange d a b, b - 1 - (p - a), 1, hrev, by omega, by omega, ?_⟩
  rw [if_pos g, rev_eq d a b hab hb hs, bind_some', chk_bind (by simp [hrev.1]), hp, wD h1 (by omega), wi ((b : Int) - 1) (by omega), show (b : Int) - 1 = ((b - 1 : Nat) : Int) by omega, wD (by omega) (by omega)]
 ·exact ⟨d, p, r.2, permIn_refl d a b, h1, h2, by rw [if_neg g, hp]⟩
theorem pdq_k2 (l0 : List Int) (rf : List Int → Int → Int → Int → Option (List Int)) (wb wp : Bool) (lim : Int) (d : Array Int) (a b pv : Nat) (hint : Int) (hab : a < b) (hb : b ≤ d.size) (hs : d.size < 4611686018427387904) (h0 : d.size = l0.length) (hB : Below ltInt a b d) :
  ∃ d3 : Array Int, PermIn a b d d3 ∧ ((Lslices_pdqsortOrdered_of_uint64_k2 wb wp (a : Int) (b : Int) l0 lim rf (pv : Int) hint d.toList = some (.inr d3.toList) ∧ SortedIn ltInt a b d3) ∨ Lslices_pdqsortOrdered_of_uint64_k2 wb wp (a : Int) (b : Int) l0 lim rf (pv : Int) hint d.toList = Lslices_pdqsortOrdered_of_uint64_k3 (a : Int) (pv : Int) (b : Int) lim wb wp rf d3.toList) := by
 by_cases g : (wb = true ∧ wp = true) ∧ hint = 1
 ·obtain ⟨h1, h2⟩ := partialInsertionSort_holds swo_ltInt d a b hab hb hB
  refine ⟨(partialInsertionSort ltInt d a b).1, h1, ?_⟩
  have hz := h1.1
  rw [Lslices_pdqsortOrdered_of_uint64_k2, if_pos g, pi_eq d a b hab hb hs, bind_some', chk_bind (by simp [hz])]
  by_cases gf : (partialInsertionSort ltInt d a b).2 = true
  ·refine .inl ⟨?_, h2 gf⟩
   rw [if_pos gf, chk_bind (by simp [hz, h0])]
  ·refine .inr ?_
   rw [if_neg gf]
 ·exact ⟨d, permIn_refl d a b, .inr (by rw [Lslices_pdqsortOrdered_of_uint64_k2, if_neg g])⟩
theorem pdq_loop (rf : List Int → Int → Int → Int → Option (List Int)) (l0 : List Int) (M : Nat) (hrf : ∀ (a b : Nat) (d : Array Int) (lim : Int), b - a < M → a ≤ b → b ≤ d.size → d.size < 4611686018427387904 → Below ltInt a b d → Srt a b d (rf d.toList (a : Int) (b : Int) lim)) :
  ∀ (m a b : Nat) (d : Array Int) (lim : Int) (wb wp : Bool), b - a = m → m ≤ M → a ≤ b → b ≤ d.size → d.size < 4611686018427387904 → d.size = l0.length → Below ltInt a b d → Srt a b d (runLoop (Lslices_pdqsortOrdered_of_uint64_s1 l0 rf) ((a : Int), (b : Int), lim, wb, wp, d.toList)) := by
 intro m
 induction m using Nat.strongRecOn with
 | _ m ih =>
  intro a b d lim wb wp hm hM hab hb hs h0 hB
  have e0 : IntKind.i64.wrap ((b : Int) - (a : Int)) = ((b - a : Nat) : Int) := wD (by omega) (by omega)
  by_cases h12 : b - a ≤ 12
  ·obtain ⟨h1, h2⟩ := insertionSort_holds swo_ltInt d a b hab hb
   refine ⟨insertionSort ltInt d a b, runLoop_end ?_, h1, h2⟩
   simp only [Lslices_pdqsortOrdered_of_uint64_s1, e0, if_pos (show ((b - a : Nat) : Int) ≤ 12 by omega)]
   rw [ins_eq d a b hb hab hs, bind_some', chk_bind (by simp [h1.1]), chk_bind (by simp [h1.1, h0])]
  ·by_cases hl : lim = 0
   ·obtain ⟨h1, h2⟩ := heapSort_holds swo_ltInt d a b hab hb
    refine ⟨heapSort ltInt d a b, runLoop_end ?_, h1, h2⟩
    simp only [Lslices_pdqsortOrdered_of_uint64_s1, e0, if_neg (show ¬ ((b - a : Nat) : Int) ≤ 12 by omega), if_pos hl]
    rw [heap_eq d a b hab hb hs, bind_some', chk_bind (by simp [h1.1]), chk_bind (by simp [h1.1, h0])]
   ·-- the patterns
    obtain ⟨d1, lim1, hp1, hst1⟩ : ∃ (d1 : Array Int) (lim1 : Int), PermIn a b d d1 ∧ Lslices_pdqsortOrdered_of_uint64_s1 l0 rf ((a : Int), (b : Int), lim, wb, wp, d.toList) = Lslices_pdqsortOrdered_of_uint64_k1 (a : Int) (b : Int) wb wp l0 rf lim1 d1.toList := by
     cases wb with
     | true => exact ⟨d, lim, permIn_refl d a b, by simp only [Lslices_pdqsortOrdered_of_uint64_s1, e0, if_neg (show ¬ ((b - a : Nat) : Int) ≤ 12 by omega), if_neg hl, not_true_eq_false, if_false]⟩
     | false =>
      obtain ⟨d1, hd1, hp1⟩ := bp_perm d a b hab hb hs
      refine ⟨d1, IntKind.i64.wrap (lim - 1), hp1, ?_⟩
      simp only [Lslices_pdqsortOrdered_of_uint64_s1, e0, if_neg (show ¬ ((b - a : Nat) : Int) ≤ 12 by omega), if_neg hl, Bool.false_eq_true, not_false_eq_true, if_true]
      rw [hd1, bind_some', chk_bind (by simp [hp1.1])]
    have z1 := hp1.1
    obtain ⟨d2, pv, hint, hp2, hv1, hv2, hst2⟩ := pdq_k1 l0 rf wb wp lim1 d1 a b (by omega) (by omega) (by omega)
    have z2 := hp2.1
    have hp12 := permIn_trans _ _ _ a b hp1 hp2
    have B2 : Below ltInt a b d2 := hB.perm hb hp12
    obtain ⟨d3, hp3, hst3⟩ := pdq_k2 l0 rf wb wp lim1 d2 a b pv hint (by omega) (by omega) (by omega) (by omega) B2
    have z3 := hp3.1
    have P3 := permIn_trans _ _ _ a b hp12 hp3
    have B3 : Below ltInt a b d3 := hB.perm hb P3
    have b3 : b ≤ d3.size := by omega
    have s3 : d3.size < 4611686018427387904 := by omega
    rcases hst3 with ⟨hst3, hS⟩ | hst3
    ·exact ⟨d3, runLoop_end (by rw [hst1, hst2, hst3]), P3, hS⟩
    ·have hst := hst1.trans (hst2.trans hst3)
     have hpv : pv < d3.size := by omega
     clear hst1 hst2 hst3
     -- the two ways on
     have hE : 0 < a → ltInt d3[a - 1]! d3[pv]! = false → Lslices_pdqsortOrdered_of_uint64_s1 l0 rf ((a : Int), (b : Int), lim, wb, wp, d.toList) = ((Lslices_partitionEqualOrdered_of_uint64 d3.toList (a : Int) (b : Int) (pv : Int)).bind fun y130 => (chk (y130.2.length = d3.toList.length)).bind fun _ => some (.inl (y130.1, (b : Int), lim1, wb, wp, y130.2))) := by
      intro ha hlt
      obtain ⟨a, rfl⟩ : ∃ q, a = q + 1 := ⟨a - 1, by omega⟩
      rw [show a + 1 - 1 = a by omega] at hlt
      have h1 : a < d3.size := by omega
      rw [hst, Lslices_pdqsortOrdered_of_uint64_k3]
      simp only [(show (0 : Int) < ((a + 1 : Nat) : Int) by omega), if_true, wP (show a < 9223372036854775807 by omega), iB h1, gB h1, iB hpv, gB hpv, less_eq, sB, hlt, Bool.not_false, true_and]
     have hP : (0 < a → ltInt d3[a - 1]! d3[pv]! = true) → Lslices_pdqsortOrdered_of_uint64_s1 l0 rf ((a : Int), (b : Int), lim, wb, wp, d.toList) = ((Lslices_partitionOrdered_of_uint64 d3.toList (a : Int) (b : Int) (pv : Int)).bind fun y132 => (chk (y132.2.2.length = d3.toList.length)).bind fun _ => (if IntKind.i64.wrap (y132.1 - (a : Int)) < IntKind.i64.wrap ((b : Int) - y132.1) then (rf y132.2.2 (a : Int) y132.1 lim1).bind fun y134 => (chk (y134.length = y132.2.2.length)).bind fun _ => some (.inl (IntKind.i64.wrap (y132.1 + 1), (b : Int), lim1, decide (IntKind.i64.wrap ((IntKind.i64.wrap ((b : Int) - (a : Int))).tdiv 8) ≤ IntKind.i64.wrap (y132.1 - (a : Int))), y132.2.1, y134)) else (rf y132.2.2 (IntKind.i64.wrap (y132.1 + 1)) (b : Int) lim1).bind fun y136 => (chk (y136.length = y132.2.2.length)).bind fun _ => some (.inl ((a : Int), y132.1, lim1, decide (IntKind.i64.wrap ((IntKind.i64.wrap ((b : Int) - (a : Int))).tdiv 8) ≤ IntKind.i64.wrap ((b : Int) - y132.1)), y132.2.1, y136)))) := by
      intro hlt
      rw [hst, Lslices_pdqsortOrdered_of_uint64_k3]
      by_cases ha : 0 < a
      ·have hlt := hlt ha
       obtain ⟨a, rfl⟩ : ∃ q, a = q + 1 := ⟨a - 1, by omega⟩
       rw [show a + 1 - 1 = a by omega] at hlt
       have h1 : a < d3.size := by omega
       simp only [(show (0 : Int) < ((a + 1 : Nat) : Int) by omega), if_true, wP (show a < 9223372036854775807 by omega), iB h1, gB h1, iB hpv, gB hpv, less_eq, sB, hlt, Bool.not_true, true_and, Bool.false_eq_true, if_false]
      ·simp only [(show ¬ (0 : Int) < (a : Int) by omega), if_false, sB, false_and]
     by_cases hc : 0 < a ∧ ltInt d3[a - 1]! d3[pv]! = false
     ·-- equal elements
      obtain ⟨ha, hlt⟩ := hc
      obtain ⟨g1, g2, g3, g4, g5⟩ := round_eq (mid := (partitionEqual ltInt d3 a b pv).1) (d4 := (partitionEqual ltInt d3 a b pv).2) swo_ltInt (partitionEqual_holds ltInt) ha hv1 hv2 b3 B3 hlt rfl
      have hst' := hE ha hlt
      rw [pe_eq d3 a b pv hv1 hv2 b3 s3, bind_some', chk_bind (by simp [g3])] at hst'
      obtain ⟨R, h1, h2, h3⟩ := ih (b - (partitionEqual ltInt d3 a b pv).1) (by omega) (partitionEqual ltInt d3 a b pv).1 b (partitionEqual ltInt d3 a b pv).2 lim1 wb wp rfl (by omega) g2 (by omega) (by omega) (by omega) g4
      obtain ⟨k1, k2⟩ := g5 R h2 h3
      exact ⟨R, (runLoop_step hst').trans h1, permIn_trans _ _ _ a b P3 k1, k2⟩
     ·have hst' := hP (fun ha => by
       cases hx : ltInt d3[a - 1]! d3[pv]! with
       | true => rfl
       | false => exact absurd ⟨ha, hx⟩ hc)
      obtain ⟨g1, g2, g3, g4, g5, g6, g7⟩ := round_part (mid := (partition ltInt d3 a b pv).1) (ap := (partition ltInt d3 a b pv).2.1) (d4 := (partition ltInt d3 a b pv).2.2) swo_ltInt (partition_holds ltInt) hv1 hv2 b3 B3 rfl
      rw [pt_eq d3 a b pv hv1 hv2 b3 s3, bind_some', chk_bind (by simp [g3])] at hst'
      generalize (partition ltInt d3 a b pv).1 = mid at g1 g2 g4 g5 g6 g7 hst'
      generalize (partition ltInt d3 a b pv).2.1 = ap at hst'
      generalize (partition ltInt d3 a b pv).2.2 = d4 at g3 g4 g5 g6 g7 hst'
      simp only [wD g1 (show mid < 9223372036854775808 by omega), wD (show mid ≤ b by omega) (show b < 9223372036854775808 by omega), wS (show mid < 9223372036854775807 by omega)] at hst'
      by_cases hlr : mid - a < b - mid
      ·rw [if_pos (by omega)] at hst'
       obtain ⟨L, l1, l2, l3⟩ := hrf a mid d4 lim1 (by omega) g1 (by omega) (by omega) g4
       rw [l1, bind_some', chk_bind (by simp [l2.1])] at hst'
       obtain ⟨k1, k2⟩ := g6 L l2 l3
       have zl := l2.1
       obtain ⟨R, h1, h2, h3⟩ := ih (b - (mid + 1)) (by omega) (mid + 1) b L lim1 _ ap rfl (by omega) (by omega) (by omega) (by omega) (by omega) k1
       obtain ⟨q1, q2⟩ := k2 R h2 h3
       exact ⟨R, (runLoop_step hst').trans h1, permIn_trans _ _ _ a b P3 q1, q2⟩
      ·rw [if_neg (by omega)] at hst'
       obtain ⟨L, l1, l2, l3⟩ := hrf (mid + 1) b d4 lim1 (by omega) (by omega) (by omega) (by omega) g5
       rw [l1, bind_some', chk_bind (by simp [l2.1])] at hst'
       obtain ⟨k1, k2⟩ := g7 L l2 l3
       have zl := l2.1
       obtain ⟨R, h1, h2, h3⟩ := ih (mid - a) (by omega) a mid L lim1 _ ap rfl (by omega) (by omega) (by omega) (by omega) (by omega) k1
       obtain ⟨q1, q2⟩ := k2 R h2 h3
       exact ⟨R, (runLoop_step hst').trans h1, permIn_trans _ _ _ a b P3 q1, q2⟩
theorem pdq_n : ∀ (n a b : Nat) (d : Array Int) (lim : Int), b - a < n → a ≤ b → b ≤ d.size → d.size < 4611686018427387904 → Below ltInt a b d → Srt a b d (Lslices_pdqsortOrdered_of_uint64_n n d.toList (a : Int) (b : Int) lim) := by
 intro n
 induction n with
 | zero => intro a b d lim h; omega
 | succ n ih =>
  intro a b d lim h hab hb hs hB
  rw [Lslices_pdqsortOrdered_of_uint64_n, Lslices_pdqsortOrdered_of_uint64_b]
  exact pdq_loop (Lslices_pdqsortOrdered_of_uint64_n n) d.toList n (fun a b d lim h1 h2 h3 h4 h5 => ih a b d lim h1 h2 h3 h4 h5) _ a b d lim true true rfl (by omega) hab hb hs (by simp) hB
/-! more fuel, the same result -/
theorem obind {α β : Type} {x : Option α} {f g : α → Option β} {b : β} (h : x.bind f = some b) (k : ∀ a, f a = some b → g a = some b) : x.bind g = some b := by
 cases x with
 | none => cases h
 | some a => exact k a h
theorem iterS_more {σ ρ : Type} {step step' : σ → Option (σ ⊕ ρ)} (h : ∀ s r, step s = some r → step' s = some r) : ∀ (m : Nat) (s : σ) (r : ρ), iterS step m s = some r → iterS step' m s = some r := by
 intro m
 induction m with
 | zero => intro s r hr; simp [iterS] at hr
 | succ m ih =>
  intro s r hr
  simp only [iterS] at hr ⊢
  cases hs : step s with
  | none => simp [hs] at hr
  | some x =>
   rw [hs] at hr
   rw [h s x hs]
   cases x with
   | inl s' => exact ih s' r hr
   | inr r' => exact hr
theorem runLoop_more {σ ρ : Type} {step step' : σ → Option (σ ⊕ ρ)} (h : ∀ s r, step s = some r → step' s = some r) {s : σ} {r : ρ} (hr : runLoop step s = some r) : runLoop step' s = some r := by
 obtain ⟨m, hm⟩ := runLoop_some.1 hr
 exact runLoop_some.2 ⟨m, iterS_more h m s r hm⟩
theorem pdq_more {rf rf' : List Int → Int → Int → Int → Option (List Int)} (h : ∀ l a b c x, rf l a b c = some x → rf' l a b c = some x) {l : List Int} {a b c : Int} {x : List Int} (hx : Lslices_pdqsortOrdered_of_uint64_b rf l a b c = some x) : Lslices_pdqsortOrdered_of_uint64_b rf' l a b c = some x := by
 have h3 : ∀ p101 p118 p102 p113 p104 p105 p123 r, Lslices_pdqsortOrdered_of_uint64_k3 p101 p118 p102 p113 p104 p105 rf p123 = some r → Lslices_pdqsortOrdered_of_uint64_k3 p101 p118 p102 p113 p104 p105 rf' p123 = some r := by
  intro p101 p118 p102 p113 p104 p105 p123 r hr
  unfold Lslices_pdqsortOrdered_of_uint64_k3 at hr ⊢
  refine obind hr fun z hr => ?_
  split
  ·rename_i g
   rw [if_pos g] at hr
   exact hr
  ·rename_i g
   rw [if_neg g] at hr
   refine obind hr fun y hr => obind hr fun _ hr => ?_
   split
   ·rename_i g
    rw [if_pos g] at hr
    cases hq : rf y.2.2 p101 y.1 p113 with
    | none => rw [hq] at hr; cases hr
    | some w => rw [hq] at hr; rw [h _ _ _ _ _ hq]; exact hr
   ·rename_i g
    rw [if_neg g] at hr
    cases hq : rf y.2.2 (IntKind.i64.wrap (y.1 + 1)) p102 p113 with
    | none => rw [hq] at hr; cases hr
    | some w => rw [hq] at hr; rw [h _ _ _ _ _ hq]; exact hr
 have h2 : ∀ p104 p105 p101 p102 a0 p113 p118 p119 p120 r, Lslices_pdqsortOrdered_of_uint64_k2 p104 p105 p101 p102 a0 p113 rf p118 p119 p120 = some r → Lslices_pdqsortOrdered_of_uint64_k2 p104 p105 p101 p102 a0 p113 rf' p118 p119 p120 = some r := by
  intro p104 p105 p101 p102 a0 p113 p118 p119 p120 r hr
  unfold Lslices_pdqsortOrdered_of_uint64_k2 at hr ⊢
  split
  ·rename_i g
   rw [if_pos g] at hr
   refine obind hr fun y hr => obind hr fun _ hr => ?_
   split
   ·rename_i g
    rw [if_pos g] at hr
    exact hr
   ·rename_i g
    rw [if_neg g] at hr
    exact h3 _ _ _ _ _ _ _ _ hr
  ·rename_i g
   rw [if_neg g] at hr
   exact h3 _ _ _ _ _ _ _ _ hr
 have h1 : ∀ p101 p102 p104 p105 a0 p113 p114 r, Lslices_pdqsortOrdered_of_uint64_k1 p101 p102 p104 p105 a0 rf p113 p114 = some r → Lslices_pdqsortOrdered_of_uint64_k1 p101 p102 p104 p105 a0 rf' p113 p114 = some r := by
  intro p101 p102 p104 p105 a0 p113 p114 r hr
  unfold Lslices_pdqsortOrdered_of_uint64_k1 at hr ⊢
  refine obind hr fun y hr => ?_
  split
  ·rename_i g
   rw [if_pos g] at hr
   exact obind hr fun y hr => obind hr fun _ hr => h2 _ _ _ _ _ _ _ _ _ _ hr
  ·rename_i g
   rw [if_neg g] at hr
   exact h2 _ _ _ _ _ _ _ _ _ _ hr
 unfold Lslices_pdqsortOrdered_of_uint64_b at hx ⊢
 refine runLoop_more ?_ hx
 rintro ⟨p101, p102, p103, p104, p105, p106⟩ r hr
 simp only [Lslices_pdqsortOrdered_of_uint64_s1] at hr ⊢
 split
 ·rename_i g
  rw [if_pos g] at hr
  exact hr
 ·rename_i g
  rw [if_neg g] at hr
  split
  ·rename_i g
   rw [if_pos g] at hr
   exact hr
  ·rename_i g
   rw [if_neg g] at hr
   split
   ·rename_i g
    rw [if_pos g] at hr
    exact obind hr fun y hr => obind hr fun _ hr => h1 _ _ _ _ _ _ _ _ hr
   ·rename_i g
    rw [if_neg g] at hr
    exact h1 _ _ _ _ _ _ _ _ hr
theorem pdq_n_more : ∀ (n k : Nat) (l : List Int) (a b c : Int) (x : List Int), Lslices_pdqsortOrdered_of_uint64_n n l a b c = some x → Lslices_pdqsortOrdered_of_uint64_n (n + k) l a b c = some x := by
 intro n
 induction n with
 | zero => intro k l a b c x h; simp [Lslices_pdqsortOrdered_of_uint64_n] at h
 | succ n ih =>
  intro k l a b c x h
  rw [show n + 1 + k = n + k + 1 by omega]
  rw [Lslices_pdqsortOrdered_of_uint64_n] at h ⊢
  exact pdq_more (fun l a b c x h => ih k l a b c x h) h
theorem fixN_more {α : Type} {g : Nat → Option α} (h : ∀ n k x, g n = some x → g (n + k) = some x) {n : Nat} {y : α} (hn : g n = some y) : fixN g = some y :=
 fixN_of (fun m x hx => by
  have h1 := h m n x hx
  have h2 := h n m y hn
  rw [Nat.add_comm, h2] at h1
  exact (Option.some.inj h1).symm) ⟨n, hn⟩
/-- the sorted list -/
def srt (l : List Int) : List Int := l.mergeSort fun x y => decide (x ≤ y)
theorem srt_length (l : List Int) : (srt l).length = l.length := List.length_mergeSort _
theorem sort_eq (l : List Int) (hs : l.length < 4611686018427387904) : Lslices_Sort_of__uint64_uint64 l = some (srt l) := by
 obtain ⟨d', h1, h2, h3⟩ := pdq_n (l.length + 1) 0 l.length l.toArray (Lib.bitLen l.length : Int) (by omega) (by omega) (by simp) (by simpa using hs) (.inl rfl)
 have hu := sorted_unique_holds swo_ltInt (fun x y h1 h2 => by simp only [ltInt, decide_eq_false_iff_not] at h1 h2; omega) l.toArray d' (by simpa using h2) (by simpa using h3)
 have hd : d'.toList = srt l := by
  rw [hu, srt]
  show l.mergeSort _ = _
  congr 1
  funext x y
  simp [ltInt]
  by_cases h : x ≤ y
  ·simp [h]
   try omega
  ·simp [h]
   try omega
 rw [hd] at h1
 have hf : Lslices_pdqsortOrdered_of_uint64 l 0 (l.length : Int) (Lib.bitLen l.length : Int) = some (srt l) := fixN_more (g := fun n => Lslices_pdqsortOrdered_of_uint64_n n l 0 (l.length : Int) (Lib.bitLen l.length : Int)) (fun n k x h => pdq_n_more n k _ _ _ _ _ h) h1
 rw [Lslices_Sort_of__uint64_uint64, wu_nat (by omega), len_eq (by omega), bind_some', show ((l.length : Int)).toNat = l.length by omega, hf, bind_some', chk_bind (srt_length l), chk_bind (srt_length l)]
end Go.Lc
end
section
/- Strings of bits: what the writer of the program and that of the reference do, bit by bit. -/
namespace Go.Lc
open Go.RowKit
open Go.Av
set_option linter.unusedVariables false
set_option linter.unusedSimpArgs false
set_option maxRecDepth 100000

/-- bit k of a byte, the highest first -/
def bb (x : Int) (k : Nat) : Bool := decide ((x / 2 ^ (7 - k)) % 2 = 1)
def bt (d : List Int) (i : Nat) : Bool := bb (d.getD (i / 8) 0) (i % 8)
def bl (d : List Int) (n : Nat) : List Bool := (List.range n).map (bt d)
def Byt (d : List Int) : Prop := ∀ x ∈ d, 0 ≤ x ∧ x ≤ 255
structure VB (d : List Int) (n : Nat) : Prop where
 byt : Byt d
 len : d.length = (n + 7) / 8
 rest : ∀ i, n ≤ i → bt d i = false
theorem bb_zero (k : Nat) : bb 0 k = false := by simp [bb]
theorem Byt.get {d : List Int} (h : Byt d) (i : Nat) : 0 ≤ d.getD i 0 ∧ d.getD i 0 ≤ 255 := by
 rw [List.getD_eq_getElem?_getD]
 by_cases hi : i < d.length
 ·simp only [List.getElem?_eq_getElem hi, Option.getD_some]
  exact h _ (List.getElem_mem hi)
 ·simp [List.getElem?_eq_none (Nat.le_of_not_lt hi)]
theorem byte_sum : ∀ x : Fin 256, (x.val : Int) = (if bb x.val 0 then 128 else 0) + (if bb x.val 1 then 64 else 0) + (if bb x.val 2 then 32 else 0) + (if bb x.val 3 then 16 else 0) + (if bb x.val 4 then 8 else 0) + (if bb x.val 5 then 4 else 0) + (if bb x.val 6 then 2 else 0) + (if bb x.val 7 then 1 else 0) := by decide +kernel
theorem byte_ext {x y : Int} (hx : 0 ≤ x ∧ x ≤ 255) (hy : 0 ≤ y ∧ y ≤ 255) (h : ∀ k, k < 8 → bb x k = bb y k) : x = y := by
 obtain ⟨a, rfl⟩ : ∃ a : Fin 256, x = (a.val : Int) := ⟨⟨x.toNat, by omega⟩, by simp only; omega⟩
 obtain ⟨b, rfl⟩ : ∃ a : Fin 256, y = (a.val : Int) := ⟨⟨y.toNat, by omega⟩, by simp only; omega⟩
 rw [byte_sum a, byte_sum b, h 0 (by omega), h 1 (by omega), h 2 (by omega), h 3 (by omega), h 4 (by omega), h 5 (by omega), h 6 (by omega), h 7 (by omega)]
theorem VB_ext {d d' : List Int} {n : Nat} (h : VB d n) (h' : VB d' n) (e : bl d n = bl d' n) : d = d' := by
 have hb : ∀ i, bt d i = bt d' i := by
  intro i
  by_cases hi : i < n
  ·have := congrArg (fun l => l[i]?) e
   simpa [bl, hi] using this
  ·rw [h.rest i (by omega), h'.rest i (by omega)]
 apply List.ext_getElem (by rw [h.len, h'.len])
 intro i h1 h2
 have g1 : d.getD i 0 = d[i] := by simp [List.getD_eq_getElem?_getD, h1]
 have g2 : d'.getD i 0 = d'[i] := by simp [List.getD_eq_getElem?_getD, h2]
 refine byte_ext (h.byt _ (List.getElem_mem h1)) (h'.byt _ (List.getElem_mem h2)) fun k hk => ?_
 have := hb (8 * i + k)
 simp only [bt, show (8 * i + k) / 8 = i by omega, show (8 * i + k) % 8 = k by omega, g1, g2] at this
 exact this

/-! one more bit -/
theorem or_byte : ∀ (x : Fin 256) (k j : Fin 8), bb (bits .or .u8 (x.val : Int) (2 ^ (7 - k.val))) j.val = (decide (j = k) || bb (x.val : Int) j.val) := by decide +kernel
theorem or_range : ∀ (x : Fin 256) (k : Fin 8), 0 ≤ bits .or .u8 (x.val : Int) (2 ^ (7 - k.val)) ∧ bits .or .u8 (x.val : Int) (2 ^ (7 - k.val)) ≤ 255 := by decide +kernel
def nd (d : List Int) (n : Nat) (b : Bool) : List Int :=
 let d1 := if n % 8 = 0 then d ++ [0] else d
 if b = true then d1.set (n / 8) (bits .or .u8 (d1.getD (n / 8) 0) (2 ^ (7 - n % 8))) else d1
theorem getD_app0 (d : List Int) (q : Nat) : (d ++ [0]).getD q 0 = d.getD q 0 := by
 simp only [List.getD_eq_getElem?_getD]
 by_cases h : q < d.length
 ·rw [List.getElem?_append_left h]
 ·rw [List.getElem?_append_right (by omega), List.getElem?_eq_none (Nat.le_of_not_lt h)]
  rcases Nat.eq_zero_or_pos (q - d.length) with h0 | h0
  ·rw [h0]; rfl
  ·rw [List.getElem?_eq_none (by simp; omega)]
theorem getD_set (d : List Int) (p q : Nat) (x : Int) (h : p < d.length) : (d.set p x).getD q 0 = if q = p then x else d.getD q 0 := by
 simp only [List.getD_eq_getElem?_getD, List.getElem?_set]
 by_cases e : q = p
 ·subst e; simp [h]
 ·simp [e, Ne.symm e]
theorem nd_spec {d : List Int} {n : Nat} (b : Bool) (h : VB d n) : VB (nd d n b) (n + 1) ∧ bl (nd d n b) (n + 1) = bl d n ++ [b] := by
 have hlen := h.len
 have hd1 : ∃ d1, d1 = (if n % 8 = 0 then d ++ [0] else d) ∧ d1.length = (n + 8) / 8 ∧ (∀ q, d1.getD q 0 = d.getD q 0) ∧ Byt d1 := by
  refine ⟨_, rfl, ?_, ?_, ?_⟩
  ·split
   ·simp; omega
   ·omega
  ·intro q
   split
   ·exact getD_app0 d q
   ·rfl
  ·split
   ·intro x hx
    simp only [List.mem_append, List.mem_singleton] at hx
    rcases hx with hx | rfl
    ·exact h.byt x hx
    ·omega
   ·exact h.byt
 obtain ⟨d1, e1, l1, g1, y1⟩ := hd1
 have hn8 : n / 8 < d1.length := by omega
 have hx := y1.get (n / 8)
 have hbt : ∀ i, bt (nd d n b) i = if i = n then b else bt d i := by
  intro i
  unfold nd
  rw [← e1]
  simp only
  cases b with
  | false =>
   simp only [Bool.false_eq_true, if_false, bt, g1]
   split
   ·rename_i e
    subst e
    exact h.rest i (Nat.le_refl _)
   ·rfl
  | true =>
   simp only [if_true, bt]
   rw [getD_set _ _ _ _ hn8]
   obtain ⟨x, hxe⟩ : ∃ x : Fin 256, d1.getD (n / 8) 0 = (x.val : Int) := ⟨⟨(d1.getD (n / 8) 0).toNat, by omega⟩, by simp only; omega⟩
   have ho := or_byte x ⟨n % 8, Nat.mod_lt _ (by omega)⟩ ⟨i % 8, Nat.mod_lt _ (by omega)⟩
   simp only at ho
   by_cases e : i / 8 = n / 8
   ·rw [if_pos e, hxe, ho, e, ← g1, hxe]
    by_cases e2 : i = n
    ·subst e2; simp
    ·rw [if_neg e2, show (decide ((⟨i % 8, Nat.mod_lt _ (by omega)⟩ : Fin 8) = ⟨n % 8, Nat.mod_lt _ (by omega)⟩)) = false by simp; omega]
     simp
   ·rw [if_neg e, if_neg (by intro e2; exact e (by rw [e2])), g1]
 have hl2 : (nd d n b).length = d1.length := by
  unfold nd
  rw [← e1]
  simp only
  split <;> simp
 refine ⟨⟨?_, ?_, ?_⟩, ?_⟩
 ·unfold nd
  rw [← e1]
  simp only
  split
  ·intro x hx'
   rcases List.mem_or_eq_of_mem_set hx' with hm | rfl
   ·exact y1 x hm
   ·obtain ⟨x, hxe⟩ : ∃ x : Fin 256, d1.getD (n / 8) 0 = (x.val : Int) := ⟨⟨(d1.getD (n / 8) 0).toNat, by omega⟩, by simp only; omega⟩
    rw [hxe]
    exact or_range x ⟨n % 8, Nat.mod_lt _ (by omega)⟩
  ·exact y1
 ·rw [hl2, l1]
 ·intro i hi
  rw [hbt, if_neg (by omega)]
  exact h.rest i (by omega)
 ·unfold bl
  rw [List.range_succ, List.map_append]
  congr 1
  ·apply List.map_congr_left
   intro i hi
   rw [hbt, if_neg (by have := List.mem_range.1 hi; omega)]
  ·simp [hbt]
theorem sh_prog : ∀ k : Fin 8, (128 : Int).fdiv (2 ^ (min k.val 8)) = 2 ^ (7 - k.val) := by decide +kernel
theorem sh_ref : ∀ k : Fin 8, IntKind.u8.wrap (1 * (2 ^ (min (7 - k.val) 8))) = 2 ^ (7 - k.val) := by decide +kernel
theorem tmod8 (n : Nat) : ((n : Int)).tmod 8 = ((n % 8 : Nat) : Int) := by rw [Int.tmod_eq_emod_of_nonneg (by omega)]; omega
theorem tdiv8 (n : Nat) : ((n : Int)).tdiv 8 = ((n / 8 : Nat) : Int) := by rw [Int.tdiv_eq_ediv_of_nonneg (by omega)]; omega
theorem gD {β : Type} {d : List Int} {i : Nat} {f : Int → Option β} (h : i < d.length) : (d[i]?).bind f = f (d.getD i 0) := by
 rw [get_bind h]
 simp [List.getD_eq_getElem?_getD, h]
theorem put_eq {d : List Int} {n : Nat} (b : Bool) (h : VB d n) (hn : n ≤ 2000000) : Lbits_writer_put (d, (n : Int)) b = some (nd d n b, ((n + 1 : Nat) : Int)) := by
 have hlen := h.len
 have hk1 : ∀ d1 : List Int, n / 8 < d1.length → Lbits_writer_put_k1 b (d, (n : Int)) d1 = some (if b = true then d1.set (n / 8) (bits .or .u8 (d1.getD (n / 8) 0) (2 ^ (7 - n % 8))) else d1, ((n + 1 : Nat) : Int)) := by
  intro d1 h1
  have hs := sh_prog ⟨n % 8, Nat.mod_lt _ (by omega)⟩
  simp only at hs
  cases b with
  | true =>
   simp only [Lbits_writer_put_k1, Lbits_writer_put_k2, if_true, tdiv8, tmod8, wI (n / 8) (by omega), wS (show n < 9223372036854775807 by omega)]
   rw [inA_bind h1, gD h1, chk_bind (by omega), show (((n % 8 : Nat) : Int)).toNat = n % 8 by omega, hs]
  | false => simp only [Lbits_writer_put_k1, Lbits_writer_put_k2, Bool.false_eq_true, if_false, wS (show n < 9223372036854775807 by omega)]
 simp only [Lbits_writer_put, tmod8]
 unfold nd
 by_cases h0 : n % 8 = 0
 ·rw [if_pos (by omega), if_pos h0, chk_bind (by omega), hk1 _ (by simp; omega)]
 ·rw [if_neg (by omega), if_neg h0, hk1 _ (by omega)]
theorem rput_eq {d : List Int} {n : Nat} (b : Bool) (h : VB d n) (hn : n ≤ 2000000) : Lref18_put (d, (n : Int)) b = some (nd d n b, ((n + 1 : Nat) : Int)) := by
 have hlen := h.len
 have hk1 : ∀ d1 : List Int, n / 8 < d1.length → Lref18_put_k1 b (d, (n : Int)) d1 = some (if b = true then d1.set (n / 8) (bits .or .u8 (d1.getD (n / 8) 0) (2 ^ (7 - n % 8))) else d1, ((n + 1 : Nat) : Int)) := by
  intro d1 h1
  have hs := sh_ref ⟨n % 8, Nat.mod_lt _ (by omega)⟩
  simp only at hs
  have e7 : IntKind.i64.wrap (7 - ((n % 8 : Nat) : Int)) = ((7 - n % 8 : Nat) : Int) := by rw [wi _ (by omega)]; omega
  cases b with
  | true =>
   simp only [Lref18_put_k1, Lref18_put_k2, if_true, tdiv8, tmod8, wI (n / 8) (by omega), wS (show n < 9223372036854775807 by omega), e7]
   rw [inA_bind h1, gD h1, chk_bind (by omega), show (((7 - n % 8 : Nat) : Int)).toNat = 7 - n % 8 by omega, hs]
  | false => simp only [Lref18_put_k1, Lref18_put_k2, Bool.false_eq_true, if_false, wS (show n < 9223372036854775807 by omega)]
 simp only [Lref18_put, tmod8]
 unfold nd
 by_cases h0 : n % 8 = 0
 ·rw [if_pos (by omega), if_pos h0, chk_bind (by omega), hk1 _ (by simp; omega)]
 ·rw [if_neg (by omega), if_neg h0, hk1 _ (by omega)]
end Go.Lc
end
