import Derived.Test.YtmjbklblgpnagaaLcG1
import Derived.Test.YtmjbklblgpnagaaAvP3
import Derived.IntWalk
import Derived.Sort.AssemblyPlain
section
namespace Go.Lc
open Go.RowKit
open Go.Av
set_option maxRecDepth 100000
set_option linter.unusedSimpArgs false
set_option linter.unusedVariables false
abbrev Tapi_Bits := (List Int) × Int
abbrev Tapi_Filter := Int × (List Int)
noncomputable def Xk (a0 : Int) : Option (Bool) :=
 some (!(decide (a0 = a0)))
noncomputable def ZN (a0 : Int) (a1 : Int) : Option (Bool) :=
 (Xk a0).bind fun y1 => ((if y1 = true then (Xk a1).bind fun y2 => some (!(y2)) else some (false))).bind fun z3 => some (((y1 && z3) || decide (a0 < a1)))
noncomputable def Lslices_IsSorted_of__uint64_uint64_k1 : Option Bool :=
 some (true)
noncomputable def Yx (a0 : (List Int)) : Int → Option ((Int) ⊕ (Bool))
 | p8 => (if 0 < p8 then (idx (a0) (p8)).bind fun x12 => (idx (a0) (IntKind.i64.wrap (p8 - 1))).bind fun x13 => (ZN x12 x13).bind fun y14 => (if y14 = true then some (.inr (false)) else some (.inl (IntKind.i64.wrap (p8 - 1)))) else (Lslices_IsSorted_of__uint64_uint64_k1).map Sum.inr)
noncomputable def Yt (a0 : (List Int)) : Option (Bool) :=
 Zr (Yx a0) (IntKind.i64.wrap ((a0.length : Int) - 1))
noncomputable def Zan (a0 : Tapi_Bits) : Option (Bool) :=
 (if ((a0.2 < 0 ∨ 1600000 < a0.2) ∨ ¬ ((a0.1.length : Int) = IntKind.i64.wrap ((IntKind.i64.wrap (a0.2 + 7)).tdiv 8))) then some (false) else ((if (a0.2).tmod 8 = 0 then some (false) else (idx (a0.1) (IntKind.i64.wrap ((a0.1.length : Int) - 1))).bind fun x1 => (chk (¬ ((a0.2).tmod 8 < 0))).bind fun _ => some (decide (bits .and .u8 x1 ((255 : Int).fdiv (2 ^ (min ((a0.2).tmod 8).toNat 8))) = 0)))).bind fun z3 => some ((decide ((a0.2).tmod 8 = 0) || z3)))
noncomputable def Zbf (a0 : Tapi_Bits) : Option (Tapi_Bits) :=
 (chk (0 ≤ (a0.1.length : Int) ∧ (a0.1.length : Int) ≤ 140737488355328)).bind fun _ => some (((a0.1).take (min (a0.1.length) ((((a0.1.length : Int)).toNat))) ++ (List.replicate (((a0.1.length : Int)).toNat) 0).drop (min (a0.1.length) ((((a0.1.length : Int)).toNat))), a0.2))
noncomputable def XC (a0 : Tapi_Bits) (p6 : (List Int)) : Option Tapi_Bits :=
 some ((p6, IntKind.i64.wrap (a0.2 + 1)))
noncomputable def Xn (a1 : Bool) (a0 : Tapi_Bits) (p2 : (List Int)) : Option Tapi_Bits :=
 (if a1 = true then (inA (p2.length) (IntKind.i64.wrap ((a0.2).tdiv 8))).bind fun j7 => ((p2)[j7]?).bind fun x8 => (chk (¬ ((a0.2).tmod 8 < 0))).bind fun _ => XC a0 ((p2).set j7 (bits .or .u8 x8 ((128 : Int).fdiv (2 ^ (min ((a0.2).tmod 8).toNat 8))))) else XC a0 p2)
noncomputable def Xl (a0 : Tapi_Bits) (a1 : Bool) : Option (Tapi_Bits) :=
 (if (a0.2).tmod 8 = 0 then (chk (a0.1.length + 1 ≤ 140737488355328)).bind fun _ => Xn a1 a0 (a0.1 ++ [0]) else Xn a1 a0 a0.1)
noncomputable def X4 (a2 : Int) (a1 : Int) : (Int × Int × (List Int)) → Option ((Int × Int × (List Int)) ⊕ (Tapi_Bits))
 | (p8, p9, p10) => (if p8 < a2 then (chk (¬ (IntKind.i64.wrap ((IntKind.i64.wrap (a2 - 1)) - p8) < 0))).bind fun _ => (Xl (p10, p9) (decide (bits .and .u64 ((a1).fdiv (2 ^ (min (IntKind.i64.wrap ((IntKind.i64.wrap (a2 - 1)) - p8)).toNat 64))) 1 = 1))).bind fun y12 => some (.inl (IntKind.i64.wrap (p8 + 1), y12.2, y12.1)) else some (.inr ((p10, p9))))
noncomputable def Xo (a0 : Tapi_Bits) (a1 : Int) (a2 : Int) : Option (Tapi_Bits) :=
 Zr (X4 a2 a1) (0, a0.2, a0.1)
noncomputable def Zca (p11 : (List Int)) (p10 : Int) (a1 : Int) (a2 : Int) : Option (Tapi_Bits × Int) :=
 (Xl (p11, p10) false).bind fun y13 => (Xo (y13.1, y13.2) a1 a2).bind fun y14 => some (((y14.1, y14.2), 0))
noncomputable def ZaB (a1 : Int) (a2 : Int) : (Int × Int × (List Int)) → Option ((Int × Int × (List Int)) ⊕ (Tapi_Bits × Int))
 | (p9, p10, p11) => (if p9 < (a1).fdiv (2 ^ (min (a2).toNat 64)) then (Xl (p11, p10) true).bind fun y15 => some (.inl (IntKind.u64.wrap (p9 + 1), y15.2, y15.1)) else (Zca p11 p10 a1 a2).map Sum.inr)
noncomputable def Xw (a0 : Tapi_Bits) (a1 : Int) (a2 : Int) : Option (Tapi_Bits × Int) :=
 (Zan a0).bind fun y1 => (if ¬ (y1 = true) then some (((([] : (List Int)), 0), 6)) else (if (a2 < 0 ∨ 32 < a2) then some (((([] : (List Int)), 0), 5)) else (chk (¬ (a2 < 0))).bind fun _ => (if (65536 < (a1).fdiv (2 ^ (min (a2).toNat 64)) ∨ 1600000 < IntKind.i64.wrap ((IntKind.i64.wrap ((IntKind.i64.wrap (a0.2 + (IntKind.i64.wrap ((a1).fdiv (2 ^ (min (a2).toNat 64)))))) + 1)) + a2)) then some (((([] : (List Int)), 0), 4)) else (Zbf a0).bind fun y3 => Zr (ZaB a1 a2) (0, y3.2, y3.1))))
noncomputable def Zcz (a0 : (List Int)) (p12 : (List Int)) : Option (Tapi_Filter × Int) :=
 some ((((a0.length : Int), p12), 0))
noncomputable def ZbD (a0 : (List Int)) (a1 : Int) : (Int × Int × (List Int) × Int) → Option ((Int × Int × (List Int) × Int) ⊕ (Tapi_Filter × Int))
 | (p10, p11, p12, p13) => (if p11 < (a0.length : Int) then (idx (a0) (p11)).bind fun x16 => (Xw (p12, p13) (IntKind.u64.wrap (x16 - p10)) a1).bind fun y17 => (if ¬ (y17.2 = 0) then some (.inr (((0, ([] : (List Int))), y17.2))) else some (.inl (x16, IntKind.i64.wrap (p11 + 1), y17.1.1, y17.1.2))) else (Zcz a0 p12).map Sum.inr)
noncomputable def XB (a0 : (List Int)) (a1 : Int) : Option (Tapi_Filter × Int) :=
 (if 4096 < (a0.length : Int) then some (((0, ([] : (List Int))), 4)) else (if (a1 < 0 ∨ 32 < a1) then some (((0, ([] : (List Int))), 5)) else (Yt a0).bind fun y1 => (if ¬ (y1 = true) then some (((0, ([] : (List Int))), 6)) else Zr (ZbD a0 a1) (0, 0, ([] : (List Int)), 0))))
noncomputable def XK (a0 : Int) (a1 : Int) : Option (Int × Int) :=
 some ((IntKind.u64.wrap ((IntKind.u64.wrap ((IntKind.u64.wrap (((a0).fdiv 4294967296) * ((a1).fdiv 4294967296))) + ((IntKind.u64.wrap ((IntKind.u64.wrap (((a0).fdiv 4294967296) * (bits .and .u64 a1 4294967295))) + ((IntKind.u64.wrap ((bits .and .u64 a0 4294967295) * (bits .and .u64 a1 4294967295))).fdiv 4294967296))).fdiv 4294967296))) + ((IntKind.u64.wrap ((bits .and .u64 (IntKind.u64.wrap ((IntKind.u64.wrap (((a0).fdiv 4294967296) * (bits .and .u64 a1 4294967295))) + ((IntKind.u64.wrap ((bits .and .u64 a0 4294967295) * (bits .and .u64 a1 4294967295))).fdiv 4294967296))) 4294967295) + (IntKind.u64.wrap ((bits .and .u64 a0 4294967295) * ((a1).fdiv 4294967296))))).fdiv 4294967296)), IntKind.u64.wrap (a0 * a1)))
noncomputable def ZbU (a0 : Int) (a1 : Int) : Option (Int) :=
 (XK a0 a1).bind fun y1 => some (y1.1)
noncomputable def ZH (a0 : Int) (a1 : Int) : Option (Int) :=
 (chk (¬ (bits .and .u64 (IntKind.u64.wrap (a1)) 63 < 0))).bind fun _ => (chk (¬ (IntKind.u64.wrap (64 - (bits .and .u64 (IntKind.u64.wrap (a1)) 63)) < 0))).bind fun _ => some (bits .or .u64 (IntKind.u64.wrap (a0 * (2 ^ (min (bits .and .u64 (IntKind.u64.wrap (a1)) 63).toNat 64)))) ((a0).fdiv (2 ^ (min (IntKind.u64.wrap (64 - (bits .and .u64 (IntKind.u64.wrap (a1)) 63))).toNat 64))))
noncomputable def Zdw (p20 : (Arr 4)) : Option (Arr 4) :=
 some (p20)
noncomputable def ZbJ (a1 : Int) : (Int × (Arr 4)) → Option ((Int × (Arr 4)) ⊕ ((Arr 4)))
 | (p19, p20) => (if p19 < a1 then (ZH ((p20.put 0 (IntKind.u64.wrap ((p20.at 0) + (p20.at 1)))).at 1) 13).bind fun y29 => (ZH ((((p20.put 0 (IntKind.u64.wrap ((p20.at 0) + (p20.at 1)))).put 1 y29).put 1 (bits .xor .u64 (((p20.put 0 (IntKind.u64.wrap ((p20.at 0) + (p20.at 1)))).put 1 y29).at 1) (((p20.put 0 (IntKind.u64.wrap ((p20.at 0) + (p20.at 1)))).put 1 y29).at 0))).at 0) 32).bind fun y30 => (some (((((p20.put 0 (IntKind.u64.wrap ((p20.at 0) + (p20.at 1)))).put 1 y29).put 1 (bits .xor .u64 (((p20.put 0 (IntKind.u64.wrap ((p20.at 0) + (p20.at 1)))).put 1 y29).at 1) (((p20.put 0 (IntKind.u64.wrap ((p20.at 0) + (p20.at 1)))).put 1 y29).at 0))).put 0 y30).put 2 (IntKind.u64.wrap ((((((p20.put 0 (IntKind.u64.wrap ((p20.at 0) + (p20.at 1)))).put 1 y29).put 1 (bits .xor .u64 (((p20.put 0 (IntKind.u64.wrap ((p20.at 0) + (p20.at 1)))).put 1 y29).at 1) (((p20.put 0 (IntKind.u64.wrap ((p20.at 0) + (p20.at 1)))).put 1 y29).at 0))).put 0 y30).at 2) + (((((p20.put 0 (IntKind.u64.wrap ((p20.at 0) + (p20.at 1)))).put 1 y29).put 1 (bits .xor .u64 (((p20.put 0 (IntKind.u64.wrap ((p20.at 0) + (p20.at 1)))).put 1 y29).at 1) (((p20.put 0 (IntKind.u64.wrap ((p20.at 0) + (p20.at 1)))).put 1 y29).at 0))).put 0 y30).at 3))))).bind fun x31 => (ZH (x31.at 3) 16).bind fun y32 => (ZH ((((x31.put 3 y32).put 3 (bits .xor .u64 ((x31.put 3 y32).at 3) ((x31.put 3 y32).at 2))).put 0 (IntKind.u64.wrap ((((x31.put 3 y32).put 3 (bits .xor .u64 ((x31.put 3 y32).at 3) ((x31.put 3 y32).at 2))).at 0) + (((x31.put 3 y32).put 3 (bits .xor .u64 ((x31.put 3 y32).at 3) ((x31.put 3 y32).at 2))).at 3)))).at 3) 21).bind fun y33 => (some (((((x31.put 3 y32).put 3 (bits .xor .u64 ((x31.put 3 y32).at 3) ((x31.put 3 y32).at 2))).put 0 (IntKind.u64.wrap ((((x31.put 3 y32).put 3 (bits .xor .u64 ((x31.put 3 y32).at 3) ((x31.put 3 y32).at 2))).at 0) + (((x31.put 3 y32).put 3 (bits .xor .u64 ((x31.put 3 y32).at 3) ((x31.put 3 y32).at 2))).at 3)))).put 3 y33).put 3 (bits .xor .u64 (((((x31.put 3 y32).put 3 (bits .xor .u64 ((x31.put 3 y32).at 3) ((x31.put 3 y32).at 2))).put 0 (IntKind.u64.wrap ((((x31.put 3 y32).put 3 (bits .xor .u64 ((x31.put 3 y32).at 3) ((x31.put 3 y32).at 2))).at 0) + (((x31.put 3 y32).put 3 (bits .xor .u64 ((x31.put 3 y32).at 3) ((x31.put 3 y32).at 2))).at 3)))).put 3 y33).at 3) (((((x31.put 3 y32).put 3 (bits .xor .u64 ((x31.put 3 y32).at 3) ((x31.put 3 y32).at 2))).put 0 (IntKind.u64.wrap ((((x31.put 3 y32).put 3 (bits .xor .u64 ((x31.put 3 y32).at 3) ((x31.put 3 y32).at 2))).at 0) + (((x31.put 3 y32).put 3 (bits .xor .u64 ((x31.put 3 y32).at 3) ((x31.put 3 y32).at 2))).at 3)))).put 3 y33).at 0)))).bind fun x34 => (ZH ((x34.put 2 (IntKind.u64.wrap ((x34.at 2) + (x34.at 1)))).at 1) 17).bind fun y35 => (ZH ((((x34.put 2 (IntKind.u64.wrap ((x34.at 2) + (x34.at 1)))).put 1 y35).put 1 (bits .xor .u64 (((x34.put 2 (IntKind.u64.wrap ((x34.at 2) + (x34.at 1)))).put 1 y35).at 1) (((x34.put 2 (IntKind.u64.wrap ((x34.at 2) + (x34.at 1)))).put 1 y35).at 2))).at 2) 32).bind fun y36 => some (.inl (IntKind.i64.wrap (p19 + 1), (((x34.put 2 (IntKind.u64.wrap ((x34.at 2) + (x34.at 1)))).put 1 y35).put 1 (bits .xor .u64 (((x34.put 2 (IntKind.u64.wrap ((x34.at 2) + (x34.at 1)))).put 1 y35).at 1) (((x34.put 2 (IntKind.u64.wrap ((x34.at 2) + (x34.at 1)))).put 1 y35).at 2))).put 2 y36)) else (Zdw p20).map Sum.inr)
noncomputable def Zbg (a0 : (Arr 4)) (a1 : Int) : Option ((Arr 4)) :=
 Zr (ZbJ a1) (0, a0)
noncomputable def ZaO (a0 : (Arr 4)) (a1 : Int) : Option ((Arr 4)) :=
 (Zbg (a0.put 3 (bits .xor .u64 (a0.at 3) a1)) 2).bind fun y1 => some (y1.put 0 (bits .xor .u64 (y1.at 0) a1))
noncomputable def Zen (p7 : Int) : Option Int :=
 some (p7)
noncomputable def Zcj (a0 : (List Int)) : (Int × Int) → Option ((Int × Int) ⊕ (Int))
 | (p7, p8) => (if p8 < (a0.length : Int) then (idx (a0) (p8)).bind fun x11 => (chk (¬ (IntKind.i64.wrap (8 * p8) < 0))).bind fun _ => some (.inl (bits .or .u64 p7 (IntKind.u64.wrap ((IntKind.u64.wrap (x11)) * (2 ^ (min (IntKind.i64.wrap (8 * p8)).toNat 64)))), IntKind.i64.wrap (p8 + 1))) else (Zen p7).map Sum.inr)
noncomputable def Zax (a0 : (List Int)) : Option (Int) :=
 Zr (Zcj a0) (0, 0)
noncomputable def ZeD (a1 : (List Int)) (p10 : (Arr 4)) : Option Int :=
 (chk (0 ≤ IntKind.i64.wrap (8 * (IntKind.i64.wrap (((a1.length : Int)).tdiv 8))) ∧ IntKind.i64.wrap (8 * (IntKind.i64.wrap (((a1.length : Int)).tdiv 8))) ≤ (a1.length : Int))).bind fun _ => (Zax ((a1).drop ((IntKind.i64.wrap (8 * (IntKind.i64.wrap (((a1.length : Int)).tdiv 8)))).toNat))).bind fun y15 => (ZaO p10 (bits .or .u64 y15 (IntKind.u64.wrap ((IntKind.u64.wrap (((a1.length : Int)).tmod 256)) * 72057594037927936)))).bind fun y16 => (Zbg (y16.put 2 (bits .xor .u64 (y16.at 2) 255)) 4).bind fun y17 => some (bits .xor .u64 (bits .xor .u64 (bits .xor .u64 (y17.at 0) (y17.at 1)) (y17.at 2)) (y17.at 3))
noncomputable def ZcH (a1 : (List Int)) : (Int × (Arr 4)) → Option ((Int × (Arr 4)) ⊕ (Int))
 | (p9, p10) => (if p9 < IntKind.i64.wrap (((a1.length : Int)).tdiv 8) then (chk (0 ≤ IntKind.i64.wrap (8 * p9) ∧ IntKind.i64.wrap (8 * p9) ≤ IntKind.i64.wrap ((IntKind.i64.wrap (8 * p9)) + 8) ∧ IntKind.i64.wrap ((IntKind.i64.wrap (8 * p9)) + 8) ≤ (a1.length : Int))).bind fun _ => (Zax (((a1).take ((IntKind.i64.wrap ((IntKind.i64.wrap (8 * p9)) + 8)).toNat)).drop ((IntKind.i64.wrap (8 * p9)).toNat))).bind fun y19 => (ZaO p10 y19).bind fun y20 => some (.inl (IntKind.i64.wrap (p9 + 1), y20)) else (ZeD a1 p10).map Sum.inr)
noncomputable def Zck (a0 : (Arr 2)) (a1 : (List Int)) : Option (Int) :=
 Zr (ZcH a1) (0, ((((zA 4).put 0 (bits .xor .u64 (a0.at 0) 8317987319222330741)).put 1 (bits .xor .u64 (a0.at 1) 7237128888997146477)).put 2 (bits .xor .u64 (a0.at 0) 7816392313619706465)).put 3 (bits .xor .u64 (a0.at 1) 8387220255154660723))
noncomputable def ZcU (a0 : Int) : Option Int :=
 (chk (0 ≤ a0 ∧ a0 ≤ 4294967295)).bind fun _ => some (Lib.bitLen a0.toNat : Int)
noncomputable def Zbo (a0 : Int) : Option Int :=
 (chk (0 ≤ a0 ∧ a0 ≤ 18446744073709551615)).bind fun _ => some (Lib.bitLen a0.toNat : Int)
noncomputable def XV (a0 : Int) : Option (Int) :=
 (Zbo a0).bind fun y1 => some (y1)
noncomputable def Xg (a0 : Int) : Option (Int) :=
 (XV (IntKind.u64.wrap (a0))).bind fun y1 => (chk (¬ (y1 < 0))).bind fun _ => some (IntKind.u64.wrap (1 * (2 ^ (min (y1).toNat 64))))
noncomputable def Xs (a0 : Int) : Option (Int × Int) :=
 some ((bits .xor .u64 (bits .xor .u64 (bits .xor .u64 a0 (IntKind.u64.wrap (a0 * 8192))) ((bits .xor .u64 a0 (IntKind.u64.wrap (a0 * 8192))).fdiv 128)) (IntKind.u64.wrap ((bits .xor .u64 (bits .xor .u64 a0 (IntKind.u64.wrap (a0 * 8192))) ((bits .xor .u64 a0 (IntKind.u64.wrap (a0 * 8192))).fdiv 128)) * 131072)), bits .xor .u64 (bits .xor .u64 (bits .xor .u64 a0 (IntKind.u64.wrap (a0 * 8192))) ((bits .xor .u64 a0 (IntKind.u64.wrap (a0 * 8192))).fdiv 128)) (IntKind.u64.wrap ((bits .xor .u64 (bits .xor .u64 a0 (IntKind.u64.wrap (a0 * 8192))) ((bits .xor .u64 a0 (IntKind.u64.wrap (a0 * 8192))).fdiv 128)) * 131072))))
noncomputable def Yb (a0 : (List Int)) (a1 : Int) (a2 : Int) (a3 : Int) : Option (Int × Int × Int) :=
 (idx (a0) (a2)).bind fun x1 => (idx (a0) (a1)).bind fun x2 => (ZN x1 x2).bind fun y3 => (if y3 = true then some ((a2, a1, IntKind.i64.wrap (a3 + 1))) else some ((a1, a2, a3)))
noncomputable def Yr (a0 : (List Int)) (a1 : Int) (a2 : Int) (a3 : Int) (a4 : Int) : Option (Int × Int) :=
 (Yb a0 a1 a2 a4).bind fun y1 => (Yb a0 y1.2.1 a3 y1.2.2).bind fun y2 => (Yb a0 y1.1 y2.1 y2.2.2).bind fun y3 => some ((y3.2.1, y3.2.2))
noncomputable def ZO (a0 : (List Int)) (a1 : Int) (a2 : Int) : Option (Int × Int) :=
 (Yr a0 (IntKind.i64.wrap (a1 - 1)) a1 (IntKind.i64.wrap (a1 + 1)) a2).bind fun y1 => some ((y1.1, y1.2))
noncomputable def Yp (p9 : Int) (p10 : Int) : Option (Int × Int) :=
 (if p10 = 0 then some ((p9, 1)) else (if p10 = 12 then some ((p9, 2)) else some ((p9, 0))))
noncomputable def Yq (a0 : (List Int)) (p14 : Int) (p15 : Int) (p16 : Int) (p17 : Int) : Option (Int × Int) :=
 (Yr a0 p14 p15 p16 p17).bind fun y18 => Yp y18.1 y18.2
noncomputable def Yl (a0 : (List Int)) (a1 : Int) (a2 : Int) : Option (Int × Int) :=
 (if 8 ≤ IntKind.i64.wrap (a2 - a1) then (if 50 ≤ IntKind.i64.wrap (a2 - a1) then (ZO a0 (IntKind.i64.wrap (a1 + (IntKind.i64.wrap (IntKind.i64.wrap ((IntKind.i64.wrap (a2 - a1)).tdiv 4))))) 0).bind fun y19 => (ZO a0 (IntKind.i64.wrap (a1 + (IntKind.i64.wrap ((IntKind.i64.wrap ((IntKind.i64.wrap (a2 - a1)).tdiv 4)) * 2)))) y19.2).bind fun y20 => (ZO a0 (IntKind.i64.wrap (a1 + (IntKind.i64.wrap ((IntKind.i64.wrap ((IntKind.i64.wrap (a2 - a1)).tdiv 4)) * 3)))) y20.2).bind fun y21 => Yq a0 y19.1 y20.1 y21.1 y21.2 else Yq a0 (IntKind.i64.wrap (a1 + (IntKind.i64.wrap (IntKind.i64.wrap ((IntKind.i64.wrap (a2 - a1)).tdiv 4))))) (IntKind.i64.wrap (a1 + (IntKind.i64.wrap ((IntKind.i64.wrap ((IntKind.i64.wrap (a2 - a1)).tdiv 4)) * 2)))) (IntKind.i64.wrap (a1 + (IntKind.i64.wrap ((IntKind.i64.wrap ((IntKind.i64.wrap (a2 - a1)).tdiv 4)) * 3)))) 0) else Yp (IntKind.i64.wrap (a1 + (IntKind.i64.wrap ((IntKind.i64.wrap ((IntKind.i64.wrap (a2 - a1)).tdiv 4)) * 2)))) 0)
noncomputable def YD (p77 : Int) (p104 : (List Int)) : Option ((Int × (List Int)) ⊕ ((List Int))) :=
 some (.inl (IntKind.i64.wrap (p77 + 1), p104))
noncomputable def Yj (a1 : Int) (p77 : Int) : (Int × (List Int)) → Option ((Int × (List Int)) ⊕ ((Int × (List Int)) ⊕ ((List Int))))
 | (p103, p104) => ((if a1 < p103 then (inA (p104.length) (p103)).bind fun j116 => ((p104)[j116]?).bind fun x117 => (inA (p104.length) (IntKind.i64.wrap (p103 - 1))).bind fun j118 => ((p104)[j118]?).bind fun x119 => (ZN x117 x119).bind fun y120 => some (y120) else some (false))).bind fun z121 => (if (a1 < p103 ∧ z121 = true) then (inA (p104.length) (IntKind.i64.wrap (p103 - 1))).bind fun j122 => ((p104)[j122]?).bind fun x123 => (inA (p104.length) (p103)).bind fun j124 => ((p104)[j124]?).bind fun x125 => (inA (((p104).set j124 x123).length) (IntKind.i64.wrap (p103 - 1))).bind fun j126 => some (.inl (IntKind.i64.wrap (p103 - 1), ((p104).set j124 x123).set j126 x125)) else (YD p77 p104).map Sum.inr)
noncomputable def YU (a2 : Int) (a1 : Int) (a0 : (List Int)) : (Int × (List Int)) → Option ((Int × (List Int)) ⊕ ((List Int)))
 | (p77, p78) => (if p77 < a2 then Zr (Yj a1 p77) (p77, p78) else (chk (p78.length = a0.length)).bind fun _ => some (.inr (p78)))
noncomputable def Z8 (a0 : (List Int)) (a1 : Int) (a2 : Int) : Option ((List Int)) :=
 Zr (YU a2 a1 a0) (IntKind.i64.wrap (a1 + 1), a0)
noncomputable def Z3 (p30 : (List Int)) (a3 : Int) (p29 : Int) (a0 : (List Int)) (p37 : Int) : Option ((Int × (List Int)) ⊕ ((List Int))) :=
 (inA (p30.length) (IntKind.i64.wrap (a3 + p29))).bind fun j38 => ((p30)[j38]?).bind fun x39 => (inA (p30.length) (IntKind.i64.wrap (a3 + p37))).bind fun j40 => ((p30)[j40]?).bind fun x41 => (ZN x39 x41).bind fun y42 => (if ¬ (y42 = true) then (chk (p30.length = a0.length)).bind fun _ => some (.inr (p30)) else (inA (((p30).set j38 x41).length) (IntKind.i64.wrap (a3 + p37))).bind fun j43 => some (.inl (p37, ((p30).set j38 x41).set j43 x39)))
noncomputable def Z4 (a2 : Int) (a0 : (List Int)) (a3 : Int) : (Int × (List Int)) → Option ((Int × (List Int)) ⊕ ((List Int)))
 | (p29, p30) => (if a2 ≤ IntKind.i64.wrap ((IntKind.i64.wrap (2 * p29)) + 1) then (chk (p30.length = a0.length)).bind fun _ => some (.inr (p30)) else ((if IntKind.i64.wrap ((IntKind.i64.wrap ((IntKind.i64.wrap (2 * p29)) + 1)) + 1) < a2 then (inA (p30.length) (IntKind.i64.wrap (a3 + (IntKind.i64.wrap ((IntKind.i64.wrap (2 * p29)) + 1))))).bind fun j31 => ((p30)[j31]?).bind fun x32 => (inA (p30.length) (IntKind.i64.wrap ((IntKind.i64.wrap (a3 + (IntKind.i64.wrap ((IntKind.i64.wrap (2 * p29)) + 1)))) + 1))).bind fun j33 => ((p30)[j33]?).bind fun x34 => (ZN x32 x34).bind fun y35 => some (y35) else some (false))).bind fun z36 => (if (IntKind.i64.wrap ((IntKind.i64.wrap ((IntKind.i64.wrap (2 * p29)) + 1)) + 1) < a2 ∧ z36 = true) then Z3 p30 a3 p29 a0 (IntKind.i64.wrap ((IntKind.i64.wrap ((IntKind.i64.wrap (2 * p29)) + 1)) + 1)) else Z3 p30 a3 p29 a0 (IntKind.i64.wrap ((IntKind.i64.wrap (2 * p29)) + 1))))
noncomputable def Yu (a0 : (List Int)) (a1 : Int) (a2 : Int) (a3 : Int) : Option ((List Int)) :=
 Zr (Z4 a2 a0 a3) (a1, a0)
noncomputable def Y9 (a1 : Int) (a0 : (List Int)) : (Int × (List Int)) → Option ((Int × (List Int)) ⊕ ((List Int)))
 | (p27, p28) => (if 0 ≤ p27 then (inA (p28.length) (IntKind.i64.wrap (a1 + p27))).bind fun j29 => ((p28)[j29]?).bind fun x30 => (inA (p28.length) (a1)).bind fun j31 => ((p28)[j31]?).bind fun x32 => (inA (((p28).set j31 x30).length) (IntKind.i64.wrap (a1 + p27))).bind fun j33 => (Yu (((p28).set j31 x30).set j33 x32) 0 p27 a1).bind fun y34 => (chk (y34.length = (((p28).set j31 x30).set j33 x32).length)).bind fun _ => some (.inl (IntKind.i64.wrap (p27 - 1), y34)) else (chk (p28.length = a0.length)).bind fun _ => some (.inr (p28)))
noncomputable def XL (a1 : Int) (a0 : (List Int)) (a2 : Int) (p8 : (List Int)) : Option (List Int) :=
 Zr (Y9 a1 a0) (IntKind.i64.wrap ((IntKind.i64.wrap (a2 - a1)) - 1), p8)
noncomputable def Xa (a2 : Int) (a1 : Int) (a0 : (List Int)) : (Int × (List Int)) → Option ((Int × (List Int)) ⊕ ((List Int)))
 | (p7, p8) => (if 0 ≤ p7 then (Yu p8 p7 (IntKind.i64.wrap (a2 - a1)) a1).bind fun y36 => (chk (y36.length = p8.length)).bind fun _ => some (.inl (IntKind.i64.wrap (p7 - 1), y36)) else (XL a1 a0 a2 p8).map Sum.inr)
noncomputable def Yv (a0 : (List Int)) (a1 : Int) (a2 : Int) : Option ((List Int)) :=
 Zr (Xa a2 a1 a0) (IntKind.i64.wrap ((IntKind.i64.wrap ((IntKind.i64.wrap (a2 - a1)) - 1)).tdiv 2), a0)
noncomputable def YW (a0 : (List Int)) : (Int × Int × (List Int)) → Option ((Int × Int × (List Int)) ⊕ ((List Int)))
 | (p14, p15, p16) => (if p14 < p15 then (inA (p16.length) (p15)).bind fun j17 => ((p16)[j17]?).bind fun x18 => (inA (p16.length) (p14)).bind fun j19 => ((p16)[j19]?).bind fun x20 => (inA (((p16).set j19 x18).length) (p15)).bind fun j21 => some (.inl (IntKind.i64.wrap (p14 + 1), IntKind.i64.wrap (p15 - 1), ((p16).set j19 x18).set j21 x20)) else (chk (p16.length = a0.length)).bind fun _ => some (.inr (p16)))
noncomputable def Yi (a0 : (List Int)) (a1 : Int) (a2 : Int) : Option ((List Int)) :=
 Zr (YW a0) (a1, IntKind.i64.wrap (a2 - 1), a0)
noncomputable def Xh (p148 : (List Int)) (a0 : (List Int)) : Option (Bool × (List Int)) :=
 (chk (p148.length = a0.length)).bind fun _ => some ((false, p148))
noncomputable def ZD (p233 : Int) (p147 : Int) (p290 : (List Int)) : Option ((Int × Int × (List Int)) ⊕ (Bool × (List Int))) :=
 some (.inl (p233, IntKind.i64.wrap (p147 + 1), p290))
noncomputable def Ye (a2 : Int) (p233 : Int) (p147 : Int) : (Int × (List Int)) → Option ((Int × (List Int)) ⊕ ((Int × Int × (List Int)) ⊕ (Bool × (List Int))))
 | (p305, p306) => (if p305 < a2 then (inA (p306.length) (p305)).bind fun j307 => ((p306)[j307]?).bind fun x308 => (inA (p306.length) (IntKind.i64.wrap (p305 - 1))).bind fun j309 => ((p306)[j309]?).bind fun x310 => (ZN x308 x310).bind fun y311 => (if ¬ (y311 = true) then (ZD p233 p147 p306).map Sum.inr else (inA (((p306).set j307 x310).length) (IntKind.i64.wrap (p305 - 1))).bind fun j312 => some (.inl (IntKind.i64.wrap (p305 + 1), ((p306).set j307 x310).set j312 x308))) else (ZD p233 p147 p306).map Sum.inr)
noncomputable def ZE (a2 : Int) (p233 : Int) (p147 : Int) (p267 : (List Int)) : Option ((Int × Int × (List Int)) ⊕ (Bool × (List Int))) :=
 (if 2 ≤ IntKind.i64.wrap (a2 - p233) then Zr (Ye a2 p233 p147) (IntKind.i64.wrap (p233 + 1), p267) else ZD p233 p147 p267)
noncomputable def Yf (a2 : Int) (p233 : Int) (p147 : Int) : (Int × (List Int)) → Option ((Int × (List Int)) ⊕ ((Int × Int × (List Int)) ⊕ (Bool × (List Int))))
 | (p327, p328) => (if 1 ≤ p327 then (inA (p328.length) (p327)).bind fun j329 => ((p328)[j329]?).bind fun x330 => (inA (p328.length) (IntKind.i64.wrap (p327 - 1))).bind fun j331 => ((p328)[j331]?).bind fun x332 => (ZN x330 x332).bind fun y333 => (if ¬ (y333 = true) then (ZE a2 p233 p147 p328).map Sum.inr else (inA (((p328).set j329 x332).length) (IntKind.i64.wrap (p327 - 1))).bind fun j334 => some (.inl (IntKind.i64.wrap (p327 - 1), ((p328).set j329 x332).set j334 x330))) else (ZE a2 p233 p147 p328).map Sum.inr)
noncomputable def ZF (p233 : Int) (a2 : Int) (p148 : (List Int)) (a0 : (List Int)) (a1 : Int) (p147 : Int) : Option ((Int × Int × (List Int)) ⊕ (Bool × (List Int))) :=
 (if p233 = a2 then (chk (p148.length = a0.length)).bind fun _ => some (.inr ((true, p148))) else (if IntKind.i64.wrap (a2 - a1) < 50 then (chk (p148.length = a0.length)).bind fun _ => some (.inr ((false, p148))) else (inA (p148.length) (IntKind.i64.wrap (p233 - 1))).bind fun j240 => ((p148)[j240]?).bind fun x241 => (inA (p148.length) (p233)).bind fun j242 => ((p148)[j242]?).bind fun x243 => (inA (((p148).set j242 x241).length) (IntKind.i64.wrap (p233 - 1))).bind fun j244 => (if 2 ≤ IntKind.i64.wrap (p233 - a1) then Zr (Yf a2 p233 p147) (IntKind.i64.wrap (p233 - 1), ((p148).set j242 x241).set j244 x243) else ZE a2 p233 p147 (((p148).set j242 x241).set j244 x243))))
noncomputable def Yg (a2 : Int) (p148 : (List Int)) (a0 : (List Int)) (a1 : Int) (p147 : Int) : Int → Option ((Int) ⊕ ((Int × Int × (List Int)) ⊕ (Bool × (List Int))))
 | p233 => ((if p233 < a2 then (inA (p148.length) (p233)).bind fun j335 => ((p148)[j335]?).bind fun x336 => (inA (p148.length) (IntKind.i64.wrap (p233 - 1))).bind fun j337 => ((p148)[j337]?).bind fun x338 => (ZN x336 x338).bind fun y339 => some (!(y339)) else some (false))).bind fun z340 => (if (p233 < a2 ∧ z340 = true) then some (.inl (IntKind.i64.wrap (p233 + 1))) else (ZF p233 a2 p148 a0 a1 p147).map Sum.inr)
noncomputable def ZX (a2 : Int) (a0 : (List Int)) (a1 : Int) : (Int × Int × (List Int)) → Option ((Int × Int × (List Int)) ⊕ (Bool × (List Int)))
 | (p146, p147, p148) => (if p147 < 5 then Zr (Yg a2 p148 a0 a1 p147) p146 else (Xh p148 a0).map Sum.inr)
noncomputable def ZT (a0 : (List Int)) (a1 : Int) (a2 : Int) : Option (Bool × (List Int)) :=
 Zr (ZX a2 a0 a1) (IntKind.i64.wrap (a1 + 1), 0, a0)
noncomputable def Xt (p101 : (List Int)) (a0 : (List Int)) (p147 : Int) : Option (Int × (List Int)) :=
 (chk (p101.length = a0.length)).bind fun _ => some ((p147, p101))
noncomputable def ZP (p181 : Int) (p161 : Int) (p101 : (List Int)) (a0 : (List Int)) : Option ((Int × Int × (List Int)) ⊕ (Int × (List Int))) :=
 (if p181 < p161 then (Xt p101 a0 p161).map Sum.inr else (inA (p101.length) (p181)).bind fun j188 => ((p101)[j188]?).bind fun x189 => (inA (p101.length) (p161)).bind fun j190 => ((p101)[j190]?).bind fun x191 => (inA (((p101).set j190 x189).length) (p181)).bind fun j192 => some (.inl (IntKind.i64.wrap (p161 + 1), IntKind.i64.wrap (p181 - 1), ((p101).set j190 x189).set j192 x191)))
noncomputable def YP (p161 : Int) (p101 : (List Int)) (a1 : Int) (a0 : (List Int)) : Int → Option ((Int) ⊕ ((Int × Int × (List Int)) ⊕ (Int × (List Int))))
 | p181 => ((if p161 ≤ p181 then (inA (p101.length) (a1)).bind fun j193 => ((p101)[j193]?).bind fun x194 => (inA (p101.length) (p181)).bind fun j195 => ((p101)[j195]?).bind fun x196 => (ZN x194 x196).bind fun y197 => some (y197) else some (false))).bind fun z198 => (if (p161 ≤ p181 ∧ z198 = true) then some (.inl (IntKind.i64.wrap (p181 - 1))) else (ZP p181 p161 p101 a0).map Sum.inr)
noncomputable def Yh (p161 : Int) (p101 : (List Int)) (a1 : Int) (a0 : (List Int)) (p100 : Int) : Option ((Int × Int × (List Int)) ⊕ (Int × (List Int))) :=
 Zr (YP p161 p101 a1 a0) p100
noncomputable def YQ (p100 : Int) (p101 : (List Int)) (a1 : Int) (a0 : (List Int)) : Int → Option ((Int) ⊕ ((Int × Int × (List Int)) ⊕ (Int × (List Int))))
 | p161 => ((if p161 ≤ p100 then (inA (p101.length) (a1)).bind fun j199 => ((p101)[j199]?).bind fun x200 => (inA (p101.length) (p161)).bind fun j201 => ((p101)[j201]?).bind fun x202 => (ZN x200 x202).bind fun y203 => some (!(y203)) else some (false))).bind fun z204 => (if (p161 ≤ p100 ∧ z204 = true) then some (.inl (IntKind.i64.wrap (p161 + 1))) else (Yh p161 p101 a1 a0 p100).map Sum.inr)
noncomputable def YR (a1 : Int) (a0 : (List Int)) : (Int × Int × (List Int)) → Option ((Int × Int × (List Int)) ⊕ (Int × (List Int)))
 | (p99, p100, p101) => Zr (YQ p100 p101 a1 a0) p99
noncomputable def ZW (a0 : (List Int)) (a1 : Int) (a2 : Int) (a3 : Int) : Option (Int × (List Int)) :=
 (inA (a0.length) (a3)).bind fun j1 => ((a0)[j1]?).bind fun x2 => (inA (a0.length) (a1)).bind fun j3 => ((a0)[j3]?).bind fun x4 => (inA (((a0).set j3 x2).length) (a3)).bind fun j5 => Zr (YR a1 a0) (IntKind.i64.wrap (a1 + 1), IntKind.i64.wrap (a2 - 1), ((a0).set j3 x2).set j5 x4)
noncomputable def Xi (p151 : (List Int)) (a1 : Int) (a0 : (List Int)) (p197 : Int) : Option (Int × Bool × (List Int)) :=
 (inA (p151.length) (a1)).bind fun j198 => ((p151)[j198]?).bind fun x199 => (inA (p151.length) (p197)).bind fun j200 => ((p151)[j200]?).bind fun x201 => (inA (((p151).set j200 x199).length) (a1)).bind fun j202 => (chk ((((p151).set j200 x199).set j202 x201).length = a0.length)).bind fun _ => some ((p197, false, ((p151).set j200 x199).set j202 x201))
noncomputable def Z0 (p236 : Int) (p216 : Int) (p151 : (List Int)) (a1 : Int) (a0 : (List Int)) : Option ((Int × Int × (List Int)) ⊕ (Int × Bool × (List Int))) :=
 (if p236 < p216 then (Xi p151 a1 a0 p236).map Sum.inr else (inA (p151.length) (p236)).bind fun j243 => ((p151)[j243]?).bind fun x244 => (inA (p151.length) (p216)).bind fun j245 => ((p151)[j245]?).bind fun x246 => (inA (((p151).set j245 x244).length) (p236)).bind fun j247 => some (.inl (IntKind.i64.wrap (p216 + 1), IntKind.i64.wrap (p236 - 1), ((p151).set j245 x244).set j247 x246)))
noncomputable def Y0 (p216 : Int) (p151 : (List Int)) (a1 : Int) (a0 : (List Int)) : Int → Option ((Int) ⊕ ((Int × Int × (List Int)) ⊕ (Int × Bool × (List Int))))
 | p236 => ((if p216 ≤ p236 then (inA (p151.length) (p236)).bind fun j248 => ((p151)[j248]?).bind fun x249 => (inA (p151.length) (a1)).bind fun j250 => ((p151)[j250]?).bind fun x251 => (ZN x249 x251).bind fun y252 => some (!(y252)) else some (false))).bind fun z253 => (if (p216 ≤ p236 ∧ z253 = true) then some (.inl (IntKind.i64.wrap (p236 - 1))) else (Z0 p236 p216 p151 a1 a0).map Sum.inr)
noncomputable def Yy (p216 : Int) (p151 : (List Int)) (a1 : Int) (a0 : (List Int)) (p150 : Int) : Option ((Int × Int × (List Int)) ⊕ (Int × Bool × (List Int))) :=
 Zr (Y0 p216 p151 a1 a0) p150
noncomputable def Y1 (p150 : Int) (p151 : (List Int)) (a1 : Int) (a0 : (List Int)) : Int → Option ((Int) ⊕ ((Int × Int × (List Int)) ⊕ (Int × Bool × (List Int))))
 | p216 => ((if p216 ≤ p150 then (inA (p151.length) (p216)).bind fun j254 => ((p151)[j254]?).bind fun x255 => (inA (p151.length) (a1)).bind fun j256 => ((p151)[j256]?).bind fun x257 => (ZN x255 x257).bind fun y258 => some (y258) else some (false))).bind fun z259 => (if (p216 ≤ p150 ∧ z259 = true) then some (.inl (IntKind.i64.wrap (p216 + 1))) else (Yy p216 p151 a1 a0 p150).map Sum.inr)
noncomputable def Y2 (a1 : Int) (a0 : (List Int)) : (Int × Int × (List Int)) → Option ((Int × Int × (List Int)) ⊕ (Int × Bool × (List Int)))
 | (p149, p150, p151) => Zr (Y1 p150 p151 a1 a0) p149
noncomputable def Yz (p39 : Int) (p19 : Int) (a0 : (List Int)) (j3 : Nat) (x2 : Int) (j5 : Nat) (x4 : Int) (a1 : Int) : Option (Int × Bool × (List Int)) :=
 (if p39 < p19 then (inA ((((a0).set j3 x2).set j5 x4).length) (a1)).bind fun j46 => ((((a0).set j3 x2).set j5 x4)[j46]?).bind fun x47 => (inA ((((a0).set j3 x2).set j5 x4).length) (p39)).bind fun j48 => ((((a0).set j3 x2).set j5 x4)[j48]?).bind fun x49 => (inA (((((a0).set j3 x2).set j5 x4).set j48 x47).length) (a1)).bind fun j50 => (chk ((((((a0).set j3 x2).set j5 x4).set j48 x47).set j50 x49).length = a0.length)).bind fun _ => some ((p39, true, ((((a0).set j3 x2).set j5 x4).set j48 x47).set j50 x49)) else (inA ((((a0).set j3 x2).set j5 x4).length) (p39)).bind fun j51 => ((((a0).set j3 x2).set j5 x4)[j51]?).bind fun x52 => (inA ((((a0).set j3 x2).set j5 x4).length) (p19)).bind fun j53 => ((((a0).set j3 x2).set j5 x4)[j53]?).bind fun x54 => (inA (((((a0).set j3 x2).set j5 x4).set j53 x52).length) (p39)).bind fun j55 => Zr (Y2 a1 a0) (IntKind.i64.wrap (p19 + 1), IntKind.i64.wrap (p39 - 1), ((((a0).set j3 x2).set j5 x4).set j53 x52).set j55 x54))
noncomputable def Y3 (p19 : Int) (a0 : (List Int)) (j3 : Nat) (x2 : Int) (j5 : Nat) (x4 : Int) (a1 : Int) : Int → Option ((Int) ⊕ (Int × Bool × (List Int)))
 | p39 => ((if p19 ≤ p39 then (inA ((((a0).set j3 x2).set j5 x4).length) (p39)).bind fun j260 => ((((a0).set j3 x2).set j5 x4)[j260]?).bind fun x261 => (inA ((((a0).set j3 x2).set j5 x4).length) (a1)).bind fun j262 => ((((a0).set j3 x2).set j5 x4)[j262]?).bind fun x263 => (ZN x261 x263).bind fun y264 => some (!(y264)) else some (false))).bind fun z265 => (if (p19 ≤ p39 ∧ z265 = true) then some (.inl (IntKind.i64.wrap (p39 - 1))) else (Yz p39 p19 a0 j3 x2 j5 x4 a1).map Sum.inr)
noncomputable def YA (p19 : Int) (a0 : (List Int)) (j3 : Nat) (x2 : Int) (j5 : Nat) (x4 : Int) (a1 : Int) (a2 : Int) : Option (Int × Bool × (List Int)) :=
 Zr (Y3 p19 a0 j3 x2 j5 x4 a1) (IntKind.i64.wrap (a2 - 1))
noncomputable def Y4 (a2 : Int) (a0 : (List Int)) (j3 : Nat) (x2 : Int) (j5 : Nat) (x4 : Int) (a1 : Int) : Int → Option ((Int) ⊕ (Int × Bool × (List Int)))
 | p19 => ((if p19 ≤ IntKind.i64.wrap (a2 - 1) then (inA ((((a0).set j3 x2).set j5 x4).length) (p19)).bind fun j266 => ((((a0).set j3 x2).set j5 x4)[j266]?).bind fun x267 => (inA ((((a0).set j3 x2).set j5 x4).length) (a1)).bind fun j268 => ((((a0).set j3 x2).set j5 x4)[j268]?).bind fun x269 => (ZN x267 x269).bind fun y270 => some (y270) else some (false))).bind fun z271 => (if (p19 ≤ IntKind.i64.wrap (a2 - 1) ∧ z271 = true) then some (.inl (IntKind.i64.wrap (p19 + 1))) else (YA p19 a0 j3 x2 j5 x4 a1 a2).map Sum.inr)
noncomputable def Yc (a0 : (List Int)) (a1 : Int) (a2 : Int) (a3 : Int) : Option (Int × Bool × (List Int)) :=
 (inA (a0.length) (a3)).bind fun j1 => ((a0)[j1]?).bind fun x2 => (inA (a0.length) (a1)).bind fun j3 => ((a0)[j3]?).bind fun x4 => (inA (((a0).set j3 x2).length) (a3)).bind fun j5 => Zr (Y4 a2 a0 j3 x2 j5 x4 a1) (IntKind.i64.wrap (a1 + 1))
noncomputable def Z1 (p20 : (List Int)) (a1 : Int) (p19 : Int) (y22 : (Int × Int)) (p23 : Int) : Option ((Int × (List Int) × Int) ⊕ ((List Int))) :=
 (inA (p20.length) (IntKind.i64.wrap (a1 + p23))).bind fun j24 => ((p20)[j24]?).bind fun x25 => (inA (p20.length) (p19)).bind fun j26 => ((p20)[j26]?).bind fun x27 => (inA (((p20).set j26 x25).length) (IntKind.i64.wrap (a1 + p23))).bind fun j28 => some (.inl (IntKind.i64.wrap (p19 + 1), ((p20).set j26 x25).set j28 x27, y22.2))
noncomputable def YV (a1 : Int) (a2 : Int) (y1 : (Int)) (a0 : (List Int)) : (Int × (List Int) × Int) → Option ((Int × (List Int) × Int) ⊕ ((List Int)))
 | (p19, p20, p21) => (if p19 ≤ IntKind.i64.wrap ((IntKind.i64.wrap (a1 + (IntKind.i64.wrap ((IntKind.i64.wrap ((IntKind.i64.wrap (a2 - a1)).tdiv 4)) * 2)))) + 1) then (Xs p21).bind fun y22 => (if IntKind.i64.wrap (a2 - a1) ≤ IntKind.i64.wrap (bits .and .u64 y22.1 (IntKind.u64.wrap (y1 - 1))) then Z1 p20 a1 p19 y22 (IntKind.i64.wrap ((IntKind.i64.wrap (bits .and .u64 y22.1 (IntKind.u64.wrap (y1 - 1)))) - (IntKind.i64.wrap (a2 - a1)))) else Z1 p20 a1 p19 y22 (IntKind.i64.wrap (bits .and .u64 y22.1 (IntKind.u64.wrap (y1 - 1))))) else (chk (p20.length = a0.length)).bind fun _ => some (.inr (p20)))
noncomputable def Z9 (a0 : (List Int)) (a1 : Int) (a2 : Int) : Option ((List Int)) :=
 (if 8 ≤ IntKind.i64.wrap (a2 - a1) then (Xg (IntKind.i64.wrap (a2 - a1))).bind fun y1 => Zr (YV a1 a2 y1 a0) (IntKind.i64.wrap ((IntKind.i64.wrap (a1 + (IntKind.i64.wrap ((IntKind.i64.wrap ((IntKind.i64.wrap (a2 - a1)).tdiv 4)) * 2)))) - 1), a0, IntKind.u64.wrap (IntKind.i64.wrap (a2 - a1))) else some (a0))
noncomputable def ZB (p101 : Int) (p118 : Int) (p102 : Int) (p113 : Int) (p104 : Bool) (p105 : Bool) (rf : (List Int) → Int → Int → Int → Option ((List Int))) (p123 : (List Int)) : Option ((Int × Int × Int × Bool × Bool × (List Int)) ⊕ ((List Int))) :=
 ((if 0 < p101 then (inA (p123.length) (IntKind.i64.wrap (p101 - 1))).bind fun j124 => ((p123)[j124]?).bind fun x125 => (inA (p123.length) (p118)).bind fun j126 => ((p123)[j126]?).bind fun x127 => (ZN x125 x127).bind fun y128 => some (!(y128)) else some (false))).bind fun z129 => (if (0 < p101 ∧ z129 = true) then (ZW p123 p101 p102 p118).bind fun y130 => (chk (y130.2.length = p123.length)).bind fun _ => some (.inl (y130.1, p102, p113, p104, p105, y130.2)) else (Yc p123 p101 p102 p118).bind fun y132 => (chk (y132.2.2.length = p123.length)).bind fun _ => (if IntKind.i64.wrap (y132.1 - p101) < IntKind.i64.wrap (p102 - y132.1) then (rf y132.2.2 p101 y132.1 p113).bind fun y134 => (chk (y134.length = y132.2.2.length)).bind fun _ => some (.inl (IntKind.i64.wrap (y132.1 + 1), p102, p113, decide (IntKind.i64.wrap ((IntKind.i64.wrap (p102 - p101)).tdiv 8) ≤ IntKind.i64.wrap (y132.1 - p101)), y132.2.1, y134)) else (rf y132.2.2 (IntKind.i64.wrap (y132.1 + 1)) p102 p113).bind fun y136 => (chk (y136.length = y132.2.2.length)).bind fun _ => some (.inl (p101, y132.1, p113, decide (IntKind.i64.wrap ((IntKind.i64.wrap (p102 - p101)).tdiv 8) ≤ IntKind.i64.wrap (p102 - y132.1)), y132.2.1, y136))))
noncomputable def ZC (p104 : Bool) (p105 : Bool) (p101 : Int) (p102 : Int) (a0 : (List Int)) (p113 : Int) (rf : (List Int) → Int → Int → Int → Option ((List Int))) (p118 : Int) (p119 : Int) (p120 : (List Int)) : Option ((Int × Int × Int × Bool × Bool × (List Int)) ⊕ ((List Int))) :=
 (if ((p104 = true ∧ p105 = true) ∧ p119 = 1) then (ZT p120 p101 p102).bind fun y138 => (chk (y138.2.length = p120.length)).bind fun _ => (if y138.1 = true then (chk (y138.2.length = a0.length)).bind fun _ => some (.inr (y138.2)) else ZB p101 p118 p102 p113 p104 p105 rf y138.2) else ZB p101 p118 p102 p113 p104 p105 rf p120)
noncomputable def ZQ (p101 : Int) (p102 : Int) (p104 : Bool) (p105 : Bool) (a0 : (List Int)) (rf : (List Int) → Int → Int → Int → Option ((List Int))) (p113 : Int) (p114 : (List Int)) : Option ((Int × Int × Int × Bool × Bool × (List Int)) ⊕ ((List Int))) :=
 (Yl p114 p101 p102).bind fun y115 => (if y115.2 = 2 then (Yi p114 p101 p102).bind fun y140 => (chk (y140.length = p114.length)).bind fun _ => ZC p104 p105 p101 p102 a0 p113 rf (IntKind.i64.wrap ((IntKind.i64.wrap (p102 - 1)) - (IntKind.i64.wrap (y115.1 - p101)))) 1 y140 else ZC p104 p105 p101 p102 a0 p113 rf y115.1 y115.2 p114)
noncomputable def ZR (a0 : (List Int)) (rf : (List Int) → Int → Int → Int → Option ((List Int))) : (Int × Int × Int × Bool × Bool × (List Int)) → Option ((Int × Int × Int × Bool × Bool × (List Int)) ⊕ ((List Int)))
 | (p101, p102, p103, p104, p105, p106) => (if IntKind.i64.wrap (p102 - p101) ≤ 12 then (Z8 p106 p101 p102).bind fun y107 => (chk (y107.length = p106.length)).bind fun _ => (chk (y107.length = a0.length)).bind fun _ => some (.inr (y107)) else (if p103 = 0 then (Yv p106 p101 p102).bind fun y109 => (chk (y109.length = p106.length)).bind fun _ => (chk (y109.length = a0.length)).bind fun _ => some (.inr (y109)) else (if ¬ (p104 = true) then (Z9 p106 p101 p102).bind fun y142 => (chk (y142.length = p106.length)).bind fun _ => ZQ p101 p102 p104 p105 a0 rf (IntKind.i64.wrap (p103 - 1)) y142 else ZQ p101 p102 p104 p105 a0 rf p103 p106)))
noncomputable def YJ (rf : (List Int) → Int → Int → Int → Option ((List Int))) (a0 : (List Int)) (a1 : Int) (a2 : Int) (a3 : Int) : Option ((List Int)) :=
 Zr (ZR a0 rf) (a1, a2, a3, true, true, a0)
noncomputable def Lslices_pdqsortOrdered_of_uint64_n : Nat → (List Int) → Int → Int → Int → Option ((List Int))
 | 0, _, _, _, _ => none
 | n + 1, a0, a1, a2, a3 => YJ (Lslices_pdqsortOrdered_of_uint64_n n) a0 a1 a2 a3
noncomputable def Xx (a0 : (List Int)) (a1 : Int) (a2 : Int) (a3 : Int) : Option ((List Int)) := ZfH fun n => Lslices_pdqsortOrdered_of_uint64_n n a0 a1 a2 a3
noncomputable def YK (a0 : (List Int)) : Option ((List Int)) :=
 (XV (IntKind.u64.wrap ((a0.length : Int)))).bind fun y1 => (Xx a0 0 (a0.length : Int) y1).bind fun y2 => (chk (y2.length = a0.length)).bind fun _ => (chk (y2.length = a0.length)).bind fun _ => some (y2)
noncomputable def ZcA (p11 : (List Int)) : Option (List Int) :=
 (YK p11).bind fun y16 => (chk (y16.length = p11.length)).bind fun _ => some (y16)
noncomputable def Za8 (a1 : (List (List Int))) (a0 : (Arr 2)) (a2 : Int) (a3 : Int) : (Int × (List Int)) → Option ((Int × (List Int)) ⊕ ((List Int)))
 | (p10, p11) => (if p10 < (a1.length : Int) then (idx (a1) (p10)).bind fun x18 => (Zck a0 x18).bind fun y19 => (ZbU y19 (IntKind.u64.wrap ((IntKind.u64.wrap (a2)) * a3))).bind fun y20 => (chk (p11.length + 1 ≤ 17592186044416)).bind fun _ => some (.inl (IntKind.i64.wrap (p10 + 1), p11 ++ [y20])) else (ZcA p11).map Sum.inr)
noncomputable def XW (a0 : (Arr 2)) (a1 : (List (List Int))) (a2 : Int) (a3 : Int) : Option ((List Int)) :=
 Zr (Za8 a1 a0 a2 a3) (0, [])
noncomputable def ZcV (a0 : (Arr 2)) (p13 : (List (List Int))) (a3 : Int) (a2 : Int) : Option (Tapi_Filter × Int) :=
 (XW a0 p13 (p13.length : Int) a3).bind fun y18 => (XB y18 a2).bind fun y19 => some ((y19.1, y19.2))
noncomputable def Zad (p11 : Int) (p22 : (List (ByteArray × Bool))) (p23 : (List (List Int))) : Option ((Int × (List (ByteArray × Bool)) × (List (List Int))) ⊕ (Tapi_Filter × Int)) :=
 some (.inl (IntKind.i64.wrap (p11 + 1), p22, p23))
noncomputable def ZaG (a1 : (List (List Int))) (a0 : (Arr 2)) (a3 : Int) (a2 : Int) : (Int × (List (ByteArray × Bool)) × (List (List Int))) → Option ((Int × (List (ByteArray × Bool)) × (List (List Int))) ⊕ (Tapi_Filter × Int))
 | (p11, p12, p13) => (if p11 < (a1.length : Int) then (idx (a1) (p11)).bind fun x20 => (if ¬ ((Zde (ZbS x20) p12).getD false = true) then (chk (p13.length + 1 ≤ 5864062014805)).bind fun _ => Zad p11 (Zdv (ZbS x20) true p12) (p13 ++ [x20]) else Zad p11 p12 p13) else (ZcV a0 p13 a3 a2).map Sum.inr)
noncomputable def X6 (a0 : (Arr 2)) (a1 : (List (List Int))) (a2 : Int) (a3 : Int) : Option (Tapi_Filter × Int) :=
 (if 4096 < (a1.length : Int) then some (((0, ([] : (List Int))), 4)) else (if (((a3 < 1 ∨ 1099511627776 < a3) ∨ a2 < 0) ∨ 32 < a2) then some (((0, ([] : (List Int))), 5)) else Zr (ZaG a1 a0 a3 a2) (0, ([] : (List (ByteArray × Bool))), [])))
noncomputable def Llaw19_sane : Option (Bool) :=
 (XB [1, 3] 2).bind fun y1 => (X6 (⟨[0, 0], rfl⟩ : Arr 2) ([] : (List (List Int))) 2 5).bind fun y2 => ((if ((y1.2 = 0 ∧ y1.1.1 = 2) ∧ (y1.1.2.length : Int) = 1) then ((y1.1.2)[0]?).bind fun x3 => some (decide (x3 = 40)) else some (false))).bind fun z4 => some (((((((decide (y1.2 = 0) && decide (y1.1.1 = 2)) && decide ((y1.1.2.length : Int) = 1)) && z4) && decide (y2.2 = 0)) && decide (y2.1.1 = 0)) && decide ((y2.1.2.length : Int) = 0)))
noncomputable def ZaP (a0 : Tapi_Bits) (a1 : Int) : Option (Bool) :=
 (idx (a0.1) (IntKind.i64.wrap ((a1).tdiv 8))).bind fun x1 => (chk (¬ (IntKind.i64.wrap (7 - ((a1).tmod 8)) < 0))).bind fun _ => some (decide (bits .and .u8 ((x1).fdiv (2 ^ (min (IntKind.i64.wrap (7 - ((a1).tmod 8))).toNat 8))) 1 = 1))
noncomputable def Lref18_Valid_k1 : Option Bool :=
 some (true)
noncomputable def Zbx (a0 : Tapi_Bits) : Int → Option ((Int) ⊕ (Bool))
 | p4 => (if p4 < IntKind.i64.wrap (8 * (a0.1.length : Int)) then (ZaP a0 p4).bind fun y6 => (if y6 = true then some (.inr (false)) else some (.inl (IntKind.i64.wrap (p4 + 1)))) else (Lref18_Valid_k1).map Sum.inr)
noncomputable def X5 (a0 : Tapi_Bits) : Option (Bool) :=
 (if ((a0.2 < 0 ∨ 1600000 < a0.2) ∨ ¬ ((a0.1.length : Int) = IntKind.i64.wrap ((IntKind.i64.wrap (a0.2 + 7)).tdiv 8))) then some (false) else Zr (Zbx a0) a0.2)
noncomputable def Zdx (p8 : (List Int)) : Option (List Int) :=
 some (p8)
noncomputable def Zcu (a0 : (List (List Int))) : (Int × (List Int)) → Option ((Int × (List Int)) ⊕ ((List Int)))
 | (p7, p8) => (if p7 < (a0.length : Int) then (idx (a0) (p7)).bind fun x11 => (Zaw p8 x11).bind fun y12 => some (.inl (IntKind.i64.wrap (p7 + 1), y12)) else (Zdx p8).map Sum.inr)
noncomputable def Zbh (a0 : (List (List Int))) : Option ((List Int)) :=
 Zr (Zcu a0) (0, ([] : (List Int)))
noncomputable def Za3 (a0 : Tapi_Bits) (p6 : (List Int)) : Option Tapi_Bits :=
 some ((p6, IntKind.i64.wrap (a0.2 + 1)))
noncomputable def Zay (a1 : Bool) (a0 : Tapi_Bits) (p2 : (List Int)) : Option Tapi_Bits :=
 (if a1 = true then (inA (p2.length) (IntKind.i64.wrap ((a0.2).tdiv 8))).bind fun j7 => ((p2)[j7]?).bind fun x8 => (chk (¬ (IntKind.i64.wrap (7 - ((a0.2).tmod 8)) < 0))).bind fun _ => Za3 a0 ((p2).set j7 (bits .or .u8 x8 (IntKind.u8.wrap (1 * (2 ^ (min (IntKind.i64.wrap (7 - ((a0.2).tmod 8))).toNat 8)))))) else Za3 a0 p2)
noncomputable def ZaQ (a0 : Tapi_Bits) (a1 : Bool) : Option (Tapi_Bits) :=
 (if (a0.2).tmod 8 = 0 then (chk (a0.1.length + 1 ≤ 140737488355328)).bind fun _ => Zay a1 a0 (a0.1 ++ [0]) else Zay a1 a0 a0.1)
noncomputable def ZbV (p26 : (List Int)) (p25 : Int) : Option (Tapi_Bits × Int) :=
 some (((p26, p25), 0))
noncomputable def XX (a1 : Int) : (Int × Int × (List Int)) → Option ((Int × Int × (List Int)) ⊕ (Tapi_Bits × Int))
 | (p24, p25, p26) => (if 0 ≤ p24 then (chk (¬ (p24 < 0))).bind fun _ => (ZaQ (p26, p25) (decide (bits .and .u64 ((a1).fdiv (2 ^ (min (p24).toNat 64))) 1 = 1))).bind fun y30 => some (.inl (IntKind.i64.wrap (p24 - 1), y30.2, y30.1)) else (ZbV p26 p25).map Sum.inr)
noncomputable def ZbW (p14 : (List Int)) (p13 : Int) (a1 : Int) (a2 : Int) : Option (Tapi_Bits × Int) :=
 (ZaQ (p14, p13) false).bind fun y16 => Zr (XX a1) (IntKind.i64.wrap (a2 - 1), y16.2, y16.1)
noncomputable def Zap (a1 : Int) (a2 : Int) : (Int × Int × (List Int)) → Option ((Int × Int × (List Int)) ⊕ (Tapi_Bits × Int))
 | (p12, p13, p14) => (if 0 < p12 then (ZaQ (p14, p13) true).bind fun y31 => some (.inl (IntKind.u64.wrap (p12 - 1), y31.2, y31.1)) else (ZbW p14 p13 a1 a2).map Sum.inr)
noncomputable def Xq (a0 : Tapi_Bits) (a1 : Int) (a2 : Int) : Option (Tapi_Bits × Int) :=
 (X5 a0).bind fun y1 => (if ¬ (y1 = true) then some (((([] : (List Int)), 0), 6)) else (if (a2 < 0 ∨ 32 < a2) then some (((([] : (List Int)), 0), 5)) else (chk (¬ (a2 < 0))).bind fun _ => ((if 65536 < (a1).fdiv (2 ^ (min (a2).toNat 64)) then some (false) else (chk (¬ (a2 < 0))).bind fun _ => some (decide (1600000 < IntKind.i64.wrap ((IntKind.i64.wrap ((IntKind.i64.wrap (a0.2 + (IntKind.i64.wrap ((a1).fdiv (2 ^ (min (a2).toNat 64)))))) + 1)) + a2))))).bind fun z4 => (if (65536 < (a1).fdiv (2 ^ (min (a2).toNat 64)) ∨ z4 = true) then some (((([] : (List Int)), 0), 4)) else (Zbh [a0.1]).bind fun y5 => (chk (¬ (a2 < 0))).bind fun _ => Zr (Zap a1 a2) ((a1).fdiv (2 ^ (min (a2).toNat 64)), a0.2, y5))))
noncomputable def ZcW (a0 : (List Int)) (p19 : (List Int)) : Option (Tapi_Filter × Int) :=
 some ((((a0.length : Int), p19), 0))
noncomputable def ZbX (a0 : (List Int)) (a1 : Int) : (Int × Int × (List Int) × Int) → Option ((Int × Int × (List Int) × Int) ⊕ (Tapi_Filter × Int))
 | (p17, p18, p19, p20) => (if p18 < (a0.length : Int) then (idx (a0) (p18)).bind fun x23 => (Xq (p19, p20) (IntKind.u64.wrap (x23 - p17)) a1).bind fun y24 => (if ¬ (y24.2 = 0) then some (.inr (((0, ([] : (List Int))), y24.2))) else some (.inl (x23, IntKind.i64.wrap (p18 + 1), y24.1.1, y24.1.2))) else (ZcW a0 p19).map Sum.inr)
noncomputable def ZcX (a0 : (List Int)) (a1 : Int) : Option (Tapi_Filter × Int) :=
 Zr (ZbX a0 a1) (0, 0, ([] : (List Int)), 0)
noncomputable def ZaH (a0 : (List Int)) (a1 : Int) : Int → Option ((Int) ⊕ (Tapi_Filter × Int))
 | p6 => (if p6 < (a0.length : Int) then (idx (a0) (IntKind.i64.wrap (p6 - 1))).bind fun x25 => (idx (a0) (p6)).bind fun x26 => (if x26 < x25 then some (.inr (((0, ([] : (List Int))), 6))) else some (.inl (IntKind.i64.wrap (p6 + 1)))) else (ZcX a0 a1).map Sum.inr)
noncomputable def X7 (a0 : (List Int)) (a1 : Int) : Option (Tapi_Filter × Int) :=
 (if 4096 < (a0.length : Int) then some (((0, ([] : (List Int))), 4)) else (if (a1 < 0 ∨ 32 < a1) then some (((0, ([] : (List Int))), 5)) else Zr (ZaH a0 a1) 1))
noncomputable def Zbi (a0 : (List Int)) (a1 : (List Int)) : Option (Bool) :=
 some (decide (ZbS a0 = ZbS a1))
noncomputable def Lkeep_Items_k1 : Option Bool :=
 some (true)
noncomputable def Zbl (a0 : (List (List Int))) (a2 : Int) : Int → Option ((Int) ⊕ (Bool))
 | p4 => (if p4 < (a0.length : Int) then (idx (a0) (p4)).bind fun x6 => (if a2 < (x6.length : Int) then some (.inr (false)) else some (.inl (IntKind.i64.wrap (p4 + 1)))) else (Lkeep_Items_k1).map Sum.inr)
noncomputable def ZaR (a0 : (List (List Int))) (a1 : Int) (a2 : Int) : Option (Bool) :=
 (if a1 < (a0.length : Int) then some (false) else Zr (Zbl a0 a2) 0)
noncomputable def Zcb (p35 : (List (List Int))) : Option (List (List Int)) :=
 some (p35)
noncomputable def X3 (p34 : Int) (p67 : (List (List Int))) : Option ((Int × (List (List Int))) ⊕ ((List (List Int)))) :=
 some (.inl (IntKind.i64.wrap (p34 + 1), p67))
noncomputable def Zcc (p61 : Bool) (p35 : (List (List Int))) (p34 : Int) (x52 : (List Int)) : Option ((Int × (List (List Int))) ⊕ ((List (List Int)))) :=
 (if ¬ (p61 = true) then (chk (p35.length + 1 ≤ 5864062014805)).bind fun _ => X3 p34 (p35 ++ [x52]) else X3 p34 p35)
noncomputable def ZaC (a0 : (List (List Int))) (p34 : Int) (x52 : (List Int)) (p35 : (List (List Int))) : (Bool × Int) → Option ((Bool × Int) ⊕ ((Int × (List (List Int))) ⊕ ((List (List Int)))))
 | (p61, p62) => (if p62 < (((a0).take ((p34).toNat)).length : Int) then (idx ((a0).take ((p34).toNat)) (p62)).bind fun x69 => ((if p61 = true then some (false) else (Zbi x52 x69).bind fun y70 => some (y70))).bind fun z71 => some (.inl ((p61 || z71), IntKind.i64.wrap (p62 + 1))) else (Zcc p61 p35 p34 x52).map Sum.inr)
noncomputable def ZaD (a0 : (List (List Int))) : (Int × (List (List Int))) → Option ((Int × (List (List Int))) ⊕ ((List (List Int))))
 | (p34, p35) => (if p34 < (a0.length : Int) then (idx (a0) (p34)).bind fun x52 => (chk (p34 ≤ (a0.length : Int) ∧ 0 ≤ p34)).bind fun _ => Zr (ZaC a0 p34 x52 p35) (false, 0) else (Zcb p35).map Sum.inr)
noncomputable def XM (a0 : (List (List Int))) : Option ((List (List Int))) :=
 Zr (ZaD a0) (0, [])
noncomputable def Zbp (a0 : Int) (a1 : Int) : Option (Int) :=
 (XK a0 a1).bind fun y1 => some (y1.1)
noncomputable def Xu (a0 : (Arr 4)) : Option ((Arr 4)) :=
 (ZH ((a0.put 0 (IntKind.u64.wrap ((a0.at 0) + (a0.at 1)))).at 1) 13).bind fun y1 => (ZH (((a0.put 0 (IntKind.u64.wrap ((a0.at 0) + (a0.at 1)))).put 1 (bits .xor .u64 y1 ((a0.put 0 (IntKind.u64.wrap ((a0.at 0) + (a0.at 1)))).at 0))).at 0) 32).bind fun y2 => (ZH (((((a0.put 0 (IntKind.u64.wrap ((a0.at 0) + (a0.at 1)))).put 1 (bits .xor .u64 y1 ((a0.put 0 (IntKind.u64.wrap ((a0.at 0) + (a0.at 1)))).at 0))).put 0 y2).put 2 (IntKind.u64.wrap (((((a0.put 0 (IntKind.u64.wrap ((a0.at 0) + (a0.at 1)))).put 1 (bits .xor .u64 y1 ((a0.put 0 (IntKind.u64.wrap ((a0.at 0) + (a0.at 1)))).at 0))).put 0 y2).at 2) + ((((a0.put 0 (IntKind.u64.wrap ((a0.at 0) + (a0.at 1)))).put 1 (bits .xor .u64 y1 ((a0.put 0 (IntKind.u64.wrap ((a0.at 0) + (a0.at 1)))).at 0))).put 0 y2).at 3)))).at 3) 16).bind fun y3 => (some (((((a0.put 0 (IntKind.u64.wrap ((a0.at 0) + (a0.at 1)))).put 1 (bits .xor .u64 y1 ((a0.put 0 (IntKind.u64.wrap ((a0.at 0) + (a0.at 1)))).at 0))).put 0 y2).put 2 (IntKind.u64.wrap (((((a0.put 0 (IntKind.u64.wrap ((a0.at 0) + (a0.at 1)))).put 1 (bits .xor .u64 y1 ((a0.put 0 (IntKind.u64.wrap ((a0.at 0) + (a0.at 1)))).at 0))).put 0 y2).at 2) + ((((a0.put 0 (IntKind.u64.wrap ((a0.at 0) + (a0.at 1)))).put 1 (bits .xor .u64 y1 ((a0.put 0 (IntKind.u64.wrap ((a0.at 0) + (a0.at 1)))).at 0))).put 0 y2).at 3)))).put 3 (bits .xor .u64 y3 (((((a0.put 0 (IntKind.u64.wrap ((a0.at 0) + (a0.at 1)))).put 1 (bits .xor .u64 y1 ((a0.put 0 (IntKind.u64.wrap ((a0.at 0) + (a0.at 1)))).at 0))).put 0 y2).put 2 (IntKind.u64.wrap (((((a0.put 0 (IntKind.u64.wrap ((a0.at 0) + (a0.at 1)))).put 1 (bits .xor .u64 y1 ((a0.put 0 (IntKind.u64.wrap ((a0.at 0) + (a0.at 1)))).at 0))).put 0 y2).at 2) + ((((a0.put 0 (IntKind.u64.wrap ((a0.at 0) + (a0.at 1)))).put 1 (bits .xor .u64 y1 ((a0.put 0 (IntKind.u64.wrap ((a0.at 0) + (a0.at 1)))).at 0))).put 0 y2).at 3)))).at 2)))).bind fun x4 => (ZH ((x4.put 0 (IntKind.u64.wrap ((x4.at 0) + (x4.at 3)))).at 3) 21).bind fun y5 => (ZH ((((x4.put 0 (IntKind.u64.wrap ((x4.at 0) + (x4.at 3)))).put 3 (bits .xor .u64 y5 ((x4.put 0 (IntKind.u64.wrap ((x4.at 0) + (x4.at 3)))).at 0))).put 2 (IntKind.u64.wrap ((((x4.put 0 (IntKind.u64.wrap ((x4.at 0) + (x4.at 3)))).put 3 (bits .xor .u64 y5 ((x4.put 0 (IntKind.u64.wrap ((x4.at 0) + (x4.at 3)))).at 0))).at 2) + (((x4.put 0 (IntKind.u64.wrap ((x4.at 0) + (x4.at 3)))).put 3 (bits .xor .u64 y5 ((x4.put 0 (IntKind.u64.wrap ((x4.at 0) + (x4.at 3)))).at 0))).at 1)))).at 1) 17).bind fun y6 => (some ((((x4.put 0 (IntKind.u64.wrap ((x4.at 0) + (x4.at 3)))).put 3 (bits .xor .u64 y5 ((x4.put 0 (IntKind.u64.wrap ((x4.at 0) + (x4.at 3)))).at 0))).put 2 (IntKind.u64.wrap ((((x4.put 0 (IntKind.u64.wrap ((x4.at 0) + (x4.at 3)))).put 3 (bits .xor .u64 y5 ((x4.put 0 (IntKind.u64.wrap ((x4.at 0) + (x4.at 3)))).at 0))).at 2) + (((x4.put 0 (IntKind.u64.wrap ((x4.at 0) + (x4.at 3)))).put 3 (bits .xor .u64 y5 ((x4.put 0 (IntKind.u64.wrap ((x4.at 0) + (x4.at 3)))).at 0))).at 1)))).put 1 (bits .xor .u64 y6 ((((x4.put 0 (IntKind.u64.wrap ((x4.at 0) + (x4.at 3)))).put 3 (bits .xor .u64 y5 ((x4.put 0 (IntKind.u64.wrap ((x4.at 0) + (x4.at 3)))).at 0))).put 2 (IntKind.u64.wrap ((((x4.put 0 (IntKind.u64.wrap ((x4.at 0) + (x4.at 3)))).put 3 (bits .xor .u64 y5 ((x4.put 0 (IntKind.u64.wrap ((x4.at 0) + (x4.at 3)))).at 0))).at 2) + (((x4.put 0 (IntKind.u64.wrap ((x4.at 0) + (x4.at 3)))).put 3 (bits .xor .u64 y5 ((x4.put 0 (IntKind.u64.wrap ((x4.at 0) + (x4.at 3)))).at 0))).at 1)))).at 2)))).bind fun x7 => (ZH (x7.at 2) 32).bind fun y8 => some (x7.put 2 y8)
noncomputable def X8 (a0 : (Arr 4)) (a1 : Int) : Option ((Arr 4)) :=
 (Xu (a0.put 3 (bits .xor .u64 (a0.at 3) a1))).bind fun y1 => (Xu y1).bind fun y2 => some (y2.put 0 (bits .xor .u64 (y2.at 0) a1))
noncomputable def ZeL (p7 : Int) : Option Int :=
 some (p7)
noncomputable def ZeM (a0 : (List Int)) : (Int × Int) → Option ((Int × Int) ⊕ (Int))
 | (p7, p8) => (if p8 < (a0.length : Int) then (idx (a0) (p8)).bind fun x11 => (chk (¬ (IntKind.i64.wrap (8 * p8) < 0))).bind fun _ => some (.inl (bits .or .u64 p7 (IntKind.u64.wrap ((IntKind.u64.wrap (x11)) * (2 ^ (min (IntKind.i64.wrap (8 * p8)).toNat 64)))), IntKind.i64.wrap (p8 + 1))) else (ZeL p7).map Sum.inr)
noncomputable def Zbj (a0 : (List Int)) : Option (Int) :=
 Zr (ZeM a0) (0, 0)
noncomputable def ZdV (p11 : (List Int)) (p12 : (Arr 4)) (a1 : (List Int)) : Option Int :=
 (Zbj p11).bind fun y17 => (X8 p12 (bits .or .u64 y17 (IntKind.u64.wrap ((IntKind.u64.wrap (((a1.length : Int)).tmod 256)) * 72057594037927936)))).bind fun y18 => (Xu (y18.put 2 (bits .xor .u64 (y18.at 2) 255))).bind fun y19 => (Xu y19).bind fun y20 => (Xu y20).bind fun y21 => (Xu y21).bind fun y22 => some (bits .xor .u64 (bits .xor .u64 (bits .xor .u64 (y22.at 0) (y22.at 1)) (y22.at 2)) (y22.at 3))
noncomputable def Zb1 (a1 : (List Int)) : ((List Int) × (Arr 4)) → Option (((List Int) × (Arr 4)) ⊕ (Int))
 | (p11, p12) => (if 8 ≤ (p11.length : Int) then (chk (8 ≤ (p11.length : Int))).bind fun _ => (Zbj ((p11).take 8)).bind fun y24 => (X8 p12 y24).bind fun y25 => (chk (8 ≤ (p11.length : Int))).bind fun _ => some (.inl ((p11).drop 8, y25)) else (ZdV p11 p12 a1).map Sum.inr)
noncomputable def ZbY (a0 : (Arr 2)) (a1 : (List Int)) : Option (Int) :=
 Zr (Zb1 a1) (a1, ((((zA 4).put 0 (bits .xor .u64 (a0.at 0) 8317987319222330741)).put 1 (bits .xor .u64 (a0.at 1) 7237128888997146477)).put 2 (bits .xor .u64 (a0.at 0) 7816392313619706465)).put 3 (bits .xor .u64 (a0.at 1) 8387220255154660723))
noncomputable def Zaq (a0 : (Arr 2)) (a1 : (List Int)) (a2 : Int) (a3 : Int) : Option (Int) :=
 (ZbY a0 a1).bind fun y1 => (Zbp y1 (IntKind.u64.wrap ((IntKind.u64.wrap (a2)) * a3))).bind fun y2 => some (y2)
noncomputable def Zae (p29 : (List Int)) (p27 : (List Int)) (p28 : (List Int)) : Option (List Int) :=
 (chk (p29.length + p27.length ≤ 17592186044416)).bind fun _ => (chk (p29.length + p27.length + p28.length ≤ 17592186044416)).bind fun _ => some (p29 ++ p27 ++ p28)
noncomputable def Lref19_sorted_s1 : ((List Int) × (List Int) × (List Int)) → Option (((List Int) × (List Int) × (List Int)) ⊕ ((List Int)))
 | (p27, p28, p29) => (if (0 < (p27.length : Int) ∧ 0 < (p28.length : Int)) then ((p27)[0]?).bind fun x38 => ((p28)[0]?).bind fun x39 => (if x38 ≤ x39 then (chk (p29.length + 1 ≤ 17592186044416)).bind fun _ => (chk (1 ≤ (p27.length : Int))).bind fun _ => some (.inl ((p27).drop 1, p28, p29 ++ [x38])) else (chk (p29.length + 1 ≤ 17592186044416)).bind fun _ => (chk (1 ≤ (p28.length : Int))).bind fun _ => some (.inl (p27, (p28).drop 1, p29 ++ [x39]))) else (Zae p29 p27 p28).map Sum.inr)
noncomputable def Zby (rf : (List Int) → Option ((List Int))) (a0 : (List Int)) : Option ((List Int)) :=
 (if (a0.length : Int) < 2 then some (a0) else (chk (IntKind.i64.wrap (((a0.length : Int)).tdiv 2) ≤ (a0.length : Int) ∧ 0 ≤ IntKind.i64.wrap (((a0.length : Int)).tdiv 2))).bind fun _ => (rf ((a0).take ((IntKind.i64.wrap (((a0.length : Int)).tdiv 2)).toNat))).bind fun y2 => (chk (0 ≤ IntKind.i64.wrap (((a0.length : Int)).tdiv 2) ∧ IntKind.i64.wrap (((a0.length : Int)).tdiv 2) ≤ (a0.length : Int))).bind fun _ => (rf ((a0).drop ((IntKind.i64.wrap (((a0.length : Int)).tdiv 2)).toNat))).bind fun y4 => Zr (Lref19_sorted_s1) (y2, y4, []))
noncomputable def Lref19_sorted_n : Nat → (List Int) → Option ((List Int))
 | 0, _ => none
 | n + 1, a0 => Zby (Lref19_sorted_n n) a0
noncomputable def Zb2 (a0 : (List Int)) : Option ((List Int)) := ZfH fun n => Lref19_sorted_n n a0
noncomputable def Zdf (p12 : (List Int)) (a2 : Int) : Option (Tapi_Filter × Int) :=
 (Zb2 p12).bind fun y17 => (X7 y17 a2).bind fun y18 => some ((y18.1, y18.2))
noncomputable def Zbz (y1 : ((List (List Int)))) (a0 : (Arr 2)) (a3 : Int) (a2 : Int) : (Int × (List Int)) → Option ((Int × (List Int)) ⊕ (Tapi_Filter × Int))
 | (p11, p12) => (if p11 < (y1.length : Int) then (inA (y1.length) (p11)).bind fun j19 => ((y1)[j19]?).bind fun x20 => (Zaq a0 x20 (y1.length : Int) a3).bind fun y21 => (chk (p12.length + 1 ≤ 17592186044416)).bind fun _ => some (.inl (IntKind.i64.wrap (p11 + 1), p12 ++ [y21])) else (Zdf p12 a2).map Sum.inr)
noncomputable def Zar (a0 : (Arr 2)) (a1 : (List (List Int))) (a2 : Int) (a3 : Int) : Option (Tapi_Filter × Int) :=
 (if 4096 < (a1.length : Int) then some (((0, ([] : (List Int))), 4)) else (if (((a3 < 1 ∨ 1099511627776 < a3) ∨ a2 < 0) ∨ 32 < a2) then some (((0, ([] : (List Int))), 5)) else (XM a1).bind fun y1 => Zr (Zbz y1 a0 a3 a2) (0, [])))
noncomputable def XN (a0 : (List Int)) : Option (List Int) :=
 some (a0)
noncomputable def XO (p131 : Int) (p133 : (List Int)) : Option ((Int) ⊕ ((List Int))) :=
 (chk (0 ≤ p131 ∧ p131 ≤ (p133.length : Int))).bind fun _ => (chk (p131 ≤ ((clr (p133) ((p131).toNat) (p133.length - (p131).toNat) 0).length : Int) ∧ 0 ≤ p131)).bind fun _ => some (.inr ((clr (p133) ((p131).toNat) (p133.length - (p131).toNat) 0).take (p131).toNat))
noncomputable def Z5 (p132 : Int) (p148 : Int) (p149 : (List Int)) : Option ((Int × Int × (List Int)) ⊕ ((Int) ⊕ ((List Int)))) :=
 some (.inl (p148, IntKind.i64.wrap (p132 + 1), p149))
noncomputable def YC (a0 : (List Int)) (p72 : Int) : (Int × Int × (List Int)) → Option ((Int × Int × (List Int)) ⊕ ((Int) ⊕ ((List Int))))
 | (p131, p132, p133) => (if p132 < (((a0.length - (p72).toNat) : Nat) : Int) then (inA ((a0.length - (p72).toNat)) (p132)).bind fun j143 => ((p133)[(p72).toNat + j143]?).bind fun x144 => (inA ((a0.length - (p72).toNat)) (IntKind.i64.wrap (p132 - 1))).bind fun j145 => ((p133)[(p72).toNat + j145]?).bind fun x146 => (if ¬ (x144 = x146) then (inA (p133.length) (p131)).bind fun j150 => Z5 p132 (IntKind.i64.wrap (p131 + 1)) ((p133).set j150 x144) else Z5 p132 p131 p133) else (XO p131 p133).map Sum.inr)
noncomputable def YS (a0 : (List Int)) : Int → Option ((Int) ⊕ ((List Int)))
 | p72 => (if p72 < (a0.length : Int) then (inA (a0.length) (p72)).bind fun j108 => ((a0)[j108]?).bind fun x109 => (inA (a0.length) (IntKind.i64.wrap (p72 - 1))).bind fun j110 => ((a0)[j110]?).bind fun x111 => (if x109 = x111 then (chk (0 ≤ p72 ∧ p72 ≤ (a0.length : Int))).bind fun _ => Zr (YC a0 p72) (p72, 1, a0) else some (.inl (IntKind.i64.wrap (p72 + 1)))) else (XN a0).map Sum.inr)
noncomputable def Yw (a0 : (List Int)) : Option ((List Int)) :=
 (if (a0.length : Int) < 2 then some (a0) else Zr (YS a0) 1)
noncomputable def Zah (a0 : (Arr 2)) (a1 : (List (List Int))) (a2 : Int) (a3 : Int) : Option ((List Int) × Int) :=
 (if 4096 < (a1.length : Int) then some ((([] : (List Int)), 4)) else (if (((a2 < 0 ∨ 4096 < a2) ∨ a3 < 1) ∨ 1099511627776 < a3) then some ((([] : (List Int)), 5)) else (XW a0 a1 a2 a3).bind fun y1 => (Yw y1).bind fun y2 => some ((y2, 0))))
noncomputable def ZcY (p27 : (List Int)) : Option ((List Int) × Int) :=
 some ((p27, 0))
noncomputable def Xy (p26 : Int) (p39 : (List Int)) : Option ((Int × (List Int)) ⊕ ((List Int) × Int)) :=
 some (.inl (IntKind.i64.wrap (p26 + 1), p39))
noncomputable def Zbq (y13 : ((List Int))) : (Int × (List Int)) → Option ((Int × (List Int)) ⊕ ((List Int) × Int))
 | (p26, p27) => (if p26 < (y13.length : Int) then (idx (y13) (p26)).bind fun x34 => ((if p26 = 0 then some (false) else (inA (p27.length) (IntKind.i64.wrap ((p27.length : Int) - 1))).bind fun j35 => ((p27)[j35]?).bind fun x36 => some (!(decide (x34 = x36))))).bind fun z37 => (if (p26 = 0 ∨ z37 = true) then (chk (p27.length + 1 ≤ 17592186044416)).bind fun _ => Xy p26 (p27 ++ [x34]) else Xy p26 p27) else (ZcY p27).map Sum.inr)
noncomputable def ZcZ (p9 : (List Int)) : Option ((List Int) × Int) :=
 (Zb2 p9).bind fun y13 => Zr (Zbq y13) (0, [])
noncomputable def Zbr (a1 : (List (List Int))) (a0 : (Arr 2)) (a2 : Int) (a3 : Int) : (Int × (List Int)) → Option ((Int × (List Int)) ⊕ ((List Int) × Int))
 | (p8, p9) => (if p8 < (a1.length : Int) then (idx (a1) (p8)).bind fun x41 => (Zaq a0 x41 a2 a3).bind fun y42 => (chk (p9.length + 1 ≤ 17592186044416)).bind fun _ => some (.inl (IntKind.i64.wrap (p8 + 1), p9 ++ [y42])) else (ZcZ p9).map Sum.inr)
noncomputable def Zaz (a0 : (Arr 2)) (a1 : (List (List Int))) (a2 : Int) (a3 : Int) : Option ((List Int) × Int) :=
 (if 4096 < (a1.length : Int) then some ((([] : (List Int)), 4)) else (if (((a2 < 0 ∨ 4096 < a2) ∨ a3 < 1) ∨ 1099511627776 < a3) then some ((([] : (List Int)), 5)) else Zr (Zbr a1 a0 a2 a3) (0, [])))
noncomputable def ZbA (a0 : Tapi_Bits) (a1 : Int) : Option (Bool) :=
 (idx (a0.1) (IntKind.i64.wrap ((a1).tdiv 8))).bind fun x1 => (chk (¬ ((a1).tmod 8 < 0))).bind fun _ => some (!(decide (bits .and .u8 x1 ((128 : Int).fdiv (2 ^ (min ((a1).tmod 8).toNat 8))) = 0)))
noncomputable def Zdg (p7 : Int) : Option Int :=
 some (p7)
noncomputable def ZaX (p8 : Int) (p12 : Int) : Option ((Int × Int) ⊕ (Int)) :=
 some (.inl (p12, IntKind.i64.wrap (p8 + 1)))
noncomputable def ZbB (a2 : Int) (a0 : Tapi_Bits) (a1 : Int) : (Int × Int) → Option ((Int × Int) ⊕ (Int))
 | (p7, p8) => (if p8 < a2 then (ZbA a0 (IntKind.i64.wrap (a1 + p8))).bind fun y11 => (if y11 = true then ZaX p8 (bits .or .u64 (IntKind.u64.wrap (p7 * 2)) 1) else ZaX p8 (IntKind.u64.wrap (p7 * 2))) else (Zdg p7).map Sum.inr)
noncomputable def Zas (a0 : Tapi_Bits) (a1 : Int) (a2 : Int) : Option (Int) :=
 Zr (ZbB a2 a0 a1) (0, 0)
noncomputable def Zau (a0 : Tapi_Bits) (p7 : Int) (a2 : Int) (a1 : Int) : Option (Int × Int × Int) :=
 (if IntKind.i64.wrap (a0.2 - p7) < IntKind.i64.wrap (1 + a2) then some ((0, 0, 1)) else (chk (¬ (a2 < 0))).bind fun _ => (Zas a0 (IntKind.i64.wrap (p7 + 1)) a2).bind fun y11 => some ((bits .or .u64 (IntKind.u64.wrap ((IntKind.u64.wrap (IntKind.i64.wrap (p7 - a1))) * (2 ^ (min (a2).toNat 64)))) y11, IntKind.i64.wrap ((IntKind.i64.wrap (p7 + 1)) + a2), 0)))
noncomputable def XY (a0 : Tapi_Bits) (a1 : Int) (a2 : Int) : Int → Option ((Int) ⊕ (Int × Int × Int))
 | p7 => ((if p7 < a0.2 then (ZbA a0 p7).bind fun y12 => some (y12) else some (false))).bind fun z13 => (if (p7 < a0.2 ∧ z13 = true) then (if 65536 < IntKind.i64.wrap ((IntKind.i64.wrap (p7 + 1)) - a1) then some (.inr ((0, 0, 4))) else some (.inl (IntKind.i64.wrap (p7 + 1)))) else (Zau a0 p7 a2 a1).map Sum.inr)
noncomputable def Zai (a0 : Tapi_Bits) (a1 : Int) (a2 : Int) : Option (Int × Int × Int) :=
 (Zan a0).bind fun y1 => (if ¬ (y1 = true) then some ((0, 0, 6)) else (if (((a2 < 0 ∨ 32 < a2) ∨ a1 < 0) ∨ a0.2 < a1) then some ((0, 0, 5)) else Zr (XY a0 a1 a2) a1))
noncomputable def ZbZ (a0 : Tapi_Bits) (a1 : Int) (a2 : Int) : Option (Int × Int × Int) :=
 (Zan a0).bind fun y1 => (if ¬ (y1 = true) then some ((0, 0, 6)) else (if (((a2 < 0 ∨ 64 < a2) ∨ a1 < 0) ∨ a0.2 < a1) then some ((0, 0, 5)) else (if IntKind.i64.wrap (a0.2 - a1) < a2 then some ((0, 0, 1)) else (Zas a0 a1 a2).bind fun y2 => some ((y2, IntKind.i64.wrap (a1 + a2), 0)))))
noncomputable def ZcB (a0 : Tapi_Filter) (p10 : Int) (p12 : (List Int)) : Option ((List Int) × Int) :=
 (if 8 ≤ IntKind.i64.wrap ((IntKind.i64.wrap (8 * (a0.2.length : Int))) - p10) then some ((([] : (List Int)), 2)) else (ZbZ (a0.2, IntKind.i64.wrap (8 * (a0.2.length : Int))) p10 (IntKind.i64.wrap ((IntKind.i64.wrap (8 * (a0.2.length : Int))) - p10))).bind fun y15 => (if ¬ (y15.2.2 = 0) then some ((([] : (List Int)), y15.2.2)) else (if ¬ (y15.1 = 0) then some ((([] : (List Int)), 3)) else some ((p12, 0)))))
noncomputable def Zav (a0 : Tapi_Filter) (a1 : Int) : (Int × Int × Int × (List Int)) → Option ((Int × Int × Int × (List Int)) ⊕ ((List Int) × Int))
 | (p9, p10, p11, p12) => (if p11 < a0.1 then (Zai (a0.2, IntKind.i64.wrap (8 * (a0.2.length : Int))) p10 a1).bind fun y16 => (if ¬ (y16.2.2 = 0) then some (.inr ((([] : (List Int)), y16.2.2))) else (if IntKind.u64.wrap (p9 + y16.1) < p9 then some (.inr ((([] : (List Int)), 5))) else (chk (p12.length + 1 ≤ 17592186044416)).bind fun _ => some (.inl (IntKind.u64.wrap (p9 + y16.1), y16.2.1, IntKind.i64.wrap (p11 + 1), p12 ++ [IntKind.u64.wrap (p9 + y16.1)])))) else (ZcB a0 p10 p12).map Sum.inr)
noncomputable def Zaj (a0 : Tapi_Filter) (a1 : Int) : Option ((List Int) × Int) :=
 (if (4096 < a0.1 ∨ 200000 < (a0.2.length : Int)) then some ((([] : (List Int)), 4)) else (if ((a0.1 < 0 ∨ a1 < 0) ∨ 32 < a1) then some ((([] : (List Int)), 5)) else (chk (0 ≤ a0.1 ∧ a0.1 ≤ 17592186044416)).bind fun _ => Zr (Zav a0 a1) (0, 0, 0, ([] : (List Int)))))
noncomputable def Zc0 (p7 : Int) : Option Int :=
 some (p7)
noncomputable def ZaI (p8 : Int) (p12 : Int) : Option ((Int × Int) ⊕ (Int)) :=
 some (.inl (p12, IntKind.i64.wrap (p8 + 1)))
noncomputable def Zbs (a1 : Int) (a2 : Int) (a0 : Tapi_Bits) : (Int × Int) → Option ((Int × Int) ⊕ (Int))
 | (p7, p8) => (if p8 < IntKind.i64.wrap (a1 + a2) then (ZaP a0 p8).bind fun y11 => (if y11 = true then ZaI p8 (IntKind.u64.wrap ((IntKind.u64.wrap (p7 * 2)) + 1)) else ZaI p8 (IntKind.u64.wrap (p7 * 2))) else (Zc0 p7).map Sum.inr)
noncomputable def X9 (a0 : Tapi_Bits) (a1 : Int) (a2 : Int) : Option (Int) :=
 Zr (Zbs a1 a2 a0) (0, a1)
noncomputable def Zak (a0 : Tapi_Bits) (a1 : Int) (p7 : Int) (a2 : Int) : Option (Int × Int × Int) :=
 (if IntKind.i64.wrap ((IntKind.i64.wrap (a0.2 - a1)) - p7) < IntKind.i64.wrap (1 + a2) then some ((0, 0, 1)) else (chk (¬ (a2 < 0))).bind fun _ => (X9 a0 (IntKind.i64.wrap ((IntKind.i64.wrap (a1 + p7)) + 1)) a2).bind fun y11 => some ((bits .or .u64 (IntKind.u64.wrap ((IntKind.u64.wrap (p7)) * (2 ^ (min (a2).toNat 64)))) y11, IntKind.i64.wrap ((IntKind.i64.wrap ((IntKind.i64.wrap (a1 + p7)) + 1)) + a2), 0)))
noncomputable def XP (a1 : Int) (a0 : Tapi_Bits) (a2 : Int) : Int → Option ((Int) ⊕ (Int × Int × Int))
 | p7 => ((if IntKind.i64.wrap (a1 + p7) < a0.2 then (ZaP a0 (IntKind.i64.wrap (a1 + p7))).bind fun y12 => some (y12) else some (false))).bind fun z13 => (if (IntKind.i64.wrap (a1 + p7) < a0.2 ∧ z13 = true) then (if 65536 < IntKind.i64.wrap (p7 + 1) then some (.inr ((0, 0, 4))) else some (.inl (IntKind.i64.wrap (p7 + 1)))) else (Zak a0 a1 p7 a2).map Sum.inr)
noncomputable def X1 (a0 : Tapi_Bits) (a1 : Int) (a2 : Int) : Option (Int × Int × Int) :=
 (X5 a0).bind fun y1 => (if ¬ (y1 = true) then some ((0, 0, 6)) else (if (((a2 < 0 ∨ 32 < a2) ∨ a1 < 0) ∨ a0.2 < a1) then some ((0, 0, 5)) else Zr (XP a1 a0 a2) 0))
noncomputable def ZbC (a0 : Tapi_Bits) (a1 : Int) (a2 : Int) : Option (Int × Int × Int) :=
 (X5 a0).bind fun y1 => (if ¬ (y1 = true) then some ((0, 0, 6)) else (if (((a2 < 0 ∨ 64 < a2) ∨ a1 < 0) ∨ a0.2 < a1) then some ((0, 0, 5)) else (if IntKind.i64.wrap (a0.2 - a1) < a2 then some ((0, 0, 1)) else (X9 a0 a1 a2).bind fun y2 => some ((y2, IntKind.i64.wrap (a1 + a2), 0)))))
noncomputable def Zc1 (a0 : Tapi_Filter) (p7 : Int) (p9 : (List Int)) : Option ((List Int) × Int) :=
 (if 8 ≤ IntKind.i64.wrap ((IntKind.i64.wrap (8 * (a0.2.length : Int))) - p7) then some ((([] : (List Int)), 2)) else (ZbC (a0.2, IntKind.i64.wrap (8 * (a0.2.length : Int))) p7 (IntKind.i64.wrap ((IntKind.i64.wrap (8 * (a0.2.length : Int))) - p7))).bind fun y12 => (if ¬ (y12.1 = 0) then some ((([] : (List Int)), 3)) else some ((p9, 0))))
noncomputable def ZaJ (a0 : Tapi_Filter) (a1 : Int) : (Int × Int × (List Int)) → Option ((Int × Int × (List Int)) ⊕ ((List Int) × Int))
 | (p7, p8, p9) => (if (p9.length : Int) < a0.1 then (X1 (a0.2, IntKind.i64.wrap (8 * (a0.2.length : Int))) p7 a1).bind fun y13 => (if ¬ (y13.2.2 = 0) then some (.inr ((([] : (List Int)), y13.2.2))) else (if IntKind.u64.wrap (p8 + y13.1) < p8 then some (.inr ((([] : (List Int)), 5))) else (chk (p9.length + 1 ≤ 17592186044416)).bind fun _ => some (.inl (y13.2.1, IntKind.u64.wrap (p8 + y13.1), p9 ++ [IntKind.u64.wrap (p8 + y13.1)])))) else (Zc1 a0 p7 p9).map Sum.inr)
noncomputable def ZaA (a0 : Tapi_Filter) (a1 : Int) : Option ((List Int) × Int) :=
 (if (4096 < a0.1 ∨ 200000 < (a0.2.length : Int)) then some ((([] : (List Int)), 4)) else (if ((a0.1 < 0 ∨ a1 < 0) ∨ 32 < a1) then some ((([] : (List Int)), 5)) else Zr (ZaJ a0 a1) (0, 0, [])))
noncomputable def Lgolomb_Match_k1 : Option (Bool × Int) :=
 some ((false, 0))
noncomputable def XQ (p46 : Int) (y1 : ((List Int) × Int)) (x40 : Int) (p28 : Int) : Option ((Int × Int) ⊕ (Bool × Int)) :=
 ((if p46 < (y1.1.length : Int) then (idx (y1.1) (p46)).bind fun x49 => some (decide (x49 = x40)) else some (false))).bind fun z50 => (if (p46 < (y1.1.length : Int) ∧ z50 = true) then some (.inr ((true, 0))) else some (.inl (p46, IntKind.i64.wrap (p28 + 1))))
noncomputable def XR (y1 : ((List Int) × Int)) (x40 : Int) (p28 : Int) : Int → Option ((Int) ⊕ ((Int × Int) ⊕ (Bool × Int)))
 | p46 => ((if p46 < (y1.1.length : Int) then (idx (y1.1) (p46)).bind fun x51 => some (decide (x51 < x40)) else some (false))).bind fun z52 => (if (p46 < (y1.1.length : Int) ∧ z52 = true) then some (.inl (IntKind.i64.wrap (p46 + 1))) else (XQ p46 y1 x40 p28).map Sum.inr)
noncomputable def ZaK (y2 : ((List Int) × Int)) (y1 : ((List Int) × Int)) : (Int × Int) → Option ((Int × Int) ⊕ (Bool × Int))
 | (p27, p28) => (if p28 < (y2.1.length : Int) then (idx (y2.1) (p28)).bind fun x40 => Zr (XR y1 x40 p28) p27 else (Lgolomb_Match_k1).map Sum.inr)
noncomputable def Zaa (a0 : (Arr 2)) (a1 : Tapi_Filter) (a2 : (List (List Int))) (a3 : Int) (a4 : Int) : Option (Bool × Int) :=
 (Zaj a1 a3).bind fun y1 => (if ¬ (y1.2 = 0) then some ((false, y1.2)) else (Zah a0 a2 a1.1 a4).bind fun y2 => (if ¬ (y2.2 = 0) then some ((false, y2.2)) else Zr (ZaK y2 y1) (0, 0)))
noncomputable def Lref19_Match_k1 : Option (Bool × Int) :=
 some ((false, 0))
noncomputable def Zdh (p16 : Int) : Option ((Int) ⊕ (Bool × Int)) :=
 some (.inl (IntKind.i64.wrap (p16 + 1)))
noncomputable def ZaY (y1 : ((List Int) × Int)) (x23 : Int) (p16 : Int) : Int → Option ((Int) ⊕ ((Int) ⊕ (Bool × Int)))
 | p27 => (if p27 < (y1.1.length : Int) then (idx (y1.1) (p27)).bind fun x29 => (if x23 = x29 then some (.inr (.inr ((true, 0)))) else some (.inl (IntKind.i64.wrap (p27 + 1)))) else (Zdh p16).map Sum.inr)
noncomputable def ZaZ (y2 : ((List Int) × Int)) (y1 : ((List Int) × Int)) : Int → Option ((Int) ⊕ (Bool × Int))
 | p16 => (if p16 < (y2.1.length : Int) then (idx (y2.1) (p16)).bind fun x23 => Zr (ZaY y1 x23 p16) 0 else (Lref19_Match_k1).map Sum.inr)
noncomputable def Zat (a0 : (Arr 2)) (a1 : Tapi_Filter) (a2 : (List (List Int))) (a3 : Int) (a4 : Int) : Option (Bool × Int) :=
 (ZaA a1 a3).bind fun y1 => (if ¬ (y1.2 = 0) then some ((false, y1.2)) else (Zaz a0 a2 a1.1 a4).bind fun y2 => (if ¬ (y2.2 = 0) then some ((false, y2.2)) else Zr (ZaZ y2 y1) 0))
noncomputable def Xz (a0 : (Arr 2)) (a1 : Tapi_Filter) (a2 : (List (List Int))) (a3 : (List (List Int))) (a4 : Int) (a5 : Int) : Option (Bool) :=
 (Llaw19_sane).bind fun y1 => (if ¬ (y1 = true) then some (false) else ((if 400 < (a1.2.length : Int) then some (false) else (ZaR a2 30 60).bind fun y2 => some (!(y2)))).bind fun z3 => ((if (400 < (a1.2.length : Int) ∨ z3 = true) then some (false) else (ZaR a3 30 60).bind fun y4 => some (!(y4)))).bind fun z5 => (if ((400 < (a1.2.length : Int) ∨ z3 = true) ∨ z5 = true) then some (true) else (Zaa a0 a1 a3 a4 a5).bind fun y6 => (Zat a0 a1 a3 a4 a5).bind fun y7 => (if (¬ ((y6.1 == y7.1) = true) ∨ ¬ (y6.2 = y7.2)) then some (false) else (Zar a0 a2 a4 a5).bind fun y8 => (if ¬ (y8.2 = 0) then some (true) else (Zaa a0 y8.1 a3 a4 a5).bind fun y9 => (Zat a0 y8.1 a3 a4 a5).bind fun y10 => some (((y9.1 == y10.1) && decide (y9.2 = y10.2)))))))
def ZgT (x : (Arr 2)) : Prop := ∀ a ∈ x.l, (0 ≤ a ∧ a ≤ 18446744073709551615)
def ZgU (x : (List (List Int))) : Prop := x.length ≤ maxLen ∧ ∀ a ∈ x, Zfg a
end Go.Lc
end
section
namespace Go.Lc
open Go.RowKit
open Go.Av
set_option maxRecDepth 100000
set_option linter.unusedSimpArgs false
set_option linter.unusedVariables false
def ZfI (x : Tapi_Filter) : Prop := (-9223372036854775808 ≤ x.1 ∧ x.1 ≤ 9223372036854775807) ∧ Zfg x.2
end Go.Lc
end
section
namespace Go.Lc
open Go.RowKit
open Go.Av
set_option maxRecDepth 100000
set_option linter.unusedSimpArgs false
set_option linter.unusedVariables false
end Go.Lc
end
section
namespace Go.Lc
open Go.RowKit
open Go.Av
set_option maxRecDepth 100000
set_option linter.unusedSimpArgs false
set_option linter.unusedVariables false
end Go.Lc
end
section
namespace Go.Av
theorem Zm4 {x : Int} (h : (Lit.int .i64 x).wf = true) : -9223372036854775808 ≤ x ∧ x ≤ 9223372036854775807 := by simpa [Lit.wf, IntKind.has, IntKind.min, IntKind.max, IntKind.signed, IntKind.bits] using h
theorem Zjr {x : Int} (h : (Lit.int .u64 x).wf = true) : 0 ≤ x ∧ x ≤ 18446744073709551615 := by simpa [Lit.wf, IntKind.has, IntKind.min, IntKind.max, IntKind.signed, IntKind.bits] using h
theorem ZkV {x : Int} (h : (Lit.int .u8 x).wf = true) : 0 ≤ x ∧ x ≤ 255 := by simpa [Lit.wf, IntKind.has, IntKind.min, IntKind.max, IntKind.signed, IntKind.bits] using h
end Go.Av
end
section
namespace Go.Lc
open Go.RowKit
open Go.Av
set_option linter.unusedVariables false
theorem ZZ {σ ρ : Type} {step : σ → Option (σ ⊕ ρ)} {s s' : σ} (h : step s = some (.inl s')) : Zr step s = Zr step s' := by rw [Zff, h]
theorem YG {σ ρ : Type} {step : σ → Option (σ ⊕ ρ)} {s : σ} {x : Option ρ} (h : step s = x.map .inr) : Zr step s = x := by
 rw [Zff, h]
 cases x <;> rfl
theorem Yn {σ ρ : Type} {step : σ → Option (σ ⊕ ρ)} {s : σ} {r : ρ} (h : step s = some (.inr r)) : Zr step s = some r := by rw [Zff, h]
theorem Zka {σ ρ : Type} {step : σ → Option (σ ⊕ ρ)} (enc : Nat → σ) (n : Nat) {x : Option ρ} (h : ∀ i, i < n → step (enc i) = some (.inl (enc (i + 1)))) (he : step (enc n) = x.map .inr) : Zr step (enc 0) = x := by
 have key : ∀ k, k ≤ n → Zr step (enc (n - k)) = x := by
  intro k
  induction k with
  | zero => intro _; exact YG he
  | succ k ih =>
   intro hk
   rw [ZZ (h (n - (k + 1)) (by omega)), show n - (k + 1) + 1 = n - k by omega]
   exact ih (by omega)
 have := key n (Nat.le_refl _)
 rwa [Nat.sub_self] at this
theorem YE {σ ρ : Type} {step : σ → Option (σ ⊕ ρ)} (I : Nat → σ → Prop) (Q : ρ → Prop) (h : ∀ i s, I i s → (∃ j s', j < i ∧ step s = some (.inl s') ∧ I j s') ∨ ∃ r, step s = some (.inr r) ∧ Q r) : ∀ (n : Nat) (s : σ), I n s → ∃ r, Zr step s = some r ∧ Q r := by
 intro n
 induction n using Nat.strongRecOn with
 | _ n ih =>
  intro s hs
  rcases h n s hs with ⟨j, s', hj, h1, h2⟩ | ⟨r, h1, h2⟩
  ·obtain ⟨r, h3, h4⟩ := ih j hj s' h2
   exact ⟨r, (ZZ h1).trans h3, h4⟩
  ·exact ⟨r, Yn h1, h2⟩
def Tot {α : Type} (x : Option α) (Q : α → Prop) : Prop := ∃ a, x = some a ∧ Q a
section
variable {α β : Type} {x : Option α} {f : α → Option β} {P : α → Prop} {Q : β → Prop}
theorem Tot.bind (h : Tot x P) (k : ∀ a, P a → Tot (f a) Q) : Tot (x.bind f) Q := by
 obtain ⟨a, rfl, ha⟩ := h
 exact k a ha
theorem Tot.mono {P' : α → Prop} (h : Tot x P) (k : ∀ a, P a → P' a) : Tot x P' := by
 obtain ⟨a, h1, ha⟩ := h
 exact ⟨a, h1, k a ha⟩
theorem Zc2 {a : α} (h : P a) : Tot (some a) P := ⟨a, rfl, h⟩
theorem ZeN {c : Prop} [Decidable c] {a b : Option α} (h1 : c → Tot a P) (h2 : ¬ c → Tot b P) : Tot (if c then a else b) P := by
 by_cases h : c
 ·rw [if_pos h]; exact h1 h
 ·rw [if_neg h]; exact h2 h
theorem Tot.inr {ρ σ : Type} {x : Option ρ} {Q : ρ → Prop} (h : Tot x Q) : ∃ r, (x.map Sum.inr : Option (σ ⊕ ρ)) = some (.inr r) ∧ Q r := by
 obtain ⟨a, rfl, ha⟩ := h
 exact ⟨a, rfl, ha⟩
end
theorem Zj {α β : Type} (a : α) (f : α → Option β) : (some a).bind f = f a := rfl
theorem Zs {p : Prop} [Decidable p] {α : Type} {f : Unit → Option α} (h : p) : (chk p).bind f = f () := by rw [Zjp h]; rfl
theorem Zm5 {α : Type} {l : List α} {i : Nat} (h : i < l.length) : idx l (i : Int) = some l[i] := by simp [idx, h]
theorem YM {α β : Type} {l : List α} {i : Nat} {f : α → Option β} (h : i < l.length) : (idx l (i : Int)).bind f = f l[i] := by rw [Zm5 h]; rfl
theorem Zm6 {n i : Nat} (h : i < n) : inA n (i : Int) = some i := by simp [inA, h]
theorem Za4 {β : Type} {n i : Nat} {f : Nat → Option β} (h : i < n) : (inA n (i : Int)).bind f = f i := by rw [Zm6 h]; rfl
theorem Zc3 {α β : Type} {l : List α} {i : Nat} {f : α → Option β} (h : i < l.length) : (l[i]?).bind f = f l[i] := by rw [List.getElem?_eq_getElem h]; rfl
theorem wi (n : Int) (h : -9223372036854775808 ≤ n ∧ n ≤ 9223372036854775807) : IntKind.i64.wrap n = n := IntWalk.i64_in n h
theorem Zm7 {i n : Nat} (h : i < n) (hn : n ≤ 9223372036854775807) : IntKind.i64.wrap ((i : Int) + 1) = ((i + 1 : Nat) : Int) := by rw [wi _ (by omega)]; omega
theorem wu (n : Int) (h : 0 ≤ n ∧ n ≤ 18446744073709551615) : IntKind.u64.wrap n = n := IntWalk.u64_in n h
theorem ZkW {α : Type} (f : Nat → α) (z : α) {i k : Nat} (h : i < k) : (((List.range i).map f) ++ List.replicate (k - i) z).set i (f i) = ((List.range (i + 1)).map f) ++ List.replicate (k - (i + 1)) z := by
 rw [List.set_append_right _ _ (by simp)]
 simp only [List.length_map, List.length_range, Nat.sub_self]
 rw [show k - i = (k - (i + 1)) + 1 by omega, List.replicate_succ, List.set_cons_zero, List.range_succ, List.map_append]
 simp
theorem Zmc {α : Type} (f : Nat → α) (z : α) {i k : Nat} (h : i ≤ k) : (((List.range i).map f) ++ List.replicate (k - i) z).length = k := by simp; omega
end Go.Lc
end
section
namespace Go.Lc
open Go.RowKit
open Go.Av
open Go.Sort
set_option linter.unusedVariables false
set_option linter.unusedSimpArgs false
theorem Xv (x y : Int) : ZN x y = some (ltInt x y) := by simp [ZN, Xk, ltInt]
theorem gA {d : Array Int} {i : Nat} (h : i < d.size) : d.toList[i]? = some d[i]! := by
 rw [getElem!_pos d i h]
 simp [h]
theorem gB {β : Type} {d : Array Int} {i : Nat} {f : Int → Option β} (h : i < d.size) : (d.toList[i]?).bind f = f d[i]! := by rw [gA h]; rfl
theorem iB {β : Type} {d : Array Int} {i : Nat} {f : Nat → Option β} (h : i < d.size) : (inA d.toList.length (i : Int)).bind f = f i := Za4 (by simpa using h)
theorem iB1 {β : Type} {d : Array Int} {i j : Nat} {x : Int} {f : Nat → Option β} (h : i < d.size) : (inA (d.toList.set j x).length (i : Int)).bind f = f i := Za4 (by simpa using h)
theorem Zc4 (d : Array Int) (i j : Nat) : (d.toList.set i d[j]!).set j d[i]! = (swp d i j).toList := by simp [swp]
theorem sB {β : Type} (x : Bool) (f : Bool → Option β) : (some x).bind f = f x := rfl
theorem wI (n : Nat) (h : n < 9223372036854775808) : IntKind.i64.wrap (n : Int) = (n : Int) := wi _ (by omega)
theorem wS {i : Nat} (h : i < 9223372036854775807) : IntKind.i64.wrap ((i : Int) + 1) = ((i + 1 : Nat) : Int) := by rw [wi _ (by omega)]; omega
theorem wP {i : Nat} (h : i < 9223372036854775807) : IntKind.i64.wrap (((i + 1 : Nat) : Int) - 1) = (i : Int) := by rw [wi _ (by omega)]; omega
theorem ZcO (lt : Int → Int → Bool) (a : Nat) : ∀ (j : Nat) (d : Array Int), (insInner lt a j d).size = d.size
 | 0, d => by rw [insInner]
 | j + 1, d => by
  rw [insInner]
  split
  ·rw [ZcO lt a j, size_swp]
  ·rfl
theorem Zhv (a : Nat) (i : Int) : ∀ (j : Nat) (d : Array Int), j < d.size → d.size < 4611686018427387904 → Zr (Yj (a : Int) i) ((j : Int), d.toList) = YD i (insInner ltInt a j d).toList
 | 0, d, hj, hs => by
  rw [insInner]
  refine YG ?_
  have h : ¬ ((a : Int) < ((0 : Nat) : Int)) := by omega
  simp only [Yj, if_neg h, sB, h, false_and, if_false]
 | j + 1, d, hj, hs => by
  have hj' : j < d.size := by omega
  rw [insInner]
  by_cases h : a < j + 1
  ·have hc : (a : Int) < ((j + 1 : Nat) : Int) := by omega
   by_cases hl : ltInt d[j + 1]! d[j]! = true
   ·rw [ZZ (s' := ((j : Int), (swp d (j + 1) j).toList)), Zhv a i j _ (by rw [size_swp]; exact hj') (by rw [size_swp]; exact hs), if_pos (by simp [h, hl])]
    simp only [Yj, if_pos hc, hc, true_and, wP (show j < 9223372036854775807 by omega), iB hj, iB hj', gB hj, gB hj', Xv, sB, hl, if_true, iB1 hj', Zc4]
   ·rw [if_neg (by simp [hl])]
    refine YG ?_
    simp only [Yj, if_pos hc, hc, true_and, wP (show j < 9223372036854775807 by omega), iB hj, iB hj', gB hj, gB hj', Xv, sB, (by simpa using hl : ltInt d[j + 1]! d[j]! = false), if_true, if_false, Bool.false_eq_true]
  ·rw [if_neg (by simp [h])]
   refine YG ?_
   have hc : ¬ (a : Int) < ((j + 1 : Nat) : Int) := by omega
   simp only [Yj, if_neg hc, sB, hc, false_and, if_false]
theorem ZkX (a b : Nat) (l0 : List Int) : ∀ (n i : Nat) (d : Array Int), b - i = n → b ≤ d.size → d.size < 4611686018427387904 → d.size = l0.length → Zr (YU (b : Int) (a : Int) l0) ((i : Int), d.toList) = some (insOuter ltInt a b i d).toList := by
 intro n
 induction n with
 | zero =>
  intro i d h hb hs h0
  rw [insOuter, if_neg (by omega)]
  refine Yn ?_
  simp only [YU, if_neg (show ¬ (i : Int) < (b : Int) by omega)]
  rw [Zs (by simpa using h0)]
 | succ n ih =>
  intro i d h hb hs h0
  rw [insOuter, if_pos (by omega), ← ih (i + 1) _ (by omega) (by rw [ZcO]; exact hb) (by rw [ZcO]; exact hs) (by rw [ZcO]; exact h0)]
  refine ZZ ?_
  simp only [YU, if_pos (show (i : Int) < (b : Int) by omega)]
  rw [Zhv a _ i d (by omega) hs, YD, wS (by omega)]
theorem ZnG (d : Array Int) (a b : Nat) (hb : b ≤ d.size) (ha : a ≤ b) (hs : d.size < 4611686018427387904) : Z8 d.toList (a : Int) (b : Int) = some (insertionSort ltInt d a b).toList := by
 rw [Z8, wS (by omega), ZkX a b d.toList _ (a + 1) d rfl hb hs (by simp)]
 rfl
theorem wA {i j : Nat} (h : i + j < 9223372036854775808) : IntKind.i64.wrap ((i : Int) + (j : Int)) = ((i + j : Nat) : Int) := by rw [wi _ (by omega)]; omega
theorem wM {i : Nat} (h : 2 * i < 9223372036854775808) : IntKind.i64.wrap (2 * (i : Int)) = ((2 * i : Nat) : Int) := by rw [wi _ (by omega)]; omega
theorem wD {i j : Nat} (h : i ≤ j) (hj : j < 9223372036854775808) : IntKind.i64.wrap ((j : Int) - (i : Int)) = ((j - i : Nat) : Int) := by rw [wi _ (by omega)]; omega
theorem Zm8 (d : Array Int) (first root child : Nat) (l0 : List Int) (h1 : first + root < d.size) (h2 : first + child < d.size) (hs : d.size < 4611686018427387904) (h0 : d.size = l0.length) :
  Z3 d.toList (first : Int) (root : Int) l0 (child : Int) = if (!ltInt d[first + root]! d[first + child]!) = true then some (.inr d.toList) else some (.inl ((child : Int), (swp d (first + root) (first + child)).toList)) := by
 have hc : d.toList.length = l0.length := by simpa using h0
 rw [Z3, wA (by omega), wA (by omega)]
 simp only [iB h1, iB h2, gB h1, gB h2, Xv, sB, iB1 h2, Zc4]
 cases ltInt d[first + root]! d[first + child]! <;> simp [Zjp h0]
theorem ZfJ (lt : Int → Int → Bool) (hi first : Nat) : ∀ (n root : Nat) (d : Array Int), hi - root = n → (siftDown lt hi first root d).size = d.size := by
 intro n
 induction n using Nat.strongRecOn with
 | _ n ih =>
  intro root d h
  rw [siftDown]
  split
  ·rfl
  ·split
   ·split
    ·rfl
    ·split
     ·rw [ih _ (by omega) _ _ rfl, size_swp]
     ·rfl
   ·split
    ·rfl
    ·rw [ih _ (by omega) _ _ rfl, size_swp]
theorem ZkY (hi first : Nat) (l0 : List Int) : ∀ (n root : Nat) (d : Array Int), hi - root = n → first + hi ≤ d.size → d.size < 4611686018427387904 → root ≤ d.size → d.size = l0.length → Zr (Z4 (hi : Int) l0 (first : Int)) ((root : Int), d.toList) = some (siftDown ltInt hi first root d).toList := by
 intro n
 induction n using Nat.strongRecOn with
 | _ n ih =>
  intro root d h hf hs hr h0
  have hc : d.toList.length = l0.length := by simpa using h0
  rw [siftDown]
  by_cases g : 2 * root + 1 ≥ hi
  ·rw [dif_pos g]
   refine Yn ?_
   simp only [Z4, wM (show 2 * root < 9223372036854775808 by omega), wS (show 2 * root < 9223372036854775807 by omega), if_pos (show (hi : Int) ≤ ((2 * root + 1 : Nat) : Int) by omega)]
   rw [Zs hc]
  ·rw [dif_neg g]
   have hr1 : first + root < d.size := by omega
   have hc1 : first + (2 * root + 1) < d.size := by omega
   have g' : ¬ (hi : Int) ≤ ((2 * root + 1 : Nat) : Int) := by omega
   have hgo : ∀ child, root < child → first + child < d.size → child < hi → Z4 (hi : Int) l0 (first : Int) ((root : Int), d.toList) = Z3 d.toList (first : Int) (root : Int) l0 (child : Int) → Zr (Z4 (hi : Int) l0 (first : Int)) ((root : Int), d.toList) = some (if (!ltInt d[first + root]! d[first + child]!) = true then d else siftDown ltInt hi first child (swp d (first + root) (first + child))).toList := by
    intro child hch hcd hchi hst
    rw [Zm8 d first root child l0 hr1 hcd hs h0] at hst
    by_cases hl : (!ltInt d[first + root]! d[first + child]!) = true
    ·rw [if_pos hl] at hst ⊢
     exact Yn hst
    ·rw [if_neg hl] at hst ⊢
     rw [ZZ hst]
     exact ih (hi - child) (by omega) child _ rfl (by rw [size_swp]; exact hf) (by rw [size_swp]; exact hs) (by rw [size_swp]; omega) (by rw [size_swp]; exact h0)
   by_cases g2 : 2 * root + 1 + 1 < hi
   ·have hc2 : first + (2 * root + 1) + 1 < d.size := by omega
    have g2' : ((2 * root + 1 + 1 : Nat) : Int) < (hi : Int) := by omega
    by_cases hl : ltInt d[first + (2 * root + 1)]! d[first + (2 * root + 1) + 1]! = true
    ·rw [if_pos (by simp [g2, hl]), hgo (2 * root + 1 + 1) (by omega) (by omega) g2]
     ·simp only [dif_pos g2]
     ·simp only [Z4, wM (show 2 * root < 9223372036854775808 by omega), wS (show 2 * root < 9223372036854775807 by omega), wS (show 2 * root + 1 < 9223372036854775807 by omega), if_neg g', g2', if_true, wA (show first + (2 * root + 1) < 9223372036854775808 by omega), wS (show first + (2 * root + 1) < 9223372036854775807 by omega), iB hc1, iB hc2, gB hc1, gB hc2, Xv, sB, hl, true_and]
    ·rw [if_neg (by simp [hl]), hgo (2 * root + 1) (by omega) (by omega) (by omega)]
     simp only [Z4, wM (show 2 * root < 9223372036854775808 by omega), wS (show 2 * root < 9223372036854775807 by omega), wS (show 2 * root + 1 < 9223372036854775807 by omega), if_neg g', g2', if_true, wA (show first + (2 * root + 1) < 9223372036854775808 by omega), wS (show first + (2 * root + 1) < 9223372036854775807 by omega), iB hc1, iB hc2, gB hc1, gB hc2, Xv, sB, (by simpa using hl : ltInt d[first + (2 * root + 1)]! d[first + (2 * root + 1) + 1]! = false), true_and, Bool.false_eq_true, if_false]
   ·rw [if_neg (by simp [g2]), hgo (2 * root + 1) (by omega) (by omega) (by omega)]
    have g2' : ¬ ((2 * root + 1 + 1 : Nat) : Int) < (hi : Int) := by omega
    simp only [Z4, wM (show 2 * root < 9223372036854775808 by omega), wS (show 2 * root < 9223372036854775807 by omega), wS (show 2 * root + 1 < 9223372036854775807 by omega), if_neg g', g2', sB, false_and, if_false]
theorem Zjs (d : Array Int) (root hi first : Nat) (hf : first + hi ≤ d.size) (hs : d.size < 4611686018427387904) (hr : root ≤ d.size) : Yu d.toList (root : Int) (hi : Int) (first : Int) = some (siftDown ltInt hi first root d).toList := ZkY hi first d.toList _ root d rfl hf hs hr (by simp)
theorem Ziz (first : Nat) (l0 : List Int) : ∀ (k : Nat) (d : Array Int), first + k ≤ d.size → d.size < 4611686018427387904 → d.size = l0.length → Zr (Y9 (first : Int) l0) ((k : Int) - 1, d.toList) = some (heapPop ltInt first k d).toList := by
 intro k
 induction k with
 | zero =>
  intro d hf hs h0
  have hc : d.toList.length = l0.length := by simpa using h0
  rw [heapPop]
  refine Yn ?_
  simp only [Y9, if_neg (show ¬ (0 : Int) ≤ ((0 : Nat) : Int) - 1 by omega)]
  rw [Zs hc]
 | succ k ih =>
  intro d hf hs h0
  have h1 : first < d.size := by omega
  have h2 : first + k < d.size := by omega
  have e : ((k + 1 : Nat) : Int) - 1 = (k : Int) := by omega
  have hsz : (siftDown ltInt k first 0 (swp d first (first + k))).size = d.size := by rw [ZfJ _ _ _ _ _ _ rfl, size_swp]
  rw [heapPop, ← ih _ (by rw [hsz]; omega) (by rw [hsz]; exact hs) (by rw [hsz]; exact h0)]
  refine ZZ ?_
  simp only [Y9, e, if_pos (show (0 : Int) ≤ (k : Int) by omega), wA (show first + k < 9223372036854775808 by omega), iB h1, iB h2, gB h1, gB h2, iB1 h2, Zc4]
  have := Zjs (swp d first (first + k)) 0 k first (by rw [size_swp]; omega) (by rw [size_swp]; exact hs) (Nat.zero_le _)
  rw [show (((0 : Nat) : Int)) = 0 from rfl] at this
  rw [this, Zj, Zs (by simp [ZfJ _ _ _ _ _ _ rfl]), wi _ (by omega)]
theorem Zhb (a b : Nat) (l0 : List Int) (hab : a ≤ b) : ∀ (k : Nat) (d : Array Int), k ≤ d.size + 1 → b ≤ d.size → d.size < 4611686018427387904 → d.size = l0.length → Zr (Xa (b : Int) (a : Int) l0) ((k : Int) - 1, d.toList) = some (heapPop ltInt a (b - a) (heapBuild ltInt (b - a) a k d)).toList := by
 intro k
 induction k with
 | zero =>
  intro d hk hb hs h0
  rw [heapBuild]
  refine YG ?_
  simp only [Xa, if_neg (show ¬ (0 : Int) ≤ ((0 : Nat) : Int) - 1 by omega), XL, wD hab (show b < 9223372036854775808 by omega)]
  rw [wi _ (by omega), Ziz a l0 (b - a) d (by omega) hs h0]
 | succ k ih =>
  intro d hk hb hs h0
  have e : ((k + 1 : Nat) : Int) - 1 = (k : Int) := by omega
  have hsz : (siftDown ltInt (b - a) a k d).size = d.size := ZfJ _ _ _ _ _ _ rfl
  rw [heapBuild, ← ih _ (by rw [hsz]; omega) (by rw [hsz]; exact hb) (by rw [hsz]; exact hs) (by rw [hsz]; exact h0)]
  refine ZZ ?_
  simp only [Xa, e, if_pos (show (0 : Int) ≤ (k : Int) by omega), wD hab (show b < 9223372036854775808 by omega)]
  rw [Zjs d k (b - a) a (by omega) hs (by omega), Zj, Zs (by simp [hsz]), wi _ (by omega)]
theorem Zm9 (d : Array Int) (a b : Nat) (hab : a ≤ b) (hb : b ≤ d.size) (hs : d.size < 4611686018427387904) : Yv d.toList (a : Int) (b : Int) = some (heapSort ltInt d a b).toList := by
 have e : IntKind.i64.wrap ((IntKind.i64.wrap (((b - a : Nat) : Int) - 1)).tdiv 2) = (((b - a - 1) / 2 + 1 : Nat) : Int) - 1 := by
  rw [wi (((b - a : Nat) : Int) - 1) (by omega)]
  rcases Nat.eq_zero_or_pos (b - a) with h | h
  ·rw [h]; decide
  ·have e1 : ((b - a : Nat) : Int) - 1 = ((b - a - 1 : Nat) : Int) := by omega
   have e2 : (((b - a - 1 : Nat) : Int)).tdiv 2 = (((b - a - 1) / 2 : Nat) : Int) := by
    rw [Int.tdiv_eq_ediv_of_nonneg (by omega)]; omega
   rw [e1, e2, wi _ (by omega)]
   omega
 rw [Yv, wD hab (by omega), e, Zhb a b d.toList hab _ d (by omega) hb hs (by simp)]
 rfl
theorem Zmd (l0 : List Int) : ∀ (n i j : Nat) (d : Array Int), j - i = n → j < d.size ∨ j ≤ i → i < 4611686018427387904 → d.size < 4611686018427387904 → d.size = l0.length → Zr (YW l0) ((i : Int), (j : Int), d.toList) = some (reverseLoop i j d).toList := by
 intro n
 induction n using Nat.strongRecOn with
 | _ n ih =>
  intro i j d h hj hi hs h0
  have hc : d.toList.length = l0.length := by simpa using h0
  rw [reverseLoop]
  by_cases g : i < j
  ·have hi' : i < d.size := by omega
   have hj' : j < d.size := by omega
   rw [if_pos g, ← ih (j - 1 - (i + 1)) (by omega) (i + 1) (j - 1) _ rfl (by rw [size_swp]; omega) (by omega) (by rw [size_swp]; exact hs) (by rw [size_swp]; exact h0)]
   refine ZZ ?_
   simp only [YW, if_pos (show (i : Int) < (j : Int) by omega), iB hi', iB hj', gB hi', gB hj', iB1 hj', Zc4, wS (show i < 9223372036854775807 by omega)]
   rw [wi _ (by omega), show (j : Int) - 1 = ((j - 1 : Nat) : Int) by omega]
  ·rw [if_neg g]
   refine Yn ?_
   simp only [YW, if_neg (show ¬ (i : Int) < (j : Int) by omega)]
   rw [Zs hc]
theorem ZnH (d : Array Int) (a b : Nat) (hab : a < b) (hb : b ≤ d.size) (hs : d.size < 4611686018427387904) : Yi d.toList (a : Int) (b : Int) = some (reverseRange d a b).toList := by
 rw [Yi, wi _ (by omega), show (b : Int) - 1 = ((b - 1 : Nat) : Int) by omega, Zmd d.toList _ a (b - 1) d rfl (by omega) (by omega) hs (by simp)]
 rfl
theorem ZeE {ρ : Type} (step : Int → Option (Int ⊕ ρ)) (k : Int → Option ρ) (p : Int → Bool) (d : Array Int) (j : Nat) (h1 : ∀ i : Nat, i ≤ j → step (i : Int) = if p d[i]! = true then some (.inl ((i + 1 : Nat) : Int)) else (k (i : Int)).map .inr) (h2 : ∀ i : Nat, ¬ i ≤ j → step (i : Int) = (k (i : Int)).map .inr) : ∀ (n i : Nat), j + 1 - i = n → Zr step (i : Int) = k ((scanUp p d j i : Nat) : Int) := by
 intro n
 induction n with
 | zero =>
  intro i hn
  rw [scanUp, if_neg (by simp; omega)]
  exact YG (h2 i (by omega))
 | succ n ih =>
  intro i hn
  rw [scanUp]
  by_cases hp : p d[i]! = true
  ·rw [if_pos (by simp [hp]; omega), ← ih (i + 1) (by omega)]
   exact ZZ (by rw [h1 i (by omega), if_pos hp])
  ·rw [if_neg (by simp [hp])]
   exact YG (by rw [h1 i (by omega), if_neg hp])
theorem ZcP {ρ : Type} (step : Int → Option (Int ⊕ ρ)) (k : Int → Option ρ) (p : Int → Bool) (d : Array Int) (i : Nat) (hi : 1 ≤ i) (h1 : ∀ j : Nat, i ≤ j + 1 → j + 1 < d.size → step ((j + 1 : Nat) : Int) = if p d[j + 1]! = true then some (.inl (j : Int)) else (k ((j + 1 : Nat) : Int)).map .inr) (h2 : ∀ j : Nat, ¬ i ≤ j → step (j : Int) = (k (j : Int)).map .inr) : ∀ (j : Nat), j < d.size → Zr step (j : Int) = k ((scanDown p d i j : Nat) : Int)
 | 0, _ => by
  rw [scanDown]
  exact YG (h2 0 (by omega))
 | j + 1, hj => by
  rw [scanDown]
  by_cases hij : i ≤ j + 1
  ·by_cases hp : p d[j + 1]! = true
   ·rw [if_pos (by simp [hp]; omega), ← ZcP step k p d i hi h1 h2 j (by omega)]
    exact ZZ (by rw [h1 j hij hj, if_pos hp])
   ·rw [if_neg (by simp [hp])]
    exact YG (by rw [h1 j hij hj, if_neg hp])
  ·rw [if_neg (by simp [hij])]
   exact YG (h2 (j + 1) hij)
theorem ZoV (d : Array Int) (a j : Nat) (l0 : List Int) (ha : a < d.size) (hj : j < d.size) (hs : d.size < 4611686018427387904) (i : Nat) : Zr (YQ (j : Int) d.toList (a : Int) l0) (i : Int) = Yh ((scanUp (fun x => !ltInt d[a]! x) d j i : Nat) : Int) d.toList (a : Int) l0 (j : Int) := by
 refine ZeE _ (fun q => Yh q d.toList (a : Int) l0 (j : Int)) _ d j (fun i hi => ?_) (fun i hi => ?_) _ i rfl
 ·have hc : (i : Int) ≤ (j : Int) := by omega
  have hi' : i < d.size := by omega
  simp only [YQ, hc, if_true, iB ha, iB hi', gB ha, gB hi', Xv, sB, true_and, wS (show i < 9223372036854775807 by omega)]
 ·have hc : ¬ (i : Int) ≤ (j : Int) := by omega
  simp only [YQ, hc, if_false, sB, false_and]
theorem Zna (d : Array Int) (a i : Nat) (l0 : List Int) (ha : a < d.size) (hi : 1 ≤ i) (hs : d.size < 4611686018427387904) (j : Nat) (hj : j < d.size) : Zr (YP (i : Int) d.toList (a : Int) l0) (j : Int) = ZP ((scanDown (fun x => ltInt d[a]! x) d i j : Nat) : Int) (i : Int) d.toList l0 := by
 refine ZcP _ (fun q => ZP q (i : Int) d.toList l0) _ d i hi (fun j hij hj => ?_) (fun j hj => ?_) j hj
 ·have hc : (i : Int) ≤ ((j + 1 : Nat) : Int) := by omega
  simp only [YP, hc, if_true, iB ha, iB hj, gB ha, gB hj, Xv, sB, true_and, wP (show j < 9223372036854775807 by omega)]
 ·have hc : ¬ (i : Int) ≤ (j : Int) := by omega
  simp only [YP, hc, if_false, sB, false_and]
theorem Znb (a : Nat) (l0 : List Int) : ∀ (n i j : Nat) (d : Array Int), j + 1 - i = n → 1 ≤ i → a < d.size → j < d.size → d.size < 4611686018427387904 → i ≤ j + 2 → d.size = l0.length → Zr (YR (a : Int) l0) ((i : Int), (j : Int), d.toList) = some (((partEqLoop ltInt a i j d).1 : Int), (partEqLoop ltInt a i j d).2.toList) := by
 intro n
 induction n using Nat.strongRecOn with
 | _ n ih =>
  intro i j d hn hi ha hj hs hij h0
  have hc : d.toList.length = l0.length := by simpa using h0
  have u1 := scanUp_ge (fun x => !ltInt d[a]! x) d j i
  have v1 := scanDown_le (fun x => ltInt d[a]! x) d (scanUp (fun x => !ltInt d[a]! x) d j i) j
  have hst : YR (a : Int) l0 ((i : Int), (j : Int), d.toList) = ZP ((scanDown (fun x => ltInt d[a]! x) d (scanUp (fun x => !ltInt d[a]! x) d j i) j : Nat) : Int) ((scanUp (fun x => !ltInt d[a]! x) d j i : Nat) : Int) d.toList l0 := by
   rw [YR, ZoV d a j l0 ha hj hs i, Yh, Zna d a _ l0 ha (by omega) hs j hj]
  rw [partEqLoop_eq]
  generalize scanUp (fun x => !ltInt d[a]! x) d j i = i2 at u1 v1 hst ⊢
  generalize scanDown (fun x => ltInt d[a]! x) d i2 j = j2 at v1 hst ⊢
  by_cases g : i2 > j2
  ·rw [if_pos g]
   refine Yn ?_
   rw [hst, ZP, if_pos (by omega), Xt, Zs hc]
   rfl
  ·rw [if_neg g]
   have hi2 : i2 < d.size := by omega
   have hj2 : j2 < d.size := by omega
   rw [← ih (j2 - 1 + 1 - (i2 + 1)) (by omega) (i2 + 1) (j2 - 1) (swp d i2 j2) rfl (by omega) (by rw [size_swp]; exact ha) (by rw [size_swp]; omega) (by rw [size_swp]; exact hs) (by omega) (by rw [size_swp]; exact h0)]
   refine ZZ ?_
   rw [hst, ZP, if_neg (by omega)]
   simp only [iB hi2, iB hj2, gB hi2, gB hj2, iB1 hj2, Zc4, wS (show i2 < 9223372036854775807 by omega)]
   rw [wi _ (by omega), show (j2 : Int) - 1 = ((j2 - 1 : Nat) : Int) by omega]
theorem ZoW (d : Array Int) (a b pivot : Nat) (hap : a ≤ pivot) (hpb : pivot < b) (hb : b ≤ d.size) (hs : d.size < 4611686018427387904) : ZW d.toList (a : Int) (b : Int) (pivot : Int) = some (((partitionEqual ltInt d a b pivot).1 : Int), (partitionEqual ltInt d a b pivot).2.toList) := by
 have hp : pivot < d.size := by omega
 have ha : a < d.size := by omega
 rw [ZW]
 simp only [iB hp, iB ha, gB hp, gB ha, iB1 hp, Zc4, wS (show a < 9223372036854775807 by omega)]
 rw [wi _ (by omega), show (b : Int) - 1 = ((b - 1 : Nat) : Int) by omega, Znb a d.toList _ (a + 1) (b - 1) (swp d a pivot) rfl (by omega) (by rw [size_swp]; exact ha) (by rw [size_swp]; omega) (by rw [size_swp]; exact hs) (by omega) (by simp [size_swp])]
 rfl
theorem ZoX (d : Array Int) (a j : Nat) (l0 : List Int) (ha : a < d.size) (hj : j < d.size) (hs : d.size < 4611686018427387904) (i : Nat) : Zr (Y1 (j : Int) d.toList (a : Int) l0) (i : Int) = Yy ((scanUp (fun x => ltInt x d[a]!) d j i : Nat) : Int) d.toList (a : Int) l0 (j : Int) := by
 refine ZeE _ (fun q => Yy q d.toList (a : Int) l0 (j : Int)) _ d j (fun i hi => ?_) (fun i hi => ?_) _ i rfl
 ·have hc : (i : Int) ≤ (j : Int) := by omega
  have hi' : i < d.size := by omega
  simp only [Y1, hc, if_true, iB ha, iB hi', gB ha, gB hi', Xv, sB, true_and, wS (show i < 9223372036854775807 by omega)]
 ·have hc : ¬ (i : Int) ≤ (j : Int) := by omega
  simp only [Y1, hc, if_false, sB, false_and]
theorem Znc (d : Array Int) (a i : Nat) (l0 : List Int) (ha : a < d.size) (hi : 1 ≤ i) (hs : d.size < 4611686018427387904) (j : Nat) (hj : j < d.size) : Zr (Y0 (i : Int) d.toList (a : Int) l0) (j : Int) = Z0 ((scanDown (fun x => !ltInt x d[a]!) d i j : Nat) : Int) (i : Int) d.toList (a : Int) l0 := by
 refine ZcP _ (fun q => Z0 q (i : Int) d.toList (a : Int) l0) _ d i hi (fun j hij hj => ?_) (fun j hj => ?_) j hj
 ·have hc : (i : Int) ≤ ((j + 1 : Nat) : Int) := by omega
  simp only [Y0, hc, if_true, iB ha, iB hj, gB ha, gB hj, Xv, sB, true_and, wP (show j < 9223372036854775807 by omega)]
 ·have hc : ¬ (i : Int) ≤ (j : Int) := by omega
  simp only [Y0, hc, if_false, sB, false_and]
theorem ZoY (d : Array Int) (a j : Nat) (l0 : List Int) (ha : a < d.size) (hj : j < d.size) (h0 : d.size = l0.length) : Xi d.toList (a : Int) l0 (j : Int) = some ((j : Int), false, (swp d j a).toList) := by
 have hc : (swp d j a).toList.length = l0.length := by simpa [size_swp] using h0
 simp only [Xi, iB ha, iB hj, gB ha, gB hj, iB1 ha, Zc4, Zs hc]
theorem Znd (a : Nat) (l0 : List Int) : ∀ (n i j : Nat) (d : Array Int), j + 1 - i = n → 1 ≤ i → a < d.size → j < d.size → d.size < 4611686018427387904 → i ≤ j + 2 → d.size = l0.length → Zr (Y2 (a : Int) l0) ((i : Int), (j : Int), d.toList) = some (((partLoop ltInt a i j d).1 : Int), false, (swp (partLoop ltInt a i j d).2 (partLoop ltInt a i j d).1 a).toList) := by
 intro n
 induction n using Nat.strongRecOn with
 | _ n ih =>
  intro i j d hn hi ha hj hs hij h0
  have u1 := scanUp_ge (fun x => ltInt x d[a]!) d j i
  have v1 := scanDown_le (fun x => !ltInt x d[a]!) d (scanUp (fun x => ltInt x d[a]!) d j i) j
  have hst : Y2 (a : Int) l0 ((i : Int), (j : Int), d.toList) = Z0 ((scanDown (fun x => !ltInt x d[a]!) d (scanUp (fun x => ltInt x d[a]!) d j i) j : Nat) : Int) ((scanUp (fun x => ltInt x d[a]!) d j i : Nat) : Int) d.toList (a : Int) l0 := by
   rw [Y2, ZoX d a j l0 ha hj hs i, Yy, Znc d a _ l0 ha (by omega) hs j hj]
  rw [partLoop_eq]
  generalize scanUp (fun x => ltInt x d[a]!) d j i = i2 at u1 v1 hst ⊢
  generalize scanDown (fun x => !ltInt x d[a]!) d i2 j = j2 at v1 hst ⊢
  by_cases g : i2 > j2
  ·rw [if_pos g]
   refine Yn ?_
   rw [hst, Z0, if_pos (by omega), ZoY d a j2 l0 ha (by omega) h0]
   rfl
  ·rw [if_neg g]
   have hi2 : i2 < d.size := by omega
   have hj2 : j2 < d.size := by omega
   rw [← ih (j2 - 1 + 1 - (i2 + 1)) (by omega) (i2 + 1) (j2 - 1) (swp d i2 j2) rfl (by omega) (by rw [size_swp]; exact ha) (by rw [size_swp]; omega) (by rw [size_swp]; exact hs) (by omega) (by rw [size_swp]; exact h0)]
   refine ZZ ?_
   rw [hst, Z0, if_neg (by omega)]
   simp only [iB hi2, iB hj2, gB hi2, gB hj2, iB1 hj2, Zc4, wS (show i2 < 9223372036854775807 by omega)]
   rw [wi _ (by omega), show (j2 : Int) - 1 = ((j2 - 1 : Nat) : Int) by omega]
theorem ZoZ (d0 : Array Int) (a b pivot : Nat) (hap : a ≤ pivot) (hpb : pivot < b) (hb : b ≤ d0.size) (hs : d0.size < 4611686018427387904) : Yc d0.toList (a : Int) (b : Int) (pivot : Int) = some (((partition ltInt d0 a b pivot).1 : Int), (partition ltInt d0 a b pivot).2.1, (partition ltInt d0 a b pivot).2.2.toList) := by
 have hp : pivot < d0.size := by omega
 have ha : a < d0.size := by omega
 rw [Yc]
 simp only [iB hp, iB ha, gB hp, gB ha, iB1 hp, wS (show a < 9223372036854775807 by omega)]
 have hl := Zc4 d0 a pivot
 have h0 : (swp d0 a pivot).size = d0.toList.length := by simp [size_swp]
 have ha' : a < (swp d0 a pivot).size := by rw [size_swp]; exact ha
 have hb' : b ≤ (swp d0 a pivot).size := by rw [size_swp]; exact hb
 have hs' : (swp d0 a pivot).size < 4611686018427387904 := by rw [size_swp]; exact hs
 rw [partition]
 simp only
 generalize swp d0 a pivot = d at hl h0 ha' hb' hs' ⊢
 have eb : IntKind.i64.wrap ((b : Int) - 1) = ((b - 1 : Nat) : Int) := by rw [wi _ (by omega)]; omega
 have hj : b - 1 < d.size := by omega
 have e1 : Zr (Y4 (b : Int) d0.toList a d0[pivot]! pivot d0[a]! (a : Int)) ((a + 1 : Nat) : Int) = YA ((scanUp (fun x => ltInt x d[a]!) d (b - 1) (a + 1) : Nat) : Int) d0.toList a d0[pivot]! pivot d0[a]! (a : Int) (b : Int) := by
  refine ZeE _ (fun q => YA q d0.toList a d0[pivot]! pivot d0[a]! (a : Int) (b : Int)) _ d (b - 1) (fun i hi => ?_) (fun i hi => ?_) _ (a + 1) rfl
  ·have hc : (i : Int) ≤ ((b - 1 : Nat) : Int) := by omega
   have hi' : i < d.size := by omega
   simp only [Y4, eb, hl, hc, if_true, iB ha', iB hi', gB ha', gB hi', Xv, sB, true_and, wS (show i < 9223372036854775807 by omega)]
  ·have hc : ¬ (i : Int) ≤ ((b - 1 : Nat) : Int) := by omega
   simp only [Y4, eb, hc, if_false, sB, false_and]
 have u1 := scanUp_ge (fun x => ltInt x d[a]!) d (b - 1) (a + 1)
 generalize scanUp (fun x => ltInt x d[a]!) d (b - 1) (a + 1) = i at e1 u1 ⊢
 have e2 : Zr (Y3 (i : Int) d0.toList a d0[pivot]! pivot d0[a]! (a : Int)) ((b - 1 : Nat) : Int) = Yz ((scanDown (fun x => !ltInt x d[a]!) d i (b - 1) : Nat) : Int) (i : Int) d0.toList a d0[pivot]! pivot d0[a]! (a : Int) := by
  refine ZcP _ (fun q => Yz q (i : Int) d0.toList a d0[pivot]! pivot d0[a]! (a : Int)) _ d i (by omega) (fun j hij hj => ?_) (fun j hj => ?_) (b - 1) hj
  ·have hc : (i : Int) ≤ ((j + 1 : Nat) : Int) := by omega
   simp only [Y3, hl, hc, if_true, iB ha', iB hj, gB ha', gB hj, Xv, sB, true_and, wP (show j < 9223372036854775807 by omega)]
  ·have hc : ¬ (i : Int) ≤ (j : Int) := by omega
   simp only [Y3, hc, if_false, sB, false_and]
 have v1 := scanDown_le (fun x => !ltInt x d[a]!) d i (b - 1)
 generalize scanDown (fun x => !ltInt x d[a]!) d i (b - 1) = j at e2 v1 ⊢
 rw [e1, YA, eb, e2, Yz, hl]
 have hj2 : j < d.size := by omega
 by_cases g : i > j
 ·have hc : (swp d j a).toList.length = d0.toList.length := by rw [← h0]; simp [size_swp]
  simp only [if_pos (show (j : Int) < (i : Int) by omega), if_pos g, iB ha', iB hj2, gB ha', gB hj2, iB1 ha', Zc4, Zs hc]
 ·have hi2 : i < d.size := by omega
  simp only [if_neg (show ¬ (j : Int) < (i : Int) by omega), if_neg g, iB hi2, iB hj2, gB hi2, gB hj2, iB1 hj2, Zc4, wS (show i < 9223372036854775807 by omega)]
  rw [wi _ (by omega), show (j : Int) - 1 = ((j - 1 : Nat) : Int) by omega, Znd a d0.toList _ (i + 1) (j - 1) (swp d i j) rfl (by omega) (by rw [size_swp]; exact ha') (by rw [size_swp]; omega) (by rw [size_swp]; exact hs') (by omega) (by rw [size_swp]; exact h0)]
end Go.Lc
end
