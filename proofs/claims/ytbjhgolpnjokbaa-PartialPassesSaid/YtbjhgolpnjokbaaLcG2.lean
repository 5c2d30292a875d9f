import Derived.Test.YtbjhgolpnjokbaaLcG1
import Derived.Test.YtbjhgolpnjokbaaAvP3
import Derived.IntWalk
section
namespace Go.Lc
open Go.RowKit
open Go.Av
set_option maxRecDepth 100000
set_option linter.unusedSimpArgs false
set_option linter.unusedVariables false
noncomputable def Zdp (p8 : (List Int)) : Option (List Int) :=
 some (p8)
noncomputable def Zdq (a0 : (List (List Int))) : (Int × (List Int)) → Option ((Int × (List Int)) ⊕ ((List Int)))
 | (p7, p8) => (if p7 < (a0.length : Int) then (idx (a0) (p7)).bind fun x11 => (Z7 p8 x11).bind fun y12 => some (.inl (IntKind.i64.wrap (p7 + 1), y12)) else (Zdp p8).map Sum.inr)
noncomputable def Xx (a0 : (List (List Int))) : Option ((List Int)) :=
 Zs (Zdq a0) (0, ([] : (List Int)))
noncomputable def ZaV (a0 : (List Int)) (a1 : (List Int)) : Option (Bool) :=
 some (decide (ZjP a0 = ZjP a1))
end Go.Lc
end
section
namespace Go.Lc
open Go.RowKit
open Go.Av
set_option maxRecDepth 100000
set_option linter.unusedSimpArgs false
set_option linter.unusedVariables false
end Go.Lc
end
section
namespace Go.Lc
open Go.RowKit
open Go.Av
set_option maxRecDepth 100000
set_option linter.unusedSimpArgs false
set_option linter.unusedVariables false
abbrev Tapi_Op := Int × (List Int) × Int × Int
abbrev Tapi_Signature := (Arr 4) × (Arr 4)
abbrev Tapi_Signed := Int × (Arr 4) × Tapi_Signature
abbrev Tapi_PartialTx := Tapi_Plan × (List Tapi_Signed)
noncomputable def ZcQ (p9 : (Arr 32)) : Option (Arr 32) :=
 some (p9)
noncomputable def ZcR (a0 : (Arr 4)) : (Int × (Arr 32)) → Option ((Int × (Arr 32)) ⊕ ((Arr 32)))
 | (p8, p9) => (if p8 < 32 then (inA (4) (IntKind.i64.wrap ((IntKind.i64.wrap (31 - p8)).tdiv 8))).bind fun j13 => (chk (¬ (IntKind.i64.wrap (8 * ((IntKind.i64.wrap (31 - p8)).tmod 8)) < 0))).bind fun _ => (inA (32) (p8)).bind fun j15 => some (.inl (IntKind.i64.wrap (p8 + 1), p9.put j15 (IntKind.u8.wrap ((a0.at j13).fdiv (2 ^ (min (IntKind.i64.wrap (8 * ((IntKind.i64.wrap (31 - p8)).tmod 8))).toNat 64)))))) else (ZcQ p9).map Sum.inr)
noncomputable def Zas (a0 : (Arr 4)) : Option ((Arr 32)) :=
 Zs (ZcR a0) (0, zA 32)
noncomputable def ZaT (a0 : (Arr 4)) : Option ((List Int)) :=
 (Zas a0).bind fun y1 => some (y1.l)
noncomputable def YJ (a0 : Tapi_Op) (p1 : Bool) : Option Int :=
 (if p1 = true then some (6) else (if 255 < (a0.2.1.length : Int) then some (4) else (if (a0.1 = 11 ∧ (((a0.2.2.2 < 1 ∨ 15 < a0.2.2.2) ∨ a0.2.2.1 < 1) ∨ a0.2.2.2 < a0.2.2.1)) then some (5) else some (0))))
noncomputable def Zat (a0 : Tapi_Op) : Option (Int) :=
 (if (a0.1 < 1 ∨ 17 < a0.1) then some (80) else (if (0 < (a0.2.1.length : Int) ∧ ¬ (a0.1 = 1)) then YJ a0 (decide (0 < (a0.2.1.length : Int)) && !(decide (a0.1 = 1))) else YJ a0 ((!(decide (a0.2.2.1 = 0)) || !(decide (a0.2.2.2 = 0))) && !(decide (a0.1 = 11)))))
noncomputable def XA (a0 : Tapi_Op) : Option ((List Int)) :=
 (if a0.1 = 1 then (Xx [[1, IntKind.u8.wrap ((a0.2.1.length : Int))], a0.2.1]).bind fun y1 => some (y1) else (if a0.1 = 11 then some ([11, IntKind.u8.wrap (a0.2.2.1), IntKind.u8.wrap (a0.2.2.2)]) else some ([IntKind.u8.wrap (a0.1)])))
noncomputable def ZbC (p18 : (List Int)) : Option ((List Int) × Int) :=
 some ((p18, 0))
noncomputable def ZbD (a0 : (List Tapi_Op)) : (Int × (List Int)) → Option ((Int × (List Int)) ⊕ ((List Int) × Int))
 | (p17, p18) => (if p17 < (a0.length : Int) then (idx (a0) (p17)).bind fun x22 => (XA x22).bind fun y23 => (chk (p18.length + y23.length ≤ 140737488355328)).bind fun _ => (if 520 < (p18.length + y23.length : Int) then some (.inr ((([] : (List Int)), 4))) else some (.inl (IntKind.i64.wrap (p17 + 1), p18 ++ y23))) else (ZbC p18).map Sum.inr)
noncomputable def ZbE (a0 : (List Tapi_Op)) : Option ((List Int) × Int) :=
 Zs (ZbD a0) (0, [])
noncomputable def ZbF (a0 : (List Tapi_Op)) : Int → Option ((Int) ⊕ ((List Int) × Int))
 | p6 => (if p6 < (a0.length : Int) then (idx (a0) (p6)).bind fun x25 => (Zat x25).bind fun y26 => (if ¬ (y26 = 0) then some (.inr ((([] : (List Int)), y26))) else some (.inl (IntKind.i64.wrap (p6 + 1)))) else (ZbE a0).map Sum.inr)
noncomputable def Xt (a0 : (List Tapi_Op)) : Option ((List Int) × Int) :=
 Zs (ZbF a0) 0
noncomputable def ZcS (p9 : (List Tapi_Op)) (a0 : Int) (a1 : (List (Arr 4))) : Option ((List Int) × Int) :=
 (chk (p9.length + 1 ≤ 2932031007402)).bind fun _ => (Xt (p9 ++ [(11, ([] : (List Int)), a0, (a1.length : Int))])).bind fun y14 => some ((y14.1, y14.2))
noncomputable def ZcT (a1 : (List (Arr 4))) (a0 : Int) : (Int × (List Tapi_Op)) → Option ((Int × (List Tapi_Op)) ⊕ ((List Int) × Int))
 | (p8, p9) => (if p8 < (a1.length : Int) then (idx (a1) (p8)).bind fun x15 => (ZaT x15).bind fun y16 => (chk (p9.length + 1 ≤ 2932031007402)).bind fun _ => some (.inl (IntKind.i64.wrap (p8 + 1), p9 ++ [(1, y16, 0, 0)])) else (ZcS p9 a0 a1).map Sum.inr)
noncomputable def Xy (a0 : Int) (a1 : (List (Arr 4))) : Option ((List Int) × Int) :=
 Zs (ZcT a1 a0) (0, [])
noncomputable def Yw (a0 : Int) : Option ((Arr 4)) :=
 some ((zA 4).put 0 a0)
noncomputable def YR (a0 : Int) : Option ((Arr 4)) :=
 (Yw a0).bind fun y1 => some (y1)
noncomputable def X8 (a0 : Int) : Option (Bool) :=
 some ((decide (1 ≤ a0) && decide (a0 ≤ 17)))
noncomputable def Zdr (p8 : (List Int)) : Option (List Int) :=
 some (p8)
noncomputable def Zds (a0 : (List (List Int))) : (Int × (List Int)) → Option ((Int × (List Int)) ⊕ ((List Int)))
 | (p7, p8) => (if p7 < (a0.length : Int) then (idx (a0) (p7)).bind fun x11 => (chk (p8.length + x11.length ≤ 140737488355328)).bind fun _ => some (.inl (IntKind.i64.wrap (p7 + 1), p8 ++ x11)) else (Zdr p8).map Sum.inr)
noncomputable def ZaW (a0 : (List (List Int))) : Option ((List Int)) :=
 Zs (Zds a0) (0, [])
noncomputable def Xu (a0 : Int) (a1 : Int) : Option (Bool) :=
 some ((((decide (1 ≤ a1) && decide (a1 ≤ 15)) && decide (1 ≤ a0)) && decide (a0 ≤ a1)))
noncomputable def Xv (x1 : Int) (p14 : (List Int)) (p15 : Int) (p16 : Int) (p17 : (List Int)) : Option (Tapi_Op × (List Int) × Int) :=
 some (((IntKind.i64.wrap (x1), p17, p15, p16), p14, 0))
noncomputable def Zau (a0 : (List Int)) : Option (Tapi_Op × (List Int) × Int) :=
 ((a0)[0]?).bind fun x1 => (X8 (IntKind.i64.wrap (x1))).bind fun y2 => (if ¬ (y2 = true) then some (((0, ([] : (List Int)), 0, 0), ([] : (List Int)), 80)) else (chk (1 ≤ (a0.length : Int))).bind fun _ => (if IntKind.i64.wrap (x1) = 1 then ((if (((a0).drop 1).length : Int) = 0 then some (false) else (((a0).drop 1)[0]?).bind fun x18 => some (decide (IntKind.i64.wrap ((((a0).drop 1).length : Int) - 1) < IntKind.i64.wrap (x18))))).bind fun z19 => (if ((((a0).drop 1).length : Int) = 0 ∨ z19 = true) then some (((0, ([] : (List Int)), 0, 0), ([] : (List Int)), 1)) else (((a0).drop 1)[0]?).bind fun x20 => (chk (1 ≤ IntKind.i64.wrap (1 + (IntKind.i64.wrap (x20))) ∧ IntKind.i64.wrap (1 + (IntKind.i64.wrap (x20))) ≤ (((a0).drop 1).length : Int))).bind fun _ => (ZaW [(((a0).drop 1).take ((IntKind.i64.wrap (1 + (IntKind.i64.wrap (x20)))).toNat)).drop 1]).bind fun y22 => (chk (0 ≤ IntKind.i64.wrap (1 + (IntKind.i64.wrap (x20))) ∧ IntKind.i64.wrap (1 + (IntKind.i64.wrap (x20))) ≤ (((a0).drop 1).length : Int))).bind fun _ => Xv x1 (((a0).drop 1).drop ((IntKind.i64.wrap (1 + (IntKind.i64.wrap (x20)))).toNat)) 0 0 y22) else (if IntKind.i64.wrap (x1) = 11 then (if (((a0).drop 1).length : Int) < 2 then some (((0, ([] : (List Int)), 0, 0), ([] : (List Int)), 1)) else (((a0).drop 1)[0]?).bind fun x24 => (((a0).drop 1)[1]?).bind fun x25 => (chk (2 ≤ (((a0).drop 1).length : Int))).bind fun _ => (Xu (IntKind.i64.wrap (x24)) (IntKind.i64.wrap (x25))).bind fun y27 => (if ¬ (y27 = true) then some (((0, ([] : (List Int)), 0, 0), ([] : (List Int)), 5)) else Xv x1 (((a0).drop 1).drop 2) (IntKind.i64.wrap (x24)) (IntKind.i64.wrap (x25)) [])) else Xv x1 ((a0).drop 1) 0 0 [])))
noncomputable def Zcj (p7 : (List Tapi_Op)) : Option ((List Tapi_Op) × Int) :=
 some ((p7, 0))
noncomputable def Lscript_Parse_s1 : ((List Int) × (List Tapi_Op)) → Option (((List Int) × (List Tapi_Op)) ⊕ ((List Tapi_Op) × Int))
 | (p6, p7) => (if 0 < (p6.length : Int) then (Zau p6).bind fun y10 => (if ¬ (y10.2.2 = 0) then some (.inr ((([] : (List Tapi_Op)), y10.2.2))) else (chk (p7.length + 1 ≤ 2932031007402)).bind fun _ => some (.inl (y10.2.1, p7 ++ [y10.1]))) else (Zcj p7).map Sum.inr)
noncomputable def XB (a0 : (List Int)) : Option ((List Tapi_Op) × Int) :=
 (if 520 < (a0.length : Int) then some ((([] : (List Tapi_Op)), 4)) else Zs (Lscript_Parse_s1) (a0, []))
noncomputable def ZaK (p10 : Int) : Option (Int × Int) :=
 some ((p10, 0))
noncomputable def ZaL (a0 : (List Int)) : (Int × Int) → Option ((Int × Int) ⊕ (Int × Int))
 | (p10, p11) => (if p11 < (a0.length : Int) then (idx (a0) (p11)).bind fun x14 => (chk (¬ (IntKind.i64.wrap (8 * p11) < 0))).bind fun _ => some (.inl (bits .or .u32 p10 (IntKind.u32.wrap ((IntKind.u32.wrap (x14)) * (2 ^ (min (IntKind.i64.wrap (8 * p11)).toNat 32)))), IntKind.i64.wrap (p11 + 1))) else (ZaK p10).map Sum.inr)
noncomputable def XL (a0 : (List Int)) : Option (Int × Int) :=
 ((if 4 < (a0.length : Int) then some (false) else ((if 0 < (a0.length : Int) then (idx (a0) (IntKind.i64.wrap ((a0.length : Int) - 1))).bind fun x1 => some (decide (x1 = 0)) else some (false))).bind fun z2 => some ((decide (0 < (a0.length : Int)) && z2)))).bind fun z3 => (if (4 < (a0.length : Int) ∨ z3 = true) then some ((0, 82)) else Zs (ZaL a0) (0, 0))
noncomputable def YK (a0 : (List Int)) : Option (Int) :=
 ((if (a0.length : Int) < 2 then some (false) else ((a0)[0]?).bind fun x1 => some (!(decide (x1 = 1))))).bind fun z2 => (if ((a0.length : Int) < 2 ∨ z2 = true) then some (0) else ((a0)[1]?).bind fun x3 => (if (a0.length : Int) < IntKind.i64.wrap ((IntKind.i64.wrap (2 + (IntKind.i64.wrap (x3)))) + 2) then some (0) else (chk (2 ≤ IntKind.i64.wrap (2 + (IntKind.i64.wrap (x3))) ∧ IntKind.i64.wrap (2 + (IntKind.i64.wrap (x3))) ≤ (a0.length : Int))).bind fun _ => (XL (((a0).take ((IntKind.i64.wrap (2 + (IntKind.i64.wrap (x3)))).toNat)).drop 2)).bind fun y5 => (if ¬ (y5.2 = 0) then some (0) else (idx (a0) (IntKind.i64.wrap (2 + (IntKind.i64.wrap (x3))))).bind fun x6 => ((if (¬ (x6 = 12) ∧ ¬ (x6 = 13)) then some (false) else (idx (a0) (IntKind.i64.wrap ((IntKind.i64.wrap (2 + (IntKind.i64.wrap (x3)))) + 1))).bind fun x7 => some (!(decide (x7 = 3))))).bind fun z8 => (if ((¬ (x6 = 12) ∧ ¬ (x6 = 13)) ∨ z8 = true) then some (0) else some (IntKind.i64.wrap ((IntKind.i64.wrap (2 + (IntKind.i64.wrap (x3)))) + 2))))))
noncomputable def ZbG (p7 : (Arr 4)) : Option (Arr 4) :=
 some (p7)
noncomputable def Xh (a0 : (Arr 32)) : (Int × (Arr 4)) → Option ((Int × (Arr 4)) ⊕ ((Arr 4)))
 | (p6, p7) => (if p6 < 32 then (inA (32) (p6)).bind fun j10 => (inA (4) (IntKind.i64.wrap (3 - (IntKind.i64.wrap ((p6).tdiv 8))))).bind fun j11 => some (.inl (IntKind.i64.wrap (p6 + 1), p7.put j11 (bits .or .u64 (IntKind.u64.wrap ((p7.at j11) * 256)) (IntKind.u64.wrap (a0.at j10))))) else (ZbG p7).map Sum.inr)
noncomputable def Yx (a0 : (Arr 32)) : Option ((Arr 4)) :=
 Zs (Xh a0) (0, zA 4)
noncomputable def Zck (y13 : ((List Tapi_Op) × Int)) (p25 : (List (Arr 4))) : Option ((List (Arr 4)) × Int × Bool) :=
 (idx (y13.1) (IntKind.i64.wrap ((y13.1.length : Int) - 1))).bind fun x30 => (if (x30.1 = 10 ∧ (p25.length : Int) = 1) then some ((p25, 1, true)) else (if (x30.1 = 11 ∧ x30.2.2.2 = (p25.length : Int)) then some ((p25, x30.2.2.1, true)) else some ((([] : (List (Arr 4))), 0, false))))
noncomputable def Zcl (y13 : ((List Tapi_Op) × Int)) : (Int × (List (Arr 4))) → Option ((Int × (List (Arr 4))) ⊕ ((List (Arr 4)) × Int × Bool))
 | (p24, p25) => (if p24 < (((y13.1).take ((IntKind.i64.wrap ((y13.1.length : Int) - 1)).toNat)).length : Int) then (idx ((y13.1).take ((IntKind.i64.wrap ((y13.1.length : Int) - 1)).toNat)) (p24)).bind fun x31 => (if (¬ (x31.1 = 1) ∨ ¬ ((x31.2.1.length : Int) = 32)) then some (.inr ((([] : (List (Arr 4))), 0, false))) else (chk (32 ≤ x31.2.1.length)).bind fun _ => (Yx (Zhn 32 x31.2.1)).bind fun y33 => (chk (p25.length + 1 ≤ 4398046511104)).bind fun _ => some (.inl (IntKind.i64.wrap (p24 + 1), p25 ++ [y33]))) else (Zck y13 p25).map Sum.inr)
noncomputable def Zcm (p9 : (List Int)) : Option ((List (Arr 4)) × Int × Bool) :=
 (XB p9).bind fun y13 => (if (¬ (y13.2 = 0) ∨ (y13.1.length : Int) < 2) then some ((([] : (List (Arr 4))), 0, false)) else (chk (IntKind.i64.wrap ((y13.1.length : Int) - 1) ≤ (y13.1.length : Int) ∧ 0 ≤ IntKind.i64.wrap ((y13.1.length : Int) - 1))).bind fun _ => Zs (Zcl y13) (0, []))
noncomputable def Lpartial_Keys_s1 : ((List Int) × Int) → Option (((List Int) × Int) ⊕ ((List (Arr 4)) × Int × Bool))
 | (p9, p10) => (if 0 < p10 then (chk (0 ≤ p10 ∧ p10 ≤ (p9.length : Int))).bind fun _ => (YK ((p9).drop ((p10).toNat))).bind fun y36 => some (.inl ((p9).drop ((p10).toNat), y36)) else (Zcm p9).map Sum.inr)
noncomputable def XC (a0 : (List Int)) : Option ((List (Arr 4)) × Int × Bool) :=
 (XB a0).bind fun y1 => (if ¬ (y1.2 = 0) then some ((([] : (List (Arr 4))), 0, false)) else (YK a0).bind fun y2 => Zs (Lpartial_Keys_s1) (a0, y2))
noncomputable def X9 (a0 : (List Int)) (a1 : (List Int)) : Option ((List Int)) :=
 (Xx [[14], a0, [15], a1, [16]]).bind fun y1 => some (y1)
noncomputable def Llaw35_sane : Option (Bool) :=
 (YR 4).bind fun y1 => (YR 16).bind fun y2 => (YR 64).bind fun y3 => (Xy 2 [y1, y2, y3]).bind fun y4 => (XC y4.1).bind fun y5 => (X9 y4.1 y4.1).bind fun y6 => (XC y6).bind fun y7 => ((if ((y5.2.2 = true ∧ y5.2.1 = 2) ∧ (y5.1.length : Int) = 3) then ((y5.1)[2]?).bind fun x8 => (YR 64).bind fun y9 => some (decide (x8 = y9)) else some (false))).bind fun z10 => some (((((y5.2.2 && decide (y5.2.1 = 2)) && decide ((y5.1.length : Int) = 3)) && z10) && !(y7.2.2)))
noncomputable def ZeH (p71 : (List Tapi_Signed)) (p70 : Tlightclientmill_Deck) : Option ((List Tapi_Signed) × Tlightclientmill_Deck) :=
 some ((p71, p70))
noncomputable def ZeI (p69 : Int) (p127 : Tlightclientmill_Deck) (p128 : (List Tapi_Signed)) : Option ((Int × Tlightclientmill_Deck × (List Tapi_Signed)) ⊕ ((List Tapi_Signed) × Tlightclientmill_Deck)) :=
 some (.inl (IntKind.i64.wrap (p69 + 1), p127, p128))
noncomputable def XZ (p126 : Int) (p145 : Tlightclientmill_Deck) (p146 : (List Tapi_Signed)) : Option ((Int × Tlightclientmill_Deck × (List Tapi_Signed)) ⊕ ((Int × Tlightclientmill_Deck × (List Tapi_Signed)) ⊕ ((List Tapi_Signed) × Tlightclientmill_Deck))) :=
 some (.inl (IntKind.u64.wrap (p126 * 4), p145, p146))
noncomputable def ZeJ (p69 : Int) : (Int × Tlightclientmill_Deck × (List Tapi_Signed)) → Option ((Int × Tlightclientmill_Deck × (List Tapi_Signed)) ⊕ ((Int × Tlightclientmill_Deck × (List Tapi_Signed)) ⊕ ((List Tapi_Signed) × Tlightclientmill_Deck)))
 | (p126, p127, p128) => (if p126 < 70 then (Ye p127 2).bind fun y138 => (if y138.1 = 0 then (Yw p126).bind fun y147 => (Ye y138.2 3).bind fun y148 => (Yw (IntKind.u64.wrap (y148.1))).bind fun y149 => (Ye y148.2 3).bind fun y150 => (Yw (IntKind.u64.wrap (y150.1))).bind fun y151 => (chk (p128.length + 1 ≤ 1353245080339)).bind fun _ => XZ p126 y150.2 (p128 ++ [(p69, y147, (y149, y151))]) else XZ p126 y138.2 p128) else (ZeI p69 p127 p128).map Sum.inr)
noncomputable def ZeK (a1 : Tapi_Plan) : (Int × Tlightclientmill_Deck × (List Tapi_Signed)) → Option ((Int × Tlightclientmill_Deck × (List Tapi_Signed)) ⊕ ((List Tapi_Signed) × Tlightclientmill_Deck))
 | (p69, p70, p71) => (if p69 < (a1.1.2.1.length : Int) then Zs (ZeJ p69) (4, p70, p71) else (ZeH p71 p70).map Sum.inr)
noncomputable def Xz (a0 : Tlightclientmill_Deck) (a1 : Tapi_Plan) : Option ((List Tapi_Signed) × Tlightclientmill_Deck) :=
 Zs (ZeK a1) (0, a0, [])
noncomputable def Zap (a0 : (List Int)) : Option ((List Int)) :=
 (XA (1, a0, 0, 0)).bind fun y1 => some (y1)
noncomputable def XD (a0 : (Arr 4)) : Option ((List Int)) :=
 (ZaT a0).bind fun y1 => (Zap y1).bind fun y2 => (Xx [y2, [10]]).bind fun y3 => some (y3)
noncomputable def Zdt (p5 : (List Int)) : Option (List Int) :=
 some (p5)
noncomputable def Lref08_Item_s1 : (Int × (List Int)) → Option ((Int × (List Int)) ⊕ ((List Int)))
 | (p4, p5) => (if 0 < p4 then (chk (p5.length + 1 ≤ 140737488355328)).bind fun _ => some (.inl (IntKind.u32.wrap ((p4).tdiv 256), p5 ++ [IntKind.u8.wrap (p4)])) else (Zdt p5).map Sum.inr)
noncomputable def ZaX (a0 : Int) : Option ((List Int)) :=
 Zs (Lref08_Item_s1) (a0, [])
noncomputable def X0 (a0 : Int) (a1 : (List Int)) : Option ((List Int)) :=
 (ZaX a0).bind fun y1 => (Zap y1).bind fun y2 => (Xx [y2, [12, 3], a1]).bind fun y3 => some (y3)
noncomputable def ZaY (a0 : Tlightclientmill_Deck) : Option (Tapi_PartialTx × Tlightclientmill_Deck) :=
 (YR 4).bind fun y1 => (YR 16).bind fun y2 => (YR 4).bind fun y3 => (Xy 2 [y1, y2, y3]).bind fun y4 => (YR 16).bind fun y5 => (XD y5).bind fun y6 => (X0 1 y4.1).bind fun y7 => (XS 2).bind fun y8 => (Ye a0 3).bind fun y9 => (chk (IntKind.i64.wrap (1 + y9.1) ≤ ([y6, y7, y8].length : Int) ∧ 0 ≤ IntKind.i64.wrap (1 + y9.1))).bind fun _ => (Zbw y9.2 (([y6, y7, y8]).take (IntKind.i64.wrap (1 + y9.1)).toNat)).bind fun y11 => (Xz y11.2 ((y11.1.1.1, y11.1.1.2.1, y11.1.1.2.2.1, y11.1.1.2.2.2), y11.1.2.1, y11.1.2.2.1, y11.1.2.2.2)).bind fun y12 => some (((((y11.1.1.1, y11.1.1.2.1, y11.1.1.2.2.1, y11.1.1.2.2.2), y11.1.2.1, y11.1.2.2.1, y11.1.2.2.2), y12.1), y12.2))
noncomputable def Lcmp_Or_of_int_k1 : Option Int :=
 some (0)
noncomputable def Xq (a0 : (List Int)) : Int → Option ((Int) ⊕ (Int))
 | p4 => (if p4 < (a0.length : Int) then (idx (a0) (p4)).bind fun x6 => (if ¬ (x6 = 0) then some (.inr (x6)) else some (.inl (IntKind.i64.wrap (p4 + 1)))) else (Lcmp_Or_of_int_k1).map Sum.inr)
noncomputable def XM (a0 : (List Int)) : Option (Int) :=
 Zs (Xq a0) 0
noncomputable def Y2 (a0 : Int) : Option (Bool) :=
 some (!(decide (a0 = a0)))
noncomputable def YO (a0 : Int) (a1 : Int) : Option (Int) :=
 (Y2 a0).bind fun y1 => (Y2 a1).bind fun y2 => (if y1 = true then (if y2 = true then some (0) else some ((-1))) else (if y2 = true then some (1) else (if a0 < a1 then some ((-1)) else (if a1 < a0 then some (1) else some (0)))))
noncomputable def Lwide_Cmp_k1 : Option Int :=
 some (0)
noncomputable def Za8 (a0 : (Arr 4)) (a1 : (Arr 4)) : Int → Option ((Int) ⊕ (Int))
 | p3 => (if 0 ≤ p3 then (inA (4) (p3)).bind fun j5 => (if a0.at j5 < a1.at j5 then some (.inr ((-1))) else (if a1.at j5 < a0.at j5 then some (.inr (1)) else some (.inl (IntKind.i64.wrap (p3 - 1))))) else (Lwide_Cmp_k1).map Sum.inr)
noncomputable def ZbH (a0 : (Arr 4)) (a1 : (Arr 4)) : Option (Int) :=
 Zs (Za8 a0 a1) 3
noncomputable def YW (a0 : Tapi_Signed) (a1 : Tapi_Signed) : Option (Int) :=
 (YO a0.1 a1.1).bind fun y1 => (ZbH a0.2.1 a1.2.1).bind fun y2 => (XM [y1, y2]).bind fun y3 => some (y3)
noncomputable def Lgroup_Order : Option ((Arr 4)) :=
 some (((((zA 4).put 0 18446744073709533559).put 1 18446744073709551615).put 2 18446744073709551615).put 3 9223372036854775807)
noncomputable def X1 (a0 : (Arr 4)) : Option (Bool) :=
 (Lgroup_Order).bind fun y1 => (ZbH a0 y1).bind fun y2 => some (decide (y2 < 0))
noncomputable def Zav (a0 : (List Int)) : Option (Tapi_Signature × Int) :=
 (if ¬ ((a0.length : Int) = 64) then some (((zA 4, zA 4), 8)) else (chk (32 ≤ (a0.length : Int))).bind fun _ => (chk (32 ≤ ((a0).take 32).length)).bind fun _ => (Yx (Zhn 32 ((a0).take 32))).bind fun y3 => (chk (32 ≤ (a0.length : Int))).bind fun _ => (chk (32 ≤ ((a0).drop 32).length)).bind fun _ => (Yx (Zhn 32 ((a0).drop 32))).bind fun y6 => (X1 y3).bind fun y7 => ((if ¬ (y7 = true) then some (false) else (X1 y6).bind fun y8 => some (!(y8)))).bind fun z9 => (if (¬ (y7 = true) ∨ z9 = true) then some (((zA 4, zA 4), 5)) else some (((y3, y6), 0))))
noncomputable def Zja (p8 : (List Int)) : Option (List Int) :=
 some (p8)
noncomputable def Zc5 (a0 : (List (Arr 32))) : (Int × (List Int)) → Option ((Int × (List Int)) ⊕ ((List Int)))
 | (p7, p8) => (if p7 < (a0.length : Int) then (idx (a0) (p7)).bind fun x11 => (chk (p8.length + x11.l.length ≤ 140737488355328)).bind fun _ => some (.inl (IntKind.i64.wrap (p7 + 1), p8 ++ x11.l)) else (Zja p8).map Sum.inr)
noncomputable def Zb9 (a0 : (List (Arr 32))) : Option ((List Int)) :=
 Zs (Zc5 a0) (0, [])
noncomputable def Zhv (p9 : (Arr 32)) : Option (Arr 32) :=
 some (p9)
noncomputable def Zb3 (a0 : (Arr 4)) : (Int × (Arr 32)) → Option ((Int × (Arr 32)) ⊕ ((Arr 32)))
 | (p8, p9) => (if p8 < 32 then (inA (4) (IntKind.i64.wrap (3 - (IntKind.i64.wrap ((p8).tdiv 8))))).bind fun j13 => (chk (¬ (IntKind.i64.wrap (56 - (IntKind.i64.wrap (((p8).tmod 8) * 8))) < 0))).bind fun _ => (inA (32) (p8)).bind fun j15 => some (.inl (IntKind.i64.wrap (p8 + 1), p9.put j15 (IntKind.u8.wrap ((a0.at j13).fdiv (2 ^ (min (IntKind.i64.wrap (56 - (IntKind.i64.wrap (((p8).tmod 8) * 8)))).toNat 64)))))) else (Zhv p9).map Sum.inr)
noncomputable def Zaq (a0 : (Arr 4)) : Option ((Arr 32)) :=
 Zs (Zb3 a0) (0, zA 32)
noncomputable def Zaw (a0 : Tapi_Signature) : Option ((List Int)) :=
 (Zaq a0.1).bind fun y1 => (Zaq a0.2).bind fun y2 => (Zb9 [y1, y2]).bind fun y3 => some (y3)
noncomputable def Lpartial_Valid_k1 : Option Bool :=
 some (true)
noncomputable def ZaM (a0 : Tapi_PartialTx) : Int → Option ((Int) ⊕ (Bool))
 | p15 => (if p15 < (a0.2.length : Int) then (idx (a0.2) (p15)).bind fun x22 => (if (x22.1 < 0 ∨ (a0.1.1.2.1.length : Int) ≤ x22.1) then some (.inr (false)) else (Zaw x22.2.2).bind fun y23 => (Zav y23).bind fun y24 => (if ¬ (y24.2 = 0) then some (.inr (false)) else ((if 0 < p15 then (idx (a0.2) (IntKind.i64.wrap (p15 - 1))).bind fun x25 => (YW x25 x22).bind fun y26 => some (decide (0 ≤ y26)) else some (false))).bind fun z27 => (if (0 < p15 ∧ z27 = true) then some (.inr (false)) else some (.inl (IntKind.i64.wrap (p15 + 1)))))) else (Lpartial_Valid_k1).map Sum.inr)
noncomputable def YZ (a0 : Tapi_PartialTx) : Option (Bool) :=
 (Xw a0.1).bind fun y1 => (if ¬ (y1 = true) then some (false) else Zs (ZaM a0) 0)
noncomputable def X2 (a0 : (List Int)) (a1 : (List Int)) : Option (Bool) :=
 some (decide (ZjP a0 = ZjP a1))
noncomputable def Lslices_EqualFunc_of__byte_byte_byte_byte__bytes_Equal_k1 : Option Bool :=
 some (true)
noncomputable def Z8 (a0 : (List (List Int))) (a1 : (List (List Int))) : Int → Option ((Int) ⊕ (Bool))
 | p8 => (if p8 < (a0.length : Int) then (idx (a0) (p8)).bind fun x12 => (idx (a1) (p8)).bind fun x13 => (X2 x12 x13).bind fun y14 => (if ¬ (y14 = true) then some (.inr (false)) else some (.inl (IntKind.i64.wrap (p8 + 1)))) else (Lslices_EqualFunc_of__byte_byte_byte_byte__bytes_Equal_k1).map Sum.inr)
noncomputable def ZH (a0 : (List (List Int))) (a1 : (List (List Int))) : Option (Bool) :=
 (if ¬ ((a0.length : Int) = (a1.length : Int)) then some (false) else Zs (Z8 a0 a1) 0)
noncomputable def Y4 (a0 : Tapi_Input) (a1 : Tapi_Input) : Option (Bool) :=
 ((if ((a0.1.1 = a1.1.1 ∧ a0.1.2 = a1.1.2) ∧ a0.2.1 = a1.2.1) then (ZH a0.2.2 a1.2.2).bind fun y1 => some (y1) else some (false))).bind fun z2 => some ((((decide (a0.1.1 = a1.1.1) && decide (a0.1.2 = a1.1.2)) && decide (a0.2.1 = a1.2.1)) && z2))
noncomputable def YE (a0 : Tapi_Output) (a1 : Tapi_Output) : Option (Bool) :=
 ((if a0.1 = a1.1 then (X2 a0.2 a1.2).bind fun y1 => some (y1) else some (false))).bind fun z2 => some ((decide (a0.1 = a1.1) && z2))
noncomputable def Y5 (a0 : Tapi_Coin) (a1 : Tapi_Coin) : Option (Bool) :=
 ((if (a0.1.1 = a1.1.1 ∧ a0.1.2 = a1.1.2) then (YE a0.2.1 a1.2.1).bind fun y1 => some (y1) else some (false))).bind fun z2 => some (((((decide (a0.1.1 = a1.1.1) && decide (a0.1.2 = a1.1.2)) && z2) && decide (a0.2.2.1 = a1.2.2.1)) && (a0.2.2.2 == a1.2.2.2)))
noncomputable def Lslices_EqualFunc_of__api_Input_api_Input_api_Input_api_Input__partial_samePlan_1_k1 : Option Bool :=
 some (true)
noncomputable def ZQ (a0 : (List Tapi_Input)) (a1 : (List Tapi_Input)) : Int → Option ((Int) ⊕ (Bool))
 | p8 => (if p8 < (a0.length : Int) then (idx (a0) (p8)).bind fun x12 => (idx (a1) (p8)).bind fun x13 => (Y4 x12 x13).bind fun y14 => (if ¬ (y14 = true) then some (.inr (false)) else some (.inl (IntKind.i64.wrap (p8 + 1)))) else (Lslices_EqualFunc_of__api_Input_api_Input_api_Input_api_Input__partial_samePlan_1_k1).map Sum.inr)
noncomputable def Zq (a0 : (List Tapi_Input)) (a1 : (List Tapi_Input)) : Option (Bool) :=
 (if ¬ ((a0.length : Int) = (a1.length : Int)) then some (false) else Zs (ZQ a0 a1) 0)
noncomputable def Lslices_EqualFunc_of__api_Output_api_Output_api_Output_api_Output__partial_sameOutput_k1 : Option Bool :=
 some (true)
noncomputable def ZO (a0 : (List Tapi_Output)) (a1 : (List Tapi_Output)) : Int → Option ((Int) ⊕ (Bool))
 | p8 => (if p8 < (a0.length : Int) then (idx (a0) (p8)).bind fun x12 => (idx (a1) (p8)).bind fun x13 => (YE x12 x13).bind fun y14 => (if ¬ (y14 = true) then some (.inr (false)) else some (.inl (IntKind.i64.wrap (p8 + 1)))) else (Lslices_EqualFunc_of__api_Output_api_Output_api_Output_api_Output__partial_sameOutput_k1).map Sum.inr)
noncomputable def Zp (a0 : (List Tapi_Output)) (a1 : (List Tapi_Output)) : Option (Bool) :=
 (if ¬ ((a0.length : Int) = (a1.length : Int)) then some (false) else Zs (ZO a0 a1) 0)
noncomputable def Lslices_EqualFunc_of__api_Coin_api_Coin_api_Coin_api_Coin__partial_samePlan_2_k1 : Option Bool :=
 some (true)
noncomputable def ZS (a0 : (List Tapi_Coin)) (a1 : (List Tapi_Coin)) : Int → Option ((Int) ⊕ (Bool))
 | p8 => (if p8 < (a0.length : Int) then (idx (a0) (p8)).bind fun x12 => (idx (a1) (p8)).bind fun x13 => (Y5 x12 x13).bind fun y14 => (if ¬ (y14 = true) then some (.inr (false)) else some (.inl (IntKind.i64.wrap (p8 + 1)))) else (Lslices_EqualFunc_of__api_Coin_api_Coin_api_Coin_api_Coin__partial_samePlan_2_k1).map Sum.inr)
noncomputable def Zt (a0 : (List Tapi_Coin)) (a1 : (List Tapi_Coin)) : Option (Bool) :=
 (if ¬ ((a0.length : Int) = (a1.length : Int)) then some (false) else Zs (ZS a0 a1) 0)
noncomputable def Y3 (a0 : Tapi_Plan) (a1 : Tapi_Plan) : Option (Bool) :=
 ((if (((a0.1.1 = a1.1.1 ∧ a0.1.2.2.2 = a1.1.2.2.2) ∧ a0.2.2.1 = a1.2.2.1) ∧ a0.2.2.2 = a1.2.2.2) then (Zq a0.1.2.1 a1.1.2.1).bind fun y1 => some (y1) else some (false))).bind fun z2 => ((if ((((a0.1.1 = a1.1.1 ∧ a0.1.2.2.2 = a1.1.2.2.2) ∧ a0.2.2.1 = a1.2.2.1) ∧ a0.2.2.2 = a1.2.2.2) ∧ z2 = true) then (Zp a0.1.2.2.1 a1.1.2.2.1).bind fun y3 => some (y3) else some (false))).bind fun z4 => ((if (((((a0.1.1 = a1.1.1 ∧ a0.1.2.2.2 = a1.1.2.2.2) ∧ a0.2.2.1 = a1.2.2.1) ∧ a0.2.2.2 = a1.2.2.2) ∧ z2 = true) ∧ z4 = true) then (Zt a0.2.1 a1.2.1).bind fun y5 => some (y5) else some (false))).bind fun z6 => some (((((((decide (a0.1.1 = a1.1.1) && decide (a0.1.2.2.2 = a1.1.2.2.2)) && decide (a0.2.2.1 = a1.2.2.1)) && decide (a0.2.2.2 = a1.2.2.2)) && z2) && z4) && z6))
noncomputable def Xi (a0 : (List Int)) : Option (List Int) :=
 (chk (a0.length ≤ 140737488355328)).bind fun _ => some (a0)
noncomputable def Z1 (a0 : (List Tapi_Output)) : Option (List Tapi_Output) :=
 (chk (a0.length ≤ 4398046511104)).bind fun _ => some (a0)
noncomputable def Yj (a0 : (List (List Int))) : Option (List (List Int)) :=
 (chk (a0.length ≤ 5864062014805)).bind fun _ => some (a0)
noncomputable def ZdJ (p12 : (List (List Int))) : Option (List (List Int)) :=
 some (p12)
noncomputable def ZbP (y1 : ((List (List Int)))) : (Int × (List (List Int))) → Option ((Int × (List (List Int))) ⊕ ((List (List Int))))
 | (p11, p12) => (if p11 < (y1.length : Int) then (inA (p12.length) (p11)).bind fun j16 => ((p12)[j16]?).bind fun x17 => (Xi x17).bind fun y18 => some (.inl (IntKind.i64.wrap (p11 + 1), (p12).set j16 y18)) else (ZdJ p12).map Sum.inr)
noncomputable def YP (a0 : (List (List Int))) : Option ((List (List Int))) :=
 (Yj a0).bind fun y1 => Zs (ZbP y1) (0, y1)
noncomputable def Ze5 (a0 : Tapi_Tx) (p13 : (List Tapi_Input)) (p27 : (List Tapi_Output)) : Option Tapi_Tx :=
 some ((a0.1, p13, p27, a0.2.2.2))
noncomputable def Zac (y2 : ((List Tapi_Output))) (a0 : Tapi_Tx) (p13 : (List Tapi_Input)) : (Int × (List Tapi_Output)) → Option ((Int × (List Tapi_Output)) ⊕ (Tapi_Tx))
 | (p26, p27) => (if p26 < (y2.length : Int) then (inA (p27.length) (p26)).bind fun j31 => ((p27)[j31]?).bind fun x32 => (Xi x32.2).bind fun y33 => some (.inl (IntKind.i64.wrap (p26 + 1), (p27).set j31 (x32.1, y33))) else (Ze5 a0 p13 p27).map Sum.inr)
noncomputable def Zbg (y2 : ((List Tapi_Output))) (a0 : Tapi_Tx) (p13 : (List Tapi_Input)) : Option Tapi_Tx :=
 Zs (Zac y2 a0 p13) (0, y2)
noncomputable def Zad (y1 : ((List Tapi_Input))) (y2 : ((List Tapi_Output))) (a0 : Tapi_Tx) : (Int × (List Tapi_Input)) → Option ((Int × (List Tapi_Input)) ⊕ (Tapi_Tx))
 | (p12, p13) => (if p12 < (y1.length : Int) then (inA (p13.length) (p12)).bind fun j34 => ((p13)[j34]?).bind fun x35 => (YP x35.2.2).bind fun y36 => some (.inl (IntKind.i64.wrap (p12 + 1), (p13).set j34 (x35.1, x35.2.1, y36))) else (Zbg y2 a0 p13).map Sum.inr)
noncomputable def Xj (a0 : Tapi_Tx) : Option (Tapi_Tx) :=
 (Z3 a0.2.1).bind fun y1 => (Z1 a0.2.2.1).bind fun y2 => Zs (Zad y1 y2 a0) (0, y1)
noncomputable def Z4 (a0 : (List Tapi_Coin)) : Option (List Tapi_Coin) :=
 (chk (a0.length ≤ 1599289640401)).bind fun _ => some (a0)
noncomputable def Zes (y1 : (Tapi_Tx)) (p13 : (List Tapi_Coin)) (a0 : Tapi_Plan) : Option Tapi_Plan :=
 some (((y1.1, y1.2.1, y1.2.2.1, y1.2.2.2), p13, a0.2.2.1, a0.2.2.2))
noncomputable def XN (y2 : ((List Tapi_Coin))) (y1 : (Tapi_Tx)) (a0 : Tapi_Plan) : (Int × (List Tapi_Coin)) → Option ((Int × (List Tapi_Coin)) ⊕ (Tapi_Plan))
 | (p12, p13) => (if p12 < (y2.length : Int) then (inA (p13.length) (p12)).bind fun j17 => ((p13)[j17]?).bind fun x18 => (Xi x18.2.1.2).bind fun y19 => some (.inl (IntKind.i64.wrap (p12 + 1), (p13).set j17 (x18.1, (x18.2.1.1, y19), x18.2.2.1, x18.2.2.2))) else (Zes y1 p13 a0).map Sum.inr)
noncomputable def YL (a0 : Tapi_Plan) : Option (Tapi_Plan) :=
 (Xj a0.1).bind fun y1 => (Z4 a0.2.1).bind fun y2 => Zs (XN y2 y1 a0) (0, y2)
noncomputable def X5 (p40 : (List Tapi_Signed)) (p38 : (List Tapi_Signed)) (p39 : (List Tapi_Signed)) (a0 : Tapi_PartialTx) : Option (Tapi_PartialTx × Int) :=
 (chk (p40.length + p38.length ≤ 1353245080339)).bind fun _ => (chk (p40.length + p38.length + p39.length ≤ 1353245080339)).bind fun _ => (YL a0.1).bind fun y53 => some (((((y53.1.1, y53.1.2.1, y53.1.2.2.1, y53.1.2.2.2), y53.2.1, y53.2.2.1, y53.2.2.2), p40 ++ p38 ++ p39), 0))
noncomputable def YS (a0 : Tapi_PartialTx) : ((List Tapi_Signed) × (List Tapi_Signed) × (List Tapi_Signed)) → Option (((List Tapi_Signed) × (List Tapi_Signed) × (List Tapi_Signed)) ⊕ (Tapi_PartialTx × Int))
 | (p38, p39, p40) => (if (0 < (p38.length : Int) ∧ 0 < (p39.length : Int)) then ((p38)[0]?).bind fun x54 => ((p39)[0]?).bind fun x55 => (YW x54 x55).bind fun y56 => (if y56 < 0 then (chk (p40.length + 1 ≤ 1353245080339)).bind fun _ => (chk (1 ≤ (p38.length : Int))).bind fun _ => some (.inl ((p38).drop 1, p39, p40 ++ [x54])) else (if 0 < y56 then (chk (p40.length + 1 ≤ 1353245080339)).bind fun _ => (chk (1 ≤ (p39.length : Int))).bind fun _ => some (.inl (p38, (p39).drop 1, p40 ++ [x55])) else (if ¬ ((x54.2.2.1 = x55.2.2.1 ∧ x54.2.2.2 = x55.2.2.2)) then some (.inr (((((0, ([] : (List Tapi_Input)), ([] : (List Tapi_Output)), 0), ([] : (List Tapi_Coin)), 0, 0), ([] : (List Tapi_Signed))), 350))) else (chk (p40.length + 1 ≤ 1353245080339)).bind fun _ => (chk (1 ≤ (p38.length : Int))).bind fun _ => (chk (1 ≤ (p39.length : Int))).bind fun _ => some (.inl ((p38).drop 1, (p39).drop 1, p40 ++ [x54]))))) else (X5 p40 p38 p39 a0).map Sum.inr)
noncomputable def Yc (a0 : Tapi_PartialTx) (a1 : Tapi_PartialTx) : Option (Tapi_PartialTx × Int) :=
 (YZ a0).bind fun y1 => ((if ¬ (y1 = true) then some (false) else (YZ a1).bind fun y2 => some (!(y2)))).bind fun z3 => (if (¬ (y1 = true) ∨ z3 = true) then some (((((0, ([] : (List Tapi_Input)), ([] : (List Tapi_Output)), 0), ([] : (List Tapi_Coin)), 0, 0), ([] : (List Tapi_Signed))), 6)) else (Y3 a0.1 a1.1).bind fun y4 => (if ¬ (y4 = true) then some (((((0, ([] : (List Tapi_Input)), ([] : (List Tapi_Output)), 0), ([] : (List Tapi_Coin)), 0, 0), ([] : (List Tapi_Signed))), 350)) else Zs (YS a0) (a0.2, a1.2, [])))
noncomputable def Xo (a0 : Tapi_Output) (a1 : Tapi_Output) : Option (Bool) :=
 ((if a0.1 = a1.1 then (ZaV a0.2 a1.2).bind fun y1 => some (y1) else some (false))).bind fun z2 => some ((decide (a0.1 = a1.1) && z2))
noncomputable def Lref09_SameTx_k2 : Option Bool :=
 some (true)
noncomputable def Zcn (a0 : Tapi_Tx) (a1 : Tapi_Tx) : Int → Option ((Int) ⊕ (Bool))
 | p49 => (if p49 < (a0.2.2.1.length : Int) then (idx (a0.2.2.1) (p49)).bind fun x53 => (idx (a1.2.2.1) (p49)).bind fun x54 => (Xo x53 x54).bind fun y55 => (if ¬ (y55 = true) then some (.inr (false)) else some (.inl (IntKind.i64.wrap (p49 + 1)))) else (Lref09_SameTx_k2).map Sum.inr)
noncomputable def Zco (a0 : Tapi_Tx) (a1 : Tapi_Tx) : Option Bool :=
 Zs (Zcn a0 a1) 0
noncomputable def ZgR (p28 : Int) : Option ((Int) ⊕ (Bool)) :=
 some (.inl (IntKind.i64.wrap (p28 + 1)))
noncomputable def Zd3 (x56 : Tapi_Input) (x57 : Tapi_Input) (p28 : Int) : Int → Option ((Int) ⊕ ((Int) ⊕ (Bool)))
 | p65 => (if p65 < (x56.2.2.length : Int) then (idx (x56.2.2) (p65)).bind fun x69 => (idx (x57.2.2) (p65)).bind fun x70 => (ZaV x69 x70).bind fun y71 => (if ¬ (y71 = true) then some (.inr (.inr (false))) else some (.inl (IntKind.i64.wrap (p65 + 1)))) else (ZgR p28).map Sum.inr)
noncomputable def Zcp (a0 : Tapi_Tx) (a1 : Tapi_Tx) : Int → Option ((Int) ⊕ (Bool))
 | p28 => (if p28 < (a0.2.1.length : Int) then (idx (a0.2.1) (p28)).bind fun x56 => (idx (a1.2.1) (p28)).bind fun x57 => (if ((¬ ((x56.1.1 = x57.1.1 ∧ x56.1.2 = x57.1.2)) ∨ ¬ (x56.2.1 = x57.2.1)) ∨ ¬ ((x56.2.2.length : Int) = (x57.2.2.length : Int))) then some (.inr (false)) else Zs (Zd3 x56 x57 p28) 0) else (Zco a0 a1).map Sum.inr)
noncomputable def Zaa (a0 : Tapi_Tx) (a1 : Tapi_Tx) : Option (Bool) :=
 (if (((¬ (a0.1 = a1.1) ∨ ¬ (a0.2.2.2 = a1.2.2.2)) ∨ ¬ ((a0.2.1.length : Int) = (a1.2.1.length : Int))) ∨ ¬ ((a0.2.2.1.length : Int) = (a1.2.2.1.length : Int))) then some (false) else Zs (Zcp a0 a1) 0)
noncomputable def X3 (a0 : Tapi_Coin) (a1 : Tapi_Coin) : Option (Bool) :=
 ((if (a0.1.1 = a1.1.1 ∧ a0.1.2 = a1.1.2) then (Xo a0.2.1 a1.2.1).bind fun y1 => some (y1) else some (false))).bind fun z2 => some (((((decide (a0.1.1 = a1.1.1) && decide (a0.1.2 = a1.1.2)) && z2) && decide (a0.2.2.1 = a1.2.2.1)) && (a0.2.2.2 == a1.2.2.2)))
noncomputable def Lref34_Same_k1 : Option Bool :=
 some (true)
noncomputable def Zdu (a0 : Tapi_Plan) (a1 : Tapi_Plan) : Int → Option ((Int) ⊕ (Bool))
 | p9 => (if p9 < (a0.2.1.length : Int) then (idx (a0.2.1) (p9)).bind fun x13 => (idx (a1.2.1) (p9)).bind fun x14 => (X3 x13 x14).bind fun y15 => (if ¬ (y15 = true) then some (.inr (false)) else some (.inl (IntKind.i64.wrap (p9 + 1)))) else (Lref34_Same_k1).map Sum.inr)
noncomputable def ZaZ (a0 : Tapi_Plan) (a1 : Tapi_Plan) : Option (Bool) :=
 (Zaa a0.1 a1.1).bind fun y1 => (if (((¬ (y1 = true) ∨ ¬ (a0.2.2.1 = a1.2.2.1)) ∨ ¬ (a0.2.2.2 = a1.2.2.2)) ∨ ¬ ((a0.2.1.length : Int) = (a1.2.1.length : Int))) then some (false) else Zs (Zdu a0 a1) 0)
noncomputable def Lref35_Same_k1 : Option Bool :=
 some (true)
noncomputable def Zdv (a0 : Tapi_PartialTx) (a1 : Tapi_PartialTx) : Int → Option ((Int) ⊕ (Bool))
 | p7 => (if p7 < (a0.2.length : Int) then (idx (a0.2) (p7)).bind fun x10 => (idx (a1.2) (p7)).bind fun x11 => (if ¬ ((x10.1 = x11.1 ∧ (x10.2.1 = x11.2.1 ∧ (x10.2.2.1 = x11.2.2.1 ∧ x10.2.2.2 = x11.2.2.2)))) then some (.inr (false)) else some (.inl (IntKind.i64.wrap (p7 + 1)))) else (Lref35_Same_k1).map Sum.inr)
noncomputable def Xl (a0 : Tapi_PartialTx) (a1 : Tapi_PartialTx) : Option (Bool) :=
 (ZaZ a0.1 a1.1).bind fun y1 => (if (¬ (y1 = true) ∨ ¬ ((a0.2.length : Int) = (a1.2.length : Int))) then some (false) else Zs (Zdv a0 a1) 0)
noncomputable def YX (a0 : (List Int)) (a1 : (List Int)) (a2 : (List Int)) : Option (Bool) :=
 (Llaw35_sane).bind fun y1 => (if ¬ (y1 = true) then some (false) else (Zbu a0).bind fun y2 => (ZaY y2).bind fun y3 => (Zbu a1).bind fun y4 => (Xz y4 y3.1.1).bind fun y5 => (Zbu a2).bind fun y6 => (Xz y6 y3.1.1).bind fun y7 => (Yc y3.1 (y3.1.1, y5.1)).bind fun y8 => (Yc (y3.1.1, y5.1) y3.1).bind fun y9 => (Yc y3.1 y3.1).bind fun y10 => ((if ¬ (y8.2 = y9.2) then some (false) else (Xl y8.1 y9.1).bind fun y11 => some (!(y11)))).bind fun z12 => ((if (¬ (y8.2 = y9.2) ∨ z12 = true) then some (false) else (YZ y3.1).bind fun y13 => some (!((decide (y10.2 = 0) == y13))))).bind fun z14 => ((if ((¬ (y8.2 = y9.2) ∨ z12 = true) ∨ z14 = true) then some (false) else ((if y10.2 = 0 then (Xl y10.1 y3.1).bind fun y15 => some (!(y15)) else some (false))).bind fun z16 => some ((decide (y10.2 = 0) && z16)))).bind fun z17 => (if (((¬ (y8.2 = y9.2) ∨ z12 = true) ∨ z14 = true) ∨ z17 = true) then some (false) else (if ¬ (y8.2 = 0) then some (true) else (Yc y8.1 (y3.1.1, y7.1)).bind fun y18 => (Yc (y3.1.1, y5.1) (y3.1.1, y7.1)).bind fun y19 => (Yc y3.1 y19.1).bind fun y20 => (if y18.2 = 0 then ((if (y19.2 = 0 ∧ y20.2 = 0) then (Xl y18.1 y20.1).bind fun y21 => some (y21) else some (false))).bind fun z22 => some (((decide (y19.2 = 0) && decide (y20.2 = 0)) && z22)) else some ((!(decide (y19.2 = 0)) || !(decide (y20.2 = 0))))))))
end Go.Lc
end
section
namespace Go.Lc
open Go.RowKit
open Go.Av
set_option maxRecDepth 100000
set_option linter.unusedSimpArgs false
set_option linter.unusedVariables false
noncomputable def Lref02_Cmp_k1 : Option Int :=
 some (0)
noncomputable def Zml (a0 : (Arr 4)) (a1 : (Arr 4)) : Int → Option ((Int) ⊕ (Int))
 | p3 => (if 0 ≤ p3 then (inA (4) (p3)).bind fun j5 => (if a0.at j5 < a1.at j5 then some (.inr ((-1))) else (if a1.at j5 < a0.at j5 then some (.inr (1)) else some (.inl (IntKind.i64.wrap (p3 - 1))))) else (Lref02_Cmp_k1).map Sum.inr)
noncomputable def Zgt (a0 : (Arr 4)) (a1 : (Arr 4)) : Option (Int) :=
 Zs (Zml a0 a1) 3
noncomputable def Zh7 (a0 : (Arr 4)) (a1 : Int) : Option (Bool) :=
 (inA (4) (IntKind.i64.wrap ((a1).tdiv 64))).bind fun j1 => (chk (¬ ((a1).tmod 64 < 0))).bind fun _ => some (decide (bits .and .u64 ((a0.at j1).fdiv (2 ^ (min ((a1).tmod 64).toNat 64))) 1 = 1))
noncomputable def ZfZ (p12 : (Arr 4)) : Option (Arr 4) :=
 some (p12)
noncomputable def ZdS (p11 : Int) (p20 : (Arr 4)) : Option ((Int × (Arr 4)) ⊕ ((Arr 4))) :=
 some (.inl (IntKind.i64.wrap (p11 + 1), p20))
noncomputable def Zf0 (a1 : Int) (a0 : (Arr 4)) : (Int × (Arr 4)) → Option ((Int × (Arr 4)) ⊕ ((Arr 4)))
 | (p11, p12) => (if IntKind.i64.wrap (p11 + a1) < 256 then (Zh7 a0 (IntKind.i64.wrap (p11 + a1))).bind fun y17 => (if y17 = true then (inA (4) (IntKind.i64.wrap ((p11).tdiv 64))).bind fun j21 => (chk (¬ ((p11).tmod 64 < 0))).bind fun _ => ZdS p11 (p12.put j21 (bits .or .u64 (p12.at j21) (IntKind.u64.wrap (1 * (2 ^ (min ((p11).tmod 64).toNat 64)))))) else ZdS p11 p12) else (ZfZ p12).map Sum.inr)
noncomputable def Zh8 (a0 : (Arr 4)) (a1 : Int) : Option ((Arr 4)) :=
 (if a1 ≤ 0 then some (a0) else (if 256 ≤ a1 then some (zA 4) else Zs (Zf0 a1 a0) (0, zA 4)))
noncomputable def Zd4 (a0 : Int) (a1 : Int) (a2 : Int) : Option (Int × Int) :=
 (chk ((0 ≤ a0 ∧ 0 ≤ a1) ∧ (a1 ≤ 18446744073709551615 ∧ 0 ≤ a2) ∧ a2 ≤ 1)).bind fun _ => some ((a0 + 18446744073709551616 - a1 - a2) % 18446744073709551616, if a0 < a1 + a2 then 1 else 0)
noncomputable def Zf1 (p9 : (Arr 4)) (p7 : Int) : Option ((Arr 4) × Bool) :=
 some ((p9, decide (p7 = 1)))
noncomputable def Zf2 (a0 : (Arr 4)) (a1 : (Arr 4)) : (Int × Int × (Arr 4)) → Option ((Int × Int × (Arr 4)) ⊕ ((Arr 4) × Bool))
 | (p7, p8, p9) => (if p8 < 4 then (inA (4) (p8)).bind fun j12 => (Zd4 (a0.at j12) (a1.at j12) p7).bind fun y13 => some (.inl (y13.2, IntKind.i64.wrap (p8 + 1), p9.put j12 y13.1)) else (Zf1 p9 p7).map Sum.inr)
noncomputable def Zh9 (a0 : (Arr 4)) (a1 : (Arr 4)) : Option ((Arr 4) × Bool) :=
 Zs (Zf2 a0 a1) (0, 0, zA 4)
noncomputable def Lref05_Modulus : Option ((Arr 4)) :=
 (Yw 36113).bind fun y1 => (Zh9 (zA 4) y1).bind fun y2 => some (y2.1)
noncomputable def Lref05_Order : Option ((Arr 4)) :=
 (Lref05_Modulus).bind fun y1 => (Zh8 y1 1).bind fun y2 => some (y2)
noncomputable def Zf3 (a0 : Tapi_Signed) (a1 : Tapi_Signed) : Option (Bool) :=
 ((if a0.1 < a1.1 then some (false) else ((if a0.1 = a1.1 then (Zgt a0.2.1 a1.2.1).bind fun y1 => some (decide (y1 < 0)) else some (false))).bind fun z2 => some ((decide (a0.1 = a1.1) && z2)))).bind fun z3 => some ((decide (a0.1 < a1.1) || z3))
noncomputable def Lref35_Valid_k1 : Option Bool :=
 some (true)
noncomputable def ZcU (a0 : Tapi_PartialTx) : Int → Option ((Int) ⊕ (Bool))
 | p25 => (if p25 < (a0.2.length : Int) then (idx (a0.2) (p25)).bind fun x37 => ((if (x37.1 < 0 ∨ (a0.1.1.2.1.length : Int) ≤ x37.1) then some (false) else (Lref05_Order).bind fun y38 => (Zgt x37.2.2.1 y38).bind fun y39 => some (decide (0 ≤ y39)))).bind fun z40 => ((if ((x37.1 < 0 ∨ (a0.1.1.2.1.length : Int) ≤ x37.1) ∨ z40 = true) then some (false) else (Lref05_Order).bind fun y41 => (Zgt x37.2.2.2 y41).bind fun y42 => some (decide (0 ≤ y42)))).bind fun z43 => ((if (((x37.1 < 0 ∨ (a0.1.1.2.1.length : Int) ≤ x37.1) ∨ z40 = true) ∨ z43 = true) then some (false) else ((if 0 < p25 then (idx (a0.2) (IntKind.i64.wrap (p25 - 1))).bind fun x44 => (Zf3 x44 x37).bind fun y45 => some (!(y45)) else some (false))).bind fun z46 => some ((decide (0 < p25) && z46)))).bind fun z47 => (if ((((x37.1 < 0 ∨ (a0.1.1.2.1.length : Int) ≤ x37.1) ∨ z40 = true) ∨ z43 = true) ∨ z47 = true) then some (.inr (false)) else some (.inl (IntKind.i64.wrap (p25 + 1)))) else (Lref35_Valid_k1).map Sum.inr)
noncomputable def Zjb (a0 : Tapi_PartialTx) : Option (Bool) :=
 (Zb2 a0.1).bind fun y1 => (if ¬ (y1 = true) then some (false) else Zs (ZcU a0) 0)
end Go.Lc
end
section
namespace Go.Av
theorem ZnY {x : Int} (h : (Lit.int .i64 x).wf = true) : -9223372036854775808 ≤ x ∧ x ≤ 9223372036854775807 := by simpa [Lit.wf, IntKind.has, IntKind.min, IntKind.max, IntKind.signed, IntKind.bits] using h
end Go.Av
end
section
namespace Go.Lc
open Go.RowKit
open Go.Av
set_option linter.unusedVariables false
theorem Za9 {σ ρ : Type} {step : σ → Option (σ ⊕ ρ)} {s s' : σ} (h : step s = some (.inl s')) : Zs step s = Zs step s' := by rw [Zgs, h]
theorem Zba {σ ρ : Type} {step : σ → Option (σ ⊕ ρ)} {s : σ} {x : Option ρ} (h : step s = x.map .inr) : Zs step s = x := by
 rw [Zgs, h]
 cases x <;> rfl
theorem ZdK {σ ρ : Type} {step : σ → Option (σ ⊕ ρ)} {s : σ} {r : ρ} (h : step s = some (.inr r)) : Zs step s = some r := by rw [Zgs, h]
theorem Yt {σ ρ : Type} {step : σ → Option (σ ⊕ ρ)} (enc : Nat → σ) (n : Nat) {x : Option ρ} (h : ∀ i, i < n → step (enc i) = some (.inl (enc (i + 1)))) (he : step (enc n) = x.map .inr) : Zs step (enc 0) = x := by
 have key : ∀ k, k ≤ n → Zs step (enc (n - k)) = x := by
  intro k
  induction k with
  | zero => intro _; exact Zba he
  | succ k ih =>
   intro hk
   rw [Za9 (h (n - (k + 1)) (by omega)), show n - (k + 1) + 1 = n - k by omega]
   exact ih (by omega)
 have := key n (Nat.le_refl _)
 rwa [Nat.sub_self] at this
theorem Zkk {σ ρ : Type} {step : σ → Option (σ ⊕ ρ)} (I : Nat → σ → Prop) (Q : ρ → Prop) (h : ∀ i s, I i s → (∃ j s', j < i ∧ step s = some (.inl s') ∧ I j s') ∨ ∃ r, step s = some (.inr r) ∧ Q r) : ∀ (n : Nat) (s : σ), I n s → ∃ r, Zs step s = some r ∧ Q r := by
 intro n
 induction n using Nat.strongRecOn with
 | _ n ih =>
  intro s hs
  rcases h n s hs with ⟨j, s', hj, h1, h2⟩ | ⟨r, h1, h2⟩
  ·obtain ⟨r, h3, h4⟩ := ih j hj s' h2
   exact ⟨r, (Za9 h1).trans h3, h4⟩
  ·exact ⟨r, ZdK h1, h2⟩
def Tot {α : Type} (x : Option α) (Q : α → Prop) : Prop := ∃ a, x = some a ∧ Q a
section
variable {α β : Type} {x : Option α} {f : α → Option β} {P : α → Prop} {Q : β → Prop}
theorem Tot.bind (h : Tot x P) (k : ∀ a, P a → Tot (f a) Q) : Tot (x.bind f) Q := by
 obtain ⟨a, rfl, ha⟩ := h
 exact k a ha
theorem Tot.mono {P' : α → Prop} (h : Tot x P) (k : ∀ a, P a → P' a) : Tot x P' := by
 obtain ⟨a, h1, ha⟩ := h
 exact ⟨a, h1, k a ha⟩
theorem Zbb {a : α} (h : P a) : Tot (some a) P := ⟨a, rfl, h⟩
theorem ZgC {c : Prop} [Decidable c] {a b : Option α} (h1 : c → Tot a P) (h2 : ¬ c → Tot b P) : Tot (if c then a else b) P := by
 by_cases h : c
 ·rw [if_pos h]; exact h1 h
 ·rw [if_neg h]; exact h2 h
theorem Tot.inr {ρ σ : Type} {x : Option ρ} {Q : ρ → Prop} (h : Tot x Q) : ∃ r, (x.map Sum.inr : Option (σ ⊕ ρ)) = some (.inr r) ∧ Q r := by
 obtain ⟨a, rfl, ha⟩ := h
 exact ⟨a, rfl, ha⟩
end
theorem Zb {α β : Type} (a : α) (f : α → Option β) : (some a).bind f = f a := rfl
theorem ZV {p : Prop} [Decidable p] {α : Type} {f : Unit → Option α} (h : p) : (chk p).bind f = f () := by rw [Zrz h]; rfl
theorem ZrB {α : Type} {l : List α} {i : Nat} (h : i < l.length) : idx l (i : Int) = some l[i] := by simp [idx, h]
theorem Zx {α β : Type} {l : List α} {i : Nat} {f : α → Option β} (h : i < l.length) : (idx l (i : Int)).bind f = f l[i] := by rw [ZrB h]; rfl
theorem ZrC {n i : Nat} (h : i < n) : inA n (i : Int) = some i := by simp [inA, h]
theorem Zbc {β : Type} {n i : Nat} {f : Nat → Option β} (h : i < n) : (inA n (i : Int)).bind f = f i := by rw [ZrC h]; rfl
theorem Zia {α β : Type} {l : List α} {i : Nat} {f : α → Option β} (h : i < l.length) : (l[i]?).bind f = f l[i] := by rw [List.getElem?_eq_getElem h]; rfl
theorem wi (n : Int) (h : -9223372036854775808 ≤ n ∧ n ≤ 9223372036854775807) : IntKind.i64.wrap n = n := IntWalk.i64_in n h
theorem Z6 {i n : Nat} (h : i < n) (hn : n ≤ 9223372036854775807) : IntKind.i64.wrap ((i : Int) + 1) = ((i + 1 : Nat) : Int) := by rw [wi _ (by omega)]; omega
theorem wu (n : Int) (h : 0 ≤ n ∧ n ≤ 18446744073709551615) : IntKind.u64.wrap n = n := IntWalk.u64_in n h
theorem ZlY {α : Type} (f : Nat → α) (z : α) {i k : Nat} (h : i < k) : (((List.range i).map f) ++ List.replicate (k - i) z).set i (f i) = ((List.range (i + 1)).map f) ++ List.replicate (k - (i + 1)) z := by
 rw [List.set_append_right _ _ (by simp)]
 simp only [List.length_map, List.length_range, Nat.sub_self]
 rw [show k - i = (k - (i + 1)) + 1 by omega, List.replicate_succ, List.set_cons_zero, List.range_succ, List.map_append]
 simp
theorem Zm5 {α : Type} (f : Nat → α) (z : α) {i k : Nat} (h : i ≤ k) : (((List.range i).map f) ++ List.replicate (k - i) z).length = k := by simp; omega
end Go.Lc
end
section
namespace Go.Lc
open Go.RowKit
open Go.Av
set_option linter.unusedVariables false
set_option linter.unusedSimpArgs false
class Yv (α : Type) where
 force : {β : Type} → α → (α → β) → β
 eq : ∀ {β : Type} (a : α) (k : α → β), force a k = k a
noncomputable def Zlc {β : Type} (n : Nat) (k : Nat → β) : β := Nat.rec (motive := fun _ => β) (k Nat.zero) (fun m _ => k (Nat.succ m)) n
theorem Zjc {β : Type} (n : Nat) (k : Nat → β) : Zlc n k = k n := by cases n <;> rfl
noncomputable instance : Yv Nat := ⟨Zlc, Zjc⟩
noncomputable def ZpA {β : Type} (i : Int) (k : Int → β) : β := Int.rec (motive := fun _ => β) (fun n => Zlc n fun m => k (Int.ofNat m)) (fun n => Zlc n fun m => k (Int.negSucc m)) i
theorem ZpB {β : Type} (i : Int) (k : Int → β) : ZpA i k = k i := by
 cases i with
 | ofNat n => exact Zjc n fun m => k (Int.ofNat m)
 | negSucc n => exact Zjc n fun m => k (Int.negSucc m)
noncomputable instance : Yv Int := ⟨ZpA, ZpB⟩
noncomputable def ZpC {β : Type} (b : Bool) (k : Bool → β) : β := Bool.rec (motive := fun _ => β) (k false) (k true) b
theorem ZpD {β : Type} (b : Bool) (k : Bool → β) : ZpC b k = k b := by cases b <;> rfl
noncomputable instance : Yv Bool := ⟨ZpC, ZpD⟩
noncomputable instance : Yv Unit := ⟨fun _ k => k (), fun _ _ => rfl⟩
noncomputable def ZpE {α γ β : Type} [Yv α] [Yv γ] (p : α × γ) (k : α × γ → β) : β := Prod.rec (motive := fun _ => β) (fun a c => Yv.force a fun a => Yv.force c fun c => k (a, c)) p
theorem ZpF {α γ β : Type} [Yv α] [Yv γ] (p : α × γ) (k : α × γ → β) : ZpE p k = k p := by
 obtain ⟨a, c⟩ := p
 exact (Yv.eq a _).trans (Yv.eq c _)
noncomputable instance {α γ : Type} [Yv α] [Yv γ] : Yv (α × γ) := ⟨ZpE, ZpF⟩
noncomputable def Zm6 {α β : Type} [Yv α] (l : List α) (k : List α → β) : β := List.rec (motive := fun _ => (List α → β) → β) (fun k => k []) (fun a _ ih k => Yv.force a fun a => ih fun l => k (a :: l)) l k
theorem ZlZ {α β : Type} [Yv α] (l : List α) (k : List α → β) : Zm6 l k = k l := by
 induction l generalizing k with
 | nil => rfl
 | cons a l ih =>
  refine (Yv.eq (β := β) a _).trans ?_
  exact ih fun l => k (a :: l)
noncomputable instance {α : Type} [Yv α] : Yv (List α) := ⟨Zm6, ZlZ⟩
noncomputable def Zm7 {n : Nat} {β : Type} (a : Arr n) (k : Arr n → β) : β := Zm6 a.l fun l => if h : Nat.beq l.length n = true then k ⟨l, Nat.eq_of_beq_eq_true h⟩ else k a
theorem ZpG {n : Nat} {β : Type} (a : Arr n) (k : Arr n → β) : Zm7 a k = k a := by
 unfold Zm7
 rw [ZlZ]
 split <;> rfl
noncomputable instance {n : Nat} : Yv (Arr n) := ⟨Zm7, ZpG⟩
noncomputable def _root_.Option.bindF {α β : Type} [Yv α] (o : Option α) (f : α → Option β) : Option β := Option.rec (motive := fun _ => Option β) none (fun x => Yv.force x f) o
theorem Zm8 {α β : Type} [Yv α] (o : Option α) (f : α → Option β) : o.bindF f = o.bind f := by
 cases o with
 | none => rfl
 | some x => exact Yv.eq x f
noncomputable def XH {σ ρ : Type} [Yv σ] (step : σ → Option (σ ⊕ ρ)) (s : σ) : Option ρ :=
 Nat.rec (motive := fun _ => σ → Option ρ) (fun _ => none) (fun _ ih s => Option.rec (motive := fun _ => Option ρ) none (fun x => Sum.rec (motive := fun _ => Option ρ) (fun s' => Yv.force s' ih) (fun r => some r) x) (step s)) 1000000 s
noncomputable instance {α γ : Type} [Yv α] [Yv γ] : Yv (α ⊕ γ) := ⟨fun x k => Sum.rec (motive := fun _ => _) (fun a => Yv.force a fun a => k (.inl a)) (fun c => Yv.force c fun c => k (.inr c)) x, fun x k => by cases x <;> exact Yv.eq _ _⟩
noncomputable instance {α : Type} [Yv α] : Yv (Option α) := ⟨fun x k => Option.rec (motive := fun _ => _) (k none) (fun a => Yv.force a fun a => k (some a)) x, fun x k => by cases x <;> first | rfl | exact Yv.eq _ _⟩
def Le {α : Type} (o o' : Option α) : Prop := ∀ x, o = some x → o' = some x
theorem Le.refl {α : Type} (o : Option α) : Le o o := fun _ h => h
theorem Zn {α β : Type} [Yv α] {o o' : Option α} {f f' : α → Option β} (h : Le o o') (hf : ∀ x, Le (f x) (f' x)) : Le (o.bindF f) (o'.bind f') := by
 intro y hy
 rw [Zm8] at hy
 obtain ⟨x, hx, hy⟩ := Option.bind_eq_some_iff.1 hy
 rw [h _ hx]
 exact hf x _ hy
theorem Zu {α β : Type} {o o' : Option α} {f : α → β} (h : Le o o') : Le (o.map f) (o'.map f) := by
 intro y hy
 obtain ⟨x, hx, rfl⟩ := Option.map_eq_some_iff.1 hy
 rw [h _ hx]
 rfl
theorem Zv {α : Type} {p : Prop} [Decidable p] {a a' b b' : Option α} (h : Le a a') (h' : Le b b') : Le (if p then a else b) (if p then a' else b') := by
 split
 ·exact h
 ·exact h'
theorem Zw {σ ρ : Type} [Yv σ] {step step' : σ → Option (σ ⊕ ρ)} {s : σ} (h : ∀ s, Le (step s) (step' s)) : Le (XH step s) (Zs step' s) := by
 have key : ∀ (n : Nat) (s : σ) (r : ρ), (Nat.rec (motive := fun _ => σ → Option ρ) (fun _ => none) (fun _ ih s => Option.rec (motive := fun _ => Option ρ) none (fun x => Sum.rec (motive := fun _ => Option ρ) (fun s' => Yv.force s' ih) (fun r => some r) x) (step s)) n s : Option ρ) = some r → Zs step' s = some r := by
  intro n
  induction n with
  | zero => intro s r h; cases h
  | succ n ih =>
   intro s r hr
   simp only at hr
   rcases hs : step s with _ | (s' | r')
   ·rw [hs] at hr; cases hr
   ·rw [hs] at hr
    have hr := (Yv.eq s' _).symm.trans hr
    rw [Za9 (h s _ hs)]
    exact ih s' r hr
   ·rw [hs] at hr
    obtain rfl := Option.some.inj hr
    exact ZdK (h s _ hs)
 intro r hr
 exact key 1000000 s r hr
end Go.Lc
end
