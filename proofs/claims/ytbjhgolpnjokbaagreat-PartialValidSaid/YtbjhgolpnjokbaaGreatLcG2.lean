import Derived.Test.YtbjhgolpnjokbaaGreatLcG1
import Derived.Test.YtbjhgolpnjokbaaGreatAvP3
import Derived.IntWalk
section
namespace Go.Lc
open Go.RowKit
open Go.Av
set_option maxRecDepth 100000
set_option linter.unusedSimpArgs false
set_option linter.unusedVariables false
noncomputable def Zde (p8 : (List Int)) : Option (List Int) :=
 some (p8)
noncomputable def Zdf (a0 : (List (List Int))) : (Int × (List Int)) → Option ((Int × (List Int)) ⊕ ((List Int)))
 | (p7, p8) => (if p7 < (a0.length : Int) then (idx (a0) (p7)).bind fun x11 => (Z2 p8 x11).bind fun y12 => some (.inl (IntKind.i64.wrap (p7 + 1), y12)) else (Zde p8).map Sum.inr)
noncomputable def Xn (a0 : (List (List Int))) : Option ((List Int)) :=
 Zt (Zdf a0) (0, ([] : (List Int)))
noncomputable def ZaN (a0 : (List Int)) (a1 : (List Int)) : Option (Bool) :=
 some (decide (Zln a0 = Zln a1))
end Go.Lc
end
section
namespace Go.Lc
open Go.RowKit
open Go.Av
set_option maxRecDepth 100000
set_option linter.unusedSimpArgs false
set_option linter.unusedVariables false
end Go.Lc
end
section
namespace Go.Lc
open Go.RowKit
open Go.Av
set_option maxRecDepth 100000
set_option linter.unusedSimpArgs false
set_option linter.unusedVariables false
abbrev Tapi_Op := Int × (List Int) × Int × Int
abbrev Tapi_Signature := (Arr 4) × (Arr 4)
abbrev Tapi_Signed := Int × (Arr 4) × Tapi_Signature
abbrev Tapi_PartialTx := Tapi_Plan × (List Tapi_Signed)
noncomputable def ZcF (p9 : (Arr 32)) : Option (Arr 32) :=
 some (p9)
noncomputable def ZcG (a0 : (Arr 4)) : (Int × (Arr 32)) → Option ((Int × (Arr 32)) ⊕ ((Arr 32)))
 | (p8, p9) => (if p8 < 32 then (inA (4) (IntKind.i64.wrap ((IntKind.i64.wrap (31 - p8)).tdiv 8))).bind fun j13 => (chk (¬ (IntKind.i64.wrap (8 * ((IntKind.i64.wrap (31 - p8)).tmod 8)) < 0))).bind fun _ => (inA (32) (p8)).bind fun j15 => some (.inl (IntKind.i64.wrap (p8 + 1), p9.put j15 (IntKind.u8.wrap ((a0.at j13).fdiv (2 ^ (min (IntKind.i64.wrap (8 * ((IntKind.i64.wrap (31 - p8)).tmod 8))).toNat 64)))))) else (ZcF p9).map Sum.inr)
noncomputable def Zae (a0 : (Arr 4)) : Option ((Arr 32)) :=
 Zt (ZcG a0) (0, zA 32)
noncomputable def ZaK (a0 : (Arr 4)) : Option ((List Int)) :=
 (Zae a0).bind fun y1 => some (y1.l)
noncomputable def YE (a0 : Tapi_Op) (p1 : Bool) : Option Int :=
 (if p1 = true then some (6) else (if 255 < (a0.2.1.length : Int) then some (4) else (if (a0.1 = 11 ∧ (((a0.2.2.2 < 1 ∨ 15 < a0.2.2.2) ∨ a0.2.2.1 < 1) ∨ a0.2.2.2 < a0.2.2.1)) then some (5) else some (0))))
noncomputable def Zaf (a0 : Tapi_Op) : Option (Int) :=
 (if (a0.1 < 1 ∨ 17 < a0.1) then some (80) else (if (0 < (a0.2.1.length : Int) ∧ ¬ (a0.1 = 1)) then YE a0 (decide (0 < (a0.2.1.length : Int)) && !(decide (a0.1 = 1))) else YE a0 ((!(decide (a0.2.2.1 = 0)) || !(decide (a0.2.2.2 = 0))) && !(decide (a0.1 = 11)))))
noncomputable def Xq (a0 : Tapi_Op) : Option ((List Int)) :=
 (if a0.1 = 1 then (Xn [[1, IntKind.u8.wrap ((a0.2.1.length : Int))], a0.2.1]).bind fun y1 => some (y1) else (if a0.1 = 11 then some ([11, IntKind.u8.wrap (a0.2.2.1), IntKind.u8.wrap (a0.2.2.2)]) else some ([IntKind.u8.wrap (a0.1)])))
noncomputable def Zbu (p18 : (List Int)) : Option ((List Int) × Int) :=
 some ((p18, 0))
noncomputable def Zbv (a0 : (List Tapi_Op)) : (Int × (List Int)) → Option ((Int × (List Int)) ⊕ ((List Int) × Int))
 | (p17, p18) => (if p17 < (a0.length : Int) then (idx (a0) (p17)).bind fun x22 => (Xq x22).bind fun y23 => (chk (p18.length + y23.length ≤ 140737488355328)).bind fun _ => (if 520 < (p18.length + y23.length : Int) then some (.inr ((([] : (List Int)), 4))) else some (.inl (IntKind.i64.wrap (p17 + 1), p18 ++ y23))) else (Zbu p18).map Sum.inr)
noncomputable def Zbw (a0 : (List Tapi_Op)) : Option ((List Int) × Int) :=
 Zt (Zbv a0) (0, [])
noncomputable def Zbx (a0 : (List Tapi_Op)) : Int → Option ((Int) ⊕ ((List Int) × Int))
 | p6 => (if p6 < (a0.length : Int) then (idx (a0) (p6)).bind fun x25 => (Zaf x25).bind fun y26 => (if ¬ (y26 = 0) then some (.inr ((([] : (List Int)), y26))) else some (.inl (IntKind.i64.wrap (p6 + 1)))) else (Zbw a0).map Sum.inr)
noncomputable def Xj (a0 : (List Tapi_Op)) : Option ((List Int) × Int) :=
 Zt (Zbx a0) 0
noncomputable def ZcH (p9 : (List Tapi_Op)) (a0 : Int) (a1 : (List (Arr 4))) : Option ((List Int) × Int) :=
 (chk (p9.length + 1 ≤ 2932031007402)).bind fun _ => (Xj (p9 ++ [(11, ([] : (List Int)), a0, (a1.length : Int))])).bind fun y14 => some ((y14.1, y14.2))
noncomputable def ZcI (a1 : (List (Arr 4))) (a0 : Int) : (Int × (List Tapi_Op)) → Option ((Int × (List Tapi_Op)) ⊕ ((List Int) × Int))
 | (p8, p9) => (if p8 < (a1.length : Int) then (idx (a1) (p8)).bind fun x15 => (ZaK x15).bind fun y16 => (chk (p9.length + 1 ≤ 2932031007402)).bind fun _ => some (.inl (IntKind.i64.wrap (p8 + 1), p9 ++ [(1, y16, 0, 0)])) else (ZcH p9 a0 a1).map Sum.inr)
noncomputable def Xo (a0 : Int) (a1 : (List (Arr 4))) : Option ((List Int) × Int) :=
 Zt (ZcI a1 a0) (0, [])
noncomputable def Yp (a0 : Int) : Option ((Arr 4)) :=
 some ((zA 4).put 0 a0)
noncomputable def Yy (a0 : Int) : Option ((Arr 4)) :=
 (Yp a0).bind fun y1 => some (y1)
noncomputable def XT (a0 : Int) : Option (Bool) :=
 some ((decide (1 ≤ a0) && decide (a0 ≤ 17)))
noncomputable def Zdg (p8 : (List Int)) : Option (List Int) :=
 some (p8)
noncomputable def Zdh (a0 : (List (List Int))) : (Int × (List Int)) → Option ((Int × (List Int)) ⊕ ((List Int)))
 | (p7, p8) => (if p7 < (a0.length : Int) then (idx (a0) (p7)).bind fun x11 => (chk (p8.length + x11.length ≤ 140737488355328)).bind fun _ => some (.inl (IntKind.i64.wrap (p7 + 1), p8 ++ x11)) else (Zdg p8).map Sum.inr)
noncomputable def ZaO (a0 : (List (List Int))) : Option ((List Int)) :=
 Zt (Zdh a0) (0, [])
noncomputable def Xk (a0 : Int) (a1 : Int) : Option (Bool) :=
 some ((((decide (1 ≤ a1) && decide (a1 ≤ 15)) && decide (1 ≤ a0)) && decide (a0 ≤ a1)))
noncomputable def Xl (x1 : Int) (p14 : (List Int)) (p15 : Int) (p16 : Int) (p17 : (List Int)) : Option (Tapi_Op × (List Int) × Int) :=
 some (((IntKind.i64.wrap (x1), p17, p15, p16), p14, 0))
noncomputable def Zag (a0 : (List Int)) : Option (Tapi_Op × (List Int) × Int) :=
 ((a0)[0]?).bind fun x1 => (XT (IntKind.i64.wrap (x1))).bind fun y2 => (if ¬ (y2 = true) then some (((0, ([] : (List Int)), 0, 0), ([] : (List Int)), 80)) else (chk (1 ≤ (a0.length : Int))).bind fun _ => (if IntKind.i64.wrap (x1) = 1 then ((if (((a0).drop 1).length : Int) = 0 then some (false) else (((a0).drop 1)[0]?).bind fun x18 => some (decide (IntKind.i64.wrap ((((a0).drop 1).length : Int) - 1) < IntKind.i64.wrap (x18))))).bind fun z19 => (if ((((a0).drop 1).length : Int) = 0 ∨ z19 = true) then some (((0, ([] : (List Int)), 0, 0), ([] : (List Int)), 1)) else (((a0).drop 1)[0]?).bind fun x20 => (chk (1 ≤ IntKind.i64.wrap (1 + (IntKind.i64.wrap (x20))) ∧ IntKind.i64.wrap (1 + (IntKind.i64.wrap (x20))) ≤ (((a0).drop 1).length : Int))).bind fun _ => (ZaO [(((a0).drop 1).take ((IntKind.i64.wrap (1 + (IntKind.i64.wrap (x20)))).toNat)).drop 1]).bind fun y22 => (chk (0 ≤ IntKind.i64.wrap (1 + (IntKind.i64.wrap (x20))) ∧ IntKind.i64.wrap (1 + (IntKind.i64.wrap (x20))) ≤ (((a0).drop 1).length : Int))).bind fun _ => Xl x1 (((a0).drop 1).drop ((IntKind.i64.wrap (1 + (IntKind.i64.wrap (x20)))).toNat)) 0 0 y22) else (if IntKind.i64.wrap (x1) = 11 then (if (((a0).drop 1).length : Int) < 2 then some (((0, ([] : (List Int)), 0, 0), ([] : (List Int)), 1)) else (((a0).drop 1)[0]?).bind fun x24 => (((a0).drop 1)[1]?).bind fun x25 => (chk (2 ≤ (((a0).drop 1).length : Int))).bind fun _ => (Xk (IntKind.i64.wrap (x24)) (IntKind.i64.wrap (x25))).bind fun y27 => (if ¬ (y27 = true) then some (((0, ([] : (List Int)), 0, 0), ([] : (List Int)), 5)) else Xl x1 (((a0).drop 1).drop 2) (IntKind.i64.wrap (x24)) (IntKind.i64.wrap (x25)) [])) else Xl x1 ((a0).drop 1) 0 0 [])))
noncomputable def Zcb (p7 : (List Tapi_Op)) : Option ((List Tapi_Op) × Int) :=
 some ((p7, 0))
noncomputable def Lscript_Parse_s1 : ((List Int) × (List Tapi_Op)) → Option (((List Int) × (List Tapi_Op)) ⊕ ((List Tapi_Op) × Int))
 | (p6, p7) => (if 0 < (p6.length : Int) then (Zag p6).bind fun y10 => (if ¬ (y10.2.2 = 0) then some (.inr ((([] : (List Tapi_Op)), y10.2.2))) else (chk (p7.length + 1 ≤ 2932031007402)).bind fun _ => some (.inl (y10.2.1, p7 ++ [y10.1]))) else (Zcb p7).map Sum.inr)
noncomputable def Xr (a0 : (List Int)) : Option ((List Tapi_Op) × Int) :=
 (if 520 < (a0.length : Int) then some ((([] : (List Tapi_Op)), 4)) else Zt (Lscript_Parse_s1) (a0, []))
noncomputable def ZaC (p10 : Int) : Option (Int × Int) :=
 some ((p10, 0))
noncomputable def ZaD (a0 : (List Int)) : (Int × Int) → Option ((Int × Int) ⊕ (Int × Int))
 | (p10, p11) => (if p11 < (a0.length : Int) then (idx (a0) (p11)).bind fun x14 => (chk (¬ (IntKind.i64.wrap (8 * p11) < 0))).bind fun _ => some (.inl (bits .or .u32 p10 (IntKind.u32.wrap ((IntKind.u32.wrap (x14)) * (2 ^ (min (IntKind.i64.wrap (8 * p11)).toNat 32)))), IntKind.i64.wrap (p11 + 1))) else (ZaC p10).map Sum.inr)
noncomputable def Xy (a0 : (List Int)) : Option (Int × Int) :=
 ((if 4 < (a0.length : Int) then some (false) else ((if 0 < (a0.length : Int) then (idx (a0) (IntKind.i64.wrap ((a0.length : Int) - 1))).bind fun x1 => some (decide (x1 = 0)) else some (false))).bind fun z2 => some ((decide (0 < (a0.length : Int)) && z2)))).bind fun z3 => (if (4 < (a0.length : Int) ∨ z3 = true) then some ((0, 82)) else Zt (ZaD a0) (0, 0))
noncomputable def YF (a0 : (List Int)) : Option (Int) :=
 ((if (a0.length : Int) < 2 then some (false) else ((a0)[0]?).bind fun x1 => some (!(decide (x1 = 1))))).bind fun z2 => (if ((a0.length : Int) < 2 ∨ z2 = true) then some (0) else ((a0)[1]?).bind fun x3 => (if (a0.length : Int) < IntKind.i64.wrap ((IntKind.i64.wrap (2 + (IntKind.i64.wrap (x3)))) + 2) then some (0) else (chk (2 ≤ IntKind.i64.wrap (2 + (IntKind.i64.wrap (x3))) ∧ IntKind.i64.wrap (2 + (IntKind.i64.wrap (x3))) ≤ (a0.length : Int))).bind fun _ => (Xy (((a0).take ((IntKind.i64.wrap (2 + (IntKind.i64.wrap (x3)))).toNat)).drop 2)).bind fun y5 => (if ¬ (y5.2 = 0) then some (0) else (idx (a0) (IntKind.i64.wrap (2 + (IntKind.i64.wrap (x3))))).bind fun x6 => ((if (¬ (x6 = 12) ∧ ¬ (x6 = 13)) then some (false) else (idx (a0) (IntKind.i64.wrap ((IntKind.i64.wrap (2 + (IntKind.i64.wrap (x3)))) + 1))).bind fun x7 => some (!(decide (x7 = 3))))).bind fun z8 => (if ((¬ (x6 = 12) ∧ ¬ (x6 = 13)) ∨ z8 = true) then some (0) else some (IntKind.i64.wrap ((IntKind.i64.wrap (2 + (IntKind.i64.wrap (x3)))) + 2))))))
noncomputable def Zby (p7 : (Arr 4)) : Option (Arr 4) :=
 some (p7)
noncomputable def Y8 (a0 : (Arr 32)) : (Int × (Arr 4)) → Option ((Int × (Arr 4)) ⊕ ((Arr 4)))
 | (p6, p7) => (if p6 < 32 then (inA (32) (p6)).bind fun j10 => (inA (4) (IntKind.i64.wrap (3 - (IntKind.i64.wrap ((p6).tdiv 8))))).bind fun j11 => some (.inl (IntKind.i64.wrap (p6 + 1), p7.put j11 (bits .or .u64 (IntKind.u64.wrap ((p7.at j11) * 256)) (IntKind.u64.wrap (a0.at j10))))) else (Zby p7).map Sum.inr)
noncomputable def Yq (a0 : (Arr 32)) : Option ((Arr 4)) :=
 Zt (Y8 a0) (0, zA 4)
noncomputable def Zcc (y13 : ((List Tapi_Op) × Int)) (p25 : (List (Arr 4))) : Option ((List (Arr 4)) × Int × Bool) :=
 (idx (y13.1) (IntKind.i64.wrap ((y13.1.length : Int) - 1))).bind fun x30 => (if (x30.1 = 10 ∧ (p25.length : Int) = 1) then some ((p25, 1, true)) else (if (x30.1 = 11 ∧ x30.2.2.2 = (p25.length : Int)) then some ((p25, x30.2.2.1, true)) else some ((([] : (List (Arr 4))), 0, false))))
noncomputable def Zcd (y13 : ((List Tapi_Op) × Int)) : (Int × (List (Arr 4))) → Option ((Int × (List (Arr 4))) ⊕ ((List (Arr 4)) × Int × Bool))
 | (p24, p25) => (if p24 < (((y13.1).take ((IntKind.i64.wrap ((y13.1.length : Int) - 1)).toNat)).length : Int) then (idx ((y13.1).take ((IntKind.i64.wrap ((y13.1.length : Int) - 1)).toNat)) (p24)).bind fun x31 => (if (¬ (x31.1 = 1) ∨ ¬ ((x31.2.1.length : Int) = 32)) then some (.inr ((([] : (List (Arr 4))), 0, false))) else (chk (32 ≤ x31.2.1.length)).bind fun _ => (Yq (Zgu 32 x31.2.1)).bind fun y33 => (chk (p25.length + 1 ≤ 4398046511104)).bind fun _ => some (.inl (IntKind.i64.wrap (p24 + 1), p25 ++ [y33]))) else (Zcc y13 p25).map Sum.inr)
noncomputable def Zce (p9 : (List Int)) : Option ((List (Arr 4)) × Int × Bool) :=
 (Xr p9).bind fun y13 => (if (¬ (y13.2 = 0) ∨ (y13.1.length : Int) < 2) then some ((([] : (List (Arr 4))), 0, false)) else (chk (IntKind.i64.wrap ((y13.1.length : Int) - 1) ≤ (y13.1.length : Int) ∧ 0 ≤ IntKind.i64.wrap ((y13.1.length : Int) - 1))).bind fun _ => Zt (Zcd y13) (0, []))
noncomputable def Lpartial_Keys_s1 : ((List Int) × Int) → Option (((List Int) × Int) ⊕ ((List (Arr 4)) × Int × Bool))
 | (p9, p10) => (if 0 < p10 then (chk (0 ≤ p10 ∧ p10 ≤ (p9.length : Int))).bind fun _ => (YF ((p9).drop ((p10).toNat))).bind fun y36 => some (.inl ((p9).drop ((p10).toNat), y36)) else (Zce p9).map Sum.inr)
noncomputable def Xs (a0 : (List Int)) : Option ((List (Arr 4)) × Int × Bool) :=
 (Xr a0).bind fun y1 => (if ¬ (y1.2 = 0) then some ((([] : (List (Arr 4))), 0, false)) else (YF a0).bind fun y2 => Zt (Lpartial_Keys_s1) (a0, y2))
noncomputable def XU (a0 : (List Int)) (a1 : (List Int)) : Option ((List Int)) :=
 (Xn [[14], a0, [15], a1, [16]]).bind fun y1 => some (y1)
noncomputable def Llaw35_sane : Option (Bool) :=
 (Yy 4).bind fun y1 => (Yy 16).bind fun y2 => (Yy 64).bind fun y3 => (Xo 2 [y1, y2, y3]).bind fun y4 => (Xs y4.1).bind fun y5 => (XU y4.1 y4.1).bind fun y6 => (Xs y6).bind fun y7 => ((if ((y5.2.2 = true ∧ y5.2.1 = 2) ∧ (y5.1.length : Int) = 3) then ((y5.1)[2]?).bind fun x8 => (Yy 64).bind fun y9 => some (decide (x8 = y9)) else some (false))).bind fun z10 => some (((((y5.2.2 && decide (y5.2.1 = 2)) && decide ((y5.1.length : Int) = 3)) && z10) && !(y7.2.2)))
noncomputable def Zel (p71 : (List Tapi_Signed)) (p70 : Tlightclientmill_Deck) : Option ((List Tapi_Signed) × Tlightclientmill_Deck) :=
 some ((p71, p70))
noncomputable def Zem (p69 : Int) (p127 : Tlightclientmill_Deck) (p128 : (List Tapi_Signed)) : Option ((Int × Tlightclientmill_Deck × (List Tapi_Signed)) ⊕ ((List Tapi_Signed) × Tlightclientmill_Deck)) :=
 some (.inl (IntKind.i64.wrap (p69 + 1), p127, p128))
noncomputable def XK (p126 : Int) (p145 : Tlightclientmill_Deck) (p146 : (List Tapi_Signed)) : Option ((Int × Tlightclientmill_Deck × (List Tapi_Signed)) ⊕ ((Int × Tlightclientmill_Deck × (List Tapi_Signed)) ⊕ ((List Tapi_Signed) × Tlightclientmill_Deck))) :=
 some (.inl (IntKind.u64.wrap (p126 * 4), p145, p146))
noncomputable def Zen (p69 : Int) : (Int × Tlightclientmill_Deck × (List Tapi_Signed)) → Option ((Int × Tlightclientmill_Deck × (List Tapi_Signed)) ⊕ ((Int × Tlightclientmill_Deck × (List Tapi_Signed)) ⊕ ((List Tapi_Signed) × Tlightclientmill_Deck)))
 | (p126, p127, p128) => (if p126 < 70 then (Z8 p127 2).bind fun y138 => (if y138.1 = 0 then (Yp p126).bind fun y147 => (Z8 y138.2 3).bind fun y148 => (Yp (IntKind.u64.wrap (y148.1))).bind fun y149 => (Z8 y148.2 3).bind fun y150 => (Yp (IntKind.u64.wrap (y150.1))).bind fun y151 => (chk (p128.length + 1 ≤ 1353245080339)).bind fun _ => XK p126 y150.2 (p128 ++ [(p69, y147, (y149, y151))]) else XK p126 y138.2 p128) else (Zem p69 p127 p128).map Sum.inr)
noncomputable def Zeo (a1 : Tapi_Plan) : (Int × Tlightclientmill_Deck × (List Tapi_Signed)) → Option ((Int × Tlightclientmill_Deck × (List Tapi_Signed)) ⊕ ((List Tapi_Signed) × Tlightclientmill_Deck))
 | (p69, p70, p71) => (if p69 < (a1.1.2.1.length : Int) then Zt (Zen p69) (4, p70, p71) else (Zel p71 p70).map Sum.inr)
noncomputable def Zah (a0 : Tlightclientmill_Deck) (a1 : Tapi_Plan) : Option ((List Tapi_Signed) × Tlightclientmill_Deck) :=
 Zt (Zeo a1) (0, a0, [])
noncomputable def X7 (a0 : (List Int)) : Option ((List Int)) :=
 (Xq (1, a0, 0, 0)).bind fun y1 => some (y1)
noncomputable def Xt (a0 : (Arr 4)) : Option ((List Int)) :=
 (ZaK a0).bind fun y1 => (X7 y1).bind fun y2 => (Xn [y2, [10]]).bind fun y3 => some (y3)
noncomputable def Zdi (p5 : (List Int)) : Option (List Int) :=
 some (p5)
noncomputable def Lref08_Item_s1 : (Int × (List Int)) → Option ((Int × (List Int)) ⊕ ((List Int)))
 | (p4, p5) => (if 0 < p4 then (chk (p5.length + 1 ≤ 140737488355328)).bind fun _ => some (.inl (IntKind.u32.wrap ((p4).tdiv 256), p5 ++ [IntKind.u8.wrap (p4)])) else (Zdi p5).map Sum.inr)
noncomputable def ZaP (a0 : Int) : Option ((List Int)) :=
 Zt (Lref08_Item_s1) (a0, [])
noncomputable def XL (a0 : Int) (a1 : (List Int)) : Option ((List Int)) :=
 (ZaP a0).bind fun y1 => (X7 y1).bind fun y2 => (Xn [y2, [12, 3], a1]).bind fun y3 => some (y3)
noncomputable def ZaQ (a0 : Tlightclientmill_Deck) : Option (Tapi_PartialTx × Tlightclientmill_Deck) :=
 (Yy 4).bind fun y1 => (Yy 16).bind fun y2 => (Yy 4).bind fun y3 => (Xo 2 [y1, y2, y3]).bind fun y4 => (Yy 16).bind fun y5 => (Xt y5).bind fun y6 => (XL 1 y4.1).bind fun y7 => (XF 2).bind fun y8 => (Z8 a0 3).bind fun y9 => (chk (IntKind.i64.wrap (1 + y9.1) ≤ ([y6, y7, y8].length : Int) ∧ 0 ≤ IntKind.i64.wrap (1 + y9.1))).bind fun _ => (Zbo y9.2 (([y6, y7, y8]).take (IntKind.i64.wrap (1 + y9.1)).toNat)).bind fun y11 => (Zah y11.2 ((y11.1.1.1, y11.1.1.2.1, y11.1.1.2.2.1, y11.1.1.2.2.2), y11.1.2.1, y11.1.2.2.1, y11.1.2.2.2)).bind fun y12 => some (((((y11.1.1.1, y11.1.1.2.1, y11.1.1.2.2.1, y11.1.1.2.2.2), y11.1.2.1, y11.1.2.2.1, y11.1.2.2.2), y12.1), y12.2))
noncomputable def Lcmp_Or_of_int_k1 : Option Int :=
 some (0)
noncomputable def Xh (a0 : (List Int)) : Int → Option ((Int) ⊕ (Int))
 | p4 => (if p4 < (a0.length : Int) then (idx (a0) (p4)).bind fun x6 => (if ¬ (x6 = 0) then some (.inr (x6)) else some (.inl (IntKind.i64.wrap (p4 + 1)))) else (Lcmp_Or_of_int_k1).map Sum.inr)
noncomputable def Xz (a0 : (List Int)) : Option (Int) :=
 Zt (Xh a0) 0
noncomputable def YS (a0 : Int) : Option (Bool) :=
 some (!(decide (a0 = a0)))
noncomputable def YH (a0 : Int) (a1 : Int) : Option (Int) :=
 (YS a0).bind fun y1 => (YS a1).bind fun y2 => (if y1 = true then (if y2 = true then some (0) else some ((-1))) else (if y2 = true then some (1) else (if a0 < a1 then some ((-1)) else (if a1 < a0 then some (1) else some (0)))))
noncomputable def Lwide_Cmp_k1 : Option Int :=
 some (0)
noncomputable def Za2 (a0 : (Arr 4)) (a1 : (Arr 4)) : Int → Option ((Int) ⊕ (Int))
 | p3 => (if 0 ≤ p3 then (inA (4) (p3)).bind fun j5 => (if a0.at j5 < a1.at j5 then some (.inr ((-1))) else (if a1.at j5 < a0.at j5 then some (.inr (1)) else some (.inl (IntKind.i64.wrap (p3 - 1))))) else (Lwide_Cmp_k1).map Sum.inr)
noncomputable def Zbz (a0 : (Arr 4)) (a1 : (Arr 4)) : Option (Int) :=
 Zt (Za2 a0 a1) 3
noncomputable def Y9 (a0 : Tapi_Signed) (a1 : Tapi_Signed) : Option (Int) :=
 (YH a0.1 a1.1).bind fun y1 => (Zbz a0.2.1 a1.2.1).bind fun y2 => (Xz [y1, y2]).bind fun y3 => some (y3)
noncomputable def Lgroup_Order : Option ((Arr 4)) :=
 some (((((zA 4).put 0 18446744073709533559).put 1 18446744073709551615).put 2 18446744073709551615).put 3 9223372036854775807)
noncomputable def XM (a0 : (Arr 4)) : Option (Bool) :=
 (Lgroup_Order).bind fun y1 => (Zbz a0 y1).bind fun y2 => some (decide (y2 < 0))
noncomputable def Zai (a0 : (List Int)) : Option (Tapi_Signature × Int) :=
 (if ¬ ((a0.length : Int) = 64) then some (((zA 4, zA 4), 8)) else (chk (32 ≤ (a0.length : Int))).bind fun _ => (chk (32 ≤ ((a0).take 32).length)).bind fun _ => (Yq (Zgu 32 ((a0).take 32))).bind fun y3 => (chk (32 ≤ (a0.length : Int))).bind fun _ => (chk (32 ≤ ((a0).drop 32).length)).bind fun _ => (Yq (Zgu 32 ((a0).drop 32))).bind fun y6 => (XM y3).bind fun y7 => ((if ¬ (y7 = true) then some (false) else (XM y6).bind fun y8 => some (!(y8)))).bind fun z9 => (if (¬ (y7 = true) ∨ z9 = true) then some (((zA 4, zA 4), 5)) else some (((y3, y6), 0))))
noncomputable def Zig (p8 : (List Int)) : Option (List Int) :=
 some (p8)
noncomputable def ZcT (a0 : (List (Arr 32))) : (Int × (List Int)) → Option ((Int × (List Int)) ⊕ ((List Int)))
 | (p7, p8) => (if p7 < (a0.length : Int) then (idx (a0) (p7)).bind fun x11 => (chk (p8.length + x11.l.length ≤ 140737488355328)).bind fun _ => some (.inl (IntKind.i64.wrap (p7 + 1), p8 ++ x11.l)) else (Zig p8).map Sum.inr)
noncomputable def Zb0 (a0 : (List (Arr 32))) : Option ((List Int)) :=
 Zt (ZcT a0) (0, [])
noncomputable def ZgF (p9 : (Arr 32)) : Option (Arr 32) :=
 some (p9)
noncomputable def ZbV (a0 : (Arr 4)) : (Int × (Arr 32)) → Option ((Int × (Arr 32)) ⊕ ((Arr 32)))
 | (p8, p9) => (if p8 < 32 then (inA (4) (IntKind.i64.wrap (3 - (IntKind.i64.wrap ((p8).tdiv 8))))).bind fun j13 => (chk (¬ (IntKind.i64.wrap (56 - (IntKind.i64.wrap (((p8).tmod 8) * 8))) < 0))).bind fun _ => (inA (32) (p8)).bind fun j15 => some (.inl (IntKind.i64.wrap (p8 + 1), p9.put j15 (IntKind.u8.wrap ((a0.at j13).fdiv (2 ^ (min (IntKind.i64.wrap (56 - (IntKind.i64.wrap (((p8).tmod 8) * 8)))).toNat 64)))))) else (ZgF p9).map Sum.inr)
noncomputable def X8 (a0 : (Arr 4)) : Option ((Arr 32)) :=
 Zt (ZbV a0) (0, zA 32)
noncomputable def Zaj (a0 : Tapi_Signature) : Option ((List Int)) :=
 (X8 a0.1).bind fun y1 => (X8 a0.2).bind fun y2 => (Zb0 [y1, y2]).bind fun y3 => some (y3)
noncomputable def Lpartial_Valid_k1 : Option Bool :=
 some (true)
noncomputable def ZaE (a0 : Tapi_PartialTx) : Int → Option ((Int) ⊕ (Bool))
 | p15 => (if p15 < (a0.2.length : Int) then (idx (a0.2) (p15)).bind fun x22 => (if (x22.1 < 0 ∨ (a0.1.1.2.1.length : Int) ≤ x22.1) then some (.inr (false)) else (Zaj x22.2.2).bind fun y23 => (Zai y23).bind fun y24 => (if ¬ (y24.2 = 0) then some (.inr (false)) else ((if 0 < p15 then (idx (a0.2) (IntKind.i64.wrap (p15 - 1))).bind fun x25 => (Y9 x25 x22).bind fun y26 => some (decide (0 ≤ y26)) else some (false))).bind fun z27 => (if (0 < p15 ∧ z27 = true) then some (.inr (false)) else some (.inl (IntKind.i64.wrap (p15 + 1)))))) else (Lpartial_Valid_k1).map Sum.inr)
noncomputable def Xf (a0 : Tapi_PartialTx) : Option (Bool) :=
 (Y7 a0.1).bind fun y1 => (if ¬ (y1 = true) then some (false) else Zt (ZaE a0) 0)
noncomputable def Xa (a0 : (List Int)) : Option (List Int) :=
 (chk (a0.length ≤ 140737488355328)).bind fun _ => some (a0)
noncomputable def ZT (a0 : (List Tapi_Output)) : Option (List Tapi_Output) :=
 (chk (a0.length ≤ 4398046511104)).bind fun _ => some (a0)
noncomputable def Yb (a0 : (List (List Int))) : Option (List (List Int)) :=
 (chk (a0.length ≤ 5864062014805)).bind fun _ => some (a0)
noncomputable def Zdx (p12 : (List (List Int))) : Option (List (List Int)) :=
 some (p12)
noncomputable def ZbL (y1 : ((List (List Int)))) : (Int × (List (List Int))) → Option ((Int × (List (List Int))) ⊕ ((List (List Int))))
 | (p11, p12) => (if p11 < (y1.length : Int) then (inA (p12.length) (p11)).bind fun j16 => ((p12)[j16]?).bind fun x17 => (Xa x17).bind fun y18 => some (.inl (IntKind.i64.wrap (p11 + 1), (p12).set j16 y18)) else (Zdx p12).map Sum.inr)
noncomputable def YI (a0 : (List (List Int))) : Option ((List (List Int))) :=
 (Yb a0).bind fun y1 => Zt (ZbL y1) (0, y1)
noncomputable def ZeB (a0 : Tapi_Tx) (p13 : (List Tapi_Input)) (p27 : (List Tapi_Output)) : Option Tapi_Tx :=
 some ((a0.1, p13, p27, a0.2.2.2))
noncomputable def XX (y2 : ((List Tapi_Output))) (a0 : Tapi_Tx) (p13 : (List Tapi_Input)) : (Int × (List Tapi_Output)) → Option ((Int × (List Tapi_Output)) ⊕ (Tapi_Tx))
 | (p26, p27) => (if p26 < (y2.length : Int) then (inA (p27.length) (p26)).bind fun j31 => ((p27)[j31]?).bind fun x32 => (Xa x32.2).bind fun y33 => some (.inl (IntKind.i64.wrap (p26 + 1), (p27).set j31 (x32.1, y33))) else (ZeB a0 p13 p27).map Sum.inr)
noncomputable def Za9 (y2 : ((List Tapi_Output))) (a0 : Tapi_Tx) (p13 : (List Tapi_Input)) : Option Tapi_Tx :=
 Zt (XX y2 a0 p13) (0, y2)
noncomputable def XY (y1 : ((List Tapi_Input))) (y2 : ((List Tapi_Output))) (a0 : Tapi_Tx) : (Int × (List Tapi_Input)) → Option ((Int × (List Tapi_Input)) ⊕ (Tapi_Tx))
 | (p12, p13) => (if p12 < (y1.length : Int) then (inA (p13.length) (p12)).bind fun j34 => ((p13)[j34]?).bind fun x35 => (YI x35.2.2).bind fun y36 => some (.inl (IntKind.i64.wrap (p12 + 1), (p13).set j34 (x35.1, x35.2.1, y36))) else (Za9 y2 a0 p13).map Sum.inr)
noncomputable def Xb (a0 : Tapi_Tx) : Option (Tapi_Tx) :=
 (ZV a0.2.1).bind fun y1 => (ZT a0.2.2.1).bind fun y2 => Zt (XY y1 y2 a0) (0, y1)
noncomputable def ZX (a0 : (List Tapi_Coin)) : Option (List Tapi_Coin) :=
 (chk (a0.length ≤ 1599289640401)).bind fun _ => some (a0)
noncomputable def Zd7 (y1 : (Tapi_Tx)) (p13 : (List Tapi_Coin)) (a0 : Tapi_Plan) : Option Tapi_Plan :=
 some (((y1.1, y1.2.1, y1.2.2.1, y1.2.2.2), p13, a0.2.2.1, a0.2.2.2))
noncomputable def XA (y2 : ((List Tapi_Coin))) (y1 : (Tapi_Tx)) (a0 : Tapi_Plan) : (Int × (List Tapi_Coin)) → Option ((Int × (List Tapi_Coin)) ⊕ (Tapi_Plan))
 | (p12, p13) => (if p12 < (y2.length : Int) then (inA (p13.length) (p12)).bind fun j17 => ((p13)[j17]?).bind fun x18 => (Xa x18.2.1.2).bind fun y19 => some (.inl (IntKind.i64.wrap (p12 + 1), (p13).set j17 (x18.1, (x18.2.1.1, y19), x18.2.2.1, x18.2.2.2))) else (Zd7 y1 p13 a0).map Sum.inr)
noncomputable def YM (a0 : Tapi_Plan) : Option (Tapi_Plan) :=
 (Xb a0.1).bind fun y1 => (ZX a0.2.1).bind fun y2 => Zt (XA y2 y1 a0) (0, y2)
noncomputable def Xg (a0 : Tapi_Output) (a1 : Tapi_Output) : Option (Bool) :=
 ((if a0.1 = a1.1 then (ZaN a0.2 a1.2).bind fun y1 => some (y1) else some (false))).bind fun z2 => some ((decide (a0.1 = a1.1) && z2))
noncomputable def Lref09_SameTx_k2 : Option Bool :=
 some (true)
noncomputable def Zcf (a0 : Tapi_Tx) (a1 : Tapi_Tx) : Int → Option ((Int) ⊕ (Bool))
 | p49 => (if p49 < (a0.2.2.1.length : Int) then (idx (a0.2.2.1) (p49)).bind fun x53 => (idx (a1.2.2.1) (p49)).bind fun x54 => (Xg x53 x54).bind fun y55 => (if ¬ (y55 = true) then some (.inr (false)) else some (.inl (IntKind.i64.wrap (p49 + 1)))) else (Lref09_SameTx_k2).map Sum.inr)
noncomputable def Zcg (a0 : Tapi_Tx) (a1 : Tapi_Tx) : Option Bool :=
 Zt (Zcf a0 a1) 0
noncomputable def Zf1 (p28 : Int) : Option ((Int) ⊕ (Bool)) :=
 some (.inl (IntKind.i64.wrap (p28 + 1)))
noncomputable def ZdY (x56 : Tapi_Input) (x57 : Tapi_Input) (p28 : Int) : Int → Option ((Int) ⊕ ((Int) ⊕ (Bool)))
 | p65 => (if p65 < (x56.2.2.length : Int) then (idx (x56.2.2) (p65)).bind fun x69 => (idx (x57.2.2) (p65)).bind fun x70 => (ZaN x69 x70).bind fun y71 => (if ¬ (y71 = true) then some (.inr (.inr (false))) else some (.inl (IntKind.i64.wrap (p65 + 1)))) else (Zf1 p28).map Sum.inr)
noncomputable def Zch (a0 : Tapi_Tx) (a1 : Tapi_Tx) : Int → Option ((Int) ⊕ (Bool))
 | p28 => (if p28 < (a0.2.1.length : Int) then (idx (a0.2.1) (p28)).bind fun x56 => (idx (a1.2.1) (p28)).bind fun x57 => (if ((¬ ((x56.1.1 = x57.1.1 ∧ x56.1.2 = x57.1.2)) ∨ ¬ (x56.2.1 = x57.2.1)) ∨ ¬ ((x56.2.2.length : Int) = (x57.2.2.length : Int))) then some (.inr (false)) else Zt (ZdY x56 x57 p28) 0) else (Zcg a0 a1).map Sum.inr)
noncomputable def XV (a0 : Tapi_Tx) (a1 : Tapi_Tx) : Option (Bool) :=
 (if (((¬ (a0.1 = a1.1) ∨ ¬ (a0.2.2.2 = a1.2.2.2)) ∨ ¬ ((a0.2.1.length : Int) = (a1.2.1.length : Int))) ∨ ¬ ((a0.2.2.1.length : Int) = (a1.2.2.1.length : Int))) then some (false) else Zt (Zch a0 a1) 0)
noncomputable def XN (a0 : Tapi_Coin) (a1 : Tapi_Coin) : Option (Bool) :=
 ((if (a0.1.1 = a1.1.1 ∧ a0.1.2 = a1.1.2) then (Xg a0.2.1 a1.2.1).bind fun y1 => some (y1) else some (false))).bind fun z2 => some (((((decide (a0.1.1 = a1.1.1) && decide (a0.1.2 = a1.1.2)) && z2) && decide (a0.2.2.1 = a1.2.2.1)) && (a0.2.2.2 == a1.2.2.2)))
noncomputable def Lref34_Same_k1 : Option Bool :=
 some (true)
noncomputable def Zdj (a0 : Tapi_Plan) (a1 : Tapi_Plan) : Int → Option ((Int) ⊕ (Bool))
 | p9 => (if p9 < (a0.2.1.length : Int) then (idx (a0.2.1) (p9)).bind fun x13 => (idx (a1.2.1) (p9)).bind fun x14 => (XN x13 x14).bind fun y15 => (if ¬ (y15 = true) then some (.inr (false)) else some (.inl (IntKind.i64.wrap (p9 + 1)))) else (Lref34_Same_k1).map Sum.inr)
noncomputable def ZaR (a0 : Tapi_Plan) (a1 : Tapi_Plan) : Option (Bool) :=
 (XV a0.1 a1.1).bind fun y1 => (if (((¬ (y1 = true) ∨ ¬ (a0.2.2.1 = a1.2.2.1)) ∨ ¬ (a0.2.2.2 = a1.2.2.2)) ∨ ¬ ((a0.2.1.length : Int) = (a1.2.1.length : Int))) then some (false) else Zt (Zdj a0 a1) 0)
noncomputable def Lref35_Same_k1 : Option Bool :=
 some (true)
noncomputable def Zdk (a0 : Tapi_PartialTx) (a1 : Tapi_PartialTx) : Int → Option ((Int) ⊕ (Bool))
 | p7 => (if p7 < (a0.2.length : Int) then (idx (a0.2) (p7)).bind fun x10 => (idx (a1.2) (p7)).bind fun x11 => (if ¬ ((x10.1 = x11.1 ∧ (x10.2.1 = x11.2.1 ∧ (x10.2.2.1 = x11.2.2.1 ∧ x10.2.2.2 = x11.2.2.2)))) then some (.inr (false)) else some (.inl (IntKind.i64.wrap (p7 + 1)))) else (Lref35_Same_k1).map Sum.inr)
noncomputable def X9 (a0 : Tapi_PartialTx) (a1 : Tapi_PartialTx) : Option (Bool) :=
 (ZaR a0.1 a1.1).bind fun y1 => (if (¬ (y1 = true) ∨ ¬ ((a0.2.length : Int) = (a1.2.length : Int))) then some (false) else Zt (Zdk a0 a1) 0)
end Go.Lc
end
section
namespace Go.Lc
open Go.RowKit
open Go.Av
set_option maxRecDepth 100000
set_option linter.unusedSimpArgs false
set_option linter.unusedVariables false
noncomputable def Zci (a0 : (Arr 4)) : Option ((Arr 4)) :=
 some (((((zA 4).put 0 (bits .xor .u64 18446744073709551615 (a0.at 0))).put 1 (bits .xor .u64 18446744073709551615 (a0.at 1))).put 2 (bits .xor .u64 18446744073709551615 (a0.at 2))).put 3 (bits .xor .u64 18446744073709551615 (a0.at 3)))
noncomputable def Zav (a0 : Tapi_PartialTx) (p16 : (List Tapi_Signed)) (p18 : Int) : Option Tapi_PartialTx :=
 some (((a0.1.1, a0.1.2.1, p18, a0.1.2.2.2), p16))
noncomputable def Yr (a1 : Int) (a0 : Tapi_PartialTx) (p16 : (List Tapi_Signed)) : Option Tapi_PartialTx :=
 (Xx a1 7).bind fun y17 => (if y17 = 6 then Zav a0 p16 (IntKind.i64.wrap (a0.1.2.2.1 + 1)) else Zav a0 p16 a0.1.2.2.1)
noncomputable def Zak (a0 : Tapi_PartialTx) (a1 : Int) (a2 : Int) : Option (Tapi_PartialTx) :=
 (chk (a0.2.length ≤ 1353245080339)).bind fun _ => (if 0 < (a0.2.length : Int) then (Xx a2 (a0.2.length : Int)).bind fun y19 => (inA (a0.2.length) (y19)).bind fun j20 => (Xx a1 6).bind fun y21 => (if y21 = 0 then (Xx a2 5).bind fun y22 => ((a0.2)[j20]?).bind fun x23 => Yr a1 a0 ((a0.2).set j20 (IntKind.i64.wrap (y22 - 1), x23.2.1, x23.2.2)) else (if y21 = 1 then (Zci (zA 4)).bind fun y24 => ((a0.2)[j20]?).bind fun x25 => Yr a1 a0 ((a0.2).set j20 (x25.1, x25.2.1, (y24, x25.2.2.2))) else (if y21 = 2 then (Xx a2 70).bind fun y26 => (Yy (IntKind.u64.wrap (y26))).bind fun y27 => ((a0.2)[j20]?).bind fun x28 => Yr a1 a0 ((a0.2).set j20 (x28.1, y27, x28.2.2)) else (if y21 = 3 then ((a0.2)[j20]?).bind fun x29 => (chk (a0.2.length + 1 ≤ 1353245080339)).bind fun _ => Yr a1 a0 (a0.2 ++ [x29]) else (if y21 = 4 then (Yy 9).bind fun y31 => ((a0.2)[j20]?).bind fun x32 => Yr a1 a0 ((a0.2).set j20 (x32.1, x32.2.1, (x32.2.2.1, y31))) else Yr a1 a0 a0.2))))) else Yr a1 a0 a0.2)
noncomputable def Zal (a0 : Tapi_Plan) : Option (Tapi_PartialTx × Int) :=
 (Y7 a0).bind fun y1 => (if ¬ (y1 = true) then some (((((0, ([] : (List Tapi_Input)), ([] : (List Tapi_Output)), 0), ([] : (List Tapi_Coin)), 0, 0), ([] : (List Tapi_Signed))), 6)) else (YM a0).bind fun y2 => some (((((y2.1.1, y2.1.2.1, y2.1.2.2.1, y2.1.2.2.2), y2.2.1, y2.2.2.1, y2.2.2.2), ([] : (List Tapi_Signed))), 0)))
noncomputable def ZbA (a0 : Tapi_Plan) : Option (Tapi_PartialTx × Int) :=
 (Xm a0).bind fun y1 => (if ¬ (y1 = true) then some (((((0, ([] : (List Tapi_Input)), ([] : (List Tapi_Output)), 0), ([] : (List Tapi_Coin)), 0, 0), ([] : (List Tapi_Signed))), 6)) else some (((a0, ([] : (List Tapi_Signed))), 0)))
noncomputable def Lref02_Cmp_k1 : Option Int :=
 some (0)
noncomputable def ZhL (a0 : (Arr 4)) (a1 : (Arr 4)) : Int → Option ((Int) ⊕ (Int))
 | p3 => (if 0 ≤ p3 then (inA (4) (p3)).bind fun j5 => (if a0.at j5 < a1.at j5 then some (.inr ((-1))) else (if a1.at j5 < a0.at j5 then some (.inr (1)) else some (.inl (IntKind.i64.wrap (p3 - 1))))) else (Lref02_Cmp_k1).map Sum.inr)
noncomputable def ZaL (a0 : (Arr 4)) (a1 : (Arr 4)) : Option (Int) :=
 Zt (ZhL a0 a1) 3
noncomputable def ZbB (a0 : (Arr 4)) (a1 : Int) : Option (Bool) :=
 (inA (4) (IntKind.i64.wrap ((a1).tdiv 64))).bind fun j1 => (chk (¬ ((a1).tmod 64 < 0))).bind fun _ => some (decide (bits .and .u64 ((a0.at j1).fdiv (2 ^ (min ((a1).tmod 64).toNat 64))) 1 = 1))
noncomputable def ZdJ (p12 : (Arr 4)) : Option (Arr 4) :=
 some (p12)
noncomputable def Zaz (p11 : Int) (p20 : (Arr 4)) : Option ((Int × (Arr 4)) ⊕ ((Arr 4))) :=
 some (.inl (IntKind.i64.wrap (p11 + 1), p20))
noncomputable def ZdK (a1 : Int) (a0 : (Arr 4)) : (Int × (Arr 4)) → Option ((Int × (Arr 4)) ⊕ ((Arr 4)))
 | (p11, p12) => (if IntKind.i64.wrap (p11 + a1) < 256 then (ZbB a0 (IntKind.i64.wrap (p11 + a1))).bind fun y17 => (if y17 = true then (inA (4) (IntKind.i64.wrap ((p11).tdiv 64))).bind fun j21 => (chk (¬ ((p11).tmod 64 < 0))).bind fun _ => Zaz p11 (p12.put j21 (bits .or .u64 (p12.at j21) (IntKind.u64.wrap (1 * (2 ^ (min ((p11).tmod 64).toNat 64)))))) else Zaz p11 p12) else (ZdJ p12).map Sum.inr)
noncomputable def ZbC (a0 : (Arr 4)) (a1 : Int) : Option ((Arr 4)) :=
 (if a1 ≤ 0 then some (a0) else (if 256 ≤ a1 then some (zA 4) else Zt (ZdK a1 a0) (0, zA 4)))
noncomputable def X2 (a0 : Int) (a1 : Int) (a2 : Int) : Option (Int × Int) :=
 (chk ((0 ≤ a0 ∧ 0 ≤ a1) ∧ (a1 ≤ 18446744073709551615 ∧ 0 ≤ a2) ∧ a2 ≤ 1)).bind fun _ => some ((a0 + 18446744073709551616 - a1 - a2) % 18446744073709551616, if a0 < a1 + a2 then 1 else 0)
noncomputable def ZdL (p9 : (Arr 4)) (p7 : Int) : Option ((Arr 4) × Bool) :=
 some ((p9, decide (p7 = 1)))
noncomputable def ZdM (a0 : (Arr 4)) (a1 : (Arr 4)) : (Int × Int × (Arr 4)) → Option ((Int × Int × (Arr 4)) ⊕ ((Arr 4) × Bool))
 | (p7, p8, p9) => (if p8 < 4 then (inA (4) (p8)).bind fun j12 => (X2 (a0.at j12) (a1.at j12) p7).bind fun y13 => some (.inl (y13.2, IntKind.i64.wrap (p8 + 1), p9.put j12 y13.1)) else (ZdL p9 p7).map Sum.inr)
noncomputable def ZbD (a0 : (Arr 4)) (a1 : (Arr 4)) : Option ((Arr 4) × Bool) :=
 Zt (ZdM a0 a1) (0, 0, zA 4)
noncomputable def Lref05_Modulus : Option ((Arr 4)) :=
 (Yp 36113).bind fun y1 => (ZbD (zA 4) y1).bind fun y2 => some (y2.1)
noncomputable def Lref05_Order : Option ((Arr 4)) :=
 (Lref05_Modulus).bind fun y1 => (ZbC y1 1).bind fun y2 => some (y2)
noncomputable def XW (a0 : Tapi_Signed) (a1 : Tapi_Signed) : Option (Bool) :=
 ((if a0.1 < a1.1 then some (false) else ((if a0.1 = a1.1 then (ZaL a0.2.1 a1.2.1).bind fun y1 => some (decide (y1 < 0)) else some (false))).bind fun z2 => some ((decide (a0.1 = a1.1) && z2)))).bind fun z3 => some ((decide (a0.1 < a1.1) || z3))
noncomputable def Lref35_Valid_k1 : Option Bool :=
 some (true)
noncomputable def ZbE (a0 : Tapi_PartialTx) : Int → Option ((Int) ⊕ (Bool))
 | p25 => (if p25 < (a0.2.length : Int) then (idx (a0.2) (p25)).bind fun x37 => ((if (x37.1 < 0 ∨ (a0.1.1.2.1.length : Int) ≤ x37.1) then some (false) else (Lref05_Order).bind fun y38 => (ZaL x37.2.2.1 y38).bind fun y39 => some (decide (0 ≤ y39)))).bind fun z40 => ((if ((x37.1 < 0 ∨ (a0.1.1.2.1.length : Int) ≤ x37.1) ∨ z40 = true) then some (false) else (Lref05_Order).bind fun y41 => (ZaL x37.2.2.2 y41).bind fun y42 => some (decide (0 ≤ y42)))).bind fun z43 => ((if (((x37.1 < 0 ∨ (a0.1.1.2.1.length : Int) ≤ x37.1) ∨ z40 = true) ∨ z43 = true) then some (false) else ((if 0 < p25 then (idx (a0.2) (IntKind.i64.wrap (p25 - 1))).bind fun x44 => (XW x44 x37).bind fun y45 => some (!(y45)) else some (false))).bind fun z46 => some ((decide (0 < p25) && z46)))).bind fun z47 => (if ((((x37.1 < 0 ∨ (a0.1.1.2.1.length : Int) ≤ x37.1) ∨ z40 = true) ∨ z43 = true) ∨ z47 = true) then some (.inr (false)) else some (.inl (IntKind.i64.wrap (p25 + 1)))) else (Lref35_Valid_k1).map Sum.inr)
noncomputable def XO (a0 : Tapi_PartialTx) : Option (Bool) :=
 (Xm a0.1).bind fun y1 => (if ¬ (y1 = true) then some (false) else Zt (ZbE a0) 0)
noncomputable def YT (a0 : (List Int)) (a1 : Int) (a2 : Int) : Option (Bool) :=
 (Llaw35_sane).bind fun y1 => (if ¬ (y1 = true) then some (false) else (ZcQ a0).bind fun y2 => (ZaQ y2).bind fun y3 => (Zak y3.1 a1 a2).bind fun y4 => (Zal (y4.1.1, y4.1.2.1, y4.1.2.2.1, y4.1.2.2.2)).bind fun y5 => (ZbA (y4.1.1, y4.1.2.1, y4.1.2.2.1, y4.1.2.2.2)).bind fun y6 => (Xf y3.1).bind fun y7 => (XO y3.1).bind fun y8 => ((if (y7 == y8) = true then (Xf ((y4.1.1, y4.1.2.1, y4.1.2.2.1, y4.1.2.2.2), y4.2)).bind fun y9 => (XO ((y4.1.1, y4.1.2.1, y4.1.2.2.1, y4.1.2.2.2), y4.2)).bind fun y10 => some ((y9 == y10)) else some (false))).bind fun z11 => ((if (((y7 == y8) = true ∧ z11 = true) ∧ y5.2 = y6.2) then (X9 y5.1 y6.1).bind fun y12 => some (y12) else some (false))).bind fun z13 => some (((((y7 == y8) && z11) && decide (y5.2 = y6.2)) && z13)))
end Go.Lc
end
section
namespace Go.Av
theorem ZmM {x : Int} (h : (Lit.int .i64 x).wf = true) : -9223372036854775808 ≤ x ∧ x ≤ 9223372036854775807 := by simpa [Lit.wf, IntKind.has, IntKind.min, IntKind.max, IntKind.signed, IntKind.bits] using h
end Go.Av
end
section
namespace Go.Lc
open Go.RowKit
open Go.Av
set_option linter.unusedVariables false
theorem Za3 {σ ρ : Type} {step : σ → Option (σ ⊕ ρ)} {s s' : σ} (h : step s = some (.inl s')) : Zt step s = Zt step s' := by rw [ZfH, h]
theorem Za4 {σ ρ : Type} {step : σ → Option (σ ⊕ ρ)} {s : σ} {x : Option ρ} (h : step s = x.map .inr) : Zt step s = x := by
 rw [ZfH, h]
 cases x <;> rfl
theorem Zdy {σ ρ : Type} {step : σ → Option (σ ⊕ ρ)} {s : σ} {r : ρ} (h : step s = some (.inr r)) : Zt step s = some r := by rw [ZfH, h]
theorem Ym {σ ρ : Type} {step : σ → Option (σ ⊕ ρ)} (enc : Nat → σ) (n : Nat) {x : Option ρ} (h : ∀ i, i < n → step (enc i) = some (.inl (enc (i + 1)))) (he : step (enc n) = x.map .inr) : Zt step (enc 0) = x := by
 have key : ∀ k, k ≤ n → Zt step (enc (n - k)) = x := by
  intro k
  induction k with
  | zero => intro _; exact Za4 he
  | succ k ih =>
   intro hk
   rw [Za3 (h (n - (k + 1)) (by omega)), show n - (k + 1) + 1 = n - k by omega]
   exact ih (by omega)
 have := key n (Nat.le_refl _)
 rwa [Nat.sub_self] at this
theorem ZmA {σ ρ : Type} {step : σ → Option (σ ⊕ ρ)} (I : Nat → σ → Prop) (Q : ρ → Prop) (h : ∀ i s, I i s → (∃ j s', j < i ∧ step s = some (.inl s') ∧ I j s') ∨ ∃ r, step s = some (.inr r) ∧ Q r) : ∀ (n : Nat) (s : σ), I n s → ∃ r, Zt step s = some r ∧ Q r := by
 intro n
 induction n using Nat.strongRecOn with
 | _ n ih =>
  intro s hs
  rcases h n s hs with ⟨j, s', hj, h1, h2⟩ | ⟨r, h1, h2⟩
  ·obtain ⟨r, h3, h4⟩ := ih j hj s' h2
   exact ⟨r, (Za3 h1).trans h3, h4⟩
  ·exact ⟨r, Zdy h1, h2⟩
def Tot {α : Type} (x : Option α) (Q : α → Prop) : Prop := ∃ a, x = some a ∧ Q a
section
variable {α β : Type} {x : Option α} {f : α → Option β} {P : α → Prop} {Q : β → Prop}
theorem Tot.bind (h : Tot x P) (k : ∀ a, P a → Tot (f a) Q) : Tot (x.bind f) Q := by
 obtain ⟨a, rfl, ha⟩ := h
 exact k a ha
theorem Tot.mono {P' : α → Prop} (h : Tot x P) (k : ∀ a, P a → P' a) : Tot x P' := by
 obtain ⟨a, h1, ha⟩ := h
 exact ⟨a, h1, k a ha⟩
theorem ZbM {a : α} (h : P a) : Tot (some a) P := ⟨a, rfl, h⟩
theorem ZaW {c : Prop} [Decidable c] {a b : Option α} (h1 : c → Tot a P) (h2 : ¬ c → Tot b P) : Tot (if c then a else b) P := by
 by_cases h : c
 ·rw [if_pos h]; exact h1 h
 ·rw [if_neg h]; exact h2 h
theorem Tot.inr {ρ σ : Type} {x : Option ρ} {Q : ρ → Prop} (h : Tot x Q) : ∃ r, (x.map Sum.inr : Option (σ ⊕ ρ)) = some (.inr r) ∧ Q r := by
 obtain ⟨a, rfl, ha⟩ := h
 exact ⟨a, rfl, ha⟩
end
theorem Zf {α β : Type} (a : α) (f : α → Option β) : (some a).bind f = f a := rfl
theorem ZZ {p : Prop} [Decidable p] {α : Type} {f : Unit → Option α} (h : p) : (chk p).bind f = f () := by rw [Zqj h]; rfl
theorem Zql {α : Type} {l : List α} {i : Nat} (h : i < l.length) : idx l (i : Int) = some l[i] := by simp [idx, h]
theorem Zy {α β : Type} {l : List α} {i : Nat} {f : α → Option β} (h : i < l.length) : (idx l (i : Int)).bind f = f l[i] := by rw [Zql h]; rfl
theorem Zqm {n i : Nat} (h : i < n) : inA n (i : Int) = some i := by simp [inA, h]
theorem Za5 {β : Type} {n i : Nat} {f : Nat → Option β} (h : i < n) : (inA n (i : Int)).bind f = f i := by rw [Zqm h]; rfl
theorem Zhf {α β : Type} {l : List α} {i : Nat} {f : α → Option β} (h : i < l.length) : (l[i]?).bind f = f l[i] := by rw [List.getElem?_eq_getElem h]; rfl
theorem wi (n : Int) (h : -9223372036854775808 ≤ n ∧ n ≤ 9223372036854775807) : IntKind.i64.wrap n = n := IntWalk.i64_in n h
theorem Z0 {i n : Nat} (h : i < n) (hn : n ≤ 9223372036854775807) : IntKind.i64.wrap ((i : Int) + 1) = ((i + 1 : Nat) : Int) := by rw [wi _ (by omega)]; omega
theorem wu (n : Int) (h : 0 ≤ n ∧ n ≤ 18446744073709551615) : IntKind.u64.wrap n = n := IntWalk.u64_in n h
theorem ZkU {α : Type} (f : Nat → α) (z : α) {i k : Nat} (h : i < k) : (((List.range i).map f) ++ List.replicate (k - i) z).set i (f i) = ((List.range (i + 1)).map f) ++ List.replicate (k - (i + 1)) z := by
 rw [List.set_append_right _ _ (by simp)]
 simp only [List.length_map, List.length_range, Nat.sub_self]
 rw [show k - i = (k - (i + 1)) + 1 by omega, List.replicate_succ, List.set_cons_zero, List.range_succ, List.map_append]
 simp
theorem ZlW {α : Type} (f : Nat → α) (z : α) {i k : Nat} (h : i ≤ k) : (((List.range i).map f) ++ List.replicate (k - i) z).length = k := by simp; omega
end Go.Lc
end
section
namespace Go.Lc
open Go.RowKit
open Go.Av
set_option linter.unusedVariables false
set_option linter.unusedSimpArgs false
class Yo (α : Type) where
 force : {β : Type} → α → (α → β) → β
 eq : ∀ {β : Type} (a : α) (k : α → β), force a k = k a
noncomputable def ZjU {β : Type} (n : Nat) (k : Nat → β) : β := Nat.rec (motive := fun _ => β) (k Nat.zero) (fun m _ => k (Nat.succ m)) n
theorem Zih {β : Type} (n : Nat) (k : Nat → β) : ZjU n k = k n := by cases n <;> rfl
noncomputable instance : Yo Nat := ⟨ZjU, Zih⟩
noncomputable def Zol {β : Type} (i : Int) (k : Int → β) : β := Int.rec (motive := fun _ => β) (fun n => ZjU n fun m => k (Int.ofNat m)) (fun n => ZjU n fun m => k (Int.negSucc m)) i
theorem Zom {β : Type} (i : Int) (k : Int → β) : Zol i k = k i := by
 cases i with
 | ofNat n => exact Zih n fun m => k (Int.ofNat m)
 | negSucc n => exact Zih n fun m => k (Int.negSucc m)
noncomputable instance : Yo Int := ⟨Zol, Zom⟩
noncomputable def Zon {β : Type} (b : Bool) (k : Bool → β) : β := Bool.rec (motive := fun _ => β) (k false) (k true) b
theorem Zoo {β : Type} (b : Bool) (k : Bool → β) : Zon b k = k b := by cases b <;> rfl
noncomputable instance : Yo Bool := ⟨Zon, Zoo⟩
noncomputable instance : Yo Unit := ⟨fun _ k => k (), fun _ _ => rfl⟩
noncomputable def Zop {α γ β : Type} [Yo α] [Yo γ] (p : α × γ) (k : α × γ → β) : β := Prod.rec (motive := fun _ => β) (fun a c => Yo.force a fun a => Yo.force c fun c => k (a, c)) p
theorem Zoq {α γ β : Type} [Yo α] [Yo γ] (p : α × γ) (k : α × γ → β) : Zop p k = k p := by
 obtain ⟨a, c⟩ := p
 exact (Yo.eq a _).trans (Yo.eq c _)
noncomputable instance {α γ : Type} [Yo α] [Yo γ] : Yo (α × γ) := ⟨Zop, Zoq⟩
noncomputable def ZlX {α β : Type} [Yo α] (l : List α) (k : List α → β) : β := List.rec (motive := fun _ => (List α → β) → β) (fun k => k []) (fun a _ ih k => Yo.force a fun a => ih fun l => k (a :: l)) l k
theorem ZkV {α β : Type} [Yo α] (l : List α) (k : List α → β) : ZlX l k = k l := by
 induction l generalizing k with
 | nil => rfl
 | cons a l ih =>
  refine (Yo.eq (β := β) a _).trans ?_
  exact ih fun l => k (a :: l)
noncomputable instance {α : Type} [Yo α] : Yo (List α) := ⟨ZlX, ZkV⟩
noncomputable def ZlY {n : Nat} {β : Type} (a : Arr n) (k : Arr n → β) : β := ZlX a.l fun l => if h : Nat.beq l.length n = true then k ⟨l, Nat.eq_of_beq_eq_true h⟩ else k a
theorem Zor {n : Nat} {β : Type} (a : Arr n) (k : Arr n → β) : ZlY a k = k a := by
 unfold ZlY
 rw [ZkV]
 split <;> rfl
noncomputable instance {n : Nat} : Yo (Arr n) := ⟨ZlY, Zor⟩
noncomputable def _root_.Option.bindF {α β : Type} [Yo α] (o : Option α) (f : α → Option β) : Option β := Option.rec (motive := fun _ => Option β) none (fun x => Yo.force x f) o
theorem ZlZ {α β : Type} [Yo α] (o : Option α) (f : α → Option β) : o.bindF f = o.bind f := by
 cases o with
 | none => rfl
 | some x => exact Yo.eq x f
noncomputable def ZdZ {σ ρ : Type} [Yo σ] (step : σ → Option (σ ⊕ ρ)) (s : σ) : Option ρ :=
 Nat.rec (motive := fun _ => σ → Option ρ) (fun _ => none) (fun _ ih s => Option.rec (motive := fun _ => Option ρ) none (fun x => Sum.rec (motive := fun _ => Option ρ) (fun s' => Yo.force s' ih) (fun r => some r) x) (step s)) 1000000 s
noncomputable instance {α γ : Type} [Yo α] [Yo γ] : Yo (α ⊕ γ) := ⟨fun x k => Sum.rec (motive := fun _ => _) (fun a => Yo.force a fun a => k (.inl a)) (fun c => Yo.force c fun c => k (.inr c)) x, fun x k => by cases x <;> exact Yo.eq _ _⟩
noncomputable instance {α : Type} [Yo α] : Yo (Option α) := ⟨fun x k => Option.rec (motive := fun _ => _) (k none) (fun a => Yo.force a fun a => k (some a)) x, fun x k => by cases x <;> first | rfl | exact Yo.eq _ _⟩
def Le {α : Type} (o o' : Option α) : Prop := ∀ x, o = some x → o' = some x
theorem Le.refl {α : Type} (o : Option α) : Le o o := fun _ h => h
theorem ZK {α β : Type} [Yo α] {o o' : Option α} {f f' : α → Option β} (h : Le o o') (hf : ∀ x, Le (f x) (f' x)) : Le (o.bindF f) (o'.bind f') := by
 intro y hy
 rw [ZlZ] at hy
 obtain ⟨x, hx, hy⟩ := Option.bind_eq_some_iff.1 hy
 rw [h _ hx]
 exact hf x _ hy
theorem ZN {α β : Type} {o o' : Option α} {f : α → β} (h : Le o o') : Le (o.map f) (o'.map f) := by
 intro y hy
 obtain ⟨x, hx, rfl⟩ := Option.map_eq_some_iff.1 hy
 rw [h _ hx]
 rfl
theorem ZO {α : Type} {p : Prop} [Decidable p] {a a' b b' : Option α} (h : Le a a') (h' : Le b b') : Le (if p then a else b) (if p then a' else b') := by
 split
 ·exact h
 ·exact h'
theorem ZP {σ ρ : Type} [Yo σ] {step step' : σ → Option (σ ⊕ ρ)} {s : σ} (h : ∀ s, Le (step s) (step' s)) : Le (ZdZ step s) (Zt step' s) := by
 have key : ∀ (n : Nat) (s : σ) (r : ρ), (Nat.rec (motive := fun _ => σ → Option ρ) (fun _ => none) (fun _ ih s => Option.rec (motive := fun _ => Option ρ) none (fun x => Sum.rec (motive := fun _ => Option ρ) (fun s' => Yo.force s' ih) (fun r => some r) x) (step s)) n s : Option ρ) = some r → Zt step' s = some r := by
  intro n
  induction n with
  | zero => intro s r h; cases h
  | succ n ih =>
   intro s r hr
   simp only at hr
   rcases hs : step s with _ | (s' | r')
   ·rw [hs] at hr; cases hr
   ·rw [hs] at hr
    have hr := (Yo.eq s' _).symm.trans hr
    rw [Za3 (h s _ hs)]
    exact ih s' r hr
   ·rw [hs] at hr
    obtain rfl := Option.some.inj hr
    exact Zdy (h s _ hs)
 intro r hr
 exact key 1000000 s r hr
end Go.Lc
end
