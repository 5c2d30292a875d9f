import Derived.Test.YtbjhgolpnjokbaaGreatLcG1
import Derived.Test.YtbjhgolpnjokbaaGreatAvP3
import Derived.IntWalk
section
namespace Go.Lc
open Go.RowKit
open Go.Av
set_option maxRecDepth 100000
set_option linter.unusedSimpArgs false
set_option linter.unusedVariables false
noncomputable def ZdG (p8 : (List Int)) : Option (List Int) :=
 some (p8)
noncomputable def ZdH (a0 : (List (List Int))) : (Int×(List Int))→Option ((Int×(List Int)) ⊕ ((List Int)))
 | (p7,p8)=>(if p7 < (a0.length : Int) then (idx (a0) (p7)).bind fun x11=>(Z9 p8 x11).bind fun y12=>some (.inl (IntKind.i64.wrap (p7 + 1),y12)) else (ZdG p8).map Sum.inr)
noncomputable def XC (a0 : (List (List Int))) : Option ((List Int)) :=
 Zu (ZdH a0) (0,([] : (List Int)))
noncomputable def Zbe (a0 : (List Int)) (a1 : (List Int)) : Option (Bool) :=
 some (decide (Zju a0 = Zju a1))
end Go.Lc
end
section
namespace Go.Lc
open Go.RowKit
open Go.Av
set_option maxRecDepth 100000
set_option linter.unusedSimpArgs false
set_option linter.unusedVariables false
end Go.Lc
end
section
namespace Go.Lc
open Go.RowKit
open Go.Av
set_option maxRecDepth 100000
set_option linter.unusedSimpArgs false
set_option linter.unusedVariables false
abbrev Tapi_Op:=Int×(List Int)×Int×Int
abbrev Tapi_Signature:=(Arr 4)×(Arr 4)
abbrev Tapi_Signed:=Int×(Arr 4)×Tapi_Signature
abbrev Tapi_PartialTx:=Tapi_Plan×(List Tapi_Signed)
noncomputable def Zda (p9 : (Arr 32)) : Option (Arr 32) :=
 some (p9)
noncomputable def Zdb (a0 : (Arr 4)) : (Int×(Arr 32))→Option ((Int×(Arr 32)) ⊕ ((Arr 32)))
 | (p8,p9)=>(if p8 < 32 then (inA (4) (IntKind.i64.wrap ((IntKind.i64.wrap (31 - p8)).tdiv 8))).bind fun j13=>(chk (¬ (IntKind.i64.wrap (8 * ((IntKind.i64.wrap (31 - p8)).tmod 8)) < 0))).bind fun _=>(inA (32) (p8)).bind fun j15=>some (.inl (IntKind.i64.wrap (p8 + 1),p9.put j15 (IntKind.u8.wrap ((a0.at j13).fdiv (2 ^ (min (IntKind.i64.wrap (8 * ((IntKind.i64.wrap (31 - p8)).tmod 8))).toNat 64)))))) else (Zda p9).map Sum.inr)
noncomputable def ZaC (a0 : (Arr 4)) : Option ((Arr 32)) :=
 Zu (Zdb a0) (0,zA 32)
noncomputable def Za9 (a0 : (Arr 4)) : Option ((List Int)) :=
 (ZaC a0).bind fun y1=>some (y1.l)
noncomputable def YO (a0 : Tapi_Op) (p1 : Bool) : Option Int :=
 (if p1 = true then some (6) else (if 255 < (a0.2.1.length : Int) then some (4) else (if (a0.1 = 11∧(((a0.2.2.2 < 1∨15 < a0.2.2.2)∨a0.2.2.1 < 1)∨a0.2.2.2 < a0.2.2.1)) then some (5) else some (0))))
noncomputable def ZaD (a0 : Tapi_Op) : Option (Int) :=
 (if (a0.1 < 1∨17 < a0.1) then some (80) else (if (0 < (a0.2.1.length : Int)∧¬ (a0.1 = 1)) then YO a0 (decide (0 < (a0.2.1.length : Int)) && !(decide (a0.1 = 1))) else YO a0 ((!(decide (a0.2.2.1 = 0)) || !(decide (a0.2.2.2 = 0))) && !(decide (a0.1 = 11)))))
noncomputable def XF (a0 : Tapi_Op) : Option ((List Int)) :=
 (if a0.1 = 1 then (XC [[1,IntKind.u8.wrap ((a0.2.1.length : Int))],a0.2.1]).bind fun y1=>some (y1) else (if a0.1 = 11 then some ([11,IntKind.u8.wrap (a0.2.2.1),IntKind.u8.wrap (a0.2.2.2)]) else some ([IntKind.u8.wrap (a0.1)])))
noncomputable def ZbW (p18 : (List Int)) : Option ((List Int)×Int) :=
 some ((p18,0))
noncomputable def ZbX (a0 : (List Tapi_Op)) : (Int×(List Int))→Option ((Int×(List Int)) ⊕ ((List Int)×Int))
 | (p17,p18)=>(if p17 < (a0.length : Int) then (idx (a0) (p17)).bind fun x22=>(XF x22).bind fun y23=>(chk (p18.length + y23.length≤140737488355328)).bind fun _=>(if 520 < (p18.length + y23.length : Int) then some (.inr ((([] : (List Int)),4))) else some (.inl (IntKind.i64.wrap (p17 + 1),p18++y23))) else (ZbW p18).map Sum.inr)
noncomputable def ZbY (a0 : (List Tapi_Op)) : Option ((List Int)×Int) :=
 Zu (ZbX a0) (0,[])
noncomputable def ZbZ (a0 : (List Tapi_Op)) : Int→Option ((Int) ⊕ ((List Int)×Int))
 | p6=>(if p6 < (a0.length : Int) then (idx (a0) (p6)).bind fun x25=>(ZaD x25).bind fun y26=>(if ¬ (y26 = 0) then some (.inr ((([] : (List Int)),y26))) else some (.inl (IntKind.i64.wrap (p6 + 1)))) else (ZbY a0).map Sum.inr)
noncomputable def Xx (a0 : (List Tapi_Op)) : Option ((List Int)×Int) :=
 Zu (ZbZ a0) 0
noncomputable def Zdc (p9 : (List Tapi_Op)) (a0 : Int) (a1 : (List (Arr 4))) : Option ((List Int)×Int) :=
 (chk (p9.length + 1≤2932031007402)).bind fun _=>(Xx (p9++[(11,([] : (List Int)),a0,(a1.length : Int))])).bind fun y14=>some ((y14.1,y14.2))
noncomputable def Zdd (a1 : (List (Arr 4))) (a0 : Int) : (Int×(List Tapi_Op))→Option ((Int×(List Tapi_Op)) ⊕ ((List Int)×Int))
 | (p8,p9)=>(if p8 < (a1.length : Int) then (idx (a1) (p8)).bind fun x15=>(Za9 x15).bind fun y16=>(chk (p9.length + 1≤2932031007402)).bind fun _=>some (.inl (IntKind.i64.wrap (p8 + 1),p9++[(1,y16,0,0)])) else (Zdc p9 a0 a1).map Sum.inr)
noncomputable def XD (a0 : Int) (a1 : (List (Arr 4))) : Option ((List Int)×Int) :=
 Zu (Zdd a1 a0) (0,[])
noncomputable def Yx (a0 : Int) : Option ((Arr 4)) :=
 some ((zA 4).put 0 a0)
noncomputable def YH (a0 : Int) : Option ((Arr 4)) :=
 (Yx a0).bind fun y1=>some (y1)
noncomputable def Zag (a0 : Int) : Option (Bool) :=
 some ((decide (1≤a0) && decide (a0≤17)))
noncomputable def ZdI (p8 : (List Int)) : Option (List Int) :=
 some (p8)
noncomputable def ZdJ (a0 : (List (List Int))) : (Int×(List Int))→Option ((Int×(List Int)) ⊕ ((List Int)))
 | (p7,p8)=>(if p7 < (a0.length : Int) then (idx (a0) (p7)).bind fun x11=>(chk (p8.length + x11.length≤140737488355328)).bind fun _=>some (.inl (IntKind.i64.wrap (p7 + 1),p8++x11)) else (ZdI p8).map Sum.inr)
noncomputable def Zbf (a0 : (List (List Int))) : Option ((List Int)) :=
 Zu (ZdJ a0) (0,[])
noncomputable def Xy (a0 : Int) (a1 : Int) : Option (Bool) :=
 some ((((decide (1≤a1) && decide (a1≤15)) && decide (1≤a0)) && decide (a0≤a1)))
noncomputable def Xz (x1 : Int) (p14 : (List Int)) (p15 : Int) (p16 : Int) (p17 : (List Int)) : Option (Tapi_Op×(List Int)×Int) :=
 some (((IntKind.i64.wrap (x1),p17,p15,p16),p14,0))
noncomputable def ZaE (a0 : (List Int)) : Option (Tapi_Op×(List Int)×Int) :=
 ((a0)[0]?).bind fun x1=>(Zag (IntKind.i64.wrap (x1))).bind fun y2=>(if ¬ (y2 = true) then some (((0,([] : (List Int)),0,0),([] : (List Int)),80)) else (chk (1≤(a0.length : Int))).bind fun _=>(if IntKind.i64.wrap (x1) = 1 then ((if (((a0).drop 1).length : Int) = 0 then some (false) else (((a0).drop 1)[0]?).bind fun x18=>some (decide (IntKind.i64.wrap ((((a0).drop 1).length : Int) - 1) < IntKind.i64.wrap (x18))))).bind fun z19=>(if ((((a0).drop 1).length : Int) = 0∨z19 = true) then some (((0,([] : (List Int)),0,0),([] : (List Int)),1)) else (((a0).drop 1)[0]?).bind fun x20=>(chk (1≤IntKind.i64.wrap (1 + (IntKind.i64.wrap (x20)))∧IntKind.i64.wrap (1 + (IntKind.i64.wrap (x20)))≤(((a0).drop 1).length : Int))).bind fun _=>(Zbf [(((a0).drop 1).take ((IntKind.i64.wrap (1 + (IntKind.i64.wrap (x20)))).toNat)).drop 1]).bind fun y22=>(chk (0≤IntKind.i64.wrap (1 + (IntKind.i64.wrap (x20)))∧IntKind.i64.wrap (1 + (IntKind.i64.wrap (x20)))≤(((a0).drop 1).length : Int))).bind fun _=>Xz x1 (((a0).drop 1).drop ((IntKind.i64.wrap (1 + (IntKind.i64.wrap (x20)))).toNat)) 0 0 y22) else (if IntKind.i64.wrap (x1) = 11 then (if (((a0).drop 1).length : Int) < 2 then some (((0,([] : (List Int)),0,0),([] : (List Int)),1)) else (((a0).drop 1)[0]?).bind fun x24=>(((a0).drop 1)[1]?).bind fun x25=>(chk (2≤(((a0).drop 1).length : Int))).bind fun _=>(Xy (IntKind.i64.wrap (x24)) (IntKind.i64.wrap (x25))).bind fun y27=>(if ¬ (y27 = true) then some (((0,([] : (List Int)),0,0),([] : (List Int)),5)) else Xz x1 (((a0).drop 1).drop 2) (IntKind.i64.wrap (x24)) (IntKind.i64.wrap (x25)) [])) else Xz x1 ((a0).drop 1) 0 0 [])))
noncomputable def ZcD (p7 : (List Tapi_Op)) : Option ((List Tapi_Op)×Int) :=
 some ((p7,0))
noncomputable def Lscript_Parse_s1 : ((List Int)×(List Tapi_Op))→Option (((List Int)×(List Tapi_Op)) ⊕ ((List Tapi_Op)×Int))
 | (p6,p7)=>(if 0 < (p6.length : Int) then (ZaE p6).bind fun y10=>(if ¬ (y10.2.2 = 0) then some (.inr ((([] : (List Tapi_Op)),y10.2.2))) else (chk (p7.length + 1≤2932031007402)).bind fun _=>some (.inl (y10.2.1,p7++[y10.1]))) else (ZcD p7).map Sum.inr)
noncomputable def XG (a0 : (List Int)) : Option ((List Tapi_Op)×Int) :=
 (if 520 < (a0.length : Int) then some ((([] : (List Tapi_Op)),4)) else Zu (Lscript_Parse_s1) (a0,[]))
noncomputable def Za1 (p10 : Int) : Option (Int×Int) :=
 some ((p10,0))
noncomputable def Za2 (a0 : (List Int)) : (Int×Int)→Option ((Int×Int) ⊕ (Int×Int))
 | (p10,p11)=>(if p11 < (a0.length : Int) then (idx (a0) (p11)).bind fun x14=>(chk (¬ (IntKind.i64.wrap (8 * p11) < 0))).bind fun _=>some (.inl (bits .or .u32 p10 (IntKind.u32.wrap ((IntKind.u32.wrap (x14)) * (2 ^ (min (IntKind.i64.wrap (8 * p11)).toNat 32)))),IntKind.i64.wrap (p11 + 1))) else (Za1 p10).map Sum.inr)
noncomputable def XO (a0 : (List Int)) : Option (Int×Int) :=
 ((if 4 < (a0.length : Int) then some (false) else ((if 0 < (a0.length : Int) then (idx (a0) (IntKind.i64.wrap ((a0.length : Int) - 1))).bind fun x1=>some (decide (x1 = 0)) else some (false))).bind fun z2=>some ((decide (0 < (a0.length : Int)) && z2)))).bind fun z3=>(if (4 < (a0.length : Int)∨z3 = true) then some ((0,82)) else Zu (Za2 a0) (0,0))
noncomputable def YP (a0 : (List Int)) : Option (Int) :=
 ((if (a0.length : Int) < 2 then some (false) else ((a0)[0]?).bind fun x1=>some (!(decide (x1 = 1))))).bind fun z2=>(if ((a0.length : Int) < 2∨z2 = true) then some (0) else ((a0)[1]?).bind fun x3=>(if (a0.length : Int) < IntKind.i64.wrap ((IntKind.i64.wrap (2 + (IntKind.i64.wrap (x3)))) + 2) then some (0) else (chk (2≤IntKind.i64.wrap (2 + (IntKind.i64.wrap (x3)))∧IntKind.i64.wrap (2 + (IntKind.i64.wrap (x3)))≤(a0.length : Int))).bind fun _=>(XO (((a0).take ((IntKind.i64.wrap (2 + (IntKind.i64.wrap (x3)))).toNat)).drop 2)).bind fun y5=>(if ¬ (y5.2 = 0) then some (0) else (idx (a0) (IntKind.i64.wrap (2 + (IntKind.i64.wrap (x3))))).bind fun x6=>((if (¬ (x6 = 12)∧¬ (x6 = 13)) then some (false) else (idx (a0) (IntKind.i64.wrap ((IntKind.i64.wrap (2 + (IntKind.i64.wrap (x3)))) + 1))).bind fun x7=>some (!(decide (x7 = 3))))).bind fun z8=>(if ((¬ (x6 = 12)∧¬ (x6 = 13))∨z8 = true) then some (0) else some (IntKind.i64.wrap ((IntKind.i64.wrap (2 + (IntKind.i64.wrap (x3)))) + 2))))))
noncomputable def Zb0 (p7 : (Arr 4)) : Option (Arr 4) :=
 some (p7)
noncomputable def Xm (a0 : (Arr 32)) : (Int×(Arr 4))→Option ((Int×(Arr 4)) ⊕ ((Arr 4)))
 | (p6,p7)=>(if p6 < 32 then (inA (32) (p6)).bind fun j10=>(inA (4) (IntKind.i64.wrap (3 - (IntKind.i64.wrap ((p6).tdiv 8))))).bind fun j11=>some (.inl (IntKind.i64.wrap (p6 + 1),p7.put j11 (bits .or .u64 (IntKind.u64.wrap ((p7.at j11) * 256)) (IntKind.u64.wrap (a0.at j10))))) else (Zb0 p7).map Sum.inr)
noncomputable def Yy (a0 : (Arr 32)) : Option ((Arr 4)) :=
 Zu (Xm a0) (0,zA 4)
noncomputable def ZcE (y13 : ((List Tapi_Op)×Int)) (p25 : (List (Arr 4))) : Option ((List (Arr 4))×Int×Bool) :=
 (idx (y13.1) (IntKind.i64.wrap ((y13.1.length : Int) - 1))).bind fun x30=>(if (x30.1 = 10∧(p25.length : Int) = 1) then some ((p25,1,true)) else (if (x30.1 = 11∧x30.2.2.2 = (p25.length : Int)) then some ((p25,x30.2.2.1,true)) else some ((([] : (List (Arr 4))),0,false))))
noncomputable def ZcF (y13 : ((List Tapi_Op)×Int)) : (Int×(List (Arr 4)))→Option ((Int×(List (Arr 4))) ⊕ ((List (Arr 4))×Int×Bool))
 | (p24,p25)=>(if p24 < (((y13.1).take ((IntKind.i64.wrap ((y13.1.length : Int) - 1)).toNat)).length : Int) then (idx ((y13.1).take ((IntKind.i64.wrap ((y13.1.length : Int) - 1)).toNat)) (p24)).bind fun x31=>(if (¬ (x31.1 = 1)∨¬ ((x31.2.1.length : Int) = 32)) then some (.inr ((([] : (List (Arr 4))),0,false))) else (chk (32≤x31.2.1.length)).bind fun _=>(Yy (Zg8 32 x31.2.1)).bind fun y33=>(chk (p25.length + 1≤4398046511104)).bind fun _=>some (.inl (IntKind.i64.wrap (p24 + 1),p25++[y33]))) else (ZcE y13 p25).map Sum.inr)
noncomputable def ZcG (p9 : (List Int)) : Option ((List (Arr 4))×Int×Bool) :=
 (XG p9).bind fun y13=>(if (¬ (y13.2 = 0)∨(y13.1.length : Int) < 2) then some ((([] : (List (Arr 4))),0,false)) else (chk (IntKind.i64.wrap ((y13.1.length : Int) - 1)≤(y13.1.length : Int)∧0≤IntKind.i64.wrap ((y13.1.length : Int) - 1))).bind fun _=>Zu (ZcF y13) (0,[]))
noncomputable def Lpartial_Keys_s1 : ((List Int)×Int)→Option (((List Int)×Int) ⊕ ((List (Arr 4))×Int×Bool))
 | (p9,p10)=>(if 0 < p10 then (chk (0≤p10∧p10≤(p9.length : Int))).bind fun _=>(YP ((p9).drop ((p10).toNat))).bind fun y36=>some (.inl ((p9).drop ((p10).toNat),y36)) else (ZcG p9).map Sum.inr)
noncomputable def XH (a0 : (List Int)) : Option ((List (Arr 4))×Int×Bool) :=
 (XG a0).bind fun y1=>(if ¬ (y1.2 = 0) then some ((([] : (List (Arr 4))),0,false)) else (YP a0).bind fun y2=>Zu (Lpartial_Keys_s1) (a0,y2))
noncomputable def Zah (a0 : (List Int)) (a1 : (List Int)) : Option ((List Int)) :=
 (XC [[14],a0,[15],a1,[16]]).bind fun y1=>some (y1)
noncomputable def Llaw35_sane : Option (Bool) :=
 (YH 4).bind fun y1=>(YH 16).bind fun y2=>(YH 64).bind fun y3=>(XD 2 [y1,y2,y3]).bind fun y4=>(XH y4.1).bind fun y5=>(Zah y4.1 y4.1).bind fun y6=>(XH y6).bind fun y7=>((if ((y5.2.2 = true∧y5.2.1 = 2)∧(y5.1.length : Int) = 3) then ((y5.1)[2]?).bind fun x8=>(YH 64).bind fun y9=>some (decide (x8 = y9)) else some (false))).bind fun z10=>some (((((y5.2.2 && decide (y5.2.1 = 2)) && decide ((y5.1.length : Int) = 3)) && z10) && !(y7.2.2)))
noncomputable def ZeS (p71 : (List Tapi_Signed)) (p70 : Tlightclientmill_Deck) : Option ((List Tapi_Signed)×Tlightclientmill_Deck) :=
 some ((p71,p70))
noncomputable def ZeT (p69 : Int) (p127 : Tlightclientmill_Deck) (p128 : (List Tapi_Signed)) : Option ((Int×Tlightclientmill_Deck×(List Tapi_Signed)) ⊕ ((List Tapi_Signed)×Tlightclientmill_Deck)) :=
 some (.inl (IntKind.i64.wrap (p69 + 1),p127,p128))
noncomputable def X2 (p126 : Int) (p145 : Tlightclientmill_Deck) (p146 : (List Tapi_Signed)) : Option ((Int×Tlightclientmill_Deck×(List Tapi_Signed)) ⊕ ((Int×Tlightclientmill_Deck×(List Tapi_Signed)) ⊕ ((List Tapi_Signed)×Tlightclientmill_Deck))) :=
 some (.inl (IntKind.u64.wrap (p126 * 4),p145,p146))
noncomputable def ZeU (p69 : Int) : (Int×Tlightclientmill_Deck×(List Tapi_Signed))→Option ((Int×Tlightclientmill_Deck×(List Tapi_Signed)) ⊕ ((Int×Tlightclientmill_Deck×(List Tapi_Signed)) ⊕ ((List Tapi_Signed)×Tlightclientmill_Deck)))
 | (p126,p127,p128)=>(if p126 < 70 then (Yh p127 2).bind fun y138=>(if y138.1 = 0 then (Yx p126).bind fun y147=>(Yh y138.2 3).bind fun y148=>(Yx (IntKind.u64.wrap (y148.1))).bind fun y149=>(Yh y148.2 3).bind fun y150=>(Yx (IntKind.u64.wrap (y150.1))).bind fun y151=>(chk (p128.length + 1≤1353245080339)).bind fun _=>X2 p126 y150.2 (p128++[(p69,y147,(y149,y151))]) else X2 p126 y138.2 p128) else (ZeT p69 p127 p128).map Sum.inr)
noncomputable def ZeV (a1 : Tapi_Plan) : (Int×Tlightclientmill_Deck×(List Tapi_Signed))→Option ((Int×Tlightclientmill_Deck×(List Tapi_Signed)) ⊕ ((List Tapi_Signed)×Tlightclientmill_Deck))
 | (p69,p70,p71)=>(if p69 < (a1.1.2.1.length : Int) then Zu (ZeU p69) (4,p70,p71) else (ZeS p71 p70).map Sum.inr)
noncomputable def X3 (a0 : Tlightclientmill_Deck) (a1 : Tapi_Plan) : Option ((List Tapi_Signed)×Tlightclientmill_Deck) :=
 Zu (ZeV a1) (0,a0,[])
noncomputable def Zau (a0 : (List Int)) : Option ((List Int)) :=
 (XF (1,a0,0,0)).bind fun y1=>some (y1)
noncomputable def XI (a0 : (Arr 4)) : Option ((List Int)) :=
 (Za9 a0).bind fun y1=>(Zau y1).bind fun y2=>(XC [y2,[10]]).bind fun y3=>some (y3)
noncomputable def ZdK (p5 : (List Int)) : Option (List Int) :=
 some (p5)
noncomputable def Lref08_Item_s1 : (Int×(List Int))→Option ((Int×(List Int)) ⊕ ((List Int)))
 | (p4,p5)=>(if 0 < p4 then (chk (p5.length + 1≤140737488355328)).bind fun _=>some (.inl (IntKind.u32.wrap ((p4).tdiv 256),p5++[IntKind.u8.wrap (p4)])) else (ZdK p5).map Sum.inr)
noncomputable def Zbg (a0 : Int) : Option ((List Int)) :=
 Zu (Lref08_Item_s1) (a0,[])
noncomputable def X4 (a0 : Int) (a1 : (List Int)) : Option ((List Int)) :=
 (Zbg a0).bind fun y1=>(Zau y1).bind fun y2=>(XC [y2,[12,3],a1]).bind fun y3=>some (y3)
noncomputable def Zbh (a0 : Tlightclientmill_Deck) : Option (Tapi_PartialTx×Tlightclientmill_Deck) :=
 (YH 4).bind fun y1=>(YH 16).bind fun y2=>(YH 4).bind fun y3=>(XD 2 [y1,y2,y3]).bind fun y4=>(YH 16).bind fun y5=>(XI y5).bind fun y6=>(X4 1 y4.1).bind fun y7=>(XW 2).bind fun y8=>(Yh a0 3).bind fun y9=>(chk (IntKind.i64.wrap (1 + y9.1)≤([y6,y7,y8].length : Int)∧0≤IntKind.i64.wrap (1 + y9.1))).bind fun _=>(ZbQ y9.2 (([y6,y7,y8]).take (IntKind.i64.wrap (1 + y9.1)).toNat)).bind fun y11=>(X3 y11.2 ((y11.1.1.1,y11.1.1.2.1,y11.1.1.2.2.1,y11.1.1.2.2.2),y11.1.2.1,y11.1.2.2.1,y11.1.2.2.2)).bind fun y12=>some (((((y11.1.1.1,y11.1.1.2.1,y11.1.1.2.2.1,y11.1.1.2.2.2),y11.1.2.1,y11.1.2.2.1,y11.1.2.2.2),y12.1),y12.2))
noncomputable def Lcmp_Or_of_int_k1 : Option Int :=
 some (0)
noncomputable def Xu (a0 : (List Int)) : Int→Option ((Int) ⊕ (Int))
 | p4=>(if p4 < (a0.length : Int) then (idx (a0) (p4)).bind fun x6=>(if ¬ (x6 = 0) then some (.inr (x6)) else some (.inl (IntKind.i64.wrap (p4 + 1)))) else (Lcmp_Or_of_int_k1).map Sum.inr)
noncomputable def XP (a0 : (List Int)) : Option (Int) :=
 Zu (Xu a0) 0
noncomputable def Y6 (a0 : Int) : Option (Bool) :=
 some (!(decide (a0 = a0)))
noncomputable def YT (a0 : Int) (a1 : Int) : Option (Int) :=
 (Y6 a0).bind fun y1=>(Y6 a1).bind fun y2=>(if y1 = true then (if y2 = true then some (0) else some ((-1))) else (if y2 = true then some (1) else (if a0 < a1 then some ((-1)) else (if a1 < a0 then some (1) else some (0)))))
noncomputable def Lwide_Cmp_k1 : Option Int :=
 some (0)
noncomputable def Zbu (a0 : (Arr 4)) (a1 : (Arr 4)) : Int→Option ((Int) ⊕ (Int))
 | p3=>(if 0≤p3 then (inA (4) (p3)).bind fun j5=>(if a0.at j5 < a1.at j5 then some (.inr ((-1))) else (if a1.at j5 < a0.at j5 then some (.inr (1)) else some (.inl (IntKind.i64.wrap (p3 - 1))))) else (Lwide_Cmp_k1).map Sum.inr)
noncomputable def Zb1 (a0 : (Arr 4)) (a1 : (Arr 4)) : Option (Int) :=
 Zu (Zbu a0 a1) 3
noncomputable def Y1 (a0 : Tapi_Signed) (a1 : Tapi_Signed) : Option (Int) :=
 (YT a0.1 a1.1).bind fun y1=>(Zb1 a0.2.1 a1.2.1).bind fun y2=>(XP [y1,y2]).bind fun y3=>some (y3)
noncomputable def Lgroup_Order : Option ((Arr 4)) :=
 some (((((zA 4).put 0 18446744073709533559).put 1 18446744073709551615).put 2 18446744073709551615).put 3 9223372036854775807)
noncomputable def X5 (a0 : (Arr 4)) : Option (Bool) :=
 (Lgroup_Order).bind fun y1=>(Zb1 a0 y1).bind fun y2=>some (decide (y2 < 0))
noncomputable def ZaF (a0 : (List Int)) : Option (Tapi_Signature×Int) :=
 (if ¬ ((a0.length : Int) = 64) then some (((zA 4,zA 4),8)) else (chk (32≤(a0.length : Int))).bind fun _=>(chk (32≤((a0).take 32).length)).bind fun _=>(Yy (Zg8 32 ((a0).take 32))).bind fun y3=>(chk (32≤(a0.length : Int))).bind fun _=>(chk (32≤((a0).drop 32).length)).bind fun _=>(Yy (Zg8 32 ((a0).drop 32))).bind fun y6=>(X5 y3).bind fun y7=>((if ¬ (y7 = true) then some (false) else (X5 y6).bind fun y8=>some (!(y8)))).bind fun z9=>(if (¬ (y7 = true)∨z9 = true) then some (((zA 4,zA 4),5)) else some (((y3,y6),0))))
noncomputable def ZiY (p8 : (List Int)) : Option (List Int) :=
 some (p8)
noncomputable def Zdl (a0 : (List (Arr 32))) : (Int×(List Int))→Option ((Int×(List Int)) ⊕ ((List Int)))
 | (p7,p8)=>(if p7 < (a0.length : Int) then (idx (a0) (p7)).bind fun x11=>(chk (p8.length + x11.l.length≤140737488355328)).bind fun _=>some (.inl (IntKind.i64.wrap (p7 + 1),p8++x11.l)) else (ZiY p8).map Sum.inr)
noncomputable def Zcs (a0 : (List (Arr 32))) : Option ((List Int)) :=
 Zu (Zdl a0) (0,[])
noncomputable def Zhj (p9 : (Arr 32)) : Option (Arr 32) :=
 some (p9)
noncomputable def Zcm (a0 : (Arr 4)) : (Int×(Arr 32))→Option ((Int×(Arr 32)) ⊕ ((Arr 32)))
 | (p8,p9)=>(if p8 < 32 then (inA (4) (IntKind.i64.wrap (3 - (IntKind.i64.wrap ((p8).tdiv 8))))).bind fun j13=>(chk (¬ (IntKind.i64.wrap (56 - (IntKind.i64.wrap (((p8).tmod 8) * 8))) < 0))).bind fun _=>(inA (32) (p8)).bind fun j15=>some (.inl (IntKind.i64.wrap (p8 + 1),p9.put j15 (IntKind.u8.wrap ((a0.at j13).fdiv (2 ^ (min (IntKind.i64.wrap (56 - (IntKind.i64.wrap (((p8).tmod 8) * 8)))).toNat 64)))))) else (Zhj p9).map Sum.inr)
noncomputable def Zav (a0 : (Arr 4)) : Option ((Arr 32)) :=
 Zu (Zcm a0) (0,zA 32)
noncomputable def ZaG (a0 : Tapi_Signature) : Option ((List Int)) :=
 (Zav a0.1).bind fun y1=>(Zav a0.2).bind fun y2=>(Zcs [y1,y2]).bind fun y3=>some (y3)
noncomputable def Lpartial_Valid_k1 : Option Bool :=
 some (true)
noncomputable def Za3 (a0 : Tapi_PartialTx) : Int→Option ((Int) ⊕ (Bool))
 | p15=>(if p15 < (a0.2.length : Int) then (idx (a0.2) (p15)).bind fun x22=>(if (x22.1 < 0∨(a0.1.1.2.1.length : Int)≤x22.1) then some (.inr (false)) else (ZaG x22.2.2).bind fun y23=>(ZaF y23).bind fun y24=>(if ¬ (y24.2 = 0) then some (.inr (false)) else ((if 0 < p15 then (idx (a0.2) (IntKind.i64.wrap (p15 - 1))).bind fun x25=>(Y1 x25 x22).bind fun y26=>some (decide (0≤y26)) else some (false))).bind fun z27=>(if (0 < p15∧z27 = true) then some (.inr (false)) else some (.inl (IntKind.i64.wrap (p15 + 1)))))) else (Lpartial_Valid_k1).map Sum.inr)
noncomputable def Xs (a0 : Tapi_PartialTx) : Option (Bool) :=
 (XB a0.1).bind fun y1=>(if ¬ (y1 = true) then some (false) else Zu (Za3 a0) 0)
noncomputable def X6 (a0 : (List Int)) (a1 : (List Int)) : Option (Bool) :=
 some (decide (Zju a0 = Zju a1))
noncomputable def Lslices_EqualFunc_of__byte_byte_byte_byte__bytes_Equal_k1 : Option Bool :=
 some (true)
noncomputable def Ya (a0 : (List (List Int))) (a1 : (List (List Int))) : Int→Option ((Int) ⊕ (Bool))
 | p8=>(if p8 < (a0.length : Int) then (idx (a0) (p8)).bind fun x12=>(idx (a1) (p8)).bind fun x13=>(X6 x12 x13).bind fun y14=>(if ¬ (y14 = true) then some (.inr (false)) else some (.inl (IntKind.i64.wrap (p8 + 1)))) else (Lslices_EqualFunc_of__byte_byte_byte_byte__bytes_Equal_k1).map Sum.inr)
noncomputable def ZM (a0 : (List (List Int))) (a1 : (List (List Int))) : Option (Bool) :=
 (if ¬ ((a0.length : Int) = (a1.length : Int)) then some (false) else Zu (Ya a0 a1) 0)
noncomputable def Y8 (a0 : Tapi_Input) (a1 : Tapi_Input) : Option (Bool) :=
 ((if ((a0.1.1 = a1.1.1∧a0.1.2 = a1.1.2)∧a0.2.1 = a1.2.1) then (ZM a0.2.2 a1.2.2).bind fun y1=>some (y1) else some (false))).bind fun z2=>some ((((decide (a0.1.1 = a1.1.1) && decide (a0.1.2 = a1.1.2)) && decide (a0.2.1 = a1.2.1)) && z2))
noncomputable def YI (a0 : Tapi_Output) (a1 : Tapi_Output) : Option (Bool) :=
 ((if a0.1 = a1.1 then (X6 a0.2 a1.2).bind fun y1=>some (y1) else some (false))).bind fun z2=>some ((decide (a0.1 = a1.1) && z2))
noncomputable def Y9 (a0 : Tapi_Coin) (a1 : Tapi_Coin) : Option (Bool) :=
 ((if (a0.1.1 = a1.1.1∧a0.1.2 = a1.1.2) then (YI a0.2.1 a1.2.1).bind fun y1=>some (y1) else some (false))).bind fun z2=>some (((((decide (a0.1.1 = a1.1.1) && decide (a0.1.2 = a1.1.2)) && z2) && decide (a0.2.2.1 = a1.2.2.1)) && (a0.2.2.2 == a1.2.2.2)))
noncomputable def Lslices_EqualFunc_of__api_Input_api_Input_api_Input_api_Input__partial_samePlan_1_k1 : Option Bool :=
 some (true)
noncomputable def ZS (a0 : (List Tapi_Input)) (a1 : (List Tapi_Input)) : Int→Option ((Int) ⊕ (Bool))
 | p8=>(if p8 < (a0.length : Int) then (idx (a0) (p8)).bind fun x12=>(idx (a1) (p8)).bind fun x13=>(Y8 x12 x13).bind fun y14=>(if ¬ (y14 = true) then some (.inr (false)) else some (.inl (IntKind.i64.wrap (p8 + 1)))) else (Lslices_EqualFunc_of__api_Input_api_Input_api_Input_api_Input__partial_samePlan_1_k1).map Sum.inr)
noncomputable def Zv (a0 : (List Tapi_Input)) (a1 : (List Tapi_Input)) : Option (Bool) :=
 (if ¬ ((a0.length : Int) = (a1.length : Int)) then some (false) else Zu (ZS a0 a1) 0)
noncomputable def Lslices_EqualFunc_of__api_Output_api_Output_api_Output_api_Output__partial_sameOutput_k1 : Option Bool :=
 some (true)
noncomputable def ZQ (a0 : (List Tapi_Output)) (a1 : (List Tapi_Output)) : Int→Option ((Int) ⊕ (Bool))
 | p8=>(if p8 < (a0.length : Int) then (idx (a0) (p8)).bind fun x12=>(idx (a1) (p8)).bind fun x13=>(YI x12 x13).bind fun y14=>(if ¬ (y14 = true) then some (.inr (false)) else some (.inl (IntKind.i64.wrap (p8 + 1)))) else (Lslices_EqualFunc_of__api_Output_api_Output_api_Output_api_Output__partial_sameOutput_k1).map Sum.inr)
noncomputable def Zs (a0 : (List Tapi_Output)) (a1 : (List Tapi_Output)) : Option (Bool) :=
 (if ¬ ((a0.length : Int) = (a1.length : Int)) then some (false) else Zu (ZQ a0 a1) 0)
noncomputable def Lslices_EqualFunc_of__api_Coin_api_Coin_api_Coin_api_Coin__partial_samePlan_2_k1 : Option Bool :=
 some (true)
noncomputable def ZT (a0 : (List Tapi_Coin)) (a1 : (List Tapi_Coin)) : Int→Option ((Int) ⊕ (Bool))
 | p8=>(if p8 < (a0.length : Int) then (idx (a0) (p8)).bind fun x12=>(idx (a1) (p8)).bind fun x13=>(Y9 x12 x13).bind fun y14=>(if ¬ (y14 = true) then some (.inr (false)) else some (.inl (IntKind.i64.wrap (p8 + 1)))) else (Lslices_EqualFunc_of__api_Coin_api_Coin_api_Coin_api_Coin__partial_samePlan_2_k1).map Sum.inr)
noncomputable def Zx (a0 : (List Tapi_Coin)) (a1 : (List Tapi_Coin)) : Option (Bool) :=
 (if ¬ ((a0.length : Int) = (a1.length : Int)) then some (false) else Zu (ZT a0 a1) 0)
noncomputable def Y7 (a0 : Tapi_Plan) (a1 : Tapi_Plan) : Option (Bool) :=
 ((if (((a0.1.1 = a1.1.1∧a0.1.2.2.2 = a1.1.2.2.2)∧a0.2.2.1 = a1.2.2.1)∧a0.2.2.2 = a1.2.2.2) then (Zv a0.1.2.1 a1.1.2.1).bind fun y1=>some (y1) else some (false))).bind fun z2=>((if ((((a0.1.1 = a1.1.1∧a0.1.2.2.2 = a1.1.2.2.2)∧a0.2.2.1 = a1.2.2.1)∧a0.2.2.2 = a1.2.2.2)∧z2 = true) then (Zs a0.1.2.2.1 a1.1.2.2.1).bind fun y3=>some (y3) else some (false))).bind fun z4=>((if (((((a0.1.1 = a1.1.1∧a0.1.2.2.2 = a1.1.2.2.2)∧a0.2.2.1 = a1.2.2.1)∧a0.2.2.2 = a1.2.2.2)∧z2 = true)∧z4 = true) then (Zx a0.2.1 a1.2.1).bind fun y5=>some (y5) else some (false))).bind fun z6=>some (((((((decide (a0.1.1 = a1.1.1) && decide (a0.1.2.2.2 = a1.1.2.2.2)) && decide (a0.2.2.1 = a1.2.2.1)) && decide (a0.2.2.2 = a1.2.2.2)) && z2) && z4) && z6))
noncomputable def Xn (a0 : (List Int)) : Option (List Int) :=
 (chk (a0.length≤140737488355328)).bind fun _=>some (a0)
noncomputable def Z3 (a0 : (List Tapi_Output)) : Option (List Tapi_Output) :=
 (chk (a0.length≤4398046511104)).bind fun _=>some (a0)
noncomputable def Yk (a0 : (List (List Int))) : Option (List (List Int)) :=
 (chk (a0.length≤5864062014805)).bind fun _=>some (a0)
noncomputable def Zd1 (p12 : (List (List Int))) : Option (List (List Int)) :=
 some (p12)
noncomputable def Zcd (y1 : ((List (List Int)))) : (Int×(List (List Int)))→Option ((Int×(List (List Int))) ⊕ ((List (List Int))))
 | (p11,p12)=>(if p11 < (y1.length : Int) then (inA (p12.length) (p11)).bind fun j16=>((p12)[j16]?).bind fun x17=>(Xn x17).bind fun y18=>some (.inl (IntKind.i64.wrap (p11 + 1),(p12).set j16 y18)) else (Zd1 p12).map Sum.inr)
noncomputable def YU (a0 : (List (List Int))) : Option ((List (List Int))) :=
 (Yk a0).bind fun y1=>Zu (Zcd y1) (0,y1)
noncomputable def Ze7 (a0 : Tapi_Tx) (p13 : (List Tapi_Input)) (p27 : (List Tapi_Output)) : Option Tapi_Tx :=
 some ((a0.1,p13,p27,a0.2.2.2))
noncomputable def Zak (y2 : ((List Tapi_Output))) (a0 : Tapi_Tx) (p13 : (List Tapi_Input)) : (Int×(List Tapi_Output))→Option ((Int×(List Tapi_Output)) ⊕ (Tapi_Tx))
 | (p26,p27)=>(if p26 < (y2.length : Int) then (inA (p27.length) (p26)).bind fun j31=>((p27)[j31]?).bind fun x32=>(Xn x32.2).bind fun y33=>some (.inl (IntKind.i64.wrap (p26 + 1),(p27).set j31 (x32.1,y33))) else (Ze7 a0 p13 p27).map Sum.inr)
noncomputable def ZbA (y2 : ((List Tapi_Output))) (a0 : Tapi_Tx) (p13 : (List Tapi_Input)) : Option Tapi_Tx :=
 Zu (Zak y2 a0 p13) (0,y2)
noncomputable def Zal (y1 : ((List Tapi_Input))) (y2 : ((List Tapi_Output))) (a0 : Tapi_Tx) : (Int×(List Tapi_Input))→Option ((Int×(List Tapi_Input)) ⊕ (Tapi_Tx))
 | (p12,p13)=>(if p12 < (y1.length : Int) then (inA (p13.length) (p12)).bind fun j34=>((p13)[j34]?).bind fun x35=>(YU x35.2.2).bind fun y36=>some (.inl (IntKind.i64.wrap (p12 + 1),(p13).set j34 (x35.1,x35.2.1,y36))) else (ZbA y2 a0 p13).map Sum.inr)
noncomputable def Xo (a0 : Tapi_Tx) : Option (Tapi_Tx) :=
 (Z4 a0.2.1).bind fun y1=>(Z3 a0.2.2.1).bind fun y2=>Zu (Zal y1 y2 a0) (0,y1)
noncomputable def Z5 (a0 : (List Tapi_Coin)) : Option (List Tapi_Coin) :=
 (chk (a0.length≤1599289640401)).bind fun _=>some (a0)
noncomputable def ZeD (y1 : (Tapi_Tx)) (p13 : (List Tapi_Coin)) (a0 : Tapi_Plan) : Option Tapi_Plan :=
 some (((y1.1,y1.2.1,y1.2.2.1,y1.2.2.2),p13,a0.2.2.1,a0.2.2.2))
noncomputable def XQ (y2 : ((List Tapi_Coin))) (y1 : (Tapi_Tx)) (a0 : Tapi_Plan) : (Int×(List Tapi_Coin))→Option ((Int×(List Tapi_Coin)) ⊕ (Tapi_Plan))
 | (p12,p13)=>(if p12 < (y2.length : Int) then (inA (p13.length) (p12)).bind fun j17=>((p13)[j17]?).bind fun x18=>(Xn x18.2.1.2).bind fun y19=>some (.inl (IntKind.i64.wrap (p12 + 1),(p13).set j17 (x18.1,(x18.2.1.1,y19),x18.2.2.1,x18.2.2.2))) else (ZeD y1 p13 a0).map Sum.inr)
noncomputable def YQ (a0 : Tapi_Plan) : Option (Tapi_Plan) :=
 (Xo a0.1).bind fun y1=>(Z5 a0.2.1).bind fun y2=>Zu (XQ y2 y1 a0) (0,y2)
noncomputable def Zad (p40 : (List Tapi_Signed)) (p38 : (List Tapi_Signed)) (p39 : (List Tapi_Signed)) (a0 : Tapi_PartialTx) : Option (Tapi_PartialTx×Int) :=
 (chk (p40.length + p38.length≤1353245080339)).bind fun _=>(chk (p40.length + p38.length + p39.length≤1353245080339)).bind fun _=>(YQ a0.1).bind fun y53=>some (((((y53.1.1,y53.1.2.1,y53.1.2.2.1,y53.1.2.2.2),y53.2.1,y53.2.2.1,y53.2.2.2),p40++p38++p39),0))
noncomputable def YW (a0 : Tapi_PartialTx) : ((List Tapi_Signed)×(List Tapi_Signed)×(List Tapi_Signed))→Option (((List Tapi_Signed)×(List Tapi_Signed)×(List Tapi_Signed)) ⊕ (Tapi_PartialTx×Int))
 | (p38,p39,p40)=>(if (0 < (p38.length : Int)∧0 < (p39.length : Int)) then ((p38)[0]?).bind fun x54=>((p39)[0]?).bind fun x55=>(Y1 x54 x55).bind fun y56=>(if y56 < 0 then (chk (p40.length + 1≤1353245080339)).bind fun _=>(chk (1≤(p38.length : Int))).bind fun _=>some (.inl ((p38).drop 1,p39,p40++[x54])) else (if 0 < y56 then (chk (p40.length + 1≤1353245080339)).bind fun _=>(chk (1≤(p39.length : Int))).bind fun _=>some (.inl (p38,(p39).drop 1,p40++[x55])) else (if ¬ ((x54.2.2.1 = x55.2.2.1∧x54.2.2.2 = x55.2.2.2)) then some (.inr (((((0,([] : (List Tapi_Input)),([] : (List Tapi_Output)),0),([] : (List Tapi_Coin)),0,0),([] : (List Tapi_Signed))),350))) else (chk (p40.length + 1≤1353245080339)).bind fun _=>(chk (1≤(p38.length : Int))).bind fun _=>(chk (1≤(p39.length : Int))).bind fun _=>some (.inl ((p38).drop 1,(p39).drop 1,p40++[x54]))))) else (Zad p40 p38 p39 a0).map Sum.inr)
noncomputable def XR (a0 : Tapi_PartialTx) (a1 : Tapi_PartialTx) : Option (Tapi_PartialTx×Int) :=
 (Xs a0).bind fun y1=>((if ¬ (y1 = true) then some (false) else (Xs a1).bind fun y2=>some (!(y2)))).bind fun z3=>(if (¬ (y1 = true)∨z3 = true) then some (((((0,([] : (List Tapi_Input)),([] : (List Tapi_Output)),0),([] : (List Tapi_Coin)),0,0),([] : (List Tapi_Signed))),6)) else (Y7 a0.1 a1.1).bind fun y4=>(if ¬ (y4 = true) then some (((((0,([] : (List Tapi_Input)),([] : (List Tapi_Output)),0),([] : (List Tapi_Coin)),0,0),([] : (List Tapi_Signed))),350)) else Zu (YW a0) (a0.2,a1.2,[])))
noncomputable def Xt (a0 : Tapi_Output) (a1 : Tapi_Output) : Option (Bool) :=
 ((if a0.1 = a1.1 then (Zbe a0.2 a1.2).bind fun y1=>some (y1) else some (false))).bind fun z2=>some ((decide (a0.1 = a1.1) && z2))
noncomputable def Lref09_SameTx_k2 : Option Bool :=
 some (true)
noncomputable def ZcH (a0 : Tapi_Tx) (a1 : Tapi_Tx) : Int→Option ((Int) ⊕ (Bool))
 | p49=>(if p49 < (a0.2.2.1.length : Int) then (idx (a0.2.2.1) (p49)).bind fun x53=>(idx (a1.2.2.1) (p49)).bind fun x54=>(Xt x53 x54).bind fun y55=>(if ¬ (y55 = true) then some (.inr (false)) else some (.inl (IntKind.i64.wrap (p49 + 1)))) else (Lref09_SameTx_k2).map Sum.inr)
noncomputable def ZcI (a0 : Tapi_Tx) (a1 : Tapi_Tx) : Option Bool :=
 Zu (ZcH a0 a1) 0
noncomputable def ZgA (p28 : Int) : Option ((Int) ⊕ (Bool)) :=
 some (.inl (IntKind.i64.wrap (p28 + 1)))
noncomputable def Zet (x56 : Tapi_Input) (x57 : Tapi_Input) (p28 : Int) : Int→Option ((Int) ⊕ ((Int) ⊕ (Bool)))
 | p65=>(if p65 < (x56.2.2.length : Int) then (idx (x56.2.2) (p65)).bind fun x69=>(idx (x57.2.2) (p65)).bind fun x70=>(Zbe x69 x70).bind fun y71=>(if ¬ (y71 = true) then some (.inr (.inr (false))) else some (.inl (IntKind.i64.wrap (p65 + 1)))) else (ZgA p28).map Sum.inr)
noncomputable def ZcJ (a0 : Tapi_Tx) (a1 : Tapi_Tx) : Int→Option ((Int) ⊕ (Bool))
 | p28=>(if p28 < (a0.2.1.length : Int) then (idx (a0.2.1) (p28)).bind fun x56=>(idx (a1.2.1) (p28)).bind fun x57=>(if ((¬ ((x56.1.1 = x57.1.1∧x56.1.2 = x57.1.2))∨¬ (x56.2.1 = x57.2.1))∨¬ ((x56.2.2.length : Int) = (x57.2.2.length : Int))) then some (.inr (false)) else Zu (Zet x56 x57 p28) 0) else (ZcI a0 a1).map Sum.inr)
noncomputable def Zai (a0 : Tapi_Tx) (a1 : Tapi_Tx) : Option (Bool) :=
 (if (((¬ (a0.1 = a1.1)∨¬ (a0.2.2.2 = a1.2.2.2))∨¬ ((a0.2.1.length : Int) = (a1.2.1.length : Int)))∨¬ ((a0.2.2.1.length : Int) = (a1.2.2.1.length : Int))) then some (false) else Zu (ZcJ a0 a1) 0)
noncomputable def X7 (a0 : Tapi_Coin) (a1 : Tapi_Coin) : Option (Bool) :=
 ((if (a0.1.1 = a1.1.1∧a0.1.2 = a1.1.2) then (Xt a0.2.1 a1.2.1).bind fun y1=>some (y1) else some (false))).bind fun z2=>some (((((decide (a0.1.1 = a1.1.1) && decide (a0.1.2 = a1.1.2)) && z2) && decide (a0.2.2.1 = a1.2.2.1)) && (a0.2.2.2 == a1.2.2.2)))
noncomputable def Lref34_Same_k1 : Option Bool :=
 some (true)
noncomputable def ZdL (a0 : Tapi_Plan) (a1 : Tapi_Plan) : Int→Option ((Int) ⊕ (Bool))
 | p9=>(if p9 < (a0.2.1.length : Int) then (idx (a0.2.1) (p9)).bind fun x13=>(idx (a1.2.1) (p9)).bind fun x14=>(X7 x13 x14).bind fun y15=>(if ¬ (y15 = true) then some (.inr (false)) else some (.inl (IntKind.i64.wrap (p9 + 1)))) else (Lref34_Same_k1).map Sum.inr)
noncomputable def Zaw (a0 : Tapi_Plan) (a1 : Tapi_Plan) : Option (Bool) :=
 (Zai a0.1 a1.1).bind fun y1=>(if (((¬ (y1 = true)∨¬ (a0.2.2.1 = a1.2.2.1))∨¬ (a0.2.2.2 = a1.2.2.2))∨¬ ((a0.2.1.length : Int) = (a1.2.1.length : Int))) then some (false) else Zu (ZdL a0 a1) 0)
noncomputable def Lref35_Same_k1 : Option Bool :=
 some (true)
noncomputable def ZdM (a0 : Tapi_PartialTx) (a1 : Tapi_PartialTx) : Int→Option ((Int) ⊕ (Bool))
 | p7=>(if p7 < (a0.2.length : Int) then (idx (a0.2) (p7)).bind fun x10=>(idx (a1.2) (p7)).bind fun x11=>(if ¬ ((x10.1 = x11.1∧(x10.2.1 = x11.2.1∧(x10.2.2.1 = x11.2.2.1∧x10.2.2.2 = x11.2.2.2)))) then some (.inr (false)) else some (.inl (IntKind.i64.wrap (p7 + 1)))) else (Lref35_Same_k1).map Sum.inr)
noncomputable def Zax (a0 : Tapi_PartialTx) (a1 : Tapi_PartialTx) : Option (Bool) :=
 (Zaw a0.1 a1.1).bind fun y1=>(if (¬ (y1 = true)∨¬ ((a0.2.length : Int) = (a1.2.length : Int))) then some (false) else Zu (ZdM a0 a1) 0)
end Go.Lc
end
section
namespace Go.Lc
open Go.RowKit
open Go.Av
set_option maxRecDepth 100000
set_option linter.unusedSimpArgs false
set_option linter.unusedVariables false
noncomputable def ZcK (a0 : (Arr 4)) : Option ((Arr 4)) :=
 some (((((zA 4).put 0 (bits .xor .u64 18446744073709551615 (a0.at 0))).put 1 (bits .xor .u64 18446744073709551615 (a0.at 1))).put 2 (bits .xor .u64 18446744073709551615 (a0.at 2))).put 3 (bits .xor .u64 18446744073709551615 (a0.at 3)))
noncomputable def ZaR (a0 : Tapi_PartialTx) (p16 : (List Tapi_Signed)) (p18 : Int) : Option Tapi_PartialTx :=
 some (((a0.1.1,a0.1.2.1,p18,a0.1.2.2.2),p16))
noncomputable def Yz (a1 : Int) (a0 : Tapi_PartialTx) (p16 : (List Tapi_Signed)) : Option Tapi_PartialTx :=
 (XN a1 7).bind fun y17=>(if y17 = 6 then ZaR a0 p16 (IntKind.i64.wrap (a0.1.2.2.1 + 1)) else ZaR a0 p16 a0.1.2.2.1)
noncomputable def X8 (a0 : Tapi_PartialTx) (a1 : Int) (a2 : Int) : Option (Tapi_PartialTx) :=
 (chk (a0.2.length≤1353245080339)).bind fun _=>(if 0 < (a0.2.length : Int) then (XN a2 (a0.2.length : Int)).bind fun y19=>(inA (a0.2.length) (y19)).bind fun j20=>(XN a1 6).bind fun y21=>(if y21 = 0 then (XN a2 5).bind fun y22=>((a0.2)[j20]?).bind fun x23=>Yz a1 a0 ((a0.2).set j20 (IntKind.i64.wrap (y22 - 1),x23.2.1,x23.2.2)) else (if y21 = 1 then (ZcK (zA 4)).bind fun y24=>((a0.2)[j20]?).bind fun x25=>Yz a1 a0 ((a0.2).set j20 (x25.1,x25.2.1,(y24,x25.2.2.2))) else (if y21 = 2 then (XN a2 70).bind fun y26=>(YH (IntKind.u64.wrap (y26))).bind fun y27=>((a0.2)[j20]?).bind fun x28=>Yz a1 a0 ((a0.2).set j20 (x28.1,y27,x28.2.2)) else (if y21 = 3 then ((a0.2)[j20]?).bind fun x29=>(chk (a0.2.length + 1≤1353245080339)).bind fun _=>Yz a1 a0 (a0.2++[x29]) else (if y21 = 4 then (YH 9).bind fun y31=>((a0.2)[j20]?).bind fun x32=>Yz a1 a0 ((a0.2).set j20 (x32.1,x32.2.1,(x32.2.2.1,y31))) else Yz a1 a0 a0.2))))) else Yz a1 a0 a0.2)
noncomputable def Lref02_Cmp_k1 : Option Int :=
 some (0)
noncomputable def Ziu (a0 : (Arr 4)) (a1 : (Arr 4)) : Int→Option ((Int) ⊕ (Int))
 | p3=>(if 0≤p3 then (inA (4) (p3)).bind fun j5=>(if a0.at j5 < a1.at j5 then some (.inr ((-1))) else (if a1.at j5 < a0.at j5 then some (.inr (1)) else some (.inl (IntKind.i64.wrap (p3 - 1))))) else (Lref02_Cmp_k1).map Sum.inr)
noncomputable def Zba (a0 : (Arr 4)) (a1 : (Arr 4)) : Option (Int) :=
 Zu (Ziu a0 a1) 3
noncomputable def Zb2 (a0 : (Arr 4)) (a1 : Int) : Option (Bool) :=
 (inA (4) (IntKind.i64.wrap ((a1).tdiv 64))).bind fun j1=>(chk (¬ ((a1).tmod 64 < 0))).bind fun _=>some (decide (bits .and .u64 ((a0.at j1).fdiv (2 ^ (min ((a1).tmod 64).toNat 64))) 1 = 1))
noncomputable def Zed (p12 : (Arr 4)) : Option (Arr 4) :=
 some (p12)
noncomputable def ZaX (p11 : Int) (p20 : (Arr 4)) : Option ((Int×(Arr 4)) ⊕ ((Arr 4))) :=
 some (.inl (IntKind.i64.wrap (p11 + 1),p20))
noncomputable def Zee (a1 : Int) (a0 : (Arr 4)) : (Int×(Arr 4))→Option ((Int×(Arr 4)) ⊕ ((Arr 4)))
 | (p11,p12)=>(if IntKind.i64.wrap (p11 + a1) < 256 then (Zb2 a0 (IntKind.i64.wrap (p11 + a1))).bind fun y17=>(if y17 = true then (inA (4) (IntKind.i64.wrap ((p11).tdiv 64))).bind fun j21=>(chk (¬ ((p11).tmod 64 < 0))).bind fun _=>ZaX p11 (p12.put j21 (bits .or .u64 (p12.at j21) (IntKind.u64.wrap (1 * (2 ^ (min ((p11).tmod 64).toNat 64)))))) else ZaX p11 p12) else (Zed p12).map Sum.inr)
noncomputable def Zb3 (a0 : (Arr 4)) (a1 : Int) : Option ((Arr 4)) :=
 (if a1≤0 then some (a0) else (if 256≤a1 then some (zA 4) else Zu (Zee a1 a0) (0,zA 4)))
noncomputable def Zap (a0 : Int) (a1 : Int) (a2 : Int) : Option (Int×Int) :=
 (chk ((0≤a0∧0≤a1)∧(a1≤18446744073709551615∧0≤a2)∧a2≤1)).bind fun _=>some ((a0 + 18446744073709551616 - a1 - a2) % 18446744073709551616,if a0 < a1 + a2 then 1 else 0)
noncomputable def Zef (p9 : (Arr 4)) (p7 : Int) : Option ((Arr 4)×Bool) :=
 some ((p9,decide (p7 = 1)))
noncomputable def Zeg (a0 : (Arr 4)) (a1 : (Arr 4)) : (Int×Int×(Arr 4))→Option ((Int×Int×(Arr 4)) ⊕ ((Arr 4)×Bool))
 | (p7,p8,p9)=>(if p8 < 4 then (inA (4) (p8)).bind fun j12=>(Zap (a0.at j12) (a1.at j12) p7).bind fun y13=>some (.inl (y13.2,IntKind.i64.wrap (p8 + 1),p9.put j12 y13.1)) else (Zef p9 p7).map Sum.inr)
noncomputable def Zb4 (a0 : (Arr 4)) (a1 : (Arr 4)) : Option ((Arr 4)×Bool) :=
 Zu (Zeg a0 a1) (0,0,zA 4)
noncomputable def Lref05_Modulus : Option ((Arr 4)) :=
 (Yx 36113).bind fun y1=>(Zb4 (zA 4) y1).bind fun y2=>some (y2.1)
noncomputable def Lref05_Order : Option ((Arr 4)) :=
 (Lref05_Modulus).bind fun y1=>(Zb3 y1 1).bind fun y2=>some (y2)
noncomputable def XJ (a0 : Tapi_Signed) (a1 : Tapi_Signed) : Option (Bool) :=
 ((if a0.1 < a1.1 then some (false) else ((if a0.1 = a1.1 then (Zba a0.2.1 a1.2.1).bind fun y1=>some (decide (y1 < 0)) else some (false))).bind fun z2=>some ((decide (a0.1 = a1.1) && z2)))).bind fun z3=>some ((decide (a0.1 < a1.1) || z3))
noncomputable def Lref35_Valid_k1 : Option Bool :=
 some (true)
noncomputable def Zb5 (a0 : Tapi_PartialTx) : Int→Option ((Int) ⊕ (Bool))
 | p25=>(if p25 < (a0.2.length : Int) then (idx (a0.2) (p25)).bind fun x37=>((if (x37.1 < 0∨(a0.1.1.2.1.length : Int)≤x37.1) then some (false) else (Lref05_Order).bind fun y38=>(Zba x37.2.2.1 y38).bind fun y39=>some (decide (0≤y39)))).bind fun z40=>((if ((x37.1 < 0∨(a0.1.1.2.1.length : Int)≤x37.1)∨z40 = true) then some (false) else (Lref05_Order).bind fun y41=>(Zba x37.2.2.2 y41).bind fun y42=>some (decide (0≤y42)))).bind fun z43=>((if (((x37.1 < 0∨(a0.1.1.2.1.length : Int)≤x37.1)∨z40 = true)∨z43 = true) then some (false) else ((if 0 < p25 then (idx (a0.2) (IntKind.i64.wrap (p25 - 1))).bind fun x44=>(XJ x44 x37).bind fun y45=>some (!(y45)) else some (false))).bind fun z46=>some ((decide (0 < p25) && z46)))).bind fun z47=>(if ((((x37.1 < 0∨(a0.1.1.2.1.length : Int)≤x37.1)∨z40 = true)∨z43 = true)∨z47 = true) then some (.inr (false)) else some (.inl (IntKind.i64.wrap (p25 + 1)))) else (Lref35_Valid_k1).map Sum.inr)
noncomputable def X9 (a0 : Tapi_PartialTx) : Option (Bool) :=
 (X1 a0.1).bind fun y1=>(if ¬ (y1 = true) then some (false) else Zu (Zb5 a0) 0)
noncomputable def Lref35_find_k1 : Option Int :=
 some ((-1))
noncomputable def Zbn (a0 : (List Tapi_Signed)) (a1 : Int) (a2 : (Arr 4)) : Int→Option ((Int) ⊕ (Int))
 | p4=>(if p4 < (a0.length : Int) then (idx (a0) (p4)).bind fun x6=>(if (x6.1 = a1∧x6.2.1 = a2) then some (.inr (p4)) else some (.inl (IntKind.i64.wrap (p4 + 1)))) else (Lref35_find_k1).map Sum.inr)
noncomputable def Zay (a0 : (List Tapi_Signed)) (a1 : Int) (a2 : (Arr 4)) : Option (Int) :=
 Zu (Zbn a0 a1 a2) 0
noncomputable def ZbI (p8 : Int) (a0 : (List Tapi_Signed)) (a1 : Tapi_Signed) : Option (List Tapi_Signed) :=
 (chk (p8≤(a0.length : Int)∧0≤p8)).bind fun _=>(chk (((a0).take ((p8).toNat)).length≤1353245080339)).bind fun _=>(chk (((a0).take ((p8).toNat)).length + 1≤1353245080339)).bind fun _=>(chk (0≤p8∧p8≤(a0.length : Int))).bind fun _=>(chk (((a0).take ((p8).toNat)).length + 1 + ((a0).drop ((p8).toNat)).length≤1353245080339)).bind fun _=>some ((a0).take ((p8).toNat)++[a1]++(a0).drop ((p8).toNat))
noncomputable def ZcT (a0 : (List Tapi_Signed)) (a1 : Tapi_Signed) : Int→Option ((Int) ⊕ ((List Tapi_Signed)))
 | p8=>((if p8 < (a0.length : Int) then (idx (a0) (p8)).bind fun x17=>(XJ x17 a1).bind fun y18=>some (y18) else some (false))).bind fun z19=>(if (p8 < (a0.length : Int)∧z19 = true) then some (.inl (IntKind.i64.wrap (p8 + 1))) else (ZbI p8 a0 a1).map Sum.inr)
noncomputable def Zb6 (a0 : (List Tapi_Signed)) (a1 : Tapi_Signed) : Option ((List Tapi_Signed)) :=
 Zu (ZcT a0 a1) 0
noncomputable def ZgS (a0 : Tapi_PartialTx) (p19 : (List Tapi_Signed)) : Option (Tapi_PartialTx×Int) :=
 some (((a0.1,p19),0))
noncomputable def ZaS (p18 : Int) (p29 : (List Tapi_Signed)) : Option ((Int×(List Tapi_Signed)) ⊕ (Tapi_PartialTx×Int)) :=
 some (.inl (IntKind.i64.wrap (p18 + 1),p29))
noncomputable def Zaa (a1 : Tapi_PartialTx) (a0 : Tapi_PartialTx) : (Int×(List Tapi_Signed))→Option ((Int×(List Tapi_Signed)) ⊕ (Tapi_PartialTx×Int))
 | (p18,p19)=>(if p18 < (a1.2.length : Int) then (idx (a1.2) (p18)).bind fun x25=>(Zay a0.2 x25.1 x25.2.1).bind fun y26=>(if y26 < 0 then (Zb6 p19 x25).bind fun y30=>ZaS p18 y30 else (idx (a0.2) (y26)).bind fun x31=>(if ¬ ((x31.1 = x25.1∧(x31.2.1 = x25.2.1∧(x31.2.2.1 = x25.2.2.1∧x31.2.2.2 = x25.2.2.2)))) then some (.inr (((((0,([] : (List Tapi_Input)),([] : (List Tapi_Output)),0),([] : (List Tapi_Coin)),0,0),([] : (List Tapi_Signed))),350))) else ZaS p18 p19)) else (ZgS a0 p19).map Sum.inr)
noncomputable def ZaH (a0 : Tapi_PartialTx) (a1 : Tapi_PartialTx) : Option (Tapi_PartialTx×Int) :=
 (X9 a0).bind fun y1=>((if ¬ (y1 = true) then some (false) else (X9 a1).bind fun y2=>some (!(y2)))).bind fun z3=>(if (¬ (y1 = true)∨z3 = true) then some (((((0,([] : (List Tapi_Input)),([] : (List Tapi_Output)),0),([] : (List Tapi_Coin)),0,0),([] : (List Tapi_Signed))),6)) else (Zaw a0.1 a1.1).bind fun y4=>(if ¬ (y4 = true) then some (((((0,([] : (List Tapi_Input)),([] : (List Tapi_Output)),0),([] : (List Tapi_Coin)),0,0),([] : (List Tapi_Signed))),350)) else (chk (a0.2.length≤1353245080339)).bind fun _=>Zu (Zaa a1 a0) (0,a0.2)))
noncomputable def Llaw35_PartialMerges_k1 : Option Bool :=
 some (true)
noncomputable def Zaj (y3 : (Tapi_PartialTx×Tlightclientmill_Deck)) (y5 : ((List Tapi_Signed)×Tlightclientmill_Deck)) (y6 : (Tapi_PartialTx)) (y7 : (Tapi_PartialTx)) : Int→Option ((Int) ⊕ (Bool))
 | p19=>(if p19 < (3 : Int) then (inA (3) (p19)).bind fun j26=>(([(y3.1.1,y5.1),((y6.1.1,y6.1.2.1,y6.1.2.2.1,y6.1.2.2.2),y6.2),((y7.1.1,y7.1.2.1,y7.1.2.2.1,y7.1.2.2.2),y7.2)])[j26]?).bind fun x27=>(XR y3.1 x27).bind fun y28=>(ZaH y3.1 x27).bind fun y29=>((if ¬ (y28.2 = y29.2) then some (false) else (Zax y28.1 y29.1).bind fun y30=>some (!(y30)))).bind fun z31=>(if (¬ (y28.2 = y29.2)∨z31 = true) then some (.inr (false)) else some (.inl (IntKind.i64.wrap (p19 + 1)))) else (Llaw35_PartialMerges_k1).map Sum.inr)
noncomputable def Y2 (a0 : (List Int)) (a1 : (List Int)) (a2 : Int) (a3 : Int) : Option (Bool) :=
 (Llaw35_sane).bind fun y1=>(if ¬ (y1 = true) then some (false) else (Zcp a0).bind fun y2=>(Zbh y2).bind fun y3=>(Zcp a1).bind fun y4=>(X3 y4 y3.1.1).bind fun y5=>(X8 (y3.1.1,y5.1) a2 a3).bind fun y6=>(X8 y3.1 a2 a3).bind fun y7=>Zu (Zaj y3 y5 y6 y7) 0)
end Go.Lc
end
section
namespace Go.Av
theorem ZnD {x : Int} (h : (Lit.int .i64 x).wf = true) : -9223372036854775808≤x∧x≤9223372036854775807:=by simpa [Lit.wf,IntKind.has,IntKind.min,IntKind.max,IntKind.signed,IntKind.bits] using h
end Go.Av
end
section
namespace Go.Lc
open Go.RowKit
open Go.Av
set_option linter.unusedVariables false
theorem Zbv {σ ρ : Type} {step : σ→Option (σ ⊕ ρ)} {s s' : σ} (h : step s = some (.inl s')) : Zu step s = Zu step s' := by rw [Zge,h]
theorem Zbw {σ ρ : Type} {step : σ→Option (σ ⊕ ρ)} {s : σ} {x : Option ρ} (h : step s = x.map .inr) : Zu step s = x:=by
 rw [Zge,h];cases x <;> rfl
theorem Zd2 {σ ρ : Type} {step : σ→Option (σ ⊕ ρ)} {s : σ} {r : ρ} (h : step s = some (.inr r)) : Zu step s = some r:=by rw [Zge,h]
theorem Yu {σ ρ : Type} {step : σ→Option (σ ⊕ ρ)} (enc : Nat→σ) (n : Nat) {x : Option ρ} (h : ∀ i,i < n→step (enc i) = some (.inl (enc (i + 1)))) (he : step (enc n) = x.map .inr) : Zu step (enc 0) = x:=by
 have key : ∀ k,k≤n→Zu step (enc (n - k)) = x:=by
  intro k;induction k with
  | zero=>intro _; exact Zbw he
  | succ k ih =>
   intro hk;rw [Zbv (h (n - (k + 1)) (by omega)),show n - (k + 1) + 1 = n - k by omega];exact ih (by omega)
 have:=key n (Nat.le_refl _)
 rwa [Nat.sub_self] at this
theorem Zd3 {σ ρ : Type} {step : σ→Option (σ ⊕ ρ)} (I : Nat→σ→Prop) (Q : ρ→Prop) (h : ∀ i s,I i s→(∃ j s',j < i∧step s = some (.inl s')∧I j s')∨∃ r,step s = some (.inr r)∧Q r) : ∀ (n : Nat) (s : σ),I n s→∃ r,Zu step s = some r∧Q r:=by
 intro n;induction n using Nat.strongRecOn with
 | _ n ih =>
  intro s hs;rcases h n s hs with ⟨j,s',hj,h1,h2⟩ | ⟨r,h1,h2⟩
  ·obtain ⟨r,h3,h4⟩:=ih j hj s' h2
   exact ⟨r,(Zbv h1).trans h3,h4⟩
  ·exact ⟨r,Zd2 h1,h2⟩
def Tot {α : Type} (x : Option α) (Q : α→Prop) : Prop:=∃ a,x = some a∧Q a
section
variable {α β : Type} {x : Option α} {f : α→Option β} {P : α→Prop} {Q : β→Prop}
theorem Tot.bind (h : Tot x P) (k : ∀ a,P a→Tot (f a) Q) : Tot (x.bind f) Q:=by
 obtain ⟨a,rfl,ha⟩:=h;exact k a ha
theorem Tot.mono {P' : α→Prop} (h : Tot x P) (k : ∀ a,P a→P' a) : Tot x P' := by
 obtain ⟨a,h1,ha⟩:=h;exact ⟨a,h1,k a ha⟩
theorem Xv {a : α} (h : P a) : Tot (some a) P:=⟨a,rfl,h⟩
theorem Zbo {c : Prop} [Decidable c] {a b : Option α} (h1 : c→Tot a P) (h2 : ¬ c→Tot b P) : Tot (if c then a else b) P:=by
 by_cases h : c
 ·rw [if_pos h]; exact h1 h
 ·rw [if_neg h]; exact h2 h
theorem Tot.inr {ρ σ : Type} {x : Option ρ} {Q : ρ→Prop} (h : Tot x Q) : ∃ r,(x.map Sum.inr : Option (σ ⊕ ρ)) = some (.inr r)∧Q r:=by
 obtain ⟨a,rfl,ha⟩:=h;exact ⟨a,rfl,ha⟩
end
theorem Zf {α β : Type} (a : α) (f : α→Option β) : (some a).bind f = f a:=rfl
theorem ZR {p : Prop} [Decidable p] {α : Type} {f : Unit→Option α} (h : p) : (chk p).bind f = f ():=by rw [ZrA h]; rfl
theorem ZrD {α : Type} {l : List α} {i : Nat} (h : i < l.length) : idx l (i : Int) = some l[i]:=by simp [idx,h]
theorem Zw {α β : Type} {l : List α} {i : Nat} {f : α→Option β} (h : i < l.length) : (idx l (i : Int)).bind f = f l[i]:=by rw [ZrD h]; rfl
theorem ZrE {n i : Nat} (h : i < n) : inA n (i : Int) = some i:=by simp [inA,h]
theorem ZaY {β : Type} {n i : Nat} {f : Nat→Option β} (h : i < n) : (inA n (i : Int)).bind f = f i:=by rw [ZrE h]; rfl
theorem ZgB {α β : Type} {l : List α} {i : Nat} {f : α→Option β} (h : i < l.length) : (l[i]?).bind f = f l[i]:=by rw [List.getElem?_eq_getElem h]; rfl
theorem wi (n : Int) (h : -9223372036854775808≤n∧n≤9223372036854775807) : IntKind.i64.wrap n = n:=IntWalk.i64_in n h
theorem Z7 {i n : Nat} (h : i < n) (hn : n≤9223372036854775807) : IntKind.i64.wrap ((i : Int) + 1) = ((i + 1 : Nat) : Int):=by rw [wi _ (by omega)]; omega
theorem wu (n : Int) (h : 0≤n∧n≤18446744073709551615) : IntKind.u64.wrap n = n:=IntWalk.u64_in n h
theorem ZlL {α : Type} (f : Nat→α) (z : α) {i k : Nat} (h : i < k) : (((List.range i).map f)++List.replicate (k - i) z).set i (f i) = ((List.range (i + 1)).map f)++List.replicate (k - (i + 1)) z:=by
 rw [List.set_append_right _ _ (by simp)];simp only [List.length_map,List.length_range,Nat.sub_self];rw [show k - i = (k - (i + 1)) + 1 by omega,List.replicate_succ,List.set_cons_zero,List.range_succ,List.map_append];simp
theorem ZmO {α : Type} (f : Nat→α) (z : α) {i k : Nat} (h : i≤k) : (((List.range i).map f)++List.replicate (k - i) z).length = k:=by simp; omega
end Go.Lc
end
section
namespace Go.Lc
open Go.RowKit
open Go.Av
set_option linter.unusedVariables false
set_option linter.unusedSimpArgs false
class Yw (α : Type) where
 force : {β : Type}→α→(α→β)→β
 eq : ∀ {β : Type} (a : α) (k : α→β),force a k = k a
noncomputable def ZkK {β : Type} (n : Nat) (k : Nat→β) : β:=Nat.rec (motive:=fun _=>β) (k Nat.zero) (fun m _=>k (Nat.succ m)) n
theorem ZiZ {β : Type} (n : Nat) (k : Nat→β) : ZkK n k = k n:=by cases n <;> rfl
noncomputable instance : Yw Nat:=⟨ZkK,ZiZ⟩
noncomputable def Zpk {β : Type} (i : Int) (k : Int→β) : β:=Int.rec (motive:=fun _=>β) (fun n=>ZkK n fun m=>k (Int.ofNat m)) (fun n=>ZkK n fun m=>k (Int.negSucc m)) i
theorem Zpl {β : Type} (i : Int) (k : Int→β) : Zpk i k = k i:=by
 cases i with
 | ofNat n=>exact ZiZ n fun m=>k (Int.ofNat m)
 | negSucc n=>exact ZiZ n fun m=>k (Int.negSucc m)
noncomputable instance : Yw Int:=⟨Zpk,Zpl⟩
noncomputable def Zpm {β : Type} (b : Bool) (k : Bool→β) : β:=Bool.rec (motive:=fun _=>β) (k false) (k true) b
theorem Zpn {β : Type} (b : Bool) (k : Bool→β) : Zpm b k = k b:=by cases b <;> rfl
noncomputable instance : Yw Bool:=⟨Zpm,Zpn⟩
noncomputable instance : Yw Unit:=⟨fun _ k=>k (),fun _ _=>rfl⟩
noncomputable def Zpo {α γ β : Type} [Yw α] [Yw γ] (p : α×γ) (k : α×γ→β) : β:=Prod.rec (motive:=fun _=>β) (fun a c=>Yw.force a fun a=>Yw.force c fun c=>k (a,c)) p
theorem Zpp {α γ β : Type} [Yw α] [Yw γ] (p : α×γ) (k : α×γ→β) : Zpo p k = k p:=by
 obtain ⟨a,c⟩:=p;exact (Yw.eq a _).trans (Yw.eq c _)
noncomputable instance {α γ : Type} [Yw α] [Yw γ] : Yw (α×γ):=⟨Zpo,Zpp⟩
noncomputable def ZmP {α β : Type} [Yw α] (l : List α) (k : List α→β) : β:=List.rec (motive:=fun _=>(List α→β)→β) (fun k=>k []) (fun a _ ih k=>Yw.force a fun a=>ih fun l=>k (a :: l)) l k
theorem ZlM {α β : Type} [Yw α] (l : List α) (k : List α→β) : ZmP l k = k l:=by
 induction l generalizing k with
 | nil=>rfl
 | cons a l ih =>
  refine (Yw.eq (β:=β) a _).trans ?_;exact ih fun l=>k (a :: l)
noncomputable instance {α : Type} [Yw α] : Yw (List α):=⟨ZmP,ZlM⟩
noncomputable def ZmQ {n : Nat} {β : Type} (a : Arr n) (k : Arr n→β) : β:=ZmP a.l fun l=>if h : Nat.beq l.length n = true then k ⟨l,Nat.eq_of_beq_eq_true h⟩ else k a
theorem Zpq {n : Nat} {β : Type} (a : Arr n) (k : Arr n→β) : ZmQ a k = k a:=by
 unfold ZmQ;rw [ZlM];split <;> rfl
noncomputable instance {n : Nat} : Yw (Arr n):=⟨ZmQ,Zpq⟩
noncomputable def _root_.Option.bindF {α β : Type} [Yw α] (o : Option α) (f : α→Option β) : Option β:=Option.rec (motive:=fun _=>Option β) none (fun x=>Yw.force x f) o
theorem ZmR {α β : Type} [Yw α] (o : Option α) (f : α→Option β) : o.bindF f = o.bind f:=by
 cases o with
 | none=>rfl
 | some x=>exact Yw.eq x f
noncomputable def Zeu {σ ρ : Type} [Yw σ] (step : σ→Option (σ ⊕ ρ)) (s : σ) : Option ρ :=
 Nat.rec (motive:=fun _=>σ→Option ρ) (fun _=>none) (fun _ ih s=>Option.rec (motive:=fun _=>Option ρ) none (fun x=>Sum.rec (motive:=fun _=>Option ρ) (fun s'=>Yw.force s' ih) (fun r=>some r) x) (step s)) 1000000 s
noncomputable instance {α γ : Type} [Yw α] [Yw γ] : Yw (α ⊕ γ):=⟨fun x k=>Sum.rec (motive:=fun _=>_) (fun a=>Yw.force a fun a=>k (.inl a)) (fun c=>Yw.force c fun c=>k (.inr c)) x,fun x k=>by cases x <;> exact Yw.eq _ _⟩
noncomputable instance {α : Type} [Yw α] : Yw (Option α):=⟨fun x k=>Option.rec (motive:=fun _=>_) (k none) (fun a=>Yw.force a fun a=>k (some a)) x,fun x k=>by cases x <;> first | rfl | exact Yw.eq _ _⟩
def Le {α : Type} (o o' : Option α) : Prop:=∀ x,o = some x→o' = some x
theorem Le.refl {α : Type} (o : Option α) : Le o o:=fun _ h=>h
theorem ZP {α β : Type} [Yw α] {o o' : Option α} {f f' : α→Option β} (h : Le o o') (hf : ∀ x,Le (f x) (f' x)) : Le (o.bindF f) (o'.bind f'):=by
 intro y hy;rw [ZmR] at hy;obtain ⟨x,hx,hy⟩:=Option.bind_eq_some_iff.1 hy;rw [h _ hx];exact hf x _ hy
theorem ZX {α β : Type} {o o' : Option α} {f : α→β} (h : Le o o') : Le (o.map f) (o'.map f):=by
 intro y hy;obtain ⟨x,hx,rfl⟩:=Option.map_eq_some_iff.1 hy;rw [h _ hx];rfl
theorem ZY {α : Type} {p : Prop} [Decidable p] {a a' b b' : Option α} (h : Le a a') (h' : Le b b') : Le (if p then a else b) (if p then a' else b'):=by
 split
 ·exact h
 ·exact h'
theorem ZZ {σ ρ : Type} [Yw σ] {step step' : σ→Option (σ ⊕ ρ)} {s : σ} (h : ∀ s,Le (step s) (step' s)) : Le (Zeu step s) (Zu step' s):=by
 have key : ∀ (n : Nat) (s : σ) (r : ρ),(Nat.rec (motive:=fun _=>σ→Option ρ) (fun _=>none) (fun _ ih s=>Option.rec (motive:=fun _=>Option ρ) none (fun x=>Sum.rec (motive:=fun _=>Option ρ) (fun s'=>Yw.force s' ih) (fun r=>some r) x) (step s)) n s : Option ρ) = some r→Zu step' s = some r:=by
  intro n;induction n with
  | zero=>intro s r h; cases h
  | succ n ih =>
   intro s r hr;simp only at hr;rcases hs : step s with _ | (s' | r')
   ·rw [hs] at hr; cases hr
   ·rw [hs] at hr
    have hr:=(Yw.eq s' _).symm.trans hr;rw [Zbv (h s _ hs)];exact ih s' r hr
   ·rw [hs] at hr
    obtain rfl:=Option.some.inj hr;exact Zd2 (h s _ hs)
 intro r hr;exact key 1000000 s r hr
end Go.Lc
end
