import Derived.Test.YthpkpciceodioaaGreatDoorLcG1
section
namespace Go.Lc
open Go.RowKit
open Go.Av
set_option maxRecDepth 100000
set_option linter.unusedSimpArgs false
set_option linter.unusedVariables false
abbrev Tapi_Bits:=(List Int)×Int
abbrev Tapi_Filter:=Int×(List Int)
noncomputable def X3 (a0 : Int) : Option (Bool) :=
 some (!(decide (a0 = a0)))
noncomputable def ZO (a0 : Int) (a1 : Int) : Option (Bool) :=
 (X3 a0).bind fun y1=>((if y1 = true then (X3 a1).bind fun y2=>some (!(y2)) else some (false))).bind fun z3=>some (((y1 && z3) || decide (a0 < a1)))
noncomputable def Zcf (a0 : Tapi_Bits) : Option (Bool) :=
 (if ((a0.2 < 0∨1600000 < a0.2)∨¬ ((a0.1.length : Int) = IntKind.i64.wrap ((IntKind.i64.wrap (a0.2 + 7)).tdiv 8))) then some (false) else ((if (a0.2).tmod 8 = 0 then some (false) else (idx (a0.1) (IntKind.i64.wrap ((a0.1.length : Int) - 1))).bind fun x1=>(chk (¬ ((a0.2).tmod 8 < 0))).bind fun _=>some (decide (bits .and .u8 x1 ((255 : Int).fdiv (2 ^ (min ((a0.2).tmod 8).toNat 8))) = 0)))).bind fun z3=>some ((decide ((a0.2).tmod 8 = 0) || z3)))
noncomputable def ZaG (a0 : Int) (a1 : Int) : Option (Int×Int) :=
 some ((IntKind.u64.wrap ((IntKind.u64.wrap ((IntKind.u64.wrap (((a0).fdiv 4294967296) * ((a1).fdiv 4294967296))) + ((IntKind.u64.wrap ((IntKind.u64.wrap (((a0).fdiv 4294967296) * (bits .and .u64 a1 4294967295))) + ((IntKind.u64.wrap ((bits .and .u64 a0 4294967295) * (bits .and .u64 a1 4294967295))).fdiv 4294967296))).fdiv 4294967296))) + ((IntKind.u64.wrap ((bits .and .u64 (IntKind.u64.wrap ((IntKind.u64.wrap (((a0).fdiv 4294967296) * (bits .and .u64 a1 4294967295))) + ((IntKind.u64.wrap ((bits .and .u64 a0 4294967295) * (bits .and .u64 a1 4294967295))).fdiv 4294967296))) 4294967295) + (IntKind.u64.wrap ((bits .and .u64 a0 4294967295) * ((a1).fdiv 4294967296))))).fdiv 4294967296)),IntKind.u64.wrap (a0 * a1)))
noncomputable def ZeI (a0 : Int) (a1 : Int) : Option (Int) :=
 (ZaG a0 a1).bind fun y1=>some (y1.1)
noncomputable def ZJ (a0 : Int) (a1 : Int) : Option (Int) :=
 (chk (¬ (bits .and .u64 (IntKind.u64.wrap (a1)) 63 < 0))).bind fun _=>(chk (¬ (IntKind.u64.wrap (64 - (bits .and .u64 (IntKind.u64.wrap (a1)) 63)) < 0))).bind fun _=>some (bits .or .u64 (IntKind.u64.wrap (a0 * (2 ^ (min (bits .and .u64 (IntKind.u64.wrap (a1)) 63).toNat 64)))) ((a0).fdiv (2 ^ (min (IntKind.u64.wrap (64 - (bits .and .u64 (IntKind.u64.wrap (a1)) 63))).toNat 64))))
noncomputable def Ze2 (p20 : (Arr 4)) : Option (Arr 4) :=
 some (p20)
noncomputable def Zcs (a1 : Int) : (Int×(Arr 4))→Option ((Int×(Arr 4)) ⊕ ((Arr 4)))
 | (p19,p20)=>(if p19 < a1 then (ZJ ((p20.put 0 (IntKind.u64.wrap ((p20.at 0) + (p20.at 1)))).at 1) 13).bind fun y29=>(ZJ ((((p20.put 0 (IntKind.u64.wrap ((p20.at 0) + (p20.at 1)))).put 1 y29).put 1 (bits .xor .u64 (((p20.put 0 (IntKind.u64.wrap ((p20.at 0) + (p20.at 1)))).put 1 y29).at 1) (((p20.put 0 (IntKind.u64.wrap ((p20.at 0) + (p20.at 1)))).put 1 y29).at 0))).at 0) 32).bind fun y30=>(some (((((p20.put 0 (IntKind.u64.wrap ((p20.at 0) + (p20.at 1)))).put 1 y29).put 1 (bits .xor .u64 (((p20.put 0 (IntKind.u64.wrap ((p20.at 0) + (p20.at 1)))).put 1 y29).at 1) (((p20.put 0 (IntKind.u64.wrap ((p20.at 0) + (p20.at 1)))).put 1 y29).at 0))).put 0 y30).put 2 (IntKind.u64.wrap ((((((p20.put 0 (IntKind.u64.wrap ((p20.at 0) + (p20.at 1)))).put 1 y29).put 1 (bits .xor .u64 (((p20.put 0 (IntKind.u64.wrap ((p20.at 0) + (p20.at 1)))).put 1 y29).at 1) (((p20.put 0 (IntKind.u64.wrap ((p20.at 0) + (p20.at 1)))).put 1 y29).at 0))).put 0 y30).at 2) + (((((p20.put 0 (IntKind.u64.wrap ((p20.at 0) + (p20.at 1)))).put 1 y29).put 1 (bits .xor .u64 (((p20.put 0 (IntKind.u64.wrap ((p20.at 0) + (p20.at 1)))).put 1 y29).at 1) (((p20.put 0 (IntKind.u64.wrap ((p20.at 0) + (p20.at 1)))).put 1 y29).at 0))).put 0 y30).at 3))))).bind fun x31=>(ZJ (x31.at 3) 16).bind fun y32=>(ZJ ((((x31.put 3 y32).put 3 (bits .xor .u64 ((x31.put 3 y32).at 3) ((x31.put 3 y32).at 2))).put 0 (IntKind.u64.wrap ((((x31.put 3 y32).put 3 (bits .xor .u64 ((x31.put 3 y32).at 3) ((x31.put 3 y32).at 2))).at 0) + (((x31.put 3 y32).put 3 (bits .xor .u64 ((x31.put 3 y32).at 3) ((x31.put 3 y32).at 2))).at 3)))).at 3) 21).bind fun y33=>(some (((((x31.put 3 y32).put 3 (bits .xor .u64 ((x31.put 3 y32).at 3) ((x31.put 3 y32).at 2))).put 0 (IntKind.u64.wrap ((((x31.put 3 y32).put 3 (bits .xor .u64 ((x31.put 3 y32).at 3) ((x31.put 3 y32).at 2))).at 0) + (((x31.put 3 y32).put 3 (bits .xor .u64 ((x31.put 3 y32).at 3) ((x31.put 3 y32).at 2))).at 3)))).put 3 y33).put 3 (bits .xor .u64 (((((x31.put 3 y32).put 3 (bits .xor .u64 ((x31.put 3 y32).at 3) ((x31.put 3 y32).at 2))).put 0 (IntKind.u64.wrap ((((x31.put 3 y32).put 3 (bits .xor .u64 ((x31.put 3 y32).at 3) ((x31.put 3 y32).at 2))).at 0) + (((x31.put 3 y32).put 3 (bits .xor .u64 ((x31.put 3 y32).at 3) ((x31.put 3 y32).at 2))).at 3)))).put 3 y33).at 3) (((((x31.put 3 y32).put 3 (bits .xor .u64 ((x31.put 3 y32).at 3) ((x31.put 3 y32).at 2))).put 0 (IntKind.u64.wrap ((((x31.put 3 y32).put 3 (bits .xor .u64 ((x31.put 3 y32).at 3) ((x31.put 3 y32).at 2))).at 0) + (((x31.put 3 y32).put 3 (bits .xor .u64 ((x31.put 3 y32).at 3) ((x31.put 3 y32).at 2))).at 3)))).put 3 y33).at 0)))).bind fun x34=>(ZJ ((x34.put 2 (IntKind.u64.wrap ((x34.at 2) + (x34.at 1)))).at 1) 17).bind fun y35=>(ZJ ((((x34.put 2 (IntKind.u64.wrap ((x34.at 2) + (x34.at 1)))).put 1 y35).put 1 (bits .xor .u64 (((x34.put 2 (IntKind.u64.wrap ((x34.at 2) + (x34.at 1)))).put 1 y35).at 1) (((x34.put 2 (IntKind.u64.wrap ((x34.at 2) + (x34.at 1)))).put 1 y35).at 2))).at 2) 32).bind fun y36=>some (.inl (IntKind.i64.wrap (p19 + 1),(((x34.put 2 (IntKind.u64.wrap ((x34.at 2) + (x34.at 1)))).put 1 y35).put 1 (bits .xor .u64 (((x34.put 2 (IntKind.u64.wrap ((x34.at 2) + (x34.at 1)))).put 1 y35).at 1) (((x34.put 2 (IntKind.u64.wrap ((x34.at 2) + (x34.at 1)))).put 1 y35).at 2))).put 2 y36)) else (Ze2 p20).map Sum.inr)
noncomputable def ZcV (a0 : (Arr 4)) (a1 : Int) : Option ((Arr 4)) :=
 Zj (Zcs a1) (0,a0)
noncomputable def Zcg (a0 : (Arr 4)) (a1 : Int) : Option ((Arr 4)) :=
 (ZcV (a0.put 3 (bits .xor .u64 (a0.at 3) a1)) 2).bind fun y1=>some (y1.put 0 (bits .xor .u64 (y1.at 0) a1))
noncomputable def Zgn (p7 : Int) : Option Int :=
 some (p7)
noncomputable def Zdd (a0 : (List Int)) : (Int×Int)→Option ((Int×Int) ⊕ (Int))
 | (p7,p8)=>(if p8 < (a0.length : Int) then (idx (a0) (p8)).bind fun x11=>(chk (¬ (IntKind.i64.wrap (8 * p8) < 0))).bind fun _=>some (.inl (bits .or .u64 p7 (IntKind.u64.wrap ((IntKind.u64.wrap (x11)) * (2 ^ (min (IntKind.i64.wrap (8 * p8)).toNat 64)))),IntKind.i64.wrap (p8 + 1))) else (Zgn p7).map Sum.inr)
noncomputable def ZaB (a0 : (List Int)) : Option (Int) :=
 Zj (Zdd a0) (0,0)
noncomputable def ZgI (a1 : (List Int)) (p10 : (Arr 4)) : Option Int :=
 (chk (0≤IntKind.i64.wrap (8 * (IntKind.i64.wrap (((a1.length : Int)).tdiv 8)))∧IntKind.i64.wrap (8 * (IntKind.i64.wrap (((a1.length : Int)).tdiv 8)))≤(a1.length : Int))).bind fun _=>(ZaB ((a1).drop ((IntKind.i64.wrap (8 * (IntKind.i64.wrap (((a1.length : Int)).tdiv 8)))).toNat))).bind fun y15=>(Zcg p10 (bits .or .u64 y15 (IntKind.u64.wrap ((IntKind.u64.wrap (((a1.length : Int)).tmod 256)) * 72057594037927936)))).bind fun y16=>(ZcV (y16.put 2 (bits .xor .u64 (y16.at 2) 255)) 4).bind fun y17=>some (bits .xor .u64 (bits .xor .u64 (bits .xor .u64 (y17.at 0) (y17.at 1)) (y17.at 2)) (y17.at 3))
noncomputable def ZdO (a1 : (List Int)) : (Int×(Arr 4))→Option ((Int×(Arr 4)) ⊕ (Int))
 | (p9,p10)=>(if p9 < IntKind.i64.wrap (((a1.length : Int)).tdiv 8) then (chk (0≤IntKind.i64.wrap (8 * p9)∧IntKind.i64.wrap (8 * p9)≤IntKind.i64.wrap ((IntKind.i64.wrap (8 * p9)) + 8)∧IntKind.i64.wrap ((IntKind.i64.wrap (8 * p9)) + 8)≤(a1.length : Int))).bind fun _=>(ZaB (((a1).take ((IntKind.i64.wrap ((IntKind.i64.wrap (8 * p9)) + 8)).toNat)).drop ((IntKind.i64.wrap (8 * p9)).toNat))).bind fun y19=>(Zcg p10 y19).bind fun y20=>some (.inl (IntKind.i64.wrap (p9 + 1),y20)) else (ZgI a1 p10).map Sum.inr)
noncomputable def Ze3 (a0 : (Arr 2)) (a1 : (List Int)) : Option (Int) :=
 Zj (ZdO a1) (0,((((zA 4).put 0 (bits .xor .u64 (a0.at 0) 8317987319222330741)).put 1 (bits .xor .u64 (a0.at 1) 7237128888997146477)).put 2 (bits .xor .u64 (a0.at 0) 7816392313619706465)).put 3 (bits .xor .u64 (a0.at 1) 8387220255154660723))
noncomputable def Zeg (a0 : Int) : Option Int :=
 (chk (0≤a0∧a0≤4294967295)).bind fun _=>some (Lib.bitLen a0.toNat : Int)
noncomputable def XO (a0 : Int) : Option Int :=
 (chk (0≤a0∧a0≤18446744073709551615)).bind fun _=>some (Lib.bitLen a0.toNat : Int)
noncomputable def ZaH (a0 : Int) : Option (Int) :=
 (XO a0).bind fun y1=>some (y1)
noncomputable def Xx (a0 : Int) : Option (Int) :=
 (ZaH (IntKind.u64.wrap (a0))).bind fun y1=>(chk (¬ (y1 < 0))).bind fun _=>some (IntKind.u64.wrap (1 * (2 ^ (min (y1).toNat 64))))
noncomputable def Zao (a0 : Int) : Option (Int×Int) :=
 some ((bits .xor .u64 (bits .xor .u64 (bits .xor .u64 a0 (IntKind.u64.wrap (a0 * 8192))) ((bits .xor .u64 a0 (IntKind.u64.wrap (a0 * 8192))).fdiv 128)) (IntKind.u64.wrap ((bits .xor .u64 (bits .xor .u64 a0 (IntKind.u64.wrap (a0 * 8192))) ((bits .xor .u64 a0 (IntKind.u64.wrap (a0 * 8192))).fdiv 128)) * 131072)),bits .xor .u64 (bits .xor .u64 (bits .xor .u64 a0 (IntKind.u64.wrap (a0 * 8192))) ((bits .xor .u64 a0 (IntKind.u64.wrap (a0 * 8192))).fdiv 128)) (IntKind.u64.wrap ((bits .xor .u64 (bits .xor .u64 a0 (IntKind.u64.wrap (a0 * 8192))) ((bits .xor .u64 a0 (IntKind.u64.wrap (a0 * 8192))).fdiv 128)) * 131072))))
noncomputable def Yr (a0 : (List Int)) (a1 : Int) (a2 : Int) (a3 : Int) : Option (Int×Int×Int) :=
 (idx (a0) (a2)).bind fun x1=>(idx (a0) (a1)).bind fun x2=>(ZO x1 x2).bind fun y3=>(if y3 = true then some ((a2,a1,IntKind.i64.wrap (a3 + 1))) else some ((a1,a2,a3)))
noncomputable def YE (a0 : (List Int)) (a1 : Int) (a2 : Int) (a3 : Int) (a4 : Int) : Option (Int×Int) :=
 (Yr a0 a1 a2 a4).bind fun y1=>(Yr a0 y1.2.1 a3 y1.2.2).bind fun y2=>(Yr a0 y1.1 y2.1 y2.2.2).bind fun y3=>some ((y3.2.1,y3.2.2))
noncomputable def ZX (a0 : (List Int)) (a1 : Int) (a2 : Int) : Option (Int×Int) :=
 (YE a0 (IntKind.i64.wrap (a1 - 1)) a1 (IntKind.i64.wrap (a1 + 1)) a2).bind fun y1=>some ((y1.1,y1.2))
noncomputable def Yd (p9 : Int) (p10 : Int) : Option (Int×Int) :=
 (if p10 = 0 then some ((p9,1)) else (if p10 = 12 then some ((p9,2)) else some ((p9,0))))
noncomputable def Ye (a0 : (List Int)) (p14 : Int) (p15 : Int) (p16 : Int) (p17 : Int) : Option (Int×Int) :=
 (YE a0 p14 p15 p16 p17).bind fun y18=>Yd y18.1 y18.2
noncomputable def Yy (a0 : (List Int)) (a1 : Int) (a2 : Int) : Option (Int×Int) :=
 (if 8≤IntKind.i64.wrap (a2 - a1) then (if 50≤IntKind.i64.wrap (a2 - a1) then (ZX a0 (IntKind.i64.wrap (a1 + (IntKind.i64.wrap (IntKind.i64.wrap ((IntKind.i64.wrap (a2 - a1)).tdiv 4))))) 0).bind fun y19=>(ZX a0 (IntKind.i64.wrap (a1 + (IntKind.i64.wrap ((IntKind.i64.wrap ((IntKind.i64.wrap (a2 - a1)).tdiv 4)) * 2)))) y19.2).bind fun y20=>(ZX a0 (IntKind.i64.wrap (a1 + (IntKind.i64.wrap ((IntKind.i64.wrap ((IntKind.i64.wrap (a2 - a1)).tdiv 4)) * 3)))) y20.2).bind fun y21=>Ye a0 y19.1 y20.1 y21.1 y21.2 else Ye a0 (IntKind.i64.wrap (a1 + (IntKind.i64.wrap (IntKind.i64.wrap ((IntKind.i64.wrap (a2 - a1)).tdiv 4))))) (IntKind.i64.wrap (a1 + (IntKind.i64.wrap ((IntKind.i64.wrap ((IntKind.i64.wrap (a2 - a1)).tdiv 4)) * 2)))) (IntKind.i64.wrap (a1 + (IntKind.i64.wrap ((IntKind.i64.wrap ((IntKind.i64.wrap (a2 - a1)).tdiv 4)) * 3)))) 0) else Yd (IntKind.i64.wrap (a1 + (IntKind.i64.wrap ((IntKind.i64.wrap ((IntKind.i64.wrap (a2 - a1)).tdiv 4)) * 2)))) 0)
noncomputable def Yp (p77 : Int) (p104 : (List Int)) : Option ((Int×(List Int)) ⊕ ((List Int))) :=
 some (.inl (IntKind.i64.wrap (p77 + 1),p104))
noncomputable def Ya (a1 : Int) (p77 : Int) : (Int×(List Int))→Option ((Int×(List Int)) ⊕ ((Int×(List Int)) ⊕ ((List Int))))
 | (p103,p104)=>((if a1 < p103 then (inA (p104.length) (p103)).bind fun j116=>((p104)[j116]?).bind fun x117=>(inA (p104.length) (IntKind.i64.wrap (p103 - 1))).bind fun j118=>((p104)[j118]?).bind fun x119=>(ZO x117 x119).bind fun y120=>some (y120) else some (false))).bind fun z121=>(if (a1 < p103∧z121 = true) then (inA (p104.length) (IntKind.i64.wrap (p103 - 1))).bind fun j122=>((p104)[j122]?).bind fun x123=>(inA (p104.length) (p103)).bind fun j124=>((p104)[j124]?).bind fun x125=>(inA (((p104).set j124 x123).length) (IntKind.i64.wrap (p103 - 1))).bind fun j126=>some (.inl (IntKind.i64.wrap (p103 - 1),((p104).set j124 x123).set j126 x125)) else (Yp p77 p104).map Sum.inr)
noncomputable def YF (a2 : Int) (a1 : Int) (a0 : (List Int)) : (Int×(List Int))→Option ((Int×(List Int)) ⊕ ((List Int)))
 | (p77,p78)=>(if p77 < a2 then Zj (Ya a1 p77) (p77,p78) else (chk (p78.length = a0.length)).bind fun _=>some (.inr (p78)))
noncomputable def ZZ (a0 : (List Int)) (a1 : Int) (a2 : Int) : Option ((List Int)) :=
 Zj (YF a2 a1 a0) (IntKind.i64.wrap (a1 + 1),a0)
noncomputable def ZU (p30 : (List Int)) (a3 : Int) (p29 : Int) (a0 : (List Int)) (p37 : Int) : Option ((Int×(List Int)) ⊕ ((List Int))) :=
 (inA (p30.length) (IntKind.i64.wrap (a3 + p29))).bind fun j38=>((p30)[j38]?).bind fun x39=>(inA (p30.length) (IntKind.i64.wrap (a3 + p37))).bind fun j40=>((p30)[j40]?).bind fun x41=>(ZO x39 x41).bind fun y42=>(if ¬ (y42 = true) then (chk (p30.length = a0.length)).bind fun _=>some (.inr (p30)) else (inA (((p30).set j38 x41).length) (IntKind.i64.wrap (a3 + p37))).bind fun j43=>some (.inl (p37,((p30).set j38 x41).set j43 x39)))
noncomputable def ZV (a2 : Int) (a0 : (List Int)) (a3 : Int) : (Int×(List Int))→Option ((Int×(List Int)) ⊕ ((List Int)))
 | (p29,p30)=>(if a2≤IntKind.i64.wrap ((IntKind.i64.wrap (2 * p29)) + 1) then (chk (p30.length = a0.length)).bind fun _=>some (.inr (p30)) else ((if IntKind.i64.wrap ((IntKind.i64.wrap ((IntKind.i64.wrap (2 * p29)) + 1)) + 1) < a2 then (inA (p30.length) (IntKind.i64.wrap (a3 + (IntKind.i64.wrap ((IntKind.i64.wrap (2 * p29)) + 1))))).bind fun j31=>((p30)[j31]?).bind fun x32=>(inA (p30.length) (IntKind.i64.wrap ((IntKind.i64.wrap (a3 + (IntKind.i64.wrap ((IntKind.i64.wrap (2 * p29)) + 1)))) + 1))).bind fun j33=>((p30)[j33]?).bind fun x34=>(ZO x32 x34).bind fun y35=>some (y35) else some (false))).bind fun z36=>(if (IntKind.i64.wrap ((IntKind.i64.wrap ((IntKind.i64.wrap (2 * p29)) + 1)) + 1) < a2∧z36 = true) then ZU p30 a3 p29 a0 (IntKind.i64.wrap ((IntKind.i64.wrap ((IntKind.i64.wrap (2 * p29)) + 1)) + 1)) else ZU p30 a3 p29 a0 (IntKind.i64.wrap ((IntKind.i64.wrap (2 * p29)) + 1))))
noncomputable def YM (a0 : (List Int)) (a1 : Int) (a2 : Int) (a3 : Int) : Option ((List Int)) :=
 Zj (ZV a2 a0 a3) (a1,a0)
noncomputable def Y2 (a1 : Int) (a0 : (List Int)) : (Int×(List Int))→Option ((Int×(List Int)) ⊕ ((List Int)))
 | (p27,p28)=>(if 0≤p27 then (inA (p28.length) (IntKind.i64.wrap (a1 + p27))).bind fun j29=>((p28)[j29]?).bind fun x30=>(inA (p28.length) (a1)).bind fun j31=>((p28)[j31]?).bind fun x32=>(inA (((p28).set j31 x30).length) (IntKind.i64.wrap (a1 + p27))).bind fun j33=>(YM (((p28).set j31 x30).set j33 x32) 0 p27 a1).bind fun y34=>(chk (y34.length = (((p28).set j31 x30).set j33 x32).length)).bind fun _=>some (.inl (IntKind.i64.wrap (p27 - 1),y34)) else (chk (p28.length = a0.length)).bind fun _=>some (.inr (p28)))
noncomputable def XP (a1 : Int) (a0 : (List Int)) (a2 : Int) (p8 : (List Int)) : Option (List Int) :=
 Zj (Y2 a1 a0) (IntKind.i64.wrap ((IntKind.i64.wrap (a2 - a1)) - 1),p8)
noncomputable def Y3 (a2 : Int) (a1 : Int) (a0 : (List Int)) : (Int×(List Int))→Option ((Int×(List Int)) ⊕ ((List Int)))
 | (p7,p8)=>(if 0≤p7 then (YM p8 p7 (IntKind.i64.wrap (a2 - a1)) a1).bind fun y36=>(chk (y36.length = p8.length)).bind fun _=>some (.inl (IntKind.i64.wrap (p7 - 1),y36)) else (XP a1 a0 a2 p8).map Sum.inr)
noncomputable def YN (a0 : (List Int)) (a1 : Int) (a2 : Int) : Option ((List Int)) :=
 Zj (Y3 a2 a1 a0) (IntKind.i64.wrap ((IntKind.i64.wrap ((IntKind.i64.wrap (a2 - a1)) - 1)).tdiv 2),a0)
noncomputable def YI (a0 : (List Int)) : (Int×Int×(List Int))→Option ((Int×Int×(List Int)) ⊕ ((List Int)))
 | (p14,p15,p16)=>(if p14 < p15 then (inA (p16.length) (p15)).bind fun j17=>((p16)[j17]?).bind fun x18=>(inA (p16.length) (p14)).bind fun j19=>((p16)[j19]?).bind fun x20=>(inA (((p16).set j19 x18).length) (p15)).bind fun j21=>some (.inl (IntKind.i64.wrap (p14 + 1),IntKind.i64.wrap (p15 - 1),((p16).set j19 x18).set j21 x20)) else (chk (p16.length = a0.length)).bind fun _=>some (.inr (p16)))
noncomputable def Yw (a0 : (List Int)) (a1 : Int) (a2 : Int) : Option ((List Int)) :=
 Zj (YI a0) (a1,IntKind.i64.wrap (a2 - 1),a0)
noncomputable def Xc (p148 : (List Int)) (a0 : (List Int)) : Option (Bool×(List Int)) :=
 (chk (p148.length = a0.length)).bind fun _=>some ((false,p148))
noncomputable def Zv (p233 : Int) (p147 : Int) (p290 : (List Int)) : Option ((Int×Int×(List Int)) ⊕ (Bool×(List Int))) :=
 some (.inl (p233,IntKind.i64.wrap (p147 + 1),p290))
noncomputable def Z5 (a2 : Int) (p233 : Int) (p147 : Int) : (Int×(List Int))→Option ((Int×(List Int)) ⊕ ((Int×Int×(List Int)) ⊕ (Bool×(List Int))))
 | (p305,p306)=>(if p305 < a2 then (inA (p306.length) (p305)).bind fun j307=>((p306)[j307]?).bind fun x308=>(inA (p306.length) (IntKind.i64.wrap (p305 - 1))).bind fun j309=>((p306)[j309]?).bind fun x310=>(ZO x308 x310).bind fun y311=>(if ¬ (y311 = true) then (Zv p233 p147 p306).map Sum.inr else (inA (((p306).set j307 x310).length) (IntKind.i64.wrap (p305 - 1))).bind fun j312=>some (.inl (IntKind.i64.wrap (p305 + 1),((p306).set j307 x310).set j312 x308))) else (Zv p233 p147 p306).map Sum.inr)
noncomputable def Zw (a2 : Int) (p233 : Int) (p147 : Int) (p267 : (List Int)) : Option ((Int×Int×(List Int)) ⊕ (Bool×(List Int))) :=
 (if 2≤IntKind.i64.wrap (a2 - p233) then Zj (Z5 a2 p233 p147) (IntKind.i64.wrap (p233 + 1),p267) else Zv p233 p147 p267)
noncomputable def Z6 (a2 : Int) (p233 : Int) (p147 : Int) : (Int×(List Int))→Option ((Int×(List Int)) ⊕ ((Int×Int×(List Int)) ⊕ (Bool×(List Int))))
 | (p327,p328)=>(if 1≤p327 then (inA (p328.length) (p327)).bind fun j329=>((p328)[j329]?).bind fun x330=>(inA (p328.length) (IntKind.i64.wrap (p327 - 1))).bind fun j331=>((p328)[j331]?).bind fun x332=>(ZO x330 x332).bind fun y333=>(if ¬ (y333 = true) then (Zw a2 p233 p147 p328).map Sum.inr else (inA (((p328).set j329 x332).length) (IntKind.i64.wrap (p327 - 1))).bind fun j334=>some (.inl (IntKind.i64.wrap (p327 - 1),((p328).set j329 x332).set j334 x330))) else (Zw a2 p233 p147 p328).map Sum.inr)
noncomputable def Zx (p233 : Int) (a2 : Int) (p148 : (List Int)) (a0 : (List Int)) (a1 : Int) (p147 : Int) : Option ((Int×Int×(List Int)) ⊕ (Bool×(List Int))) :=
 (if p233 = a2 then (chk (p148.length = a0.length)).bind fun _=>some (.inr ((true,p148))) else (if IntKind.i64.wrap (a2 - a1) < 50 then (chk (p148.length = a0.length)).bind fun _=>some (.inr ((false,p148))) else (inA (p148.length) (IntKind.i64.wrap (p233 - 1))).bind fun j240=>((p148)[j240]?).bind fun x241=>(inA (p148.length) (p233)).bind fun j242=>((p148)[j242]?).bind fun x243=>(inA (((p148).set j242 x241).length) (IntKind.i64.wrap (p233 - 1))).bind fun j244=>(if 2≤IntKind.i64.wrap (p233 - a1) then Zj (Z6 a2 p233 p147) (IntKind.i64.wrap (p233 - 1),((p148).set j242 x241).set j244 x243) else Zw a2 p233 p147 (((p148).set j242 x241).set j244 x243))))
noncomputable def Z7 (a2 : Int) (p148 : (List Int)) (a0 : (List Int)) (a1 : Int) (p147 : Int) : Int→Option ((Int) ⊕ ((Int×Int×(List Int)) ⊕ (Bool×(List Int))))
 | p233=>((if p233 < a2 then (inA (p148.length) (p233)).bind fun j335=>((p148)[j335]?).bind fun x336=>(inA (p148.length) (IntKind.i64.wrap (p233 - 1))).bind fun j337=>((p148)[j337]?).bind fun x338=>(ZO x336 x338).bind fun y339=>some (!(y339)) else some (false))).bind fun z340=>(if (p233 < a2∧z340 = true) then some (.inl (IntKind.i64.wrap (p233 + 1))) else (Zx p233 a2 p148 a0 a1 p147).map Sum.inr)
noncomputable def ZN (a2 : Int) (a0 : (List Int)) (a1 : Int) : (Int×Int×(List Int))→Option ((Int×Int×(List Int)) ⊕ (Bool×(List Int)))
 | (p146,p147,p148)=>(if p147 < 5 then Zj (Z7 a2 p148 a0 a1 p147) p146 else (Xc p148 a0).map Sum.inr)
noncomputable def Yc (a0 : (List Int)) (a1 : Int) (a2 : Int) : Option (Bool×(List Int)) :=
 Zj (ZN a2 a0 a1) (IntKind.i64.wrap (a1 + 1),0,a0)
noncomputable def Xr (p101 : (List Int)) (a0 : (List Int)) (p147 : Int) : Option (Int×(List Int)) :=
 (chk (p101.length = a0.length)).bind fun _=>some ((p147,p101))
noncomputable def ZF (p181 : Int) (p161 : Int) (p101 : (List Int)) (a0 : (List Int)) : Option ((Int×Int×(List Int)) ⊕ (Int×(List Int))) :=
 (if p181 < p161 then (Xr p101 a0 p161).map Sum.inr else (inA (p101.length) (p181)).bind fun j188=>((p101)[j188]?).bind fun x189=>(inA (p101.length) (p161)).bind fun j190=>((p101)[j190]?).bind fun x191=>(inA (((p101).set j190 x189).length) (p181)).bind fun j192=>some (.inl (IntKind.i64.wrap (p161 + 1),IntKind.i64.wrap (p181 - 1),((p101).set j190 x189).set j192 x191)))
noncomputable def Yz (p161 : Int) (p101 : (List Int)) (a1 : Int) (a0 : (List Int)) : Int→Option ((Int) ⊕ ((Int×Int×(List Int)) ⊕ (Int×(List Int))))
 | p181=>((if p161≤p181 then (inA (p101.length) (a1)).bind fun j193=>((p101)[j193]?).bind fun x194=>(inA (p101.length) (p181)).bind fun j195=>((p101)[j195]?).bind fun x196=>(ZO x194 x196).bind fun y197=>some (y197) else some (false))).bind fun z198=>(if (p161≤p181∧z198 = true) then some (.inl (IntKind.i64.wrap (p181 - 1))) else (ZF p181 p161 p101 a0).map Sum.inr)
noncomputable def Z8 (p161 : Int) (p101 : (List Int)) (a1 : Int) (a0 : (List Int)) (p100 : Int) : Option ((Int×Int×(List Int)) ⊕ (Int×(List Int))) :=
 Zj (Yz p161 p101 a1 a0) p100
noncomputable def YA (p100 : Int) (p101 : (List Int)) (a1 : Int) (a0 : (List Int)) : Int→Option ((Int) ⊕ ((Int×Int×(List Int)) ⊕ (Int×(List Int))))
 | p161=>((if p161≤p100 then (inA (p101.length) (a1)).bind fun j199=>((p101)[j199]?).bind fun x200=>(inA (p101.length) (p161)).bind fun j201=>((p101)[j201]?).bind fun x202=>(ZO x200 x202).bind fun y203=>some (!(y203)) else some (false))).bind fun z204=>(if (p161≤p100∧z204 = true) then some (.inl (IntKind.i64.wrap (p161 + 1))) else (Z8 p161 p101 a1 a0 p100).map Sum.inr)
noncomputable def YB (a1 : Int) (a0 : (List Int)) : (Int×Int×(List Int))→Option ((Int×Int×(List Int)) ⊕ (Int×(List Int)))
 | (p99,p100,p101)=>Zj (YA p100 p101 a1 a0) p99
noncomputable def ZM (a0 : (List Int)) (a1 : Int) (a2 : Int) (a3 : Int) : Option (Int×(List Int)) :=
 (inA (a0.length) (a3)).bind fun j1=>((a0)[j1]?).bind fun x2=>(inA (a0.length) (a1)).bind fun j3=>((a0)[j3]?).bind fun x4=>(inA (((a0).set j3 x2).length) (a3)).bind fun j5=>Zj (YB a1 a0) (IntKind.i64.wrap (a1 + 1),IntKind.i64.wrap (a2 - 1),((a0).set j3 x2).set j5 x4)
noncomputable def Xe (p151 : (List Int)) (a1 : Int) (a0 : (List Int)) (p197 : Int) : Option (Int×Bool×(List Int)) :=
 (inA (p151.length) (a1)).bind fun j198=>((p151)[j198]?).bind fun x199=>(inA (p151.length) (p197)).bind fun j200=>((p151)[j200]?).bind fun x201=>(inA (((p151).set j200 x199).length) (a1)).bind fun j202=>(chk ((((p151).set j200 x199).set j202 x201).length = a0.length)).bind fun _=>some ((p197,false,((p151).set j200 x199).set j202 x201))
noncomputable def ZP (p236 : Int) (p216 : Int) (p151 : (List Int)) (a1 : Int) (a0 : (List Int)) : Option ((Int×Int×(List Int)) ⊕ (Int×Bool×(List Int))) :=
 (if p236 < p216 then (Xe p151 a1 a0 p236).map Sum.inr else (inA (p151.length) (p236)).bind fun j243=>((p151)[j243]?).bind fun x244=>(inA (p151.length) (p216)).bind fun j245=>((p151)[j245]?).bind fun x246=>(inA (((p151).set j245 x244).length) (p236)).bind fun j247=>some (.inl (IntKind.i64.wrap (p216 + 1),IntKind.i64.wrap (p236 - 1),((p151).set j245 x244).set j247 x246)))
noncomputable def YS (p216 : Int) (p151 : (List Int)) (a1 : Int) (a0 : (List Int)) : Int→Option ((Int) ⊕ ((Int×Int×(List Int)) ⊕ (Int×Bool×(List Int))))
 | p236=>((if p216≤p236 then (inA (p151.length) (p236)).bind fun j248=>((p151)[j248]?).bind fun x249=>(inA (p151.length) (a1)).bind fun j250=>((p151)[j250]?).bind fun x251=>(ZO x249 x251).bind fun y252=>some (!(y252)) else some (false))).bind fun z253=>(if (p216≤p236∧z253 = true) then some (.inl (IntKind.i64.wrap (p236 - 1))) else (ZP p236 p216 p151 a1 a0).map Sum.inr)
noncomputable def Yj (p216 : Int) (p151 : (List Int)) (a1 : Int) (a0 : (List Int)) (p150 : Int) : Option ((Int×Int×(List Int)) ⊕ (Int×Bool×(List Int))) :=
 Zj (YS p216 p151 a1 a0) p150
noncomputable def YT (p150 : Int) (p151 : (List Int)) (a1 : Int) (a0 : (List Int)) : Int→Option ((Int) ⊕ ((Int×Int×(List Int)) ⊕ (Int×Bool×(List Int))))
 | p216=>((if p216≤p150 then (inA (p151.length) (p216)).bind fun j254=>((p151)[j254]?).bind fun x255=>(inA (p151.length) (a1)).bind fun j256=>((p151)[j256]?).bind fun x257=>(ZO x255 x257).bind fun y258=>some (y258) else some (false))).bind fun z259=>(if (p216≤p150∧z259 = true) then some (.inl (IntKind.i64.wrap (p216 + 1))) else (Yj p216 p151 a1 a0 p150).map Sum.inr)
noncomputable def YU (a1 : Int) (a0 : (List Int)) : (Int×Int×(List Int))→Option ((Int×Int×(List Int)) ⊕ (Int×Bool×(List Int)))
 | (p149,p150,p151)=>Zj (YT p150 p151 a1 a0) p149
noncomputable def Yk (p39 : Int) (p19 : Int) (a0 : (List Int)) (j3 : Nat) (x2 : Int) (j5 : Nat) (x4 : Int) (a1 : Int) : Option (Int×Bool×(List Int)) :=
 (if p39 < p19 then (inA ((((a0).set j3 x2).set j5 x4).length) (a1)).bind fun j46=>((((a0).set j3 x2).set j5 x4)[j46]?).bind fun x47=>(inA ((((a0).set j3 x2).set j5 x4).length) (p39)).bind fun j48=>((((a0).set j3 x2).set j5 x4)[j48]?).bind fun x49=>(inA (((((a0).set j3 x2).set j5 x4).set j48 x47).length) (a1)).bind fun j50=>(chk ((((((a0).set j3 x2).set j5 x4).set j48 x47).set j50 x49).length = a0.length)).bind fun _=>some ((p39,true,((((a0).set j3 x2).set j5 x4).set j48 x47).set j50 x49)) else (inA ((((a0).set j3 x2).set j5 x4).length) (p39)).bind fun j51=>((((a0).set j3 x2).set j5 x4)[j51]?).bind fun x52=>(inA ((((a0).set j3 x2).set j5 x4).length) (p19)).bind fun j53=>((((a0).set j3 x2).set j5 x4)[j53]?).bind fun x54=>(inA (((((a0).set j3 x2).set j5 x4).set j53 x52).length) (p39)).bind fun j55=>Zj (YU a1 a0) (IntKind.i64.wrap (p19 + 1),IntKind.i64.wrap (p39 - 1),((((a0).set j3 x2).set j5 x4).set j53 x52).set j55 x54))
noncomputable def YV (p19 : Int) (a0 : (List Int)) (j3 : Nat) (x2 : Int) (j5 : Nat) (x4 : Int) (a1 : Int) : Int→Option ((Int) ⊕ (Int×Bool×(List Int)))
 | p39=>((if p19≤p39 then (inA ((((a0).set j3 x2).set j5 x4).length) (p39)).bind fun j260=>((((a0).set j3 x2).set j5 x4)[j260]?).bind fun x261=>(inA ((((a0).set j3 x2).set j5 x4).length) (a1)).bind fun j262=>((((a0).set j3 x2).set j5 x4)[j262]?).bind fun x263=>(ZO x261 x263).bind fun y264=>some (!(y264)) else some (false))).bind fun z265=>(if (p19≤p39∧z265 = true) then some (.inl (IntKind.i64.wrap (p39 - 1))) else (Yk p39 p19 a0 j3 x2 j5 x4 a1).map Sum.inr)
noncomputable def Yl (p19 : Int) (a0 : (List Int)) (j3 : Nat) (x2 : Int) (j5 : Nat) (x4 : Int) (a1 : Int) (a2 : Int) : Option (Int×Bool×(List Int)) :=
 Zj (YV p19 a0 j3 x2 j5 x4 a1) (IntKind.i64.wrap (a2 - 1))
noncomputable def YW (a2 : Int) (a0 : (List Int)) (j3 : Nat) (x2 : Int) (j5 : Nat) (x4 : Int) (a1 : Int) : Int→Option ((Int) ⊕ (Int×Bool×(List Int)))
 | p19=>((if p19≤IntKind.i64.wrap (a2 - 1) then (inA ((((a0).set j3 x2).set j5 x4).length) (p19)).bind fun j266=>((((a0).set j3 x2).set j5 x4)[j266]?).bind fun x267=>(inA ((((a0).set j3 x2).set j5 x4).length) (a1)).bind fun j268=>((((a0).set j3 x2).set j5 x4)[j268]?).bind fun x269=>(ZO x267 x269).bind fun y270=>some (y270) else some (false))).bind fun z271=>(if (p19≤IntKind.i64.wrap (a2 - 1)∧z271 = true) then some (.inl (IntKind.i64.wrap (p19 + 1))) else (Yl p19 a0 j3 x2 j5 x4 a1 a2).map Sum.inr)
noncomputable def Z4 (a0 : (List Int)) (a1 : Int) (a2 : Int) (a3 : Int) : Option (Int×Bool×(List Int)) :=
 (inA (a0.length) (a3)).bind fun j1=>((a0)[j1]?).bind fun x2=>(inA (a0.length) (a1)).bind fun j3=>((a0)[j3]?).bind fun x4=>(inA (((a0).set j3 x2).length) (a3)).bind fun j5=>Zj (YW a2 a0 j3 x2 j5 x4 a1) (IntKind.i64.wrap (a1 + 1))
noncomputable def ZQ (p20 : (List Int)) (a1 : Int) (p19 : Int) (y22 : (Int×Int)) (p23 : Int) : Option ((Int×(List Int)×Int) ⊕ ((List Int))) :=
 (inA (p20.length) (IntKind.i64.wrap (a1 + p23))).bind fun j24=>((p20)[j24]?).bind fun x25=>(inA (p20.length) (p19)).bind fun j26=>((p20)[j26]?).bind fun x27=>(inA (((p20).set j26 x25).length) (IntKind.i64.wrap (a1 + p23))).bind fun j28=>some (.inl (IntKind.i64.wrap (p19 + 1),((p20).set j26 x25).set j28 x27,y22.2))
noncomputable def YG (a1 : Int) (a2 : Int) (y1 : (Int)) (a0 : (List Int)) : (Int×(List Int)×Int)→Option ((Int×(List Int)×Int) ⊕ ((List Int)))
 | (p19,p20,p21)=>(if p19≤IntKind.i64.wrap ((IntKind.i64.wrap (a1 + (IntKind.i64.wrap ((IntKind.i64.wrap ((IntKind.i64.wrap (a2 - a1)).tdiv 4)) * 2)))) + 1) then (Zao p21).bind fun y22=>(if IntKind.i64.wrap (a2 - a1)≤IntKind.i64.wrap (bits .and .u64 y22.1 (IntKind.u64.wrap (y1 - 1))) then ZQ p20 a1 p19 y22 (IntKind.i64.wrap ((IntKind.i64.wrap (bits .and .u64 y22.1 (IntKind.u64.wrap (y1 - 1)))) - (IntKind.i64.wrap (a2 - a1)))) else ZQ p20 a1 p19 y22 (IntKind.i64.wrap (bits .and .u64 y22.1 (IntKind.u64.wrap (y1 - 1))))) else (chk (p20.length = a0.length)).bind fun _=>some (.inr (p20)))
noncomputable def Z0 (a0 : (List Int)) (a1 : Int) (a2 : Int) : Option ((List Int)) :=
 (if 8≤IntKind.i64.wrap (a2 - a1) then (Xx (IntKind.i64.wrap (a2 - a1))).bind fun y1=>Zj (YG a1 a2 y1 a0) (IntKind.i64.wrap ((IntKind.i64.wrap (a1 + (IntKind.i64.wrap ((IntKind.i64.wrap ((IntKind.i64.wrap (a2 - a1)).tdiv 4)) * 2)))) - 1),a0,IntKind.u64.wrap (IntKind.i64.wrap (a2 - a1))) else some (a0))
noncomputable def Zt (p101 : Int) (p118 : Int) (p102 : Int) (p113 : Int) (p104 : Bool) (p105 : Bool) (rf : (List Int)→Int→Int→Int→Option ((List Int))) (p123 : (List Int)) : Option ((Int×Int×Int×Bool×Bool×(List Int)) ⊕ ((List Int))) :=
 ((if 0 < p101 then (inA (p123.length) (IntKind.i64.wrap (p101 - 1))).bind fun j124=>((p123)[j124]?).bind fun x125=>(inA (p123.length) (p118)).bind fun j126=>((p123)[j126]?).bind fun x127=>(ZO x125 x127).bind fun y128=>some (!(y128)) else some (false))).bind fun z129=>(if (0 < p101∧z129 = true) then (ZM p123 p101 p102 p118).bind fun y130=>(chk (y130.2.length = p123.length)).bind fun _=>some (.inl (y130.1,p102,p113,p104,p105,y130.2)) else (Z4 p123 p101 p102 p118).bind fun y132=>(chk (y132.2.2.length = p123.length)).bind fun _=>(if IntKind.i64.wrap (y132.1 - p101) < IntKind.i64.wrap (p102 - y132.1) then (rf y132.2.2 p101 y132.1 p113).bind fun y134=>(chk (y134.length = y132.2.2.length)).bind fun _=>some (.inl (IntKind.i64.wrap (y132.1 + 1),p102,p113,decide (IntKind.i64.wrap ((IntKind.i64.wrap (p102 - p101)).tdiv 8)≤IntKind.i64.wrap (y132.1 - p101)),y132.2.1,y134)) else (rf y132.2.2 (IntKind.i64.wrap (y132.1 + 1)) p102 p113).bind fun y136=>(chk (y136.length = y132.2.2.length)).bind fun _=>some (.inl (p101,y132.1,p113,decide (IntKind.i64.wrap ((IntKind.i64.wrap (p102 - p101)).tdiv 8)≤IntKind.i64.wrap (p102 - y132.1)),y132.2.1,y136))))
noncomputable def Zu (p104 : Bool) (p105 : Bool) (p101 : Int) (p102 : Int) (a0 : (List Int)) (p113 : Int) (rf : (List Int)→Int→Int→Int→Option ((List Int))) (p118 : Int) (p119 : Int) (p120 : (List Int)) : Option ((Int×Int×Int×Bool×Bool×(List Int)) ⊕ ((List Int))) :=
 (if ((p104 = true∧p105 = true)∧p119 = 1) then (Yc p120 p101 p102).bind fun y138=>(chk (y138.2.length = p120.length)).bind fun _=>(if y138.1 = true then (chk (y138.2.length = a0.length)).bind fun _=>some (.inr (y138.2)) else Zt p101 p118 p102 p113 p104 p105 rf y138.2) else Zt p101 p118 p102 p113 p104 p105 rf p120)
noncomputable def ZG (p101 : Int) (p102 : Int) (p104 : Bool) (p105 : Bool) (a0 : (List Int)) (rf : (List Int)→Int→Int→Int→Option ((List Int))) (p113 : Int) (p114 : (List Int)) : Option ((Int×Int×Int×Bool×Bool×(List Int)) ⊕ ((List Int))) :=
 (Yy p114 p101 p102).bind fun y115=>(if y115.2 = 2 then (Yw p114 p101 p102).bind fun y140=>(chk (y140.length = p114.length)).bind fun _=>Zu p104 p105 p101 p102 a0 p113 rf (IntKind.i64.wrap ((IntKind.i64.wrap (p102 - 1)) - (IntKind.i64.wrap (y115.1 - p101)))) 1 y140 else Zu p104 p105 p101 p102 a0 p113 rf y115.1 y115.2 p114)
noncomputable def ZH (a0 : (List Int)) (rf : (List Int)→Int→Int→Int→Option ((List Int))) : (Int×Int×Int×Bool×Bool×(List Int))→Option ((Int×Int×Int×Bool×Bool×(List Int)) ⊕ ((List Int)))
 | (p101,p102,p103,p104,p105,p106)=>(if IntKind.i64.wrap (p102 - p101)≤12 then (ZZ p106 p101 p102).bind fun y107=>(chk (y107.length = p106.length)).bind fun _=>(chk (y107.length = a0.length)).bind fun _=>some (.inr (y107)) else (if p103 = 0 then (YN p106 p101 p102).bind fun y109=>(chk (y109.length = p106.length)).bind fun _=>(chk (y109.length = a0.length)).bind fun _=>some (.inr (y109)) else (if ¬ (p104 = true) then (Z0 p106 p101 p102).bind fun y142=>(chk (y142.length = p106.length)).bind fun _=>ZG p101 p102 p104 p105 a0 rf (IntKind.i64.wrap (p103 - 1)) y142 else ZG p101 p102 p104 p105 a0 rf p103 p106)))
noncomputable def Ys (rf : (List Int)→Int→Int→Int→Option ((List Int))) (a0 : (List Int)) (a1 : Int) (a2 : Int) (a3 : Int) : Option ((List Int)) :=
 Zj (ZH a0 rf) (a1,a2,a3,true,true,a0)
noncomputable def Lslices_pdqsortOrdered_of_uint64_n : Nat→(List Int)→Int→Int→Int→Option ((List Int))
 | 0,_,_,_,_=>none
 | n + 1,a0,a1,a2,a3=>Ys (Lslices_pdqsortOrdered_of_uint64_n n) a0 a1 a2 a3
noncomputable def Xv (a0 : (List Int)) (a1 : Int) (a2 : Int) (a3 : Int) : Option ((List Int)):=Zic fun n=>Lslices_pdqsortOrdered_of_uint64_n n a0 a1 a2 a3
noncomputable def Y4 (a0 : (List Int)) : Option ((List Int)) :=
 (ZaH (IntKind.u64.wrap ((a0.length : Int)))).bind fun y1=>(Xv a0 0 (a0.length : Int) y1).bind fun y2=>(chk (y2.length = a0.length)).bind fun _=>(chk (y2.length = a0.length)).bind fun _=>some (y2)
noncomputable def ZdH (p11 : (List Int)) : Option (List Int) :=
 (Y4 p11).bind fun y16=>(chk (y16.length = p11.length)).bind fun _=>some (y16)
noncomputable def Zbl (a1 : (List (List Int))) (a0 : (Arr 2)) (a2 : Int) (a3 : Int) : (Int×(List Int))→Option ((Int×(List Int)) ⊕ ((List Int)))
 | (p10,p11)=>(if p10 < (a1.length : Int) then (idx (a1) (p10)).bind fun x18=>(Ze3 a0 x18).bind fun y19=>(ZeI y19 (IntKind.u64.wrap ((IntKind.u64.wrap (a2)) * a3))).bind fun y20=>(chk (p11.length + 1≤17592186044416)).bind fun _=>some (.inl (IntKind.i64.wrap (p10 + 1),p11++[y20])) else (ZdH p11).map Sum.inr)
noncomputable def Zbu (a0 : (Arr 2)) (a1 : (List (List Int))) (a2 : Int) (a3 : Int) : Option ((List Int)) :=
 Zj (Zbl a1 a0 a2 a3) (0,[])
noncomputable def Zb6 (a0 : Tapi_Bits) (a1 : Int) : Option (Bool) :=
 (idx (a0.1) (IntKind.i64.wrap ((a1).tdiv 8))).bind fun x1=>(chk (¬ (IntKind.i64.wrap (7 - ((a1).tmod 8)) < 0))).bind fun _=>some (decide (bits .and .u8 ((x1).fdiv (2 ^ (min (IntKind.i64.wrap (7 - ((a1).tmod 8))).toNat 8))) 1 = 1))
noncomputable def Lref18_Valid_k1 : Option Bool :=
 some (true)
noncomputable def Zb7 (a0 : Tapi_Bits) : Int→Option ((Int) ⊕ (Bool))
 | p4=>(if p4 < IntKind.i64.wrap (8 * (a0.1.length : Int)) then (Zb6 a0 p4).bind fun y6=>(if y6 = true then some (.inr (false)) else some (.inl (IntKind.i64.wrap (p4 + 1)))) else (Lref18_Valid_k1).map Sum.inr)
noncomputable def ZbH (a0 : Tapi_Bits) : Option (Bool) :=
 (if ((a0.2 < 0∨1600000 < a0.2)∨¬ ((a0.1.length : Int) = IntKind.i64.wrap ((IntKind.i64.wrap (a0.2 + 7)).tdiv 8))) then some (false) else Zj (Zb7 a0) a0.2)
noncomputable def Lkeep_Items_k1 : Option Bool :=
 some (true)
noncomputable def Zbv (a0 : (List (List Int))) (a2 : Int) : Int→Option ((Int) ⊕ (Bool))
 | p4=>(if p4 < (a0.length : Int) then (idx (a0) (p4)).bind fun x6=>(if a2 < (x6.length : Int) then some (.inr (false)) else some (.inl (IntKind.i64.wrap (p4 + 1)))) else (Lkeep_Items_k1).map Sum.inr)
noncomputable def ZcW (a0 : (List (List Int))) (a1 : Int) (a2 : Int) : Option (Bool) :=
 (if a1 < (a0.length : Int) then some (false) else Zj (Zbv a0 a2) 0)
noncomputable def Zde (a0 : Int) (a1 : Int) : Option (Int) :=
 (ZaG a0 a1).bind fun y1=>some (y1.1)
noncomputable def XQ (a0 : (Arr 4)) : Option ((Arr 4)) :=
 (ZJ ((a0.put 0 (IntKind.u64.wrap ((a0.at 0) + (a0.at 1)))).at 1) 13).bind fun y1=>(ZJ (((a0.put 0 (IntKind.u64.wrap ((a0.at 0) + (a0.at 1)))).put 1 (bits .xor .u64 y1 ((a0.put 0 (IntKind.u64.wrap ((a0.at 0) + (a0.at 1)))).at 0))).at 0) 32).bind fun y2=>(ZJ (((((a0.put 0 (IntKind.u64.wrap ((a0.at 0) + (a0.at 1)))).put 1 (bits .xor .u64 y1 ((a0.put 0 (IntKind.u64.wrap ((a0.at 0) + (a0.at 1)))).at 0))).put 0 y2).put 2 (IntKind.u64.wrap (((((a0.put 0 (IntKind.u64.wrap ((a0.at 0) + (a0.at 1)))).put 1 (bits .xor .u64 y1 ((a0.put 0 (IntKind.u64.wrap ((a0.at 0) + (a0.at 1)))).at 0))).put 0 y2).at 2) + ((((a0.put 0 (IntKind.u64.wrap ((a0.at 0) + (a0.at 1)))).put 1 (bits .xor .u64 y1 ((a0.put 0 (IntKind.u64.wrap ((a0.at 0) + (a0.at 1)))).at 0))).put 0 y2).at 3)))).at 3) 16).bind fun y3=>(some (((((a0.put 0 (IntKind.u64.wrap ((a0.at 0) + (a0.at 1)))).put 1 (bits .xor .u64 y1 ((a0.put 0 (IntKind.u64.wrap ((a0.at 0) + (a0.at 1)))).at 0))).put 0 y2).put 2 (IntKind.u64.wrap (((((a0.put 0 (IntKind.u64.wrap ((a0.at 0) + (a0.at 1)))).put 1 (bits .xor .u64 y1 ((a0.put 0 (IntKind.u64.wrap ((a0.at 0) + (a0.at 1)))).at 0))).put 0 y2).at 2) + ((((a0.put 0 (IntKind.u64.wrap ((a0.at 0) + (a0.at 1)))).put 1 (bits .xor .u64 y1 ((a0.put 0 (IntKind.u64.wrap ((a0.at 0) + (a0.at 1)))).at 0))).put 0 y2).at 3)))).put 3 (bits .xor .u64 y3 (((((a0.put 0 (IntKind.u64.wrap ((a0.at 0) + (a0.at 1)))).put 1 (bits .xor .u64 y1 ((a0.put 0 (IntKind.u64.wrap ((a0.at 0) + (a0.at 1)))).at 0))).put 0 y2).put 2 (IntKind.u64.wrap (((((a0.put 0 (IntKind.u64.wrap ((a0.at 0) + (a0.at 1)))).put 1 (bits .xor .u64 y1 ((a0.put 0 (IntKind.u64.wrap ((a0.at 0) + (a0.at 1)))).at 0))).put 0 y2).at 2) + ((((a0.put 0 (IntKind.u64.wrap ((a0.at 0) + (a0.at 1)))).put 1 (bits .xor .u64 y1 ((a0.put 0 (IntKind.u64.wrap ((a0.at 0) + (a0.at 1)))).at 0))).put 0 y2).at 3)))).at 2)))).bind fun x4=>(ZJ ((x4.put 0 (IntKind.u64.wrap ((x4.at 0) + (x4.at 3)))).at 3) 21).bind fun y5=>(ZJ ((((x4.put 0 (IntKind.u64.wrap ((x4.at 0) + (x4.at 3)))).put 3 (bits .xor .u64 y5 ((x4.put 0 (IntKind.u64.wrap ((x4.at 0) + (x4.at 3)))).at 0))).put 2 (IntKind.u64.wrap ((((x4.put 0 (IntKind.u64.wrap ((x4.at 0) + (x4.at 3)))).put 3 (bits .xor .u64 y5 ((x4.put 0 (IntKind.u64.wrap ((x4.at 0) + (x4.at 3)))).at 0))).at 2) + (((x4.put 0 (IntKind.u64.wrap ((x4.at 0) + (x4.at 3)))).put 3 (bits .xor .u64 y5 ((x4.put 0 (IntKind.u64.wrap ((x4.at 0) + (x4.at 3)))).at 0))).at 1)))).at 1) 17).bind fun y6=>(some ((((x4.put 0 (IntKind.u64.wrap ((x4.at 0) + (x4.at 3)))).put 3 (bits .xor .u64 y5 ((x4.put 0 (IntKind.u64.wrap ((x4.at 0) + (x4.at 3)))).at 0))).put 2 (IntKind.u64.wrap ((((x4.put 0 (IntKind.u64.wrap ((x4.at 0) + (x4.at 3)))).put 3 (bits .xor .u64 y5 ((x4.put 0 (IntKind.u64.wrap ((x4.at 0) + (x4.at 3)))).at 0))).at 2) + (((x4.put 0 (IntKind.u64.wrap ((x4.at 0) + (x4.at 3)))).put 3 (bits .xor .u64 y5 ((x4.put 0 (IntKind.u64.wrap ((x4.at 0) + (x4.at 3)))).at 0))).at 1)))).put 1 (bits .xor .u64 y6 ((((x4.put 0 (IntKind.u64.wrap ((x4.at 0) + (x4.at 3)))).put 3 (bits .xor .u64 y5 ((x4.put 0 (IntKind.u64.wrap ((x4.at 0) + (x4.at 3)))).at 0))).put 2 (IntKind.u64.wrap ((((x4.put 0 (IntKind.u64.wrap ((x4.at 0) + (x4.at 3)))).put 3 (bits .xor .u64 y5 ((x4.put 0 (IntKind.u64.wrap ((x4.at 0) + (x4.at 3)))).at 0))).at 2) + (((x4.put 0 (IntKind.u64.wrap ((x4.at 0) + (x4.at 3)))).put 3 (bits .xor .u64 y5 ((x4.put 0 (IntKind.u64.wrap ((x4.at 0) + (x4.at 3)))).at 0))).at 1)))).at 2)))).bind fun x7=>(ZJ (x7.at 2) 32).bind fun y8=>some (x7.put 2 y8)
noncomputable def Zae (a0 : (Arr 4)) (a1 : Int) : Option ((Arr 4)) :=
 (XQ (a0.put 3 (bits .xor .u64 (a0.at 3) a1))).bind fun y1=>(XQ y1).bind fun y2=>some (y2.put 0 (bits .xor .u64 (y2.at 0) a1))
noncomputable def Zg2 (p7 : Int) : Option Int :=
 some (p7)
noncomputable def Zg3 (a0 : (List Int)) : (Int×Int)→Option ((Int×Int) ⊕ (Int))
 | (p7,p8)=>(if p8 < (a0.length : Int) then (idx (a0) (p8)).bind fun x11=>(chk (¬ (IntKind.i64.wrap (8 * p8) < 0))).bind fun _=>some (.inl (bits .or .u64 p7 (IntKind.u64.wrap ((IntKind.u64.wrap (x11)) * (2 ^ (min (IntKind.i64.wrap (8 * p8)).toNat 64)))),IntKind.i64.wrap (p8 + 1))) else (Zg2 p7).map Sum.inr)
noncomputable def Zbs (a0 : (List Int)) : Option (Int) :=
 Zj (Zg3 a0) (0,0)
noncomputable def Zfx (p11 : (List Int)) (p12 : (Arr 4)) (a1 : (List Int)) : Option Int :=
 (Zbs p11).bind fun y17=>(Zae p12 (bits .or .u64 y17 (IntKind.u64.wrap ((IntKind.u64.wrap (((a1.length : Int)).tmod 256)) * 72057594037927936)))).bind fun y18=>(XQ (y18.put 2 (bits .xor .u64 (y18.at 2) 255))).bind fun y19=>(XQ y19).bind fun y20=>(XQ y20).bind fun y21=>(XQ y21).bind fun y22=>some (bits .xor .u64 (bits .xor .u64 (bits .xor .u64 (y22.at 0) (y22.at 1)) (y22.at 2)) (y22.at 3))
noncomputable def ZcO (a1 : (List Int)) : ((List Int)×(Arr 4))→Option (((List Int)×(Arr 4)) ⊕ (Int))
 | (p11,p12)=>(if 8≤(p11.length : Int) then (chk (8≤(p11.length : Int))).bind fun _=>(Zbs ((p11).take 8)).bind fun y24=>(Zae p12 y24).bind fun y25=>(chk (8≤(p11.length : Int))).bind fun _=>some (.inl ((p11).drop 8,y25)) else (Zfx p11 p12 a1).map Sum.inr)
noncomputable def ZcF (a0 : (Arr 2)) (a1 : (List Int)) : Option (Int) :=
 Zj (ZcO a1) (a1,((((zA 4).put 0 (bits .xor .u64 (a0.at 0) 8317987319222330741)).put 1 (bits .xor .u64 (a0.at 1) 7237128888997146477)).put 2 (bits .xor .u64 (a0.at 0) 7816392313619706465)).put 3 (bits .xor .u64 (a0.at 1) 8387220255154660723))
noncomputable def ZaW (a0 : (Arr 2)) (a1 : (List Int)) (a2 : Int) (a3 : Int) : Option (Int) :=
 (ZcF a0 a1).bind fun y1=>(Zde y1 (IntKind.u64.wrap ((IntKind.u64.wrap (a2)) * a3))).bind fun y2=>some (y2)
noncomputable def Zak (p29 : (List Int)) (p27 : (List Int)) (p28 : (List Int)) : Option (List Int) :=
 (chk (p29.length + p27.length≤17592186044416)).bind fun _=>(chk (p29.length + p27.length + p28.length≤17592186044416)).bind fun _=>some (p29++p27++p28)
noncomputable def Lref19_sorted_s1 : ((List Int)×(List Int)×(List Int))→Option (((List Int)×(List Int)×(List Int)) ⊕ ((List Int)))
 | (p27,p28,p29)=>(if (0 < (p27.length : Int)∧0 < (p28.length : Int)) then ((p27)[0]?).bind fun x38=>((p28)[0]?).bind fun x39=>(if x38≤x39 then (chk (p29.length + 1≤17592186044416)).bind fun _=>(chk (1≤(p27.length : Int))).bind fun _=>some (.inl ((p27).drop 1,p28,p29++[x38])) else (chk (p29.length + 1≤17592186044416)).bind fun _=>(chk (1≤(p28.length : Int))).bind fun _=>some (.inl (p27,(p28).drop 1,p29++[x39]))) else (Zak p29 p27 p28).map Sum.inr)
noncomputable def Zb8 (rf : (List Int)→Option ((List Int))) (a0 : (List Int)) : Option ((List Int)) :=
 (if (a0.length : Int) < 2 then some (a0) else (chk (IntKind.i64.wrap (((a0.length : Int)).tdiv 2)≤(a0.length : Int)∧0≤IntKind.i64.wrap (((a0.length : Int)).tdiv 2))).bind fun _=>(rf ((a0).take ((IntKind.i64.wrap (((a0.length : Int)).tdiv 2)).toNat))).bind fun y2=>(chk (0≤IntKind.i64.wrap (((a0.length : Int)).tdiv 2)∧IntKind.i64.wrap (((a0.length : Int)).tdiv 2)≤(a0.length : Int))).bind fun _=>(rf ((a0).drop ((IntKind.i64.wrap (((a0.length : Int)).tdiv 2)).toNat))).bind fun y4=>Zj (Lref19_sorted_s1) (y2,y4,[]))
noncomputable def Lref19_sorted_n : Nat→(List Int)→Option ((List Int))
 | 0,_=>none
 | n + 1,a0=>Zb8 (Lref19_sorted_n n) a0
noncomputable def Zd0 (a0 : (List Int)) : Option ((List Int)):=Zic fun n=>Lref19_sorted_n n a0
noncomputable def XR (a0 : (List Int)) : Option (List Int) :=
 some (a0)
noncomputable def XS (p131 : Int) (p133 : (List Int)) : Option ((Int) ⊕ ((List Int))) :=
 (chk (0≤p131∧p131≤(p133.length : Int))).bind fun _=>(chk (p131≤((clr (p133) ((p131).toNat) (p133.length - (p131).toNat) 0).length : Int)∧0≤p131)).bind fun _=>some (.inr ((clr (p133) ((p131).toNat) (p133.length - (p131).toNat) 0).take (p131).toNat))
noncomputable def ZW (p132 : Int) (p148 : Int) (p149 : (List Int)) : Option ((Int×Int×(List Int)) ⊕ ((Int) ⊕ ((List Int)))) :=
 some (.inl (p148,IntKind.i64.wrap (p132 + 1),p149))
noncomputable def Yn (a0 : (List Int)) (p72 : Int) : (Int×Int×(List Int))→Option ((Int×Int×(List Int)) ⊕ ((Int) ⊕ ((List Int))))
 | (p131,p132,p133)=>(if p132 < (((a0.length - (p72).toNat) : Nat) : Int) then (inA ((a0.length - (p72).toNat)) (p132)).bind fun j143=>((p133)[(p72).toNat + j143]?).bind fun x144=>(inA ((a0.length - (p72).toNat)) (IntKind.i64.wrap (p132 - 1))).bind fun j145=>((p133)[(p72).toNat + j145]?).bind fun x146=>(if ¬ (x144 = x146) then (inA (p133.length) (p131)).bind fun j150=>ZW p132 (IntKind.i64.wrap (p131 + 1)) ((p133).set j150 x144) else ZW p132 p131 p133) else (XS p131 p133).map Sum.inr)
noncomputable def YC (a0 : (List Int)) : Int→Option ((Int) ⊕ ((List Int)))
 | p72=>(if p72 < (a0.length : Int) then (inA (a0.length) (p72)).bind fun j108=>((a0)[j108]?).bind fun x109=>(inA (a0.length) (IntKind.i64.wrap (p72 - 1))).bind fun j110=>((a0)[j110]?).bind fun x111=>(if x109 = x111 then (chk (0≤p72∧p72≤(a0.length : Int))).bind fun _=>Zj (Yn a0 p72) (p72,1,a0) else some (.inl (IntKind.i64.wrap (p72 + 1)))) else (XR a0).map Sum.inr)
noncomputable def Yg (a0 : (List Int)) : Option ((List Int)) :=
 (if (a0.length : Int) < 2 then some (a0) else Zj (YC a0) 1)
noncomputable def Zbw (a0 : (Arr 2)) (a1 : (List (List Int))) (a2 : Int) (a3 : Int) : Option ((List Int)×Int) :=
 (if 4096 < (a1.length : Int) then some ((([] : (List Int)),4)) else (if (((a2 < 0∨4096 < a2)∨a3 < 1)∨1099511627776 < a3) then some ((([] : (List Int)),5)) else (Zbu a0 a1 a2 a3).bind fun y1=>(Yg y1).bind fun y2=>some ((y2,0))))
noncomputable def Zeh (p27 : (List Int)) : Option ((List Int)×Int) :=
 some ((p27,0))
noncomputable def Xw (p26 : Int) (p39 : (List Int)) : Option ((Int×(List Int)) ⊕ ((List Int)×Int)) :=
 some (.inl (IntKind.i64.wrap (p26 + 1),p39))
noncomputable def ZbI (y13 : ((List Int))) : (Int×(List Int))→Option ((Int×(List Int)) ⊕ ((List Int)×Int))
 | (p26,p27)=>(if p26 < (y13.length : Int) then (idx (y13) (p26)).bind fun x34=>((if p26 = 0 then some (false) else (inA (p27.length) (IntKind.i64.wrap ((p27.length : Int) - 1))).bind fun j35=>((p27)[j35]?).bind fun x36=>some (!(decide (x34 = x36))))).bind fun z37=>(if (p26 = 0∨z37 = true) then (chk (p27.length + 1≤17592186044416)).bind fun _=>Xw p26 (p27++[x34]) else Xw p26 p27) else (Zeh p27).map Sum.inr)
noncomputable def Zei (p9 : (List Int)) : Option ((List Int)×Int) :=
 (Zd0 p9).bind fun y13=>Zj (ZbI y13) (0,[])
noncomputable def ZbJ (a1 : (List (List Int))) (a0 : (Arr 2)) (a2 : Int) (a3 : Int) : (Int×(List Int))→Option ((Int×(List Int)) ⊕ ((List Int)×Int))
 | (p8,p9)=>(if p8 < (a1.length : Int) then (idx (a1) (p8)).bind fun x41=>(ZaW a0 x41 a2 a3).bind fun y42=>(chk (p9.length + 1≤17592186044416)).bind fun _=>some (.inl (IntKind.i64.wrap (p8 + 1),p9++[y42])) else (Zei p9).map Sum.inr)
noncomputable def ZbS (a0 : (Arr 2)) (a1 : (List (List Int))) (a2 : Int) (a3 : Int) : Option ((List Int)×Int) :=
 (if 4096 < (a1.length : Int) then some ((([] : (List Int)),4)) else (if (((a2 < 0∨4096 < a2)∨a3 < 1)∨1099511627776 < a3) then some ((([] : (List Int)),5)) else Zj (ZbJ a1 a0 a2 a3) (0,[])))
noncomputable def Zdf (a0 : Tapi_Bits) (a1 : Int) : Option (Bool) :=
 (idx (a0.1) (IntKind.i64.wrap ((a1).tdiv 8))).bind fun x1=>(chk (¬ ((a1).tmod 8 < 0))).bind fun _=>some (!(decide (bits .and .u8 x1 ((128 : Int).fdiv (2 ^ (min ((a1).tmod 8).toNat 8))) = 0)))
noncomputable def ZeJ (p7 : Int) : Option Int :=
 some (p7)
noncomputable def Za1 (p8 : Int) (p12 : Int) : Option ((Int×Int) ⊕ (Int)) :=
 some (.inl (p12,IntKind.i64.wrap (p8 + 1)))
noncomputable def Zb9 (a2 : Int) (a0 : Tapi_Bits) (a1 : Int) : (Int×Int)→Option ((Int×Int) ⊕ (Int))
 | (p7,p8)=>(if p8 < a2 then (Zdf a0 (IntKind.i64.wrap (a1 + p8))).bind fun y11=>(if y11 = true then Za1 p8 (bits .or .u64 (IntKind.u64.wrap (p7 * 2)) 1) else Za1 p8 (IntKind.u64.wrap (p7 * 2))) else (ZeJ p7).map Sum.inr)
noncomputable def ZbK (a0 : Tapi_Bits) (a1 : Int) (a2 : Int) : Option (Int) :=
 Zj (Zb9 a2 a0 a1) (0,0)
noncomputable def Zaw (a0 : Tapi_Bits) (p7 : Int) (a2 : Int) (a1 : Int) : Option (Int×Int×Int) :=
 (if IntKind.i64.wrap (a0.2 - p7) < IntKind.i64.wrap (1 + a2) then some ((0,0,1)) else (chk (¬ (a2 < 0))).bind fun _=>(ZbK a0 (IntKind.i64.wrap (p7 + 1)) a2).bind fun y11=>some ((bits .or .u64 (IntKind.u64.wrap ((IntKind.u64.wrap (IntKind.i64.wrap (p7 - a1))) * (2 ^ (min (a2).toNat 64)))) y11,IntKind.i64.wrap ((IntKind.i64.wrap (p7 + 1)) + a2),0)))
noncomputable def X7 (a0 : Tapi_Bits) (a1 : Int) (a2 : Int) : Int→Option ((Int) ⊕ (Int×Int×Int))
 | p7=>((if p7 < a0.2 then (Zdf a0 p7).bind fun y12=>some (y12) else some (false))).bind fun z13=>(if (p7 < a0.2∧z13 = true) then (if 65536 < IntKind.i64.wrap ((IntKind.i64.wrap (p7 + 1)) - a1) then some (.inr ((0,0,4))) else some (.inl (IntKind.i64.wrap (p7 + 1)))) else (Zaw a0 p7 a2 a1).map Sum.inr)
noncomputable def Zbx (a0 : Tapi_Bits) (a1 : Int) (a2 : Int) : Option (Int×Int×Int) :=
 (Zcf a0).bind fun y1=>(if ¬ (y1 = true) then some ((0,0,6)) else (if (((a2 < 0∨32 < a2)∨a1 < 0)∨a0.2 < a1) then some ((0,0,5)) else Zj (X7 a0 a1 a2) a1))
noncomputable def ZeK (a0 : Tapi_Bits) (a1 : Int) (a2 : Int) : Option (Int×Int×Int) :=
 (Zcf a0).bind fun y1=>(if ¬ (y1 = true) then some ((0,0,6)) else (if (((a2 < 0∨64 < a2)∨a1 < 0)∨a0.2 < a1) then some ((0,0,5)) else (if IntKind.i64.wrap (a0.2 - a1) < a2 then some ((0,0,1)) else (ZbK a0 a1 a2).bind fun y2=>some ((y2,IntKind.i64.wrap (a1 + a2),0)))))
noncomputable def ZdI (a0 : Tapi_Filter) (p10 : Int) (p12 : (List Int)) : Option ((List Int)×Int) :=
 (if 8≤IntKind.i64.wrap ((IntKind.i64.wrap (8 * (a0.2.length : Int))) - p10) then some ((([] : (List Int)),2)) else (ZeK (a0.2,IntKind.i64.wrap (8 * (a0.2.length : Int))) p10 (IntKind.i64.wrap ((IntKind.i64.wrap (8 * (a0.2.length : Int))) - p10))).bind fun y15=>(if ¬ (y15.2.2 = 0) then some ((([] : (List Int)),y15.2.2)) else (if ¬ (y15.1 = 0) then some ((([] : (List Int)),3)) else some ((p12,0)))))
noncomputable def Zax (a0 : Tapi_Filter) (a1 : Int) : (Int×Int×Int×(List Int))→Option ((Int×Int×Int×(List Int)) ⊕ ((List Int)×Int))
 | (p9,p10,p11,p12)=>(if p11 < a0.1 then (Zbx (a0.2,IntKind.i64.wrap (8 * (a0.2.length : Int))) p10 a1).bind fun y16=>(if ¬ (y16.2.2 = 0) then some (.inr ((([] : (List Int)),y16.2.2))) else (if IntKind.u64.wrap (p9 + y16.1) < p9 then some (.inr ((([] : (List Int)),5))) else (chk (p12.length + 1≤17592186044416)).bind fun _=>some (.inl (IntKind.u64.wrap (p9 + y16.1),y16.2.1,IntKind.i64.wrap (p11 + 1),p12++[IntKind.u64.wrap (p9 + y16.1)])))) else (ZdI a0 p10 p12).map Sum.inr)
noncomputable def Zby (a0 : Tapi_Filter) (a1 : Int) : Option ((List Int)×Int) :=
 (if (4096 < a0.1∨200000 < (a0.2.length : Int)) then some ((([] : (List Int)),4)) else (if ((a0.1 < 0∨a1 < 0)∨32 < a1) then some ((([] : (List Int)),5)) else (chk (0≤a0.1∧a0.1≤17592186044416)).bind fun _=>Zj (Zax a0 a1) (0,0,0,([] : (List Int)))))
noncomputable def Zej (p7 : Int) : Option Int :=
 some (p7)
noncomputable def ZaI (p8 : Int) (p12 : Int) : Option ((Int×Int) ⊕ (Int)) :=
 some (.inl (p12,IntKind.i64.wrap (p8 + 1)))
noncomputable def ZbL (a1 : Int) (a2 : Int) (a0 : Tapi_Bits) : (Int×Int)→Option ((Int×Int) ⊕ (Int))
 | (p7,p8)=>(if p8 < IntKind.i64.wrap (a1 + a2) then (Zb6 a0 p8).bind fun y11=>(if y11 = true then ZaI p8 (IntKind.u64.wrap ((IntKind.u64.wrap (p7 * 2)) + 1)) else ZaI p8 (IntKind.u64.wrap (p7 * 2))) else (Zej p7).map Sum.inr)
noncomputable def Zbf (a0 : Tapi_Bits) (a1 : Int) (a2 : Int) : Option (Int) :=
 Zj (ZbL a1 a2 a0) (0,a1)
noncomputable def Zap (a0 : Tapi_Bits) (a1 : Int) (p7 : Int) (a2 : Int) : Option (Int×Int×Int) :=
 (if IntKind.i64.wrap ((IntKind.i64.wrap (a0.2 - a1)) - p7) < IntKind.i64.wrap (1 + a2) then some ((0,0,1)) else (chk (¬ (a2 < 0))).bind fun _=>(Zbf a0 (IntKind.i64.wrap ((IntKind.i64.wrap (a1 + p7)) + 1)) a2).bind fun y11=>some ((bits .or .u64 (IntKind.u64.wrap ((IntKind.u64.wrap (p7)) * (2 ^ (min (a2).toNat 64)))) y11,IntKind.i64.wrap ((IntKind.i64.wrap ((IntKind.i64.wrap (a1 + p7)) + 1)) + a2),0)))
noncomputable def XT (a1 : Int) (a0 : Tapi_Bits) (a2 : Int) : Int→Option ((Int) ⊕ (Int×Int×Int))
 | p7=>((if IntKind.i64.wrap (a1 + p7) < a0.2 then (Zb6 a0 (IntKind.i64.wrap (a1 + p7))).bind fun y12=>some (y12) else some (false))).bind fun z13=>(if (IntKind.i64.wrap (a1 + p7) < a0.2∧z13 = true) then (if 65536 < IntKind.i64.wrap (p7 + 1) then some (.inr ((0,0,4))) else some (.inl (IntKind.i64.wrap (p7 + 1)))) else (Zap a0 a1 p7 a2).map Sum.inr)
noncomputable def Za2 (a0 : Tapi_Bits) (a1 : Int) (a2 : Int) : Option (Int×Int×Int) :=
 (ZbH a0).bind fun y1=>(if ¬ (y1 = true) then some ((0,0,6)) else (if (((a2 < 0∨32 < a2)∨a1 < 0)∨a0.2 < a1) then some ((0,0,5)) else Zj (XT a1 a0 a2) 0))
noncomputable def ZdP (a0 : Tapi_Bits) (a1 : Int) (a2 : Int) : Option (Int×Int×Int) :=
 (ZbH a0).bind fun y1=>(if ¬ (y1 = true) then some ((0,0,6)) else (if (((a2 < 0∨64 < a2)∨a1 < 0)∨a0.2 < a1) then some ((0,0,5)) else (if IntKind.i64.wrap (a0.2 - a1) < a2 then some ((0,0,1)) else (Zbf a0 a1 a2).bind fun y2=>some ((y2,IntKind.i64.wrap (a1 + a2),0)))))
noncomputable def Zek (a0 : Tapi_Filter) (p7 : Int) (p9 : (List Int)) : Option ((List Int)×Int) :=
 (if 8≤IntKind.i64.wrap ((IntKind.i64.wrap (8 * (a0.2.length : Int))) - p7) then some ((([] : (List Int)),2)) else (ZdP (a0.2,IntKind.i64.wrap (8 * (a0.2.length : Int))) p7 (IntKind.i64.wrap ((IntKind.i64.wrap (8 * (a0.2.length : Int))) - p7))).bind fun y12=>(if ¬ (y12.1 = 0) then some ((([] : (List Int)),3)) else some ((p9,0))))
noncomputable def ZaJ (a0 : Tapi_Filter) (a1 : Int) : (Int×Int×(List Int))→Option ((Int×Int×(List Int)) ⊕ ((List Int)×Int))
 | (p7,p8,p9)=>(if (p9.length : Int) < a0.1 then (Za2 (a0.2,IntKind.i64.wrap (8 * (a0.2.length : Int))) p7 a1).bind fun y13=>(if ¬ (y13.2.2 = 0) then some (.inr ((([] : (List Int)),y13.2.2))) else (if IntKind.u64.wrap (p8 + y13.1) < p8 then some (.inr ((([] : (List Int)),5))) else (chk (p9.length + 1≤17592186044416)).bind fun _=>some (.inl (y13.2.1,IntKind.u64.wrap (p8 + y13.1),p9++[IntKind.u64.wrap (p8 + y13.1)])))) else (Zek a0 p7 p9).map Sum.inr)
noncomputable def ZbT (a0 : Tapi_Filter) (a1 : Int) : Option ((List Int)×Int) :=
 (if (4096 < a0.1∨200000 < (a0.2.length : Int)) then some ((([] : (List Int)),4)) else (if ((a0.1 < 0∨a1 < 0)∨32 < a1) then some ((([] : (List Int)),5)) else Zj (ZaJ a0 a1) (0,0,[])))
noncomputable def Lgolomb_Match_k1 : Option (Bool×Int) :=
 some ((false,0))
noncomputable def XU (p46 : Int) (y1 : ((List Int)×Int)) (x40 : Int) (p28 : Int) : Option ((Int×Int) ⊕ (Bool×Int)) :=
 ((if p46 < (y1.1.length : Int) then (idx (y1.1) (p46)).bind fun x49=>some (decide (x49 = x40)) else some (false))).bind fun z50=>(if (p46 < (y1.1.length : Int)∧z50 = true) then some (.inr ((true,0))) else some (.inl (p46,IntKind.i64.wrap (p28 + 1))))
noncomputable def XV (y1 : ((List Int)×Int)) (x40 : Int) (p28 : Int) : Int→Option ((Int) ⊕ ((Int×Int) ⊕ (Bool×Int)))
 | p46=>((if p46 < (y1.1.length : Int) then (idx (y1.1) (p46)).bind fun x51=>some (decide (x51 < x40)) else some (false))).bind fun z52=>(if (p46 < (y1.1.length : Int)∧z52 = true) then some (.inl (IntKind.i64.wrap (p46 + 1))) else (XU p46 y1 x40 p28).map Sum.inr)
noncomputable def ZaK (y2 : ((List Int)×Int)) (y1 : ((List Int)×Int)) : (Int×Int)→Option ((Int×Int) ⊕ (Bool×Int))
 | (p27,p28)=>(if p28 < (y2.1.length : Int) then (idx (y2.1) (p28)).bind fun x40=>Zj (XV y1 x40 p28) p27 else (Lgolomb_Match_k1).map Sum.inr)
noncomputable def ZbU (a0 : (Arr 2)) (a1 : Tapi_Filter) (a2 : (List (List Int))) (a3 : Int) (a4 : Int) : Option (Bool×Int) :=
 (Zby a1 a3).bind fun y1=>(if ¬ (y1.2 = 0) then some ((false,y1.2)) else (Zbw a0 a2 a1.1 a4).bind fun y2=>(if ¬ (y2.2 = 0) then some ((false,y2.2)) else Zj (ZaK y2 y1) (0,0)))
noncomputable def Lref19_Match_k1 : Option (Bool×Int) :=
 some ((false,0))
noncomputable def ZeL (p16 : Int) : Option ((Int) ⊕ (Bool×Int)) :=
 some (.inl (IntKind.i64.wrap (p16 + 1)))
noncomputable def Za3 (y1 : ((List Int)×Int)) (x23 : Int) (p16 : Int) : Int→Option ((Int) ⊕ ((Int) ⊕ (Bool×Int)))
 | p27=>(if p27 < (y1.1.length : Int) then (idx (y1.1) (p27)).bind fun x29=>(if x23 = x29 then some (.inr (.inr ((true,0)))) else some (.inl (IntKind.i64.wrap (p27 + 1)))) else (ZeL p16).map Sum.inr)
noncomputable def Za4 (y2 : ((List Int)×Int)) (y1 : ((List Int)×Int)) : Int→Option ((Int) ⊕ (Bool×Int))
 | p16=>(if p16 < (y2.1.length : Int) then (idx (y2.1) (p16)).bind fun x23=>Zj (Za3 y1 x23 p16) 0 else (Lref19_Match_k1).map Sum.inr)
noncomputable def Zct (a0 : (Arr 2)) (a1 : Tapi_Filter) (a2 : (List (List Int))) (a3 : Int) (a4 : Int) : Option (Bool×Int) :=
 (ZbT a1 a3).bind fun y1=>(if ¬ (y1.2 = 0) then some ((false,y1.2)) else (ZbS a0 a2 a1.1 a4).bind fun y2=>(if ¬ (y2.2 = 0) then some ((false,y2.2)) else Zj (Za4 y2 y1) 0))
def ZjA (x : (List (List Int))) : Prop:=x.length≤maxLen∧∀ a∈x,ZhA a
end Go.Lc
end
section
namespace Go.Lc
open Go.RowKit
open Go.Av
set_option maxRecDepth 100000
set_option linter.unusedSimpArgs false
set_option linter.unusedVariables false
def Zid (x : Tapi_Filter) : Prop:=(-9223372036854775808≤x.1∧x.1≤9223372036854775807)∧ZhA x.2
end Go.Lc
end
section
namespace Go.Lc
open Go.RowKit
open Go.Av
set_option maxRecDepth 100000
set_option linter.unusedSimpArgs false
set_option linter.unusedVariables false
noncomputable def Za5 (a0 : Int) : Option ((Arr 4)) :=
 some ((zA 4).put 0 a0)
end Go.Lc
end
section
namespace Go.Lc
open Go.RowKit
open Go.Av
set_option maxRecDepth 100000
set_option linter.unusedSimpArgs false
set_option linter.unusedVariables false
noncomputable def Lref02_Cmp_k1 : Option Int :=
 some (0)
noncomputable def Zd1 (a0 : (Arr 4)) (a1 : (Arr 4)) : Int→Option ((Int) ⊕ (Int))
 | p3=>(if 0≤p3 then (inA (4) (p3)).bind fun j5=>(if a0.at j5 < a1.at j5 then some (.inr ((-1))) else (if a1.at j5 < a0.at j5 then some (.inr (1)) else some (.inl (IntKind.i64.wrap (p3 - 1))))) else (Lref02_Cmp_k1).map Sum.inr)
noncomputable def Zdy (a0 : (Arr 4)) (a1 : (Arr 4)) : Option (Int) :=
 Zj (Zd1 a0 a1) 3
noncomputable def ZcG (a0 : (Arr 4)) (a1 : Int) : Option (Bool) :=
 (inA (4) (IntKind.i64.wrap ((a1).tdiv 64))).bind fun j1=>(chk (¬ ((a1).tmod 64 < 0))).bind fun _=>some (decide (bits .and .u64 ((a0.at j1).fdiv (2 ^ (min ((a1).tmod 64).toNat 64))) 1 = 1))
noncomputable def Zd2 (p12 : (Arr 4)) : Option (Arr 4) :=
 some (p12)
noncomputable def Zbg (p11 : Int) (p20 : (Arr 4)) : Option ((Int×(Arr 4)) ⊕ ((Arr 4))) :=
 some (.inl (IntKind.i64.wrap (p11 + 1),p20))
noncomputable def Zd3 (a1 : Int) (a0 : (Arr 4)) : (Int×(Arr 4))→Option ((Int×(Arr 4)) ⊕ ((Arr 4)))
 | (p11,p12)=>(if IntKind.i64.wrap (p11 + a1) < 256 then (ZcG a0 (IntKind.i64.wrap (p11 + a1))).bind fun y17=>(if y17 = true then (inA (4) (IntKind.i64.wrap ((p11).tdiv 64))).bind fun j21=>(chk (¬ ((p11).tmod 64 < 0))).bind fun _=>Zbg p11 (p12.put j21 (bits .or .u64 (p12.at j21) (IntKind.u64.wrap (1 * (2 ^ (min ((p11).tmod 64).toNat 64)))))) else Zbg p11 p12) else (Zd2 p12).map Sum.inr)
noncomputable def ZcH (a0 : (Arr 4)) (a1 : Int) : Option ((Arr 4)) :=
 (if a1≤0 then some (a0) else (if 256≤a1 then some (zA 4) else Zj (Zd3 a1 a0) (0,zA 4)))
end Go.Lc
end
