import Derived.Test.YthpkpciceodioaaGreatDoorLcG1
section
namespace Go.Lc
open Go.RowKit
open Go.Av
set_option maxRecDepth 100000
set_option linter.unusedSimpArgs false
set_option linter.unusedVariables false
abbrev Tapi_Bits:=(List Int)×Int
abbrev Tapi_Filter:=Int×(List Int)
noncomputable def XV (a0 : Int) : Option (Bool) :=
 some (!(decide (a0 = a0)))
noncomputable def ZM (a0 : Int) (a1 : Int) : Option (Bool) :=
 (XV a0).bind fun y1=>((if y1 = true then (XV a1).bind fun y2=>some (!(y2)) else some (false))).bind fun z3=>some (((y1 && z3) || decide (a0 < a1)))
noncomputable def ZbX (a0 : Tapi_Bits) : Option (Bool) :=
 (if ((a0.2 < 0∨1600000 < a0.2)∨¬ ((a0.1.length : Int) = IntKind.i64.wrap ((IntKind.i64.wrap (a0.2 + 7)).tdiv 8))) then some (false) else ((if (a0.2).tmod 8 = 0 then some (false) else (idx (a0.1) (IntKind.i64.wrap ((a0.1.length : Int) - 1))).bind fun x1=>(chk (¬ ((a0.2).tmod 8 < 0))).bind fun _=>some (decide (bits .and .u8 x1 ((255 : Int).fdiv (2 ^ (min ((a0.2).tmod 8).toNat 8))) = 0)))).bind fun z3=>some ((decide ((a0.2).tmod 8 = 0) || z3)))
noncomputable def Zas (a0 : Int) (a1 : Int) : Option (Int×Int) :=
 some ((IntKind.u64.wrap ((IntKind.u64.wrap ((IntKind.u64.wrap (((a0).fdiv 4294967296) * ((a1).fdiv 4294967296))) + ((IntKind.u64.wrap ((IntKind.u64.wrap (((a0).fdiv 4294967296) * (bits .and .u64 a1 4294967295))) + ((IntKind.u64.wrap ((bits .and .u64 a0 4294967295) * (bits .and .u64 a1 4294967295))).fdiv 4294967296))).fdiv 4294967296))) + ((IntKind.u64.wrap ((bits .and .u64 (IntKind.u64.wrap ((IntKind.u64.wrap (((a0).fdiv 4294967296) * (bits .and .u64 a1 4294967295))) + ((IntKind.u64.wrap ((bits .and .u64 a0 4294967295) * (bits .and .u64 a1 4294967295))).fdiv 4294967296))) 4294967295) + (IntKind.u64.wrap ((bits .and .u64 a0 4294967295) * ((a1).fdiv 4294967296))))).fdiv 4294967296)),IntKind.u64.wrap (a0 * a1)))
noncomputable def Zei (a0 : Int) (a1 : Int) : Option (Int) :=
 (Zas a0 a1).bind fun y1=>some (y1.1)
noncomputable def ZH (a0 : Int) (a1 : Int) : Option (Int) :=
 (chk (¬ (bits .and .u64 (IntKind.u64.wrap (a1)) 63 < 0))).bind fun _=>(chk (¬ (IntKind.u64.wrap (64 - (bits .and .u64 (IntKind.u64.wrap (a1)) 63)) < 0))).bind fun _=>some (bits .or .u64 (IntKind.u64.wrap (a0 * (2 ^ (min (bits .and .u64 (IntKind.u64.wrap (a1)) 63).toNat 64)))) ((a0).fdiv (2 ^ (min (IntKind.u64.wrap (64 - (bits .and .u64 (IntKind.u64.wrap (a1)) 63))).toNat 64))))
noncomputable def ZeC (p20 : (Arr 4)) : Option (Arr 4) :=
 some (p20)
noncomputable def Zca (a1 : Int) : (Int×(Arr 4))→Option ((Int×(Arr 4)) ⊕ ((Arr 4)))
 | (p19,p20)=>(if p19 < a1 then (ZH ((p20.put 0 (IntKind.u64.wrap ((p20.at 0) + (p20.at 1)))).at 1) 13).bind fun y29=>(ZH ((((p20.put 0 (IntKind.u64.wrap ((p20.at 0) + (p20.at 1)))).put 1 y29).put 1 (bits .xor .u64 (((p20.put 0 (IntKind.u64.wrap ((p20.at 0) + (p20.at 1)))).put 1 y29).at 1) (((p20.put 0 (IntKind.u64.wrap ((p20.at 0) + (p20.at 1)))).put 1 y29).at 0))).at 0) 32).bind fun y30=>(some (((((p20.put 0 (IntKind.u64.wrap ((p20.at 0) + (p20.at 1)))).put 1 y29).put 1 (bits .xor .u64 (((p20.put 0 (IntKind.u64.wrap ((p20.at 0) + (p20.at 1)))).put 1 y29).at 1) (((p20.put 0 (IntKind.u64.wrap ((p20.at 0) + (p20.at 1)))).put 1 y29).at 0))).put 0 y30).put 2 (IntKind.u64.wrap ((((((p20.put 0 (IntKind.u64.wrap ((p20.at 0) + (p20.at 1)))).put 1 y29).put 1 (bits .xor .u64 (((p20.put 0 (IntKind.u64.wrap ((p20.at 0) + (p20.at 1)))).put 1 y29).at 1) (((p20.put 0 (IntKind.u64.wrap ((p20.at 0) + (p20.at 1)))).put 1 y29).at 0))).put 0 y30).at 2) + (((((p20.put 0 (IntKind.u64.wrap ((p20.at 0) + (p20.at 1)))).put 1 y29).put 1 (bits .xor .u64 (((p20.put 0 (IntKind.u64.wrap ((p20.at 0) + (p20.at 1)))).put 1 y29).at 1) (((p20.put 0 (IntKind.u64.wrap ((p20.at 0) + (p20.at 1)))).put 1 y29).at 0))).put 0 y30).at 3))))).bind fun x31=>(ZH (x31.at 3) 16).bind fun y32=>(ZH ((((x31.put 3 y32).put 3 (bits .xor .u64 ((x31.put 3 y32).at 3) ((x31.put 3 y32).at 2))).put 0 (IntKind.u64.wrap ((((x31.put 3 y32).put 3 (bits .xor .u64 ((x31.put 3 y32).at 3) ((x31.put 3 y32).at 2))).at 0) + (((x31.put 3 y32).put 3 (bits .xor .u64 ((x31.put 3 y32).at 3) ((x31.put 3 y32).at 2))).at 3)))).at 3) 21).bind fun y33=>(some (((((x31.put 3 y32).put 3 (bits .xor .u64 ((x31.put 3 y32).at 3) ((x31.put 3 y32).at 2))).put 0 (IntKind.u64.wrap ((((x31.put 3 y32).put 3 (bits .xor .u64 ((x31.put 3 y32).at 3) ((x31.put 3 y32).at 2))).at 0) + (((x31.put 3 y32).put 3 (bits .xor .u64 ((x31.put 3 y32).at 3) ((x31.put 3 y32).at 2))).at 3)))).put 3 y33).put 3 (bits .xor .u64 (((((x31.put 3 y32).put 3 (bits .xor .u64 ((x31.put 3 y32).at 3) ((x31.put 3 y32).at 2))).put 0 (IntKind.u64.wrap ((((x31.put 3 y32).put 3 (bits .xor .u64 ((x31.put 3 y32).at 3) ((x31.put 3 y32).at 2))).at 0) + (((x31.put 3 y32).put 3 (bits .xor .u64 ((x31.put 3 y32).at 3) ((x31.put 3 y32).at 2))).at 3)))).put 3 y33).at 3) (((((x31.put 3 y32).put 3 (bits .xor .u64 ((x31.put 3 y32).at 3) ((x31.put 3 y32).at 2))).put 0 (IntKind.u64.wrap ((((x31.put 3 y32).put 3 (bits .xor .u64 ((x31.put 3 y32).at 3) ((x31.put 3 y32).at 2))).at 0) + (((x31.put 3 y32).put 3 (bits .xor .u64 ((x31.put 3 y32).at 3) ((x31.put 3 y32).at 2))).at 3)))).put 3 y33).at 0)))).bind fun x34=>(ZH ((x34.put 2 (IntKind.u64.wrap ((x34.at 2) + (x34.at 1)))).at 1) 17).bind fun y35=>(ZH ((((x34.put 2 (IntKind.u64.wrap ((x34.at 2) + (x34.at 1)))).put 1 y35).put 1 (bits .xor .u64 (((x34.put 2 (IntKind.u64.wrap ((x34.at 2) + (x34.at 1)))).put 1 y35).at 1) (((x34.put 2 (IntKind.u64.wrap ((x34.at 2) + (x34.at 1)))).put 1 y35).at 2))).at 2) 32).bind fun y36=>some (.inl (IntKind.i64.wrap (p19 + 1),(((x34.put 2 (IntKind.u64.wrap ((x34.at 2) + (x34.at 1)))).put 1 y35).put 1 (bits .xor .u64 (((x34.put 2 (IntKind.u64.wrap ((x34.at 2) + (x34.at 1)))).put 1 y35).at 1) (((x34.put 2 (IntKind.u64.wrap ((x34.at 2) + (x34.at 1)))).put 1 y35).at 2))).put 2 y36)) else (ZeC p20).map Sum.inr)
noncomputable def ZcD (a0 : (Arr 4)) (a1 : Int) : Option ((Arr 4)) :=
 Zg (Zca a1) (0,a0)
noncomputable def ZbY (a0 : (Arr 4)) (a1 : Int) : Option ((Arr 4)) :=
 (ZcD (a0.put 3 (bits .xor .u64 (a0.at 3) a1)) 2).bind fun y1=>some (y1.put 0 (bits .xor .u64 (y1.at 0) a1))
noncomputable def ZfP (p7 : Int) : Option Int :=
 some (p7)
noncomputable def ZcT (a0 : (List Int)) : (Int×Int)→Option ((Int×Int) ⊕ (Int))
 | (p7,p8)=>(if p8 < (a0.length : Int) then (idx (a0) (p8)).bind fun x11=>(chk (¬ (IntKind.i64.wrap (8 * p8) < 0))).bind fun _=>some (.inl (bits .or .u64 p7 (IntKind.u64.wrap ((IntKind.u64.wrap (x11)) * (2 ^ (min (IntKind.i64.wrap (8 * p8)).toNat 64)))),IntKind.i64.wrap (p8 + 1))) else (ZfP p7).map Sum.inr)
noncomputable def Zaq (a0 : (List Int)) : Option (Int) :=
 Zg (ZcT a0) (0,0)
noncomputable def Zga (a1 : (List Int)) (p10 : (Arr 4)) : Option Int :=
 (chk (0≤IntKind.i64.wrap (8 * (IntKind.i64.wrap (((a1.length : Int)).tdiv 8)))∧IntKind.i64.wrap (8 * (IntKind.i64.wrap (((a1.length : Int)).tdiv 8)))≤(a1.length : Int))).bind fun _=>(Zaq ((a1).drop ((IntKind.i64.wrap (8 * (IntKind.i64.wrap (((a1.length : Int)).tdiv 8)))).toNat))).bind fun y15=>(ZbY p10 (bits .or .u64 y15 (IntKind.u64.wrap ((IntKind.u64.wrap (((a1.length : Int)).tmod 256)) * 72057594037927936)))).bind fun y16=>(ZcD (y16.put 2 (bits .xor .u64 (y16.at 2) 255)) 4).bind fun y17=>some (bits .xor .u64 (bits .xor .u64 (bits .xor .u64 (y17.at 0) (y17.at 1)) (y17.at 2)) (y17.at 3))
noncomputable def Zdu (a1 : (List Int)) : (Int×(Arr 4))→Option ((Int×(Arr 4)) ⊕ (Int))
 | (p9,p10)=>(if p9 < IntKind.i64.wrap (((a1.length : Int)).tdiv 8) then (chk (0≤IntKind.i64.wrap (8 * p9)∧IntKind.i64.wrap (8 * p9)≤IntKind.i64.wrap ((IntKind.i64.wrap (8 * p9)) + 8)∧IntKind.i64.wrap ((IntKind.i64.wrap (8 * p9)) + 8)≤(a1.length : Int))).bind fun _=>(Zaq (((a1).take ((IntKind.i64.wrap ((IntKind.i64.wrap (8 * p9)) + 8)).toNat)).drop ((IntKind.i64.wrap (8 * p9)).toNat))).bind fun y19=>(ZbY p10 y19).bind fun y20=>some (.inl (IntKind.i64.wrap (p9 + 1),y20)) else (Zga a1 p10).map Sum.inr)
noncomputable def ZeD (a0 : (Arr 2)) (a1 : (List Int)) : Option (Int) :=
 Zg (Zdu a1) (0,((((zA 4).put 0 (bits .xor .u64 (a0.at 0) 8317987319222330741)).put 1 (bits .xor .u64 (a0.at 1) 7237128888997146477)).put 2 (bits .xor .u64 (a0.at 0) 7816392313619706465)).put 3 (bits .xor .u64 (a0.at 1) 8387220255154660723))
noncomputable def ZdX (a0 : Int) : Option Int :=
 (chk (0≤a0∧a0≤4294967295)).bind fun _=>some (Lib.bitLen a0.toNat : Int)
noncomputable def XJ (a0 : Int) : Option Int :=
 (chk (0≤a0∧a0≤18446744073709551615)).bind fun _=>some (Lib.bitLen a0.toNat : Int)
noncomputable def Zat (a0 : Int) : Option (Int) :=
 (XJ a0).bind fun y1=>some (y1)
noncomputable def Xt (a0 : Int) : Option (Int) :=
 (Zat (IntKind.u64.wrap (a0))).bind fun y1=>(chk (¬ (y1 < 0))).bind fun _=>some (IntKind.u64.wrap (1 * (2 ^ (min (y1).toNat 64))))
noncomputable def Zae (a0 : Int) : Option (Int×Int) :=
 some ((bits .xor .u64 (bits .xor .u64 (bits .xor .u64 a0 (IntKind.u64.wrap (a0 * 8192))) ((bits .xor .u64 a0 (IntKind.u64.wrap (a0 * 8192))).fdiv 128)) (IntKind.u64.wrap ((bits .xor .u64 (bits .xor .u64 a0 (IntKind.u64.wrap (a0 * 8192))) ((bits .xor .u64 a0 (IntKind.u64.wrap (a0 * 8192))).fdiv 128)) * 131072)),bits .xor .u64 (bits .xor .u64 (bits .xor .u64 a0 (IntKind.u64.wrap (a0 * 8192))) ((bits .xor .u64 a0 (IntKind.u64.wrap (a0 * 8192))).fdiv 128)) (IntKind.u64.wrap ((bits .xor .u64 (bits .xor .u64 a0 (IntKind.u64.wrap (a0 * 8192))) ((bits .xor .u64 a0 (IntKind.u64.wrap (a0 * 8192))).fdiv 128)) * 131072))))
noncomputable def Yp (a0 : (List Int)) (a1 : Int) (a2 : Int) (a3 : Int) : Option (Int×Int×Int) :=
 (idx (a0) (a2)).bind fun x1=>(idx (a0) (a1)).bind fun x2=>(ZM x1 x2).bind fun y3=>(if y3 = true then some ((a2,a1,IntKind.i64.wrap (a3 + 1))) else some ((a1,a2,a3)))
noncomputable def YC (a0 : (List Int)) (a1 : Int) (a2 : Int) (a3 : Int) (a4 : Int) : Option (Int×Int) :=
 (Yp a0 a1 a2 a4).bind fun y1=>(Yp a0 y1.2.1 a3 y1.2.2).bind fun y2=>(Yp a0 y1.1 y2.1 y2.2.2).bind fun y3=>some ((y3.2.1,y3.2.2))
noncomputable def ZV (a0 : (List Int)) (a1 : Int) (a2 : Int) : Option (Int×Int) :=
 (YC a0 (IntKind.i64.wrap (a1 - 1)) a1 (IntKind.i64.wrap (a1 + 1)) a2).bind fun y1=>some ((y1.1,y1.2))
noncomputable def Yb (p9 : Int) (p10 : Int) : Option (Int×Int) :=
 (if p10 = 0 then some ((p9,1)) else (if p10 = 12 then some ((p9,2)) else some ((p9,0))))
noncomputable def Yc (a0 : (List Int)) (p14 : Int) (p15 : Int) (p16 : Int) (p17 : Int) : Option (Int×Int) :=
 (YC a0 p14 p15 p16 p17).bind fun y18=>Yb y18.1 y18.2
noncomputable def Yw (a0 : (List Int)) (a1 : Int) (a2 : Int) : Option (Int×Int) :=
 (if 8≤IntKind.i64.wrap (a2 - a1) then (if 50≤IntKind.i64.wrap (a2 - a1) then (ZV a0 (IntKind.i64.wrap (a1 + (IntKind.i64.wrap (IntKind.i64.wrap ((IntKind.i64.wrap (a2 - a1)).tdiv 4))))) 0).bind fun y19=>(ZV a0 (IntKind.i64.wrap (a1 + (IntKind.i64.wrap ((IntKind.i64.wrap ((IntKind.i64.wrap (a2 - a1)).tdiv 4)) * 2)))) y19.2).bind fun y20=>(ZV a0 (IntKind.i64.wrap (a1 + (IntKind.i64.wrap ((IntKind.i64.wrap ((IntKind.i64.wrap (a2 - a1)).tdiv 4)) * 3)))) y20.2).bind fun y21=>Yc a0 y19.1 y20.1 y21.1 y21.2 else Yc a0 (IntKind.i64.wrap (a1 + (IntKind.i64.wrap (IntKind.i64.wrap ((IntKind.i64.wrap (a2 - a1)).tdiv 4))))) (IntKind.i64.wrap (a1 + (IntKind.i64.wrap ((IntKind.i64.wrap ((IntKind.i64.wrap (a2 - a1)).tdiv 4)) * 2)))) (IntKind.i64.wrap (a1 + (IntKind.i64.wrap ((IntKind.i64.wrap ((IntKind.i64.wrap (a2 - a1)).tdiv 4)) * 3)))) 0) else Yb (IntKind.i64.wrap (a1 + (IntKind.i64.wrap ((IntKind.i64.wrap ((IntKind.i64.wrap (a2 - a1)).tdiv 4)) * 2)))) 0)
noncomputable def Yn (p77 : Int) (p104 : (List Int)) : Option ((Int×(List Int)) ⊕ ((List Int))) :=
 some (.inl (IntKind.i64.wrap (p77 + 1),p104))
noncomputable def Z8 (a1 : Int) (p77 : Int) : (Int×(List Int))→Option ((Int×(List Int)) ⊕ ((Int×(List Int)) ⊕ ((List Int))))
 | (p103,p104)=>((if a1 < p103 then (inA (p104.length) (p103)).bind fun j116=>((p104)[j116]?).bind fun x117=>(inA (p104.length) (IntKind.i64.wrap (p103 - 1))).bind fun j118=>((p104)[j118]?).bind fun x119=>(ZM x117 x119).bind fun y120=>some (y120) else some (false))).bind fun z121=>(if (a1 < p103∧z121 = true) then (inA (p104.length) (IntKind.i64.wrap (p103 - 1))).bind fun j122=>((p104)[j122]?).bind fun x123=>(inA (p104.length) (p103)).bind fun j124=>((p104)[j124]?).bind fun x125=>(inA (((p104).set j124 x123).length) (IntKind.i64.wrap (p103 - 1))).bind fun j126=>some (.inl (IntKind.i64.wrap (p103 - 1),((p104).set j124 x123).set j126 x125)) else (Yn p77 p104).map Sum.inr)
noncomputable def YD (a2 : Int) (a1 : Int) (a0 : (List Int)) : (Int×(List Int))→Option ((Int×(List Int)) ⊕ ((List Int)))
 | (p77,p78)=>(if p77 < a2 then Zg (Z8 a1 p77) (p77,p78) else (chk (p78.length = a0.length)).bind fun _=>some (.inr (p78)))
noncomputable def ZX (a0 : (List Int)) (a1 : Int) (a2 : Int) : Option ((List Int)) :=
 Zg (YD a2 a1 a0) (IntKind.i64.wrap (a1 + 1),a0)
noncomputable def ZS (p30 : (List Int)) (a3 : Int) (p29 : Int) (a0 : (List Int)) (p37 : Int) : Option ((Int×(List Int)) ⊕ ((List Int))) :=
 (inA (p30.length) (IntKind.i64.wrap (a3 + p29))).bind fun j38=>((p30)[j38]?).bind fun x39=>(inA (p30.length) (IntKind.i64.wrap (a3 + p37))).bind fun j40=>((p30)[j40]?).bind fun x41=>(ZM x39 x41).bind fun y42=>(if ¬ (y42 = true) then (chk (p30.length = a0.length)).bind fun _=>some (.inr (p30)) else (inA (((p30).set j38 x41).length) (IntKind.i64.wrap (a3 + p37))).bind fun j43=>some (.inl (p37,((p30).set j38 x41).set j43 x39)))
noncomputable def ZT (a2 : Int) (a0 : (List Int)) (a3 : Int) : (Int×(List Int))→Option ((Int×(List Int)) ⊕ ((List Int)))
 | (p29,p30)=>(if a2≤IntKind.i64.wrap ((IntKind.i64.wrap (2 * p29)) + 1) then (chk (p30.length = a0.length)).bind fun _=>some (.inr (p30)) else ((if IntKind.i64.wrap ((IntKind.i64.wrap ((IntKind.i64.wrap (2 * p29)) + 1)) + 1) < a2 then (inA (p30.length) (IntKind.i64.wrap (a3 + (IntKind.i64.wrap ((IntKind.i64.wrap (2 * p29)) + 1))))).bind fun j31=>((p30)[j31]?).bind fun x32=>(inA (p30.length) (IntKind.i64.wrap ((IntKind.i64.wrap (a3 + (IntKind.i64.wrap ((IntKind.i64.wrap (2 * p29)) + 1)))) + 1))).bind fun j33=>((p30)[j33]?).bind fun x34=>(ZM x32 x34).bind fun y35=>some (y35) else some (false))).bind fun z36=>(if (IntKind.i64.wrap ((IntKind.i64.wrap ((IntKind.i64.wrap (2 * p29)) + 1)) + 1) < a2∧z36 = true) then ZS p30 a3 p29 a0 (IntKind.i64.wrap ((IntKind.i64.wrap ((IntKind.i64.wrap (2 * p29)) + 1)) + 1)) else ZS p30 a3 p29 a0 (IntKind.i64.wrap ((IntKind.i64.wrap (2 * p29)) + 1))))
noncomputable def YK (a0 : (List Int)) (a1 : Int) (a2 : Int) (a3 : Int) : Option ((List Int)) :=
 Zg (ZT a2 a0 a3) (a1,a0)
noncomputable def YZ (a1 : Int) (a0 : (List Int)) : (Int×(List Int))→Option ((Int×(List Int)) ⊕ ((List Int)))
 | (p27,p28)=>(if 0≤p27 then (inA (p28.length) (IntKind.i64.wrap (a1 + p27))).bind fun j29=>((p28)[j29]?).bind fun x30=>(inA (p28.length) (a1)).bind fun j31=>((p28)[j31]?).bind fun x32=>(inA (((p28).set j31 x30).length) (IntKind.i64.wrap (a1 + p27))).bind fun j33=>(YK (((p28).set j31 x30).set j33 x32) 0 p27 a1).bind fun y34=>(chk (y34.length = (((p28).set j31 x30).set j33 x32).length)).bind fun _=>some (.inl (IntKind.i64.wrap (p27 - 1),y34)) else (chk (p28.length = a0.length)).bind fun _=>some (.inr (p28)))
noncomputable def XK (a1 : Int) (a0 : (List Int)) (a2 : Int) (p8 : (List Int)) : Option (List Int) :=
 Zg (YZ a1 a0) (IntKind.i64.wrap ((IntKind.i64.wrap (a2 - a1)) - 1),p8)
noncomputable def Y0 (a2 : Int) (a1 : Int) (a0 : (List Int)) : (Int×(List Int))→Option ((Int×(List Int)) ⊕ ((List Int)))
 | (p7,p8)=>(if 0≤p7 then (YK p8 p7 (IntKind.i64.wrap (a2 - a1)) a1).bind fun y36=>(chk (y36.length = p8.length)).bind fun _=>some (.inl (IntKind.i64.wrap (p7 - 1),y36)) else (XK a1 a0 a2 p8).map Sum.inr)
noncomputable def YL (a0 : (List Int)) (a1 : Int) (a2 : Int) : Option ((List Int)) :=
 Zg (Y0 a2 a1 a0) (IntKind.i64.wrap ((IntKind.i64.wrap ((IntKind.i64.wrap (a2 - a1)) - 1)).tdiv 2),a0)
noncomputable def YG (a0 : (List Int)) : (Int×Int×(List Int))→Option ((Int×Int×(List Int)) ⊕ ((List Int)))
 | (p14,p15,p16)=>(if p14 < p15 then (inA (p16.length) (p15)).bind fun j17=>((p16)[j17]?).bind fun x18=>(inA (p16.length) (p14)).bind fun j19=>((p16)[j19]?).bind fun x20=>(inA (((p16).set j19 x18).length) (p15)).bind fun j21=>some (.inl (IntKind.i64.wrap (p14 + 1),IntKind.i64.wrap (p15 - 1),((p16).set j19 x18).set j21 x20)) else (chk (p16.length = a0.length)).bind fun _=>some (.inr (p16)))
noncomputable def Yu (a0 : (List Int)) (a1 : Int) (a2 : Int) : Option ((List Int)) :=
 Zg (YG a0) (a1,IntKind.i64.wrap (a2 - 1),a0)
noncomputable def Y9 (p148 : (List Int)) (a0 : (List Int)) : Option (Bool×(List Int)) :=
 (chk (p148.length = a0.length)).bind fun _=>some ((false,p148))
noncomputable def Zt (p233 : Int) (p147 : Int) (p290 : (List Int)) : Option ((Int×Int×(List Int)) ⊕ (Bool×(List Int))) :=
 some (.inl (p233,IntKind.i64.wrap (p147 + 1),p290))
noncomputable def Z3 (a2 : Int) (p233 : Int) (p147 : Int) : (Int×(List Int))→Option ((Int×(List Int)) ⊕ ((Int×Int×(List Int)) ⊕ (Bool×(List Int))))
 | (p305,p306)=>(if p305 < a2 then (inA (p306.length) (p305)).bind fun j307=>((p306)[j307]?).bind fun x308=>(inA (p306.length) (IntKind.i64.wrap (p305 - 1))).bind fun j309=>((p306)[j309]?).bind fun x310=>(ZM x308 x310).bind fun y311=>(if ¬ (y311 = true) then (Zt p233 p147 p306).map Sum.inr else (inA (((p306).set j307 x310).length) (IntKind.i64.wrap (p305 - 1))).bind fun j312=>some (.inl (IntKind.i64.wrap (p305 + 1),((p306).set j307 x310).set j312 x308))) else (Zt p233 p147 p306).map Sum.inr)
noncomputable def Zu (a2 : Int) (p233 : Int) (p147 : Int) (p267 : (List Int)) : Option ((Int×Int×(List Int)) ⊕ (Bool×(List Int))) :=
 (if 2≤IntKind.i64.wrap (a2 - p233) then Zg (Z3 a2 p233 p147) (IntKind.i64.wrap (p233 + 1),p267) else Zt p233 p147 p267)
noncomputable def Z4 (a2 : Int) (p233 : Int) (p147 : Int) : (Int×(List Int))→Option ((Int×(List Int)) ⊕ ((Int×Int×(List Int)) ⊕ (Bool×(List Int))))
 | (p327,p328)=>(if 1≤p327 then (inA (p328.length) (p327)).bind fun j329=>((p328)[j329]?).bind fun x330=>(inA (p328.length) (IntKind.i64.wrap (p327 - 1))).bind fun j331=>((p328)[j331]?).bind fun x332=>(ZM x330 x332).bind fun y333=>(if ¬ (y333 = true) then (Zu a2 p233 p147 p328).map Sum.inr else (inA (((p328).set j329 x332).length) (IntKind.i64.wrap (p327 - 1))).bind fun j334=>some (.inl (IntKind.i64.wrap (p327 - 1),((p328).set j329 x332).set j334 x330))) else (Zu a2 p233 p147 p328).map Sum.inr)
noncomputable def Zv (p233 : Int) (a2 : Int) (p148 : (List Int)) (a0 : (List Int)) (a1 : Int) (p147 : Int) : Option ((Int×Int×(List Int)) ⊕ (Bool×(List Int))) :=
 (if p233 = a2 then (chk (p148.length = a0.length)).bind fun _=>some (.inr ((true,p148))) else (if IntKind.i64.wrap (a2 - a1) < 50 then (chk (p148.length = a0.length)).bind fun _=>some (.inr ((false,p148))) else (inA (p148.length) (IntKind.i64.wrap (p233 - 1))).bind fun j240=>((p148)[j240]?).bind fun x241=>(inA (p148.length) (p233)).bind fun j242=>((p148)[j242]?).bind fun x243=>(inA (((p148).set j242 x241).length) (IntKind.i64.wrap (p233 - 1))).bind fun j244=>(if 2≤IntKind.i64.wrap (p233 - a1) then Zg (Z4 a2 p233 p147) (IntKind.i64.wrap (p233 - 1),((p148).set j242 x241).set j244 x243) else Zu a2 p233 p147 (((p148).set j242 x241).set j244 x243))))
noncomputable def Z5 (a2 : Int) (p148 : (List Int)) (a0 : (List Int)) (a1 : Int) (p147 : Int) : Int→Option ((Int) ⊕ ((Int×Int×(List Int)) ⊕ (Bool×(List Int))))
 | p233=>((if p233 < a2 then (inA (p148.length) (p233)).bind fun j335=>((p148)[j335]?).bind fun x336=>(inA (p148.length) (IntKind.i64.wrap (p233 - 1))).bind fun j337=>((p148)[j337]?).bind fun x338=>(ZM x336 x338).bind fun y339=>some (!(y339)) else some (false))).bind fun z340=>(if (p233 < a2∧z340 = true) then some (.inl (IntKind.i64.wrap (p233 + 1))) else (Zv p233 a2 p148 a0 a1 p147).map Sum.inr)
noncomputable def ZL (a2 : Int) (a0 : (List Int)) (a1 : Int) : (Int×Int×(List Int))→Option ((Int×Int×(List Int)) ⊕ (Bool×(List Int)))
 | (p146,p147,p148)=>(if p147 < 5 then Zg (Z5 a2 p148 a0 a1 p147) p146 else (Y9 p148 a0).map Sum.inr)
noncomputable def Ya (a0 : (List Int)) (a1 : Int) (a2 : Int) : Option (Bool×(List Int)) :=
 Zg (ZL a2 a0 a1) (IntKind.i64.wrap (a1 + 1),0,a0)
noncomputable def Xq (p101 : (List Int)) (a0 : (List Int)) (p147 : Int) : Option (Int×(List Int)) :=
 (chk (p101.length = a0.length)).bind fun _=>some ((p147,p101))
noncomputable def ZD (p181 : Int) (p161 : Int) (p101 : (List Int)) (a0 : (List Int)) : Option ((Int×Int×(List Int)) ⊕ (Int×(List Int))) :=
 (if p181 < p161 then (Xq p101 a0 p161).map Sum.inr else (inA (p101.length) (p181)).bind fun j188=>((p101)[j188]?).bind fun x189=>(inA (p101.length) (p161)).bind fun j190=>((p101)[j190]?).bind fun x191=>(inA (((p101).set j190 x189).length) (p181)).bind fun j192=>some (.inl (IntKind.i64.wrap (p161 + 1),IntKind.i64.wrap (p181 - 1),((p101).set j190 x189).set j192 x191)))
noncomputable def Yx (p161 : Int) (p101 : (List Int)) (a1 : Int) (a0 : (List Int)) : Int→Option ((Int) ⊕ ((Int×Int×(List Int)) ⊕ (Int×(List Int))))
 | p181=>((if p161≤p181 then (inA (p101.length) (a1)).bind fun j193=>((p101)[j193]?).bind fun x194=>(inA (p101.length) (p181)).bind fun j195=>((p101)[j195]?).bind fun x196=>(ZM x194 x196).bind fun y197=>some (y197) else some (false))).bind fun z198=>(if (p161≤p181∧z198 = true) then some (.inl (IntKind.i64.wrap (p181 - 1))) else (ZD p181 p161 p101 a0).map Sum.inr)
noncomputable def Z6 (p161 : Int) (p101 : (List Int)) (a1 : Int) (a0 : (List Int)) (p100 : Int) : Option ((Int×Int×(List Int)) ⊕ (Int×(List Int))) :=
 Zg (Yx p161 p101 a1 a0) p100
noncomputable def Yy (p100 : Int) (p101 : (List Int)) (a1 : Int) (a0 : (List Int)) : Int→Option ((Int) ⊕ ((Int×Int×(List Int)) ⊕ (Int×(List Int))))
 | p161=>((if p161≤p100 then (inA (p101.length) (a1)).bind fun j199=>((p101)[j199]?).bind fun x200=>(inA (p101.length) (p161)).bind fun j201=>((p101)[j201]?).bind fun x202=>(ZM x200 x202).bind fun y203=>some (!(y203)) else some (false))).bind fun z204=>(if (p161≤p100∧z204 = true) then some (.inl (IntKind.i64.wrap (p161 + 1))) else (Z6 p161 p101 a1 a0 p100).map Sum.inr)
noncomputable def Yz (a1 : Int) (a0 : (List Int)) : (Int×Int×(List Int))→Option ((Int×Int×(List Int)) ⊕ (Int×(List Int)))
 | (p99,p100,p101)=>Zg (Yy p100 p101 a1 a0) p99
noncomputable def ZK (a0 : (List Int)) (a1 : Int) (a2 : Int) (a3 : Int) : Option (Int×(List Int)) :=
 (inA (a0.length) (a3)).bind fun j1=>((a0)[j1]?).bind fun x2=>(inA (a0.length) (a1)).bind fun j3=>((a0)[j3]?).bind fun x4=>(inA (((a0).set j3 x2).length) (a3)).bind fun j5=>Zg (Yz a1 a0) (IntKind.i64.wrap (a1 + 1),IntKind.i64.wrap (a2 - 1),((a0).set j3 x2).set j5 x4)
noncomputable def Xb (p151 : (List Int)) (a1 : Int) (a0 : (List Int)) (p197 : Int) : Option (Int×Bool×(List Int)) :=
 (inA (p151.length) (a1)).bind fun j198=>((p151)[j198]?).bind fun x199=>(inA (p151.length) (p197)).bind fun j200=>((p151)[j200]?).bind fun x201=>(inA (((p151).set j200 x199).length) (a1)).bind fun j202=>(chk ((((p151).set j200 x199).set j202 x201).length = a0.length)).bind fun _=>some ((p197,false,((p151).set j200 x199).set j202 x201))
noncomputable def ZN (p236 : Int) (p216 : Int) (p151 : (List Int)) (a1 : Int) (a0 : (List Int)) : Option ((Int×Int×(List Int)) ⊕ (Int×Bool×(List Int))) :=
 (if p236 < p216 then (Xb p151 a1 a0 p236).map Sum.inr else (inA (p151.length) (p236)).bind fun j243=>((p151)[j243]?).bind fun x244=>(inA (p151.length) (p216)).bind fun j245=>((p151)[j245]?).bind fun x246=>(inA (((p151).set j245 x244).length) (p236)).bind fun j247=>some (.inl (IntKind.i64.wrap (p216 + 1),IntKind.i64.wrap (p236 - 1),((p151).set j245 x244).set j247 x246)))
noncomputable def YP (p216 : Int) (p151 : (List Int)) (a1 : Int) (a0 : (List Int)) : Int→Option ((Int) ⊕ ((Int×Int×(List Int)) ⊕ (Int×Bool×(List Int))))
 | p236=>((if p216≤p236 then (inA (p151.length) (p236)).bind fun j248=>((p151)[j248]?).bind fun x249=>(inA (p151.length) (a1)).bind fun j250=>((p151)[j250]?).bind fun x251=>(ZM x249 x251).bind fun y252=>some (!(y252)) else some (false))).bind fun z253=>(if (p216≤p236∧z253 = true) then some (.inl (IntKind.i64.wrap (p236 - 1))) else (ZN p236 p216 p151 a1 a0).map Sum.inr)
noncomputable def Yh (p216 : Int) (p151 : (List Int)) (a1 : Int) (a0 : (List Int)) (p150 : Int) : Option ((Int×Int×(List Int)) ⊕ (Int×Bool×(List Int))) :=
 Zg (YP p216 p151 a1 a0) p150
noncomputable def YQ (p150 : Int) (p151 : (List Int)) (a1 : Int) (a0 : (List Int)) : Int→Option ((Int) ⊕ ((Int×Int×(List Int)) ⊕ (Int×Bool×(List Int))))
 | p216=>((if p216≤p150 then (inA (p151.length) (p216)).bind fun j254=>((p151)[j254]?).bind fun x255=>(inA (p151.length) (a1)).bind fun j256=>((p151)[j256]?).bind fun x257=>(ZM x255 x257).bind fun y258=>some (y258) else some (false))).bind fun z259=>(if (p216≤p150∧z259 = true) then some (.inl (IntKind.i64.wrap (p216 + 1))) else (Yh p216 p151 a1 a0 p150).map Sum.inr)
noncomputable def YR (a1 : Int) (a0 : (List Int)) : (Int×Int×(List Int))→Option ((Int×Int×(List Int)) ⊕ (Int×Bool×(List Int)))
 | (p149,p150,p151)=>Zg (YQ p150 p151 a1 a0) p149
noncomputable def Yi (p39 : Int) (p19 : Int) (a0 : (List Int)) (j3 : Nat) (x2 : Int) (j5 : Nat) (x4 : Int) (a1 : Int) : Option (Int×Bool×(List Int)) :=
 (if p39 < p19 then (inA ((((a0).set j3 x2).set j5 x4).length) (a1)).bind fun j46=>((((a0).set j3 x2).set j5 x4)[j46]?).bind fun x47=>(inA ((((a0).set j3 x2).set j5 x4).length) (p39)).bind fun j48=>((((a0).set j3 x2).set j5 x4)[j48]?).bind fun x49=>(inA (((((a0).set j3 x2).set j5 x4).set j48 x47).length) (a1)).bind fun j50=>(chk ((((((a0).set j3 x2).set j5 x4).set j48 x47).set j50 x49).length = a0.length)).bind fun _=>some ((p39,true,((((a0).set j3 x2).set j5 x4).set j48 x47).set j50 x49)) else (inA ((((a0).set j3 x2).set j5 x4).length) (p39)).bind fun j51=>((((a0).set j3 x2).set j5 x4)[j51]?).bind fun x52=>(inA ((((a0).set j3 x2).set j5 x4).length) (p19)).bind fun j53=>((((a0).set j3 x2).set j5 x4)[j53]?).bind fun x54=>(inA (((((a0).set j3 x2).set j5 x4).set j53 x52).length) (p39)).bind fun j55=>Zg (YR a1 a0) (IntKind.i64.wrap (p19 + 1),IntKind.i64.wrap (p39 - 1),((((a0).set j3 x2).set j5 x4).set j53 x52).set j55 x54))
noncomputable def YS (p19 : Int) (a0 : (List Int)) (j3 : Nat) (x2 : Int) (j5 : Nat) (x4 : Int) (a1 : Int) : Int→Option ((Int) ⊕ (Int×Bool×(List Int)))
 | p39=>((if p19≤p39 then (inA ((((a0).set j3 x2).set j5 x4).length) (p39)).bind fun j260=>((((a0).set j3 x2).set j5 x4)[j260]?).bind fun x261=>(inA ((((a0).set j3 x2).set j5 x4).length) (a1)).bind fun j262=>((((a0).set j3 x2).set j5 x4)[j262]?).bind fun x263=>(ZM x261 x263).bind fun y264=>some (!(y264)) else some (false))).bind fun z265=>(if (p19≤p39∧z265 = true) then some (.inl (IntKind.i64.wrap (p39 - 1))) else (Yi p39 p19 a0 j3 x2 j5 x4 a1).map Sum.inr)
noncomputable def Yj (p19 : Int) (a0 : (List Int)) (j3 : Nat) (x2 : Int) (j5 : Nat) (x4 : Int) (a1 : Int) (a2 : Int) : Option (Int×Bool×(List Int)) :=
 Zg (YS p19 a0 j3 x2 j5 x4 a1) (IntKind.i64.wrap (a2 - 1))
noncomputable def YT (a2 : Int) (a0 : (List Int)) (j3 : Nat) (x2 : Int) (j5 : Nat) (x4 : Int) (a1 : Int) : Int→Option ((Int) ⊕ (Int×Bool×(List Int)))
 | p19=>((if p19≤IntKind.i64.wrap (a2 - 1) then (inA ((((a0).set j3 x2).set j5 x4).length) (p19)).bind fun j266=>((((a0).set j3 x2).set j5 x4)[j266]?).bind fun x267=>(inA ((((a0).set j3 x2).set j5 x4).length) (a1)).bind fun j268=>((((a0).set j3 x2).set j5 x4)[j268]?).bind fun x269=>(ZM x267 x269).bind fun y270=>some (y270) else some (false))).bind fun z271=>(if (p19≤IntKind.i64.wrap (a2 - 1)∧z271 = true) then some (.inl (IntKind.i64.wrap (p19 + 1))) else (Yj p19 a0 j3 x2 j5 x4 a1 a2).map Sum.inr)
noncomputable def Z2 (a0 : (List Int)) (a1 : Int) (a2 : Int) (a3 : Int) : Option (Int×Bool×(List Int)) :=
 (inA (a0.length) (a3)).bind fun j1=>((a0)[j1]?).bind fun x2=>(inA (a0.length) (a1)).bind fun j3=>((a0)[j3]?).bind fun x4=>(inA (((a0).set j3 x2).length) (a3)).bind fun j5=>Zg (YT a2 a0 j3 x2 j5 x4 a1) (IntKind.i64.wrap (a1 + 1))
noncomputable def ZO (p20 : (List Int)) (a1 : Int) (p19 : Int) (y22 : (Int×Int)) (p23 : Int) : Option ((Int×(List Int)×Int) ⊕ ((List Int))) :=
 (inA (p20.length) (IntKind.i64.wrap (a1 + p23))).bind fun j24=>((p20)[j24]?).bind fun x25=>(inA (p20.length) (p19)).bind fun j26=>((p20)[j26]?).bind fun x27=>(inA (((p20).set j26 x25).length) (IntKind.i64.wrap (a1 + p23))).bind fun j28=>some (.inl (IntKind.i64.wrap (p19 + 1),((p20).set j26 x25).set j28 x27,y22.2))
noncomputable def YE (a1 : Int) (a2 : Int) (y1 : (Int)) (a0 : (List Int)) : (Int×(List Int)×Int)→Option ((Int×(List Int)×Int) ⊕ ((List Int)))
 | (p19,p20,p21)=>(if p19≤IntKind.i64.wrap ((IntKind.i64.wrap (a1 + (IntKind.i64.wrap ((IntKind.i64.wrap ((IntKind.i64.wrap (a2 - a1)).tdiv 4)) * 2)))) + 1) then (Zae p21).bind fun y22=>(if IntKind.i64.wrap (a2 - a1)≤IntKind.i64.wrap (bits .and .u64 y22.1 (IntKind.u64.wrap (y1 - 1))) then ZO p20 a1 p19 y22 (IntKind.i64.wrap ((IntKind.i64.wrap (bits .and .u64 y22.1 (IntKind.u64.wrap (y1 - 1)))) - (IntKind.i64.wrap (a2 - a1)))) else ZO p20 a1 p19 y22 (IntKind.i64.wrap (bits .and .u64 y22.1 (IntKind.u64.wrap (y1 - 1))))) else (chk (p20.length = a0.length)).bind fun _=>some (.inr (p20)))
noncomputable def ZY (a0 : (List Int)) (a1 : Int) (a2 : Int) : Option ((List Int)) :=
 (if 8≤IntKind.i64.wrap (a2 - a1) then (Xt (IntKind.i64.wrap (a2 - a1))).bind fun y1=>Zg (YE a1 a2 y1 a0) (IntKind.i64.wrap ((IntKind.i64.wrap (a1 + (IntKind.i64.wrap ((IntKind.i64.wrap ((IntKind.i64.wrap (a2 - a1)).tdiv 4)) * 2)))) - 1),a0,IntKind.u64.wrap (IntKind.i64.wrap (a2 - a1))) else some (a0))
noncomputable def Zr (p101 : Int) (p118 : Int) (p102 : Int) (p113 : Int) (p104 : Bool) (p105 : Bool) (rf : (List Int)→Int→Int→Int→Option ((List Int))) (p123 : (List Int)) : Option ((Int×Int×Int×Bool×Bool×(List Int)) ⊕ ((List Int))) :=
 ((if 0 < p101 then (inA (p123.length) (IntKind.i64.wrap (p101 - 1))).bind fun j124=>((p123)[j124]?).bind fun x125=>(inA (p123.length) (p118)).bind fun j126=>((p123)[j126]?).bind fun x127=>(ZM x125 x127).bind fun y128=>some (!(y128)) else some (false))).bind fun z129=>(if (0 < p101∧z129 = true) then (ZK p123 p101 p102 p118).bind fun y130=>(chk (y130.2.length = p123.length)).bind fun _=>some (.inl (y130.1,p102,p113,p104,p105,y130.2)) else (Z2 p123 p101 p102 p118).bind fun y132=>(chk (y132.2.2.length = p123.length)).bind fun _=>(if IntKind.i64.wrap (y132.1 - p101) < IntKind.i64.wrap (p102 - y132.1) then (rf y132.2.2 p101 y132.1 p113).bind fun y134=>(chk (y134.length = y132.2.2.length)).bind fun _=>some (.inl (IntKind.i64.wrap (y132.1 + 1),p102,p113,decide (IntKind.i64.wrap ((IntKind.i64.wrap (p102 - p101)).tdiv 8)≤IntKind.i64.wrap (y132.1 - p101)),y132.2.1,y134)) else (rf y132.2.2 (IntKind.i64.wrap (y132.1 + 1)) p102 p113).bind fun y136=>(chk (y136.length = y132.2.2.length)).bind fun _=>some (.inl (p101,y132.1,p113,decide (IntKind.i64.wrap ((IntKind.i64.wrap (p102 - p101)).tdiv 8)≤IntKind.i64.wrap (p102 - y132.1)),y132.2.1,y136))))
noncomputable def Zs (p104 : Bool) (p105 : Bool) (p101 : Int) (p102 : Int) (a0 : (List Int)) (p113 : Int) (rf : (List Int)→Int→Int→Int→Option ((List Int))) (p118 : Int) (p119 : Int) (p120 : (List Int)) : Option ((Int×Int×Int×Bool×Bool×(List Int)) ⊕ ((List Int))) :=
 (if ((p104 = true∧p105 = true)∧p119 = 1) then (Ya p120 p101 p102).bind fun y138=>(chk (y138.2.length = p120.length)).bind fun _=>(if y138.1 = true then (chk (y138.2.length = a0.length)).bind fun _=>some (.inr (y138.2)) else Zr p101 p118 p102 p113 p104 p105 rf y138.2) else Zr p101 p118 p102 p113 p104 p105 rf p120)
noncomputable def ZE (p101 : Int) (p102 : Int) (p104 : Bool) (p105 : Bool) (a0 : (List Int)) (rf : (List Int)→Int→Int→Int→Option ((List Int))) (p113 : Int) (p114 : (List Int)) : Option ((Int×Int×Int×Bool×Bool×(List Int)) ⊕ ((List Int))) :=
 (Yw p114 p101 p102).bind fun y115=>(if y115.2 = 2 then (Yu p114 p101 p102).bind fun y140=>(chk (y140.length = p114.length)).bind fun _=>Zs p104 p105 p101 p102 a0 p113 rf (IntKind.i64.wrap ((IntKind.i64.wrap (p102 - 1)) - (IntKind.i64.wrap (y115.1 - p101)))) 1 y140 else Zs p104 p105 p101 p102 a0 p113 rf y115.1 y115.2 p114)
noncomputable def ZF (a0 : (List Int)) (rf : (List Int)→Int→Int→Int→Option ((List Int))) : (Int×Int×Int×Bool×Bool×(List Int))→Option ((Int×Int×Int×Bool×Bool×(List Int)) ⊕ ((List Int)))
 | (p101,p102,p103,p104,p105,p106)=>(if IntKind.i64.wrap (p102 - p101)≤12 then (ZX p106 p101 p102).bind fun y107=>(chk (y107.length = p106.length)).bind fun _=>(chk (y107.length = a0.length)).bind fun _=>some (.inr (y107)) else (if p103 = 0 then (YL p106 p101 p102).bind fun y109=>(chk (y109.length = p106.length)).bind fun _=>(chk (y109.length = a0.length)).bind fun _=>some (.inr (y109)) else (if ¬ (p104 = true) then (ZY p106 p101 p102).bind fun y142=>(chk (y142.length = p106.length)).bind fun _=>ZE p101 p102 p104 p105 a0 rf (IntKind.i64.wrap (p103 - 1)) y142 else ZE p101 p102 p104 p105 a0 rf p103 p106)))
noncomputable def Yq (rf : (List Int)→Int→Int→Int→Option ((List Int))) (a0 : (List Int)) (a1 : Int) (a2 : Int) (a3 : Int) : Option ((List Int)) :=
 Zg (ZF a0 rf) (a1,a2,a3,true,true,a0)
noncomputable def Lslices_pdqsortOrdered_of_uint64_n : Nat→(List Int)→Int→Int→Int→Option ((List Int))
 | 0,_,_,_,_=>none
 | n + 1,a0,a1,a2,a3=>Yq (Lslices_pdqsortOrdered_of_uint64_n n) a0 a1 a2 a3
noncomputable def Xr (a0 : (List Int)) (a1 : Int) (a2 : Int) (a3 : Int) : Option ((List Int)):=Zhu fun n=>Lslices_pdqsortOrdered_of_uint64_n n a0 a1 a2 a3
noncomputable def Y1 (a0 : (List Int)) : Option ((List Int)) :=
 (Zat (IntKind.u64.wrap ((a0.length : Int)))).bind fun y1=>(Xr a0 0 (a0.length : Int) y1).bind fun y2=>(chk (y2.length = a0.length)).bind fun _=>(chk (y2.length = a0.length)).bind fun _=>some (y2)
noncomputable def Zdj (p11 : (List Int)) : Option (List Int) :=
 (Y1 p11).bind fun y16=>(chk (y16.length = p11.length)).bind fun _=>some (y16)
noncomputable def Za7 (a1 : (List (List Int))) (a0 : (Arr 2)) (a2 : Int) (a3 : Int) : (Int×(List Int))→Option ((Int×(List Int)) ⊕ ((List Int)))
 | (p10,p11)=>(if p10 < (a1.length : Int) then (idx (a1) (p10)).bind fun x18=>(ZeD a0 x18).bind fun y19=>(Zei y19 (IntKind.u64.wrap ((IntKind.u64.wrap (a2)) * a3))).bind fun y20=>(chk (p11.length + 1≤17592186044416)).bind fun _=>some (.inl (IntKind.i64.wrap (p10 + 1),p11++[y20])) else (Zdj p11).map Sum.inr)
noncomputable def Zbf (a0 : (Arr 2)) (a1 : (List (List Int))) (a2 : Int) (a3 : Int) : Option ((List Int)) :=
 Zg (Za7 a1 a0 a2 a3) (0,[])
noncomputable def ZbR (a0 : Tapi_Bits) (a1 : Int) : Option (Bool) :=
 (idx (a0.1) (IntKind.i64.wrap ((a1).tdiv 8))).bind fun x1=>(chk (¬ (IntKind.i64.wrap (7 - ((a1).tmod 8)) < 0))).bind fun _=>some (decide (bits .and .u8 ((x1).fdiv (2 ^ (min (IntKind.i64.wrap (7 - ((a1).tmod 8))).toNat 8))) 1 = 1))
noncomputable def Lref18_Valid_k1 : Option Bool :=
 some (true)
noncomputable def ZbS (a0 : Tapi_Bits) : Int→Option ((Int) ⊕ (Bool))
 | p4=>(if p4 < IntKind.i64.wrap (8 * (a0.1.length : Int)) then (ZbR a0 p4).bind fun y6=>(if y6 = true then some (.inr (false)) else some (.inl (IntKind.i64.wrap (p4 + 1)))) else (Lref18_Valid_k1).map Sum.inr)
noncomputable def Zbt (a0 : Tapi_Bits) : Option (Bool) :=
 (if ((a0.2 < 0∨1600000 < a0.2)∨¬ ((a0.1.length : Int) = IntKind.i64.wrap ((IntKind.i64.wrap (a0.2 + 7)).tdiv 8))) then some (false) else Zg (ZbS a0) a0.2)
noncomputable def Lkeep_Items_k1 : Option Bool :=
 some (true)
noncomputable def Zbg (a0 : (List (List Int))) (a2 : Int) : Int→Option ((Int) ⊕ (Bool))
 | p4=>(if p4 < (a0.length : Int) then (idx (a0) (p4)).bind fun x6=>(if a2 < (x6.length : Int) then some (.inr (false)) else some (.inl (IntKind.i64.wrap (p4 + 1)))) else (Lkeep_Items_k1).map Sum.inr)
noncomputable def ZcE (a0 : (List (List Int))) (a1 : Int) (a2 : Int) : Option (Bool) :=
 (if a1 < (a0.length : Int) then some (false) else Zg (Zbg a0 a2) 0)
noncomputable def ZcU (a0 : Int) (a1 : Int) : Option (Int) :=
 (Zas a0 a1).bind fun y1=>some (y1.1)
noncomputable def XL (a0 : (Arr 4)) : Option ((Arr 4)) :=
 (ZH ((a0.put 0 (IntKind.u64.wrap ((a0.at 0) + (a0.at 1)))).at 1) 13).bind fun y1=>(ZH (((a0.put 0 (IntKind.u64.wrap ((a0.at 0) + (a0.at 1)))).put 1 (bits .xor .u64 y1 ((a0.put 0 (IntKind.u64.wrap ((a0.at 0) + (a0.at 1)))).at 0))).at 0) 32).bind fun y2=>(ZH (((((a0.put 0 (IntKind.u64.wrap ((a0.at 0) + (a0.at 1)))).put 1 (bits .xor .u64 y1 ((a0.put 0 (IntKind.u64.wrap ((a0.at 0) + (a0.at 1)))).at 0))).put 0 y2).put 2 (IntKind.u64.wrap (((((a0.put 0 (IntKind.u64.wrap ((a0.at 0) + (a0.at 1)))).put 1 (bits .xor .u64 y1 ((a0.put 0 (IntKind.u64.wrap ((a0.at 0) + (a0.at 1)))).at 0))).put 0 y2).at 2) + ((((a0.put 0 (IntKind.u64.wrap ((a0.at 0) + (a0.at 1)))).put 1 (bits .xor .u64 y1 ((a0.put 0 (IntKind.u64.wrap ((a0.at 0) + (a0.at 1)))).at 0))).put 0 y2).at 3)))).at 3) 16).bind fun y3=>(some (((((a0.put 0 (IntKind.u64.wrap ((a0.at 0) + (a0.at 1)))).put 1 (bits .xor .u64 y1 ((a0.put 0 (IntKind.u64.wrap ((a0.at 0) + (a0.at 1)))).at 0))).put 0 y2).put 2 (IntKind.u64.wrap (((((a0.put 0 (IntKind.u64.wrap ((a0.at 0) + (a0.at 1)))).put 1 (bits .xor .u64 y1 ((a0.put 0 (IntKind.u64.wrap ((a0.at 0) + (a0.at 1)))).at 0))).put 0 y2).at 2) + ((((a0.put 0 (IntKind.u64.wrap ((a0.at 0) + (a0.at 1)))).put 1 (bits .xor .u64 y1 ((a0.put 0 (IntKind.u64.wrap ((a0.at 0) + (a0.at 1)))).at 0))).put 0 y2).at 3)))).put 3 (bits .xor .u64 y3 (((((a0.put 0 (IntKind.u64.wrap ((a0.at 0) + (a0.at 1)))).put 1 (bits .xor .u64 y1 ((a0.put 0 (IntKind.u64.wrap ((a0.at 0) + (a0.at 1)))).at 0))).put 0 y2).put 2 (IntKind.u64.wrap (((((a0.put 0 (IntKind.u64.wrap ((a0.at 0) + (a0.at 1)))).put 1 (bits .xor .u64 y1 ((a0.put 0 (IntKind.u64.wrap ((a0.at 0) + (a0.at 1)))).at 0))).put 0 y2).at 2) + ((((a0.put 0 (IntKind.u64.wrap ((a0.at 0) + (a0.at 1)))).put 1 (bits .xor .u64 y1 ((a0.put 0 (IntKind.u64.wrap ((a0.at 0) + (a0.at 1)))).at 0))).put 0 y2).at 3)))).at 2)))).bind fun x4=>(ZH ((x4.put 0 (IntKind.u64.wrap ((x4.at 0) + (x4.at 3)))).at 3) 21).bind fun y5=>(ZH ((((x4.put 0 (IntKind.u64.wrap ((x4.at 0) + (x4.at 3)))).put 3 (bits .xor .u64 y5 ((x4.put 0 (IntKind.u64.wrap ((x4.at 0) + (x4.at 3)))).at 0))).put 2 (IntKind.u64.wrap ((((x4.put 0 (IntKind.u64.wrap ((x4.at 0) + (x4.at 3)))).put 3 (bits .xor .u64 y5 ((x4.put 0 (IntKind.u64.wrap ((x4.at 0) + (x4.at 3)))).at 0))).at 2) + (((x4.put 0 (IntKind.u64.wrap ((x4.at 0) + (x4.at 3)))).put 3 (bits .xor .u64 y5 ((x4.put 0 (IntKind.u64.wrap ((x4.at 0) + (x4.at 3)))).at 0))).at 1)))).at 1) 17).bind fun y6=>(some ((((x4.put 0 (IntKind.u64.wrap ((x4.at 0) + (x4.at 3)))).put 3 (bits .xor .u64 y5 ((x4.put 0 (IntKind.u64.wrap ((x4.at 0) + (x4.at 3)))).at 0))).put 2 (IntKind.u64.wrap ((((x4.put 0 (IntKind.u64.wrap ((x4.at 0) + (x4.at 3)))).put 3 (bits .xor .u64 y5 ((x4.put 0 (IntKind.u64.wrap ((x4.at 0) + (x4.at 3)))).at 0))).at 2) + (((x4.put 0 (IntKind.u64.wrap ((x4.at 0) + (x4.at 3)))).put 3 (bits .xor .u64 y5 ((x4.put 0 (IntKind.u64.wrap ((x4.at 0) + (x4.at 3)))).at 0))).at 1)))).put 1 (bits .xor .u64 y6 ((((x4.put 0 (IntKind.u64.wrap ((x4.at 0) + (x4.at 3)))).put 3 (bits .xor .u64 y5 ((x4.put 0 (IntKind.u64.wrap ((x4.at 0) + (x4.at 3)))).at 0))).put 2 (IntKind.u64.wrap ((((x4.put 0 (IntKind.u64.wrap ((x4.at 0) + (x4.at 3)))).put 3 (bits .xor .u64 y5 ((x4.put 0 (IntKind.u64.wrap ((x4.at 0) + (x4.at 3)))).at 0))).at 2) + (((x4.put 0 (IntKind.u64.wrap ((x4.at 0) + (x4.at 3)))).put 3 (bits .xor .u64 y5 ((x4.put 0 (IntKind.u64.wrap ((x4.at 0) + (x4.at 3)))).at 0))).at 1)))).at 2)))).bind fun x7=>(ZH (x7.at 2) 32).bind fun y8=>some (x7.put 2 y8)
noncomputable def X5 (a0 : (Arr 4)) (a1 : Int) : Option ((Arr 4)) :=
 (XL (a0.put 3 (bits .xor .u64 (a0.at 3) a1))).bind fun y1=>(XL y1).bind fun y2=>some (y2.put 0 (bits .xor .u64 (y2.at 0) a1))
noncomputable def Zgm (p7 : Int) : Option Int :=
 some (p7)
noncomputable def Zgn (a0 : (List Int)) : (Int×Int)→Option ((Int×Int) ⊕ (Int))
 | (p7,p8)=>(if p8 < (a0.length : Int) then (idx (a0) (p8)).bind fun x11=>(chk (¬ (IntKind.i64.wrap (8 * p8) < 0))).bind fun _=>some (.inl (bits .or .u64 p7 (IntKind.u64.wrap ((IntKind.u64.wrap (x11)) * (2 ^ (min (IntKind.i64.wrap (8 * p8)).toNat 64)))),IntKind.i64.wrap (p8 + 1))) else (Zgm p7).map Sum.inr)
noncomputable def Zbd (a0 : (List Int)) : Option (Int) :=
 Zg (Zgn a0) (0,0)
noncomputable def Ze8 (p11 : (List Int)) (p12 : (Arr 4)) (a1 : (List Int)) : Option Int :=
 (Zbd p11).bind fun y17=>(X5 p12 (bits .or .u64 y17 (IntKind.u64.wrap ((IntKind.u64.wrap (((a1.length : Int)).tmod 256)) * 72057594037927936)))).bind fun y18=>(XL (y18.put 2 (bits .xor .u64 (y18.at 2) 255))).bind fun y19=>(XL y19).bind fun y20=>(XL y20).bind fun y21=>(XL y21).bind fun y22=>some (bits .xor .u64 (bits .xor .u64 (bits .xor .u64 (y22.at 0) (y22.at 1)) (y22.at 2)) (y22.at 3))
noncomputable def Zcw (a1 : (List Int)) : ((List Int)×(Arr 4))→Option (((List Int)×(Arr 4)) ⊕ (Int))
 | (p11,p12)=>(if 8≤(p11.length : Int) then (chk (8≤(p11.length : Int))).bind fun _=>(Zbd ((p11).take 8)).bind fun y24=>(X5 p12 y24).bind fun y25=>(chk (8≤(p11.length : Int))).bind fun _=>some (.inl ((p11).drop 8,y25)) else (Ze8 p11 p12 a1).map Sum.inr)
noncomputable def Zcl (a0 : (Arr 2)) (a1 : (List Int)) : Option (Int) :=
 Zg (Zcw a1) (a1,((((zA 4).put 0 (bits .xor .u64 (a0.at 0) 8317987319222330741)).put 1 (bits .xor .u64 (a0.at 1) 7237128888997146477)).put 2 (bits .xor .u64 (a0.at 0) 7816392313619706465)).put 3 (bits .xor .u64 (a0.at 1) 8387220255154660723))
noncomputable def ZaK (a0 : (Arr 2)) (a1 : (List Int)) (a2 : Int) (a3 : Int) : Option (Int) :=
 (Zcl a0 a1).bind fun y1=>(ZcU y1 (IntKind.u64.wrap ((IntKind.u64.wrap (a2)) * a3))).bind fun y2=>some (y2)
noncomputable def Zab (p29 : (List Int)) (p27 : (List Int)) (p28 : (List Int)) : Option (List Int) :=
 (chk (p29.length + p27.length≤17592186044416)).bind fun _=>(chk (p29.length + p27.length + p28.length≤17592186044416)).bind fun _=>some (p29++p27++p28)
noncomputable def Lref19_sorted_s1 : ((List Int)×(List Int)×(List Int))→Option (((List Int)×(List Int)×(List Int)) ⊕ ((List Int)))
 | (p27,p28,p29)=>(if (0 < (p27.length : Int)∧0 < (p28.length : Int)) then ((p27)[0]?).bind fun x38=>((p28)[0]?).bind fun x39=>(if x38≤x39 then (chk (p29.length + 1≤17592186044416)).bind fun _=>(chk (1≤(p27.length : Int))).bind fun _=>some (.inl ((p27).drop 1,p28,p29++[x38])) else (chk (p29.length + 1≤17592186044416)).bind fun _=>(chk (1≤(p28.length : Int))).bind fun _=>some (.inl (p27,(p28).drop 1,p29++[x39]))) else (Zab p29 p27 p28).map Sum.inr)
noncomputable def ZbT (rf : (List Int)→Option ((List Int))) (a0 : (List Int)) : Option ((List Int)) :=
 (if (a0.length : Int) < 2 then some (a0) else (chk (IntKind.i64.wrap (((a0.length : Int)).tdiv 2)≤(a0.length : Int)∧0≤IntKind.i64.wrap (((a0.length : Int)).tdiv 2))).bind fun _=>(rf ((a0).take ((IntKind.i64.wrap (((a0.length : Int)).tdiv 2)).toNat))).bind fun y2=>(chk (0≤IntKind.i64.wrap (((a0.length : Int)).tdiv 2)∧IntKind.i64.wrap (((a0.length : Int)).tdiv 2)≤(a0.length : Int))).bind fun _=>(rf ((a0).drop ((IntKind.i64.wrap (((a0.length : Int)).tdiv 2)).toNat))).bind fun y4=>Zg (Lref19_sorted_s1) (y2,y4,[]))
noncomputable def Lref19_sorted_n : Nat→(List Int)→Option ((List Int))
 | 0,_=>none
 | n + 1,a0=>ZbT (Lref19_sorted_n n) a0
noncomputable def ZdF (a0 : (List Int)) : Option ((List Int)):=Zhu fun n=>Lref19_sorted_n n a0
noncomputable def XM (a0 : (List Int)) : Option (List Int) :=
 some (a0)
noncomputable def XN (p131 : Int) (p133 : (List Int)) : Option ((Int) ⊕ ((List Int))) :=
 (chk (0≤p131∧p131≤(p133.length : Int))).bind fun _=>(chk (p131≤((clr (p133) ((p131).toNat) (p133.length - (p131).toNat) 0).length : Int)∧0≤p131)).bind fun _=>some (.inr ((clr (p133) ((p131).toNat) (p133.length - (p131).toNat) 0).take (p131).toNat))
noncomputable def ZU (p132 : Int) (p148 : Int) (p149 : (List Int)) : Option ((Int×Int×(List Int)) ⊕ ((Int) ⊕ ((List Int)))) :=
 some (.inl (p148,IntKind.i64.wrap (p132 + 1),p149))
noncomputable def Yl (a0 : (List Int)) (p72 : Int) : (Int×Int×(List Int))→Option ((Int×Int×(List Int)) ⊕ ((Int) ⊕ ((List Int))))
 | (p131,p132,p133)=>(if p132 < (((a0.length - (p72).toNat) : Nat) : Int) then (inA ((a0.length - (p72).toNat)) (p132)).bind fun j143=>((p133)[(p72).toNat + j143]?).bind fun x144=>(inA ((a0.length - (p72).toNat)) (IntKind.i64.wrap (p132 - 1))).bind fun j145=>((p133)[(p72).toNat + j145]?).bind fun x146=>(if ¬ (x144 = x146) then (inA (p133.length) (p131)).bind fun j150=>ZU p132 (IntKind.i64.wrap (p131 + 1)) ((p133).set j150 x144) else ZU p132 p131 p133) else (XN p131 p133).map Sum.inr)
noncomputable def YA (a0 : (List Int)) : Int→Option ((Int) ⊕ ((List Int)))
 | p72=>(if p72 < (a0.length : Int) then (inA (a0.length) (p72)).bind fun j108=>((a0)[j108]?).bind fun x109=>(inA (a0.length) (IntKind.i64.wrap (p72 - 1))).bind fun j110=>((a0)[j110]?).bind fun x111=>(if x109 = x111 then (chk (0≤p72∧p72≤(a0.length : Int))).bind fun _=>Zg (Yl a0 p72) (p72,1,a0) else some (.inl (IntKind.i64.wrap (p72 + 1)))) else (XM a0).map Sum.inr)
noncomputable def Ye (a0 : (List Int)) : Option ((List Int)) :=
 (if (a0.length : Int) < 2 then some (a0) else Zg (YA a0) 1)
noncomputable def Zbh (a0 : (Arr 2)) (a1 : (List (List Int))) (a2 : Int) (a3 : Int) : Option ((List Int)×Int) :=
 (if 4096 < (a1.length : Int) then some ((([] : (List Int)),4)) else (if (((a2 < 0∨4096 < a2)∨a3 < 1)∨1099511627776 < a3) then some ((([] : (List Int)),5)) else (Zbf a0 a1 a2 a3).bind fun y1=>(Ye y1).bind fun y2=>some ((y2,0))))
noncomputable def ZdY (p27 : (List Int)) : Option ((List Int)×Int) :=
 some ((p27,0))
noncomputable def Xs (p26 : Int) (p39 : (List Int)) : Option ((Int×(List Int)) ⊕ ((List Int)×Int)) :=
 some (.inl (IntKind.i64.wrap (p26 + 1),p39))
noncomputable def Zbu (y13 : ((List Int))) : (Int×(List Int))→Option ((Int×(List Int)) ⊕ ((List Int)×Int))
 | (p26,p27)=>(if p26 < (y13.length : Int) then (idx (y13) (p26)).bind fun x34=>((if p26 = 0 then some (false) else (inA (p27.length) (IntKind.i64.wrap ((p27.length : Int) - 1))).bind fun j35=>((p27)[j35]?).bind fun x36=>some (!(decide (x34 = x36))))).bind fun z37=>(if (p26 = 0∨z37 = true) then (chk (p27.length + 1≤17592186044416)).bind fun _=>Xs p26 (p27++[x34]) else Xs p26 p27) else (ZdY p27).map Sum.inr)
noncomputable def ZdZ (p9 : (List Int)) : Option ((List Int)×Int) :=
 (ZdF p9).bind fun y13=>Zg (Zbu y13) (0,[])
noncomputable def Zbv (a1 : (List (List Int))) (a0 : (Arr 2)) (a2 : Int) (a3 : Int) : (Int×(List Int))→Option ((Int×(List Int)) ⊕ ((List Int)×Int))
 | (p8,p9)=>(if p8 < (a1.length : Int) then (idx (a1) (p8)).bind fun x41=>(ZaK a0 x41 a2 a3).bind fun y42=>(chk (p9.length + 1≤17592186044416)).bind fun _=>some (.inl (IntKind.i64.wrap (p8 + 1),p9++[y42])) else (ZdZ p9).map Sum.inr)
noncomputable def ZbF (a0 : (Arr 2)) (a1 : (List (List Int))) (a2 : Int) (a3 : Int) : Option ((List Int)×Int) :=
 (if 4096 < (a1.length : Int) then some ((([] : (List Int)),4)) else (if (((a2 < 0∨4096 < a2)∨a3 < 1)∨1099511627776 < a3) then some ((([] : (List Int)),5)) else Zg (Zbv a1 a0 a2 a3) (0,[])))
noncomputable def ZcV (a0 : Tapi_Bits) (a1 : Int) : Option (Bool) :=
 (idx (a0.1) (IntKind.i64.wrap ((a1).tdiv 8))).bind fun x1=>(chk (¬ ((a1).tmod 8 < 0))).bind fun _=>some (!(decide (bits .and .u8 x1 ((128 : Int).fdiv (2 ^ (min ((a1).tmod 8).toNat 8))) = 0)))
noncomputable def Zej (p7 : Int) : Option Int :=
 some (p7)
noncomputable def ZaQ (p8 : Int) (p12 : Int) : Option ((Int×Int) ⊕ (Int)) :=
 some (.inl (p12,IntKind.i64.wrap (p8 + 1)))
noncomputable def ZbU (a2 : Int) (a0 : Tapi_Bits) (a1 : Int) : (Int×Int)→Option ((Int×Int) ⊕ (Int))
 | (p7,p8)=>(if p8 < a2 then (ZcV a0 (IntKind.i64.wrap (a1 + p8))).bind fun y11=>(if y11 = true then ZaQ p8 (bits .or .u64 (IntKind.u64.wrap (p7 * 2)) 1) else ZaQ p8 (IntKind.u64.wrap (p7 * 2))) else (Zej p7).map Sum.inr)
noncomputable def Zbw (a0 : Tapi_Bits) (a1 : Int) (a2 : Int) : Option (Int) :=
 Zg (ZbU a2 a0 a1) (0,0)
noncomputable def Zan (a0 : Tapi_Bits) (p7 : Int) (a2 : Int) (a1 : Int) : Option (Int×Int×Int) :=
 (if IntKind.i64.wrap (a0.2 - p7) < IntKind.i64.wrap (1 + a2) then some ((0,0,1)) else (chk (¬ (a2 < 0))).bind fun _=>(Zbw a0 (IntKind.i64.wrap (p7 + 1)) a2).bind fun y11=>some ((bits .or .u64 (IntKind.u64.wrap ((IntKind.u64.wrap (IntKind.i64.wrap (p7 - a1))) * (2 ^ (min (a2).toNat 64)))) y11,IntKind.i64.wrap ((IntKind.i64.wrap (p7 + 1)) + a2),0)))
noncomputable def XZ (a0 : Tapi_Bits) (a1 : Int) (a2 : Int) : Int→Option ((Int) ⊕ (Int×Int×Int))
 | p7=>((if p7 < a0.2 then (ZcV a0 p7).bind fun y12=>some (y12) else some (false))).bind fun z13=>(if (p7 < a0.2∧z13 = true) then (if 65536 < IntKind.i64.wrap ((IntKind.i64.wrap (p7 + 1)) - a1) then some (.inr ((0,0,4))) else some (.inl (IntKind.i64.wrap (p7 + 1)))) else (Zan a0 p7 a2 a1).map Sum.inr)
noncomputable def Zbi (a0 : Tapi_Bits) (a1 : Int) (a2 : Int) : Option (Int×Int×Int) :=
 (ZbX a0).bind fun y1=>(if ¬ (y1 = true) then some ((0,0,6)) else (if (((a2 < 0∨32 < a2)∨a1 < 0)∨a0.2 < a1) then some ((0,0,5)) else Zg (XZ a0 a1 a2) a1))
noncomputable def Zek (a0 : Tapi_Bits) (a1 : Int) (a2 : Int) : Option (Int×Int×Int) :=
 (ZbX a0).bind fun y1=>(if ¬ (y1 = true) then some ((0,0,6)) else (if (((a2 < 0∨64 < a2)∨a1 < 0)∨a0.2 < a1) then some ((0,0,5)) else (if IntKind.i64.wrap (a0.2 - a1) < a2 then some ((0,0,1)) else (Zbw a0 a1 a2).bind fun y2=>some ((y2,IntKind.i64.wrap (a1 + a2),0)))))
noncomputable def Zdk (a0 : Tapi_Filter) (p10 : Int) (p12 : (List Int)) : Option ((List Int)×Int) :=
 (if 8≤IntKind.i64.wrap ((IntKind.i64.wrap (8 * (a0.2.length : Int))) - p10) then some ((([] : (List Int)),2)) else (Zek (a0.2,IntKind.i64.wrap (8 * (a0.2.length : Int))) p10 (IntKind.i64.wrap ((IntKind.i64.wrap (8 * (a0.2.length : Int))) - p10))).bind fun y15=>(if ¬ (y15.2.2 = 0) then some ((([] : (List Int)),y15.2.2)) else (if ¬ (y15.1 = 0) then some ((([] : (List Int)),3)) else some ((p12,0)))))
noncomputable def Zao (a0 : Tapi_Filter) (a1 : Int) : (Int×Int×Int×(List Int))→Option ((Int×Int×Int×(List Int)) ⊕ ((List Int)×Int))
 | (p9,p10,p11,p12)=>(if p11 < a0.1 then (Zbi (a0.2,IntKind.i64.wrap (8 * (a0.2.length : Int))) p10 a1).bind fun y16=>(if ¬ (y16.2.2 = 0) then some (.inr ((([] : (List Int)),y16.2.2))) else (if IntKind.u64.wrap (p9 + y16.1) < p9 then some (.inr ((([] : (List Int)),5))) else (chk (p12.length + 1≤17592186044416)).bind fun _=>some (.inl (IntKind.u64.wrap (p9 + y16.1),y16.2.1,IntKind.i64.wrap (p11 + 1),p12++[IntKind.u64.wrap (p9 + y16.1)])))) else (Zdk a0 p10 p12).map Sum.inr)
noncomputable def Zbj (a0 : Tapi_Filter) (a1 : Int) : Option ((List Int)×Int) :=
 (if (4096 < a0.1∨200000 < (a0.2.length : Int)) then some ((([] : (List Int)),4)) else (if ((a0.1 < 0∨a1 < 0)∨32 < a1) then some ((([] : (List Int)),5)) else (chk (0≤a0.1∧a0.1≤17592186044416)).bind fun _=>Zg (Zao a0 a1) (0,0,0,([] : (List Int)))))
noncomputable def Zd0 (p7 : Int) : Option Int :=
 some (p7)
noncomputable def Zau (p8 : Int) (p12 : Int) : Option ((Int×Int) ⊕ (Int)) :=
 some (.inl (p12,IntKind.i64.wrap (p8 + 1)))
noncomputable def Zbx (a1 : Int) (a2 : Int) (a0 : Tapi_Bits) : (Int×Int)→Option ((Int×Int) ⊕ (Int))
 | (p7,p8)=>(if p8 < IntKind.i64.wrap (a1 + a2) then (ZbR a0 p8).bind fun y11=>(if y11 = true then Zau p8 (IntKind.u64.wrap ((IntKind.u64.wrap (p7 * 2)) + 1)) else Zau p8 (IntKind.u64.wrap (p7 * 2))) else (Zd0 p7).map Sum.inr)
noncomputable def Za1 (a0 : Tapi_Bits) (a1 : Int) (a2 : Int) : Option (Int) :=
 Zg (Zbx a1 a2 a0) (0,a1)
noncomputable def Zaf (a0 : Tapi_Bits) (a1 : Int) (p7 : Int) (a2 : Int) : Option (Int×Int×Int) :=
 (if IntKind.i64.wrap ((IntKind.i64.wrap (a0.2 - a1)) - p7) < IntKind.i64.wrap (1 + a2) then some ((0,0,1)) else (chk (¬ (a2 < 0))).bind fun _=>(Za1 a0 (IntKind.i64.wrap ((IntKind.i64.wrap (a1 + p7)) + 1)) a2).bind fun y11=>some ((bits .or .u64 (IntKind.u64.wrap ((IntKind.u64.wrap (p7)) * (2 ^ (min (a2).toNat 64)))) y11,IntKind.i64.wrap ((IntKind.i64.wrap ((IntKind.i64.wrap (a1 + p7)) + 1)) + a2),0)))
noncomputable def XO (a1 : Int) (a0 : Tapi_Bits) (a2 : Int) : Int→Option ((Int) ⊕ (Int×Int×Int))
 | p7=>((if IntKind.i64.wrap (a1 + p7) < a0.2 then (ZbR a0 (IntKind.i64.wrap (a1 + p7))).bind fun y12=>some (y12) else some (false))).bind fun z13=>(if (IntKind.i64.wrap (a1 + p7) < a0.2∧z13 = true) then (if 65536 < IntKind.i64.wrap (p7 + 1) then some (.inr ((0,0,4))) else some (.inl (IntKind.i64.wrap (p7 + 1)))) else (Zaf a0 a1 p7 a2).map Sum.inr)
noncomputable def ZaR (a0 : Tapi_Bits) (a1 : Int) (a2 : Int) : Option (Int×Int×Int) :=
 (Zbt a0).bind fun y1=>(if ¬ (y1 = true) then some ((0,0,6)) else (if (((a2 < 0∨32 < a2)∨a1 < 0)∨a0.2 < a1) then some ((0,0,5)) else Zg (XO a1 a0 a2) 0))
noncomputable def Zdv (a0 : Tapi_Bits) (a1 : Int) (a2 : Int) : Option (Int×Int×Int) :=
 (Zbt a0).bind fun y1=>(if ¬ (y1 = true) then some ((0,0,6)) else (if (((a2 < 0∨64 < a2)∨a1 < 0)∨a0.2 < a1) then some ((0,0,5)) else (if IntKind.i64.wrap (a0.2 - a1) < a2 then some ((0,0,1)) else (Za1 a0 a1 a2).bind fun y2=>some ((y2,IntKind.i64.wrap (a1 + a2),0)))))
noncomputable def Zd1 (a0 : Tapi_Filter) (p7 : Int) (p9 : (List Int)) : Option ((List Int)×Int) :=
 (if 8≤IntKind.i64.wrap ((IntKind.i64.wrap (8 * (a0.2.length : Int))) - p7) then some ((([] : (List Int)),2)) else (Zdv (a0.2,IntKind.i64.wrap (8 * (a0.2.length : Int))) p7 (IntKind.i64.wrap ((IntKind.i64.wrap (8 * (a0.2.length : Int))) - p7))).bind fun y12=>(if ¬ (y12.1 = 0) then some ((([] : (List Int)),3)) else some ((p9,0))))
noncomputable def Zav (a0 : Tapi_Filter) (a1 : Int) : (Int×Int×(List Int))→Option ((Int×Int×(List Int)) ⊕ ((List Int)×Int))
 | (p7,p8,p9)=>(if (p9.length : Int) < a0.1 then (ZaR (a0.2,IntKind.i64.wrap (8 * (a0.2.length : Int))) p7 a1).bind fun y13=>(if ¬ (y13.2.2 = 0) then some (.inr ((([] : (List Int)),y13.2.2))) else (if IntKind.u64.wrap (p8 + y13.1) < p8 then some (.inr ((([] : (List Int)),5))) else (chk (p9.length + 1≤17592186044416)).bind fun _=>some (.inl (y13.2.1,IntKind.u64.wrap (p8 + y13.1),p9++[IntKind.u64.wrap (p8 + y13.1)])))) else (Zd1 a0 p7 p9).map Sum.inr)
noncomputable def ZbG (a0 : Tapi_Filter) (a1 : Int) : Option ((List Int)×Int) :=
 (if (4096 < a0.1∨200000 < (a0.2.length : Int)) then some ((([] : (List Int)),4)) else (if ((a0.1 < 0∨a1 < 0)∨32 < a1) then some ((([] : (List Int)),5)) else Zg (Zav a0 a1) (0,0,[])))
noncomputable def Lgolomb_Match_k1 : Option (Bool×Int) :=
 some ((false,0))
noncomputable def XP (p46 : Int) (y1 : ((List Int)×Int)) (x40 : Int) (p28 : Int) : Option ((Int×Int) ⊕ (Bool×Int)) :=
 ((if p46 < (y1.1.length : Int) then (idx (y1.1) (p46)).bind fun x49=>some (decide (x49 = x40)) else some (false))).bind fun z50=>(if (p46 < (y1.1.length : Int)∧z50 = true) then some (.inr ((true,0))) else some (.inl (p46,IntKind.i64.wrap (p28 + 1))))
noncomputable def XQ (y1 : ((List Int)×Int)) (x40 : Int) (p28 : Int) : Int→Option ((Int) ⊕ ((Int×Int) ⊕ (Bool×Int)))
 | p46=>((if p46 < (y1.1.length : Int) then (idx (y1.1) (p46)).bind fun x51=>some (decide (x51 < x40)) else some (false))).bind fun z52=>(if (p46 < (y1.1.length : Int)∧z52 = true) then some (.inl (IntKind.i64.wrap (p46 + 1))) else (XP p46 y1 x40 p28).map Sum.inr)
noncomputable def Zaw (y2 : ((List Int)×Int)) (y1 : ((List Int)×Int)) : (Int×Int)→Option ((Int×Int) ⊕ (Bool×Int))
 | (p27,p28)=>(if p28 < (y2.1.length : Int) then (idx (y2.1) (p28)).bind fun x40=>Zg (XQ y1 x40 p28) p27 else (Lgolomb_Match_k1).map Sum.inr)
noncomputable def ZbH (a0 : (Arr 2)) (a1 : Tapi_Filter) (a2 : (List (List Int))) (a3 : Int) (a4 : Int) : Option (Bool×Int) :=
 (Zbj a1 a3).bind fun y1=>(if ¬ (y1.2 = 0) then some ((false,y1.2)) else (Zbh a0 a2 a1.1 a4).bind fun y2=>(if ¬ (y2.2 = 0) then some ((false,y2.2)) else Zg (Zaw y2 y1) (0,0)))
noncomputable def Lref19_Match_k1 : Option (Bool×Int) :=
 some ((false,0))
noncomputable def Zel (p16 : Int) : Option ((Int) ⊕ (Bool×Int)) :=
 some (.inl (IntKind.i64.wrap (p16 + 1)))
noncomputable def ZaS (y1 : ((List Int)×Int)) (x23 : Int) (p16 : Int) : Int→Option ((Int) ⊕ ((Int) ⊕ (Bool×Int)))
 | p27=>(if p27 < (y1.1.length : Int) then (idx (y1.1) (p27)).bind fun x29=>(if x23 = x29 then some (.inr (.inr ((true,0)))) else some (.inl (IntKind.i64.wrap (p27 + 1)))) else (Zel p16).map Sum.inr)
noncomputable def ZaT (y2 : ((List Int)×Int)) (y1 : ((List Int)×Int)) : Int→Option ((Int) ⊕ (Bool×Int))
 | p16=>(if p16 < (y2.1.length : Int) then (idx (y2.1) (p16)).bind fun x23=>Zg (ZaS y1 x23 p16) 0 else (Lref19_Match_k1).map Sum.inr)
noncomputable def Zcb (a0 : (Arr 2)) (a1 : Tapi_Filter) (a2 : (List (List Int))) (a3 : Int) (a4 : Int) : Option (Bool×Int) :=
 (ZbG a1 a3).bind fun y1=>(if ¬ (y1.2 = 0) then some ((false,y1.2)) else (ZbF a0 a2 a1.1 a4).bind fun y2=>(if ¬ (y2.2 = 0) then some ((false,y2.2)) else Zg (ZaT y2 y1) 0))
def ZiU (x : (List (List Int))) : Prop:=x.length≤maxLen∧∀ a∈x,ZgU a
end Go.Lc
end
section
namespace Go.Lc
open Go.RowKit
open Go.Av
set_option maxRecDepth 100000
set_option linter.unusedSimpArgs false
set_option linter.unusedVariables false
def Zhv (x : Tapi_Filter) : Prop:=(-9223372036854775808≤x.1∧x.1≤9223372036854775807)∧ZgU x.2
end Go.Lc
end
section
namespace Go.Lc
open Go.RowKit
open Go.Av
set_option maxRecDepth 100000
set_option linter.unusedSimpArgs false
set_option linter.unusedVariables false
noncomputable def ZaU (a0 : Int) : Option ((Arr 4)) :=
 some ((zA 4).put 0 a0)
end Go.Lc
end
section
namespace Go.Lc
open Go.RowKit
open Go.Av
set_option maxRecDepth 100000
set_option linter.unusedSimpArgs false
set_option linter.unusedVariables false
noncomputable def Lref02_Cmp_k1 : Option Int :=
 some (0)
noncomputable def ZdG (a0 : (Arr 4)) (a1 : (Arr 4)) : Int→Option ((Int) ⊕ (Int))
 | p3=>(if 0≤p3 then (inA (4) (p3)).bind fun j5=>(if a0.at j5 < a1.at j5 then some (.inr ((-1))) else (if a1.at j5 < a0.at j5 then some (.inr (1)) else some (.inl (IntKind.i64.wrap (p3 - 1))))) else (Lref02_Cmp_k1).map Sum.inr)
noncomputable def Zda (a0 : (Arr 4)) (a1 : (Arr 4)) : Option (Int) :=
 Zg (ZdG a0 a1) 3
noncomputable def Zcm (a0 : (Arr 4)) (a1 : Int) : Option (Bool) :=
 (inA (4) (IntKind.i64.wrap ((a1).tdiv 64))).bind fun j1=>(chk (¬ ((a1).tmod 64 < 0))).bind fun _=>some (decide (bits .and .u64 ((a0.at j1).fdiv (2 ^ (min ((a1).tmod 64).toNat 64))) 1 = 1))
noncomputable def ZdH (p12 : (Arr 4)) : Option (Arr 4) :=
 some (p12)
noncomputable def Za2 (p11 : Int) (p20 : (Arr 4)) : Option ((Int×(Arr 4)) ⊕ ((Arr 4))) :=
 some (.inl (IntKind.i64.wrap (p11 + 1),p20))
noncomputable def ZdI (a1 : Int) (a0 : (Arr 4)) : (Int×(Arr 4))→Option ((Int×(Arr 4)) ⊕ ((Arr 4)))
 | (p11,p12)=>(if IntKind.i64.wrap (p11 + a1) < 256 then (Zcm a0 (IntKind.i64.wrap (p11 + a1))).bind fun y17=>(if y17 = true then (inA (4) (IntKind.i64.wrap ((p11).tdiv 64))).bind fun j21=>(chk (¬ ((p11).tmod 64 < 0))).bind fun _=>Za2 p11 (p12.put j21 (bits .or .u64 (p12.at j21) (IntKind.u64.wrap (1 * (2 ^ (min ((p11).tmod 64).toNat 64)))))) else Za2 p11 p12) else (ZdH p12).map Sum.inr)
noncomputable def Zcn (a0 : (Arr 4)) (a1 : Int) : Option ((Arr 4)) :=
 (if a1≤0 then some (a0) else (if 256≤a1 then some (zA 4) else Zg (ZdI a1 a0) (0,zA 4)))
end Go.Lc
end
