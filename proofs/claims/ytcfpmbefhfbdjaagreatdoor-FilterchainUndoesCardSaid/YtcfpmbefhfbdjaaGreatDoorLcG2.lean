import Derived.Test.YtcfpmbefhfbdjaaGreatDoorLcG1
namespace Go.Lc
open Go.RowKit
open Go.Av
set_option linter.unusedVariables false
set_option linter.unusedSimpArgs false
section
set_option maxRecDepth 100000
abbrev Tapi_Bits:=(List Int)×Int
abbrev Tapi_Filter:=Int×(List Int)
noncomputable def XV (a0:Int):Option (Bool) :=
 some (!(decide (a0=a0)))
noncomputable def Y5 (a0:Int) (a1:Int):Option (Bool) :=
 (XV a0).bind fun y1=>((if y1=true then(XV a1).bind fun y2=>some (!(y2)) else some (false))).bind fun z3=>some (((y1 && z3) || decide (a0<a1)))
noncomputable def Lslices_IsSorted_of__uint64_uint64_k1:Option Bool :=
 some (true)
noncomputable def ZN (a0:(List Int)):Int→Option ((Int) ⊕ (Bool))
 | p8=>(if 0<p8 then(idx (a0) (p8)).bind fun x12=>(idx (a0) (IntKind.i64.wrap (p8-1))).bind fun x13=>(Y5 x12 x13).bind fun y14=>(if y14=true then some (.inr (false)) else some (.inl (IntKind.i64.wrap (p8-1)))) else(Lslices_IsSorted_of__uint64_uint64_k1).map Sum.inr)
noncomputable def Z9 (a0:(List Int)):Option (Bool) :=
 Ze (ZN a0) (IntKind.i64.wrap ((a0.length:Int)-1))
noncomputable def Zfm (a0:Tapi_Bits):Option (Bool) :=
 (if ((a0.2<0∨1600000<a0.2)∨¬ ((a0.1.length:Int)=IntKind.i64.wrap ((IntKind.i64.wrap (a0.2+7)).tdiv 8))) then some (false) else((if (a0.2).tmod 8=0 then some (false) else(idx (a0.1) (IntKind.i64.wrap ((a0.1.length:Int)-1))).bind fun x1=>(chk (¬ ((a0.2).tmod 8<0))).bind fun _=>some (decide (bits .and .u8 x1 ((255:Int).fdiv (2 ^ (min ((a0.2).tmod 8).toNat 8)))=0)))).bind fun z3=>some ((decide ((a0.2).tmod 8=0) || z3)))
noncomputable def Zfn (a0:Tapi_Bits):Option (Tapi_Bits) :=
 (chk (0≤(a0.1.length:Int)∧(a0.1.length:Int)≤140737488355328)).bind fun _=>some (((a0.1).take (min (a0.1.length) ((((a0.1.length:Int)).toNat)))++(List.replicate (((a0.1.length:Int)).toNat) 0).drop (min (a0.1.length) ((((a0.1.length:Int)).toNat))),a0.2))
noncomputable def Xv (a0:Tapi_Bits) (p6:(List Int)):Option Tapi_Bits :=
 some ((p6,IntKind.i64.wrap (a0.2+1)))
noncomputable def Y6 (a1:Bool) (a0:Tapi_Bits) (p2:(List Int)):Option Tapi_Bits :=
 (if a1=true then(inA (p2.length) (IntKind.i64.wrap ((a0.2).tdiv 8))).bind fun j7=>((p2)[j7]?).bind fun x8=>(chk (¬ ((a0.2).tmod 8<0))).bind fun _=>Xv a0 ((p2).set j7 (bits .or .u8 x8 ((128:Int).fdiv (2 ^ (min ((a0.2).tmod 8).toNat 8))))) else Xv a0 p2)
noncomputable def XO (a0:Tapi_Bits) (a1:Bool):Option (Tapi_Bits) :=
 (if (a0.2).tmod 8=0 then(chk (a0.1.length+1≤140737488355328)).bind fun _=>Y6 a1 a0 (a0.1++[0]) else Y6 a1 a0 a0.1)
noncomputable def Zah (a2:Int) (a1:Int):(Int×Int×(List Int))→Option ((Int×Int×(List Int)) ⊕ (Tapi_Bits))
 | (p8,p9,p10)=>(if p8<a2 then(chk (¬ (IntKind.i64.wrap ((IntKind.i64.wrap (a2-1))-p8)<0))).bind fun _=>(XO (p10,p9) (decide (bits .and .u64 ((a1).fdiv (2 ^ (min (IntKind.i64.wrap ((IntKind.i64.wrap (a2-1))-p8)).toNat 64))) 1=1))).bind fun y12=>some (.inl (IntKind.i64.wrap (p8+1),y12.2,y12.1)) else some (.inr ((p10,p9))))
noncomputable def X9 (a0:Tapi_Bits) (a1:Int) (a2:Int):Option (Tapi_Bits) :=
 Ze (Zah a2 a1) (0,a0.2,a0.1)
noncomputable def Zdl (p11:(List Int)) (p10:Int) (a1:Int) (a2:Int):Option (Tapi_Bits×Int) :=
 (XO (p11,p10) false).bind fun y13=>(X9 (y13.1,y13.2) a1 a2).bind fun y14=>some (((y14.1,y14.2),0))
noncomputable def Zbe (a1:Int) (a2:Int):(Int×Int×(List Int))→Option ((Int×Int×(List Int)) ⊕ (Tapi_Bits×Int))
 | (p9,p10,p11)=>(if p9<(a1).fdiv (2 ^ (min (a2).toNat 64)) then(XO (p11,p10) true).bind fun y15=>some (.inl (IntKind.u64.wrap (p9+1),y15.2,y15.1)) else(Zdl p11 p10 a1 a2).map Sum.inr)
noncomputable def Zau (a0:Tapi_Bits) (a1:Int) (a2:Int):Option (Tapi_Bits×Int) :=
 (Zfm a0).bind fun y1=>(if ¬ (y1=true) then some (((([]:(List Int)),0),6)) else(if (a2<0∨32<a2) then some (((([]:(List Int)),0),5)) else(chk (¬ (a2<0))).bind fun _=>(if (65536<(a1).fdiv (2 ^ (min (a2).toNat 64))∨1600000<IntKind.i64.wrap ((IntKind.i64.wrap ((IntKind.i64.wrap (a0.2+(IntKind.i64.wrap ((a1).fdiv (2 ^ (min (a2).toNat 64))))))+1))+a2)) then some (((([]:(List Int)),0),4)) else(Zfn a0).bind fun y3=>Ze (Zbe a1 a2) (0,y3.2,y3.1))))
noncomputable def Zd6 (a0:(List Int)) (p12:(List Int)):Option (Tapi_Filter×Int) :=
 some ((((a0.length:Int),p12),0))
noncomputable def Zd7 (a0:(List Int)) (a1:Int):(Int×Int×(List Int)×Int)→Option ((Int×Int×(List Int)×Int) ⊕ (Tapi_Filter×Int))
 | (p10,p11,p12,p13)=>(if p11<(a0.length:Int) then(idx (a0) (p11)).bind fun x16=>(Zau (p12,p13) (IntKind.u64.wrap (x16-p10)) a1).bind fun y17=>(if ¬ (y17.2=0) then some (.inr (((0,([]:(List Int))),y17.2))) else some (.inl (x16,IntKind.i64.wrap (p11+1),y17.1.1,y17.1.2))) else(Zd6 a0 p12).map Sum.inr)
noncomputable def Zbo (a0:(List Int)) (a1:Int):Option (Tapi_Filter×Int) :=
 (if 4096<(a0.length:Int) then some (((0,([]:(List Int))),4)) else(if (a1<0∨32<a1) then some (((0,([]:(List Int))),5)) else(Z9 a0).bind fun y1=>(if ¬ (y1=true) then some (((0,([]:(List Int))),6)) else Ze (Zd7 a0 a1) (0,0,([]:(List Int)),0))))
noncomputable def XP (a0:Int) (a1:Int):Option (Int×Int) :=
 some ((IntKind.u64.wrap ((IntKind.u64.wrap ((IntKind.u64.wrap (((a0).fdiv 4294967296) * ((a1).fdiv 4294967296)))+((IntKind.u64.wrap ((IntKind.u64.wrap (((a0).fdiv 4294967296) * (bits .and .u64 a1 4294967295)))+((IntKind.u64.wrap ((bits .and .u64 a0 4294967295) * (bits .and .u64 a1 4294967295))).fdiv 4294967296))).fdiv 4294967296)))+((IntKind.u64.wrap ((bits .and .u64 (IntKind.u64.wrap ((IntKind.u64.wrap (((a0).fdiv 4294967296) * (bits .and .u64 a1 4294967295)))+((IntKind.u64.wrap ((bits .and .u64 a0 4294967295) * (bits .and .u64 a1 4294967295))).fdiv 4294967296))) 4294967295)+(IntKind.u64.wrap ((bits .and .u64 a0 4294967295) * ((a1).fdiv 4294967296))))).fdiv 4294967296)),IntKind.u64.wrap (a0 * a1)))
noncomputable def ZhG (a0:Int) (a1:Int):Option (Int) :=
 (XP a0 a1).bind fun y1=>some (y1.1)
noncomputable def ZT (a0:Int) (a1:Int):Option (Int) :=
 (chk (¬ (bits .and .u64 (IntKind.u64.wrap (a1)) 63<0))).bind fun _=>(chk (¬ (IntKind.u64.wrap (64-(bits .and .u64 (IntKind.u64.wrap (a1)) 63))<0))).bind fun _=>some (bits .or .u64 (IntKind.u64.wrap (a0 * (2 ^ (min (bits .and .u64 (IntKind.u64.wrap (a1)) 63).toNat 64)))) ((a0).fdiv (2 ^ (min (IntKind.u64.wrap (64-(bits .and .u64 (IntKind.u64.wrap (a1)) 63))).toNat 64))))
noncomputable def Zgc (p20:(Arr 4)):Option (Arr 4) :=
 some (p20)
noncomputable def Zee (a1:Int):(Int×(Arr 4))→Option ((Int×(Arr 4)) ⊕ ((Arr 4)))
 | (p19,p20)=>(if p19<a1 then(ZT ((p20.put 0 (IntKind.u64.wrap ((p20.at 0)+(p20.at 1)))).at 1) 13).bind fun y29=>(ZT ((((p20.put 0 (IntKind.u64.wrap ((p20.at 0)+(p20.at 1)))).put 1 y29).put 1 (bits .xor .u64 (((p20.put 0 (IntKind.u64.wrap ((p20.at 0)+(p20.at 1)))).put 1 y29).at 1) (((p20.put 0 (IntKind.u64.wrap ((p20.at 0)+(p20.at 1)))).put 1 y29).at 0))).at 0) 32).bind fun y30=>(some (((((p20.put 0 (IntKind.u64.wrap ((p20.at 0)+(p20.at 1)))).put 1 y29).put 1 (bits .xor .u64 (((p20.put 0 (IntKind.u64.wrap ((p20.at 0)+(p20.at 1)))).put 1 y29).at 1) (((p20.put 0 (IntKind.u64.wrap ((p20.at 0)+(p20.at 1)))).put 1 y29).at 0))).put 0 y30).put 2 (IntKind.u64.wrap ((((((p20.put 0 (IntKind.u64.wrap ((p20.at 0)+(p20.at 1)))).put 1 y29).put 1 (bits .xor .u64 (((p20.put 0 (IntKind.u64.wrap ((p20.at 0)+(p20.at 1)))).put 1 y29).at 1) (((p20.put 0 (IntKind.u64.wrap ((p20.at 0)+(p20.at 1)))).put 1 y29).at 0))).put 0 y30).at 2)+(((((p20.put 0 (IntKind.u64.wrap ((p20.at 0)+(p20.at 1)))).put 1 y29).put 1 (bits .xor .u64 (((p20.put 0 (IntKind.u64.wrap ((p20.at 0)+(p20.at 1)))).put 1 y29).at 1) (((p20.put 0 (IntKind.u64.wrap ((p20.at 0)+(p20.at 1)))).put 1 y29).at 0))).put 0 y30).at 3))))).bind fun x31=>(ZT (x31.at 3) 16).bind fun y32=>(ZT ((((x31.put 3 y32).put 3 (bits .xor .u64 ((x31.put 3 y32).at 3) ((x31.put 3 y32).at 2))).put 0 (IntKind.u64.wrap ((((x31.put 3 y32).put 3 (bits .xor .u64 ((x31.put 3 y32).at 3) ((x31.put 3 y32).at 2))).at 0)+(((x31.put 3 y32).put 3 (bits .xor .u64 ((x31.put 3 y32).at 3) ((x31.put 3 y32).at 2))).at 3)))).at 3) 21).bind fun y33=>(some (((((x31.put 3 y32).put 3 (bits .xor .u64 ((x31.put 3 y32).at 3) ((x31.put 3 y32).at 2))).put 0 (IntKind.u64.wrap ((((x31.put 3 y32).put 3 (bits .xor .u64 ((x31.put 3 y32).at 3) ((x31.put 3 y32).at 2))).at 0)+(((x31.put 3 y32).put 3 (bits .xor .u64 ((x31.put 3 y32).at 3) ((x31.put 3 y32).at 2))).at 3)))).put 3 y33).put 3 (bits .xor .u64 (((((x31.put 3 y32).put 3 (bits .xor .u64 ((x31.put 3 y32).at 3) ((x31.put 3 y32).at 2))).put 0 (IntKind.u64.wrap ((((x31.put 3 y32).put 3 (bits .xor .u64 ((x31.put 3 y32).at 3) ((x31.put 3 y32).at 2))).at 0)+(((x31.put 3 y32).put 3 (bits .xor .u64 ((x31.put 3 y32).at 3) ((x31.put 3 y32).at 2))).at 3)))).put 3 y33).at 3) (((((x31.put 3 y32).put 3 (bits .xor .u64 ((x31.put 3 y32).at 3) ((x31.put 3 y32).at 2))).put 0 (IntKind.u64.wrap ((((x31.put 3 y32).put 3 (bits .xor .u64 ((x31.put 3 y32).at 3) ((x31.put 3 y32).at 2))).at 0)+(((x31.put 3 y32).put 3 (bits .xor .u64 ((x31.put 3 y32).at 3) ((x31.put 3 y32).at 2))).at 3)))).put 3 y33).at 0)))).bind fun x34=>(ZT ((x34.put 2 (IntKind.u64.wrap ((x34.at 2)+(x34.at 1)))).at 1) 17).bind fun y35=>(ZT ((((x34.put 2 (IntKind.u64.wrap ((x34.at 2)+(x34.at 1)))).put 1 y35).put 1 (bits .xor .u64 (((x34.put 2 (IntKind.u64.wrap ((x34.at 2)+(x34.at 1)))).put 1 y35).at 1) (((x34.put 2 (IntKind.u64.wrap ((x34.at 2)+(x34.at 1)))).put 1 y35).at 2))).at 2) 32).bind fun y36=>some (.inl (IntKind.i64.wrap (p19+1),(((x34.put 2 (IntKind.u64.wrap ((x34.at 2)+(x34.at 1)))).put 1 y35).put 1 (bits .xor .u64 (((x34.put 2 (IntKind.u64.wrap ((x34.at 2)+(x34.at 1)))).put 1 y35).at 1) (((x34.put 2 (IntKind.u64.wrap ((x34.at 2)+(x34.at 1)))).put 1 y35).at 2))).put 2 y36)) else(Zgc p20).map Sum.inr)
noncomputable def Zfo (a0:(Arr 4)) (a1:Int):Option ((Arr 4)) :=
 Ze (Zee a1) (0,a0)
noncomputable def ZdT (a0:(Arr 4)) (a1:Int):Option ((Arr 4)) :=
 (Zfo (a0.put 3 (bits .xor .u64 (a0.at 3) a1)) 2).bind fun y1=>some (y1.put 0 (bits .xor .u64 (y1.at 0) a1))
noncomputable def ZhH (p7:Int):Option Int :=
 some (p7)
noncomputable def ZfV (a0:(List Int)):(Int×Int)→Option ((Int×Int) ⊕ (Int))
 | (p7,p8)=>(if p8<(a0.length:Int) then(idx (a0) (p8)).bind fun x11=>(chk (¬ (IntKind.i64.wrap (8 * p8)<0))).bind fun _=>some (.inl (bits .or .u64 p7 (IntKind.u64.wrap ((IntKind.u64.wrap (x11)) * (2 ^ (min (IntKind.i64.wrap (8 * p8)).toNat 64)))),IntKind.i64.wrap (p8+1))) else(ZhH p7).map Sum.inr)
noncomputable def ZbS (a0:(List Int)):Option (Int) :=
 Ze (ZfV a0) (0,0)
noncomputable def ZiM (a1:(List Int)) (p10:(Arr 4)):Option Int :=
 (chk (0≤IntKind.i64.wrap (8 * (IntKind.i64.wrap (((a1.length:Int)).tdiv 8)))∧IntKind.i64.wrap (8 * (IntKind.i64.wrap (((a1.length:Int)).tdiv 8)))≤(a1.length:Int))).bind fun _=>(ZbS ((a1).drop ((IntKind.i64.wrap (8 * (IntKind.i64.wrap (((a1.length:Int)).tdiv 8)))).toNat))).bind fun y15=>(ZdT p10 (bits .or .u64 y15 (IntKind.u64.wrap ((IntKind.u64.wrap (((a1.length:Int)).tmod 256)) * 72057594037927936)))).bind fun y16=>(Zfo (y16.put 2 (bits .xor .u64 (y16.at 2) 255)) 4).bind fun y17=>some (bits .xor .u64 (bits .xor .u64 (bits .xor .u64 (y17.at 0) (y17.at 1)) (y17.at 2)) (y17.at 3))
noncomputable def ZgL (a1:(List Int)):(Int×(Arr 4))→Option ((Int×(Arr 4)) ⊕ (Int))
 | (p9,p10)=>(if p9<IntKind.i64.wrap (((a1.length:Int)).tdiv 8) then(chk (0≤IntKind.i64.wrap (8 * p9)∧IntKind.i64.wrap (8 * p9)≤IntKind.i64.wrap ((IntKind.i64.wrap (8 * p9))+8)∧IntKind.i64.wrap ((IntKind.i64.wrap (8 * p9))+8)≤(a1.length:Int))).bind fun _=>(ZbS (((a1).take ((IntKind.i64.wrap ((IntKind.i64.wrap (8 * p9))+8)).toNat)).drop ((IntKind.i64.wrap (8 * p9)).toNat))).bind fun y19=>(ZdT p10 y19).bind fun y20=>some (.inl (IntKind.i64.wrap (p9+1),y20)) else(ZiM a1 p10).map Sum.inr)
noncomputable def Zif (a0:(Arr 2)) (a1:(List Int)):Option (Int) :=
 Ze (ZgL a1) (0,((((zA 4).put 0 (bits .xor .u64 (a0.at 0) 8317987319222330741)).put 1 (bits .xor .u64 (a0.at 1) 7237128888997146477)).put 2 (bits .xor .u64 (a0.at 0) 7816392313619706465)).put 3 (bits .xor .u64 (a0.at 1) 8387220255154660723))
noncomputable def Zj1 (a0:Int):Option Int :=
 (chk (0≤a0∧a0≤4294967295)).bind fun _=>some (Lib.bitLen a0.toNat:Int)
noncomputable def Zbp (a0:Int):Option Int :=
 (chk (0≤a0∧a0≤18446744073709551615)).bind fun _=>some (Lib.bitLen a0.toNat:Int)
noncomputable def ZcG (a0:Int):Option (Int) :=
 (Zbp a0).bind fun y1=>some (y1)
noncomputable def ZP (p77:Int) (p104:(List Int)):Option ((Int×(List Int)) ⊕ ((List Int))) :=
 some (.inl (IntKind.i64.wrap (p77+1),p104))
noncomputable def ZJ (a1:Int) (p77:Int):(Int×(List Int))→Option ((Int×(List Int)) ⊕ ((Int×(List Int)) ⊕ ((List Int))))
 | (p103,p104)=>((if a1<p103 then(inA (p104.length) (p103)).bind fun j116=>((p104)[j116]?).bind fun x117=>(inA (p104.length) (IntKind.i64.wrap (p103-1))).bind fun j118=>((p104)[j118]?).bind fun x119=>(Y5 x117 x119).bind fun y120=>some (y120) else some (false))).bind fun z121=>(if (a1<p103∧z121=true) then(inA (p104.length) (IntKind.i64.wrap (p103-1))).bind fun j122=>((p104)[j122]?).bind fun x123=>(inA (p104.length) (p103)).bind fun j124=>((p104)[j124]?).bind fun x125=>(inA (((p104).set j124 x123).length) (IntKind.i64.wrap (p103-1))).bind fun j126=>some (.inl (IntKind.i64.wrap (p103-1),((p104).set j124 x123).set j126 x125)) else(ZP p77 p104).map Sum.inr)
noncomputable def Z3 (a2:Int) (a1:Int) (a0:(List Int)):(Int×(List Int))→Option ((Int×(List Int)) ⊕ ((List Int)))
 | (p77,p78)=>(if p77<a2 then Ze (ZJ a1 p77) (p77,p78) else(chk (p78.length=a0.length)).bind fun _=>some (.inr (p78)))
noncomputable def Zt (a0:(List Int)) (a1:Int) (a2:Int):Option ((List Int)) :=
 Ze (Z3 a2 a1 a0) (IntKind.i64.wrap (a1+1),a0)
noncomputable def Zlf (a0:Tapi_Bits) (a1:Int):Option (Bool) :=
 (idx (a0.1) (IntKind.i64.wrap ((a1).tdiv 8))).bind fun x1=>(chk (¬ (IntKind.i64.wrap (7-((a1).tmod 8))<0))).bind fun _=>some (decide (bits .and .u8 ((x1).fdiv (2 ^ (min (IntKind.i64.wrap (7-((a1).tmod 8))).toNat 8))) 1=1))
noncomputable def Lref18_Valid_k1:Option Bool :=
 some (true)
noncomputable def ZfF (a0:Tapi_Bits):Int→Option ((Int) ⊕ (Bool))
 | p4=>(if p4<IntKind.i64.wrap (8 * (a0.1.length:Int)) then(Zlf a0 p4).bind fun y6=>(if y6=true then some (.inr (false)) else some (.inl (IntKind.i64.wrap (p4+1)))) else(Lref18_Valid_k1).map Sum.inr)
noncomputable def Zj2 (a0:Tapi_Bits):Option (Bool) :=
 (if ((a0.2<0∨1600000<a0.2)∨¬ ((a0.1.length:Int)=IntKind.i64.wrap ((IntKind.i64.wrap (a0.2+7)).tdiv 8))) then some (false) else Ze (ZfF a0) a0.2)
noncomputable def Zgd (p8:(List Int)):Option (List Int) :=
 some (p8)
noncomputable def ZcH (a0:(List (List Int))):(Int×(List Int))→Option ((Int×(List Int)) ⊕ ((List Int)))
 | (p7,p8)=>(if p7<(a0.length:Int) then(idx (a0) (p7)).bind fun x11=>(Ye p8 x11).bind fun y12=>some (.inl (IntKind.i64.wrap (p7+1),y12)) else(Zgd p8).map Sum.inr)
noncomputable def ZaK (a0:(List (List Int))):Option ((List Int)) :=
 Ze (ZcH a0) (0,([]:(List Int)))
noncomputable def ZgY (a0:Tapi_Bits) (p6:(List Int)):Option Tapi_Bits :=
 some ((p6,IntKind.i64.wrap (a0.2+1)))
noncomputable def Ze7 (a1:Bool) (a0:Tapi_Bits) (p2:(List Int)):Option Tapi_Bits :=
 (if a1=true then(inA (p2.length) (IntKind.i64.wrap ((a0.2).tdiv 8))).bind fun j7=>((p2)[j7]?).bind fun x8=>(chk (¬ (IntKind.i64.wrap (7-((a0.2).tmod 8))<0))).bind fun _=>ZgY a0 ((p2).set j7 (bits .or .u8 x8 (IntKind.u8.wrap (1 * (2 ^ (min (IntKind.i64.wrap (7-((a0.2).tmod 8))).toNat 8)))))) else ZgY a0 p2)
noncomputable def ZhI (a0:Tapi_Bits) (a1:Bool):Option (Tapi_Bits) :=
 (if (a0.2).tmod 8=0 then(chk (a0.1.length+1≤140737488355328)).bind fun _=>Ze7 a1 a0 (a0.1++[0]) else Ze7 a1 a0 a0.1)
noncomputable def ZhJ (p26:(List Int)) (p25:Int):Option (Tapi_Bits×Int) :=
 some (((p26,p25),0))
noncomputable def ZaS (a1:Int):(Int×Int×(List Int))→Option ((Int×Int×(List Int)) ⊕ (Tapi_Bits×Int))
 | (p24,p25,p26)=>(if 0≤p24 then(chk (¬ (p24<0))).bind fun _=>(ZhI (p26,p25) (decide (bits .and .u64 ((a1).fdiv (2 ^ (min (p24).toNat 64))) 1=1))).bind fun y30=>some (.inl (IntKind.i64.wrap (p24-1),y30.2,y30.1)) else(ZhJ p26 p25).map Sum.inr)
noncomputable def ZhK (p14:(List Int)) (p13:Int) (a1:Int) (a2:Int):Option (Tapi_Bits×Int) :=
 (ZhI (p14,p13) false).bind fun y16=>Ze (ZaS a1) (IntKind.i64.wrap (a2-1),y16.2,y16.1)
noncomputable def Zcv (a1:Int) (a2:Int):(Int×Int×(List Int))→Option ((Int×Int×(List Int)) ⊕ (Tapi_Bits×Int))
 | (p12,p13,p14)=>(if 0<p12 then(ZhI (p14,p13) true).bind fun y31=>some (.inl (IntKind.u64.wrap (p12-1),y31.2,y31.1)) else(ZhK p14 p13 a1 a2).map Sum.inr)
noncomputable def Zd8 (a0:Tapi_Bits) (a1:Int) (a2:Int):Option (Tapi_Bits×Int) :=
 (Zj2 a0).bind fun y1=>(if ¬ (y1=true) then some (((([]:(List Int)),0),6)) else(if (a2<0∨32<a2) then some (((([]:(List Int)),0),5)) else(chk (¬ (a2<0))).bind fun _=>((if 65536<(a1).fdiv (2 ^ (min (a2).toNat 64)) then some (false) else(chk (¬ (a2<0))).bind fun _=>some (decide (1600000<IntKind.i64.wrap ((IntKind.i64.wrap ((IntKind.i64.wrap (a0.2+(IntKind.i64.wrap ((a1).fdiv (2 ^ (min (a2).toNat 64))))))+1))+a2))))).bind fun z4=>(if (65536<(a1).fdiv (2 ^ (min (a2).toNat 64))∨z4=true) then some (((([]:(List Int)),0),4)) else(ZaK [a0.1]).bind fun y5=>(chk (¬ (a2<0))).bind fun _=>Ze (Zcv a1 a2) ((a1).fdiv (2 ^ (min (a2).toNat 64)),a0.2,y5))))
noncomputable def Zj3 (a0:(List Int)) (p19:(List Int)):Option (Tapi_Filter×Int) :=
 some ((((a0.length:Int),p19),0))
noncomputable def Zhd (a0:(List Int)) (a1:Int):(Int×Int×(List Int)×Int)→Option ((Int×Int×(List Int)×Int) ⊕ (Tapi_Filter×Int))
 | (p17,p18,p19,p20)=>(if p18<(a0.length:Int) then(idx (a0) (p18)).bind fun x23=>(Zd8 (p19,p20) (IntKind.u64.wrap (x23-p17)) a1).bind fun y24=>(if ¬ (y24.2=0) then some (.inr (((0,([]:(List Int))),y24.2))) else some (.inl (x23,IntKind.i64.wrap (p18+1),y24.1.1,y24.1.2))) else(Zj3 a0 p19).map Sum.inr)
noncomputable def Zj4 (a0:(List Int)) (a1:Int):Option (Tapi_Filter×Int) :=
 Ze (Zhd a0 a1) (0,0,([]:(List Int)),0)
noncomputable def Zc4 (a0:(List Int)) (a1:Int):Int→Option ((Int) ⊕ (Tapi_Filter×Int))
 | p6=>(if p6<(a0.length:Int) then(idx (a0) (IntKind.i64.wrap (p6-1))).bind fun x25=>(idx (a0) (p6)).bind fun x26=>(if x26<x25 then some (.inr (((0,([]:(List Int))),6))) else some (.inl (IntKind.i64.wrap (p6+1)))) else(Zj4 a0 a1).map Sum.inr)
noncomputable def Zi0 (a0:(List Int)) (a1:Int):Option (Tapi_Filter×Int) :=
 (if 4096<(a0.length:Int) then some (((0,([]:(List Int))),4)) else(if (a1<0∨32<a1) then some (((0,([]:(List Int))),5)) else Ze (Zc4 a0 a1) 1))
end
section
set_option maxRecDepth 100000
abbrev Tapi_FilterChain:=(List (Arr 32))×(List (Arr 32))
noncomputable def Yz (a0:Tapi_FilterChain):Option (Bool) :=
 some ((decide ((a0.1.length:Int)=(a0.2.length:Int)) && decide ((a0.1.length:Int)≤4096)))
noncomputable def Zdn (p16:(List Int)):Option (List Int) :=
 some (p16)
noncomputable def Yl (a0:(List (List Int))):(Int×(List Int))→Option ((Int×(List Int)) ⊕ ((List Int)))
 | (p15,p16)=>(if p15<(a0.length:Int) then(idx (a0) (p15)).bind fun x19=>(chk (p16.length+x19.length≤140737488355328)).bind fun _=>some (.inl (IntKind.i64.wrap (p15+1),p16++x19)) else(Zdn p16).map Sum.inr)
noncomputable def ZaI (p5:Int) (a0:(List (List Int))):Option (List Int) :=
 (chk (0≤p5∧p5≤70368744177664)).bind fun _=>Ze (Yl a0) (0,([]:(List Int)))
noncomputable def YO (p5:Int) (x21:(List Int)) (p6:Int):Option ((Int×Int) ⊕ ((List Int))) :=
 some (.inl (IntKind.i64.wrap (p5+(x21.length:Int)),IntKind.i64.wrap (p6+1)))
noncomputable def YP (a0:(List (List Int))):(Int×Int)→Option ((Int×Int) ⊕ ((List Int)))
 | (p5,p6)=>(if p6<(a0.length:Int) then(idx (a0) (p6)).bind fun x21=>(if IntKind.i64.wrap (p5+(x21.length:Int))<0 then((none:Option Unit)).bind fun _=>YO p5 x21 p6 else YO p5 x21 p6) else(ZaI p5 a0).map Sum.inr)
noncomputable def ZR (a0:(List (List Int))):Option ((List Int)) :=
 Ze (YP a0) (0,0)
noncomputable def Zbq (a0:(Arr 32)) (a1:(Arr 32)):Option ((Arr 32)) :=
 (ZR [a0.l,a1.l]).bind fun y1=>(Zcy y1).bind fun y2=>some (y2)
noncomputable def Zef (p11:(List (Arr 32))):Option (List (Arr 32)) :=
 some (p11)
noncomputable def Xc (a1:(List (Arr 32))):(Int×(Arr 32)×(List (Arr 32)))→Option ((Int×(Arr 32)×(List (Arr 32))) ⊕ ((List (Arr 32))))
 | (p9,p10,p11)=>(if p9<(a1.length:Int) then(idx (a1) (p9)).bind fun x15=>(Zbq x15 p10).bind fun y16=>(chk (p11.length+1≤4398046511104)).bind fun _=>some (.inl (IntKind.i64.wrap (p9+1),y16,p11++[y16])) else(Zef p11).map Sum.inr)
noncomputable def Xk (a0:(Arr 32)) (a1:(List (Arr 32))):Option ((List (Arr 32))) :=
 Ze (Xc a1) (0,a0,[])
noncomputable def ZeK (p8:(List (Arr 32))):Option (List (Arr 32)) :=
 some (p8)
noncomputable def Xm (a0:(List (List (Arr 32)))):(Int×(List (Arr 32)))→Option ((Int×(List (Arr 32))) ⊕ ((List (Arr 32))))
 | (p7,p8)=>(if p7<(a0.length:Int) then(idx (a0) (p7)).bind fun x11=>(chk (p8.length+x11.length≤4398046511104)).bind fun _=>some (.inl (IntKind.i64.wrap (p7+1),p8++x11)) else(ZeK p8).map Sum.inr)
noncomputable def Yx (a0:(List (List (Arr 32)))):Option ((List (Arr 32))) :=
 Ze (Xm a0) (0,[])
noncomputable def XZ (a0:Tapi_FilterChain) (a1:Int):Option ((Arr 32)) :=
 (if a1=0 then some (zA 32) else(idx (a0.2) (IntKind.i64.wrap (a1-1))).bind fun x1=>some (x1))
noncomputable def Z2 (a0:Tapi_FilterChain) (a1:(List (Arr 32))) (a2:(List (Arr 32))):Option (Tapi_FilterChain×Int) :=
 (Yz a0).bind fun y1=>(if ¬ (y1=true) then some (((([]:(List (Arr 32))),([]:(List (Arr 32)))),6)) else(if ¬ ((a1.length:Int)=(a2.length:Int)) then some (((([]:(List (Arr 32))),([]:(List (Arr 32)))),8)) else(if 4096<IntKind.i64.wrap ((a0.2.length:Int)+(a1.length:Int)) then some (((([]:(List (Arr 32))),([]:(List (Arr 32)))),4)) else(Yx [a0.1,a1]).bind fun y2=>(XZ a0 (a0.2.length:Int)).bind fun y3=>(Xk y3 a2).bind fun y4=>(Yx [a0.2,y4]).bind fun y5=>some (((y2,y5),0)))))
noncomputable def Lfilterchain_differ_of_api_Hash_k1:Option Int :=
 some ((-1))
noncomputable def Ya (a0:(List (Arr 32))) (a1:(List (Arr 32))):Int→Option ((Int) ⊕ (Int))
 | p8=>(if p8<(if (a0.length:Int)<(a1.length:Int) then(a1.length:Int) else(a0.length:Int)) then((if ((a0.length:Int)≤p8∨(a1.length:Int)≤p8) then some (false) else(idx (a0) (p8)).bind fun x12=>(idx (a1) (p8)).bind fun x13=>some (!(decide (x12=x13))))).bind fun z14=>(if (((a0.length:Int)≤p8∨(a1.length:Int)≤p8)∨z14=true) then some (.inr (p8)) else some (.inl (IntKind.i64.wrap (p8+1)))) else(Lfilterchain_differ_of_api_Hash_k1).map Sum.inr)
noncomputable def ZS (a0:(List (Arr 32))) (a1:(List (Arr 32))):Option (Int) :=
 Ze (Ya a0 a1) 0
noncomputable def Zaa (a0:(List (Arr 32))) (a1:(List (Arr 32))):Option (Int) :=
 (ZS a0 a1).bind fun y1=>some (y1)
noncomputable def Llaw21_sane:Option (Bool) :=
 (Z2 (([]:(List (Arr 32))),([]:(List (Arr 32)))) [(zA 32).put 0 1] [(zA 32).put 0 2]).bind fun y1=>(Zaa [(zA 32).put 0 1,(zA 32).put 0 2] [(zA 32).put 0 1]).bind fun y2=>((if ((y2=1∧y1.2=0)∧(y1.1.2.length:Int)=1) then((y1.1.2)[0]?).bind fun x3=>(Zbq ((zA 32).put 0 2) (zA 32)).bind fun y4=>some (decide (x3=y4)) else some (false))).bind fun z5=>some ((((decide (y2=1) && decide (y1.2=0)) && decide ((y1.1.2.length:Int)=1)) && z5))
noncomputable def ZcI (a0:Tapi_Filter):Option ((List Int)×Int) :=
 (if ((a0.1<0∨4096<a0.1)∨200000<(a0.2.length:Int)) then some ((([]:(List Int)),4)) else(Yv ([]:(List Int)) (IntKind.u64.wrap (a0.1))).bind fun y1=>(Xj y1 a0.2).bind fun y2=>some ((y2,0)))
noncomputable def Zc5 (a0:Tapi_Filter):Option ((Arr 32)) :=
 (ZcI a0).bind fun y1=>(if ¬ (y1.2=0) then some (zA 32) else(Zcy y1.1).bind fun y2=>some (y2))
def ZlV (x:(List (Arr 32))):Prop:=x.length≤maxLen∧∀ a∈x,Zle a
end
section
set_option maxRecDepth 100000
noncomputable def X7 (a0:Int):Option ((Arr 4)) :=
 some ((zA 4).put 0 a0)
end
section
set_option maxRecDepth 100000
noncomputable def ZhL (a0:(Arr 4)):Option ((Arr 4)) :=
 some (((((zA 4).put 0 (bits .xor .u64 18446744073709551615 (a0.at 0))).put 1 (bits .xor .u64 18446744073709551615 (a0.at 1))).put 2 (bits .xor .u64 18446744073709551615 (a0.at 2))).put 3 (bits .xor .u64 18446744073709551615 (a0.at 3)))
noncomputable def Lref02_Cmp_k1:Option Int :=
 some (0)
noncomputable def Zi1 (a0:(Arr 4)) (a1:(Arr 4)):Int→Option ((Int) ⊕ (Int))
 | p3=>(if 0≤p3 then(inA (4) (p3)).bind fun j5=>(if a0.at j5<a1.at j5 then some (.inr ((-1))) else(if a1.at j5<a0.at j5 then some (.inr (1)) else some (.inl (IntKind.i64.wrap (p3-1))))) else(Lref02_Cmp_k1).map Sum.inr)
noncomputable def Xn (a0:(Arr 4)) (a1:(Arr 4)):Option (Int) :=
 Ze (Zi1 a0 a1) 3
noncomputable def ZaT (a0:(Arr 4)) (a1:Int):Option (Bool) :=
 (inA (4) (IntKind.i64.wrap ((a1).tdiv 64))).bind fun j1=>(chk (¬ ((a1).tmod 64<0))).bind fun _=>some (decide (bits .and .u64 ((a0.at j1).fdiv (2 ^ (min ((a1).tmod 64).toNat 64))) 1=1))
noncomputable def Zi2 (p12:(Arr 4)):Option (Arr 4) :=
 some (p12)
noncomputable def Zdu (p11:Int) (p20:(Arr 4)):Option ((Int×(Arr 4)) ⊕ ((Arr 4))) :=
 some (.inl (IntKind.i64.wrap (p11+1),p20))
noncomputable def ZgZ (a1:Int) (a0:(Arr 4)):(Int×(Arr 4))→Option ((Int×(Arr 4)) ⊕ ((Arr 4)))
 | (p11,p12)=>(if IntKind.i64.wrap (p11+a1)<256 then(ZaT a0 (IntKind.i64.wrap (p11+a1))).bind fun y17=>(if y17=true then(inA (4) (IntKind.i64.wrap ((p11).tdiv 64))).bind fun j21=>(chk (¬ ((p11).tmod 64<0))).bind fun _=>Zdu p11 (p12.put j21 (bits .or .u64 (p12.at j21) (IntKind.u64.wrap (1 * (2 ^ (min ((p11).tmod 64).toNat 64)))))) else Zdu p11 p12) else(Zi2 p12).map Sum.inr)
noncomputable def ZaU (a0:(Arr 4)) (a1:Int):Option ((Arr 4)) :=
 (if a1≤0 then some (a0) else(if 256≤a1 then some (zA 4) else Ze (ZgZ a1 a0) (0,zA 4)))
noncomputable def Zav (a0:Int) (a1:Int) (a2:Int):Option (Int×Int) :=
 (chk ((0≤a0∧0≤a1)∧(a1≤18446744073709551615∧0≤a2)∧a2≤1)).bind fun _=>some ((a0+18446744073709551616-a1-a2) % 18446744073709551616,if a0<a1+a2 then 1 else 0)
noncomputable def Zi3 (p9:(Arr 4)) (p7:Int):Option ((Arr 4)×Bool) :=
 some ((p9,decide (p7=1)))
noncomputable def Zi4 (a0:(Arr 4)) (a1:(Arr 4)):(Int×Int×(Arr 4))→Option ((Int×Int×(Arr 4)) ⊕ ((Arr 4)×Bool))
 | (p7,p8,p9)=>(if p8<4 then(inA (4) (p8)).bind fun j12=>(Zav (a0.at j12) (a1.at j12) p7).bind fun y13=>some (.inl (y13.2,IntKind.i64.wrap (p8+1),p9.put j12 y13.1)) else(Zi3 p9 p7).map Sum.inr)
noncomputable def Zge (a0:(Arr 4)) (a1:(Arr 4)):Option ((Arr 4)×Bool) :=
 Ze (Zi4 a0 a1) (0,0,zA 4)
end
end Go.Lc
