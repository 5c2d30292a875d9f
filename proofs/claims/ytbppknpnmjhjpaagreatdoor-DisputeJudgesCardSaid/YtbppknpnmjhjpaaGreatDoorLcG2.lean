import Derived.Test.YtbppknpnmjhjpaaGreatDoorLcG1
namespace Go.Lc
open Go.RowKit
open Go.Av
set_option linter.unusedVariables false
set_option linter.unusedSimpArgs false
section
set_option maxRecDepth 100000
abbrev Tapi_Bits:=(List Int)×Int
abbrev Tapi_Filter:=Int×(List Int)
noncomputable def Zaj (a0:Int):Option (Bool) :=
 some (!(decide (a0=a0)))
noncomputable def Y4 (a0:Int) (a1:Int):Option (Bool) :=
 (Zaj a0).bind fun y1=>((if y1=true then(Zaj a1).bind fun y2=>some (!(y2)) else some (false))).bind fun z3=>some (((y1 && z3) || decide (a0<a1)))
noncomputable def Lslices_IsSorted_of__uint64_uint64_k1:Option Bool :=
 some (true)
noncomputable def ZV (a0:(List Int)):Int→Option ((Int) ⊕ (Bool))
 | p8=>(if 0<p8 then(idx (a0) (p8)).bind fun x12=>(idx (a0) (IntKind.i64.wrap (p8-1))).bind fun x13=>(Y4 x12 x13).bind fun y14=>(if y14=true then some (.inr (false)) else some (.inl (IntKind.i64.wrap (p8-1)))) else(Lslices_IsSorted_of__uint64_uint64_k1).map Sum.inr)
noncomputable def Yc (a0:(List Int)):Option (Bool) :=
 Zd (ZV a0) (IntKind.i64.wrap ((a0.length:Int)-1))
noncomputable def ZgN (a0:Tapi_Bits):Option (Bool) :=
 (if ((a0.2<0∨1600000<a0.2)∨¬ ((a0.1.length:Int)=IntKind.i64.wrap ((IntKind.i64.wrap (a0.2+7)).tdiv 8))) then some (false) else((if (a0.2).tmod 8=0 then some (false) else(idx (a0.1) (IntKind.i64.wrap ((a0.1.length:Int)-1))).bind fun x1=>(chk (¬ ((a0.2).tmod 8<0))).bind fun _=>some (decide (bits .and .u8 x1 ((255:Int).fdiv (2 ^ (min ((a0.2).tmod 8).toNat 8)))=0)))).bind fun z3=>some ((decide ((a0.2).tmod 8=0) || z3)))
noncomputable def ZgO (a0:Tapi_Bits):Option (Tapi_Bits) :=
 (chk (0≤(a0.1.length:Int)∧(a0.1.length:Int)≤140737488355328)).bind fun _=>some (((a0.1).take (min (a0.1.length) ((((a0.1.length:Int)).toNat)))++(List.replicate (((a0.1.length:Int)).toNat) 0).drop (min (a0.1.length) ((((a0.1.length:Int)).toNat))),a0.2))
noncomputable def Xz (a0:Tapi_Bits) (p6:(List Int)):Option Tapi_Bits :=
 some ((p6,IntKind.i64.wrap (a0.2+1)))
noncomputable def Y5 (a1:Bool) (a0:Tapi_Bits) (p2:(List Int)):Option Tapi_Bits :=
 (if a1=true then(inA (p2.length) (IntKind.i64.wrap ((a0.2).tdiv 8))).bind fun j7=>((p2)[j7]?).bind fun x8=>(chk (¬ ((a0.2).tmod 8<0))).bind fun _=>Xz a0 ((p2).set j7 (bits .or .u8 x8 ((128:Int).fdiv (2 ^ (min ((a0.2).tmod 8).toNat 8))))) else Xz a0 p2)
noncomputable def X6 (a0:Tapi_Bits) (a1:Bool):Option (Tapi_Bits) :=
 (if (a0.2).tmod 8=0 then(chk (a0.1.length+1≤140737488355328)).bind fun _=>Y5 a1 a0 (a0.1++[0]) else Y5 a1 a0 a0.1)
noncomputable def ZaF (a2:Int) (a1:Int):(Int×Int×(List Int))→Option ((Int×Int×(List Int)) ⊕ (Tapi_Bits))
 | (p8,p9,p10)=>(if p8<a2 then(chk (¬ (IntKind.i64.wrap ((IntKind.i64.wrap (a2-1))-p8)<0))).bind fun _=>(X6 (p10,p9) (decide (bits .and .u64 ((a1).fdiv (2 ^ (min (IntKind.i64.wrap ((IntKind.i64.wrap (a2-1))-p8)).toNat 64))) 1=1))).bind fun y12=>some (.inl (IntKind.i64.wrap (p8+1),y12.2,y12.1)) else some (.inr ((p10,p9))))
noncomputable def ZaA (a0:Tapi_Bits) (a1:Int) (a2:Int):Option (Tapi_Bits) :=
 Zd (ZaF a2 a1) (0,a0.2,a0.1)
noncomputable def Zeg (p11:(List Int)) (p10:Int) (a1:Int) (a2:Int):Option (Tapi_Bits×Int) :=
 (X6 (p11,p10) false).bind fun y13=>(ZaA (y13.1,y13.2) a1 a2).bind fun y14=>some (((y14.1,y14.2),0))
noncomputable def ZbO (a1:Int) (a2:Int):(Int×Int×(List Int))→Option ((Int×Int×(List Int)) ⊕ (Tapi_Bits×Int))
 | (p9,p10,p11)=>(if p9<(a1).fdiv (2 ^ (min (a2).toNat 64)) then(X6 (p11,p10) true).bind fun y15=>some (.inl (IntKind.u64.wrap (p9+1),y15.2,y15.1)) else(Zeg p11 p10 a1 a2).map Sum.inr)
noncomputable def ZaS (a0:Tapi_Bits) (a1:Int) (a2:Int):Option (Tapi_Bits×Int) :=
 (ZgN a0).bind fun y1=>(if ¬ (y1=true) then some (((([]:(List Int)),0),6)) else(if (a2<0∨32<a2) then some (((([]:(List Int)),0),5)) else(chk (¬ (a2<0))).bind fun _=>(if (65536<(a1).fdiv (2 ^ (min (a2).toNat 64))∨1600000<IntKind.i64.wrap ((IntKind.i64.wrap ((IntKind.i64.wrap (a0.2+(IntKind.i64.wrap ((a1).fdiv (2 ^ (min (a2).toNat 64))))))+1))+a2)) then some (((([]:(List Int)),0),4)) else(ZgO a0).bind fun y3=>Zd (ZbO a1 a2) (0,y3.2,y3.1))))
noncomputable def Zfh (a0:(List Int)) (p12:(List Int)):Option (Tapi_Filter×Int) :=
 some ((((a0.length:Int),p12),0))
noncomputable def Zfi (a0:(List Int)) (a1:Int):(Int×Int×(List Int)×Int)→Option ((Int×Int×(List Int)×Int) ⊕ (Tapi_Filter×Int))
 | (p10,p11,p12,p13)=>(if p11<(a0.length:Int) then(idx (a0) (p11)).bind fun x16=>(ZaS (p12,p13) (IntKind.u64.wrap (x16-p10)) a1).bind fun y17=>(if ¬ (y17.2=0) then some (.inr (((0,([]:(List Int))),y17.2))) else some (.inl (x16,IntKind.i64.wrap (p11+1),y17.1.1,y17.1.2))) else(Zfh a0 p12).map Sum.inr)
noncomputable def Zb2 (a0:(List Int)) (a1:Int):Option (Tapi_Filter×Int) :=
 (if 4096<(a0.length:Int) then some (((0,([]:(List Int))),4)) else(if (a1<0∨32<a1) then some (((0,([]:(List Int))),5)) else(Yc a0).bind fun y1=>(if ¬ (y1=true) then some (((0,([]:(List Int))),6)) else Zd (Zfi a0 a1) (0,0,([]:(List Int)),0))))
noncomputable def Xk (a0:Int) (a1:Int):Option (Int×Int) :=
 some ((IntKind.u64.wrap ((IntKind.u64.wrap ((IntKind.u64.wrap (((a0).fdiv 4294967296) * ((a1).fdiv 4294967296)))+((IntKind.u64.wrap ((IntKind.u64.wrap (((a0).fdiv 4294967296) * (bits .and .u64 a1 4294967295)))+((IntKind.u64.wrap ((bits .and .u64 a0 4294967295) * (bits .and .u64 a1 4294967295))).fdiv 4294967296))).fdiv 4294967296)))+((IntKind.u64.wrap ((bits .and .u64 (IntKind.u64.wrap ((IntKind.u64.wrap (((a0).fdiv 4294967296) * (bits .and .u64 a1 4294967295)))+((IntKind.u64.wrap ((bits .and .u64 a0 4294967295) * (bits .and .u64 a1 4294967295))).fdiv 4294967296))) 4294967295)+(IntKind.u64.wrap ((bits .and .u64 a0 4294967295) * ((a1).fdiv 4294967296))))).fdiv 4294967296)),IntKind.u64.wrap (a0 * a1)))
noncomputable def ZjF (a0:Int) (a1:Int):Option (Int) :=
 (Xk a0 a1).bind fun y1=>some (y1.1)
noncomputable def Zx (a0:Int) (a1:Int):Option (Int) :=
 (chk (¬ (bits .and .u64 (IntKind.u64.wrap (a1)) 63<0))).bind fun _=>(chk (¬ (IntKind.u64.wrap (64-(bits .and .u64 (IntKind.u64.wrap (a1)) 63))<0))).bind fun _=>some (bits .or .u64 (IntKind.u64.wrap (a0 * (2 ^ (min (bits .and .u64 (IntKind.u64.wrap (a1)) 63).toNat 64)))) ((a0).fdiv (2 ^ (min (IntKind.u64.wrap (64-(bits .and .u64 (IntKind.u64.wrap (a1)) 63))).toNat 64))))
noncomputable def Zh1 (p20:(Arr 4)):Option (Arr 4) :=
 some (p20)
noncomputable def Zfr (a1:Int):(Int×(Arr 4))→Option ((Int×(Arr 4)) ⊕ ((Arr 4)))
 | (p19,p20)=>(if p19<a1 then(Zx ((p20.put 0 (IntKind.u64.wrap ((p20.at 0)+(p20.at 1)))).at 1) 13).bind fun y29=>(Zx ((((p20.put 0 (IntKind.u64.wrap ((p20.at 0)+(p20.at 1)))).put 1 y29).put 1 (bits .xor .u64 (((p20.put 0 (IntKind.u64.wrap ((p20.at 0)+(p20.at 1)))).put 1 y29).at 1) (((p20.put 0 (IntKind.u64.wrap ((p20.at 0)+(p20.at 1)))).put 1 y29).at 0))).at 0) 32).bind fun y30=>(some (((((p20.put 0 (IntKind.u64.wrap ((p20.at 0)+(p20.at 1)))).put 1 y29).put 1 (bits .xor .u64 (((p20.put 0 (IntKind.u64.wrap ((p20.at 0)+(p20.at 1)))).put 1 y29).at 1) (((p20.put 0 (IntKind.u64.wrap ((p20.at 0)+(p20.at 1)))).put 1 y29).at 0))).put 0 y30).put 2 (IntKind.u64.wrap ((((((p20.put 0 (IntKind.u64.wrap ((p20.at 0)+(p20.at 1)))).put 1 y29).put 1 (bits .xor .u64 (((p20.put 0 (IntKind.u64.wrap ((p20.at 0)+(p20.at 1)))).put 1 y29).at 1) (((p20.put 0 (IntKind.u64.wrap ((p20.at 0)+(p20.at 1)))).put 1 y29).at 0))).put 0 y30).at 2)+(((((p20.put 0 (IntKind.u64.wrap ((p20.at 0)+(p20.at 1)))).put 1 y29).put 1 (bits .xor .u64 (((p20.put 0 (IntKind.u64.wrap ((p20.at 0)+(p20.at 1)))).put 1 y29).at 1) (((p20.put 0 (IntKind.u64.wrap ((p20.at 0)+(p20.at 1)))).put 1 y29).at 0))).put 0 y30).at 3))))).bind fun x31=>(Zx (x31.at 3) 16).bind fun y32=>(Zx ((((x31.put 3 y32).put 3 (bits .xor .u64 ((x31.put 3 y32).at 3) ((x31.put 3 y32).at 2))).put 0 (IntKind.u64.wrap ((((x31.put 3 y32).put 3 (bits .xor .u64 ((x31.put 3 y32).at 3) ((x31.put 3 y32).at 2))).at 0)+(((x31.put 3 y32).put 3 (bits .xor .u64 ((x31.put 3 y32).at 3) ((x31.put 3 y32).at 2))).at 3)))).at 3) 21).bind fun y33=>(some (((((x31.put 3 y32).put 3 (bits .xor .u64 ((x31.put 3 y32).at 3) ((x31.put 3 y32).at 2))).put 0 (IntKind.u64.wrap ((((x31.put 3 y32).put 3 (bits .xor .u64 ((x31.put 3 y32).at 3) ((x31.put 3 y32).at 2))).at 0)+(((x31.put 3 y32).put 3 (bits .xor .u64 ((x31.put 3 y32).at 3) ((x31.put 3 y32).at 2))).at 3)))).put 3 y33).put 3 (bits .xor .u64 (((((x31.put 3 y32).put 3 (bits .xor .u64 ((x31.put 3 y32).at 3) ((x31.put 3 y32).at 2))).put 0 (IntKind.u64.wrap ((((x31.put 3 y32).put 3 (bits .xor .u64 ((x31.put 3 y32).at 3) ((x31.put 3 y32).at 2))).at 0)+(((x31.put 3 y32).put 3 (bits .xor .u64 ((x31.put 3 y32).at 3) ((x31.put 3 y32).at 2))).at 3)))).put 3 y33).at 3) (((((x31.put 3 y32).put 3 (bits .xor .u64 ((x31.put 3 y32).at 3) ((x31.put 3 y32).at 2))).put 0 (IntKind.u64.wrap ((((x31.put 3 y32).put 3 (bits .xor .u64 ((x31.put 3 y32).at 3) ((x31.put 3 y32).at 2))).at 0)+(((x31.put 3 y32).put 3 (bits .xor .u64 ((x31.put 3 y32).at 3) ((x31.put 3 y32).at 2))).at 3)))).put 3 y33).at 0)))).bind fun x34=>(Zx ((x34.put 2 (IntKind.u64.wrap ((x34.at 2)+(x34.at 1)))).at 1) 17).bind fun y35=>(Zx ((((x34.put 2 (IntKind.u64.wrap ((x34.at 2)+(x34.at 1)))).put 1 y35).put 1 (bits .xor .u64 (((x34.put 2 (IntKind.u64.wrap ((x34.at 2)+(x34.at 1)))).put 1 y35).at 1) (((x34.put 2 (IntKind.u64.wrap ((x34.at 2)+(x34.at 1)))).put 1 y35).at 2))).at 2) 32).bind fun y36=>some (.inl (IntKind.i64.wrap (p19+1),(((x34.put 2 (IntKind.u64.wrap ((x34.at 2)+(x34.at 1)))).put 1 y35).put 1 (bits .xor .u64 (((x34.put 2 (IntKind.u64.wrap ((x34.at 2)+(x34.at 1)))).put 1 y35).at 1) (((x34.put 2 (IntKind.u64.wrap ((x34.at 2)+(x34.at 1)))).put 1 y35).at 2))).put 2 y36)) else(Zh1 p20).map Sum.inr)
noncomputable def ZgP (a0:(Arr 4)) (a1:Int):Option ((Arr 4)) :=
 Zd (Zfr a1) (0,a0)
noncomputable def Ze7 (a0:(Arr 4)) (a1:Int):Option ((Arr 4)) :=
 (ZgP (a0.put 3 (bits .xor .u64 (a0.at 3) a1)) 2).bind fun y1=>some (y1.put 0 (bits .xor .u64 (y1.at 0) a1))
noncomputable def ZjG (p7:Int):Option Int :=
 some (p7)
noncomputable def Zhs (a0:(List Int)):(Int×Int)→Option ((Int×Int) ⊕ (Int))
 | (p7,p8)=>(if p8<(a0.length:Int) then(idx (a0) (p8)).bind fun x11=>(chk (¬ (IntKind.i64.wrap (8 * p8)<0))).bind fun _=>some (.inl (bits .or .u64 p7 (IntKind.u64.wrap ((IntKind.u64.wrap (x11)) * (2 ^ (min (IntKind.i64.wrap (8 * p8)).toNat 64)))),IntKind.i64.wrap (p8+1))) else(ZjG p7).map Sum.inr)
noncomputable def ZbK (a0:(List Int)):Option (Int) :=
 Zd (Zhs a0) (0,0)
noncomputable def ZkK (a1:(List Int)) (p10:(Arr 4)):Option Int :=
 (chk (0≤IntKind.i64.wrap (8 * (IntKind.i64.wrap (((a1.length:Int)).tdiv 8)))∧IntKind.i64.wrap (8 * (IntKind.i64.wrap (((a1.length:Int)).tdiv 8)))≤(a1.length:Int))).bind fun _=>(ZbK ((a1).drop ((IntKind.i64.wrap (8 * (IntKind.i64.wrap (((a1.length:Int)).tdiv 8)))).toNat))).bind fun y15=>(Ze7 p10 (bits .or .u64 y15 (IntKind.u64.wrap ((IntKind.u64.wrap (((a1.length:Int)).tmod 256)) * 72057594037927936)))).bind fun y16=>(ZgP (y16.put 2 (bits .xor .u64 (y16.at 2) 255)) 4).bind fun y17=>some (bits .xor .u64 (bits .xor .u64 (bits .xor .u64 (y17.at 0) (y17.at 1)) (y17.at 2)) (y17.at 3))
noncomputable def ZiK (a1:(List Int)):(Int×(Arr 4))→Option ((Int×(Arr 4)) ⊕ (Int))
 | (p9,p10)=>(if p9<IntKind.i64.wrap (((a1.length:Int)).tdiv 8) then(chk (0≤IntKind.i64.wrap (8 * p9)∧IntKind.i64.wrap (8 * p9)≤IntKind.i64.wrap ((IntKind.i64.wrap (8 * p9))+8)∧IntKind.i64.wrap ((IntKind.i64.wrap (8 * p9))+8)≤(a1.length:Int))).bind fun _=>(ZbK (((a1).take ((IntKind.i64.wrap ((IntKind.i64.wrap (8 * p9))+8)).toNat)).drop ((IntKind.i64.wrap (8 * p9)).toNat))).bind fun y19=>(Ze7 p10 y19).bind fun y20=>some (.inl (IntKind.i64.wrap (p9+1),y20)) else(ZkK a1 p10).map Sum.inr)
noncomputable def Zkb (a0:(Arr 2)) (a1:(List Int)):Option (Int) :=
 Zd (ZiK a1) (0,((((zA 4).put 0 (bits .xor .u64 (a0.at 0) 8317987319222330741)).put 1 (bits .xor .u64 (a0.at 1) 7237128888997146477)).put 2 (bits .xor .u64 (a0.at 0) 7816392313619706465)).put 3 (bits .xor .u64 (a0.at 1) 8387220255154660723))
noncomputable def Zl9 (a0:Int):Option Int :=
 (chk (0≤a0∧a0≤4294967295)).bind fun _=>some (Lib.bitLen a0.toNat:Int)
noncomputable def Yx (a0:Int):Option Int :=
 (chk (0≤a0∧a0≤18446744073709551615)).bind fun _=>some (Lib.bitLen a0.toNat:Int)
noncomputable def ZdA (a0:Int):Option (Int) :=
 (Yx a0).bind fun y1=>some (y1)
noncomputable def ZW (p77:Int) (p104:(List Int)):Option ((Int×(List Int)) ⊕ ((List Int))) :=
 some (.inl (IntKind.i64.wrap (p77+1),p104))
noncomputable def ZN (a1:Int) (p77:Int):(Int×(List Int))→Option ((Int×(List Int)) ⊕ ((Int×(List Int)) ⊕ ((List Int))))
 | (p103,p104)=>((if a1<p103 then(inA (p104.length) (p103)).bind fun j116=>((p104)[j116]?).bind fun x117=>(inA (p104.length) (IntKind.i64.wrap (p103-1))).bind fun j118=>((p104)[j118]?).bind fun x119=>(Y4 x117 x119).bind fun y120=>some (y120) else some (false))).bind fun z121=>(if (a1<p103∧z121=true) then(inA (p104.length) (IntKind.i64.wrap (p103-1))).bind fun j122=>((p104)[j122]?).bind fun x123=>(inA (p104.length) (p103)).bind fun j124=>((p104)[j124]?).bind fun x125=>(inA (((p104).set j124 x123).length) (IntKind.i64.wrap (p103-1))).bind fun j126=>some (.inl (IntKind.i64.wrap (p103-1),((p104).set j124 x123).set j126 x125)) else(ZW p77 p104).map Sum.inr)
noncomputable def Z7 (a2:Int) (a1:Int) (a0:(List Int)):(Int×(List Int))→Option ((Int×(List Int)) ⊕ ((List Int)))
 | (p77,p78)=>(if p77<a2 then Zd (ZN a1 p77) (p77,p78) else(chk (p78.length=a0.length)).bind fun _=>some (.inr (p78)))
noncomputable def Zw (a0:(List Int)) (a1:Int) (a2:Int):Option ((List Int)) :=
 Zd (Z7 a2 a1 a0) (IntKind.i64.wrap (a1+1),a0)
noncomputable def Zh2 (a0:Tapi_Bits) (a1:Int):Option (Bool) :=
 (idx (a0.1) (IntKind.i64.wrap ((a1).tdiv 8))).bind fun x1=>(chk (¬ (IntKind.i64.wrap (7-((a1).tmod 8))<0))).bind fun _=>some (decide (bits .and .u8 ((x1).fdiv (2 ^ (min (IntKind.i64.wrap (7-((a1).tmod 8))).toNat 8))) 1=1))
noncomputable def Lref18_Valid_k1:Option Bool :=
 some (true)
noncomputable def ZeJ (a0:Tapi_Bits):Int→Option ((Int) ⊕ (Bool))
 | p4=>(if p4<IntKind.i64.wrap (8 * (a0.1.length:Int)) then(Zh2 a0 p4).bind fun y6=>(if y6=true then some (.inr (false)) else some (.inl (IntKind.i64.wrap (p4+1)))) else(Lref18_Valid_k1).map Sum.inr)
noncomputable def Zfs (a0:Tapi_Bits):Option (Bool) :=
 (if ((a0.2<0∨1600000<a0.2)∨¬ ((a0.1.length:Int)=IntKind.i64.wrap ((IntKind.i64.wrap (a0.2+7)).tdiv 8))) then some (false) else Zd (ZeJ a0) a0.2)
noncomputable def Zh3 (p8:(List Int)):Option (List Int) :=
 some (p8)
noncomputable def Zak (a0:(List (List Int))):(Int×(List Int))→Option ((Int×(List Int)) ⊕ ((List Int)))
 | (p7,p8)=>(if p7<(a0.length:Int) then(idx (a0) (p7)).bind fun x11=>(Yf p8 x11).bind fun y12=>some (.inl (IntKind.i64.wrap (p7+1),y12)) else(Zh3 p8).map Sum.inr)
noncomputable def Y0 (a0:(List (List Int))):Option ((List Int)) :=
 Zd (Zak a0) (0,([]:(List Int)))
noncomputable def Zc3 (a0:Tapi_Bits) (p6:(List Int)):Option Tapi_Bits :=
 some ((p6,IntKind.i64.wrap (a0.2+1)))
noncomputable def ZbL (a1:Bool) (a0:Tapi_Bits) (p2:(List Int)):Option Tapi_Bits :=
 (if a1=true then(inA (p2.length) (IntKind.i64.wrap ((a0.2).tdiv 8))).bind fun j7=>((p2)[j7]?).bind fun x8=>(chk (¬ (IntKind.i64.wrap (7-((a0.2).tmod 8))<0))).bind fun _=>Zc3 a0 ((p2).set j7 (bits .or .u8 x8 (IntKind.u8.wrap (1 * (2 ^ (min (IntKind.i64.wrap (7-((a0.2).tmod 8))).toNat 8)))))) else Zc3 a0 p2)
noncomputable def ZeK (a0:Tapi_Bits) (a1:Bool):Option (Tapi_Bits) :=
 (if (a0.2).tmod 8=0 then(chk (a0.1.length+1≤140737488355328)).bind fun _=>ZbL a1 a0 (a0.1++[0]) else ZbL a1 a0 a0.1)
noncomputable def Zbi (p26:(List Int)) (p25:Int):Option (Tapi_Bits×Int) :=
 some (((p26,p25),0))
noncomputable def Zal (a1:Int):(Int×Int×(List Int))→Option ((Int×Int×(List Int)) ⊕ (Tapi_Bits×Int))
 | (p24,p25,p26)=>(if 0≤p24 then(chk (¬ (p24<0))).bind fun _=>(ZeK (p26,p25) (decide (bits .and .u64 ((a1).fdiv (2 ^ (min (p24).toNat 64))) 1=1))).bind fun y30=>some (.inl (IntKind.i64.wrap (p24-1),y30.2,y30.1)) else(Zbi p26 p25).map Sum.inr)
noncomputable def Zbj (p14:(List Int)) (p13:Int) (a1:Int) (a2:Int):Option (Tapi_Bits×Int) :=
 (ZeK (p14,p13) false).bind fun y16=>Zd (Zal a1) (IntKind.i64.wrap (a2-1),y16.2,y16.1)
noncomputable def Zbk (a1:Int) (a2:Int):(Int×Int×(List Int))→Option ((Int×Int×(List Int)) ⊕ (Tapi_Bits×Int))
 | (p12,p13,p14)=>(if 0<p12 then(ZeK (p14,p13) true).bind fun y31=>some (.inl (IntKind.u64.wrap (p12-1),y31.2,y31.1)) else(Zbj p14 p13 a1 a2).map Sum.inr)
noncomputable def Zaq (a0:Tapi_Bits) (a1:Int) (a2:Int):Option (Tapi_Bits×Int) :=
 (Zfs a0).bind fun y1=>(if ¬ (y1=true) then some (((([]:(List Int)),0),6)) else(if (a2<0∨32<a2) then some (((([]:(List Int)),0),5)) else(chk (¬ (a2<0))).bind fun _=>((if 65536<(a1).fdiv (2 ^ (min (a2).toNat 64)) then some (false) else(chk (¬ (a2<0))).bind fun _=>some (decide (1600000<IntKind.i64.wrap ((IntKind.i64.wrap ((IntKind.i64.wrap (a0.2+(IntKind.i64.wrap ((a1).fdiv (2 ^ (min (a2).toNat 64))))))+1))+a2))))).bind fun z4=>(if (65536<(a1).fdiv (2 ^ (min (a2).toNat 64))∨z4=true) then some (((([]:(List Int)),0),4)) else(Y0 [a0.1]).bind fun y5=>(chk (¬ (a2<0))).bind fun _=>Zd (Zbk a1 a2) ((a1).fdiv (2 ^ (min (a2).toNat 64)),a0.2,y5))))
noncomputable def ZdW (a0:(List Int)) (p19:(List Int)):Option (Tapi_Filter×Int) :=
 some ((((a0.length:Int),p19),0))
noncomputable def Zf4 (a0:(List Int)) (a1:Int):(Int×Int×(List Int)×Int)→Option ((Int×Int×(List Int)×Int) ⊕ (Tapi_Filter×Int))
 | (p17,p18,p19,p20)=>(if p18<(a0.length:Int) then(idx (a0) (p18)).bind fun x23=>(Zaq (p19,p20) (IntKind.u64.wrap (x23-p17)) a1).bind fun y24=>(if ¬ (y24.2=0) then some (.inr (((0,([]:(List Int))),y24.2))) else some (.inl (x23,IntKind.i64.wrap (p18+1),y24.1.1,y24.1.2))) else(ZdW a0 p19).map Sum.inr)
noncomputable def ZdX (a0:(List Int)) (a1:Int):Option (Tapi_Filter×Int) :=
 Zd (Zf4 a0 a1) (0,0,([]:(List Int)),0)
noncomputable def Zb3 (a0:(List Int)) (a1:Int):Int→Option ((Int) ⊕ (Tapi_Filter×Int))
 | p6=>(if p6<(a0.length:Int) then(idx (a0) (IntKind.i64.wrap (p6-1))).bind fun x25=>(idx (a0) (p6)).bind fun x26=>(if x26<x25 then some (.inr (((0,([]:(List Int))),6))) else some (.inl (IntKind.i64.wrap (p6+1)))) else(ZdX a0 a1).map Sum.inr)
noncomputable def Zc4 (a0:(List Int)) (a1:Int):Option (Tapi_Filter×Int) :=
 (if 4096<(a0.length:Int) then some (((0,([]:(List Int))),4)) else(if (a1<0∨32<a1) then some (((0,([]:(List Int))),5)) else Zd (Zb3 a0 a1) 1))
noncomputable def ZgQ (a0:(List Int)) (a1:(List Int)):Option (Bool) :=
 some (decide (ZhY a0=ZhY a1))
noncomputable def Zg4 (p35:(List (List Int))):Option (List (List Int)) :=
 some (p35)
noncomputable def ZaB (p34:Int) (p67:(List (List Int))):Option ((Int×(List (List Int))) ⊕ ((List (List Int)))) :=
 some (.inl (IntKind.i64.wrap (p34+1),p67))
noncomputable def Zg5 (p61:Bool) (p35:(List (List Int))) (p34:Int) (x52:(List Int)):Option ((Int×(List (List Int))) ⊕ ((List (List Int)))) :=
 (if ¬ (p61=true) then(chk (p35.length+1≤5864062014805)).bind fun _=>ZaB p34 (p35++[x52]) else ZaB p34 p35)
noncomputable def ZbP (a0:(List (List Int))) (p34:Int) (x52:(List Int)) (p35:(List (List Int))):(Bool×Int)→Option ((Bool×Int) ⊕ ((Int×(List (List Int))) ⊕ ((List (List Int)))))
 | (p61,p62)=>(if p62<(((a0).take ((p34).toNat)).length:Int) then(idx ((a0).take ((p34).toNat)) (p62)).bind fun x69=>((if p61=true then some (false) else(ZgQ x52 x69).bind fun y70=>some (y70))).bind fun z71=>some (.inl ((p61 || z71),IntKind.i64.wrap (p62+1))) else(Zg5 p61 p35 p34 x52).map Sum.inr)
noncomputable def ZbQ (a0:(List (List Int))):(Int×(List (List Int)))→Option ((Int×(List (List Int))) ⊕ ((List (List Int))))
 | (p34,p35)=>(if p34<(a0.length:Int) then(idx (a0) (p34)).bind fun x52=>(chk (p34≤(a0.length:Int)∧0≤p34)).bind fun _=>Zd (ZbP a0 p34 x52 p35) (false,0) else(Zg4 p35).map Sum.inr)
noncomputable def Xl (a0:(List (List Int))):Option ((List (List Int))) :=
 Zd (ZbQ a0) (0,[])
noncomputable def Zht (a0:Int) (a1:Int):Option (Int) :=
 (Xk a0 a1).bind fun y1=>some (y1.1)
noncomputable def X7 (a0:(Arr 4)):Option ((Arr 4)) :=
 (Zx ((a0.put 0 (IntKind.u64.wrap ((a0.at 0)+(a0.at 1)))).at 1) 13).bind fun y1=>(Zx (((a0.put 0 (IntKind.u64.wrap ((a0.at 0)+(a0.at 1)))).put 1 (bits .xor .u64 y1 ((a0.put 0 (IntKind.u64.wrap ((a0.at 0)+(a0.at 1)))).at 0))).at 0) 32).bind fun y2=>(Zx (((((a0.put 0 (IntKind.u64.wrap ((a0.at 0)+(a0.at 1)))).put 1 (bits .xor .u64 y1 ((a0.put 0 (IntKind.u64.wrap ((a0.at 0)+(a0.at 1)))).at 0))).put 0 y2).put 2 (IntKind.u64.wrap (((((a0.put 0 (IntKind.u64.wrap ((a0.at 0)+(a0.at 1)))).put 1 (bits .xor .u64 y1 ((a0.put 0 (IntKind.u64.wrap ((a0.at 0)+(a0.at 1)))).at 0))).put 0 y2).at 2)+((((a0.put 0 (IntKind.u64.wrap ((a0.at 0)+(a0.at 1)))).put 1 (bits .xor .u64 y1 ((a0.put 0 (IntKind.u64.wrap ((a0.at 0)+(a0.at 1)))).at 0))).put 0 y2).at 3)))).at 3) 16).bind fun y3=>(some (((((a0.put 0 (IntKind.u64.wrap ((a0.at 0)+(a0.at 1)))).put 1 (bits .xor .u64 y1 ((a0.put 0 (IntKind.u64.wrap ((a0.at 0)+(a0.at 1)))).at 0))).put 0 y2).put 2 (IntKind.u64.wrap (((((a0.put 0 (IntKind.u64.wrap ((a0.at 0)+(a0.at 1)))).put 1 (bits .xor .u64 y1 ((a0.put 0 (IntKind.u64.wrap ((a0.at 0)+(a0.at 1)))).at 0))).put 0 y2).at 2)+((((a0.put 0 (IntKind.u64.wrap ((a0.at 0)+(a0.at 1)))).put 1 (bits .xor .u64 y1 ((a0.put 0 (IntKind.u64.wrap ((a0.at 0)+(a0.at 1)))).at 0))).put 0 y2).at 3)))).put 3 (bits .xor .u64 y3 (((((a0.put 0 (IntKind.u64.wrap ((a0.at 0)+(a0.at 1)))).put 1 (bits .xor .u64 y1 ((a0.put 0 (IntKind.u64.wrap ((a0.at 0)+(a0.at 1)))).at 0))).put 0 y2).put 2 (IntKind.u64.wrap (((((a0.put 0 (IntKind.u64.wrap ((a0.at 0)+(a0.at 1)))).put 1 (bits .xor .u64 y1 ((a0.put 0 (IntKind.u64.wrap ((a0.at 0)+(a0.at 1)))).at 0))).put 0 y2).at 2)+((((a0.put 0 (IntKind.u64.wrap ((a0.at 0)+(a0.at 1)))).put 1 (bits .xor .u64 y1 ((a0.put 0 (IntKind.u64.wrap ((a0.at 0)+(a0.at 1)))).at 0))).put 0 y2).at 3)))).at 2)))).bind fun x4=>(Zx ((x4.put 0 (IntKind.u64.wrap ((x4.at 0)+(x4.at 3)))).at 3) 21).bind fun y5=>(Zx ((((x4.put 0 (IntKind.u64.wrap ((x4.at 0)+(x4.at 3)))).put 3 (bits .xor .u64 y5 ((x4.put 0 (IntKind.u64.wrap ((x4.at 0)+(x4.at 3)))).at 0))).put 2 (IntKind.u64.wrap ((((x4.put 0 (IntKind.u64.wrap ((x4.at 0)+(x4.at 3)))).put 3 (bits .xor .u64 y5 ((x4.put 0 (IntKind.u64.wrap ((x4.at 0)+(x4.at 3)))).at 0))).at 2)+(((x4.put 0 (IntKind.u64.wrap ((x4.at 0)+(x4.at 3)))).put 3 (bits .xor .u64 y5 ((x4.put 0 (IntKind.u64.wrap ((x4.at 0)+(x4.at 3)))).at 0))).at 1)))).at 1) 17).bind fun y6=>(some ((((x4.put 0 (IntKind.u64.wrap ((x4.at 0)+(x4.at 3)))).put 3 (bits .xor .u64 y5 ((x4.put 0 (IntKind.u64.wrap ((x4.at 0)+(x4.at 3)))).at 0))).put 2 (IntKind.u64.wrap ((((x4.put 0 (IntKind.u64.wrap ((x4.at 0)+(x4.at 3)))).put 3 (bits .xor .u64 y5 ((x4.put 0 (IntKind.u64.wrap ((x4.at 0)+(x4.at 3)))).at 0))).at 2)+(((x4.put 0 (IntKind.u64.wrap ((x4.at 0)+(x4.at 3)))).put 3 (bits .xor .u64 y5 ((x4.put 0 (IntKind.u64.wrap ((x4.at 0)+(x4.at 3)))).at 0))).at 1)))).put 1 (bits .xor .u64 y6 ((((x4.put 0 (IntKind.u64.wrap ((x4.at 0)+(x4.at 3)))).put 3 (bits .xor .u64 y5 ((x4.put 0 (IntKind.u64.wrap ((x4.at 0)+(x4.at 3)))).at 0))).put 2 (IntKind.u64.wrap ((((x4.put 0 (IntKind.u64.wrap ((x4.at 0)+(x4.at 3)))).put 3 (bits .xor .u64 y5 ((x4.put 0 (IntKind.u64.wrap ((x4.at 0)+(x4.at 3)))).at 0))).at 2)+(((x4.put 0 (IntKind.u64.wrap ((x4.at 0)+(x4.at 3)))).put 3 (bits .xor .u64 y5 ((x4.put 0 (IntKind.u64.wrap ((x4.at 0)+(x4.at 3)))).at 0))).at 1)))).at 2)))).bind fun x7=>(Zx (x7.at 2) 32).bind fun y8=>some (x7.put 2 y8)
noncomputable def Zc5 (a0:(Arr 4)) (a1:Int):Option ((Arr 4)) :=
 (X7 (a0.put 3 (bits .xor .u64 (a0.at 3) a1))).bind fun y1=>(X7 y1).bind fun y2=>some (y2.put 0 (bits .xor .u64 (y2.at 0) a1))
noncomputable def Zkc (p7:Int):Option Int :=
 some (p7)
noncomputable def ZmX (a0:(List Int)):(Int×Int)→Option ((Int×Int) ⊕ (Int))
 | (p7,p8)=>(if p8<(a0.length:Int) then(idx (a0) (p8)).bind fun x11=>(chk (¬ (IntKind.i64.wrap (8 * p8)<0))).bind fun _=>some (.inl (bits .or .u64 p7 (IntKind.u64.wrap ((IntKind.u64.wrap (x11)) * (2 ^ (min (IntKind.i64.wrap (8 * p8)).toNat 64)))),IntKind.i64.wrap (p8+1))) else(Zkc p7).map Sum.inr)
noncomputable def Zdr (a0:(List Int)):Option (Int) :=
 Zd (ZmX a0) (0,0)
noncomputable def ZiZ (p11:(List Int)) (p12:(Arr 4)) (a1:(List Int)):Option Int :=
 (Zdr p11).bind fun y17=>(Zc5 p12 (bits .or .u64 y17 (IntKind.u64.wrap ((IntKind.u64.wrap (((a1.length:Int)).tmod 256)) * 72057594037927936)))).bind fun y18=>(X7 (y18.put 2 (bits .xor .u64 (y18.at 2) 255))).bind fun y19=>(X7 y19).bind fun y20=>(X7 y20).bind fun y21=>(X7 y21).bind fun y22=>some (bits .xor .u64 (bits .xor .u64 (bits .xor .u64 (y22.at 0) (y22.at 1)) (y22.at 2)) (y22.at 3))
noncomputable def Zgv (a1:(List Int)):((List Int)×(Arr 4))→Option (((List Int)×(Arr 4)) ⊕ (Int))
 | (p11,p12)=>(if 8≤(p11.length:Int) then(chk (8≤(p11.length:Int))).bind fun _=>(Zdr ((p11).take 8)).bind fun y24=>(Zc5 p12 y24).bind fun y25=>(chk (8≤(p11.length:Int))).bind fun _=>some (.inl ((p11).drop 8,y25)) else(ZiZ p11 p12 a1).map Sum.inr)
noncomputable def ZjH (a0:(Arr 2)) (a1:(List Int)):Option (Int) :=
 Zd (Zgv a1) (a1,((((zA 4).put 0 (bits .xor .u64 (a0.at 0) 8317987319222330741)).put 1 (bits .xor .u64 (a0.at 1) 7237128888997146477)).put 2 (bits .xor .u64 (a0.at 0) 7816392313619706465)).put 3 (bits .xor .u64 (a0.at 1) 8387220255154660723))
noncomputable def Zft (a0:(Arr 2)) (a1:(List Int)) (a2:Int) (a3:Int):Option (Int) :=
 (ZjH a0 a1).bind fun y1=>(Zht y1 (IntKind.u64.wrap ((IntKind.u64.wrap (a2)) * a3))).bind fun y2=>some (y2)
noncomputable def ZaT (p29:(List Int)) (p27:(List Int)) (p28:(List Int)):Option (List Int) :=
 (chk (p29.length+p27.length≤17592186044416)).bind fun _=>(chk (p29.length+p27.length+p28.length≤17592186044416)).bind fun _=>some (p29++p27++p28)
noncomputable def Lref19_sorted_s1:((List Int)×(List Int)×(List Int))→Option (((List Int)×(List Int)×(List Int)) ⊕ ((List Int)))
 | (p27,p28,p29)=>(if (0<(p27.length:Int)∧0<(p28.length:Int)) then((p27)[0]?).bind fun x38=>((p28)[0]?).bind fun x39=>(if x38≤x39 then(chk (p29.length+1≤17592186044416)).bind fun _=>(chk (1≤(p27.length:Int))).bind fun _=>some (.inl ((p27).drop 1,p28,p29++[x38])) else(chk (p29.length+1≤17592186044416)).bind fun _=>(chk (1≤(p28.length:Int))).bind fun _=>some (.inl (p27,(p28).drop 1,p29++[x39]))) else(ZaT p29 p27 p28).map Sum.inr)
noncomputable def ZeL (rf:(List Int)→Option ((List Int))) (a0:(List Int)):Option ((List Int)) :=
 (if (a0.length:Int)<2 then some (a0) else(chk (IntKind.i64.wrap (((a0.length:Int)).tdiv 2)≤(a0.length:Int)∧0≤IntKind.i64.wrap (((a0.length:Int)).tdiv 2))).bind fun _=>(rf ((a0).take ((IntKind.i64.wrap (((a0.length:Int)).tdiv 2)).toNat))).bind fun y2=>(chk (0≤IntKind.i64.wrap (((a0.length:Int)).tdiv 2)∧IntKind.i64.wrap (((a0.length:Int)).tdiv 2)≤(a0.length:Int))).bind fun _=>(rf ((a0).drop ((IntKind.i64.wrap (((a0.length:Int)).tdiv 2)).toNat))).bind fun y4=>Zd (Lref19_sorted_s1) (y2,y4,[]))
noncomputable def Lref19_sorted_n:Nat→(List Int)→Option ((List Int))
 | 0,_=>none
 | n+1,a0=>ZeL (Lref19_sorted_n n) a0
noncomputable def Zgw (a0:(List Int)):Option ((List Int)):=Zog fun n=>Lref19_sorted_n n a0
noncomputable def Zha (p12:(List Int)) (a2:Int):Option (Tapi_Filter×Int) :=
 (Zgw p12).bind fun y17=>(Zc4 y17 a2).bind fun y18=>some ((y18.1,y18.2))
noncomputable def ZeM (y1:((List (List Int)))) (a0:(Arr 2)) (a3:Int) (a2:Int):(Int×(List Int))→Option ((Int×(List Int)) ⊕ (Tapi_Filter×Int))
 | (p11,p12)=>(if p11<(y1.length:Int) then(inA (y1.length) (p11)).bind fun j19=>((y1)[j19]?).bind fun x20=>(Zft a0 x20 (y1.length:Int) a3).bind fun y21=>(chk (p12.length+1≤17592186044416)).bind fun _=>some (.inl (IntKind.i64.wrap (p11+1),p12++[y21])) else(Zha p12 a2).map Sum.inr)
noncomputable def Zfu (a0:(Arr 2)) (a1:(List (List Int))) (a2:Int) (a3:Int):Option (Tapi_Filter×Int) :=
 (if 4096<(a1.length:Int) then some (((0,([]:(List Int))),4)) else(if (((a3<1∨1099511627776<a3)∨a2<0)∨32<a2) then some (((0,([]:(List Int))),5)) else(Xl a1).bind fun y1=>Zd (ZeM y1 a0 a3 a2) (0,[])))
end
section
set_option maxRecDepth 100000
noncomputable def Zei (p16:(List Int)):Option (List Int) :=
 some (p16)
noncomputable def Yo (a0:(List (List Int))):(Int×(List Int))→Option ((Int×(List Int)) ⊕ ((List Int)))
 | (p15,p16)=>(if p15<(a0.length:Int) then(idx (a0) (p15)).bind fun x19=>(chk (p16.length+x19.length≤140737488355328)).bind fun _=>some (.inl (IntKind.i64.wrap (p15+1),p16++x19)) else(Zei p16).map Sum.inr)
noncomputable def Zba (p5:Int) (a0:(List (List Int))):Option (List Int) :=
 (chk (0≤p5∧p5≤70368744177664)).bind fun _=>Zd (Yo a0) (0,([]:(List Int)))
noncomputable def YQ (p5:Int) (x21:(List Int)) (p6:Int):Option ((Int×Int) ⊕ ((List Int))) :=
 some (.inl (IntKind.i64.wrap (p5+(x21.length:Int)),IntKind.i64.wrap (p6+1)))
noncomputable def YR (a0:(List (List Int))):(Int×Int)→Option ((Int×Int) ⊕ ((List Int)))
 | (p5,p6)=>(if p6<(a0.length:Int) then(idx (a0) (p6)).bind fun x21=>(if IntKind.i64.wrap (p5+(x21.length:Int))<0 then((none:Option Unit)).bind fun _=>YQ p5 x21 p6 else YQ p5 x21 p6) else(Zba p5 a0).map Sum.inr)
noncomputable def ZZ (a0:(List (List Int))):Option ((List Int)) :=
 Zd (YR a0) (0,0)
noncomputable def Zb4 (a0:(Arr 32)) (a1:(Arr 32)):Option ((Arr 32)) :=
 (ZZ [a0.l,a1.l]).bind fun y1=>(Zcf y1).bind fun y2=>some (y2)
noncomputable def ZdB (a0:Tapi_Filter):Option ((List Int)×Int) :=
 (if ((a0.1<0∨4096<a0.1)∨200000<(a0.2.length:Int)) then some ((([]:(List Int)),4)) else(YA ([]:(List Int)) (IntKind.u64.wrap (a0.1))).bind fun y1=>(Xf y1 a0.2).bind fun y2=>some ((y2,0)))
noncomputable def ZdY (a0:Tapi_Filter):Option ((Arr 32)) :=
 (ZdB a0).bind fun y1=>(if ¬ (y1.2=0) then some (zA 32) else(Zcf y1.1).bind fun y2=>some (y2))
noncomputable def Zer (a0:(Arr 32)) (a1:(Arr 32)):Option ((Arr 32)) :=
 (Y0 [a0.l,a1.l]).bind fun y1=>(Zaf y1).bind fun y2=>some (y2)
noncomputable def Zes (a0:Tapi_Filter):Option ((List Int)×Int) :=
 (if ((a0.1<0∨4096<a0.1)∨200000<(a0.2.length:Int)) then some ((([]:(List Int)),4)) else(YB ([]:(List Int)) (IntKind.u64.wrap (a0.1))).bind fun y1=>(Xg y1 a0.2).bind fun y2=>some ((y2,0)))
noncomputable def ZgR (a0:Tapi_Filter):Option ((Arr 32)) :=
 (Zes a0).bind fun y1=>(if ¬ (y1.2=0) then some (zA 32) else(Zaf y1.1).bind fun y2=>some (y2))
end
section
set_option maxRecDepth 100000
noncomputable def Zav (a0:Int):Option ((Arr 4)) :=
 some ((zA 4).put 0 a0)
end
section
set_option maxRecDepth 100000
noncomputable def ZjI (a0:(Arr 4)):Option ((Arr 4)) :=
 some (((((zA 4).put 0 (bits .xor .u64 18446744073709551615 (a0.at 0))).put 1 (bits .xor .u64 18446744073709551615 (a0.at 1))).put 2 (bits .xor .u64 18446744073709551615 (a0.at 2))).put 3 (bits .xor .u64 18446744073709551615 (a0.at 3)))
noncomputable def Lref02_Cmp_k1:Option Int :=
 some (0)
noncomputable def Zk2 (a0:(Arr 4)) (a1:(Arr 4)):Int→Option ((Int) ⊕ (Int))
 | p3=>(if 0≤p3 then(inA (4) (p3)).bind fun j5=>(if a0.at j5<a1.at j5 then some (.inr ((-1))) else(if a1.at j5<a0.at j5 then some (.inr (1)) else some (.inl (IntKind.i64.wrap (p3-1))))) else(Lref02_Cmp_k1).map Sum.inr)
noncomputable def Xm (a0:(Arr 4)) (a1:(Arr 4)):Option (Int) :=
 Zd (Zk2 a0 a1) 3
noncomputable def Zbl (a0:(Arr 4)) (a1:Int):Option (Bool) :=
 (inA (4) (IntKind.i64.wrap ((a1).tdiv 64))).bind fun j1=>(chk (¬ ((a1).tmod 64<0))).bind fun _=>some (decide (bits .and .u64 ((a0.at j1).fdiv (2 ^ (min ((a1).tmod 64).toNat 64))) 1=1))
noncomputable def Zk3 (p12:(Arr 4)):Option (Arr 4) :=
 some (p12)
noncomputable def Zet (p11:Int) (p20:(Arr 4)):Option ((Int×(Arr 4)) ⊕ ((Arr 4))) :=
 some (.inl (IntKind.i64.wrap (p11+1),p20))
noncomputable def Zi0 (a1:Int) (a0:(Arr 4)):(Int×(Arr 4))→Option ((Int×(Arr 4)) ⊕ ((Arr 4)))
 | (p11,p12)=>(if IntKind.i64.wrap (p11+a1)<256 then(Zbl a0 (IntKind.i64.wrap (p11+a1))).bind fun y17=>(if y17=true then(inA (4) (IntKind.i64.wrap ((p11).tdiv 64))).bind fun j21=>(chk (¬ ((p11).tmod 64<0))).bind fun _=>Zet p11 (p12.put j21 (bits .or .u64 (p12.at j21) (IntKind.u64.wrap (1 * (2 ^ (min ((p11).tmod 64).toNat 64)))))) else Zet p11 p12) else(Zk3 p12).map Sum.inr)
noncomputable def Zbm (a0:(Arr 4)) (a1:Int):Option ((Arr 4)) :=
 (if a1≤0 then some (a0) else(if 256≤a1 then some (zA 4) else Zd (Zi0 a1 a0) (0,zA 4)))
noncomputable def ZaU (a0:Int) (a1:Int) (a2:Int):Option (Int×Int) :=
 (chk ((0≤a0∧0≤a1)∧(a1≤18446744073709551615∧0≤a2)∧a2≤1)).bind fun _=>some ((a0+18446744073709551616-a1-a2) % 18446744073709551616,if a0<a1+a2 then 1 else 0)
noncomputable def Zk4 (p9:(Arr 4)) (p7:Int):Option ((Arr 4)×Bool) :=
 some ((p9,decide (p7=1)))
noncomputable def Zk5 (a0:(Arr 4)) (a1:(Arr 4)):(Int×Int×(Arr 4))→Option ((Int×Int×(Arr 4)) ⊕ ((Arr 4)×Bool))
 | (p7,p8,p9)=>(if p8<4 then(inA (4) (p8)).bind fun j12=>(ZaU (a0.at j12) (a1.at j12) p7).bind fun y13=>some (.inl (y13.2,IntKind.i64.wrap (p8+1),p9.put j12 y13.1)) else(Zk4 p9 p7).map Sum.inr)
noncomputable def Zh4 (a0:(Arr 4)) (a1:(Arr 4)):Option ((Arr 4)×Bool) :=
 Zd (Zk5 a0 a1) (0,0,zA 4)
end
end Go.Lc
