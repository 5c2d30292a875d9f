import Derived.Test.YtbppknpnmjhjpaaGreatDoorLcG1
namespace Go.Lc
open Go.RowKit
open Go.Av
set_option linter.unusedVariables false
set_option linter.unusedSimpArgs false
section
set_option maxRecDepth 100000
abbrev Tapi_Bits:=(List Int)×Int
abbrev Tapi_Filter:=Int×(List Int)
noncomputable def Zad (a0:Int):Option (Bool) :=
 some (!(decide (a0=a0)))
noncomputable def Y6 (a0:Int) (a1:Int):Option (Bool) :=
 (Zad a0).bind fun y1=>((if y1=true then(Zad a1).bind fun y2=>some (!(y2)) else some (false))).bind fun z3=>some (((y1 && z3) || decide (a0<a1)))
noncomputable def Lslices_IsSorted_of__uint64_uint64_k1:Option Bool :=
 some (true)
noncomputable def ZT (a0:(List Int)):Int→Option ((Int) ⊕ (Bool))
 | p8=>(if 0<p8 then(idx (a0) (p8)).bind fun x12=>(idx (a0) (IntKind.i64.wrap (p8-1))).bind fun x13=>(Y6 x12 x13).bind fun y14=>(if y14=true then some (.inr (false)) else some (.inl (IntKind.i64.wrap (p8-1)))) else(Lslices_IsSorted_of__uint64_uint64_k1).map Sum.inr)
noncomputable def Yc (a0:(List Int)):Option (Bool) :=
 Ze (ZT a0) (IntKind.i64.wrap ((a0.length:Int)-1))
noncomputable def Zgl (a0:Tapi_Bits):Option (Bool) :=
 (if ((a0.2<0∨1600000<a0.2)∨¬ ((a0.1.length:Int)=IntKind.i64.wrap ((IntKind.i64.wrap (a0.2+7)).tdiv 8))) then some (false) else((if (a0.2).tmod 8=0 then some (false) else(idx (a0.1) (IntKind.i64.wrap ((a0.1.length:Int)-1))).bind fun x1=>(chk (¬ ((a0.2).tmod 8<0))).bind fun _=>some (decide (bits .and .u8 x1 ((255:Int).fdiv (2 ^ (min ((a0.2).tmod 8).toNat 8)))=0)))).bind fun z3=>some ((decide ((a0.2).tmod 8=0) || z3)))
noncomputable def Zgm (a0:Tapi_Bits):Option (Tapi_Bits) :=
 (chk (0≤(a0.1.length:Int)∧(a0.1.length:Int)≤140737488355328)).bind fun _=>some (((a0.1).take (min (a0.1.length) ((((a0.1.length:Int)).toNat)))++(List.replicate (((a0.1.length:Int)).toNat) 0).drop (min (a0.1.length) ((((a0.1.length:Int)).toNat))),a0.2))
noncomputable def Xx (a0:Tapi_Bits) (p6:(List Int)):Option Tapi_Bits :=
 some ((p6,IntKind.i64.wrap (a0.2+1)))
noncomputable def Y7 (a1:Bool) (a0:Tapi_Bits) (p2:(List Int)):Option Tapi_Bits :=
 (if a1=true then(inA (p2.length) (IntKind.i64.wrap ((a0.2).tdiv 8))).bind fun j7=>((p2)[j7]?).bind fun x8=>(chk (¬ ((a0.2).tmod 8<0))).bind fun _=>Xx a0 ((p2).set j7 (bits .or .u8 x8 ((128:Int).fdiv (2 ^ (min ((a0.2).tmod 8).toNat 8))))) else Xx a0 p2)
noncomputable def XY (a0:Tapi_Bits) (a1:Bool):Option (Tapi_Bits) :=
 (if (a0.2).tmod 8=0 then(chk (a0.1.length+1≤140737488355328)).bind fun _=>Y7 a1 a0 (a0.1++[0]) else Y7 a1 a0 a0.1)
noncomputable def ZaA (a2:Int) (a1:Int):(Int×Int×(List Int))→Option ((Int×Int×(List Int)) ⊕ (Tapi_Bits))
 | (p8,p9,p10)=>(if p8<a2 then(chk (¬ (IntKind.i64.wrap ((IntKind.i64.wrap (a2-1))-p8)<0))).bind fun _=>(XY (p10,p9) (decide (bits .and .u64 ((a1).fdiv (2 ^ (min (IntKind.i64.wrap ((IntKind.i64.wrap (a2-1))-p8)).toNat 64))) 1=1))).bind fun y12=>some (.inl (IntKind.i64.wrap (p8+1),y12.2,y12.1)) else some (.inr ((p10,p9))))
noncomputable def Zaw (a0:Tapi_Bits) (a1:Int) (a2:Int):Option (Tapi_Bits) :=
 Ze (ZaA a2 a1) (0,a0.2,a0.1)
noncomputable def Zea (p11:(List Int)) (p10:Int) (a1:Int) (a2:Int):Option (Tapi_Bits×Int) :=
 (XY (p11,p10) false).bind fun y13=>(Zaw (y13.1,y13.2) a1 a2).bind fun y14=>some (((y14.1,y14.2),0))
noncomputable def ZbM (a1:Int) (a2:Int):(Int×Int×(List Int))→Option ((Int×Int×(List Int)) ⊕ (Tapi_Bits×Int))
 | (p9,p10,p11)=>(if p9<(a1).fdiv (2 ^ (min (a2).toNat 64)) then(XY (p11,p10) true).bind fun y15=>some (.inl (IntKind.u64.wrap (p9+1),y15.2,y15.1)) else(Zea p11 p10 a1 a2).map Sum.inr)
noncomputable def ZaQ (a0:Tapi_Bits) (a1:Int) (a2:Int):Option (Tapi_Bits×Int) :=
 (Zgl a0).bind fun y1=>(if ¬ (y1=true) then some (((([]:(List Int)),0),6)) else(if (a2<0∨32<a2) then some (((([]:(List Int)),0),5)) else(chk (¬ (a2<0))).bind fun _=>(if (65536<(a1).fdiv (2 ^ (min (a2).toNat 64))∨1600000<IntKind.i64.wrap ((IntKind.i64.wrap ((IntKind.i64.wrap (a0.2+(IntKind.i64.wrap ((a1).fdiv (2 ^ (min (a2).toNat 64))))))+1))+a2)) then some (((([]:(List Int)),0),4)) else(Zgm a0).bind fun y3=>Ze (ZbM a1 a2) (0,y3.2,y3.1))))
noncomputable def ZeY (a0:(List Int)) (p12:(List Int)):Option (Tapi_Filter×Int) :=
 some ((((a0.length:Int),p12),0))
noncomputable def ZeZ (a0:(List Int)) (a1:Int):(Int×Int×(List Int)×Int)→Option ((Int×Int×(List Int)×Int) ⊕ (Tapi_Filter×Int))
 | (p10,p11,p12,p13)=>(if p11<(a0.length:Int) then(idx (a0) (p11)).bind fun x16=>(ZaQ (p12,p13) (IntKind.u64.wrap (x16-p10)) a1).bind fun y17=>(if ¬ (y17.2=0) then some (.inr (((0,([]:(List Int))),y17.2))) else some (.inl (x16,IntKind.i64.wrap (p11+1),y17.1.1,y17.1.2))) else(ZeY a0 p12).map Sum.inr)
noncomputable def ZbY (a0:(List Int)) (a1:Int):Option (Tapi_Filter×Int) :=
 (if 4096<(a0.length:Int) then some (((0,([]:(List Int))),4)) else(if (a1<0∨32<a1) then some (((0,([]:(List Int))),5)) else(Yc a0).bind fun y1=>(if ¬ (y1=true) then some (((0,([]:(List Int))),6)) else Ze (ZeZ a0 a1) (0,0,([]:(List Int)),0))))
noncomputable def XZ (a0:Int) (a1:Int):Option (Int×Int) :=
 some ((IntKind.u64.wrap ((IntKind.u64.wrap ((IntKind.u64.wrap (((a0).fdiv 4294967296) * ((a1).fdiv 4294967296)))+((IntKind.u64.wrap ((IntKind.u64.wrap (((a0).fdiv 4294967296) * (bits .and .u64 a1 4294967295)))+((IntKind.u64.wrap ((bits .and .u64 a0 4294967295) * (bits .and .u64 a1 4294967295))).fdiv 4294967296))).fdiv 4294967296)))+((IntKind.u64.wrap ((bits .and .u64 (IntKind.u64.wrap ((IntKind.u64.wrap (((a0).fdiv 4294967296) * (bits .and .u64 a1 4294967295)))+((IntKind.u64.wrap ((bits .and .u64 a0 4294967295) * (bits .and .u64 a1 4294967295))).fdiv 4294967296))) 4294967295)+(IntKind.u64.wrap ((bits .and .u64 a0 4294967295) * ((a1).fdiv 4294967296))))).fdiv 4294967296)),IntKind.u64.wrap (a0 * a1)))
noncomputable def ZiV (a0:Int) (a1:Int):Option (Int) :=
 (XZ a0 a1).bind fun y1=>some (y1.1)
noncomputable def ZY (a0:Int) (a1:Int):Option (Int) :=
 (chk (¬ (bits .and .u64 (IntKind.u64.wrap (a1)) 63<0))).bind fun _=>(chk (¬ (IntKind.u64.wrap (64-(bits .and .u64 (IntKind.u64.wrap (a1)) 63))<0))).bind fun _=>some (bits .or .u64 (IntKind.u64.wrap (a0 * (2 ^ (min (bits .and .u64 (IntKind.u64.wrap (a1)) 63).toNat 64)))) ((a0).fdiv (2 ^ (min (IntKind.u64.wrap (64-(bits .and .u64 (IntKind.u64.wrap (a1)) 63))).toNat 64))))
noncomputable def Zhn (p20:(Arr 4)):Option (Arr 4) :=
 some (p20)
noncomputable def Zfa (a1:Int):(Int×(Arr 4))→Option ((Int×(Arr 4)) ⊕ ((Arr 4)))
 | (p19,p20)=>(if p19<a1 then(ZY ((p20.put 0 (IntKind.u64.wrap ((p20.at 0)+(p20.at 1)))).at 1) 13).bind fun y29=>(ZY ((((p20.put 0 (IntKind.u64.wrap ((p20.at 0)+(p20.at 1)))).put 1 y29).put 1 (bits .xor .u64 (((p20.put 0 (IntKind.u64.wrap ((p20.at 0)+(p20.at 1)))).put 1 y29).at 1) (((p20.put 0 (IntKind.u64.wrap ((p20.at 0)+(p20.at 1)))).put 1 y29).at 0))).at 0) 32).bind fun y30=>(some (((((p20.put 0 (IntKind.u64.wrap ((p20.at 0)+(p20.at 1)))).put 1 y29).put 1 (bits .xor .u64 (((p20.put 0 (IntKind.u64.wrap ((p20.at 0)+(p20.at 1)))).put 1 y29).at 1) (((p20.put 0 (IntKind.u64.wrap ((p20.at 0)+(p20.at 1)))).put 1 y29).at 0))).put 0 y30).put 2 (IntKind.u64.wrap ((((((p20.put 0 (IntKind.u64.wrap ((p20.at 0)+(p20.at 1)))).put 1 y29).put 1 (bits .xor .u64 (((p20.put 0 (IntKind.u64.wrap ((p20.at 0)+(p20.at 1)))).put 1 y29).at 1) (((p20.put 0 (IntKind.u64.wrap ((p20.at 0)+(p20.at 1)))).put 1 y29).at 0))).put 0 y30).at 2)+(((((p20.put 0 (IntKind.u64.wrap ((p20.at 0)+(p20.at 1)))).put 1 y29).put 1 (bits .xor .u64 (((p20.put 0 (IntKind.u64.wrap ((p20.at 0)+(p20.at 1)))).put 1 y29).at 1) (((p20.put 0 (IntKind.u64.wrap ((p20.at 0)+(p20.at 1)))).put 1 y29).at 0))).put 0 y30).at 3))))).bind fun x31=>(ZY (x31.at 3) 16).bind fun y32=>(ZY ((((x31.put 3 y32).put 3 (bits .xor .u64 ((x31.put 3 y32).at 3) ((x31.put 3 y32).at 2))).put 0 (IntKind.u64.wrap ((((x31.put 3 y32).put 3 (bits .xor .u64 ((x31.put 3 y32).at 3) ((x31.put 3 y32).at 2))).at 0)+(((x31.put 3 y32).put 3 (bits .xor .u64 ((x31.put 3 y32).at 3) ((x31.put 3 y32).at 2))).at 3)))).at 3) 21).bind fun y33=>(some (((((x31.put 3 y32).put 3 (bits .xor .u64 ((x31.put 3 y32).at 3) ((x31.put 3 y32).at 2))).put 0 (IntKind.u64.wrap ((((x31.put 3 y32).put 3 (bits .xor .u64 ((x31.put 3 y32).at 3) ((x31.put 3 y32).at 2))).at 0)+(((x31.put 3 y32).put 3 (bits .xor .u64 ((x31.put 3 y32).at 3) ((x31.put 3 y32).at 2))).at 3)))).put 3 y33).put 3 (bits .xor .u64 (((((x31.put 3 y32).put 3 (bits .xor .u64 ((x31.put 3 y32).at 3) ((x31.put 3 y32).at 2))).put 0 (IntKind.u64.wrap ((((x31.put 3 y32).put 3 (bits .xor .u64 ((x31.put 3 y32).at 3) ((x31.put 3 y32).at 2))).at 0)+(((x31.put 3 y32).put 3 (bits .xor .u64 ((x31.put 3 y32).at 3) ((x31.put 3 y32).at 2))).at 3)))).put 3 y33).at 3) (((((x31.put 3 y32).put 3 (bits .xor .u64 ((x31.put 3 y32).at 3) ((x31.put 3 y32).at 2))).put 0 (IntKind.u64.wrap ((((x31.put 3 y32).put 3 (bits .xor .u64 ((x31.put 3 y32).at 3) ((x31.put 3 y32).at 2))).at 0)+(((x31.put 3 y32).put 3 (bits .xor .u64 ((x31.put 3 y32).at 3) ((x31.put 3 y32).at 2))).at 3)))).put 3 y33).at 0)))).bind fun x34=>(ZY ((x34.put 2 (IntKind.u64.wrap ((x34.at 2)+(x34.at 1)))).at 1) 17).bind fun y35=>(ZY ((((x34.put 2 (IntKind.u64.wrap ((x34.at 2)+(x34.at 1)))).put 1 y35).put 1 (bits .xor .u64 (((x34.put 2 (IntKind.u64.wrap ((x34.at 2)+(x34.at 1)))).put 1 y35).at 1) (((x34.put 2 (IntKind.u64.wrap ((x34.at 2)+(x34.at 1)))).put 1 y35).at 2))).at 2) 32).bind fun y36=>some (.inl (IntKind.i64.wrap (p19+1),(((x34.put 2 (IntKind.u64.wrap ((x34.at 2)+(x34.at 1)))).put 1 y35).put 1 (bits .xor .u64 (((x34.put 2 (IntKind.u64.wrap ((x34.at 2)+(x34.at 1)))).put 1 y35).at 1) (((x34.put 2 (IntKind.u64.wrap ((x34.at 2)+(x34.at 1)))).put 1 y35).at 2))).put 2 y36)) else(Zhn p20).map Sum.inr)
noncomputable def Zgn (a0:(Arr 4)) (a1:Int):Option ((Arr 4)) :=
 Ze (Zfa a1) (0,a0)
noncomputable def ZeN (a0:(Arr 4)) (a1:Int):Option ((Arr 4)) :=
 (Zgn (a0.put 3 (bits .xor .u64 (a0.at 3) a1)) 2).bind fun y1=>some (y1.put 0 (bits .xor .u64 (y1.at 0) a1))
noncomputable def ZiW (p7:Int):Option Int :=
 some (p7)
noncomputable def ZgY (a0:(List Int)):(Int×Int)→Option ((Int×Int) ⊕ (Int))
 | (p7,p8)=>(if p8<(a0.length:Int) then(idx (a0) (p8)).bind fun x11=>(chk (¬ (IntKind.i64.wrap (8 * p8)<0))).bind fun _=>some (.inl (bits .or .u64 p7 (IntKind.u64.wrap ((IntKind.u64.wrap (x11)) * (2 ^ (min (IntKind.i64.wrap (8 * p8)).toNat 64)))),IntKind.i64.wrap (p8+1))) else(ZiW p7).map Sum.inr)
noncomputable def Zcs (a0:(List Int)):Option (Int) :=
 Ze (ZgY a0) (0,0)
noncomputable def ZjZ (a1:(List Int)) (p10:(Arr 4)):Option Int :=
 (chk (0≤IntKind.i64.wrap (8 * (IntKind.i64.wrap (((a1.length:Int)).tdiv 8)))∧IntKind.i64.wrap (8 * (IntKind.i64.wrap (((a1.length:Int)).tdiv 8)))≤(a1.length:Int))).bind fun _=>(Zcs ((a1).drop ((IntKind.i64.wrap (8 * (IntKind.i64.wrap (((a1.length:Int)).tdiv 8)))).toNat))).bind fun y15=>(ZeN p10 (bits .or .u64 y15 (IntKind.u64.wrap ((IntKind.u64.wrap (((a1.length:Int)).tmod 256)) * 72057594037927936)))).bind fun y16=>(Zgn (y16.put 2 (bits .xor .u64 (y16.at 2) 255)) 4).bind fun y17=>some (bits .xor .u64 (bits .xor .u64 (bits .xor .u64 (y17.at 0) (y17.at 1)) (y17.at 2)) (y17.at 3))
noncomputable def Zh1 (a1:(List Int)):(Int×(Arr 4))→Option ((Int×(Arr 4)) ⊕ (Int))
 | (p9,p10)=>(if p9<IntKind.i64.wrap (((a1.length:Int)).tdiv 8) then(chk (0≤IntKind.i64.wrap (8 * p9)∧IntKind.i64.wrap (8 * p9)≤IntKind.i64.wrap ((IntKind.i64.wrap (8 * p9))+8)∧IntKind.i64.wrap ((IntKind.i64.wrap (8 * p9))+8)≤(a1.length:Int))).bind fun _=>(Zcs (((a1).take ((IntKind.i64.wrap ((IntKind.i64.wrap (8 * p9))+8)).toNat)).drop ((IntKind.i64.wrap (8 * p9)).toNat))).bind fun y19=>(ZeN p10 y19).bind fun y20=>some (.inl (IntKind.i64.wrap (p9+1),y20)) else(ZjZ a1 p10).map Sum.inr)
noncomputable def Zjs (a0:(Arr 2)) (a1:(List Int)):Option (Int) :=
 Ze (Zh1 a1) (0,((((zA 4).put 0 (bits .xor .u64 (a0.at 0) 8317987319222330741)).put 1 (bits .xor .u64 (a0.at 1) 7237128888997146477)).put 2 (bits .xor .u64 (a0.at 0) 7816392313619706465)).put 3 (bits .xor .u64 (a0.at 1) 8387220255154660723))
noncomputable def Zlg (a0:Int):Option Int :=
 (chk (0≤a0∧a0≤4294967295)).bind fun _=>some (Lib.bitLen a0.toNat:Int)
noncomputable def Yz (a0:Int):Option Int :=
 (chk (0≤a0∧a0≤18446744073709551615)).bind fun _=>some (Lib.bitLen a0.toNat:Int)
noncomputable def Zds (a0:Int):Option (Int) :=
 (Yz a0).bind fun y1=>some (y1)
noncomputable def ZV (p77:Int) (p104:(List Int)):Option ((Int×(List Int)) ⊕ ((List Int))) :=
 some (.inl (IntKind.i64.wrap (p77+1),p104))
noncomputable def ZM (a1:Int) (p77:Int):(Int×(List Int))→Option ((Int×(List Int)) ⊕ ((Int×(List Int)) ⊕ ((List Int))))
 | (p103,p104)=>((if a1<p103 then(inA (p104.length) (p103)).bind fun j116=>((p104)[j116]?).bind fun x117=>(inA (p104.length) (IntKind.i64.wrap (p103-1))).bind fun j118=>((p104)[j118]?).bind fun x119=>(Y6 x117 x119).bind fun y120=>some (y120) else some (false))).bind fun z121=>(if (a1<p103∧z121=true) then(inA (p104.length) (IntKind.i64.wrap (p103-1))).bind fun j122=>((p104)[j122]?).bind fun x123=>(inA (p104.length) (p103)).bind fun j124=>((p104)[j124]?).bind fun x125=>(inA (((p104).set j124 x123).length) (IntKind.i64.wrap (p103-1))).bind fun j126=>some (.inl (IntKind.i64.wrap (p103-1),((p104).set j124 x123).set j126 x125)) else(ZV p77 p104).map Sum.inr)
noncomputable def Z4 (a2:Int) (a1:Int) (a0:(List Int)):(Int×(List Int))→Option ((Int×(List Int)) ⊕ ((List Int)))
 | (p77,p78)=>(if p77<a2 then Ze (ZM a1 p77) (p77,p78) else(chk (p78.length=a0.length)).bind fun _=>some (.inr (p78)))
noncomputable def Zy (a0:(List Int)) (a1:Int) (a2:Int):Option ((List Int)) :=
 Ze (Z4 a2 a1 a0) (IntKind.i64.wrap (a1+1),a0)
noncomputable def ZmN (a0:Tapi_Bits) (a1:Int):Option (Bool) :=
 (idx (a0.1) (IntKind.i64.wrap ((a1).tdiv 8))).bind fun x1=>(chk (¬ (IntKind.i64.wrap (7-((a1).tmod 8))<0))).bind fun _=>some (decide (bits .and .u8 ((x1).fdiv (2 ^ (min (IntKind.i64.wrap (7-((a1).tmod 8))).toNat 8))) 1=1))
noncomputable def Lref18_Valid_k1:Option Bool :=
 some (true)
noncomputable def ZgG (a0:Tapi_Bits):Int→Option ((Int) ⊕ (Bool))
 | p4=>(if p4<IntKind.i64.wrap (8 * (a0.1.length:Int)) then(ZmN a0 p4).bind fun y6=>(if y6=true then some (.inr (false)) else some (.inl (IntKind.i64.wrap (p4+1)))) else(Lref18_Valid_k1).map Sum.inr)
noncomputable def Zlh (a0:Tapi_Bits):Option (Bool) :=
 (if ((a0.2<0∨1600000<a0.2)∨¬ ((a0.1.length:Int)=IntKind.i64.wrap ((IntKind.i64.wrap (a0.2+7)).tdiv 8))) then some (false) else Ze (ZgG a0) a0.2)
noncomputable def Zho (p8:(List Int)):Option (List Int) :=
 some (p8)
noncomputable def Zae (a0:(List (List Int))):(Int×(List Int))→Option ((Int×(List Int)) ⊕ ((List Int)))
 | (p7,p8)=>(if p7<(a0.length:Int) then(idx (a0) (p7)).bind fun x11=>(Yg p8 x11).bind fun y12=>some (.inl (IntKind.i64.wrap (p7+1),y12)) else(Zho p8).map Sum.inr)
noncomputable def Xt (a0:(List (List Int))):Option ((List Int)) :=
 Ze (Zae a0) (0,([]:(List Int)))
noncomputable def Zid (a0:Tapi_Bits) (p6:(List Int)):Option Tapi_Bits :=
 some ((p6,IntKind.i64.wrap (a0.2+1)))
noncomputable def Zf6 (a1:Bool) (a0:Tapi_Bits) (p2:(List Int)):Option Tapi_Bits :=
 (if a1=true then(inA (p2.length) (IntKind.i64.wrap ((a0.2).tdiv 8))).bind fun j7=>((p2)[j7]?).bind fun x8=>(chk (¬ (IntKind.i64.wrap (7-((a0.2).tmod 8))<0))).bind fun _=>Zid a0 ((p2).set j7 (bits .or .u8 x8 (IntKind.u8.wrap (1 * (2 ^ (min (IntKind.i64.wrap (7-((a0.2).tmod 8))).toNat 8)))))) else Zid a0 p2)
noncomputable def ZiX (a0:Tapi_Bits) (a1:Bool):Option (Tapi_Bits) :=
 (if (a0.2).tmod 8=0 then(chk (a0.1.length+1≤140737488355328)).bind fun _=>Zf6 a1 a0 (a0.1++[0]) else Zf6 a1 a0 a0.1)
noncomputable def ZiY (p26:(List Int)) (p25:Int):Option (Tapi_Bits×Int) :=
 some (((p26,p25),0))
noncomputable def Zbf (a1:Int):(Int×Int×(List Int))→Option ((Int×Int×(List Int)) ⊕ (Tapi_Bits×Int))
 | (p24,p25,p26)=>(if 0≤p24 then(chk (¬ (p24<0))).bind fun _=>(ZiX (p26,p25) (decide (bits .and .u64 ((a1).fdiv (2 ^ (min (p24).toNat 64))) 1=1))).bind fun y30=>some (.inl (IntKind.i64.wrap (p24-1),y30.2,y30.1)) else(ZiY p26 p25).map Sum.inr)
noncomputable def ZiZ (p14:(List Int)) (p13:Int) (a1:Int) (a2:Int):Option (Tapi_Bits×Int) :=
 (ZiX (p14,p13) false).bind fun y16=>Ze (Zbf a1) (IntKind.i64.wrap (a2-1),y16.2,y16.1)
noncomputable def Zdg (a1:Int) (a2:Int):(Int×Int×(List Int))→Option ((Int×Int×(List Int)) ⊕ (Tapi_Bits×Int))
 | (p12,p13,p14)=>(if 0<p12 then(ZiX (p14,p13) true).bind fun y31=>some (.inl (IntKind.u64.wrap (p12-1),y31.2,y31.1)) else(ZiZ p14 p13 a1 a2).map Sum.inr)
noncomputable def Ze0 (a0:Tapi_Bits) (a1:Int) (a2:Int):Option (Tapi_Bits×Int) :=
 (Zlh a0).bind fun y1=>(if ¬ (y1=true) then some (((([]:(List Int)),0),6)) else(if (a2<0∨32<a2) then some (((([]:(List Int)),0),5)) else(chk (¬ (a2<0))).bind fun _=>((if 65536<(a1).fdiv (2 ^ (min (a2).toNat 64)) then some (false) else(chk (¬ (a2<0))).bind fun _=>some (decide (1600000<IntKind.i64.wrap ((IntKind.i64.wrap ((IntKind.i64.wrap (a0.2+(IntKind.i64.wrap ((a1).fdiv (2 ^ (min (a2).toNat 64))))))+1))+a2))))).bind fun z4=>(if (65536<(a1).fdiv (2 ^ (min (a2).toNat 64))∨z4=true) then some (((([]:(List Int)),0),4)) else(Xt [a0.1]).bind fun y5=>(chk (¬ (a2<0))).bind fun _=>Ze (Zdg a1 a2) ((a1).fdiv (2 ^ (min (a2).toNat 64)),a0.2,y5))))
noncomputable def Zli (a0:(List Int)) (p19:(List Int)):Option (Tapi_Filter×Int) :=
 some ((((a0.length:Int),p19),0))
noncomputable def Zin (a0:(List Int)) (a1:Int):(Int×Int×(List Int)×Int)→Option ((Int×Int×(List Int)×Int) ⊕ (Tapi_Filter×Int))
 | (p17,p18,p19,p20)=>(if p18<(a0.length:Int) then(idx (a0) (p18)).bind fun x23=>(Ze0 (p19,p20) (IntKind.u64.wrap (x23-p17)) a1).bind fun y24=>(if ¬ (y24.2=0) then some (.inr (((0,([]:(List Int))),y24.2))) else some (.inl (x23,IntKind.i64.wrap (p18+1),y24.1.1,y24.1.2))) else(Zli a0 p19).map Sum.inr)
noncomputable def Zlj (a0:(List Int)) (a1:Int):Option (Tapi_Filter×Int) :=
 Ze (Zin a0 a1) (0,0,([]:(List Int)),0)
noncomputable def ZdS (a0:(List Int)) (a1:Int):Int→Option ((Int) ⊕ (Tapi_Filter×Int))
 | p6=>(if p6<(a0.length:Int) then(idx (a0) (IntKind.i64.wrap (p6-1))).bind fun x25=>(idx (a0) (p6)).bind fun x26=>(if x26<x25 then some (.inr (((0,([]:(List Int))),6))) else some (.inl (IntKind.i64.wrap (p6+1)))) else(Zlj a0 a1).map Sum.inr)
noncomputable def Zkd (a0:(List Int)) (a1:Int):Option (Tapi_Filter×Int) :=
 (if 4096<(a0.length:Int) then some (((0,([]:(List Int))),4)) else(if (a1<0∨32<a1) then some (((0,([]:(List Int))),5)) else Ze (ZdS a0 a1) 1))
end
section
set_option maxRecDepth 100000
noncomputable def Zec (p16:(List Int)):Option (List Int) :=
 some (p16)
noncomputable def Yr (a0:(List (List Int))):(Int×(List Int))→Option ((Int×(List Int)) ⊕ ((List Int)))
 | (p15,p16)=>(if p15<(a0.length:Int) then(idx (a0) (p15)).bind fun x19=>(chk (p16.length+x19.length≤140737488355328)).bind fun _=>some (.inl (IntKind.i64.wrap (p15+1),p16++x19)) else(Zec p16).map Sum.inr)
noncomputable def Za7 (p5:Int) (a0:(List (List Int))):Option (List Int) :=
 (chk (0≤p5∧p5≤70368744177664)).bind fun _=>Ze (Yr a0) (0,([]:(List Int)))
noncomputable def YR (p5:Int) (x21:(List Int)) (p6:Int):Option ((Int×Int) ⊕ ((List Int))) :=
 some (.inl (IntKind.i64.wrap (p5+(x21.length:Int)),IntKind.i64.wrap (p6+1)))
noncomputable def YS (a0:(List (List Int))):(Int×Int)→Option ((Int×Int) ⊕ ((List Int)))
 | (p5,p6)=>(if p6<(a0.length:Int) then(idx (a0) (p6)).bind fun x21=>(if IntKind.i64.wrap (p5+(x21.length:Int))<0 then((none:Option Unit)).bind fun _=>YR p5 x21 p6 else YR p5 x21 p6) else(Za7 p5 a0).map Sum.inr)
noncomputable def ZX (a0:(List (List Int))):Option ((List Int)) :=
 Ze (YS a0) (0,0)
noncomputable def Zdt (a0:(Arr 32)) (a1:(Arr 32)):Option ((Arr 32)) :=
 (ZX [a0.l,a1.l]).bind fun y1=>(Zb9 y1).bind fun y2=>some (y2)
noncomputable def Zdu (a0:Tapi_Filter):Option ((List Int)×Int) :=
 (if ((a0.1<0∨4096<a0.1)∨200000<(a0.2.length:Int)) then some ((([]:(List Int)),4)) else(YB ([]:(List Int)) (IntKind.u64.wrap (a0.1))).bind fun y1=>(Xf y1 a0.2).bind fun y2=>some ((y2,0)))
noncomputable def ZdT (a0:Tapi_Filter):Option ((Arr 32)) :=
 (Zdu a0).bind fun y1=>(if ¬ (y1.2=0) then some (zA 32) else(Zb9 y1.1).bind fun y2=>some (y2))
noncomputable def Zek (a0:(Arr 32)) (a1:(Arr 32)):Option ((Arr 32)) :=
 (Xt [a0.l,a1.l]).bind fun y1=>(ZaI y1).bind fun y2=>some (y2)
end
section
set_option maxRecDepth 100000
noncomputable def Zas (a0:Int):Option ((Arr 4)) :=
 some ((zA 4).put 0 a0)
end
section
set_option maxRecDepth 100000
noncomputable def Zi0 (a0:(Arr 4)):Option ((Arr 4)) :=
 some (((((zA 4).put 0 (bits .xor .u64 18446744073709551615 (a0.at 0))).put 1 (bits .xor .u64 18446744073709551615 (a0.at 1))).put 2 (bits .xor .u64 18446744073709551615 (a0.at 2))).put 3 (bits .xor .u64 18446744073709551615 (a0.at 3)))
noncomputable def Lref02_Cmp_k1:Option Int :=
 some (0)
noncomputable def Zke (a0:(Arr 4)) (a1:(Arr 4)):Int→Option ((Int) ⊕ (Int))
 | p3=>(if 0≤p3 then(inA (4) (p3)).bind fun j5=>(if a0.at j5<a1.at j5 then some (.inr ((-1))) else(if a1.at j5<a0.at j5 then some (.inr (1)) else some (.inl (IntKind.i64.wrap (p3-1))))) else(Lref02_Cmp_k1).map Sum.inr)
noncomputable def Xk (a0:(Arr 4)) (a1:(Arr 4)):Option (Int) :=
 Ze (Zke a0 a1) 3
noncomputable def Zbg (a0:(Arr 4)) (a1:Int):Option (Bool) :=
 (inA (4) (IntKind.i64.wrap ((a1).tdiv 64))).bind fun j1=>(chk (¬ ((a1).tmod 64<0))).bind fun _=>some (decide (bits .and .u64 ((a0.at j1).fdiv (2 ^ (min ((a1).tmod 64).toNat 64))) 1=1))
noncomputable def Zkf (p12:(Arr 4)):Option (Arr 4) :=
 some (p12)
noncomputable def Zel (p11:Int) (p20:(Arr 4)):Option ((Int×(Arr 4)) ⊕ ((Arr 4))) :=
 some (.inl (IntKind.i64.wrap (p11+1),p20))
noncomputable def Zie (a1:Int) (a0:(Arr 4)):(Int×(Arr 4))→Option ((Int×(Arr 4)) ⊕ ((Arr 4)))
 | (p11,p12)=>(if IntKind.i64.wrap (p11+a1)<256 then(Zbg a0 (IntKind.i64.wrap (p11+a1))).bind fun y17=>(if y17=true then(inA (4) (IntKind.i64.wrap ((p11).tdiv 64))).bind fun j21=>(chk (¬ ((p11).tmod 64<0))).bind fun _=>Zel p11 (p12.put j21 (bits .or .u64 (p12.at j21) (IntKind.u64.wrap (1 * (2 ^ (min ((p11).tmod 64).toNat 64)))))) else Zel p11 p12) else(Zkf p12).map Sum.inr)
noncomputable def Zbh (a0:(Arr 4)) (a1:Int):Option ((Arr 4)) :=
 (if a1≤0 then some (a0) else(if 256≤a1 then some (zA 4) else Ze (Zie a1 a0) (0,zA 4)))
noncomputable def ZaR (a0:Int) (a1:Int) (a2:Int):Option (Int×Int) :=
 (chk ((0≤a0∧0≤a1)∧(a1≤18446744073709551615∧0≤a2)∧a2≤1)).bind fun _=>some ((a0+18446744073709551616-a1-a2) % 18446744073709551616,if a0<a1+a2 then 1 else 0)
noncomputable def Zkg (p9:(Arr 4)) (p7:Int):Option ((Arr 4)×Bool) :=
 some ((p9,decide (p7=1)))
noncomputable def Zkh (a0:(Arr 4)) (a1:(Arr 4)):(Int×Int×(Arr 4))→Option ((Int×Int×(Arr 4)) ⊕ ((Arr 4)×Bool))
 | (p7,p8,p9)=>(if p8<4 then(inA (4) (p8)).bind fun j12=>(ZaR (a0.at j12) (a1.at j12) p7).bind fun y13=>some (.inl (y13.2,IntKind.i64.wrap (p8+1),p9.put j12 y13.1)) else(Zkg p9 p7).map Sum.inr)
noncomputable def Zhp (a0:(Arr 4)) (a1:(Arr 4)):Option ((Arr 4)×Bool) :=
 Ze (Zkh a0 a1) (0,0,zA 4)
end
end Go.Lc
