import Derived.Test.YthpkpciceodioaaGreatDoorLcG1
namespace Go.Lc
open Go.RowKit
open Go.Av
set_option linter.unusedVariables false
set_option linter.unusedSimpArgs false
section
set_option maxRecDepth 100000
abbrev Tapi_Bits:=(List Int)×Int
abbrev Tapi_Filter:=Int×(List Int)
noncomputable def Zab (a0:Int):Option (Bool) :=
 some (!(decide (a0=a0)))
noncomputable def ZL (a0:Int) (a1:Int):Option (Bool) :=
 (Zab a0).bind fun y1=>((if y1=true then (Zab a1).bind fun y2=>some (!(y2)) else some (false))).bind fun z3=>some (((y1 && z3) || decide (a0<a1)))
noncomputable def Lslices_IsSorted_of__uint64_uint64_k1:Option Bool :=
 some (true)
noncomputable def Yj (a0:(List Int)):Int→Option ((Int) ⊕ (Bool))
 | p8=>(if 0<p8 then (idx (a0) (p8)).bind fun x12=>(idx (a0) (IntKind.i64.wrap (p8-1))).bind fun x13=>(ZL x12 x13).bind fun y14=>(if y14=true then some (.inr (false)) else some (.inl (IntKind.i64.wrap (p8-1)))) else (Lslices_IsSorted_of__uint64_uint64_k1).map Sum.inr)
noncomputable def YM (a0:(List Int)):Option (Bool) :=
 Zf (Yj a0) (IntKind.i64.wrap ((a0.length:Int)-1))
noncomputable def Zdw (a0:Tapi_Bits):Option (Bool) :=
 (if ((a0.2<0∨1600000<a0.2)∨¬ ((a0.1.length:Int)=IntKind.i64.wrap ((IntKind.i64.wrap (a0.2+7)).tdiv 8))) then some (false) else ((if (a0.2).tmod 8=0 then some (false) else (idx (a0.1) (IntKind.i64.wrap ((a0.1.length:Int)-1))).bind fun x1=>(chk (¬ ((a0.2).tmod 8<0))).bind fun _=>some (decide (bits .and .u8 x1 ((255:Int).fdiv (2 ^ (min ((a0.2).tmod 8).toNat 8)))=0)))).bind fun z3=>some ((decide ((a0.2).tmod 8=0) || z3)))
noncomputable def Zdx (a0:Tapi_Bits):Option (Tapi_Bits) :=
 (chk (0≤(a0.1.length:Int)∧(a0.1.length:Int)≤140737488355328)).bind fun _=>some (((a0.1).take (min (a0.1.length) ((((a0.1.length:Int)).toNat)))++(List.replicate (((a0.1.length:Int)).toNat) 0).drop (min (a0.1.length) ((((a0.1.length:Int)).toNat))),a0.2))
noncomputable def XH (a0:Tapi_Bits) (p6:(List Int)):Option Tapi_Bits :=
 some ((p6,IntKind.i64.wrap (a0.2+1)))
noncomputable def Xu (a1:Bool) (a0:Tapi_Bits) (p2:(List Int)):Option Tapi_Bits :=
 (if a1=true then (inA (p2.length) (IntKind.i64.wrap ((a0.2).tdiv 8))).bind fun j7=>((p2)[j7]?).bind fun x8=>(chk (¬ ((a0.2).tmod 8<0))).bind fun _=>XH a0 ((p2).set j7 (bits .or .u8 x8 ((128:Int).fdiv (2 ^ (min ((a0.2).tmod 8).toNat 8))))) else XH a0 p2)
noncomputable def X2 (a0:Tapi_Bits) (a1:Bool):Option (Tapi_Bits) :=
 (if (a0.2).tmod 8=0 then (chk (a0.1.length+1≤140737488355328)).bind fun _=>Xu a1 a0 (a0.1++[0]) else Xu a1 a0 a0.1)
noncomputable def Zam (a2:Int) (a1:Int):(Int×Int×(List Int))→Option ((Int×Int×(List Int)) ⊕ (Tapi_Bits))
 | (p8,p9,p10)=>(if p8<a2 then (chk (¬ (IntKind.i64.wrap ((IntKind.i64.wrap (a2-1))-p8)<0))).bind fun _=>(X2 (p10,p9) (decide (bits .and .u64 ((a1).fdiv (2 ^ (min (IntKind.i64.wrap ((IntKind.i64.wrap (a2-1))-p8)).toNat 64))) 1=1))).bind fun y12=>some (.inl (IntKind.i64.wrap (p8+1),y12.2,y12.1)) else some (.inr ((p10,p9))))
noncomputable def Zaj (a0:Tapi_Bits) (a1:Int) (a2:Int):Option (Tapi_Bits) :=
 Zf (Zam a2 a1) (0,a0.2,a0.1)
noncomputable def ZdM (p11:(List Int)) (p10:Int) (a1:Int) (a2:Int):Option (Tapi_Bits×Int) :=
 (X2 (p11,p10) false).bind fun y13=>(Zaj (y13.1,y13.2) a1 a2).bind fun y14=>some (((y14.1,y14.2),0))
noncomputable def ZaO (a1:Int) (a2:Int):(Int×Int×(List Int))→Option ((Int×Int×(List Int)) ⊕ (Tapi_Bits×Int))
 | (p9,p10,p11)=>(if p9<(a1).fdiv (2 ^ (min (a2).toNat 64)) then (X2 (p11,p10) true).bind fun y15=>some (.inl (IntKind.u64.wrap (p9+1),y15.2,y15.1)) else (ZdM p11 p10 a1 a2).map Sum.inr)
noncomputable def Zau (a0:Tapi_Bits) (a1:Int) (a2:Int):Option (Tapi_Bits×Int) :=
 (Zdw a0).bind fun y1=>(if ¬ (y1=true) then some (((([]:(List Int)),0),6)) else (if (a2<0∨32<a2) then some (((([]:(List Int)),0),5)) else (chk (¬ (a2<0))).bind fun _=>(if (65536<(a1).fdiv (2 ^ (min (a2).toNat 64))∨1600000<IntKind.i64.wrap ((IntKind.i64.wrap ((IntKind.i64.wrap (a0.2+(IntKind.i64.wrap ((a1).fdiv (2 ^ (min (a2).toNat 64))))))+1))+a2)) then some (((([]:(List Int)),0),4)) else (Zdx a0).bind fun y3=>Zf (ZaO a1 a2) (0,y3.2,y3.1))))
noncomputable def ZeB (a0:(List Int)) (p12:(List Int)):Option (Tapi_Filter×Int) :=
 some ((((a0.length:Int),p12),0))
noncomputable def ZcG (a0:(List Int)) (a1:Int):(Int×Int×(List Int)×Int)→Option ((Int×Int×(List Int)×Int) ⊕ (Tapi_Filter×Int))
 | (p10,p11,p12,p13)=>(if p11<(a0.length:Int) then (idx (a0) (p11)).bind fun x16=>(Zau (p12,p13) (IntKind.u64.wrap (x16-p10)) a1).bind fun y17=>(if ¬ (y17.2=0) then some (.inr (((0,([]:(List Int))),y17.2))) else some (.inl (x16,IntKind.i64.wrap (p11+1),y17.1.1,y17.1.2))) else (ZeB a0 p12).map Sum.inr)
noncomputable def ZaZ (a0:(List Int)) (a1:Int):Option (Tapi_Filter×Int) :=
 (if 4096<(a0.length:Int) then some (((0,([]:(List Int))),4)) else (if (a1<0∨32<a1) then some (((0,([]:(List Int))),5)) else (YM a0).bind fun y1=>(if ¬ (y1=true) then some (((0,([]:(List Int))),6)) else Zf (ZcG a0 a1) (0,0,([]:(List Int)),0))))
noncomputable def Za0 (a0:Int) (a1:Int):Option (Int×Int) :=
 some ((IntKind.u64.wrap ((IntKind.u64.wrap ((IntKind.u64.wrap (((a0).fdiv 4294967296) * ((a1).fdiv 4294967296)))+((IntKind.u64.wrap ((IntKind.u64.wrap (((a0).fdiv 4294967296) * (bits .and .u64 a1 4294967295)))+((IntKind.u64.wrap ((bits .and .u64 a0 4294967295) * (bits .and .u64 a1 4294967295))).fdiv 4294967296))).fdiv 4294967296)))+((IntKind.u64.wrap ((bits .and .u64 (IntKind.u64.wrap ((IntKind.u64.wrap (((a0).fdiv 4294967296) * (bits .and .u64 a1 4294967295)))+((IntKind.u64.wrap ((bits .and .u64 a0 4294967295) * (bits .and .u64 a1 4294967295))).fdiv 4294967296))) 4294967295)+(IntKind.u64.wrap ((bits .and .u64 a0 4294967295) * ((a1).fdiv 4294967296))))).fdiv 4294967296)),IntKind.u64.wrap (a0 * a1)))
noncomputable def ZfG (a0:Int) (a1:Int):Option (Int) :=
 (Za0 a0 a1).bind fun y1=>some (y1.1)
noncomputable def ZI (a0:Int) (a1:Int):Option (Int) :=
 (chk (¬ (bits .and .u64 (IntKind.u64.wrap (a1)) 63<0))).bind fun _=>(chk (¬ (IntKind.u64.wrap (64-(bits .and .u64 (IntKind.u64.wrap (a1)) 63))<0))).bind fun _=>some (bits .or .u64 (IntKind.u64.wrap (a0 * (2 ^ (min (bits .and .u64 (IntKind.u64.wrap (a1)) 63).toNat 64)))) ((a0).fdiv (2 ^ (min (IntKind.u64.wrap (64-(bits .and .u64 (IntKind.u64.wrap (a1)) 63))).toNat 64))))
noncomputable def Zf3 (p20:(Arr 4)):Option (Arr 4) :=
 some (p20)
noncomputable def ZcL (a1:Int):(Int×(Arr 4))→Option ((Int×(Arr 4)) ⊕ ((Arr 4)))
 | (p19,p20)=>(if p19<a1 then (ZI ((p20.put 0 (IntKind.u64.wrap ((p20.at 0)+(p20.at 1)))).at 1) 13).bind fun y29=>(ZI ((((p20.put 0 (IntKind.u64.wrap ((p20.at 0)+(p20.at 1)))).put 1 y29).put 1 (bits .xor .u64 (((p20.put 0 (IntKind.u64.wrap ((p20.at 0)+(p20.at 1)))).put 1 y29).at 1) (((p20.put 0 (IntKind.u64.wrap ((p20.at 0)+(p20.at 1)))).put 1 y29).at 0))).at 0) 32).bind fun y30=>(some (((((p20.put 0 (IntKind.u64.wrap ((p20.at 0)+(p20.at 1)))).put 1 y29).put 1 (bits .xor .u64 (((p20.put 0 (IntKind.u64.wrap ((p20.at 0)+(p20.at 1)))).put 1 y29).at 1) (((p20.put 0 (IntKind.u64.wrap ((p20.at 0)+(p20.at 1)))).put 1 y29).at 0))).put 0 y30).put 2 (IntKind.u64.wrap ((((((p20.put 0 (IntKind.u64.wrap ((p20.at 0)+(p20.at 1)))).put 1 y29).put 1 (bits .xor .u64 (((p20.put 0 (IntKind.u64.wrap ((p20.at 0)+(p20.at 1)))).put 1 y29).at 1) (((p20.put 0 (IntKind.u64.wrap ((p20.at 0)+(p20.at 1)))).put 1 y29).at 0))).put 0 y30).at 2)+(((((p20.put 0 (IntKind.u64.wrap ((p20.at 0)+(p20.at 1)))).put 1 y29).put 1 (bits .xor .u64 (((p20.put 0 (IntKind.u64.wrap ((p20.at 0)+(p20.at 1)))).put 1 y29).at 1) (((p20.put 0 (IntKind.u64.wrap ((p20.at 0)+(p20.at 1)))).put 1 y29).at 0))).put 0 y30).at 3))))).bind fun x31=>(ZI (x31.at 3) 16).bind fun y32=>(ZI ((((x31.put 3 y32).put 3 (bits .xor .u64 ((x31.put 3 y32).at 3) ((x31.put 3 y32).at 2))).put 0 (IntKind.u64.wrap ((((x31.put 3 y32).put 3 (bits .xor .u64 ((x31.put 3 y32).at 3) ((x31.put 3 y32).at 2))).at 0)+(((x31.put 3 y32).put 3 (bits .xor .u64 ((x31.put 3 y32).at 3) ((x31.put 3 y32).at 2))).at 3)))).at 3) 21).bind fun y33=>(some (((((x31.put 3 y32).put 3 (bits .xor .u64 ((x31.put 3 y32).at 3) ((x31.put 3 y32).at 2))).put 0 (IntKind.u64.wrap ((((x31.put 3 y32).put 3 (bits .xor .u64 ((x31.put 3 y32).at 3) ((x31.put 3 y32).at 2))).at 0)+(((x31.put 3 y32).put 3 (bits .xor .u64 ((x31.put 3 y32).at 3) ((x31.put 3 y32).at 2))).at 3)))).put 3 y33).put 3 (bits .xor .u64 (((((x31.put 3 y32).put 3 (bits .xor .u64 ((x31.put 3 y32).at 3) ((x31.put 3 y32).at 2))).put 0 (IntKind.u64.wrap ((((x31.put 3 y32).put 3 (bits .xor .u64 ((x31.put 3 y32).at 3) ((x31.put 3 y32).at 2))).at 0)+(((x31.put 3 y32).put 3 (bits .xor .u64 ((x31.put 3 y32).at 3) ((x31.put 3 y32).at 2))).at 3)))).put 3 y33).at 3) (((((x31.put 3 y32).put 3 (bits .xor .u64 ((x31.put 3 y32).at 3) ((x31.put 3 y32).at 2))).put 0 (IntKind.u64.wrap ((((x31.put 3 y32).put 3 (bits .xor .u64 ((x31.put 3 y32).at 3) ((x31.put 3 y32).at 2))).at 0)+(((x31.put 3 y32).put 3 (bits .xor .u64 ((x31.put 3 y32).at 3) ((x31.put 3 y32).at 2))).at 3)))).put 3 y33).at 0)))).bind fun x34=>(ZI ((x34.put 2 (IntKind.u64.wrap ((x34.at 2)+(x34.at 1)))).at 1) 17).bind fun y35=>(ZI ((((x34.put 2 (IntKind.u64.wrap ((x34.at 2)+(x34.at 1)))).put 1 y35).put 1 (bits .xor .u64 (((x34.put 2 (IntKind.u64.wrap ((x34.at 2)+(x34.at 1)))).put 1 y35).at 1) (((x34.put 2 (IntKind.u64.wrap ((x34.at 2)+(x34.at 1)))).put 1 y35).at 2))).at 2) 32).bind fun y36=>some (.inl (IntKind.i64.wrap (p19+1),(((x34.put 2 (IntKind.u64.wrap ((x34.at 2)+(x34.at 1)))).put 1 y35).put 1 (bits .xor .u64 (((x34.put 2 (IntKind.u64.wrap ((x34.at 2)+(x34.at 1)))).put 1 y35).at 1) (((x34.put 2 (IntKind.u64.wrap ((x34.at 2)+(x34.at 1)))).put 1 y35).at 2))).put 2 y36)) else (Zf3 p20).map Sum.inr)
noncomputable def Zdy (a0:(Arr 4)) (a1:Int):Option ((Arr 4)) :=
 Zf (ZcL a1) (0,a0)
noncomputable def ZcB (a0:(Arr 4)) (a1:Int):Option ((Arr 4)) :=
 (Zdy (a0.put 3 (bits .xor .u64 (a0.at 3) a1)) 2).bind fun y1=>some (y1.put 0 (bits .xor .u64 (y1.at 0) a1))
noncomputable def ZhE (p7:Int):Option Int :=
 some (p7)
noncomputable def Zd0 (a0:(List Int)):(Int×Int)→Option ((Int×Int) ⊕ (Int))
 | (p7,p8)=>(if p8<(a0.length:Int) then (idx (a0) (p8)).bind fun x11=>(chk (¬ (IntKind.i64.wrap (8 * p8)<0))).bind fun _=>some (.inl (bits .or .u64 p7 (IntKind.u64.wrap ((IntKind.u64.wrap (x11)) * (2 ^ (min (IntKind.i64.wrap (8 * p8)).toNat 64)))),IntKind.i64.wrap (p8+1))) else (ZhE p7).map Sum.inr)
noncomputable def ZaK (a0:(List Int)):Option (Int) :=
 Zf (Zd0 a0) (0,0)
noncomputable def Zh5 (a1:(List Int)) (p10:(Arr 4)):Option Int :=
 (chk (0≤IntKind.i64.wrap (8 * (IntKind.i64.wrap (((a1.length:Int)).tdiv 8)))∧IntKind.i64.wrap (8 * (IntKind.i64.wrap (((a1.length:Int)).tdiv 8)))≤(a1.length:Int))).bind fun _=>(ZaK ((a1).drop ((IntKind.i64.wrap (8 * (IntKind.i64.wrap (((a1.length:Int)).tdiv 8)))).toNat))).bind fun y15=>(ZcB p10 (bits .or .u64 y15 (IntKind.u64.wrap ((IntKind.u64.wrap (((a1.length:Int)).tmod 256)) * 72057594037927936)))).bind fun y16=>(Zdy (y16.put 2 (bits .xor .u64 (y16.at 2) 255)) 4).bind fun y17=>some (bits .xor .u64 (bits .xor .u64 (bits .xor .u64 (y17.at 0) (y17.at 1)) (y17.at 2)) (y17.at 3))
noncomputable def ZeN (a1:(List Int)):(Int×(Arr 4))→Option ((Int×(Arr 4)) ⊕ (Int))
 | (p9,p10)=>(if p9<IntKind.i64.wrap (((a1.length:Int)).tdiv 8) then (chk (0≤IntKind.i64.wrap (8 * p9)∧IntKind.i64.wrap (8 * p9)≤IntKind.i64.wrap ((IntKind.i64.wrap (8 * p9))+8)∧IntKind.i64.wrap ((IntKind.i64.wrap (8 * p9))+8)≤(a1.length:Int))).bind fun _=>(ZaK (((a1).take ((IntKind.i64.wrap ((IntKind.i64.wrap (8 * p9))+8)).toNat)).drop ((IntKind.i64.wrap (8 * p9)).toNat))).bind fun y19=>(ZcB p10 y19).bind fun y20=>some (.inl (IntKind.i64.wrap (p9+1),y20)) else (Zh5 a1 p10).map Sum.inr)
noncomputable def Zf4 (a0:(Arr 2)) (a1:(List Int)):Option (Int) :=
 Zf (ZeN a1) (0,((((zA 4).put 0 (bits .xor .u64 (a0.at 0) 8317987319222330741)).put 1 (bits .xor .u64 (a0.at 1) 7237128888997146477)).put 2 (bits .xor .u64 (a0.at 0) 7816392313619706465)).put 3 (bits .xor .u64 (a0.at 1) 8387220255154660723))
noncomputable def ZhF (a0:Int):Option Int :=
 (chk (0≤a0∧a0≤4294967295)).bind fun _=>some (Lib.bitLen a0.toNat:Int)
noncomputable def X3 (a0:Int):Option Int :=
 (chk (0≤a0∧a0≤18446744073709551615)).bind fun _=>some (Lib.bitLen a0.toNat:Int)
noncomputable def Za1 (a0:Int):Option (Int) :=
 (X3 a0).bind fun y1=>some (y1)
noncomputable def XD (a0:Int):Option (Int) :=
 (Za1 (IntKind.u64.wrap (a0))).bind fun y1=>(chk (¬ (y1<0))).bind fun _=>some (IntKind.u64.wrap (1 * (2 ^ (min (y1).toNat 64))))
noncomputable def ZaA (a0:Int):Option (Int×Int) :=
 some ((bits .xor .u64 (bits .xor .u64 (bits .xor .u64 a0 (IntKind.u64.wrap (a0 * 8192))) ((bits .xor .u64 a0 (IntKind.u64.wrap (a0 * 8192))).fdiv 128)) (IntKind.u64.wrap ((bits .xor .u64 (bits .xor .u64 a0 (IntKind.u64.wrap (a0 * 8192))) ((bits .xor .u64 a0 (IntKind.u64.wrap (a0 * 8192))).fdiv 128)) * 131072)),bits .xor .u64 (bits .xor .u64 (bits .xor .u64 a0 (IntKind.u64.wrap (a0 * 8192))) ((bits .xor .u64 a0 (IntKind.u64.wrap (a0 * 8192))).fdiv 128)) (IntKind.u64.wrap ((bits .xor .u64 (bits .xor .u64 a0 (IntKind.u64.wrap (a0 * 8192))) ((bits .xor .u64 a0 (IntKind.u64.wrap (a0 * 8192))).fdiv 128)) * 131072))))
noncomputable def Ys (a0:(List Int)) (a1:Int) (a2:Int) (a3:Int):Option (Int×Int×Int) :=
 (idx (a0) (a2)).bind fun x1=>(idx (a0) (a1)).bind fun x2=>(ZL x1 x2).bind fun y3=>(if y3=true then some ((a2,a1,IntKind.i64.wrap (a3+1))) else some ((a1,a2,a3)))
noncomputable def YF (a0:(List Int)) (a1:Int) (a2:Int) (a3:Int) (a4:Int):Option (Int×Int) :=
 (Ys a0 a1 a2 a4).bind fun y1=>(Ys a0 y1.2.1 a3 y1.2.2).bind fun y2=>(Ys a0 y1.1 y2.1 y2.2.2).bind fun y3=>some ((y3.2.1,y3.2.2))
noncomputable def ZZ (a0:(List Int)) (a1:Int) (a2:Int):Option (Int×Int) :=
 (YF a0 (IntKind.i64.wrap (a1-1)) a1 (IntKind.i64.wrap (a1+1)) a2).bind fun y1=>some ((y1.1,y1.2))
noncomputable def Ye (p9:Int) (p10:Int):Option (Int×Int) :=
 (if p10=0 then some ((p9,1)) else (if p10=12 then some ((p9,2)) else some ((p9,0))))
noncomputable def Yf (a0:(List Int)) (p14:Int) (p15:Int) (p16:Int) (p17:Int):Option (Int×Int) :=
 (YF a0 p14 p15 p16 p17).bind fun y18=>Ye y18.1 y18.2
noncomputable def Yz (a0:(List Int)) (a1:Int) (a2:Int):Option (Int×Int) :=
 (if 8≤IntKind.i64.wrap (a2-a1) then (if 50≤IntKind.i64.wrap (a2-a1) then (ZZ a0 (IntKind.i64.wrap (a1+(IntKind.i64.wrap (IntKind.i64.wrap ((IntKind.i64.wrap (a2-a1)).tdiv 4))))) 0).bind fun y19=>(ZZ a0 (IntKind.i64.wrap (a1+(IntKind.i64.wrap ((IntKind.i64.wrap ((IntKind.i64.wrap (a2-a1)).tdiv 4)) * 2)))) y19.2).bind fun y20=>(ZZ a0 (IntKind.i64.wrap (a1+(IntKind.i64.wrap ((IntKind.i64.wrap ((IntKind.i64.wrap (a2-a1)).tdiv 4)) * 3)))) y20.2).bind fun y21=>Yf a0 y19.1 y20.1 y21.1 y21.2 else Yf a0 (IntKind.i64.wrap (a1+(IntKind.i64.wrap (IntKind.i64.wrap ((IntKind.i64.wrap (a2-a1)).tdiv 4))))) (IntKind.i64.wrap (a1+(IntKind.i64.wrap ((IntKind.i64.wrap ((IntKind.i64.wrap (a2-a1)).tdiv 4)) * 2)))) (IntKind.i64.wrap (a1+(IntKind.i64.wrap ((IntKind.i64.wrap ((IntKind.i64.wrap (a2-a1)).tdiv 4)) * 3)))) 0) else Ye (IntKind.i64.wrap (a1+(IntKind.i64.wrap ((IntKind.i64.wrap ((IntKind.i64.wrap (a2-a1)).tdiv 4)) * 2)))) 0)
noncomputable def Yo (p77:Int) (p104:(List Int)):Option ((Int×(List Int)) ⊕ ((List Int))) :=
 some (.inl (IntKind.i64.wrap (p77+1),p104))
noncomputable def Yc (a1:Int) (p77:Int):(Int×(List Int))→Option ((Int×(List Int)) ⊕ ((Int×(List Int)) ⊕ ((List Int))))
 | (p103,p104)=>((if a1<p103 then (inA (p104.length) (p103)).bind fun j116=>((p104)[j116]?).bind fun x117=>(inA (p104.length) (IntKind.i64.wrap (p103-1))).bind fun j118=>((p104)[j118]?).bind fun x119=>(ZL x117 x119).bind fun y120=>some (y120) else some (false))).bind fun z121=>(if (a1<p103∧z121=true) then (inA (p104.length) (IntKind.i64.wrap (p103-1))).bind fun j122=>((p104)[j122]?).bind fun x123=>(inA (p104.length) (p103)).bind fun j124=>((p104)[j124]?).bind fun x125=>(inA (((p104).set j124 x123).length) (IntKind.i64.wrap (p103-1))).bind fun j126=>some (.inl (IntKind.i64.wrap (p103-1),((p104).set j124 x123).set j126 x125)) else (Yo p77 p104).map Sum.inr)
noncomputable def YH (a2:Int) (a1:Int) (a0:(List Int)):(Int×(List Int))→Option ((Int×(List Int)) ⊕ ((List Int)))
 | (p77,p78)=>(if p77<a2 then Zf (Yc a1 p77) (p77,p78) else (chk (p78.length=a0.length)).bind fun _=>some (.inr (p78)))
noncomputable def Z2 (a0:(List Int)) (a1:Int) (a2:Int):Option ((List Int)) :=
 Zf (YH a2 a1 a0) (IntKind.i64.wrap (a1+1),a0)
noncomputable def ZW (p30:(List Int)) (a3:Int) (p29:Int) (a0:(List Int)) (p37:Int):Option ((Int×(List Int)) ⊕ ((List Int))) :=
 (inA (p30.length) (IntKind.i64.wrap (a3+p29))).bind fun j38=>((p30)[j38]?).bind fun x39=>(inA (p30.length) (IntKind.i64.wrap (a3+p37))).bind fun j40=>((p30)[j40]?).bind fun x41=>(ZL x39 x41).bind fun y42=>(if ¬ (y42=true) then (chk (p30.length=a0.length)).bind fun _=>some (.inr (p30)) else (inA (((p30).set j38 x41).length) (IntKind.i64.wrap (a3+p37))).bind fun j43=>some (.inl (p37,((p30).set j38 x41).set j43 x39)))
noncomputable def ZX (a2:Int) (a0:(List Int)) (a3:Int):(Int×(List Int))→Option ((Int×(List Int)) ⊕ ((List Int)))
 | (p29,p30)=>(if a2≤IntKind.i64.wrap ((IntKind.i64.wrap (2 * p29))+1) then (chk (p30.length=a0.length)).bind fun _=>some (.inr (p30)) else ((if IntKind.i64.wrap ((IntKind.i64.wrap ((IntKind.i64.wrap (2 * p29))+1))+1)<a2 then (inA (p30.length) (IntKind.i64.wrap (a3+(IntKind.i64.wrap ((IntKind.i64.wrap (2 * p29))+1))))).bind fun j31=>((p30)[j31]?).bind fun x32=>(inA (p30.length) (IntKind.i64.wrap ((IntKind.i64.wrap (a3+(IntKind.i64.wrap ((IntKind.i64.wrap (2 * p29))+1))))+1))).bind fun j33=>((p30)[j33]?).bind fun x34=>(ZL x32 x34).bind fun y35=>some (y35) else some (false))).bind fun z36=>(if (IntKind.i64.wrap ((IntKind.i64.wrap ((IntKind.i64.wrap (2 * p29))+1))+1)<a2∧z36=true) then ZW p30 a3 p29 a0 (IntKind.i64.wrap ((IntKind.i64.wrap ((IntKind.i64.wrap (2 * p29))+1))+1)) else ZW p30 a3 p29 a0 (IntKind.i64.wrap ((IntKind.i64.wrap (2 * p29))+1))))
noncomputable def YS (a0:(List Int)) (a1:Int) (a2:Int) (a3:Int):Option ((List Int)) :=
 Zf (ZX a2 a0 a3) (a1,a0)
noncomputable def Y9 (a1:Int) (a0:(List Int)):(Int×(List Int))→Option ((Int×(List Int)) ⊕ ((List Int)))
 | (p27,p28)=>(if 0≤p27 then (inA (p28.length) (IntKind.i64.wrap (a1+p27))).bind fun j29=>((p28)[j29]?).bind fun x30=>(inA (p28.length) (a1)).bind fun j31=>((p28)[j31]?).bind fun x32=>(inA (((p28).set j31 x30).length) (IntKind.i64.wrap (a1+p27))).bind fun j33=>(YS (((p28).set j31 x30).set j33 x32) 0 p27 a1).bind fun y34=>(chk (y34.length=(((p28).set j31 x30).set j33 x32).length)).bind fun _=>some (.inl (IntKind.i64.wrap (p27-1),y34)) else (chk (p28.length=a0.length)).bind fun _=>some (.inr (p28)))
noncomputable def X4 (a1:Int) (a0:(List Int)) (a2:Int) (p8:(List Int)):Option (List Int) :=
 Zf (Y9 a1 a0) (IntKind.i64.wrap ((IntKind.i64.wrap (a2-a1))-1),p8)
noncomputable def Xa (a2:Int) (a1:Int) (a0:(List Int)):(Int×(List Int))→Option ((Int×(List Int)) ⊕ ((List Int)))
 | (p7,p8)=>(if 0≤p7 then (YS p8 p7 (IntKind.i64.wrap (a2-a1)) a1).bind fun y36=>(chk (y36.length=p8.length)).bind fun _=>some (.inl (IntKind.i64.wrap (p7-1),y36)) else (X4 a1 a0 a2 p8).map Sum.inr)
noncomputable def YT (a0:(List Int)) (a1:Int) (a2:Int):Option ((List Int)) :=
 Zf (Xa a2 a1 a0) (IntKind.i64.wrap ((IntKind.i64.wrap ((IntKind.i64.wrap (a2-a1))-1)).tdiv 2),a0)
noncomputable def YK (a0:(List Int)):(Int×Int×(List Int))→Option ((Int×Int×(List Int)) ⊕ ((List Int)))
 | (p14,p15,p16)=>(if p14<p15 then (inA (p16.length) (p15)).bind fun j17=>((p16)[j17]?).bind fun x18=>(inA (p16.length) (p14)).bind fun j19=>((p16)[j19]?).bind fun x20=>(inA (((p16).set j19 x18).length) (p15)).bind fun j21=>some (.inl (IntKind.i64.wrap (p14+1),IntKind.i64.wrap (p15-1),((p16).set j19 x18).set j21 x20)) else (chk (p16.length=a0.length)).bind fun _=>some (.inr (p16)))
noncomputable def Yx (a0:(List Int)) (a1:Int) (a2:Int):Option ((List Int)) :=
 Zf (YK a0) (a1,IntKind.i64.wrap (a2-1),a0)
noncomputable def Xl (p148:(List Int)) (a0:(List Int)):Option (Bool×(List Int)) :=
 (chk (p148.length=a0.length)).bind fun _=>some ((false,p148))
noncomputable def Zw (p233:Int) (p147:Int) (p290:(List Int)):Option ((Int×Int×(List Int)) ⊕ (Bool×(List Int))) :=
 some (.inl (p233,IntKind.i64.wrap (p147+1),p290))
noncomputable def Z7 (a2:Int) (p233:Int) (p147:Int):(Int×(List Int))→Option ((Int×(List Int)) ⊕ ((Int×Int×(List Int)) ⊕ (Bool×(List Int))))
 | (p305,p306)=>(if p305<a2 then (inA (p306.length) (p305)).bind fun j307=>((p306)[j307]?).bind fun x308=>(inA (p306.length) (IntKind.i64.wrap (p305-1))).bind fun j309=>((p306)[j309]?).bind fun x310=>(ZL x308 x310).bind fun y311=>(if ¬ (y311=true) then (Zw p233 p147 p306).map Sum.inr else (inA (((p306).set j307 x310).length) (IntKind.i64.wrap (p305-1))).bind fun j312=>some (.inl (IntKind.i64.wrap (p305+1),((p306).set j307 x310).set j312 x308))) else (Zw p233 p147 p306).map Sum.inr)
noncomputable def Zx (a2:Int) (p233:Int) (p147:Int) (p267:(List Int)):Option ((Int×Int×(List Int)) ⊕ (Bool×(List Int))) :=
 (if 2≤IntKind.i64.wrap (a2-p233) then Zf (Z7 a2 p233 p147) (IntKind.i64.wrap (p233+1),p267) else Zw p233 p147 p267)
noncomputable def Z8 (a2:Int) (p233:Int) (p147:Int):(Int×(List Int))→Option ((Int×(List Int)) ⊕ ((Int×Int×(List Int)) ⊕ (Bool×(List Int))))
 | (p327,p328)=>(if 1≤p327 then (inA (p328.length) (p327)).bind fun j329=>((p328)[j329]?).bind fun x330=>(inA (p328.length) (IntKind.i64.wrap (p327-1))).bind fun j331=>((p328)[j331]?).bind fun x332=>(ZL x330 x332).bind fun y333=>(if ¬ (y333=true) then (Zx a2 p233 p147 p328).map Sum.inr else (inA (((p328).set j329 x332).length) (IntKind.i64.wrap (p327-1))).bind fun j334=>some (.inl (IntKind.i64.wrap (p327-1),((p328).set j329 x332).set j334 x330))) else (Zx a2 p233 p147 p328).map Sum.inr)
noncomputable def Zy (p233:Int) (a2:Int) (p148:(List Int)) (a0:(List Int)) (a1:Int) (p147:Int):Option ((Int×Int×(List Int)) ⊕ (Bool×(List Int))) :=
 (if p233=a2 then (chk (p148.length=a0.length)).bind fun _=>some (.inr ((true,p148))) else (if IntKind.i64.wrap (a2-a1)<50 then (chk (p148.length=a0.length)).bind fun _=>some (.inr ((false,p148))) else (inA (p148.length) (IntKind.i64.wrap (p233-1))).bind fun j240=>((p148)[j240]?).bind fun x241=>(inA (p148.length) (p233)).bind fun j242=>((p148)[j242]?).bind fun x243=>(inA (((p148).set j242 x241).length) (IntKind.i64.wrap (p233-1))).bind fun j244=>(if 2≤IntKind.i64.wrap (p233-a1) then Zf (Z8 a2 p233 p147) (IntKind.i64.wrap (p233-1),((p148).set j242 x241).set j244 x243) else Zx a2 p233 p147 (((p148).set j242 x241).set j244 x243))))
noncomputable def Z9 (a2:Int) (p148:(List Int)) (a0:(List Int)) (a1:Int) (p147:Int):Int→Option ((Int) ⊕ ((Int×Int×(List Int)) ⊕ (Bool×(List Int))))
 | p233=>((if p233<a2 then (inA (p148.length) (p233)).bind fun j335=>((p148)[j335]?).bind fun x336=>(inA (p148.length) (IntKind.i64.wrap (p233-1))).bind fun j337=>((p148)[j337]?).bind fun x338=>(ZL x336 x338).bind fun y339=>some (!(y339)) else some (false))).bind fun z340=>(if (p233<a2∧z340=true) then some (.inl (IntKind.i64.wrap (p233+1))) else (Zy p233 a2 p148 a0 a1 p147).map Sum.inr)
noncomputable def ZQ (a2:Int) (a0:(List Int)) (a1:Int):(Int×Int×(List Int))→Option ((Int×Int×(List Int)) ⊕ (Bool×(List Int)))
 | (p146,p147,p148)=>(if p147<5 then Zf (Z9 a2 p148 a0 a1 p147) p146 else (Xl p148 a0).map Sum.inr)
noncomputable def Yd (a0:(List Int)) (a1:Int) (a2:Int):Option (Bool×(List Int)) :=
 Zf (ZQ a2 a0 a1) (IntKind.i64.wrap (a1+1),0,a0)
noncomputable def Xy (p101:(List Int)) (a0:(List Int)) (p147:Int):Option (Int×(List Int)) :=
 (chk (p101.length=a0.length)).bind fun _=>some ((p147,p101))
noncomputable def ZF (p181:Int) (p161:Int) (p101:(List Int)) (a0:(List Int)):Option ((Int×Int×(List Int)) ⊕ (Int×(List Int))) :=
 (if p181<p161 then (Xy p101 a0 p161).map Sum.inr else (inA (p101.length) (p181)).bind fun j188=>((p101)[j188]?).bind fun x189=>(inA (p101.length) (p161)).bind fun j190=>((p101)[j190]?).bind fun x191=>(inA (((p101).set j190 x189).length) (p181)).bind fun j192=>some (.inl (IntKind.i64.wrap (p161+1),IntKind.i64.wrap (p181-1),((p101).set j190 x189).set j192 x191)))
noncomputable def YA (p161:Int) (p101:(List Int)) (a1:Int) (a0:(List Int)):Int→Option ((Int) ⊕ ((Int×Int×(List Int)) ⊕ (Int×(List Int))))
 | p181=>((if p161≤p181 then (inA (p101.length) (a1)).bind fun j193=>((p101)[j193]?).bind fun x194=>(inA (p101.length) (p181)).bind fun j195=>((p101)[j195]?).bind fun x196=>(ZL x194 x196).bind fun y197=>some (y197) else some (false))).bind fun z198=>(if (p161≤p181∧z198=true) then some (.inl (IntKind.i64.wrap (p181-1))) else (ZF p181 p161 p101 a0).map Sum.inr)
noncomputable def Ya (p161:Int) (p101:(List Int)) (a1:Int) (a0:(List Int)) (p100:Int):Option ((Int×Int×(List Int)) ⊕ (Int×(List Int))) :=
 Zf (YA p161 p101 a1 a0) p100
noncomputable def YB (p100:Int) (p101:(List Int)) (a1:Int) (a0:(List Int)):Int→Option ((Int) ⊕ ((Int×Int×(List Int)) ⊕ (Int×(List Int))))
 | p161=>((if p161≤p100 then (inA (p101.length) (a1)).bind fun j199=>((p101)[j199]?).bind fun x200=>(inA (p101.length) (p161)).bind fun j201=>((p101)[j201]?).bind fun x202=>(ZL x200 x202).bind fun y203=>some (!(y203)) else some (false))).bind fun z204=>(if (p161≤p100∧z204=true) then some (.inl (IntKind.i64.wrap (p161+1))) else (Ya p161 p101 a1 a0 p100).map Sum.inr)
noncomputable def YC (a1:Int) (a0:(List Int)):(Int×Int×(List Int))→Option ((Int×Int×(List Int)) ⊕ (Int×(List Int)))
 | (p99,p100,p101)=>Zf (YB p100 p101 a1 a0) p99
noncomputable def ZP (a0:(List Int)) (a1:Int) (a2:Int) (a3:Int):Option (Int×(List Int)) :=
 (inA (a0.length) (a3)).bind fun j1=>((a0)[j1]?).bind fun x2=>(inA (a0.length) (a1)).bind fun j3=>((a0)[j3]?).bind fun x4=>(inA (((a0).set j3 x2).length) (a3)).bind fun j5=>Zf (YC a1 a0) (IntKind.i64.wrap (a1+1),IntKind.i64.wrap (a2-1),((a0).set j3 x2).set j5 x4)
noncomputable def Xo (p151:(List Int)) (a1:Int) (a0:(List Int)) (p197:Int):Option (Int×Bool×(List Int)) :=
 (inA (p151.length) (a1)).bind fun j198=>((p151)[j198]?).bind fun x199=>(inA (p151.length) (p197)).bind fun j200=>((p151)[j200]?).bind fun x201=>(inA (((p151).set j200 x199).length) (a1)).bind fun j202=>(chk ((((p151).set j200 x199).set j202 x201).length=a0.length)).bind fun _=>some ((p197,false,((p151).set j200 x199).set j202 x201))
noncomputable def ZR (p236:Int) (p216:Int) (p151:(List Int)) (a1:Int) (a0:(List Int)):Option ((Int×Int×(List Int)) ⊕ (Int×Bool×(List Int))) :=
 (if p236<p216 then (Xo p151 a1 a0 p236).map Sum.inr else (inA (p151.length) (p236)).bind fun j243=>((p151)[j243]?).bind fun x244=>(inA (p151.length) (p216)).bind fun j245=>((p151)[j245]?).bind fun x246=>(inA (((p151).set j245 x244).length) (p236)).bind fun j247=>some (.inl (IntKind.i64.wrap (p216+1),IntKind.i64.wrap (p236-1),((p151).set j245 x244).set j247 x246)))
noncomputable def YY (p216:Int) (p151:(List Int)) (a1:Int) (a0:(List Int)):Int→Option ((Int) ⊕ ((Int×Int×(List Int)) ⊕ (Int×Bool×(List Int))))
 | p236=>((if p216≤p236 then (inA (p151.length) (p236)).bind fun j248=>((p151)[j248]?).bind fun x249=>(inA (p151.length) (a1)).bind fun j250=>((p151)[j250]?).bind fun x251=>(ZL x249 x251).bind fun y252=>some (!(y252)) else some (false))).bind fun z253=>(if (p216≤p236∧z253=true) then some (.inl (IntKind.i64.wrap (p236-1))) else (ZR p236 p216 p151 a1 a0).map Sum.inr)
noncomputable def Yk (p216:Int) (p151:(List Int)) (a1:Int) (a0:(List Int)) (p150:Int):Option ((Int×Int×(List Int)) ⊕ (Int×Bool×(List Int))) :=
 Zf (YY p216 p151 a1 a0) p150
noncomputable def YZ (p150:Int) (p151:(List Int)) (a1:Int) (a0:(List Int)):Int→Option ((Int) ⊕ ((Int×Int×(List Int)) ⊕ (Int×Bool×(List Int))))
 | p216=>((if p216≤p150 then (inA (p151.length) (p216)).bind fun j254=>((p151)[j254]?).bind fun x255=>(inA (p151.length) (a1)).bind fun j256=>((p151)[j256]?).bind fun x257=>(ZL x255 x257).bind fun y258=>some (y258) else some (false))).bind fun z259=>(if (p216≤p150∧z259=true) then some (.inl (IntKind.i64.wrap (p216+1))) else (Yk p216 p151 a1 a0 p150).map Sum.inr)
noncomputable def Y0 (a1:Int) (a0:(List Int)):(Int×Int×(List Int))→Option ((Int×Int×(List Int)) ⊕ (Int×Bool×(List Int)))
 | (p149,p150,p151)=>Zf (YZ p150 p151 a1 a0) p149
noncomputable def Yl (p39:Int) (p19:Int) (a0:(List Int)) (j3:Nat) (x2:Int) (j5:Nat) (x4:Int) (a1:Int):Option (Int×Bool×(List Int)) :=
 (if p39<p19 then (inA ((((a0).set j3 x2).set j5 x4).length) (a1)).bind fun j46=>((((a0).set j3 x2).set j5 x4)[j46]?).bind fun x47=>(inA ((((a0).set j3 x2).set j5 x4).length) (p39)).bind fun j48=>((((a0).set j3 x2).set j5 x4)[j48]?).bind fun x49=>(inA (((((a0).set j3 x2).set j5 x4).set j48 x47).length) (a1)).bind fun j50=>(chk ((((((a0).set j3 x2).set j5 x4).set j48 x47).set j50 x49).length=a0.length)).bind fun _=>some ((p39,true,((((a0).set j3 x2).set j5 x4).set j48 x47).set j50 x49)) else (inA ((((a0).set j3 x2).set j5 x4).length) (p39)).bind fun j51=>((((a0).set j3 x2).set j5 x4)[j51]?).bind fun x52=>(inA ((((a0).set j3 x2).set j5 x4).length) (p19)).bind fun j53=>((((a0).set j3 x2).set j5 x4)[j53]?).bind fun x54=>(inA (((((a0).set j3 x2).set j5 x4).set j53 x52).length) (p39)).bind fun j55=>Zf (Y0 a1 a0) (IntKind.i64.wrap (p19+1),IntKind.i64.wrap (p39-1),((((a0).set j3 x2).set j5 x4).set j53 x52).set j55 x54))
noncomputable def Y1 (p19:Int) (a0:(List Int)) (j3:Nat) (x2:Int) (j5:Nat) (x4:Int) (a1:Int):Int→Option ((Int) ⊕ (Int×Bool×(List Int)))
 | p39=>((if p19≤p39 then (inA ((((a0).set j3 x2).set j5 x4).length) (p39)).bind fun j260=>((((a0).set j3 x2).set j5 x4)[j260]?).bind fun x261=>(inA ((((a0).set j3 x2).set j5 x4).length) (a1)).bind fun j262=>((((a0).set j3 x2).set j5 x4)[j262]?).bind fun x263=>(ZL x261 x263).bind fun y264=>some (!(y264)) else some (false))).bind fun z265=>(if (p19≤p39∧z265=true) then some (.inl (IntKind.i64.wrap (p39-1))) else (Yl p39 p19 a0 j3 x2 j5 x4 a1).map Sum.inr)
noncomputable def Ym (p19:Int) (a0:(List Int)) (j3:Nat) (x2:Int) (j5:Nat) (x4:Int) (a1:Int) (a2:Int):Option (Int×Bool×(List Int)) :=
 Zf (Y1 p19 a0 j3 x2 j5 x4 a1) (IntKind.i64.wrap (a2-1))
noncomputable def Y2 (a2:Int) (a0:(List Int)) (j3:Nat) (x2:Int) (j5:Nat) (x4:Int) (a1:Int):Int→Option ((Int) ⊕ (Int×Bool×(List Int)))
 | p19=>((if p19≤IntKind.i64.wrap (a2-1) then (inA ((((a0).set j3 x2).set j5 x4).length) (p19)).bind fun j266=>((((a0).set j3 x2).set j5 x4)[j266]?).bind fun x267=>(inA ((((a0).set j3 x2).set j5 x4).length) (a1)).bind fun j268=>((((a0).set j3 x2).set j5 x4)[j268]?).bind fun x269=>(ZL x267 x269).bind fun y270=>some (y270) else some (false))).bind fun z271=>(if (p19≤IntKind.i64.wrap (a2-1)∧z271=true) then some (.inl (IntKind.i64.wrap (p19+1))) else (Ym p19 a0 j3 x2 j5 x4 a1 a2).map Sum.inr)
noncomputable def Z6 (a0:(List Int)) (a1:Int) (a2:Int) (a3:Int):Option (Int×Bool×(List Int)) :=
 (inA (a0.length) (a3)).bind fun j1=>((a0)[j1]?).bind fun x2=>(inA (a0.length) (a1)).bind fun j3=>((a0)[j3]?).bind fun x4=>(inA (((a0).set j3 x2).length) (a3)).bind fun j5=>Zf (Y2 a2 a0 j3 x2 j5 x4 a1) (IntKind.i64.wrap (a1+1))
noncomputable def ZS (p20:(List Int)) (a1:Int) (p19:Int) (y22:(Int×Int)) (p23:Int):Option ((Int×(List Int)×Int) ⊕ ((List Int))) :=
 (inA (p20.length) (IntKind.i64.wrap (a1+p23))).bind fun j24=>((p20)[j24]?).bind fun x25=>(inA (p20.length) (p19)).bind fun j26=>((p20)[j26]?).bind fun x27=>(inA (((p20).set j26 x25).length) (IntKind.i64.wrap (a1+p23))).bind fun j28=>some (.inl (IntKind.i64.wrap (p19+1),((p20).set j26 x25).set j28 x27,y22.2))
noncomputable def YI (a1:Int) (a2:Int) (y1:(Int)) (a0:(List Int)):(Int×(List Int)×Int)→Option ((Int×(List Int)×Int) ⊕ ((List Int)))
 | (p19,p20,p21)=>(if p19≤IntKind.i64.wrap ((IntKind.i64.wrap (a1+(IntKind.i64.wrap ((IntKind.i64.wrap ((IntKind.i64.wrap (a2-a1)).tdiv 4)) * 2))))+1) then (ZaA p21).bind fun y22=>(if IntKind.i64.wrap (a2-a1)≤IntKind.i64.wrap (bits .and .u64 y22.1 (IntKind.u64.wrap (y1-1))) then ZS p20 a1 p19 y22 (IntKind.i64.wrap ((IntKind.i64.wrap (bits .and .u64 y22.1 (IntKind.u64.wrap (y1-1))))-(IntKind.i64.wrap (a2-a1)))) else ZS p20 a1 p19 y22 (IntKind.i64.wrap (bits .and .u64 y22.1 (IntKind.u64.wrap (y1-1))))) else (chk (p20.length=a0.length)).bind fun _=>some (.inr (p20)))
noncomputable def Z3 (a0:(List Int)) (a1:Int) (a2:Int):Option ((List Int)) :=
 (if 8≤IntKind.i64.wrap (a2-a1) then (XD (IntKind.i64.wrap (a2-a1))).bind fun y1=>Zf (YI a1 a2 y1 a0) (IntKind.i64.wrap ((IntKind.i64.wrap (a1+(IntKind.i64.wrap ((IntKind.i64.wrap ((IntKind.i64.wrap (a2-a1)).tdiv 4)) * 2))))-1),a0,IntKind.u64.wrap (IntKind.i64.wrap (a2-a1))) else some (a0))
noncomputable def Zu (p101:Int) (p118:Int) (p102:Int) (p113:Int) (p104:Bool) (p105:Bool) (rf:(List Int)→Int→Int→Int→Option ((List Int))) (p123:(List Int)):Option ((Int×Int×Int×Bool×Bool×(List Int)) ⊕ ((List Int))) :=
 ((if 0<p101 then (inA (p123.length) (IntKind.i64.wrap (p101-1))).bind fun j124=>((p123)[j124]?).bind fun x125=>(inA (p123.length) (p118)).bind fun j126=>((p123)[j126]?).bind fun x127=>(ZL x125 x127).bind fun y128=>some (!(y128)) else some (false))).bind fun z129=>(if (0<p101∧z129=true) then (ZP p123 p101 p102 p118).bind fun y130=>(chk (y130.2.length=p123.length)).bind fun _=>some (.inl (y130.1,p102,p113,p104,p105,y130.2)) else (Z6 p123 p101 p102 p118).bind fun y132=>(chk (y132.2.2.length=p123.length)).bind fun _=>(if IntKind.i64.wrap (y132.1-p101)<IntKind.i64.wrap (p102-y132.1) then (rf y132.2.2 p101 y132.1 p113).bind fun y134=>(chk (y134.length=y132.2.2.length)).bind fun _=>some (.inl (IntKind.i64.wrap (y132.1+1),p102,p113,decide (IntKind.i64.wrap ((IntKind.i64.wrap (p102-p101)).tdiv 8)≤IntKind.i64.wrap (y132.1-p101)),y132.2.1,y134)) else (rf y132.2.2 (IntKind.i64.wrap (y132.1+1)) p102 p113).bind fun y136=>(chk (y136.length=y132.2.2.length)).bind fun _=>some (.inl (p101,y132.1,p113,decide (IntKind.i64.wrap ((IntKind.i64.wrap (p102-p101)).tdiv 8)≤IntKind.i64.wrap (p102-y132.1)),y132.2.1,y136))))
noncomputable def Zv (p104:Bool) (p105:Bool) (p101:Int) (p102:Int) (a0:(List Int)) (p113:Int) (rf:(List Int)→Int→Int→Int→Option ((List Int))) (p118:Int) (p119:Int) (p120:(List Int)):Option ((Int×Int×Int×Bool×Bool×(List Int)) ⊕ ((List Int))) :=
 (if ((p104=true∧p105=true)∧p119=1) then (Yd p120 p101 p102).bind fun y138=>(chk (y138.2.length=p120.length)).bind fun _=>(if y138.1=true then (chk (y138.2.length=a0.length)).bind fun _=>some (.inr (y138.2)) else Zu p101 p118 p102 p113 p104 p105 rf y138.2) else Zu p101 p118 p102 p113 p104 p105 rf p120)
noncomputable def ZG (p101:Int) (p102:Int) (p104:Bool) (p105:Bool) (a0:(List Int)) (rf:(List Int)→Int→Int→Int→Option ((List Int))) (p113:Int) (p114:(List Int)):Option ((Int×Int×Int×Bool×Bool×(List Int)) ⊕ ((List Int))) :=
 (Yz p114 p101 p102).bind fun y115=>(if y115.2=2 then (Yx p114 p101 p102).bind fun y140=>(chk (y140.length=p114.length)).bind fun _=>Zv p104 p105 p101 p102 a0 p113 rf (IntKind.i64.wrap ((IntKind.i64.wrap (p102-1))-(IntKind.i64.wrap (y115.1-p101)))) 1 y140 else Zv p104 p105 p101 p102 a0 p113 rf y115.1 y115.2 p114)
noncomputable def ZH (a0:(List Int)) (rf:(List Int)→Int→Int→Int→Option ((List Int))):(Int×Int×Int×Bool×Bool×(List Int))→Option ((Int×Int×Int×Bool×Bool×(List Int)) ⊕ ((List Int)))
 | (p101,p102,p103,p104,p105,p106)=>(if IntKind.i64.wrap (p102-p101)≤12 then (Z2 p106 p101 p102).bind fun y107=>(chk (y107.length=p106.length)).bind fun _=>(chk (y107.length=a0.length)).bind fun _=>some (.inr (y107)) else (if p103=0 then (YT p106 p101 p102).bind fun y109=>(chk (y109.length=p106.length)).bind fun _=>(chk (y109.length=a0.length)).bind fun _=>some (.inr (y109)) else (if ¬ (p104=true) then (Z3 p106 p101 p102).bind fun y142=>(chk (y142.length=p106.length)).bind fun _=>ZG p101 p102 p104 p105 a0 rf (IntKind.i64.wrap (p103-1)) y142 else ZG p101 p102 p104 p105 a0 rf p103 p106)))
noncomputable def Yu (rf:(List Int)→Int→Int→Int→Option ((List Int))) (a0:(List Int)) (a1:Int) (a2:Int) (a3:Int):Option ((List Int)) :=
 Zf (ZH a0 rf) (a1,a2,a3,true,true,a0)
noncomputable def Lslices_pdqsortOrdered_of_uint64_n:Nat→(List Int)→Int→Int→Int→Option ((List Int))
 | 0,_,_,_,_=>none
 | n+1,a0,a1,a2,a3=>Yu (Lslices_pdqsortOrdered_of_uint64_n n) a0 a1 a2 a3
noncomputable def XB (a0:(List Int)) (a1:Int) (a2:Int) (a3:Int):Option ((List Int)):=ZjD fun n=>Lslices_pdqsortOrdered_of_uint64_n n a0 a1 a2 a3
noncomputable def Xb (a0:(List Int)):Option ((List Int)) :=
 (Za1 (IntKind.u64.wrap ((a0.length:Int)))).bind fun y1=>(XB a0 0 (a0.length:Int) y1).bind fun y2=>(chk (y2.length=a0.length)).bind fun _=>(chk (y2.length=a0.length)).bind fun _=>some (y2)
noncomputable def ZeC (p11:(List Int)):Option (List Int) :=
 (Xb p11).bind fun y16=>(chk (y16.length=p11.length)).bind fun _=>some (y16)
noncomputable def ZbB (a1:(List (List Int))) (a0:(Arr 2)) (a2:Int) (a3:Int):(Int×(List Int))→Option ((Int×(List Int)) ⊕ ((List Int)))
 | (p10,p11)=>(if p10<(a1.length:Int) then (idx (a1) (p10)).bind fun x18=>(Zf4 a0 x18).bind fun y19=>(ZfG y19 (IntKind.u64.wrap ((IntKind.u64.wrap (a2)) * a3))).bind fun y20=>(chk (p11.length+1≤17592186044416)).bind fun _=>some (.inl (IntKind.i64.wrap (p10+1),p11++[y20])) else (ZeC p11).map Sum.inr)
noncomputable def ZbO (a0:(Arr 2)) (a1:(List (List Int))) (a2:Int) (a3:Int):Option ((List Int)) :=
 Zf (ZbB a1 a0 a2 a3) (0,[])
noncomputable def Zfh (a0:(Arr 2)) (p13:(List (List Int))) (a3:Int) (a2:Int):Option (Tapi_Filter×Int) :=
 (ZbO a0 p13 (p13.length:Int) a3).bind fun y18=>(ZaZ y18 a2).bind fun y19=>some ((y19.1,y19.2))
noncomputable def Zav (p11:Int) (p22:(List (ByteArray×Bool))) (p23:(List (List Int))):Option ((Int×(List (ByteArray×Bool))×(List (List Int))) ⊕ (Tapi_Filter×Int)) :=
 some (.inl (IntKind.i64.wrap (p11+1),p22,p23))
noncomputable def Za2 (a1:(List (List Int))) (a0:(Arr 2)) (a3:Int) (a2:Int):(Int×(List (ByteArray×Bool))×(List (List Int)))→Option ((Int×(List (ByteArray×Bool))×(List (List Int))) ⊕ (Tapi_Filter×Int))
 | (p11,p12,p13)=>(if p11<(a1.length:Int) then (idx (a1) (p11)).bind fun x20=>(if ¬ ((ZfE (ZcZ x20) p12).getD false=true) then (chk (p13.length+1≤5864062014805)).bind fun _=>Zav p11 (ZfF (ZcZ x20) true p12) (p13++[x20]) else Zav p11 p12 p13) else (Zfh a0 p13 a3 a2).map Sum.inr)
noncomputable def Zbu (a0:(Arr 2)) (a1:(List (List Int))) (a2:Int) (a3:Int):Option (Tapi_Filter×Int) :=
 (if 4096<(a1.length:Int) then some (((0,([]:(List Int))),4)) else (if (((a3<1∨1099511627776<a3)∨a2<0)∨32<a2) then some (((0,([]:(List Int))),5)) else Zf (Za2 a1 a0 a3 a2) (0,([]:(List (ByteArray×Bool))),[])))
noncomputable def Zen (a0:Tapi_Bits) (a1:Int):Option (Bool) :=
 (idx (a0.1) (IntKind.i64.wrap ((a1).tdiv 8))).bind fun x1=>(chk (¬ (IntKind.i64.wrap (7-((a1).tmod 8))<0))).bind fun _=>some (decide (bits .and .u8 ((x1).fdiv (2 ^ (min (IntKind.i64.wrap (7-((a1).tmod 8))).toNat 8))) 1=1))
noncomputable def Lref18_Valid_k1:Option Bool :=
 some (true)
noncomputable def Zcn (a0:Tapi_Bits):Int→Option ((Int) ⊕ (Bool))
 | p4=>(if p4<IntKind.i64.wrap (8 * (a0.1.length:Int)) then (Zen a0 p4).bind fun y6=>(if y6=true then some (.inr (false)) else some (.inl (IntKind.i64.wrap (p4+1)))) else (Lref18_Valid_k1).map Sum.inr)
noncomputable def ZcM (a0:Tapi_Bits):Option (Bool) :=
 (if ((a0.2<0∨1600000<a0.2)∨¬ ((a0.1.length:Int)=IntKind.i64.wrap ((IntKind.i64.wrap (a0.2+7)).tdiv 8))) then some (false) else Zf (Zcn a0) a0.2)
noncomputable def Zf5 (p8:(List Int)):Option (List Int) :=
 some (p8)
noncomputable def Zeo (a0:(List (List Int))):(Int×(List Int))→Option ((Int×(List Int)) ⊕ ((List Int)))
 | (p7,p8)=>(if p7<(a0.length:Int) then (idx (a0) (p7)).bind fun x11=>(YQ p8 x11).bind fun y12=>some (.inl (IntKind.i64.wrap (p7+1),y12)) else (Zf5 p8).map Sum.inr)
noncomputable def ZbH (a0:(List (List Int))):Option ((List Int)) :=
 Zf (Zeo a0) (0,([]:(List Int)))
noncomputable def Zbv (a0:Tapi_Bits) (p6:(List Int)):Option Tapi_Bits :=
 some ((p6,IntKind.i64.wrap (a0.2+1)))
noncomputable def ZaL (a1:Bool) (a0:Tapi_Bits) (p2:(List Int)):Option Tapi_Bits :=
 (if a1=true then (inA (p2.length) (IntKind.i64.wrap ((a0.2).tdiv 8))).bind fun j7=>((p2)[j7]?).bind fun x8=>(chk (¬ (IntKind.i64.wrap (7-((a0.2).tmod 8))<0))).bind fun _=>Zbv a0 ((p2).set j7 (bits .or .u8 x8 (IntKind.u8.wrap (1 * (2 ^ (min (IntKind.i64.wrap (7-((a0.2).tmod 8))).toNat 8)))))) else Zbv a0 p2)
noncomputable def Zco (a0:Tapi_Bits) (a1:Bool):Option (Tapi_Bits) :=
 (if (a0.2).tmod 8=0 then (chk (a0.1.length+1≤140737488355328)).bind fun _=>ZaL a1 a0 (a0.1++[0]) else ZaL a1 a0 a0.1)
noncomputable def Zc4 (p26:(List Int)) (p25:Int):Option (Tapi_Bits×Int) :=
 some (((p26,p25),0))
noncomputable def Zac (a1:Int):(Int×Int×(List Int))→Option ((Int×Int×(List Int)) ⊕ (Tapi_Bits×Int))
 | (p24,p25,p26)=>(if 0≤p24 then (chk (¬ (p24<0))).bind fun _=>(Zco (p26,p25) (decide (bits .and .u64 ((a1).fdiv (2 ^ (min (p24).toNat 64))) 1=1))).bind fun y30=>some (.inl (IntKind.i64.wrap (p24-1),y30.2,y30.1)) else (Zc4 p26 p25).map Sum.inr)
noncomputable def Zc5 (p14:(List Int)) (p13:Int) (a1:Int) (a2:Int):Option (Tapi_Bits×Int) :=
 (Zco (p14,p13) false).bind fun y16=>Zf (Zac a1) (IntKind.i64.wrap (a2-1),y16.2,y16.1)
noncomputable def ZaF (a1:Int) (a2:Int):(Int×Int×(List Int))→Option ((Int×Int×(List Int)) ⊕ (Tapi_Bits×Int))
 | (p12,p13,p14)=>(if 0<p12 then (Zco (p14,p13) true).bind fun y31=>some (.inl (IntKind.u64.wrap (p12-1),y31.2,y31.1)) else (Zc5 p14 p13 a1 a2).map Sum.inr)
noncomputable def Zaf (a0:Tapi_Bits) (a1:Int) (a2:Int):Option (Tapi_Bits×Int) :=
 (ZcM a0).bind fun y1=>(if ¬ (y1=true) then some (((([]:(List Int)),0),6)) else (if (a2<0∨32<a2) then some (((([]:(List Int)),0),5)) else (chk (¬ (a2<0))).bind fun _=>((if 65536<(a1).fdiv (2 ^ (min (a2).toNat 64)) then some (false) else (chk (¬ (a2<0))).bind fun _=>some (decide (1600000<IntKind.i64.wrap ((IntKind.i64.wrap ((IntKind.i64.wrap (a0.2+(IntKind.i64.wrap ((a1).fdiv (2 ^ (min (a2).toNat 64))))))+1))+a2))))).bind fun z4=>(if (65536<(a1).fdiv (2 ^ (min (a2).toNat 64))∨z4=true) then some (((([]:(List Int)),0),4)) else (ZbH [a0.1]).bind fun y5=>(chk (¬ (a2<0))).bind fun _=>Zf (ZaF a1 a2) ((a1).fdiv (2 ^ (min (a2).toNat 64)),a0.2,y5))))
noncomputable def Zfi (a0:(List Int)) (p19:(List Int)):Option (Tapi_Filter×Int) :=
 some ((((a0.length:Int),p19),0))
noncomputable def Zc6 (a0:(List Int)) (a1:Int):(Int×Int×(List Int)×Int)→Option ((Int×Int×(List Int)×Int) ⊕ (Tapi_Filter×Int))
 | (p17,p18,p19,p20)=>(if p18<(a0.length:Int) then (idx (a0) (p18)).bind fun x23=>(Zaf (p19,p20) (IntKind.u64.wrap (x23-p17)) a1).bind fun y24=>(if ¬ (y24.2=0) then some (.inr (((0,([]:(List Int))),y24.2))) else some (.inl (x23,IntKind.i64.wrap (p18+1),y24.1.1,y24.1.2))) else (Zfi a0 p19).map Sum.inr)
noncomputable def Zfj (a0:(List Int)) (a1:Int):Option (Tapi_Filter×Int) :=
 Zf (Zc6 a0 a1) (0,0,([]:(List Int)),0)
noncomputable def Za3 (a0:(List Int)) (a1:Int):Int→Option ((Int) ⊕ (Tapi_Filter×Int))
 | p6=>(if p6<(a0.length:Int) then (idx (a0) (IntKind.i64.wrap (p6-1))).bind fun x25=>(idx (a0) (p6)).bind fun x26=>(if x26<x25 then some (.inr (((0,([]:(List Int))),6))) else some (.inl (IntKind.i64.wrap (p6+1)))) else (Zfj a0 a1).map Sum.inr)
noncomputable def Zbw (a0:(List Int)) (a1:Int):Option (Tapi_Filter×Int) :=
 (if 4096<(a0.length:Int) then some (((0,([]:(List Int))),4)) else (if (a1<0∨32<a1) then some (((0,([]:(List Int))),5)) else Zf (Za3 a0 a1) 1))
noncomputable def Zba (a0:(List Int)) (a1:(List Int)):Option (Bool) :=
 some (decide (ZcZ a0=ZcZ a1))
noncomputable def Zdz (a0:Tapi_Filter) (a1:Tapi_Filter):Option (Bool) :=
 ((if a0.1=a1.1 then (Zba a0.2 a1.2).bind fun y1=>some (y1) else some (false))).bind fun z2=>some ((decide (a0.1=a1.1) && z2))
noncomputable def Lkeep_Items_k1:Option Bool :=
 some (true)
noncomputable def ZbP (a0:(List (List Int))) (a2:Int):Int→Option ((Int) ⊕ (Bool))
 | p4=>(if p4<(a0.length:Int) then (idx (a0) (p4)).bind fun x6=>(if a2<(x6.length:Int) then some (.inr (false)) else some (.inl (IntKind.i64.wrap (p4+1)))) else (Lkeep_Items_k1).map Sum.inr)
noncomputable def ZdA (a0:(List (List Int))) (a1:Int) (a2:Int):Option (Bool) :=
 (if a1<(a0.length:Int) then some (false) else Zf (ZbP a0 a2) 0)
noncomputable def ZdN (p35:(List (List Int))):Option (List (List Int)) :=
 some (p35)
noncomputable def Zak (p34:Int) (p67:(List (List Int))):Option ((Int×(List (List Int))) ⊕ ((List (List Int)))) :=
 some (.inl (IntKind.i64.wrap (p34+1),p67))
noncomputable def ZdO (p61:Bool) (p35:(List (List Int))) (p34:Int) (x52:(List Int)):Option ((Int×(List (List Int))) ⊕ ((List (List Int)))) :=
 (if ¬ (p61=true) then (chk (p35.length+1≤5864062014805)).bind fun _=>Zak p34 (p35++[x52]) else Zak p34 p35)
noncomputable def ZaP (a0:(List (List Int))) (p34:Int) (x52:(List Int)) (p35:(List (List Int))):(Bool×Int)→Option ((Bool×Int) ⊕ ((Int×(List (List Int))) ⊕ ((List (List Int)))))
 | (p61,p62)=>(if p62<(((a0).take ((p34).toNat)).length:Int) then (idx ((a0).take ((p34).toNat)) (p62)).bind fun x69=>((if p61=true then some (false) else (Zba x52 x69).bind fun y70=>some (y70))).bind fun z71=>some (.inl ((p61 || z71),IntKind.i64.wrap (p62+1))) else (ZdO p61 p35 p34 x52).map Sum.inr)
noncomputable def ZaQ (a0:(List (List Int))):(Int×(List (List Int)))→Option ((Int×(List (List Int))) ⊕ ((List (List Int))))
 | (p34,p35)=>(if p34<(a0.length:Int) then (idx (a0) (p34)).bind fun x52=>(chk (p34≤(a0.length:Int)∧0≤p34)).bind fun _=>Zf (ZaP a0 p34 x52 p35) (false,0) else (ZdN p35).map Sum.inr)
noncomputable def X5 (a0:(List (List Int))):Option ((List (List Int))) :=
 Zf (ZaQ a0) (0,[])
noncomputable def Zd1 (a0:Int) (a1:Int):Option (Int) :=
 (Za0 a0 a1).bind fun y1=>some (y1.1)
noncomputable def X6 (a0:(Arr 4)):Option ((Arr 4)) :=
 (ZI ((a0.put 0 (IntKind.u64.wrap ((a0.at 0)+(a0.at 1)))).at 1) 13).bind fun y1=>(ZI (((a0.put 0 (IntKind.u64.wrap ((a0.at 0)+(a0.at 1)))).put 1 (bits .xor .u64 y1 ((a0.put 0 (IntKind.u64.wrap ((a0.at 0)+(a0.at 1)))).at 0))).at 0) 32).bind fun y2=>(ZI (((((a0.put 0 (IntKind.u64.wrap ((a0.at 0)+(a0.at 1)))).put 1 (bits .xor .u64 y1 ((a0.put 0 (IntKind.u64.wrap ((a0.at 0)+(a0.at 1)))).at 0))).put 0 y2).put 2 (IntKind.u64.wrap (((((a0.put 0 (IntKind.u64.wrap ((a0.at 0)+(a0.at 1)))).put 1 (bits .xor .u64 y1 ((a0.put 0 (IntKind.u64.wrap ((a0.at 0)+(a0.at 1)))).at 0))).put 0 y2).at 2)+((((a0.put 0 (IntKind.u64.wrap ((a0.at 0)+(a0.at 1)))).put 1 (bits .xor .u64 y1 ((a0.put 0 (IntKind.u64.wrap ((a0.at 0)+(a0.at 1)))).at 0))).put 0 y2).at 3)))).at 3) 16).bind fun y3=>(some (((((a0.put 0 (IntKind.u64.wrap ((a0.at 0)+(a0.at 1)))).put 1 (bits .xor .u64 y1 ((a0.put 0 (IntKind.u64.wrap ((a0.at 0)+(a0.at 1)))).at 0))).put 0 y2).put 2 (IntKind.u64.wrap (((((a0.put 0 (IntKind.u64.wrap ((a0.at 0)+(a0.at 1)))).put 1 (bits .xor .u64 y1 ((a0.put 0 (IntKind.u64.wrap ((a0.at 0)+(a0.at 1)))).at 0))).put 0 y2).at 2)+((((a0.put 0 (IntKind.u64.wrap ((a0.at 0)+(a0.at 1)))).put 1 (bits .xor .u64 y1 ((a0.put 0 (IntKind.u64.wrap ((a0.at 0)+(a0.at 1)))).at 0))).put 0 y2).at 3)))).put 3 (bits .xor .u64 y3 (((((a0.put 0 (IntKind.u64.wrap ((a0.at 0)+(a0.at 1)))).put 1 (bits .xor .u64 y1 ((a0.put 0 (IntKind.u64.wrap ((a0.at 0)+(a0.at 1)))).at 0))).put 0 y2).put 2 (IntKind.u64.wrap (((((a0.put 0 (IntKind.u64.wrap ((a0.at 0)+(a0.at 1)))).put 1 (bits .xor .u64 y1 ((a0.put 0 (IntKind.u64.wrap ((a0.at 0)+(a0.at 1)))).at 0))).put 0 y2).at 2)+((((a0.put 0 (IntKind.u64.wrap ((a0.at 0)+(a0.at 1)))).put 1 (bits .xor .u64 y1 ((a0.put 0 (IntKind.u64.wrap ((a0.at 0)+(a0.at 1)))).at 0))).put 0 y2).at 3)))).at 2)))).bind fun x4=>(ZI ((x4.put 0 (IntKind.u64.wrap ((x4.at 0)+(x4.at 3)))).at 3) 21).bind fun y5=>(ZI ((((x4.put 0 (IntKind.u64.wrap ((x4.at 0)+(x4.at 3)))).put 3 (bits .xor .u64 y5 ((x4.put 0 (IntKind.u64.wrap ((x4.at 0)+(x4.at 3)))).at 0))).put 2 (IntKind.u64.wrap ((((x4.put 0 (IntKind.u64.wrap ((x4.at 0)+(x4.at 3)))).put 3 (bits .xor .u64 y5 ((x4.put 0 (IntKind.u64.wrap ((x4.at 0)+(x4.at 3)))).at 0))).at 2)+(((x4.put 0 (IntKind.u64.wrap ((x4.at 0)+(x4.at 3)))).put 3 (bits .xor .u64 y5 ((x4.put 0 (IntKind.u64.wrap ((x4.at 0)+(x4.at 3)))).at 0))).at 1)))).at 1) 17).bind fun y6=>(some ((((x4.put 0 (IntKind.u64.wrap ((x4.at 0)+(x4.at 3)))).put 3 (bits .xor .u64 y5 ((x4.put 0 (IntKind.u64.wrap ((x4.at 0)+(x4.at 3)))).at 0))).put 2 (IntKind.u64.wrap ((((x4.put 0 (IntKind.u64.wrap ((x4.at 0)+(x4.at 3)))).put 3 (bits .xor .u64 y5 ((x4.put 0 (IntKind.u64.wrap ((x4.at 0)+(x4.at 3)))).at 0))).at 2)+(((x4.put 0 (IntKind.u64.wrap ((x4.at 0)+(x4.at 3)))).put 3 (bits .xor .u64 y5 ((x4.put 0 (IntKind.u64.wrap ((x4.at 0)+(x4.at 3)))).at 0))).at 1)))).put 1 (bits .xor .u64 y6 ((((x4.put 0 (IntKind.u64.wrap ((x4.at 0)+(x4.at 3)))).put 3 (bits .xor .u64 y5 ((x4.put 0 (IntKind.u64.wrap ((x4.at 0)+(x4.at 3)))).at 0))).put 2 (IntKind.u64.wrap ((((x4.put 0 (IntKind.u64.wrap ((x4.at 0)+(x4.at 3)))).put 3 (bits .xor .u64 y5 ((x4.put 0 (IntKind.u64.wrap ((x4.at 0)+(x4.at 3)))).at 0))).at 2)+(((x4.put 0 (IntKind.u64.wrap ((x4.at 0)+(x4.at 3)))).put 3 (bits .xor .u64 y5 ((x4.put 0 (IntKind.u64.wrap ((x4.at 0)+(x4.at 3)))).at 0))).at 1)))).at 2)))).bind fun x7=>(ZI (x7.at 2) 32).bind fun y8=>some (x7.put 2 y8)
noncomputable def Zao (a0:(Arr 4)) (a1:Int):Option ((Arr 4)) :=
 (X6 (a0.put 3 (bits .xor .u64 (a0.at 3) a1))).bind fun y1=>(X6 y1).bind fun y2=>some (y2.put 0 (bits .xor .u64 (y2.at 0) a1))
noncomputable def Zik (p7:Int):Option Int :=
 some (p7)
noncomputable def Zil (a0:(List Int)):(Int×Int)→Option ((Int×Int) ⊕ (Int))
 | (p7,p8)=>(if p8<(a0.length:Int) then (idx (a0) (p8)).bind fun x11=>(chk (¬ (IntKind.i64.wrap (8 * p8)<0))).bind fun _=>some (.inl (bits .or .u64 p7 (IntKind.u64.wrap ((IntKind.u64.wrap (x11)) * (2 ^ (min (IntKind.i64.wrap (8 * p8)).toNat 64)))),IntKind.i64.wrap (p8+1))) else (Zik p7).map Sum.inr)
noncomputable def ZbI (a0:(List Int)):Option (Int) :=
 Zf (Zil a0) (0,0)
noncomputable def ZgR (p11:(List Int)) (p12:(Arr 4)) (a1:(List Int)):Option Int :=
 (ZbI p11).bind fun y17=>(Zao p12 (bits .or .u64 y17 (IntKind.u64.wrap ((IntKind.u64.wrap (((a1.length:Int)).tmod 256)) * 72057594037927936)))).bind fun y18=>(X6 (y18.put 2 (bits .xor .u64 (y18.at 2) 255))).bind fun y19=>(X6 y19).bind fun y20=>(X6 y20).bind fun y21=>(X6 y21).bind fun y22=>some (bits .xor .u64 (bits .xor .u64 (bits .xor .u64 (y22.at 0) (y22.at 1)) (y22.at 2)) (y22.at 3))
noncomputable def Zdl (a1:(List Int)):((List Int)×(Arr 4))→Option (((List Int)×(Arr 4)) ⊕ (Int))
 | (p11,p12)=>(if 8≤(p11.length:Int) then (chk (8≤(p11.length:Int))).bind fun _=>(ZbI ((p11).take 8)).bind fun y24=>(Zao p12 y24).bind fun y25=>(chk (8≤(p11.length:Int))).bind fun _=>some (.inl ((p11).drop 8,y25)) else (ZgR p11 p12 a1).map Sum.inr)
noncomputable def Zc7 (a0:(Arr 2)) (a1:(List Int)):Option (Int) :=
 Zf (Zdl a1) (a1,((((zA 4).put 0 (bits .xor .u64 (a0.at 0) 8317987319222330741)).put 1 (bits .xor .u64 (a0.at 1) 7237128888997146477)).put 2 (bits .xor .u64 (a0.at 0) 7816392313619706465)).put 3 (bits .xor .u64 (a0.at 1) 8387220255154660723))
noncomputable def Zbi (a0:(Arr 2)) (a1:(List Int)) (a2:Int) (a3:Int):Option (Int) :=
 (Zc7 a0 a1).bind fun y1=>(Zd1 y1 (IntKind.u64.wrap ((IntKind.u64.wrap (a2)) * a3))).bind fun y2=>some (y2)
noncomputable def Zaw (p29:(List Int)) (p27:(List Int)) (p28:(List Int)):Option (List Int) :=
 (chk (p29.length+p27.length≤17592186044416)).bind fun _=>(chk (p29.length+p27.length+p28.length≤17592186044416)).bind fun _=>some (p29++p27++p28)
noncomputable def Lref19_sorted_s1:((List Int)×(List Int)×(List Int))→Option (((List Int)×(List Int)×(List Int)) ⊕ ((List Int)))
 | (p27,p28,p29)=>(if (0<(p27.length:Int)∧0<(p28.length:Int)) then ((p27)[0]?).bind fun x38=>((p28)[0]?).bind fun x39=>(if x38≤x39 then (chk (p29.length+1≤17592186044416)).bind fun _=>(chk (1≤(p27.length:Int))).bind fun _=>some (.inl ((p27).drop 1,p28,p29++[x38])) else (chk (p29.length+1≤17592186044416)).bind fun _=>(chk (1≤(p28.length:Int))).bind fun _=>some (.inl (p27,(p28).drop 1,p29++[x39]))) else (Zaw p29 p27 p28).map Sum.inr)
noncomputable def Zcp (rf:(List Int)→Option ((List Int))) (a0:(List Int)):Option ((List Int)) :=
 (if (a0.length:Int)<2 then some (a0) else (chk (IntKind.i64.wrap (((a0.length:Int)).tdiv 2)≤(a0.length:Int)∧0≤IntKind.i64.wrap (((a0.length:Int)).tdiv 2))).bind fun _=>(rf ((a0).take ((IntKind.i64.wrap (((a0.length:Int)).tdiv 2)).toNat))).bind fun y2=>(chk (0≤IntKind.i64.wrap (((a0.length:Int)).tdiv 2)∧IntKind.i64.wrap (((a0.length:Int)).tdiv 2)≤(a0.length:Int))).bind fun _=>(rf ((a0).drop ((IntKind.i64.wrap (((a0.length:Int)).tdiv 2)).toNat))).bind fun y4=>Zf (Lref19_sorted_s1) (y2,y4,[]))
noncomputable def Lref19_sorted_n:Nat→(List Int)→Option ((List Int))
 | 0,_=>none
 | n+1,a0=>Zcp (Lref19_sorted_n n) a0
noncomputable def ZeX (a0:(List Int)):Option ((List Int)):=ZjD fun n=>Lref19_sorted_n n a0
noncomputable def ZfH (p12:(List Int)) (a2:Int):Option (Tapi_Filter×Int) :=
 (ZeX p12).bind fun y17=>(Zbw y17 a2).bind fun y18=>some ((y18.1,y18.2))
noncomputable def Zcq (y1:((List (List Int)))) (a0:(Arr 2)) (a3:Int) (a2:Int):(Int×(List Int))→Option ((Int×(List Int)) ⊕ (Tapi_Filter×Int))
 | (p11,p12)=>(if p11<(y1.length:Int) then (inA (y1.length) (p11)).bind fun j19=>((y1)[j19]?).bind fun x20=>(Zbi a0 x20 (y1.length:Int) a3).bind fun y21=>(chk (p12.length+1≤17592186044416)).bind fun _=>some (.inl (IntKind.i64.wrap (p11+1),p12++[y21])) else (ZfH p12 a2).map Sum.inr)
noncomputable def ZbY (a0:(Arr 2)) (a1:(List (List Int))) (a2:Int) (a3:Int):Option (Tapi_Filter×Int) :=
 (if 4096<(a1.length:Int) then some (((0,([]:(List Int))),4)) else (if (((a3<1∨1099511627776<a3)∨a2<0)∨32<a2) then some (((0,([]:(List Int))),5)) else (X5 a1).bind fun y1=>Zf (Zcq y1 a0 a3 a2) (0,[])))
def Zlf (x:(List (List Int))):Prop:=x.length≤maxLen∧∀ a∈x,ZiX a
end
section
set_option maxRecDepth 100000
noncomputable def Zbr (a0:Int):Option ((Arr 4)) :=
 some ((zA 4).put 0 a0)
end
section
set_option maxRecDepth 100000
noncomputable def Lref02_Cmp_k1:Option Int :=
 some (0)
noncomputable def ZeY (a0:(Arr 4)) (a1:(Arr 4)):Int→Option ((Int) ⊕ (Int))
 | p3=>(if 0≤p3 then (inA (4) (p3)).bind fun j5=>(if a0.at j5<a1.at j5 then some (.inr ((-1))) else (if a1.at j5<a0.at j5 then some (.inr (1)) else some (.inl (IntKind.i64.wrap (p3-1))))) else (Lref02_Cmp_k1).map Sum.inr)
noncomputable def ZfI (a0:(Arr 4)) (a1:(Arr 4)):Option (Int) :=
 Zf (ZeY a0 a1) 3
noncomputable def Zc8 (a0:(Arr 4)) (a1:Int):Option (Bool) :=
 (inA (4) (IntKind.i64.wrap ((a1).tdiv 64))).bind fun j1=>(chk (¬ ((a1).tmod 64<0))).bind fun _=>some (decide (bits .and .u64 ((a0.at j1).fdiv (2 ^ (min ((a1).tmod 64).toNat 64))) 1=1))
noncomputable def ZeZ (p12:(Arr 4)):Option (Arr 4) :=
 some (p12)
noncomputable def Zbx (p11:Int) (p20:(Arr 4)):Option ((Int×(Arr 4)) ⊕ ((Arr 4))) :=
 some (.inl (IntKind.i64.wrap (p11+1),p20))
noncomputable def Ze0 (a1:Int) (a0:(Arr 4)):(Int×(Arr 4))→Option ((Int×(Arr 4)) ⊕ ((Arr 4)))
 | (p11,p12)=>(if IntKind.i64.wrap (p11+a1)<256 then (Zc8 a0 (IntKind.i64.wrap (p11+a1))).bind fun y17=>(if y17=true then (inA (4) (IntKind.i64.wrap ((p11).tdiv 64))).bind fun j21=>(chk (¬ ((p11).tmod 64<0))).bind fun _=>Zbx p11 (p12.put j21 (bits .or .u64 (p12.at j21) (IntKind.u64.wrap (1 * (2 ^ (min ((p11).tmod 64).toNat 64)))))) else Zbx p11 p12) else (ZeZ p12).map Sum.inr)
noncomputable def Zc9 (a0:(Arr 4)) (a1:Int):Option ((Arr 4)) :=
 (if a1≤0 then some (a0) else (if 256≤a1 then some (zA 4) else Zf (Ze0 a1 a0) (0,zA 4)))
end
end Go.Lc
