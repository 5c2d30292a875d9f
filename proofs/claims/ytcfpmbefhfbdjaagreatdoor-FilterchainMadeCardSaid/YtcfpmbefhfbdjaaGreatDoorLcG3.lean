import Derived.Test.YtcfpmbefhfbdjaaGreatDoorLcG2
import Derived.Test.YtcfpmbefhfbdjaaGreatDoorLcG1
import Derived.IntWalk
import Derived.Test.YtcfpmbefhfbdjaaGreatDoorAvP3
namespace Go.Lc
open Go.RowKit
open Go.Av
set_option linter.unusedVariables false
set_option linter.unusedSimpArgs false
section
set_option maxRecDepth 100000
abbrev Tapi_Header:=Int×(Arr 32)×(Arr 32)×Int×Int×Int
abbrev Tapi_Block:=Tapi_Header×(List Tapi_Tx)
abbrev Tapi_Checkpoint:=Int×(Arr 32)
abbrev Tapi_Params:=Tapi_Header×(Arr 4)×Int×Int×Int×Int×(List Tapi_Checkpoint)×Int×Int×Int
abbrev Tapi_Ledger:=Int×(Arr 32)×(List Tapi_Coin)
abbrev Tapi_Context:=Int×(Arr 32)×Int×Int×(List Int)
abbrev Tlightclientmade_World:=Tapi_Params×(List Tapi_Block)×(List Tapi_Ledger)×(List Tapi_Context)×(List (List Tapi_Coin))
noncomputable def Yo (a0:(List Int)):Option (List Int) :=
 (chk (a0.length≤140737488355328)).bind fun _=>some (a0)
noncomputable def Za6 (p65:(List (List Int))):Option (List (List Int)) :=
 some (p65)
noncomputable def Xn (p64:Int) (p124:(List (List Int))):Option ((Int×(List (List Int))) ⊕ ((List (List Int)))) :=
 some (.inl (IntKind.i64.wrap (p64+1),p124))
noncomputable def ZhX (x97:Tapi_Tx) (p64:Int):(Int×(List (List Int)))→Option ((Int×(List (List Int))) ⊕ ((Int×(List (List Int))) ⊕ ((List (List Int)))))
 | (p123,p124)=>(if p123<(x97.2.1.length:Int) then(idx (x97.2.1) (p123)).bind fun x128=>(Zep x128.1).bind fun y129=>(chk (p124.length+1≤5864062014805)).bind fun _=>some (.inl (IntKind.i64.wrap (p123+1),p124++[y129])) else(Xn p64 p124).map Sum.inr)
noncomputable def Xo (x97:Tapi_Tx) (p64:Int) (p109:(List (List Int))):Option ((Int×(List (List Int))) ⊕ ((List (List Int)))) :=
 (ZcQ x97).bind fun y114=>(if y114=true then some (.inl (IntKind.i64.wrap (p64+1),p109)) else Zd (ZhX x97 p64) (0,p109))
noncomputable def XY (p108:Int) (p134:(List (List Int))):Option ((Int×(List (List Int))) ⊕ ((Int×(List (List Int))) ⊕ ((List (List Int))))) :=
 some (.inl (IntKind.i64.wrap (p108+1),p134))
noncomputable def ZhY (x97:Tapi_Tx) (p64:Int):(Int×(List (List Int)))→Option ((Int×(List (List Int))) ⊕ ((Int×(List (List Int))) ⊕ ((List (List Int)))))
 | (p108,p109)=>(if p108<(x97.2.2.1.length:Int) then(idx (x97.2.2.1) (p108)).bind fun x131=>(if 0<(x131.2.length:Int) then(Yo x131.2).bind fun y135=>(chk (p109.length+1≤5864062014805)).bind fun _=>XY p108 (p109++[y135]) else XY p108 p109) else(Xo x97 p64 p109).map Sum.inr)
noncomputable def Zdd (a0:Tapi_Block):(Int×(List (List Int)))→Option ((Int×(List (List Int))) ⊕ ((List (List Int))))
 | (p64,p65)=>(if p64<(a0.2.length:Int) then(idx (a0.2) (p64)).bind fun x97=>Zd (ZhY x97 p64) (0,p65) else(Za6 p65).map Sum.inr)
noncomputable def Zbi (a0:Tapi_Block):Option ((List (List Int))) :=
 Zd (Zdd a0) (0,[])
noncomputable def Xp (a0:Tapi_Header):Option ((List Int)) :=
 (Z5 ([]:(List Int)) a0.1).bind fun y1=>(Xj y1 a0.2.1).bind fun y2=>(Xj y2 a0.2.2.1).bind fun y3=>(Z5 y3 a0.2.2.2.1).bind fun y4=>(Z5 y4 a0.2.2.2.2.1).bind fun y5=>(Z5 y5 a0.2.2.2.2.2).bind fun y6=>some (y6)
noncomputable def ZeE (p12:(List Int)):Option ((List Int)×Int) :=
 (if 100000<(p12.length:Int) then some ((([]:(List Int)),4)) else some ((p12,0)))
noncomputable def Zbj (a0:Tapi_Block):(Int×(List Int))→Option ((Int×(List Int)) ⊕ ((List Int)×Int))
 | (p11,p12)=>(if p11<(a0.2.length:Int) then(idx (a0.2) (p11)).bind fun x16=>(Zf3 x16 true).bind fun y17=>(if ¬ (y17.2=0) then some (.inr ((([]:(List Int)),4))) else(chk (p12.length+y17.1.length≤140737488355328)).bind fun _=>some (.inl (IntKind.i64.wrap (p11+1),p12++y17.1))) else(ZeE p12).map Sum.inr)
noncomputable def Zdm (a0:Tapi_Block):Option ((List Int)×Int) :=
 (if 256<(a0.2.length:Int) then some ((([]:(List Int)),4)) else(Xp a0.1).bind fun y1=>(Yq y1 (IntKind.u64.wrap ((a0.2.length:Int)))).bind fun y2=>Zd (Zbj a0) (0,y2))
noncomputable def Zh9 (a0:(Arr 32)):Option ((Arr 2)) :=
 (ZbJ ((a0.l).take 8)).bind fun y1=>(ZbJ (((a0.l).drop 8).take 8)).bind fun y2=>some ((⟨[y1,y2],rfl⟩:Arr 2))
noncomputable def Zfi (a0:Tapi_Header):Option ((Arr 32)) :=
 (Xp a0).bind fun y1=>(Zcp y1).bind fun y2=>some (y2)
noncomputable def Zd8 (a0:Int) (a1:Int) (a2:(List Int)):Option (Tapi_Tx) :=
 (Lmade_Null).bind fun y1=>some ((1,[(y1,IntKind.u32.wrap (a0),([]:(List (List Int))))],[(a1,a2)],0))
noncomputable def Zbs (a0:(Arr 4)):Option (Bool) :=
 some (decide (a0=zA 4))
noncomputable def Lref02_Len_k1:Option Int :=
 some (0)
noncomputable def ZgT (a0:(Arr 4)):Int→Option ((Int) ⊕ (Int))
 | p4=>(if 0≤p4 then(ZaL a0 p4).bind fun y6=>(if y6=true then some (.inr (IntKind.i64.wrap (p4+1))) else some (.inl (IntKind.i64.wrap (p4-1)))) else(Lref02_Len_k1).map Sum.inr)
noncomputable def Zbt (a0:(Arr 4)):Option (Int) :=
 Zd (ZgT a0) 255
noncomputable def Xc (a0:Int) (a1:Int) (a2:Int):Option (Int×Int) :=
 (chk ((0≤a0∧0≤a1)∧(a1≤18446744073709551615∧0≤a2)∧a2≤1)).bind fun _=>some ((a0+a1+a2) % 18446744073709551616,(a0+a1+a2) / 18446744073709551616)
noncomputable def ZiY (p9:(Arr 4)) (p7:Int):Option ((Arr 4)×Bool) :=
 some ((p9,decide (p7=1)))
noncomputable def ZiZ (a0:(Arr 4)) (a1:(Arr 4)):(Int×Int×(Arr 4))→Option ((Int×Int×(Arr 4)) ⊕ ((Arr 4)×Bool))
 | (p7,p8,p9)=>(if p8<4 then(inA (4) (p8)).bind fun j12=>(Xc (a0.at j12) (a1.at j12) p7).bind fun y13=>some (.inl (y13.2,IntKind.i64.wrap (p8+1),p9.put j12 y13.1)) else(ZiY p9 p7).map Sum.inr)
noncomputable def ZeF (a0:(Arr 4)) (a1:(Arr 4)):Option ((Arr 4)×Bool) :=
 Zd (ZiZ a0 a1) (0,0,zA 4)
noncomputable def Zi0 (p6:(Arr 4)):Option (Arr 4) :=
 some (p6)
noncomputable def Lref02_Shl_s1:(Int×(Arr 4))→Option ((Int×(Arr 4)) ⊕ ((Arr 4)))
 | (p5,p6)=>(if 0<p5 then(ZeF p6 p6).bind fun y8=>some (.inl (IntKind.i64.wrap (p5-1),y8.1)) else(Zi0 p6).map Sum.inr)
noncomputable def ZeG (a0:(Arr 4)) (a1:Int):Option ((Arr 4)) :=
 (if 256≤a1 then some (zA 4) else Zd (Lref02_Shl_s1) (a1,a0))
noncomputable def ZcW (p7:(Arr 4)):Option ((Arr 4)×Int) :=
 (Zbs p7).bind fun y8=>(if y8=true then some ((zA 4,120)) else some ((p7,0)))
noncomputable def Za3 (a0:Int):Option ((Arr 4)×Int) :=
 (XV (IntKind.u64.wrap (bits .and .u32 a0 16777215))).bind fun y1=>(if ¬ (bits .and .u32 a0 8388608=0) then some ((zA 4,120)) else(if IntKind.i64.wrap ((a0).fdiv 16777216)<3 then(ZaM y1 (IntKind.i64.wrap (8 * (IntKind.i64.wrap (3-(IntKind.i64.wrap ((a0).fdiv 16777216))))))).bind fun y9=>ZcW y9 else(Zbs y1).bind fun y10=>((if ¬ (y10=true) then(Zbt y1).bind fun y11=>some (decide (256<IntKind.i64.wrap (y11+(IntKind.i64.wrap (8 * (IntKind.i64.wrap ((IntKind.i64.wrap ((a0).fdiv 16777216))-3))))))) else some (false))).bind fun z12=>(if (¬ (y10=true)∧z12=true) then some ((zA 4,120)) else(ZeG y1 (IntKind.i64.wrap (8 * (IntKind.i64.wrap ((IntKind.i64.wrap ((a0).fdiv 16777216))-3))))).bind fun y13=>ZcW y13)))
noncomputable def ZfA (a0:Tapi_Params):Option Bool :=
 (Za3 a0.1.2.2.2.2.1).bind fun y16=>((if y16.2=0 then(Xb y16.1 a0.2.1).bind fun y17=>some (decide (y17≤0)) else some (false))).bind fun z18=>some ((decide (y16.2=0) && z18))
noncomputable def ZhG (a0:Tapi_Params):Int→Option ((Int) ⊕ (Bool))
 | p11=>(if p11<(a0.2.2.2.2.2.2.1.length:Int) then(idx (a0.2.2.2.2.2.2.1) (p11)).bind fun x19=>((if (x19.1<1∨16777216<x19.1) then some (false) else((if 0<p11 then(idx (a0.2.2.2.2.2.2.1) (IntKind.i64.wrap (p11-1))).bind fun x20=>some (decide (x19.1≤x20.1)) else some (false))).bind fun z21=>some ((decide (0<p11) && z21)))).bind fun z22=>(if ((x19.1<1∨16777216<x19.1)∨z22=true) then some (.inr (false)) else some (.inl (IntKind.i64.wrap (p11+1)))) else(ZfA a0).map Sum.inr)
noncomputable def Xe (a0:Tapi_Params):Option (Bool) :=
 (Zbs a0.2.1).bind fun y1=>(if ((((y1=true∨a0.2.2.1<1)∨4096<a0.2.2.1)∨a0.2.2.2.1<1)∨1048576<a0.2.2.2.1) then some (false) else(if (((((a0.2.2.2.2.2.2.2.1<0∨2100000000000000<a0.2.2.2.2.2.2.2.1)∨a0.2.2.2.2.2.2.2.2.1<1)∨16777216<a0.2.2.2.2.2.2.2.2.1)∨a0.2.2.2.2.2.2.2.2.2<0)∨16777216<a0.2.2.2.2.2.2.2.2.2) then some (false) else Zd (ZhG a0) 0))
noncomputable def Zgi (p5:Int):Option Int :=
 some (p5)
noncomputable def Lref23_Subsidy_s1:(Int×Int)→Option ((Int×Int) ⊕ (Int))
 | (p5,p6)=>(if (0<p6∧0<p5) then some (.inl (IntKind.i64.wrap ((p5).tdiv 2),IntKind.i64.wrap (p6-1))) else(Zgi p5).map Sum.inr)
noncomputable def Zbk (a0:Tapi_Params) (a1:Int):Option (Int) :=
 (Xe a0).bind fun y1=>(if (¬ (y1=true)∨a1<0) then some (0) else(chk (a0.2.2.2.2.2.2.2.2.1≠0)).bind fun _=>Zd (Lref23_Subsidy_s1) (a0.2.2.2.2.2.2.2.1,IntKind.i64.wrap ((a1).tdiv a0.2.2.2.2.2.2.2.2.1)))
noncomputable def ZdN (p11:(List Int)):Option (List Int) :=
 some (p11)
noncomputable def Yg (a0:Tapi_Header):(Int×(List Int))→Option ((Int×(List Int)) ⊕ ((List Int)))
 | (p10,p11)=>(if p10<(3:Int) then(inA (3) (p10)).bind fun j15=>(([a0.2.2.2.1,a0.2.2.2.2.1,a0.2.2.2.2.2])[j15]?).bind fun x16=>(ZW p11 x16).bind fun y17=>some (.inl (IntKind.i64.wrap (p10+1),y17)) else(ZdN p11).map Sum.inr)
noncomputable def Xq (a0:Tapi_Header):Option ((List Int)) :=
 (ZW ([]:(List Int)) a0.1).bind fun y1=>(Yr y1 a0.2.1).bind fun y2=>(Yr y2 a0.2.2.1).bind fun y3=>Zd (Yg a0) (0,y3)
noncomputable def X5 (a0:Tapi_Header):Option ((Arr 32)) :=
 (Xq a0).bind fun y1=>(Za2 y1).bind fun y2=>some (y2)
noncomputable def Zfv (p9:(Arr 4)):Option (Arr 4) :=
 some (p9)
noncomputable def Zfw (a0:(Arr 32)):(Int×(Arr 4))→Option ((Int×(Arr 4)) ⊕ ((Arr 4)))
 | (p8,p9)=>(if p8<32 then(inA (4) (IntKind.i64.wrap ((IntKind.i64.wrap (31-p8)).tdiv 8))).bind fun j13=>(inA (32) (p8)).bind fun j14=>(chk (¬ (IntKind.i64.wrap (8 * ((IntKind.i64.wrap (31-p8)).tmod 8))<0))).bind fun _=>some (.inl (IntKind.i64.wrap (p8+1),p9.put j13 (bits .or .u64 (p9.at j13) (IntKind.u64.wrap ((IntKind.u64.wrap (a0.at j14)) * (2 ^ (min (IntKind.i64.wrap (8 * ((IntKind.i64.wrap (31-p8)).tmod 8))).toNat 64))))))) else(Zfv p9).map Sum.inr)
noncomputable def Zal (a0:(Arr 32)):Option ((Arr 4)) :=
 Zd (Zfw a0) (0,zA 4)
noncomputable def ZcX (a0:(Arr 32)) (a1:Int):Option (Bool) :=
 (Za3 a1).bind fun y1=>((if y1.2=0 then(Zal a0).bind fun y2=>(Xb y2 y1.1).bind fun y3=>some (decide (y3≤0)) else some (false))).bind fun z4=>some ((decide (y1.2=0) && z4))
noncomputable def Zg8 (p29:(List Int)):Option Int :=
 (if (p29.length:Int)=0 then some (0) else(inA (p29.length) (IntKind.i64.wrap (((p29.length:Int)).tdiv 2))).bind fun j46=>((p29)[j46]?).bind fun x47=>some (x47))
noncomputable def ZcY (p56:Int) (p29:(List Int)) (p28:Int) (x48:Int):Option ((Int×(List Int)) ⊕ (Int)) :=
 (chk (p56≤(p29.length:Int)∧0≤p56)).bind fun _=>(chk (0≤p56∧p56≤(p29.length:Int))).bind fun _=>(chk (1+(((p29).drop (p56).toNat).take (p29.length-(p56).toNat)).length≤35184372088832)).bind fun _=>(chk ((p56).toNat+1+(((p29).drop (p56).toNat).take (p29.length-(p56).toNat)).length≤35184372088832)).bind fun _=>some (.inl (IntKind.i64.wrap (p28+1),(p29).take (p56).toNat++([x48]++((p29).drop (p56).toNat).take (p29.length-(p56).toNat))))
noncomputable def Zg9 (p29:(List Int)) (x48:Int) (p28:Int):Int→Option ((Int) ⊕ ((Int×(List Int)) ⊕ (Int)))
 | p56=>((if p56<(p29.length:Int) then(inA (p29.length) (p56)).bind fun j64=>((p29)[j64]?).bind fun x65=>some (decide (x65≤x48)) else some (false))).bind fun z66=>(if (p56<(p29.length:Int)∧z66=true) then some (.inl (IntKind.i64.wrap (p56+1))) else(ZcY p56 p29 p28 x48).map Sum.inr)
noncomputable def Zha (a0:(List Int)):(Int×(List Int))→Option ((Int×(List Int)) ⊕ (Int))
 | (p28,p29)=>(if p28<(a0.length:Int) then(idx (a0) (p28)).bind fun x48=>Zd (Zg9 p29 x48 p28) 0 else(Zg8 p29).map Sum.inr)
noncomputable def Zb6 (a0:(List Int)):Option (Int) :=
 Zd (Zha a0) (0,[])
noncomputable def Zfj (a0:Tapi_Tx):Option ((Arr 32)) :=
 (X0 a0).bind fun y1=>(if ¬ (y1=true) then some (zA 32) else(X9 a0 true).bind fun y2=>(Za2 y2).bind fun y3=>some (y3))
noncomputable def Zfk (a0:(Arr 32)) (a1:(Arr 32)):Option ((Arr 32)) :=
 (ZaD [[1],a0.l,a1.l]).bind fun y1=>(YZ y1).bind fun y2=>some (y2)
noncomputable def ZeH (p52:(List (List (Arr 32)))):Option (List (List (Arr 32))) :=
 some (p52)
noncomputable def ZcZ (p52:(List (List (Arr 32)))) (p92:(List (Arr 32))):Option (((List (Arr 32))×(List (List (Arr 32)))) ⊕ ((List (List (Arr 32))))) :=
 (chk (p52.length+1≤5864062014805)).bind fun _=>some (.inl (p92,p52++[p92]))
noncomputable def Zbl (p91:Int) (p107:(List (Arr 32))):Option ((Int×(List (Arr 32))) ⊕ (((List (Arr 32))×(List (List (Arr 32)))) ⊕ ((List (List (Arr 32)))))) :=
 some (.inl (IntKind.i64.wrap (p91+2),p107))
noncomputable def Zhb (p51:(List (Arr 32))) (p52:(List (List (Arr 32)))):(Int×(List (Arr 32)))→Option ((Int×(List (Arr 32))) ⊕ (((List (Arr 32))×(List (List (Arr 32)))) ⊕ ((List (List (Arr 32))))))
 | (p91,p92)=>(if p91<(p51.length:Int) then(if IntKind.i64.wrap (p91+1)<(p51.length:Int) then(idx (p51) (p91)).bind fun x108=>(idx (p51) (IntKind.i64.wrap (p91+1))).bind fun x109=>(Zfk x108 x109).bind fun y110=>(chk (p92.length+1≤4398046511104)).bind fun _=>Zbl p91 (p92++[y110]) else(idx (p51) (p91)).bind fun x112=>(chk (p92.length+1≤4398046511104)).bind fun _=>Zbl p91 (p92++[x112])) else(ZcZ p52 p92).map Sum.inr)
noncomputable def Lref07_levels_s1:((List (Arr 32))×(List (List (Arr 32))))→Option (((List (Arr 32))×(List (List (Arr 32)))) ⊕ ((List (List (Arr 32)))))
 | (p51,p52)=>(if 1<(p51.length:Int) then Zd (Zhb p51 p52) (0,[]) else(ZeH p52).map Sum.inr)
noncomputable def Zdn (a0:(List (Arr 32))):Option ((List (List (Arr 32)))) :=
 Zd (Lref07_levels_s1) (a0,[a0])
noncomputable def Zfl (a0:(List (Arr 32))):Option ((Arr 32)) :=
 (if ((a0.length:Int)=0∨1024<(a0.length:Int)) then some (zA 32) else(Zdn a0).bind fun y1=>(inA (y1.length) (IntKind.i64.wrap ((y1.length:Int)-1))).bind fun j2=>((y1)[j2]?).bind fun x3=>((x3)[0]?).bind fun x4=>some (x4))
noncomputable def Zf8 (p9:(List (Arr 32))):Option (Arr 32) :=
 (Zfl p9).bind fun y13=>some (y13)
noncomputable def Zia (a0:(List Tapi_Tx)):(Int×(List (Arr 32)))→Option ((Int×(List (Arr 32))) ⊕ ((Arr 32)))
 | (p8,p9)=>(if p8<(a0.length:Int) then(idx (a0) (p8)).bind fun x14=>(Zfj x14).bind fun y15=>(chk (p9.length+1≤4398046511104)).bind fun _=>some (.inl (IntKind.i64.wrap (p8+1),p9++[y15])) else(Zf8 p9).map Sum.inr)
noncomputable def ZdO (a0:(List Tapi_Tx)):Option ((Arr 32)) :=
 Zd (Zia a0) (0,[])
noncomputable def Ze1 (a0:Int):Option (Int) :=
 some (IntKind.u32.wrap (20+(IntKind.u32.wrap ((IntKind.u32.wrap ((a0).tmod 8)) * 15))))
noncomputable def Zgj (a0:Tapi_OutPoint) (a1:Tapi_OutPoint):Option Int :=
 (if a0.2<a1.2 then some ((-1)) else(if a1.2<a0.2 then some (1) else some (0)))
noncomputable def Zgk (a0:Tapi_OutPoint) (a1:Tapi_OutPoint):Int→Option ((Int) ⊕ (Int))
 | p3=>(if p3<32 then(inA (32) (p3)).bind fun j5=>(if a0.1.at j5<a1.1.at j5 then some (.inr ((-1))) else(if a1.1.at j5<a0.1.at j5 then some (.inr (1)) else some (.inl (IntKind.i64.wrap (p3+1))))) else(Zgj a0 a1).map Sum.inr)
noncomputable def Y3 (a0:Tapi_OutPoint) (a1:Tapi_OutPoint):Option (Int) :=
 Zd (Zgk a0 a1) 0
noncomputable def Lref23_Sound_k1:Option Bool :=
 some (true)
noncomputable def ZhH (a0:Tapi_Ledger):(Int×Int)→Option ((Int×Int) ⊕ (Bool))
 | (p11,p12)=>(if p12<(a0.2.2.length:Int) then(idx (a0.2.2) (p12)).bind fun x17=>((if 0<p12 then(idx (a0.2.2) (IntKind.i64.wrap (p12-1))).bind fun x18=>(Y3 x18.1 x17.1).bind fun y19=>some (decide (0≤y19)) else some (false))).bind fun z20=>(if (((0<p12∧z20=true)∨x17.2.2.1<1)∨a0.1<x17.2.2.1) then some (.inr (false)) else(if ((x17.2.1.1<0∨2100000000000000<x17.2.1.1)∨520<(x17.2.1.2.length:Int)) then some (.inr (false)) else(if 2100000000000000<IntKind.i64.wrap (p11+x17.2.1.1) then some (.inr (false)) else some (.inl (IntKind.i64.wrap (p11+x17.2.1.1),IntKind.i64.wrap (p12+1)))))) else(Lref23_Sound_k1).map Sum.inr)
noncomputable def Zc0 (a0:Tapi_Ledger):Option (Bool) :=
 (if ((a0.1<0∨16777216<a0.1)∨100000<(a0.2.2.length:Int)) then some (false) else Zd (ZhH a0) (0,0))
noncomputable def Zdo (a0:Tapi_Tx) (a1:Bool):Option ((List Int)×Int) :=
 (X0 a0).bind fun y1=>(if ¬ (y1=true) then some ((([]:(List Int)),4)) else(X9 a0 a1).bind fun y2=>some ((y2,0)))
noncomputable def Zhc (p12:(List Int)):Option (List Int) :=
 some (p12)
noncomputable def ZeI (a0:Tapi_Block):(Int×(List Int))→Option ((Int×(List Int)) ⊕ ((List Int)))
 | (p11,p12)=>(if p11<(a0.2.length:Int) then(idx (a0.2) (p11)).bind fun x16=>(Zdo x16 true).bind fun y17=>(chk (p12.length+y17.1.length≤140737488355328)).bind fun _=>some (.inl (IntKind.i64.wrap (p11+1),p12++y17.1)) else(Zhc p12).map Sum.inr)
noncomputable def Zdp (a0:Tapi_Block):Option ((List Int)) :=
 (Xq a0.1).bind fun y1=>(YG y1 (IntKind.u64.wrap ((a0.2.length:Int)))).bind fun y2=>Zd (ZeI a0) (0,y2)
noncomputable def Zcz (a0:Tapi_Block):Option Bool :=
 (Zdp a0).bind fun y9=>some (decide ((y9.length:Int)≤100000))
noncomputable def Xh (a0:Tapi_Block):Int→Option ((Int) ⊕ (Bool))
 | p6=>(if p6<(a0.2.length:Int) then(idx (a0.2) (p6)).bind fun x10=>(X0 x10).bind fun y11=>(if ¬ (y11=true) then some (.inr (false)) else some (.inl (IntKind.i64.wrap (p6+1)))) else(Zcz a0).map Sum.inr)
noncomputable def Zfm (a0:Tapi_Block):Option (Bool) :=
 (if 256<(a0.2.length:Int) then some (false) else Zd (Xh a0) 0)
noncomputable def Lref11_place_k1:Option Int :=
 some ((-1))
noncomputable def ZfB (a0:(List (Arr 32))) (a1:(Arr 32)):Int→Option ((Int) ⊕ (Int))
 | p4=>(if p4<(a0.length:Int) then(idx (a0) (p4)).bind fun x6=>(if x6=a1 then some (.inr (p4)) else some (.inl (IntKind.i64.wrap (p4+1)))) else(Lref11_place_k1).map Sum.inr)
noncomputable def Zc1 (a0:(List (Arr 32))) (a1:(Arr 32)):Option (Int) :=
 Zd (ZfB a0 a1) 0
noncomputable def Lref11_forward_k1:Option Bool :=
 some (false)
noncomputable def Zcb (p20:Int):Option ((Int) ⊕ (Bool)) :=
 some (.inl (IntKind.i64.wrap (p20+1)))
noncomputable def Zd0 (x30:Tapi_Tx) (a1:(List (Arr 32))) (p20:Int):Int→Option ((Int) ⊕ ((Int) ⊕ (Bool)))
 | p36=>(if p36<(x30.2.1.length:Int) then(idx (x30.2.1) (p36)).bind fun x39=>(Zc1 a1 x39.1.1).bind fun y40=>(if p20≤y40 then some (.inr (.inr (true))) else some (.inl (IntKind.i64.wrap (p36+1)))) else(Zcb p20).map Sum.inr)
noncomputable def Zd1 (a0:Tapi_Block) (a1:(List (Arr 32))):Int→Option ((Int) ⊕ (Bool))
 | p20=>(if p20<(a0.2.length:Int) then(idx (a0.2) (p20)).bind fun x30=>Zd (Zd0 x30 a1 p20) 0 else(Lref11_forward_k1).map Sum.inr)
noncomputable def ZcA (a0:Tapi_Block) (a1:(List (Arr 32))):Option (Bool) :=
 Zd (Zd1 a0 a1) 0
noncomputable def Lref11_twice_k1:Option Bool :=
 some (false)
noncomputable def ZdC (p69:Int) (p130:(List Tapi_OutPoint)):Option ((Int×(List Tapi_OutPoint)) ⊕ (Bool)) :=
 some (.inl (IntKind.i64.wrap (p69+1),p130))
noncomputable def ZbV (p130:(List Tapi_OutPoint)) (p129:Int) (x141:Tapi_Input):Option ((Int×(List Tapi_OutPoint)) ⊕ ((Int×(List Tapi_OutPoint)) ⊕ (Bool))) :=
 (chk (p130.length+1≤3909374676536)).bind fun _=>some (.inl (IntKind.i64.wrap (p129+1),p130++[x141.1]))
noncomputable def ZfC (p130:(List Tapi_OutPoint)) (x141:Tapi_Input) (p129:Int):Int→Option ((Int) ⊕ ((Int×(List Tapi_OutPoint)) ⊕ ((Int×(List Tapi_OutPoint)) ⊕ (Bool))))
 | p147=>(if p147<(p130.length:Int) then(inA (p130.length) (p147)).bind fun j151=>((p130)[j151]?).bind fun x152=>(if (x152.1=x141.1.1∧x152.2=x141.1.2) then some (.inr (.inr (.inr (true)))) else some (.inl (IntKind.i64.wrap (p147+1)))) else(ZbV p130 p129 x141).map Sum.inr)
noncomputable def ZhI (x106:Tapi_Tx) (p69:Int):(Int×(List Tapi_OutPoint))→Option ((Int×(List Tapi_OutPoint)) ⊕ ((Int×(List Tapi_OutPoint)) ⊕ (Bool)))
 | (p129,p130)=>(if p129<(x106.2.1.length:Int) then(idx (x106.2.1) (p129)).bind fun x141=>Zd (ZfC p130 x141 p129) 0 else(ZdC p69 p130).map Sum.inr)
noncomputable def ZhJ (a0:Tapi_Block):(Int×(List Tapi_OutPoint))→Option ((Int×(List Tapi_OutPoint)) ⊕ (Bool))
 | (p69,p70)=>(if p69<(a0.2.length:Int) then(idx (a0.2) (p69)).bind fun x106=>Zd (ZhI x106 p69) (0,p70) else(Lref11_twice_k1).map Sum.inr)
noncomputable def Zd9 (a0:Tapi_Block):Option (Bool) :=
 Zd (ZhJ a0) (0,[])
noncomputable def ZbW (a0:Tapi_Block) (p28:(List (Arr 32))):Option Int :=
 (ZcA a0 p28).bind fun y33=>(if y33=true then some (101) else(Zd9 a0).bind fun y34=>(if y34=true then some (91) else(ZdO a0.2).bind fun y35=>(if ¬ (y35=a0.1.2.2.1) then some (110) else some (0))))
noncomputable def ZhK (a0:Tapi_Block):(Int×(List (Arr 32)))→Option ((Int×(List (Arr 32))) ⊕ (Int))
 | (p27,p28)=>(if p27<(a0.2.length:Int) then(idx (a0.2) (p27)).bind fun x36=>(Zeq x36).bind fun y37=>(Zc1 p28 y37).bind fun y38=>(if 0≤y38 then some (.inr (91)) else(chk (p28.length+1≤4398046511104)).bind fun _=>some (.inl (IntKind.i64.wrap (p27+1),p28++[y37]))) else(ZbW a0 p28).map Sum.inr)
noncomputable def ZbX (a0:Tapi_Block):Option Int :=
 Zd (ZhK a0) (0,[])
noncomputable def ZfD (a0:Tapi_Block):Int→Option ((Int) ⊕ (Int))
 | p15=>(if p15<(a0.2.length:Int) then(idx (a0.2) (p15)).bind fun x40=>(ZcR x40).bind fun y41=>(if ¬ (y41=0) then some (.inr (y41)) else some (.inl (IntKind.i64.wrap (p15+1)))) else(ZbX a0).map Sum.inr)
noncomputable def ZbY (a0:Tapi_Block):Option Int :=
 Zd (ZfD a0) 0
noncomputable def ZfE (a0:Tapi_Block):Int→Option ((Int) ⊕ (Int))
 | p7=>(if p7<(a0.2.length:Int) then(idx (a0.2) (p7)).bind fun x42=>(XT x42).bind fun y43=>(if ¬ ((y43 == decide (p7=0))=true) then some (.inr (111)) else some (.inl (IntKind.i64.wrap (p7+1)))) else(ZbY a0).map Sum.inr)
noncomputable def Zea (a0:Tapi_Block):Option (Int) :=
 (Zfm a0).bind fun y1=>(if ¬ (y1=true) then some (4) else(if (a0.2.length:Int)=0 then some (93) else Zd (ZfE a0) 0))
noncomputable def Lref09_Final_k1:Option Bool :=
 some (true)
noncomputable def ZfF (a0:Tapi_Tx):Int→Option ((Int) ⊕ (Bool))
 | p4=>(if p4<(a0.2.1.length:Int) then(idx (a0.2.1) (p4)).bind fun x6=>(if ¬ (x6.2.1=4294967295) then some (.inr (false)) else some (.inl (IntKind.i64.wrap (p4+1)))) else(Lref09_Final_k1).map Sum.inr)
noncomputable def X6 (a0:Tapi_Tx) (a1:Int):Option (Bool) :=
 (if IntKind.i64.wrap (a0.2.2.2)≤a1 then some (true) else Zd (ZfF a0) 0)
noncomputable def Zeb (a0:Tapi_Params) (a1:Tapi_Ledger) (a2:Tapi_Block):Option (Int) :=
 (Xe a0).bind fun y1=>((if ¬ (y1=true) then some (false) else(Zc0 a1).bind fun y2=>some (!(y2)))).bind fun z3=>(if (¬ (y1=true)∨z3=true) then some (6) else(if a1.1=16777216 then some (4) else(if ¬ (a2.1.2.1=a1.2.1) then some (144) else(Zea a2).bind fun y4=>(if ¬ (y4=0) then some (y4) else((a2.2)[0]?).bind fun x5=>((x5.2.1)[0]?).bind fun x6=>(if ¬ (IntKind.i64.wrap (x6.2.1)=IntKind.i64.wrap (a1.1+1)) then some (102) else(X6 x5 (IntKind.i64.wrap (a1.1+1))).bind fun y7=>(if ¬ (y7=true) then some (85) else some (0)))))))
noncomputable def Lref23_find_k1:Option Int :=
 some ((-1))
noncomputable def Zf9 (a0:(List Tapi_Coin)) (a1:Tapi_OutPoint):Int→Option ((Int) ⊕ (Int))
 | p4=>(if p4<(a0.length:Int) then(idx (a0) (p4)).bind fun x6=>(if (x6.1.1=a1.1∧x6.1.2=a1.2) then some (.inr (p4)) else some (.inl (IntKind.i64.wrap (p4+1)))) else(Lref23_find_k1).map Sum.inr)
noncomputable def Zcq (a0:(List Tapi_Coin)) (a1:Tapi_OutPoint):Option (Int) :=
 Zd (Zf9 a0 a1) 0
noncomputable def ZaN (a0:Tapi_Coin):Option (Tapi_Coin) :=
 (ZaD [a0.2.1.2]).bind fun y1=>some ((a0.1,(a0.2.1.1,y1),a0.2.2.1,a0.2.2.2))
noncomputable def ZfG (p13:(List Tapi_Coin)):Option ((List Tapi_Coin)×Int) :=
 some ((p13,0))
noncomputable def ZfH (p13:(List Tapi_Coin)) (a3:Int) (a0:Tapi_Params):Int→Option ((Int) ⊕ ((List Tapi_Coin)×Int))
 | p24=>(if p24<(p13.length:Int) then(inA (p13.length) (p24)).bind fun j27=>((p13)[j27]?).bind fun x28=>(if (x28.2.2.2=true∧IntKind.i64.wrap (a3-x28.2.2.1)<a0.2.2.2.2.2.2.2.2.2) then some (.inr ((([]:(List Tapi_Coin)),230))) else some (.inl (IntKind.i64.wrap (p24+1)))) else(ZfG p13).map Sum.inr)
noncomputable def ZdD (p13:(List Tapi_Coin)) (a3:Int) (a0:Tapi_Params):Option ((List Tapi_Coin)×Int) :=
 Zd (ZfH p13 a3 a0) 0
noncomputable def ZhL (a2:Tapi_Tx) (a1:(List Tapi_Coin)) (a3:Int) (a0:Tapi_Params):(Int×(List Tapi_Coin))→Option ((Int×(List Tapi_Coin)) ⊕ ((List Tapi_Coin)×Int))
 | (p12,p13)=>(if p12<(a2.2.1.length:Int) then(idx (a2.2.1) (p12)).bind fun x29=>(Zcq a1 x29.1).bind fun y30=>(if y30<0 then some (.inr ((([]:(List Tapi_Coin)),101))) else(idx (a1) (y30)).bind fun x31=>(ZaN x31).bind fun y32=>(chk (p13.length+1≤1599289640401)).bind fun _=>some (.inl (IntKind.i64.wrap (p12+1),p13++[(y32.1,(y32.2.1.1,y32.2.1.2),y32.2.2.1,y32.2.2.2)]))) else(ZdD p13 a3 a0).map Sum.inr)
noncomputable def Zec (a0:Tapi_Params) (a1:(List Tapi_Coin)) (a2:Tapi_Tx) (a3:Int):Option ((List Tapi_Coin)×Int) :=
 Zd (ZhL a2 a1 a3 a0) (0,[])
noncomputable def ZcB (a0:(List Tapi_Coin)) (a1:Int):Option ((List Tapi_Coin)) :=
 (chk (a1≤(a0.length:Int)∧0≤a1)).bind fun _=>(chk (((a0).take ((a1).toNat)).length≤1599289640401)).bind fun _=>(chk (0≤IntKind.i64.wrap (a1+1)∧IntKind.i64.wrap (a1+1)≤(a0.length:Int))).bind fun _=>(chk (((a0).take ((a1).toNat)).length+((a0).drop ((IntKind.i64.wrap (a1+1)).toNat)).length≤1599289640401)).bind fun _=>some ((a0).take ((a1).toNat)++(a0).drop ((IntKind.i64.wrap (a1+1)).toNat))
noncomputable def Zgl (p10:(List Tapi_Coin)):Option (List Tapi_Coin) :=
 some (p10)
noncomputable def Zgm (a0:Tapi_Tx) (y1:((Arr 32))) (a1:Int):(Int×(List Tapi_Coin))→Option ((Int×(List Tapi_Coin)) ⊕ ((List Tapi_Coin)))
 | (p9,p10)=>(if p9<(a0.2.2.1.length:Int) then(idx (a0.2.2.1) (p9)).bind fun x14=>(XT a0).bind fun y15=>(chk (p10.length+1≤1599289640401)).bind fun _=>some (.inl (IntKind.i64.wrap (p9+1),p10++[((y1,IntKind.u32.wrap (p9)),x14,a1,y15)])) else(Zgl p10).map Sum.inr)
noncomputable def Zat (a0:Tapi_Tx) (a1:Int):Option ((List Tapi_Coin)) :=
 (Zeq a0).bind fun y1=>Zd (Zgm a0 y1 a1) (0,[])
noncomputable def Zib (a1:Tapi_Coin) (p11:(List Tapi_Coin)) (a0:(List Tapi_Coin)):Option (List Tapi_Coin) :=
 (ZaN a1).bind fun y16=>(chk (p11.length+1≤1599289640401)).bind fun _=>(chk (0≤(p11.length:Int)∧(p11.length:Int)≤(a0.length:Int))).bind fun _=>(chk (p11.length+1+((a0).drop (((p11.length:Int)).toNat)).length≤1599289640401)).bind fun _=>some (p11++[(y16.1,(y16.2.1.1,y16.2.1.2),y16.2.2.1,y16.2.2.2)]++(a0).drop (((p11.length:Int)).toNat))
noncomputable def ZcC (p10:Int) (p23:(List Tapi_Coin)):Option ((Int×(List Tapi_Coin)) ⊕ ((List Tapi_Coin))) :=
 some (.inl (IntKind.i64.wrap (p10+1),p23))
noncomputable def Zic (a0:(List Tapi_Coin)) (a1:Tapi_Coin):(Int×(List Tapi_Coin))→Option ((Int×(List Tapi_Coin)) ⊕ ((List Tapi_Coin)))
 | (p10,p11)=>(if p10<(a0.length:Int) then(idx (a0) (p10)).bind fun x20=>(Y3 x20.1 a1.1).bind fun y21=>(if y21<0 then(chk (p11.length+1≤1599289640401)).bind fun _=>ZcC p10 (p11++[x20]) else ZcC p10 p11) else(Zib a1 p11 a0).map Sum.inr)
noncomputable def Zbu (a0:(List Tapi_Coin)) (a1:Tapi_Coin):Option ((List Tapi_Coin)) :=
 Zd (Zic a0 a1) (0,[])
noncomputable def ZgU (p22:(List Tapi_Coin)):Option ((List Tapi_Coin)×Int) :=
 some ((p22,0))
noncomputable def Zi1 (y13:((List Tapi_Coin))):((List Tapi_Coin)×Int)→Option (((List Tapi_Coin)×Int) ⊕ ((List Tapi_Coin)×Int))
 | (p22,p23)=>(if p23<(y13.length:Int) then(inA (y13.length) (p23)).bind fun j27=>((y13)[j27]?).bind fun x28=>(Zbu p22 x28).bind fun y29=>some (.inl (y29,IntKind.i64.wrap (p23+1))) else(ZgU p22).map Sum.inr)
noncomputable def Ze2 (a1:Tapi_Tx) (a2:Int) (a0:(List Tapi_Coin)):Option ((List Tapi_Coin)×Int) :=
 (Zat a1 a2).bind fun y13=>Zd (Zi1 y13) (a0,0)
noncomputable def ZgV (y1:((List Tapi_Coin))) (a0:(List Tapi_Coin)) (a1:Tapi_Tx) (a2:Int):Int→Option ((Int) ⊕ ((List Tapi_Coin)×Int))
 | p9=>(if p9<(y1.length:Int) then(inA (y1.length) (p9)).bind fun j30=>((y1)[j30]?).bind fun x31=>(Zcq a0 x31.1).bind fun y32=>(if 0≤y32 then some (.inr ((([]:(List Tapi_Coin)),91))) else some (.inl (IntKind.i64.wrap (p9+1)))) else(Ze2 a1 a2 a0).map Sum.inr)
noncomputable def Zga (a0:(List Tapi_Coin)) (a1:Tapi_Tx) (a2:Int):Option ((List Tapi_Coin)×Int) :=
 (Zat a1 a2).bind fun y1=>Zd (ZgV y1 a0 a1 a2) 0
noncomputable def ZhM (p5:Int):Option Int :=
 some (p5)
noncomputable def ZhN (a0:(List Tapi_Coin)):(Int×Int)→Option ((Int×Int) ⊕ (Int))
 | (p5,p6)=>(if p6<(a0.length:Int) then(idx (a0) (p6)).bind fun x8=>some (.inl (IntKind.i64.wrap (p5+x8.2.1.1),IntKind.i64.wrap (p6+1))) else(ZhM p5).map Sum.inr)
noncomputable def Zc2 (a0:(List Tapi_Coin)):Option (Int) :=
 Zd (ZhN a0) (0,0)
noncomputable def Zfn (a0:Tapi_Params) (a1:Tapi_Context):Option (Bool) :=
 (Xe a0).bind fun y1=>some ((((y1 && decide (0≤a1.1)) && decide (a1.1≤16777216)) && decide ((a1.2.2.2.2.length:Int)=(if 11<IntKind.i64.wrap (a1.1+1) then 11 else IntKind.i64.wrap (a1.1+1)))))
noncomputable def Zgn (a1:Tapi_Context) (y2:((Arr 32))) (a2:Tapi_Header) (p4:Int) (p8:(List Int)):Option (Tapi_Context×Int) :=
 some (((IntKind.i64.wrap (a1.1+1),y2,a2.2.2.2.2.1,p4,p8),0))
noncomputable def Zcc (a1:Tapi_Context) (a2:Tapi_Header) (y2:((Arr 32))) (p4:Int):Option (Tapi_Context×Int) :=
 (chk (a1.2.2.2.2.length≤35184372088832)).bind fun _=>(chk (a1.2.2.2.2.length+1≤35184372088832)).bind fun _=>(if 11<(a1.2.2.2.2.length+1:Int) then(chk (1≤((a1.2.2.2.2++[a2.2.2.2.1]).length:Int))).bind fun _=>Zgn a1 y2 a2 p4 (((a1.2.2.2.2++[a2.2.2.2.1]).drop 1).take ((a1.2.2.2.2++[a2.2.2.2.1]).length-1)) else Zgn a1 y2 a2 p4 (a1.2.2.2.2++[a2.2.2.2.1]))
noncomputable def Zbm (a0:Tapi_Params) (a1:Tapi_Context) (a2:Tapi_Header):Option (Tapi_Context×Int) :=
 (Zfn a0 a1).bind fun y1=>(if ¬ (y1=true) then some (((0,zA 32,0,0,([]:(List Int))),6)) else(if a1.1=16777216 then some (((0,zA 32,0,0,([]:(List Int))),4)) else(X5 a2).bind fun y2=>(chk (a0.2.2.1≠0)).bind fun _=>(if (IntKind.i64.wrap (a1.1+1)).tmod a0.2.2.1=0 then Zcc a1 a2 y2 a2.2.2.2.1 else Zcc a1 a2 y2 a1.2.2.2.1)))
noncomputable def Zed (a0:Int):Option (Tapi_Params) :=
 (ZhF (zA 4)).bind fun y1=>(ZaM y1 1).bind fun y2=>some (((1,zA 32,zA 32,IntKind.u32.wrap (1000+(IntKind.u32.wrap (a0))),545259519,0),y2,IntKind.i64.wrap (3+(IntKind.i64.wrap ((a0).tmod 5))),5,600,1,([]:(List Tapi_Checkpoint)),1000,IntKind.i64.wrap (4+(IntKind.i64.wrap ((a0).tmod 3))),IntKind.i64.wrap ((a0).tmod 3)))
noncomputable def Zee (a0:Tapi_Params):Option (Tapi_Ledger×Int) :=
 (Xe a0).bind fun y1=>(if ¬ (y1=true) then some (((0,zA 32,([]:(List Tapi_Coin))),6)) else(X5 a0.1).bind fun y2=>some (((0,y2,([]:(List Tapi_Coin))),0)))
noncomputable def Zef (a0:Tapi_Params):Option (Tapi_Context×Int) :=
 (Xe a0).bind fun y1=>(if ¬ (y1=true) then some (((0,zA 32,0,0,([]:(List Int))),6)) else(X5 a0.1).bind fun y2=>some (((0,y2,a0.1.2.2.2.2.1,a0.1.2.2.2.1,[a0.1.2.2.2.1]),0)))
noncomputable def Zfo (a0:Int):Option (Tlightclientmade_World) :=
 (Zed a0).bind fun y1=>(Zee y1).bind fun y2=>(Zef y1).bind fun y3=>some ((y1,([]:(List Tapi_Block)),[y2.1],[y3.1],([]:(List (List Tapi_Coin)))))
end
section
set_option maxRecDepth 100000
abbrev Tapi_Env:=(Arr 32)×Int×Int
noncomputable def ZbL (p56:Int) (p61:(List Int)) (p65:Int) (p57:Int) (p64:Int) (p59:Bool) (p60:Bool) (rf:(List Int)→Int→Int→Int→Option ((List Int))):Option ((Int×Int×Int×Bool×Bool×(List Int)) ⊕ ((List Int))) :=
 ((if 0<p56 then(inA (p61.length) (IntKind.i64.wrap (p56-1))).bind fun j67=>((p61)[j67]?).bind fun x68=>(inA (p61.length) (p65)).bind fun j69=>((p61)[j69]?).bind fun x70=>(YW x68 x70).bind fun y71=>some (!(y71)) else some (false))).bind fun z72=>(if (0<p56∧z72=true) then((none:Option Unit)).bind fun _=>some (.inl (0,p57,p64,p59,p60,p61)) else((none:Option Unit)).bind fun _=>(if IntKind.i64.wrap (0-p56)<IntKind.i64.wrap (p57-0) then(rf p61 p56 0 p64).bind fun y73=>(chk (y73.length=p61.length)).bind fun _=>some (.inl (IntKind.i64.wrap (0+1),p57,p64,decide (IntKind.i64.wrap ((IntKind.i64.wrap (p57-p56)).tdiv 8)≤IntKind.i64.wrap (0-p56)),false,y73)) else(rf p61 (IntKind.i64.wrap (0+1)) p57 p64).bind fun y75=>(chk (y75.length=p61.length)).bind fun _=>some (.inl (p56,0,p64,decide (IntKind.i64.wrap ((IntKind.i64.wrap (p57-p56)).tdiv 8)≤IntKind.i64.wrap (p57-0)),false,y75))))
noncomputable def ZbM (p59:Bool) (p60:Bool) (p56:Int) (p61:(List Int)) (p57:Int) (p64:Int) (rf:(List Int)→Int→Int→Int→Option ((List Int))) (p65:Int) (p66:Int):Option ((Int×Int×Int×Bool×Bool×(List Int)) ⊕ ((List Int))) :=
 (if ((p59=true∧p60=true)∧p66=1) then((none:Option Unit)).bind fun _=>ZbL p56 p61 p65 p57 p64 p59 p60 rf else ZbL p56 p61 p65 p57 p64 p59 p60 rf)
noncomputable def XH (p59:Bool) (p60:Bool) (p56:Int) (p61:(List Int)) (p57:Int) (rf:(List Int)→Int→Int→Int→Option ((List Int))) (p64:Int):Option ((Int×Int×Int×Bool×Bool×(List Int)) ⊕ ((List Int))) :=
 ((none:Option Unit)).bind fun _=>(if 0=2 then((none:Option Unit)).bind fun _=>ZbM p59 p60 p56 p61 p57 p64 rf (IntKind.i64.wrap ((IntKind.i64.wrap (p57-1))-(IntKind.i64.wrap (0-p56)))) 1 else ZbM p59 p60 p56 p61 p57 p64 rf 0 0)
noncomputable def XI (a0:(List Int)) (rf:(List Int)→Int→Int→Int→Option ((List Int))):(Int×Int×Int×Bool×Bool×(List Int))→Option ((Int×Int×Int×Bool×Bool×(List Int)) ⊕ ((List Int)))
 | (p56,p57,p58,p59,p60,p61)=>(if IntKind.i64.wrap (p57-p56)≤12 then(Zt p61 p56 p57).bind fun y62=>(chk (y62.length=p61.length)).bind fun _=>(chk (y62.length=a0.length)).bind fun _=>some (.inr (y62)) else(if p58=0 then((none:Option Unit)).bind fun _=>(chk (p61.length=a0.length)).bind fun _=>some (.inr (p61)) else(if ¬ (p59=true) then((none:Option Unit)).bind fun _=>XH p59 p60 p56 p61 p57 rf (IntKind.i64.wrap (p58-1)) else XH p59 p60 p56 p61 p57 rf p58)))
noncomputable def Ym (rf:(List Int)→Int→Int→Int→Option ((List Int))) (a0:(List Int)) (a1:Int) (a2:Int) (a3:Int):Option ((List Int)) :=
 Zd (XI a0 rf) (a1,a2,a3,true,true,a0)
noncomputable def Lslices_pdqsortOrdered_of_uint64w_n:Nat→(List Int)→Int→Int→Int→Option ((List Int))
 | 0,_,_,_,_=>none
 | n+1,a0,a1,a2,a3=>Ym (Lslices_pdqsortOrdered_of_uint64w_n n) a0 a1 a2 a3
noncomputable def Yv (a0:(List Int)) (a1:Int) (a2:Int) (a3:Int):Option ((List Int)):=ZnK fun n=>Lslices_pdqsortOrdered_of_uint64w_n n a0 a1 a2 a3
noncomputable def Yi (a0:(List Int)):Option ((List Int)) :=
 (Zcx (IntKind.u64.wrap ((a0.length:Int)))).bind fun y1=>(Yv a0 0 (a0.length:Int) y1).bind fun y2=>(chk (y2.length=a0.length)).bind fun _=>(chk (y2.length=a0.length)).bind fun _=>some (y2)
noncomputable def ZdE (p11:(List Int)):Option (List Int) :=
 (Yi p11).bind fun y16=>(chk (y16.length=p11.length)).bind fun _=>some (y16)
noncomputable def ZbN (a1:(List (List Int))) (a0:(Arr 2)) (a2:Int) (a3:Int):(Int×(List Int))→Option ((Int×(List Int)) ⊕ ((List Int)))
 | (p10,p11)=>(if p10<(a1.length:Int) then(idx (a1) (p10)).bind fun x18=>(Zh8 a0 x18).bind fun y19=>(ZhA y19 (IntKind.u64.wrap ((IntKind.u64.wrap (a2)) * a3))).bind fun y20=>(chk (p11.length+1≤17592186044416)).bind fun _=>some (.inl (IntKind.i64.wrap (p10+1),p11++[y20])) else(ZdE p11).map Sum.inr)
noncomputable def ZbZ (a0:(Arr 2)) (a1:(List (List Int))) (a2:Int) (a3:Int):Option ((List Int)) :=
 Zd (ZbN a1 a0 a2 a3) (0,[])
noncomputable def Zd2 (a0:(Arr 2)) (p13:(List (List Int))) (a3:Int) (a2:Int):Option (Tapi_Filter×Int) :=
 (ZbZ a0 p13 (p13.length:Int) a3).bind fun y18=>(Zbf y18 a2).bind fun y19=>some ((y19.1,y19.2))
noncomputable def ZaT (p11:Int) (p22:(List (ByteArray×Bool))) (p23:(List (List Int))):Option ((Int×(List (ByteArray×Bool))×(List (List Int))) ⊕ (Tapi_Filter×Int)) :=
 some (.inl (IntKind.i64.wrap (p11+1),p22,p23))
noncomputable def ZaU (a1:(List (List Int))) (a0:(Arr 2)) (a3:Int) (a2:Int):(Int×(List (ByteArray×Bool))×(List (List Int)))→Option ((Int×(List (ByteArray×Bool))×(List (List Int))) ⊕ (Tapi_Filter×Int))
 | (p11,p12,p13)=>(if p11<(a1.length:Int) then(idx (a1) (p11)).bind fun x20=>(if ¬ ((Zb2 (Zjr x20) p12).getD false=true) then(chk (p13.length+1≤5864062014805)).bind fun _=>ZaT p11 (Zez (Zjr x20) true p12) (p13++[x20]) else ZaT p11 p12 p13) else(Zd2 a0 p13 a3 a2).map Sum.inr)
noncomputable def ZcD (a0:(Arr 2)) (a1:(List (List Int))) (a2:Int) (a3:Int):Option (Tapi_Filter×Int) :=
 (if 4096<(a1.length:Int) then some (((0,([]:(List Int))),4)) else(if (((a3<1∨1099511627776<a3)∨a2<0)∨32<a2) then some (((0,([]:(List Int))),5)) else Zd (ZaU a1 a0 a3 a2) (0,([]:(List (ByteArray×Bool))),[])))
noncomputable def ZdP (a0:Tapi_Block):Option (Tapi_Filter×Int) :=
 (Zdm a0).bind fun y1=>(if ¬ (y1.2=0) then some (((0,([]:(List Int))),y1.2)) else(Zfi a0.1).bind fun y2=>(Zh9 y2).bind fun y3=>(Zbi a0).bind fun y4=>(ZcD y3 y4 10 1533).bind fun y5=>some ((y5.1,y5.2)))
noncomputable def Zhl (a0:(List Int)):Option ((List (List Int))) :=
 (if ¬ ((a0.length:Int)=4) then some (([]:(List (List Int)))) else((a0)[2]?).bind fun x1=>some ([[x1]]))
noncomputable def Zeg (a1:Int) (a0:Tapi_Coin) (y1:((List (List Int)))) (p3:Int) (p4:(List Tapi_Output)):Option (Tapi_Tx×Int) :=
 (ZaG (IntKind.u8.wrap ((a1).tdiv 4))).bind fun y5=>(chk (p4.length+1≤4398046511104)).bind fun _=>some (((1,[(a0.1,IntKind.u32.wrap (a1),y1)],p4++[(p3,y5)],0),(if a0.2.1.1<IntKind.i64.wrap ((a1).tmod 3) then a0.2.1.1 else IntKind.i64.wrap ((a1).tmod 3))))
noncomputable def Zfp (a0:Tapi_Coin) (a1:Int):Option (Tapi_Tx×Int) :=
 (Zhl a0.2.1.2).bind fun y1=>(if (a1).tmod 2=1 then(ZaG (IntKind.u8.wrap ((a1).tdiv 2))).bind fun y7=>Zeg a1 a0 y1 (IntKind.i64.wrap ((IntKind.i64.wrap (a0.2.1.1-(if a0.2.1.1<IntKind.i64.wrap ((a1).tmod 3) then a0.2.1.1 else IntKind.i64.wrap ((a1).tmod 3)))).tdiv 3)) [(IntKind.i64.wrap ((IntKind.i64.wrap (a0.2.1.1-(if a0.2.1.1<IntKind.i64.wrap ((a1).tmod 3) then a0.2.1.1 else IntKind.i64.wrap ((a1).tmod 3))))-(IntKind.i64.wrap ((IntKind.i64.wrap (a0.2.1.1-(if a0.2.1.1<IntKind.i64.wrap ((a1).tmod 3) then a0.2.1.1 else IntKind.i64.wrap ((a1).tmod 3)))).tdiv 3))),y7)] else Zeg a1 a0 y1 (IntKind.i64.wrap (a0.2.1.1-(if a0.2.1.1<IntKind.i64.wrap ((a1).tmod 3) then a0.2.1.1 else IntKind.i64.wrap ((a1).tmod 3)))) [])
noncomputable def ZgF (p147:(List Tapi_Tx)) (p145:Int):Option ((List Tapi_Tx)×Int) :=
 some ((p147,p145))
noncomputable def YT (p146:Int) (p288:Int) (p289:(List Tapi_Tx)) (p290:(List Tapi_Coin)):Option ((Int×Int×(List Tapi_Tx)×(List Tapi_Coin)) ⊕ ((List Tapi_Tx)×Int)) :=
 some (.inl (p288,IntKind.u8.wrap (p146+1),p289,p290))
noncomputable def Zbv (p146:Int) (p145:Int) (y294:(Tapi_Tx×Int)) (p147:(List Tapi_Tx)) (p309:(List Tapi_Coin)):Option ((Int) ⊕ ((Int×Int×(List Tapi_Tx)×(List Tapi_Coin)) ⊕ ((List Tapi_Tx)×Int))) :=
 (YT p146 (IntKind.i64.wrap (p145+y294.2)) (p147++[(y294.1.1,y294.1.2.1,y294.1.2.2.1,y294.1.2.2.2)]) p309).map Sum.inr
noncomputable def Zbw (y294:(Tapi_Tx×Int)) (y299:((Arr 32))) (a1:Tapi_Ledger) (p146:Int) (p145:Int) (p147:(List Tapi_Tx)):(Int×(List Tapi_Coin))→Option ((Int×(List Tapi_Coin)) ⊕ ((Int) ⊕ ((Int×Int×(List Tapi_Tx)×(List Tapi_Coin)) ⊕ ((List Tapi_Tx)×Int))))
 | (p308,p309)=>(if p308<(y294.1.2.2.1.length:Int) then(inA (y294.1.2.2.1.length) (p308)).bind fun j313=>((y294.1.2.2.1)[j313]?).bind fun x314=>(chk (p309.length+1≤1599289640401)).bind fun _=>some (.inl (IntKind.i64.wrap (p308+1),p309++[((y299,IntKind.u32.wrap (p308)),x314,IntKind.i64.wrap (a1.1+1),false)])) else(Zbv p146 p145 y294 p147 p309).map Sum.inr)
noncomputable def ZdQ (p148:(List Tapi_Coin)) (a2:Int) (p146:Int) (a1:Tapi_Ledger) (a0:Tapi_Params) (p147:(List Tapi_Tx)) (p145:Int):Int→Option ((Int) ⊕ ((Int×Int×(List Tapi_Tx)×(List Tapi_Coin)) ⊕ ((List Tapi_Tx)×Int)))
 | p265=>(if p265<(p148.length:Int) then(chk ((p148.length:Int)≠0)).bind fun _=>(inA (p148.length) ((IntKind.i64.wrap ((IntKind.i64.wrap ((IntKind.i64.wrap (IntKind.u8.wrap ((a2).tdiv 4)))+(IntKind.i64.wrap (p146))))+p265)).tmod (p148.length:Int))).bind fun j292=>((p148)[j292]?).bind fun x293=>(if (x293.2.2.2=true∧IntKind.i64.wrap ((IntKind.i64.wrap (a1.1+1))-x293.2.2.1)<a0.2.2.2.2.2.2.2.2.2) then some (.inl (IntKind.i64.wrap (p265+1))) else(Zfp x293 (IntKind.u8.wrap (a2+p146))).bind fun y294=>(chk (p147.length+1≤2199023255552)).bind fun _=>(chk ((IntKind.i64.wrap ((IntKind.i64.wrap ((IntKind.i64.wrap (IntKind.u8.wrap ((a2).tdiv 4)))+(IntKind.i64.wrap (p146))))+p265)).tmod (p148.length:Int)≤(p148.length:Int)∧0≤(IntKind.i64.wrap ((IntKind.i64.wrap ((IntKind.i64.wrap (IntKind.u8.wrap ((a2).tdiv 4)))+(IntKind.i64.wrap (p146))))+p265)).tmod (p148.length:Int))).bind fun _=>(chk (0≤IntKind.i64.wrap (((IntKind.i64.wrap ((IntKind.i64.wrap ((IntKind.i64.wrap (IntKind.u8.wrap ((a2).tdiv 4)))+(IntKind.i64.wrap (p146))))+p265)).tmod (p148.length:Int))+1)∧IntKind.i64.wrap (((IntKind.i64.wrap ((IntKind.i64.wrap ((IntKind.i64.wrap (IntKind.u8.wrap ((a2).tdiv 4)))+(IntKind.i64.wrap (p146))))+p265)).tmod (p148.length:Int))+1)≤(p148.length:Int))).bind fun _=>(chk (((IntKind.i64.wrap ((IntKind.i64.wrap ((IntKind.i64.wrap (IntKind.u8.wrap ((a2).tdiv 4)))+(IntKind.i64.wrap (p146))))+p265)).tmod (p148.length:Int)).toNat+(((p148).drop (IntKind.i64.wrap (((IntKind.i64.wrap ((IntKind.i64.wrap ((IntKind.i64.wrap (IntKind.u8.wrap ((a2).tdiv 4)))+(IntKind.i64.wrap (p146))))+p265)).tmod (p148.length:Int))+1)).toNat).take (p148.length-(IntKind.i64.wrap (((IntKind.i64.wrap ((IntKind.i64.wrap ((IntKind.i64.wrap (IntKind.u8.wrap ((a2).tdiv 4)))+(IntKind.i64.wrap (p146))))+p265)).tmod (p148.length:Int))+1)).toNat)).length≤1599289640401)).bind fun _=>(Zeq (y294.1.1,y294.1.2.1,y294.1.2.2.1,y294.1.2.2.2)).bind fun y299=>Zd (Zbw y294 y299 a1 p146 p145 p147) (0,(p148).take ((IntKind.i64.wrap ((IntKind.i64.wrap ((IntKind.i64.wrap (IntKind.u8.wrap ((a2).tdiv 4)))+(IntKind.i64.wrap (p146))))+p265)).tmod (p148.length:Int)).toNat++((p148).drop (IntKind.i64.wrap (((IntKind.i64.wrap ((IntKind.i64.wrap ((IntKind.i64.wrap (IntKind.u8.wrap ((a2).tdiv 4)))+(IntKind.i64.wrap (p146))))+p265)).tmod (p148.length:Int))+1)).toNat).take (p148.length-(IntKind.i64.wrap (((IntKind.i64.wrap ((IntKind.i64.wrap ((IntKind.i64.wrap (IntKind.u8.wrap ((a2).tdiv 4)))+(IntKind.i64.wrap (p146))))+p265)).tmod (p148.length:Int))+1)).toNat))) else(YT p146 p145 p147 p148).map Sum.inr)
noncomputable def ZdR (a2:Int) (a1:Tapi_Ledger) (a0:Tapi_Params):(Int×Int×(List Tapi_Tx)×(List Tapi_Coin))→Option ((Int×Int×(List Tapi_Tx)×(List Tapi_Coin)) ⊕ ((List Tapi_Tx)×Int))
 | (p145,p146,p147,p148)=>(if p146<(a2).tmod 4 then Zd (ZdQ p148 a2 p146 a1 a0 p147 p145) 0 else(ZgF p147 p145).map Sum.inr)
noncomputable def YE (a0:Tapi_Params) (a1:Tapi_Ledger) (a2:Int):Option ((List Tapi_Tx)×Int) :=
 (chk (a1.2.2.length≤1599289640401)).bind fun _=>Zd (ZdR a2 a1 a0) (0,0,[],a1.2.2)
noncomputable def ZgW (p49:(Arr 8)):Option ((Arr 4)×(Arr 4)) :=
 some (((zA 4).over ((p49.l).drop 4),(zA 4).over ((p49.l).take 4)))
noncomputable def Ze3 (p48:Int) (p90:(Arr 8)) (p88:Int):Option ((Int×(Arr 8)) ⊕ ((Arr 4)×(Arr 4))) :=
 (inA (8) (IntKind.i64.wrap (p48+4))).bind fun j97=>some (.inl (IntKind.i64.wrap (p48+1),p90.put j97 p88))
noncomputable def Zi2 (p48:Int) (a0:(Arr 4)) (a1:(Arr 4)):(Int×Int×(Arr 8))→Option ((Int×Int×(Arr 8)) ⊕ ((Int×(Arr 8)) ⊕ ((Arr 4)×(Arr 4))))
 | (p88,p89,p90)=>(if p89<4 then(inA (4) (p48)).bind fun j98=>(inA (4) (p89)).bind fun j99=>(XG (a0.at j98) (a1.at j99)).bind fun y100=>(inA (8) (IntKind.i64.wrap (p48+p89))).bind fun j101=>(Xc (p90.at j101) y100.2 0).bind fun y102=>(Xc y102.1 p88 0).bind fun y103=>some (.inl (IntKind.u64.wrap ((IntKind.u64.wrap (y100.1+y102.2))+y103.2),IntKind.i64.wrap (p89+1),p90.put j101 y103.1)) else(Ze3 p48 p90 p88).map Sum.inr)
noncomputable def Zi3 (a0:(Arr 4)) (a1:(Arr 4)):(Int×(Arr 8))→Option ((Int×(Arr 8)) ⊕ ((Arr 4)×(Arr 4)))
 | (p48,p49)=>(if p48<4 then Zd (Zi2 p48 a0 a1) (0,0,p49) else(ZgW p49).map Sum.inr)
noncomputable def Zgb (a0:(Arr 4)) (a1:(Arr 4)):Option ((Arr 4)×(Arr 4)) :=
 Zd (Zi3 a0 a1) (0,zA 8)
noncomputable def Zi4 (p28:(Arr 4)) (p29:(Arr 4)):Option ((Arr 4)×(Arr 4)×Bool) :=
 some ((p28,p29,true))
noncomputable def Ze4 (p27:Int) (p50:(Arr 4)) (p51:(Arr 4)):Option ((Int×(Arr 4)×(Arr 4)) ⊕ ((Arr 4)×(Arr 4)×Bool)) :=
 some (.inl (IntKind.i64.wrap (p27-1),p50,p51))
noncomputable def Zdq (y41:(Bool)) (a2:(Arr 4)) (p27:Int) (p28:(Arr 4)) (p44:(Arr 4)):Option ((Int×(Arr 4)×(Arr 4)) ⊕ ((Arr 4)×(Arr 4)×Bool)) :=
 ((if y41=true then some (false) else(Xb p44 a2).bind fun y45=>some (decide (0≤y45)))).bind fun z46=>(if (y41=true∨z46=true) then(Zf7 p44 a2).bind fun y52=>(inA (4) (IntKind.i64.wrap ((p27).tdiv 64))).bind fun j53=>(chk (¬ ((p27).tmod 64<0))).bind fun _=>Ze4 p27 (p28.put j53 (bits .or .u64 (p28.at j53) (IntKind.u64.wrap (1 * (2 ^ (min ((p27).tmod 64).toNat 64)))))) y52.1 else Ze4 p27 p28 p44)
noncomputable def Zi5 (a1:(Arr 4)) (a2:(Arr 4)):(Int×(Arr 4)×(Arr 4))→Option ((Int×(Arr 4)×(Arr 4)) ⊕ ((Arr 4)×(Arr 4)×Bool))
 | (p27,p28,p29)=>(if 0≤p27 then(ZaL p29 255).bind fun y41=>(ZeF p29 p29).bind fun y42=>(ZaL a1 p27).bind fun y43=>(if y43=true then Zdq y41 a2 p27 p28 (y42.1.put 0 (bits .or .u64 (y42.1.at 0) 1)) else Zdq y41 a2 p27 p28 y42.1) else(Zi4 p28 p29).map Sum.inr)
noncomputable def Zgc (a0:(Arr 4)) (a1:(Arr 4)) (a2:(Arr 4)):Option ((Arr 4)×(Arr 4)×Bool) :=
 (Xb a2 a0).bind fun y1=>(if y1≤0 then some ((zA 4,zA 4,false)) else Zd (Zi5 a1 a2) (255,zA 4,a0))
noncomputable def ZaV (p15:Int) (p20:(Arr 4)):Option ((Int) ⊕ (Int)) :=
 (Zbt p20).bind fun y21=>(if y21≤23 then some (.inr (bits .or .u32 (IntKind.u32.wrap ((IntKind.u32.wrap (p15)) * 16777216)) (IntKind.u32.wrap (p20.at 0)))) else some (.inl (IntKind.i64.wrap (p15+1))))
noncomputable def Zgo (a0:(Arr 4)):Int→Option ((Int) ⊕ (Int))
 | p15=>(if p15≤3 then(ZeG a0 (IntKind.i64.wrap (8 * (IntKind.i64.wrap (3-p15))))).bind fun y22=>(ZaM y22 (IntKind.i64.wrap (8 * (IntKind.i64.wrap (3-p15))))).bind fun y23=>(Xb y23 a0).bind fun y24=>(if ¬ (y24=0) then some (.inl (IntKind.i64.wrap (p15+1))) else ZaV p15 y22) else(ZaM a0 (IntKind.i64.wrap (8 * (IntKind.i64.wrap (p15-3))))).bind fun y25=>ZaV p15 y25)
noncomputable def ZcE (a0:(Arr 4)):Option (Int) :=
 (Zbs a0).bind fun y1=>(if y1=true then some (0) else Zd (Zgo a0) 1)
noncomputable def Zc3 (p13:(Arr 4)):Option (Int×Int) :=
 (ZcE p13).bind fun y14=>some ((y14,0))
noncomputable def Zc4 (p10:(Arr 4)):Option (Int×Int) :=
 (Zbs p10).bind fun y11=>(if y11=true then(XV 1).bind fun y15=>Zc3 y15 else Zc3 p10)
noncomputable def Zc5 (a0:Tapi_Params) (y2:((Arr 4)×Int)) (p3:Int):Option (Int×Int) :=
 (XV (if IntKind.u64.wrap (4 * (IntKind.u64.wrap ((IntKind.u64.wrap (a0.2.2.1)) * (IntKind.u64.wrap (a0.2.2.2.1)))))<(if p3<IntKind.u64.wrap ((IntKind.u64.wrap ((IntKind.u64.wrap (a0.2.2.1)) * (IntKind.u64.wrap (a0.2.2.2.1)))).tdiv 4) then IntKind.u64.wrap ((IntKind.u64.wrap ((IntKind.u64.wrap (a0.2.2.1)) * (IntKind.u64.wrap (a0.2.2.2.1)))).tdiv 4) else p3) then IntKind.u64.wrap (4 * (IntKind.u64.wrap ((IntKind.u64.wrap (a0.2.2.1)) * (IntKind.u64.wrap (a0.2.2.2.1))))) else(if p3<IntKind.u64.wrap ((IntKind.u64.wrap ((IntKind.u64.wrap (a0.2.2.1)) * (IntKind.u64.wrap (a0.2.2.2.1)))).tdiv 4) then IntKind.u64.wrap ((IntKind.u64.wrap ((IntKind.u64.wrap (a0.2.2.1)) * (IntKind.u64.wrap (a0.2.2.2.1)))).tdiv 4) else p3))).bind fun y4=>(Zgb y2.1 y4).bind fun y5=>(XV (IntKind.u64.wrap ((IntKind.u64.wrap (a0.2.2.1)) * (IntKind.u64.wrap (a0.2.2.2.1))))).bind fun y6=>(Zgc y5.1 y5.2 y6).bind fun y7=>((if ¬ (y7.2.2=true) then some (false) else(Xb y7.1 a0.2.1).bind fun y8=>some (decide (0<y8)))).bind fun z9=>(if (¬ (y7.2.2=true)∨z9=true) then Zc4 a0.2.1 else Zc4 y7.1)
noncomputable def Zdr (a0:Tapi_Params) (a1:Int) (a2:Int) (a3:Int):Option (Int×Int) :=
 (Xe a0).bind fun y1=>(if ¬ (y1=true) then some ((0,6)) else(Za3 a1).bind fun y2=>(if ¬ (y2.2=0) then some ((0,y2.2)) else(if a2<a3 then Zc5 a0 y2 (IntKind.u64.wrap (IntKind.u32.wrap (a3-a2))) else Zc5 a0 y2 0)))
noncomputable def Zc6 (a0:Tapi_Params) (a1:Tapi_Context):Option (Int×Int) :=
 (Xe a0).bind fun y1=>(if ((((¬ (y1=true)∨a1.1<0)∨16777216<a1.1)∨(a1.2.2.2.2.length:Int)=0)∨11<(a1.2.2.2.2.length:Int)) then some ((0,6)) else(chk (a0.2.2.1≠0)).bind fun _=>(if ¬ ((IntKind.i64.wrap (a1.1+1)).tmod a0.2.2.1=0) then some ((a1.2.2.1,0)) else(idx (a1.2.2.2.2) (IntKind.i64.wrap ((a1.2.2.2.2.length:Int)-1))).bind fun x3=>(Zdr a0 a1.2.2.1 a1.2.2.2.1 x3).bind fun y4=>some ((y4.1,y4.2))))
noncomputable def ZkC (a0:Tapi_Params) (a1:Tapi_Context) (a2:(Arr 32)) (y2:(Int)) (a3:Int) (y1:(Int×Int)) (p8:Int):Option Tapi_Header :=
 some ((a0.2.2.2.2.2.1,a1.2.1,a2,IntKind.u32.wrap ((IntKind.u32.wrap (y2+1))+a3),y1.1,p8))
noncomputable def Zid (a0:Tapi_Params) (a1:Tapi_Context) (a2:(Arr 32)) (y2:(Int)) (a3:Int) (y1:(Int×Int)):Int→Option ((Int) ⊕ (Tapi_Header))
 | p8=>(if p8<20000 then(X5 (a0.2.2.2.2.2.1,a1.2.1,a2,IntKind.u32.wrap ((IntKind.u32.wrap (y2+1))+a3),y1.1,p8)).bind fun y11=>(ZcX y11 y1.1).bind fun y12=>(if y12=true then some (.inr ((a0.2.2.2.2.2.1,a1.2.1,a2,IntKind.u32.wrap ((IntKind.u32.wrap (y2+1))+a3),y1.1,p8))) else some (.inl (IntKind.u32.wrap (p8+1)))) else(ZkC a0 a1 a2 y2 a3 y1 p8).map Sum.inr)
noncomputable def Zfq (a0:Tapi_Params) (a1:Tapi_Context) (a2:(Arr 32)) (a3:Int):Option (Tapi_Header) :=
 (Zc6 a0 a1).bind fun y1=>(Zb6 a1.2.2.2.2).bind fun y2=>Zd (Zid a0 a1 a2 y2 a3 y1) 0
noncomputable def Zeh (a0:Tapi_Params) (a1:Tapi_Ledger) (a2:Tapi_Context) (a3:Int):Option (Tapi_Block) :=
 (YE a0 a1 a3).bind fun y1=>(Zbk a0 (IntKind.i64.wrap (a1.1+1))).bind fun y2=>(ZaG (IntKind.u8.wrap ((a3).tdiv 8))).bind fun y3=>(Zd8 (IntKind.i64.wrap (a1.1+1)) (IntKind.i64.wrap (y2+y1.2)) y3).bind fun y4=>(chk (1+y1.1.length≤2199023255552)).bind fun _=>(ZdO ([(y4.1,y4.2.1,y4.2.2.1,y4.2.2.2)]++y1.1)).bind fun y6=>(Ze1 a3).bind fun y7=>(Zfq a0 a2 y6 y7).bind fun y8=>some ((y8,[(y4.1,y4.2.1,y4.2.2.1,y4.2.2.2)]++y1.1))
noncomputable def Zab (a0:ByteArray) (a1:(List Int)):Option ((Arr 32)) :=
 (chk (a0.size≤140737488355328)).bind fun _=>(YZ (ZjT a0)).bind fun y2=>(chk (y2.l.length≤140737488355328)).bind fun _=>(chk (y2.l.length+y2.l.length≤140737488355328)).bind fun _=>(chk (y2.l.length+y2.l.length+a1.length≤140737488355328)).bind fun _=>(YZ (y2.l++y2.l++a1)).bind fun y6=>some (y6)
noncomputable def Zcd (a0:Tapi_Tx) (p14:(List Int)) (p15:(List Int)) (p29:(List Int)) (a1:Int) (a2:Tapi_Output):Option ((Arr 32)×Int) :=
 (ZW ([]:(List Int)) a0.1).bind fun y33=>(YZ p14).bind fun y34=>(Yr y33 y34).bind fun y35=>(YZ p15).bind fun y36=>(Yr y35 y36).bind fun y37=>(YZ p29).bind fun y38=>(Yr y37 y38).bind fun y39=>(ZW y39 a0.2.2.2).bind fun y40=>(ZW y40 (IntKind.u32.wrap (a1))).bind fun y41=>(ZdA a2).bind fun y42=>(chk (y41.length+y42.length≤140737488355328)).bind fun _=>(Zab (⟨#[108,105,103,104,116,99,108,105,101,110,116,47,115,112,101,110,100]⟩:ByteArray) (y41++y42)).bind fun y44=>some ((y44,0))
noncomputable def Zgp (a0:Tapi_Tx) (p14:(List Int)) (p15:(List Int)) (a1:Int) (a2:Tapi_Output):(Int×(List Int))→Option ((Int×(List Int)) ⊕ ((Arr 32)×Int))
 | (p28,p29)=>(if p28<(a0.2.2.1.length:Int) then(idx (a0.2.2.1) (p28)).bind fun x45=>(ZdA x45).bind fun y46=>(chk (p29.length+y46.length≤140737488355328)).bind fun _=>some (.inl (IntKind.i64.wrap (p28+1),p29++y46)) else(Zcd a0 p14 p15 p29 a1 a2).map Sum.inr)
noncomputable def Zce (a0:Tapi_Tx) (p14:(List Int)) (p15:(List Int)) (a1:Int) (a2:Tapi_Output):Option ((Arr 32)×Int) :=
 Zd (Zgp a0 p14 p15 a1 a2) (0,[])
noncomputable def Zgq (a0:Tapi_Tx) (a1:Int) (a2:Tapi_Output):(Int×(List Int)×(List Int))→Option ((Int×(List Int)×(List Int)) ⊕ ((Arr 32)×Int))
 | (p13,p14,p15)=>(if p13<(a0.2.1.length:Int) then(idx (a0.2.1) (p13)).bind fun x48=>(ZcN x48.1).bind fun y49=>(chk (p14.length+y49.length≤140737488355328)).bind fun _=>(ZW p15 x48.2.1).bind fun y51=>some (.inl (IntKind.i64.wrap (p13+1),p14++y49,y51)) else(Zce a0 p14 p15 a1 a2).map Sum.inr)
noncomputable def ZcF (a0:Tapi_Tx) (a1:Int) (a2:Tapi_Output):Option ((Arr 32)×Int) :=
 (X0 a0).bind fun y1=>(if ((¬ (y1=true)∨a2.1<0)∨520<(a2.2.length:Int)) then some ((zA 32,4)) else(if (a1<0∨(a0.2.1.length:Int)≤a1) then some ((zA 32,5)) else Zd (Zgq a0 a1 a2) (0,[],([]:(List Int)))))
open Classical in
noncomputable def Zau (a0:(List Int)) (a1:(List (List Int))) (a2:Tapi_Env):Option (Int) :=
 if ∃ j k,(1≤j∧j≤6)∧(1≤k∧k≤6)∧a0=[1,1,j,5]∧a1=[[k]] then some (if a1=[[a0.getD 2 0]] then 0 else 84) else none
noncomputable def Zei (a0:Tapi_Tx) (a1:Int) (a2:Tapi_Coin) (a3:Int):Option (Int) :=
 (ZcF a0 a1 a2.2.1).bind fun y1=>(if ¬ (y1.2=0) then some (y1.2) else(idx (a0.2.1) (a1)).bind fun x2=>(if ¬ ((x2.1.1=a2.1.1∧x2.1.2=a2.1.2)) then some (101) else(if ((16777216<a3∨a2.2.2.1<0)∨a3<a2.2.2.1) then some (102) else(Zau a2.2.1.2 x2.2.2 (y1.1,a3,IntKind.i64.wrap (a3-a2.2.2.1))).bind fun y3=>some (y3))))
noncomputable def ZhO (y2:(Int×Int)):Option (Int×Int) :=
 some ((y2.1,0))
noncomputable def ZfI (a1:(List Tapi_Coin)) (a0:Tapi_Tx) (a2:Int) (y2:(Int×Int)):Int→Option ((Int) ⊕ (Int×Int))
 | p9=>(if p9<(a1.length:Int) then(idx (a1) (p9)).bind fun x12=>(Zei a0 p9 x12 a2).bind fun y13=>(if ¬ (y13=0) then some (.inr ((0,y13))) else some (.inl (IntKind.i64.wrap (p9+1)))) else(ZhO y2).map Sum.inr)
noncomputable def Zej (a0:Tapi_Tx) (a1:(List Tapi_Coin)) (a2:Int):Option (Int×Int) :=
 (XT a0).bind fun y1=>(if y1=true then some ((0,92)) else(Zf2 a0 a1).bind fun y2=>(if ¬ (y2.2=0) then some ((0,y2.2)) else(X6 a0 a2).bind fun y3=>(if ¬ (y3=true) then some ((0,85)) else Zd (ZfI a1 a0 a2 y2) 0)))
noncomputable def ZfP (a2:Tapi_Block) (a1:Tapi_Ledger) (p50:Int) (p52:(List Tapi_Coin)) (y2:((Arr 32))) (p53:(List Tapi_Coin)):Option (Tapi_Ledger×(List Tapi_Coin)×Int) :=
 ((a2.2)[0]?).bind fun x75=>(Zat x75 (IntKind.i64.wrap (a1.1+1))).bind fun y76=>(Zc2 y76).bind fun y77=>(if p50<y77 then some (((0,zA 32,([]:(List Tapi_Coin))),([]:(List Tapi_Coin)),231)) else(Zc2 p52).bind fun y78=>(if 2100000000000000<y78 then some (((0,zA 32,([]:(List Tapi_Coin))),([]:(List Tapi_Coin)),90)) else(if 100000<(p52.length:Int) then some (((0,zA 32,([]:(List Tapi_Coin))),([]:(List Tapi_Coin)),4)) else some (((IntKind.i64.wrap (a1.1+1),y2,p52),p53,0)))))
noncomputable def XJ (x79:Tapi_Tx) (a1:Tapi_Ledger) (p51:Int) (p96:Int) (p97:(List Tapi_Coin)) (p98:(List Tapi_Coin)):Option ((Int×Int×(List Tapi_Coin)×(List Tapi_Coin)) ⊕ (Tapi_Ledger×(List Tapi_Coin)×Int)) :=
 (Zga p97 x79 (IntKind.i64.wrap (a1.1+1))).bind fun y99=>(if ¬ (y99.2=0) then some (.inr (((0,zA 32,([]:(List Tapi_Coin))),([]:(List Tapi_Coin)),y99.2))) else some (.inl (p96,IntKind.i64.wrap (p51+1),y99.1,p98)))
noncomputable def ZfQ (p53:(List Tapi_Coin)) (y100:((List Tapi_Coin)×Int)) (x79:Tapi_Tx) (a1:Tapi_Ledger) (p51:Int) (p50:Int) (y101:(Int×Int)) (p111:(List Tapi_Coin)):Option ((Int×Int×(List Tapi_Coin)×(List Tapi_Coin)) ⊕ (Tapi_Ledger×(List Tapi_Coin)×Int)) :=
 (chk (p53.length+y100.1.length≤1599289640401)).bind fun _=>XJ x79 a1 p51 (IntKind.i64.wrap (p50+y101.1)) p111 (p53++y100.1)
noncomputable def ZfR (y100:((List Tapi_Coin)×Int)) (p53:(List Tapi_Coin)) (x79:Tapi_Tx) (a1:Tapi_Ledger) (p51:Int) (p50:Int) (y101:(Int×Int)):(Int×(List Tapi_Coin))→Option ((Int×(List Tapi_Coin)) ⊕ ((Int×Int×(List Tapi_Coin)×(List Tapi_Coin)) ⊕ (Tapi_Ledger×(List Tapi_Coin)×Int)))
 | (p110,p111)=>(if p110<(y100.1.length:Int) then(idx (y100.1) (p110)).bind fun x116=>(Zcq p111 x116.1).bind fun y117=>(ZcB p111 y117).bind fun y118=>some (.inl (IntKind.i64.wrap (p110+1),y118)) else(ZfQ p53 y100 x79 a1 p51 p50 y101 p111).map Sum.inr)
noncomputable def ZfS (a2:Tapi_Block) (a0:Tapi_Params) (a1:Tapi_Ledger) (y2:((Arr 32))):(Int×Int×(List Tapi_Coin)×(List Tapi_Coin))→Option ((Int×Int×(List Tapi_Coin)×(List Tapi_Coin)) ⊕ (Tapi_Ledger×(List Tapi_Coin)×Int))
 | (p50,p51,p52,p53)=>(if p51<(a2.2.length:Int) then(idx (a2.2) (p51)).bind fun x79=>(if 0<p51 then(Zec a0 p52 x79 (IntKind.i64.wrap (a1.1+1))).bind fun y100=>(if ¬ (y100.2=0) then some (.inr (((0,zA 32,([]:(List Tapi_Coin))),([]:(List Tapi_Coin)),y100.2))) else(Zej x79 y100.1 (IntKind.i64.wrap (a1.1+1))).bind fun y101=>(if ¬ (y101.2=0) then some (.inr (((0,zA 32,([]:(List Tapi_Coin))),([]:(List Tapi_Coin)),y101.2))) else Zd (ZfR y100 p53 x79 a1 p51 p50 y101) (0,p52))) else XJ x79 a1 p51 p50 p52 p53) else(ZfP a2 a1 p50 p52 y2 p53).map Sum.inr)
noncomputable def Zb0 (a0:Tapi_Params) (a1:Tapi_Ledger) (a2:Tapi_Block):Option (Tapi_Ledger×(List Tapi_Coin)×Int) :=
 (Zeb a0 a1 a2).bind fun y1=>(if ¬ (y1=0) then some (((0,zA 32,([]:(List Tapi_Coin))),([]:(List Tapi_Coin)),y1)) else(X5 a2.1).bind fun y2=>(Zbk a0 (IntKind.i64.wrap (a1.1+1))).bind fun y3=>Zd (ZfS a2 a0 a1 y2) (y3,0,a1.2.2,[]))
noncomputable def Lref14_Checkw_k1:Option Int :=
 some (0)
noncomputable def Zhd (a0:Tapi_Params) (y1:(Tapi_Context×Int)):Int→Option ((Int) ⊕ (Int))
 | p8=>(if p8<(a0.2.2.2.2.2.2.1.length:Int) then(idx (a0.2.2.2.2.2.2.1) (p8)).bind fun x10=>(if (x10.1=y1.1.1∧¬ (x10.2=y1.1.2.1)) then some (.inr (143)) else some (.inl (IntKind.i64.wrap (p8+1)))) else(Lref14_Checkw_k1).map Sum.inr)
noncomputable def Zb7 (a0:Tapi_Params) (a1:Tapi_Context) (a2:Tapi_Header) (a3:Int):Option (Int) :=
 (Zbm a0 a1 a2).bind fun y1=>(if ¬ (y1.2=0) then some (y1.2) else(if ¬ (a2.2.1=a1.2.1) then some (144) else(if a2.1<a0.2.2.2.2.2.1 then some (142) else(Zc6 a0 a1).bind fun y2=>(if ¬ (y2.2=0) then some (y2.2) else(if ¬ (a2.2.2.2.2.1=y2.1) then some (130) else(ZcX y1.1.2.1 a2.2.2.2.2.1).bind fun y3=>(if ¬ (y3=true) then some (121) else(Zb6 a1.2.2.2.2).bind fun y4=>(if a2.2.2.2.1≤y4 then some (140) else(if IntKind.u64.wrap ((IntKind.u64.wrap (a3))+(IntKind.u64.wrap (a0.2.2.2.2.1)))<IntKind.u64.wrap (a2.2.2.2.1) then some (141) else Zd (Zhd a0 y1) 0))))))))
noncomputable def Zie (a0:Tlightclientmade_World) (p39:(List Tapi_Block)) (p40:(List Tapi_Ledger)) (p41:(List Tapi_Context)) (p42:(List (List Tapi_Coin))):Option Tlightclientmade_World :=
 some ((a0.1,p39,p40,p41,p42))
noncomputable def Zif (a1:(List Int)) (a0:Tlightclientmade_World):(Int×(List Tapi_Block)×(List Tapi_Ledger)×(List Tapi_Context)×(List (List Tapi_Coin)))→Option ((Int×(List Tapi_Block)×(List Tapi_Ledger)×(List Tapi_Context)×(List (List Tapi_Coin))) ⊕ (Tlightclientmade_World))
 | (p38,p39,p40,p41,p42)=>(if p38<(a1.length:Int) then(idx (a1) (p38)).bind fun x57=>(inA (p40.length) (IntKind.i64.wrap ((p40.length:Int)-1))).bind fun j58=>((p40)[j58]?).bind fun x59=>(inA (p41.length) (IntKind.i64.wrap ((p41.length:Int)-1))).bind fun j60=>((p41)[j60]?).bind fun x61=>(Zeh a0.1 x59 x61 x57).bind fun y62=>(Zb0 a0.1 x59 (y62.1,y62.2)).bind fun y63=>((if ¬ (y63.2.2=0) then some (false) else(Zb7 a0.1 x61 y62.1 1073741824).bind fun y64=>some (!(decide (y64=0))))).bind fun z65=>(if (¬ (y63.2.2=0)∨z65=true) then some (.inl (IntKind.i64.wrap (p38+1),p39,p40,p41,p42)) else(Zbm a0.1 x61 y62.1).bind fun y66=>(chk (p39.length+1≤1353245080339)).bind fun _=>(chk (p40.length+1≤2199023255552)).bind fun _=>(chk (p41.length+1≤1954687338268)).bind fun _=>(chk (p42.length+1≤5864062014805)).bind fun _=>some (.inl (IntKind.i64.wrap (p38+1),p39++[(y62.1,y62.2)],p40++[y63.1],p41++[y66.1],p42++[y63.2.1]))) else(Zie a0 p39 p40 p41 p42).map Sum.inr)
noncomputable def Zfr (a0:Tlightclientmade_World) (a1:(List Int)):Option (Tlightclientmade_World) :=
 (chk (a0.2.1.length≤1353245080339)).bind fun _=>(chk (a0.2.2.2.2.length≤5864062014805)).bind fun _=>(chk (a0.2.2.1.length≤2199023255552)).bind fun _=>(chk (a0.2.2.2.1.length≤1954687338268)).bind fun _=>Zd (Zif a1 a0) (0,a0.2.1,a0.2.2.1,a0.2.2.2.1,a0.2.2.2.2)
noncomputable def Zek (a0:Int) (a1:(List Int)):Option (Tlightclientmade_World) :=
 (Zfo a0).bind fun y1=>(Zfr (y1.1,y1.2.1,y1.2.2.1,y1.2.2.2.1,y1.2.2.2.2) a1).bind fun y2=>some ((y2.1,y2.2.1,y2.2.2.1,y2.2.2.2.1,y2.2.2.2.2))
noncomputable def Zgd (a0:(List Int)) (a1:Int):Option ((List Int)) :=
 (chk ((if a1<(a0.length:Int) then a1 else(a0.length:Int))≤(a0.length:Int)∧0≤(if a1<(a0.length:Int) then a1 else(a0.length:Int)))).bind fun _=>some ((a0).take (((if a1<(a0.length:Int) then a1 else(a0.length:Int))).toNat))
end
section
set_option maxRecDepth 100000
noncomputable def ZfJ (p21:(List (Arr 32))) (p22:(List (Arr 32))) (p23:(List Tapi_Filter)):Option (Tapi_FilterChain×(List Tapi_Filter)×Bool) :=
 (YD (([]:(List (Arr 32))),([]:(List (Arr 32)))) p21 p22).bind fun y32=>some ((y32.1,p23,decide (y32.2=0)))
noncomputable def ZhP (y2:(Tlightclientmade_World)):(Int×(List (Arr 32))×(List (Arr 32))×(List Tapi_Filter))→Option ((Int×(List (Arr 32))×(List (Arr 32))×(List Tapi_Filter)) ⊕ (Tapi_FilterChain×(List Tapi_Filter)×Bool))
 | (p20,p21,p22,p23)=>(if p20<(y2.2.1.length:Int) then(inA (y2.2.1.length) (p20)).bind fun j33=>((y2.2.1)[j33]?).bind fun x34=>(ZdP x34).bind fun y35=>(if ¬ (y35.2=0) then some (.inr (((([]:(List (Arr 32))),([]:(List (Arr 32)))),([]:(List Tapi_Filter)),false))) else(X5 x34.1).bind fun y36=>(chk (p21.length+1≤4398046511104)).bind fun _=>(ZbK y35.1).bind fun y38=>(chk (p22.length+1≤4398046511104)).bind fun _=>(chk (p23.length+1≤4398046511104)).bind fun _=>some (.inl (IntKind.i64.wrap (p20+1),p21++[y36],p22++[y38],p23++[y35.1]))) else(ZfJ p21 p22 p23).map Sum.inr)
noncomputable def Zel (a0:Int) (a1:(List Int)):Option (Tapi_FilterChain×(List Tapi_Filter)×Bool) :=
 (Zgd a1 8).bind fun y1=>(Zek a0 y1).bind fun y2=>Zd (ZhP y2) (0,[],[],[])
noncomputable def Zay (y2:(Tapi_FilterChain×(List Tapi_Filter)×Bool)) (a2:Tapi_Filter):Option Bool :=
 (Yn y2.1 (y2.2.1.length:Int) a2).bind fun y31=>some (decide (y31=5))
noncomputable def Zcm (y2:(Tapi_FilterChain×(List Tapi_Filter)×Bool)) (a2:Tapi_Filter):(Int×(Arr 32))→Option ((Int×(Arr 32)) ⊕ (Bool))
 | (p21,p22)=>(if p21<(y2.2.1.length:Int) then(idx (y2.2.1) (p21)).bind fun x32=>(Yn y2.1 p21 x32).bind fun y33=>(if ¬ (y33=0) then some (.inr (false)) else(Yn y2.1 p21 a2).bind fun y34=>((if y34=0 then(ZbK a2).bind fun y35=>(XO y35 p22).bind fun y36=>(idx (y2.1.2) (p21)).bind fun x37=>some (!(decide (y36=x37))) else some (false))).bind fun z38=>(if (y34=0∧z38=true) then some (.inr (false)) else(idx (y2.1.2) (p21)).bind fun x39=>some (.inl (IntKind.i64.wrap (p21+1),x39)))) else(Zay y2 a2).map Sum.inr)
noncomputable def Zbx (a0:Int) (a1:(List Int)) (a2:Tapi_Filter):Option (Bool) :=
 (Llaw21_sane).bind fun y1=>(if ¬ (y1=true) then some (false) else(Zel a0 a1).bind fun y2=>(if (¬ (y2.2.2=true)∨400<(a2.2.length:Int)) then some (y2.2.2) else Zd (Zcm y2 a2) (0,zA 32)))
end
end Go.Lc
namespace Go.Av
open Go.RowKit
open Go.Av
set_option linter.unusedVariables false
set_option linter.unusedSimpArgs false
theorem bA {β:Type}{n:Nat}{i:Int}{f:Nat→Option β}{y:β}(h:(inA n i).bind f=some y):∃ j,(0≤i∧i.toNat=j∧j<n)∧f j=some y :=
 let ⟨j,h1,h2⟩:=bs h
 ⟨j,YK h1,h2⟩
theorem bI {α β:Type}{l:List α}{i:Int}{f:α→Option β}{y:β}(h:(idx l i).bind f=some y):∃ x,(0≤i∧l[i.toNat]? = some x∧∀ h':i.toNat<l.length,l[i.toNat]=x)∧f x=some y :=
 let ⟨x,h1,h2⟩:=bs h
 ⟨x,⟨(ZcK h1).1,(ZcK h1).2,YN (ZcK h1).2⟩,h2⟩
theorem bC {β:Type}{p:Prop}[Decidable p]{f:Unit→Option β}{y:β}(h:(chk p).bind f=some y):p∧f ()=some y :=
 let ⟨_,h1,h2⟩:=bs h
 ⟨ZK h1,h2⟩
theorem bG {α β:Type}{o:Option α}{f:α→Option β}{y:β}{P:α→Prop}(h:o.bind f=some y) (k:∀ x,o=some x→P x):∃ x,P x∧f x=some y :=
 let ⟨x,h1,h2⟩:=bs h
 ⟨x,k x h1,h2⟩
theorem eqT (p:Prop):(p=True)∨¬ p:=(Classical.em p).imp eq_true id
theorem ifP {α:Type}{c:Prop}[Decidable c]{a b r:α}(h:(if c then a else b)=r) (hc:c:=by simp[-Int.ofNat_toNat, *]):a=r:=by rwa[if_pos hc] at h
theorem Zk8 {α β:Type}{c:Prop}[Decidable c]{a b:Option α}{f:α→Option β}{r:Option β}(h:(if c then a else b).bind f=r) (hc:c:=by simp[-Int.ofNat_toNat, *]):a.bind f=r:=by rwa[if_pos hc] at h
theorem Zk9 {α β:Type}{c:Prop}[Decidable c]{a b:Option α}{f:α→Option β}{r:Option β}(h:(if c then a else b).bind f=r) (hc:¬ c:=by simp[-Int.ofNat_toNat, *]):b.bind f=r:=by rwa[if_neg hc] at h
theorem ifN {α:Type}{c:Prop}[Decidable c]{a b r:α}(h:(if c then a else b)=r) (hc:¬ c:=by simp[-Int.ofNat_toNat, *]):b=r:=by rwa[if_neg hc] at h
attribute [simp] YF YU Zct
structure Con (α β:Type) where
 E:α→List PV
 R:α→β→PV×List (List Cell)
 g:α→Option β
section
variable {α β:Type}{K:Con α β}
noncomputable def Con.G (K:Con α β):List PV→Option (PV×List (List Cell)):=Zad K.E fun x=>(K.g x).map (K.R x)
def Con.Inj (K:Con α β):Prop:=∀ a b,K.E a=K.E b→a=b
theorem Con.Inj.eq (hi:K.Inj){x:α}{y:β}(h:K.g x=some y):K.G (K.E x)=some (K.R x y):=Y1 hi h
theorem Con.none {ps:List PV}(h:∀ a,K.E a=ps→False):K.G ps=none:=Zsw h
def Zh (T:Tab):List (Nat×(List PV→Option (PV×List (List Cell))))→Prop
 | []=>True
 | (g,F) :: l=>T g=some F∧Zh T l
theorem ZrB {l m:List (Nat×(List PV→Option (PV×List (List Cell))))}{own:Nat→List (List Nat)}(h:∀ p∈m,(tab l own).fn p.1=some p.2):Zh (tab l own) m:=by
 induction m with
 | nil=>trivial
 | cons p m ih=>exact⟨h p (by simp),ih fun q hq=>h q (by simp[hq])⟩
def Walk (tt:TT) (G:Glob) (l:List (Nat×(List PV→Option (PV×List (List Cell))))) (own:Nat→List (List Nat)) (fn:Func) (K:Con α β):Prop :=
 ∀ T:Tab,T.own=own→Zh T l→∀ x y,K.g x=some y→∃ kp fl n,Z2 tt T G kp fl n fn (K.E x)=some (K.R x y)
def kpL:List (Nat×Kp)→Keep
 | [],_=>⟨[],[],[]⟩
 | (j,q) :: l,i=>if i=j then q else kpL l i
theorem Walk.of {tt:TT}{G:Glob}{l:List (Nat×(List PV→Option (PV×List (List Cell))))}{own:Nat→List (List Nat)}{fn:Func}{c:Code}{n:Nat}(kl:List (Nat×Kp)) (w:Bool) (hb:fn.body=some c) (hn:fn.ntmps=n)
  (h:∀ T:Tab,T.own=own→Zh T l→∀ x y,K.g x=some y→Zka (K.E x)=true∧ZA tt T G (kpL kl) c ⟨(ioIn 0 0 (K.E x)).1++List.replicate (n-(K.E x).length) .skip,ZjI (K.E x)⟩ (ZaA tt w fn (K.E x) (K.R x y))):Walk tt G l own fn K :=
 fun T h1 h2 x y h3=>fnE (kp:=kpL kl) (w:=w) hb (h T h1 h2 x y h3).1 (by rw[hn]; exact(h T h1 h2 x y h3).2)
def distinctF:List (Nat×(List PV→Option (PV×List (List Cell))))→Bool
 | []=>true
 | (g,_) :: l=>l.all (fun q=>!(q.1 == g)) && distinctF l
theorem Znk {own:Nat→List (List Nat)}:∀ {l:List (Nat×(List PV→Option (PV×List (List Cell))))},distinctF l=true→∀ p∈l,tabF l p.1=some p.2
 | [],_,p,hp=>by simp at hp
 | (g,F) :: l,h,p,hp=>by
  simp only[distinctF,Bool.and_eq_true,List.all_eq_true] at h;simp only[tabF];rcases List.mem_cons.1 hp with rfl | hp
  ·simp
  ·have:=h.1 p hp
   rw[if_neg (by simpa using this)];exact Znk (own:=own) h.2 p hp
theorem mkW {P:Program}{tt:TT}{G:Glob}{l:List (Nat×(List PV→Option (PV×List (List Cell))))}{own:Nat→List (List Nat)}(hm:P.follows .mixedOrders=true) (htt:∀ t i,tt t=some i→ZQ P t=some i)
  {f:FuncId}{fn:Func}{c:Code}(w:Walk tt G l own fn K) (hT:ZnG P G l) (hf:P.funcs[f]? = some fn) (hb:fn.body=some c) (hname:(!(fn.name == "runtime.NumGoroutine") && distinctF l)=true):Yb P G f K.G:=by
 simp only[Bool.and_eq_true,Bool.not_eq_true'] at hname;exact mkI (T:=tab l own) hm htt (tab_ok hT) hf hb hname.1 fun x y hy=>w _ rfl (ZrB (Znk (own:=own) hname.2)) x y hy
end
attribute [simp] kpL
section
variable {tt:TT}{T:Tab}{G:Glob}{kp:Keep}{st st0 st1:ASt}{a b c d:Code}{Q Q':AE→ASt→Prop}{P R H:Prop}
def Imp (R P:Prop):Prop:=R→P
structure ZaO (X R:Prop):Prop where
 h:X=R
theorem Imp.of (e:ZaO P R):Imp P R:=fun p=>e.h ▸ p
theorem Zcn {id:Nat}{ops:Array Oper}(hc:c = .region id ops false) (h:Zcj tt T G ops.toList ops.toList st=some st1) (hq:Imp R (ZA tt T G kp b st1 Q)) (hj:(kp (id+1000000)).ks.isEmpty=true:=by rfl):Imp R (ZA tt T G kp (.seq c b) st Q):=fun r=>Zg hc h (hq r) hj
theorem Zby {id:Nat}{ops:Array Oper}{fs:List Foot}(hc:c = .region id ops true) (h:ZcH tt T G ops.toList ops.toList st=some (st1,fs)) (hd:Zgw ops.toList fs=true) (hq:Imp R (ZA tt T G kp b st1 Q)) (hj:(kp (id+1000000)).ks.isEmpty=true:=by rfl):Imp R (ZA tt T G kp (.seq c b) st Q):=fun r=>Xg hc h hd (hq r) hj
theorem ZhQ {id:Nat}{ops:Array Oper}(hc:c = .region id ops false) (h:Zcj tt T G ops.toList ops.toList st=some st1) (hq:Imp R (Q .normal st1)) (hj:(kp (id+1000000)).ks.isEmpty=true:=by rfl):Imp R (ZA tt T G kp c st Q):=fun r=>Zaq hc h (hq r) hj
theorem Zge {id:Nat}{ops:Array Oper}{fs:List Foot}(hc:c = .region id ops true) (h:ZcH tt T G ops.toList ops.toList st=some (st1,fs)) (hd:Zgw ops.toList fs=true) (hq:Imp R (Q .normal st1)) (hj:(kp (id+1000000)).ks.isEmpty=true:=by rfl):Imp R (ZA tt T G kp c st Q):=fun r=>ZnI hc h hd (hq r) hj
theorem ZeJ (h:Imp R (ZA tt T G kp (.seq a (.seq b d)) st Q)):Imp R (ZA tt T G kp (.seq (.seq a b) d) st Q):=fun r=>Z0 (h r)
theorem Zgf (h:Imp R (Q .normal st)):Imp R (ZA tt T G kp .skip st Q):=fun r=>Zh5 (h r)
theorem ZhR (h:Imp R (Q .ret st)):Imp R (ZA tt T G kp .ret st Q):=fun r=>ZcJ (h r)
theorem Zgg {id:Nat}(h:Imp R (Q (.exit id) st)):Imp R (ZA tt T G kp (.exit id) st Q):=fun r=>Zmc (h r)
theorem Zbz (h:Imp R (ZA tt T G kp b st Q)):Imp R (ZA tt T G kp (.seq .skip b) st Q):=fun r=>ZS (h r)
theorem Zco (h:Imp R (Q .ret st)):Imp R (ZA tt T G kp (.seq .ret b) st Q):=fun r=>Zjq (h r)
theorem ZbA {id:Nat}(h:Imp R (Q (.exit id) st)):Imp R (ZA tt T G kp (.seq (.exit id) b) st Q):=fun r=>Yt (h r)
theorem ZeK {id:Nat}(h:Imp R (ZA tt T G kp c st (Zjp id Q))):Imp R (ZA tt T G kp (.block id c) st Q):=fun r=>Zg3 (h r)
theorem ZaP {id:Nat}(h:Imp R (ZA tt T G kp c st (Zjp id (Zhy (fun s=>ZA tt T G kp d s Q) Q)))):Imp R (ZA tt T G kp (.seq (.block id c) d) st Q):=fun r=>ZD (h r)
theorem Zam {x:Operand}(h:rd G st.get x=some (bV true)) (h1:Imp R (ZA tt T G kp a st Q)):Imp R (ZA tt T G kp (.cond x a b) st Q):=fun r=>Zg1 h (h1 r)
theorem Zan {x:Operand}(h:rd G st.get x=some (bV false)) (h1:Imp R (ZA tt T G kp b st Q)):Imp R (ZA tt T G kp (.cond x a b) st Q):=fun r=>Zg2 h (h1 r)
theorem Yz {x:Operand}(h:rd G st.get x=some (bV true)) (h1:Imp R (ZA tt T G kp (.seq a d) st Q)):Imp R (ZA tt T G kp (.seq (.cond x a b) d) st Q):=fun r=>ZT h (h1 r)
theorem YA {x:Operand}(h:rd G st.get x=some (bV false)) (h1:Imp R (ZA tt T G kp (.seq b d) st Q)):Imp R (ZA tt T G kp (.seq (.cond x a b) d) st Q):=fun r=>ZJ h (h1 r)
theorem ZeL (h:Imp R P) (e:H=P):Imp R H:=fun r=>e ▸ h r
theorem go (k:R) (h:∀ X:Prop,ZaO X R→Imp X P:=by
 intro X e
 repeat (first
  | (with_reducible refine ZeJ ?_)
  | (with_reducible refine Zbz ?_)
  | (with_reducible refine ZaP ?_)
  | (with_reducible refine ZbA ?_)
  | (with_reducible refine Zco ?_)
  | (with_reducible refine ZeK ?_)
  | (with_reducible refine Zgf ?_)
  | (with_reducible refine Zgg ?_)
  | (with_reducible refine ZhR ?_)
  | (with_reducible refine Yz ?_ ?_; · simp[-Int.ofNat_toNat,bV, *]; done)
  | (with_reducible refine YA ?_ ?_; · simp[-Int.ofNat_toNat,bV, *]; done)
  | (refine Zcn rfl (by first | (simp[-Int.ofNat_toNat, *] <;> rfl) | fail) ?_)
  | (refine Zby rfl (by simp[-Int.ofNat_toNat, *]; first | exact⟨rfl,rfl⟩ | rfl) (by kernel_rfl) ?_)
  | (with_reducible refine Zam ?_ ?_; · simp[-Int.ofNat_toNat,bV, *]; done)
  | (with_reducible refine Zan ?_ ?_; · simp[-Int.ofNat_toNat,bV, *]; done)
  | (refine ZhQ rfl (by first | (simp[-Int.ofNat_toNat, *] <;> rfl) | fail) ?_)
  | (refine Zge rfl (by simp[-Int.ofNat_toNat, *]; first | exact⟨rfl,rfl⟩ | rfl) (by kernel_rfl) ?_)
  | (refine ZeL ?_ (by simp only[pq,reduceCtorEq]; rfl)))
 exact Imp.of e):P:=h R ⟨rfl⟩ k
theorem nrm {p q:Prop}(c:p) (h:p→q:=by
 intro h;try simp[-Int.ofNat_toNat] at h
 first | exact(eq_true h:(_=_)=True) | exact h):q:=h c
theorem nst (k:R) (h:P=R:=by simp only[und,List.replicate,List.cons_append,List.nil_append]; rfl):P:=h ▸ k
theorem fin (h:H) (k:H→P:=by
 intro h;obtain rfl:=Option.some.inj h
 repeat (simp only[pq,reduceCtorEq]; rintro rfl)
 simp[-Int.ofNat_toNat,ZaA, *]):P:=k h
theorem bk (h:H) (k:H→P:=by
 intro h;obtain rfl:=Option.some.inj h
 repeat (simp only[pq,reduceCtorEq]; rintro rfl)
 simp only[pq,reduceCtorEq]
 simp[-Int.ofNat_toNat,und,List.replicate,Nat.add_assoc, *]):P:=k h
theorem lp {σ ρ:Type}{step:σ→Option (σ ⊕ ρ)}(n:Nat) (H:σ→ASt){s:σ}{r:ρ}
  (hr:Zd step s=some r)
  (hb:∀ s x,step s=some x→ZA tt T G kp c (H s) (QL (kp n) H Q r x)) (hn:firstId c=n:=by kernel_rfl) (hf:ZbD (kp n) st=H s:=by simp[-Int.ofNat_toNat,und,List.replicate, *]):ZA tt T G kp (.loop c) st Q :=
 Zar (by rw[hn]) hr hf hb
theorem ua (h:ZA tt T G kp (.seq (.seq a b) d) st Q):ZA tt T G kp (.seq a (.seq b d)) st Q:=by
 obtain⟨n0,e,s,h1,h2⟩:=h;refine⟨n0,e,s,fun n hn=>?_,h2⟩;rw[← h1 n hn];simp only[Yj];cases Yj tt T G kp n a st with
 | none=>rfl
 | some x=>obtain⟨e,s⟩:=x; cases e <;> rfl
theorem jn {H:ASt}(key:Nat) (h0:ZA tt T G kp d H Q) (h:ZA tt T G kp d H Q→ZA tt T G kp c H Q:=by first | exact id | exact ua | exact fun h=>ua (ua h)) (hc:firstJ c=some key:=by rfl) (ha:(kp key).ks.isEmpty=false:=by rfl) (hf:ZbD (kp key) st=ZbD (kp key) H:=by simp[-Int.ofNat_toNat,und,List.replicate, *]):ZA tt T G kp c st Q :=
 Zhk hc rfl ha hf (h h0)
end
abbrev kk (fn:Func) (F:(Nat→Code)→Code):Code:=F (reg fn)
abbrev co (n:Nat) (a b:Code):Code:=.cond (.tmp n) a b
abbrev sk:Code:=.skip
abbrev rt:Code:=.ret
def Zko (r:Nat→Code):Code→Code
 | .region id _ _=>r id
 | .seq a b=>.seq (Zko r a) (Zko r b)
 | .cond x a b=>.cond x (Zko r a) (Zko r b)
 | .block i c=>.block i (Zko r c)
 | .loop c=>.loop (Zko r c)
 | c=>c
def Znl (fn:Func):Code:=match fn.body with | some c=>c | none=>.skip
class YB {α β:Type}(f:α→β):Prop where
 h:∀ a b,f a=f b→a=b
section
variable {α β γ δ ε ζ:Type}
def eI (k:IntKind) (x:Int):PV:=.one (.v (.int k x))
def eB (x:Bool):PV:=.one (.v (.bool x))
def eT (x:ByteArray):PV:=.one (.v (.string x))
def eL (k:IntKind) (x:List Int):PV:=.one (.slice .no (Zf k x))
def eS (f:α→List Cell) (x:List α):PV:=.one (.slice .no (List.map f x))
def eA (k:IntKind){n:Nat}(x:Arr n):PV:=.agg (arC k x)
def eG (f:α→List Cell) (x:α):PV:=.agg (f x)
def oL (k:IntKind) (x:List Int):PV:=.one (.own 1 (Zf k x))
def oS (n:Nat) (f:α→List Cell) (x:List α):PV:=.one (.own n (List.map f x))
def oG (f:α→List Cell) (x:α):PV:=.io (f x)
def oR (k:IntKind) (x:List Int):PV:=.rio 1 (Zf k x)
def a0 (_:Unit):List PV:=[]
def a1 (e:α→PV) (x:α):List PV:=[e x]
def a2 (e:α→PV) (f:β→PV) (x:α×β):List PV:=[e x.1,f x.2]
def a3 (e:α→PV) (f:β→PV) (g:γ→PV) (x:α×β×γ):List PV:=[e x.1,f x.2.1,g x.2.2]
def a4 (e:α→PV) (f:β→PV) (g:γ→PV) (h:δ→PV) (x:α×β×γ×δ):List PV:=[e x.1,f x.2.1,g x.2.2.1,h x.2.2.2]
def a5 (e:α→PV) (f:β→PV) (g:γ→PV) (h:δ→PV) (i:ε→PV) (x:α×β×γ×δ×ε):List PV:=[e x.1,f x.2.1,g x.2.2.1,h x.2.2.2.1,i x.2.2.2.2]
def a6 (e:α→PV) (f:β→PV) (g:γ→PV) (h:δ→PV) (i:ε→PV) (j:ζ→PV) (x:α×β×γ×δ×ε×ζ):List PV:=[e x.1,f x.2.1,g x.2.2.1,h x.2.2.2.1,i x.2.2.2.2.1,j x.2.2.2.2.2]
def r1 (e:β→PV) (_:α) (y:β):PV×List (List Cell):=(e y,[])
def r2 (e:β→PV) (f:γ→PV) (_:α) (y:β×γ):PV×List (List Cell):=(.tup [e y.1,f y.2],[])
def r3 (e:β→PV) (f:γ→PV) (g:δ→PV) (_:α) (y:β×γ×δ):PV×List (List Cell):=(.tup [e y.1,f y.2.1,g y.2.2],[])
def r4 (e:β→PV) (f:γ→PV) (g:δ→PV) (h:ε→PV) (_:α) (y:β×γ×δ×ε):PV×List (List Cell):=(.tup [e y.1,f y.2.1,g y.2.2.1,h y.2.2.2],[])
def lR (k:IntKind) (x:List Int):List Cell:=(Zf k x).flatten
def rio (f:β→List Cell) (_:α) (y:β):PV×List (List Cell):=(.tup [],[f y])
def u2 (f:α→β→γ) (x:α×β):γ:=f x.1 x.2
def u3 (f:α→β→γ→δ) (x:α×β×γ):δ:=f x.1 x.2.1 x.2.2
def u4 (f:α→β→γ→δ→ε) (x:α×β×γ×δ):ε:=f x.1 x.2.1 x.2.2.1 x.2.2.2
def u5 (f:α→β→γ→δ→ε→ζ) (x:α×β×γ×δ×ε):ζ:=f x.1 x.2.1 x.2.2.1 x.2.2.2.1 x.2.2.2.2
def u6 {η:Type}(f:α→β→γ→δ→ε→ζ→η) (x:α×β×γ×δ×ε×ζ):η:=f x.1 x.2.1 x.2.2.1 x.2.2.2.1 x.2.2.2.2.1 x.2.2.2.2.2
theorem kS:(∀ {k x},lR k x=(Zf k x).flatten)∧(∀ {x},a0 x=[])∧(∀ {k x},eI k x = .one (.v (.int k x)))∧(∀ {x},eB x = .one (.v (.bool x)))∧(∀ {x},eT x = .one (.v (.string x)))∧(∀ {k x},eL k x = .one (.slice .no (Zf k x)))∧(∀ {α:Type}{f:α→List Cell}{x},eS f x = .one (.slice .no (List.map f x)))∧(∀ {k n}{x:Arr n},eA k x = .agg (arC k x))∧(∀ {α:Type}{f:α→List Cell}{x},eG f x = .agg (f x))∧(∀ {k x},oL k x = .one (.own 1 (Zf k x)))∧(∀ {n}{α:Type}{f:α→List Cell}{x},oS n f x = .one (.own n (List.map f x)))∧(∀ {α:Type}{f:α→List Cell}{x},oG f x = .io (f x))∧(∀ {k x},oR k x = .rio 1 (Zf k x))∧(∀ {α:Type}{e:α→PV}{x},a1 e x=[e x])∧(∀ {α β:Type}{e:α→PV}{f:β→PV}{x},a2 e f x=[e x.1,f x.2])∧(∀ {α β γ:Type}{e:α→PV}{f:β→PV}{g:γ→PV}{x},a3 e f g x=[e x.1,f x.2.1,g x.2.2])∧(∀ {α β γ δ:Type}{e:α→PV}{f:β→PV}{g:γ→PV}{h:δ→PV}{x},a4 e f g h x=[e x.1,f x.2.1,g x.2.2.1,h x.2.2.2])∧(∀ {α β γ δ ε:Type}{e:α→PV}{f:β→PV}{g:γ→PV}{h:δ→PV}{i:ε→PV}{x},a5 e f g h i x=[e x.1,f x.2.1,g x.2.2.1,h x.2.2.2.1,i x.2.2.2.2])∧(∀ {α β γ δ ε ζ:Type}{e:α→PV}{f:β→PV}{g:γ→PV}{h:δ→PV}{i:ε→PV}{j:ζ→PV}{x},a6 e f g h i j x=[e x.1,f x.2.1,g x.2.2.1,h x.2.2.2.1,i x.2.2.2.2.1,j x.2.2.2.2.2])∧(∀ {α β:Type}{e:β→PV}{x:α}{y},r1 e x y=(e y,[]))∧(∀ {α β γ:Type}{e:β→PV}{f:γ→PV}{x:α}{y},r2 e f x y=(.tup [e y.1,f y.2],[]))∧(∀ {α β γ δ:Type}{e:β→PV}{f:γ→PV}{g:δ→PV}{x:α}{y},r3 e f g x y=(.tup [e y.1,f y.2.1,g y.2.2],[]))∧(∀ {α β γ δ ε:Type}{e:β→PV}{f:γ→PV}{g:δ→PV}{h:ε→PV}{x:α}{y},r4 e f g h x y=(.tup [e y.1,f y.2.1,g y.2.2.1,h y.2.2.2],[]))∧(∀ {α β:Type}{f:β→List Cell}{x:α}{y},rio f x y=(.tup [],[f y]))∧(∀ {α β γ:Type}{f:α→β→γ}{x},u2 f x=f x.1 x.2)∧(∀ {α β γ δ:Type}{f:α→β→γ→δ}{x},u3 f x=f x.1 x.2.1 x.2.2)∧(∀ {α β γ δ ε:Type}{f:α→β→γ→δ→ε}{x},u4 f x=f x.1 x.2.1 x.2.2.1 x.2.2.2)∧(∀ {α β γ δ ε ζ:Type}{f:α→β→γ→δ→ε→ζ}{x},u5 f x=f x.1 x.2.1 x.2.2.1 x.2.2.2.1 x.2.2.2.2)∧(∀ {α β γ δ ε ζ η:Type}{f:α→β→γ→δ→ε→ζ→η}{x},u6 f x=f x.1 x.2.1 x.2.2.1 x.2.2.2.1 x.2.2.2.2.1 x.2.2.2.2.2) :=
 ⟨rfl,rfl,rfl,rfl,rfl,rfl,rfl,rfl,rfl,rfl,rfl,rfl,rfl,rfl,rfl,rfl,rfl,rfl,rfl,rfl,rfl,rfl,rfl,rfl,rfl,rfl,rfl,rfl,rfl⟩
instance {k:IntKind}:YB (eI k):=⟨by simp[eI]⟩
instance:YB eB:=⟨by simp[eB]⟩
instance:YB eT:=⟨by simp[eT]⟩
instance {k:IntKind}:YB (eL k):=⟨by simp[eL]⟩
instance {k:IntKind}:YB (oL k):=⟨by simp[oL]⟩
instance {k:IntKind}:YB (oR k):=⟨by simp[oR]⟩
instance {k:IntKind}{n:Nat}:YB (eA k (n:=n)):=⟨by simp[eA]⟩
instance:YB a0:=⟨fun _ _ _=>rfl⟩
instance {e:α→PV}[i:YB e]:YB (a1 e):=⟨fun a b h=>i.h a b (by simpa[a1] using h)⟩
instance {e:α→PV}{f:β→PV}[ke:YB e] [kf:YB f]:YB (a2 e f):=⟨fun a b h=>by simp only[a2,List.cons.injEq,and_true] at h; exact Prod.ext (ke.h _ _ h.1) (kf.h _ _ h.2)⟩
instance {e:α→PV}{f:β→PV}{g:γ→PV}[ke:YB e] [kf:YB f] [kg:YB g]:YB (a3 e f g):=⟨fun a b h=>by simp only[a3,List.cons.injEq,and_true] at h; exact Prod.ext (ke.h _ _ h.1) (Prod.ext (kf.h _ _ h.2.1) (kg.h _ _ h.2.2))⟩
instance {e:α→PV}{f:β→PV}{g:γ→PV}{h:δ→PV}[ke:YB e] [kf:YB f] [kg:YB g] [kh:YB h]:YB (a4 e f g h):=⟨fun a b h=>by simp only[a4,List.cons.injEq,and_true] at h; exact Prod.ext (ke.h _ _ h.1) (Prod.ext (kf.h _ _ h.2.1) (Prod.ext (kg.h _ _ h.2.2.1) (kh.h _ _ h.2.2.2)))⟩
instance {e:α→PV}{f:β→PV}{g:γ→PV}{h:δ→PV}{i:ε→PV}[ke:YB e] [kf:YB f] [kg:YB g] [kh:YB h] [ki:YB i]:YB (a5 e f g h i):=⟨fun a b h=>by simp only[a5,List.cons.injEq,and_true] at h; exact Prod.ext (ke.h _ _ h.1) (Prod.ext (kf.h _ _ h.2.1) (Prod.ext (kg.h _ _ h.2.2.1) (Prod.ext (kh.h _ _ h.2.2.2.1) (ki.h _ _ h.2.2.2.2))))⟩
instance {e:α→PV}{f:β→PV}{g:γ→PV}{h:δ→PV}{i:ε→PV}{j:ζ→PV}[ke:YB e] [kf:YB f] [kg:YB g] [kh:YB h] [ki:YB i] [kj:YB j]:YB (a6 e f g h i j):=⟨fun a b h=>by simp only[a6,List.cons.injEq,and_true] at h; exact Prod.ext (ke.h _ _ h.1) (Prod.ext (kf.h _ _ h.2.1) (Prod.ext (kg.h _ _ h.2.2.1) (Prod.ext (kh.h _ _ h.2.2.2.1) (Prod.ext (ki.h _ _ h.2.2.2.2.1) (kj.h _ _ h.2.2.2.2.2)))))⟩
end
class EnC {α:Type}(f:α→List Cell) (n:outParam Nat):Prop where
 len:∀ a,(f a).length=n
 inj:∀ a b,f a=f b→a=b
theorem enC {α:Type}{f:α→List Cell}{n:Nat}(h:∀ a,(f a).length=n:=by intro a; simp) (k:∀ a b,f a=f b→a=b:=by intro a b h; simpa[Prod.ext_iff,and_assoc] using h):EnC f n:=⟨h,k⟩
section
variable {α:Type}{f:α→List Cell}{n:Nat}[i:EnC f n]
@[simp↓] theorem Zsy (m:List α):(∀ l,l∈List.map f m→l.length=n)=True:=Zmw i.len m
@[simp↓] theorem Zyz (m:List α) (k:Nat):(∀ l,l∈List.drop k (List.map f m)→l.length=n)=True:=eq_true fun l h=>of_eq_true (Zsy m) l (List.mem_of_mem_drop h)
@[simp↓] theorem ZyA (m:List α) (k:Nat):(∀ l,l∈List.take k (List.map f m)→l.length=n)=True:=eq_true fun l h=>of_eq_true (Zsy m) l (List.mem_of_mem_take h)
end
@[simp] theorem en_map {α:Type}{f:α→List Cell}{n:Nat}[i:EnC f n]{l m:List α}:List.map f l=List.map f m↔l=m:=ZqA i.inj
instance {α:Type}{f:α→List Cell}{n:Nat}[i:EnC f n]:YB (eG f):=⟨fun a b h=>i.inj a b (by simpa[eG] using h)⟩
instance {α:Type}{f:α→List Cell}{n:Nat}[i:EnC f n]:YB (oG f):=⟨fun a b h=>i.inj a b (by simpa[oG] using h)⟩
instance {α:Type}{f:α→List Cell}{n:Nat}[i:EnC f n]:YB (eS f):=⟨fun a b h=>by simpa[eS] using h⟩
instance {α:Type}{f:α→List Cell}{n m:Nat}[i:EnC f n]:YB (oS m f):=⟨fun a b h=>by simpa[oS] using h⟩
class EnP {α:Type}(f:α→List Cell):Prop where
 h:∀ a,(f a).any Cell.isSl=false
@[simp] theorem ZyB {α:Type}{f:α→List Cell}[i:EnP f] (m:List α):m.any ((fun l=>l.any Cell.isSl) ∘ f)=false:=List.any_eq_false.2 fun x _=>by simp[i.h]
theorem enP {α:Type}{f:α→List Cell}(h:∀ a,(f a).any Cell.isSl=false:=by intro a; simp):EnP f:=⟨h⟩
instance {k:IntKind}{n:Nat}:EnC (arC k (n:=n)) n:=⟨by simp,by simp⟩
section
variable {α β γ δ ε ζ η:Type}
abbrev cn (E:α→List PV) (R:α→β→PV×List (List Cell)) (g:α→Option β):Con α β:=⟨E,R,g⟩
theorem Con.q1 (K:Con α β) [i:YB K.E]{f:α→Option β}{x:α}{y:β}(h:f x=some y) (hf:∀ x,K.g x=f x:=by intro x; rfl):K.G (K.E x)=some (K.R x y):=Y1 i.h ((hf x).trans h)
theorem Con.q0 (K:Con Unit β) [i:YB K.E]{f:Option β}{y:β}(h:f=some y) (hf:K.g ()=f:=by rfl):K.G (K.E ())=some (K.R () y):=Y1 i.h (hf.trans h)
theorem Con.q2 (K:Con (α×β) γ) [i:YB K.E]{g:α→β→Option γ}{a:α}{b:β}{y:γ}(h:g a b=some y) (hf:∀ a b,K.g (a,b)=g a b:=by intros; rfl):K.G (K.E (a,b))=some (K.R (a,b) y):=Y1 i.h ((hf a b).trans h)
theorem Con.q3 (K:Con (α×β×γ) δ) [i:YB K.E]{g:α→β→γ→Option δ}{a:α}{b:β}{c:γ}{y:δ}(h:g a b c=some y) (hf:∀ a b c,K.g (a,b,c)=g a b c:=by intros; rfl):K.G (K.E (a,b,c))=some (K.R (a,b,c) y):=Y1 i.h ((hf a b c).trans h)
theorem Con.q4 (K:Con (α×β×γ×δ) ε) [i:YB K.E]{g:α→β→γ→δ→Option ε}{a:α}{b:β}{c:γ}{d:δ}{y:ε}(h:g a b c d=some y) (hf:∀ a b c d,K.g (a,b,c,d)=g a b c d:=by intros; rfl):K.G (K.E (a,b,c,d))=some (K.R (a,b,c,d) y):=Y1 i.h ((hf a b c d).trans h)
end
section
variable {α β:Type}{K:Con α β}{tt:TT}{G:Glob}{l:List (Nat×(List PV→Option (PV×List (List Cell))))}{own:Nat→List (List Nat)}{fn:Func}
theorem Walk.sk {n:Nat}{cc:(Nat→Code)→Code}(kl:List (Nat×Kp)) (w:Bool) (hn:fn.ntmps=n)
  (h:∀ T:Tab,T.own=own→Zh T l→∀ x y,K.g x=some y→ZA tt T G (kpL kl) (cc (reg fn)) ⟨(ioIn 0 0 (K.E x)).1++List.replicate (n-(K.E x).length) .skip,ZjI (K.E x)⟩ (ZaA tt w fn (K.E x) (K.R x y)))
  (hc:∀ r,Zko r (Znl fn)=cc r:=by intro r; (conv=>lhs; reduce) <;> rfl) (hb:fn.body=some (Zko (reg fn) (Znl fn)):=by kernel_rfl) (hi:∀ x,Zka (K.E x)=true:=by intro x; simp[kS]):Walk tt G l own fn K :=
 .of kl w (hb.trans (congrArg some (hc _))) hn fun T h1 h2 x y h3=>⟨hi x,h T h1 h2 x y h3⟩
theorem Walk.ak {n:Nat}{cc:(Nat→Code)→Code}(kl:List (Nat×Kp)) (w:Bool) (hn:fn.ntmps=n)
  (h:∀ T:Tab,T.own=own→Zh T l→∀ x y,Imp (K.g x=some y) (ZA tt T G (kpL kl) (cc (reg fn)) ⟨(ioIn 0 0 (K.E x)).1++List.replicate (n-(K.E x).length) .skip,ZjI (K.E x)⟩ (ZaA tt w fn (K.E x) (K.R x y))))
  (hc:∀ r,Zko r (Znl fn)=cc r:=by intro r; (conv=>lhs; reduce) <;> rfl) (hb:fn.body=some (Zko (reg fn) (Znl fn)):=by kernel_rfl) (hi:∀ x,Zka (K.E x)=true:=by intro x; simp[kS]):Walk tt G l own fn K :=
 .of kl w (hb.trans (congrArg some (hc _))) hn fun T h1 h2 x y h3=>⟨hi x,h T h1 h2 x y h3⟩
theorem mkU {P:Program}(hm:P.follows .mixedOrders=true) (htt:∀ t i,tt t=some i→ZQ P t=some i){f:FuncId}(w:Walk tt G l own fn K) (hT:ZnG P G l) (hf:P.funcs[f]? = some fn) (hb:fn.body.isSome=true) (hn:(!(fn.name == "runtime.NumGoroutine") && distinctF l)=true):Yb P G f K.G :=
 have ⟨c,hc⟩:=Option.isSome_iff_exists.1 hb
 mkW hm htt w hT hf hc hn
end
class Fc (p:Prop) (q:outParam Prop):Prop where
 h:p→q
instance {p:Prop}[Decidable p]{u:Unit}:Fc (chk p=some u) p:=⟨ZK⟩
instance {n:Nat}{i:Int}{j:Nat}:Fc (inA n i=some j) (0≤i∧i.toNat=j∧j<n):=⟨YK⟩
instance {α:Type}{l:List α}{i:Nat}{x:α}:Fc (l[i]? = some x) (l[i]? = some x∧∀ h':i<l.length,l[i]=x):=⟨fun h=>⟨h,YN h⟩⟩
abbrev Con.Q {α β:Type}(K:Con α β) (x:α) (y:β):Prop:=K.G (K.E x)=some (K.R x y)
section
variable {α β γ:Type}{P:Prop}{r:Option β}{y:β}
theorem Zjw {o:Option α}{f:α→Option β}{q:α→Prop}[i:∀ x,Fc (o=some x) (q x)] (k:∀ x,o=some x→q x→Imp (f x=some y) P):Imp (o.bind f=some y) P:=fun h =>
 let ⟨x,h1,h2⟩:=bs h
 k x h1 ((i x).h h1) h2
theorem Zig {o:Option α}{f:α→Option β}{x:α}(e:o=some x) (k:Imp (f x=some y) P):Imp (o.bind f=some y) P:=fun h=>k (by rw[e] at h; exact h)
theorem ZkD {p:Prop}[Decidable p]{f:Unit→Option β}(k:p→Imp (f ()=some y) P):Imp ((chk p).bind f=some y) P:=fun h =>
 let ⟨_,h1,h2⟩:=bs h
 k (ZK h1) h2
theorem ZjZ {l:List α}{i:Int}{f:α→Option β}(k:∀ x,0≤i→l[i.toNat]? = some x→(∀ h':i.toNat<l.length,l[i.toNat]=x)→Imp (f x=some y) P):Imp ((idx l i).bind f=some y) P:=fun h =>
 let ⟨x,h1,h2⟩:=bs h
 k x (ZcK h1).1 (ZcK h1).2 (YN (ZcK h1).2) h2
theorem Zjx {l:List α}{i:Int}{f:α→Option β}{x:α}(e:l[i.toNat]? = some x) (k:Imp (f x=some y) P):Imp ((idx l i).bind f=some y) P:=ZjZ fun z _ h _=>by
 obtain rfl:=Option.some.inj (e.symm.trans h);exact k
theorem Zjy {a:α}{f:α→Option β}(k:Imp (f a=r) P):Imp ((some a).bind f=r) P:=k
theorem im_none:Imp ((none:Option β)=some y) P:=fun h=>by cases h
theorem Zih {f:α→Option β}:Imp ((none:Option α).bind f=some y) P:=fun h=>by cases h
theorem Zem {c:Prop}[Decidable c]{a b:Option β}(hc:c) (k:Imp (a=r) P):Imp ((if c then a else b)=r) P:=fun h=>k (by rwa[if_pos hc] at h)
theorem Zj0 {c:Prop}[Decidable c]{a b:Option β}(hc:¬ c) (k:Imp (b=r) P):Imp ((if c then a else b)=r) P:=fun h=>k (by rwa[if_neg hc] at h)
theorem ZcG {c:Prop}[Decidable c]{a b:Option α}{f:α→Option β}(hc:c) (k:Imp (a.bind f=r) P):Imp ((if c then a else b).bind f=r) P:=fun h=>k (by rwa[if_pos hc] at h)
theorem Zii {c:Prop}[Decidable c]{a b:Option α}{f:α→Option β}(hc:¬ c) (k:Imp (b.bind f=r) P):Imp ((if c then a else b).bind f=r) P:=fun h=>k (by rwa[if_neg hc] at h)
theorem Zmd {c:Prop}[Decidable c]{a b:Option β}(k:c→Imp (a=r) P) (l:¬ c→Imp (b=r) P):Imp ((if c then a else b)=r) P:=if h:c then Zem h (k h) else Zj0 h (l h)
theorem ZkE {c:Prop}[Decidable c]{a b:Option α}{f:α→Option β}(k:c→Imp (a.bind f=r) P) (l:¬ c→Imp (b.bind f=r) P):Imp ((if c then a else b).bind f=r) P:=if h:c then ZcG h (k h) else Zii h (l h)
theorem Zjz {c d:Prop}[Decidable c] [Decidable d]{i:Decidable (c∨d)}{a b:Option β}(k:Imp ((if c then a else if d then a else b)=r) P):Imp ((@ite _ (c∨d) i a b)=r) P:=fun h=>k (by
 rw[← h]; by_cases hc:c <;> by_cases hd:d <;> simp[hc,hd])
theorem Zij {c d:Prop}[Decidable c] [Decidable d]{i:Decidable (c∧d)}{a b:Option β}(k:Imp ((if c then if d then a else b else b)=r) P):Imp ((@ite _ (c∧d) i a b)=r) P:=fun h=>k (by
 rw[← h]; by_cases hc:c <;> by_cases hd:d <;> simp[hc,hd])
theorem Zik {c:Prop}[Decidable c]{i:Decidable (¬ c)}{a b:Option β}(k:Imp ((if c then b else a)=r) P):Imp ((@ite _ (¬ c) i a b)=r) P:=fun h=>k (by
 rw[← h]; by_cases hc:c <;> simp[hc])
theorem Zhm {o:Option γ}{g:γ→Option α}{f:α→Option β}(k:Imp ((o.bind fun x=>(g x).bind f)=r) P):Imp ((o.bind g).bind f=r) P:=fun h=>k (by rw[← h]; cases o <;> rfl)
end
theorem ZkF {β γ:Type}{o:Option β}{g:β→γ}{y:γ}{P:Prop}(k:∀ z,y=g z→Imp (o=some z) P):Imp (o.map g=some y) P:=fun h=>by
 obtain⟨z,h1,h2⟩:=Option.map_eq_some_iff.1 h;exact k z h2.symm h1
theorem ZkG {β:Type}{a y:β}{P:Prop}(k:a=y→P):Imp (some a=some y) P:=fun h=>k (Option.some.inj h)
theorem ZjA {P:Prop}(k:Imp True P):P:=k trivial
theorem Zme {β:Type}{z r:β}{A P:Prop}(k:r=z→Imp A P):Imp A (z=r→P):=fun a e=>k e.symm a
theorem leT {a b:Nat}(h:a≤b):(a≤b)=True:=eq_true h
theorem ltT {a b:Nat}(h:a<b):(a<b)=True:=eq_true h
theorem Zi6 {a b:Int}(h:a≤b):(a≤b)=True:=eq_true h
theorem Zi7 {a b:Int}(h:a<b):(a<b)=True:=eq_true h
theorem leF {a b:Nat}(h:b<a):(a≤b)=False:=eq_false (by omega)
theorem ltF {a b:Nat}(h:b≤a):(a<b)=False:=eq_false (by omega)
theorem Zi8 {a b:Int}(h:b<a):(a≤b)=False:=eq_false (by omega)
theorem Zi9 {a b:Int}(h:b≤a):(a<b)=False:=eq_false (by omega)
@[simp] theorem ZwR (a:Nat):(1+a≤a+1)=True:=eq_true (by omega)
@[simp] theorem tk_map {α:Type}{f:α→List Cell}{c:List Cell}{l:List α}:List.take (1+l.length) (c :: List.map f l)=c :: List.map f l:=List.take_of_length_le (by simp; omega)
@[simp] theorem ZyC {α:Type}{f:α→List Cell}{c:List Cell}{l:List α}{m:Nat}:List.take (1+(l.length-m)) (c :: List.drop m (List.map f l))=c :: List.drop m (List.map f l):=List.take_of_length_le (by simp; omega)
@[simp] theorem ZyD {k:IntKind}{c:List Cell}{l:List Int}{m:Nat}:List.take (1+(l.length-m)) (c :: List.drop m (Zf k l))=c :: List.drop m (Zf k l):=List.take_of_length_le (by simp; omega)
section
variable {bx:Boxes}{k:IntKind}{cs:List Cell}
theorem ZrC {l:List Int}{es:List Nat}(h:(es.take l.length).all (· == 0)=true):ZaE bx es (ints k l++cs)=(ZaE bx (es.drop l.length) cs).map (ints k l++·):=by
 induction l generalizing es with
 | nil=>simp[ints]
 | cons x l ih =>
  cases es with
  | nil =>
   have:=ih (es:=[]) (by simp);simp only[List.drop_nil] at this ⊢;show(match Zdw bx 0 (.v (.int k x)),ZaE bx [] (ints k l++cs) with | some d,some ds=>some (d :: ds) | _,_=>none)=_
   rw[this];generalize ZaE bx [] cs=z;cases z <;> simp[Zdw,Z4,ints]
  | cons e es =>
   simp only[List.length_cons,List.take_succ_cons,List.all_cons,Bool.and_eq_true,beq_iff_eq] at h;obtain⟨rfl,h⟩:=h;have:=ih h;show(match Zdw bx 0 (.v (.int k x)),ZaE bx es (ints k l++cs) with | some d,some ds=>some (d :: ds) | _,_=>none)=_
   rw[this];simp only[List.length_cons,List.drop_succ_cons];cases ZaE bx (es.drop l.length) cs <;> simp[Zdw,Z4,ints]
theorem ZrD {l:List Int}{es:List Nat}:lentL es (ints k l++cs)=lentL (es.drop l.length) cs:=by
 induction l generalizing es with
 | nil=>simp[ints]
 | cons x l ih =>
  cases es with
  | nil =>
   have:=ih (es:=[]);simp only[List.drop_nil] at this ⊢;show nmC (.v (.int k x))++lentL [] (ints k l++cs)=_
   rw[this]; rfl
  | cons e es =>
   show ZdW e (.v (.int k x))++lentL es (ints k l++cs)=_
   rw[ih];simp[ZdW,nmC]
theorem Zt0 {l:List Int}{es:List Nat}:hdL es (ints k l++cs)=hdL (es.drop l.length) cs:=by
 induction l generalizing es with
 | nil=>simp[ints]
 | cons x l ih =>
  cases es with
  | nil =>
   have:=ih (es:=[]);simp only[List.drop_nil] at this ⊢;show hdL [] (ints k l++cs)=_
   rw[this]
  | cons e es =>
   show hdC e (.v (.int k x))++hdL es (ints k l++cs)=_
   rw[ih];simp[hdC,nmC]
variable {n:Nat}{a:Arr n}{es:List Nat}
@[simp] theorem ZxG (h:(es.take n).all (· == 0)=true):ZaE bx es (arC k a++cs)=(ZaE bx (es.drop n) cs).map (arC k a++·):=by
 have:=ZrC (bx:=bx) (k:=k) (cs:=cs) (l:=a.l) (es:=es) (by rwa[a.hl])
 rwa[a.hl] at this
@[simp] theorem lentL_arC:lentL es (arC k a++cs)=lentL (es.drop n) cs:=by
 have:=ZrD (k:=k) (cs:=cs) (l:=a.l) (es:=es)
 rwa[a.hl] at this
@[simp] theorem hdL_arC:hdL es (arC k a++cs)=hdL (es.drop n) cs:=by
 have:=Zt0 (k:=k) (cs:=cs) (l:=a.l) (es:=es)
 rwa[a.hl] at this
end
theorem Xf {α β:Type}{f:α→β}{l:List α}{n:Nat}:List.take (l.length-n) (List.drop n (List.map f l))=List.drop n (List.map f l):=List.take_of_length_le (by simp)
theorem eqI {a b:Int}(h:a=b):a≤b∧b≤a:=⟨Int.le_of_eq h,Int.le_of_eq h.symm⟩
theorem Zfx {X R:Prop}(e:ZaO X R) (x:X):R:=e.h ▸ x
section
variable {tt:TT}{T:Tab}{G:Glob}{kp:Keep}{st st1:ASt}{c:Code}{Q:AE→ASt→Prop}{σ ρ:Type}
theorem ZjB {A P:Prop}(v:Bool) (k:v=true→Imp A P) (l:v=false→Imp A P):Imp A P:=by cases v <;> simp_all
theorem XZ {step:σ→Option (σ ⊕ ρ)}{s:σ}{r:ρ}(k:Imp (Zd step s=some r) (ZA tt T G kp (.loop c) st Q)):Imp (Zd step s=some r) (ZA tt T G kp (.loop c) st Q):=k
def ZhS (l:List (Nat×PV)) (e:List PV):List PV:=l.foldl (fun e p=>e.set p.1 p.2) e
def updB:List (Nat×Box)→Boxes→Boxes
 | [],b=>b
 | (n,x) :: l,b=>updB l (setB b n x)
def upd (p:List (Nat×PV)×List (Nat×Box)) (s:ASt):ASt:=⟨ZhS p.1 s.env,updB p.2 s.boxes⟩
theorem lpP {step:σ→Option (σ ⊕ ρ)}{s:σ}{r:ρ}(n:Nat) (A:σ→List (Nat×PV)×List (Nat×Box))
  (k:∀ s x,Imp (step s=some x) (ZA tt T G kp c (upd (A s) st1) (QL (kp n) (fun s=>upd (A s) st1) Q r x)))
  (h1:ZbD (kp n) st=st1:=by first | (simp[-Int.ofNat_toNat,-Int.natCast_tdiv_eq_ediv,und,List.replicate, *] <;> rfl) | fail) (h2:st1=upd (A s) st1:=by simp[-Int.ofNat_toNat,-Int.natCast_tdiv_eq_ediv,upd,ZhS,updB, *]) (hn:firstId c=n:=by kernel_rfl):Imp (Zd step s=some r) (ZA tt T G kp (.loop c) st Q):=fun hr =>
 Zar (by rw[hn]) hr (h1.trans h2) fun s x hx=>k s x hx
end
end Go.Av
namespace Go.Lc
open Go.RowKit
open Go.Av
set_option linter.unusedVariables false
set_option linter.unusedSimpArgs false
theorem ZU {σ ρ:Type}{step:σ→Option (σ ⊕ ρ)}{s s':σ}(h:step s=some (.inl s')):Zd step s=Zd step s' := by rw[Zk4,h]
theorem Y4 {σ ρ:Type}{step:σ→Option (σ ⊕ ρ)}{s:σ}{x:Option ρ}(h:step s=x.map .inr):Zd step s=x:=by
 rw[Zk4,h];cases x <;> rfl
theorem ZbB {σ ρ:Type}{step:σ→Option (σ ⊕ ρ)}{s:σ}{r:ρ}(h:step s=some (.inr r)):Zd step s=some r:=by rw[Zk4,h]
theorem ZG {σ ρ:Type}{step:σ→Option (σ ⊕ ρ)}(enc:Nat→σ) (n:Nat){x:Option ρ}(h:∀ i,i<n→step (enc i)=some (.inl (enc (i+1)))) (he:step (enc n)=x.map .inr):Zd step (enc 0)=x:=by
 have key:∀ k,k≤n→Zd step (enc (n-k))=x:=by
  intro k;induction k with
  | zero=>intro _; exact Y4 he
  | succ k ih =>
   intro hk;rw[ZU (h (n-(k+1)) (by omega)),show n-(k+1)+1=n-k by omega];exact ih (by omega)
 have:=key n (Nat.le_refl _)
 rwa[Nat.sub_self] at this
theorem X7 {σ ρ:Type}{step:σ→Option (σ ⊕ ρ)}(I:Nat→σ→Prop) (Q:ρ→Prop) (h:∀ i s,I i s→(∃ j s',j<i∧step s=some (.inl s')∧I j s')∨∃ r,step s=some (.inr r)∧Q r):∀ (n:Nat) (s:σ),I n s→∃ r,Zd step s=some r∧Q r:=by
 intro n;induction n using Nat.strongRecOn with
 | _ n ih =>
  intro s hs;rcases h n s hs with ⟨j,s',hj,h1,h2⟩ | ⟨r,h1,h2⟩
  ·obtain⟨r,h3,h4⟩:=ih j hj s' h2
   exact⟨r,(ZU h1).trans h3,h4⟩
  ·exact⟨r,ZbB h1,h2⟩
def Tot {α:Type}(x:Option α) (Q:α→Prop):Prop:=∃ a,x=some a∧Q a
section
variable {α β:Type}{x:Option α}{f:α→Option β}{P:α→Prop}{Q:β→Prop}
theorem Tot.bind (h:Tot x P) (k:∀ a,P a→Tot (f a) Q):Tot (x.bind f) Q:=by
 obtain⟨a,rfl,ha⟩:=h;exact k a ha
theorem Tot.mono {P':α→Prop}(h:Tot x P) (k:∀ a,P a→P' a):Tot x P' := by
 obtain⟨a,h1,ha⟩:=h;exact⟨a,h1,k a ha⟩
theorem Zb {a:α}(h:P a):Tot (some a) P:=⟨a,rfl,h⟩
theorem Ze {c:Prop}[Decidable c]{a b:Option α}(h1:c→Tot a P) (h2:¬ c→Tot b P):Tot (if c then a else b) P:=by
 by_cases h:c
 ·rw[if_pos h]; exact h1 h
 ·rw[if_neg h]; exact h2 h
theorem Tot.inr {ρ σ:Type}{x:Option ρ}{Q:ρ→Prop}(h:Tot x Q):∃ r,(x.map Sum.inr:Option (σ ⊕ ρ))=some (.inr r)∧Q r:=by
 obtain⟨a,rfl,ha⟩:=h;exact⟨a,rfl,ha⟩
end
theorem Za {α β:Type}(a:α) (f:α→Option β):(some a).bind f=f a:=rfl
theorem Zj {p:Prop}[Decidable p]{α:Type}{f:Unit→Option α}(h:p):(chk p).bind f=f ():=by rw[Zu6 h]; rfl
theorem Zu9 {α:Type}{l:List α}{i:Nat}(h:i<l.length):idx l (i:Int)=some l[i]:=by simp[idx,h]
theorem Zi {α β:Type}{l:List α}{i:Nat}{f:α→Option β}(h:i<l.length):(idx l (i:Int)).bind f=f l[i]:=by rw[Zu9 h]; rfl
theorem Zva {n i:Nat}(h:i<n):inA n (i:Int)=some i:=by simp[inA,h]
theorem YM {β:Type}{n i:Nat}{f:Nat→Option β}(h:i<n):(inA n (i:Int)).bind f=f i:=by rw[Zva h]; rfl
theorem Zil {α β:Type}{l:List α}{i:Nat}{f:α→Option β}(h:i<l.length):(l[i]?).bind f=f l[i]:=by rw[List.getElem?_eq_getElem h]; rfl
theorem wi (n:Int) (h:-9223372036854775808≤n∧n≤9223372036854775807):IntKind.i64.wrap n=n:=IntWalk.i64_in n h
theorem Zu {i n:Nat}(h:i<n) (hn:n≤9223372036854775807):IntKind.i64.wrap ((i:Int)+1)=((i+1:Nat):Int):=by rw[wi _ (by omega)]; omega
theorem wu (n:Int) (h:0≤n∧n≤18446744073709551615):IntKind.u64.wrap n=n:=IntWalk.u64_in n h
theorem Zoh {α:Type}(f:Nat→α) (z:α){i k:Nat}(h:i<k):(((List.range i).map f)++List.replicate (k-i) z).set i (f i)=((List.range (i+1)).map f)++List.replicate (k-(i+1)) z:=by
 rw[List.set_append_right _ _ (by simp)];simp only[List.length_map,List.length_range,Nat.sub_self];rw[show k-i=(k-(i+1))+1 by omega,List.replicate_succ,List.set_cons_zero,List.range_succ,List.map_append];simp
theorem Zpv {α:Type}(f:Nat→α) (z:α){i k:Nat}(h:i≤k):(((List.range i).map f)++List.replicate (k-i) z).length=k:=by simp; omega
class Y6 (α:Type) where
 force:{β:Type}→α→(α→β)→β
 eq:∀ {β:Type}(a:α) (k:α→β),force a k=k a
noncomputable def Znm {β:Type}(n:Nat) (k:Nat→β):β:=Nat.rec (motive:=fun _=>β) (k Nat.zero) (fun m _=>k (Nat.succ m)) n
theorem ZlN {β:Type}(n:Nat) (k:Nat→β):Znm n k=k n:=by cases n <;> rfl
noncomputable instance:Y6 Nat:=⟨Znm,ZlN⟩
noncomputable def Zsz {β:Type}(i:Int) (k:Int→β):β:=Int.rec (motive:=fun _=>β) (fun n=>Znm n fun m=>k (Int.ofNat m)) (fun n=>Znm n fun m=>k (Int.negSucc m)) i
theorem ZsA {β:Type}(i:Int) (k:Int→β):Zsz i k=k i:=by
 cases i with
 | ofNat n=>exact ZlN n fun m=>k (Int.ofNat m)
 | negSucc n=>exact ZlN n fun m=>k (Int.negSucc m)
noncomputable instance:Y6 Int:=⟨Zsz,ZsA⟩
noncomputable def ZsB {β:Type}(b:Bool) (k:Bool→β):β:=Bool.rec (motive:=fun _=>β) (k false) (k true) b
theorem ZsC {β:Type}(b:Bool) (k:Bool→β):ZsB b k=k b:=by cases b <;> rfl
noncomputable instance:Y6 Bool:=⟨ZsB,ZsC⟩
noncomputable instance:Y6 Unit:=⟨fun _ k=>k (),fun _ _=>rfl⟩
noncomputable def ZsD {α γ β:Type}[Y6 α] [Y6 γ] (p:α×γ) (k:α×γ→β):β:=Prod.rec (motive:=fun _=>β) (fun a c=>Y6.force a fun a=>Y6.force c fun c=>k (a,c)) p
theorem ZsE {α γ β:Type}[Y6 α] [Y6 γ] (p:α×γ) (k:α×γ→β):ZsD p k=k p:=by
 obtain⟨a,c⟩:=p;exact(Y6.eq a _).trans (Y6.eq c _)
noncomputable instance {α γ:Type}[Y6 α] [Y6 γ]:Y6 (α×γ):=⟨ZsD,ZsE⟩
noncomputable def Zpw {α β:Type}[Y6 α] (l:List α) (k:List α→β):β:=List.rec (motive:=fun _=>(List α→β)→β) (fun k=>k []) (fun a _ ih k=>Y6.force a fun a=>ih fun l=>k (a :: l)) l k
theorem Zoi {α β:Type}[Y6 α] (l:List α) (k:List α→β):Zpw l k=k l:=by
 induction l generalizing k with
 | nil=>rfl
 | cons a l ih =>
  refine(Y6.eq (β:=β) a _).trans ?_;exact ih fun l=>k (a :: l)
noncomputable instance {α:Type}[Y6 α]:Y6 (List α):=⟨Zpw,Zoi⟩
noncomputable def Zpx {n:Nat}{β:Type}(a:Arr n) (k:Arr n→β):β:=Zpw a.l fun l=>if h:Nat.beq l.length n=true then k ⟨l,Nat.eq_of_beq_eq_true h⟩ else k a
theorem ZsF {n:Nat}{β:Type}(a:Arr n) (k:Arr n→β):Zpx a k=k a:=by
 unfold Zpx;rw[Zoi];split <;> rfl
noncomputable instance {n:Nat}:Y6 (Arr n):=⟨Zpx,ZsF⟩
noncomputable instance {α γ:Type}[Y6 α] [Y6 γ]:Y6 (α ⊕ γ):=⟨fun x k=>Sum.rec (motive:=fun _=>_) (fun a=>Y6.force a fun a=>k (.inl a)) (fun c=>Y6.force c fun c=>k (.inr c)) x,fun x k=>by cases x <;> exact Y6.eq _ _⟩
noncomputable instance {α:Type}[Y6 α]:Y6 (Option α):=⟨fun x k=>Option.rec (motive:=fun _=>_) (k none) (fun a=>Y6.force a fun a=>k (some a)) x,fun x k=>by cases x <;> first | rfl | exact Y6.eq _ _⟩
def Le {α:Type}(o o':Option α):Prop:=∀ x,o=some x→o'=some x
theorem Le.refl {α:Type}(o:Option α):Le o o:=fun _ h=>h
class Lec {α:Type}(o o':Option α):Prop where
 h:Le o o'
end Go.Lc
namespace Go.Av
open Go.RowKit
open Go.Av
set_option linter.unusedVariables false
set_option linter.unusedSimpArgs false
section
open Go.Lc
theorem Yw {P:Program}{tt:TT}{T:Tab}{G:Glob}{kp:Keep}{w:Bool}{n:Nat}(hm:P.follows .mixedOrders=true) (htt:∀ t i,tt t=some i→ZQ P t=some i) (hT:∀ f F,T f=some F→Zdb P G (f % 1000000) F){f:FuncId}{fn:Func}
  (hf:P.funcs[f]? = some fn) (hb:(fn.body.isSome && !(fn.name == "runtime.NumGoroutine"))=true):Yb P G f (Z2 tt T G kp w n fn):=by
 obtain⟨h1,h2⟩:=Bool.and_eq_true_iff.1 hb;obtain⟨c,hc⟩:=Option.isSome_iff_exists.1 h1;exact ZnF hm htt hT hf hc (by simpa using h2) fun ps r _ h=>⟨_,_,_,h⟩
theorem ZsG {P:Program}{G:Glob}{f:FuncId}{F F':List PV→Option (PV×List (List Cell))}(h:Yb P G f F) (hw:∀ ps r,F' ps=some r→F ps=some r):Yb P G f F' :=
 ⟨h.1,fun S w ks hh ps vs r outs a1 a2 a3 a4 hF=>h.2 S w ks hh ps vs r outs a1 a2 a3 a4 (hw _ _ hF)⟩
def d1 {α:Type}(d:PV→Option α):List PV→Option α
 | [p]=>d p
 | _=>none
def d2 {α β:Type}(d:PV→Option α) (e:PV→Option β):List PV→Option (α×β)
 | [p,q]=>match d p,e q with
  | some x,some y=>some (x,y)
  | _,_=>none
 | _=>none
end
theorem Zvb {x:Int}(h:(Lit.int .i64 x).wf=true):-9223372036854775808≤x∧x≤9223372036854775807:=by simpa[Lit.wf,IntKind.has,IntKind.min,IntKind.max,IntKind.signed,IntKind.bits] using h
theorem ZsH {x:Int}(h:(Lit.int .u8 x).wf=true):0≤x∧x≤255:=by simpa[Lit.wf,IntKind.has,IntKind.min,IntKind.max,IntKind.signed,IntKind.bits] using h
end Go.Av
