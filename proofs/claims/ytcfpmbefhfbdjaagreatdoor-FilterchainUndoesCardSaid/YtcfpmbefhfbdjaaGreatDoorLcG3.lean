import Derived.Test.YtcfpmbefhfbdjaaGreatDoorLcG2
import Derived.Test.YtcfpmbefhfbdjaaGreatDoorLcG1
import Derived.IntWalk
import Derived.Test.YtcfpmbefhfbdjaaGreatDoorAvP3
namespace Go.Lc
open Go.RowKit
open Go.Av
set_option linter.unusedVariables false
set_option linter.unusedSimpArgs false
section
set_option maxRecDepth 100000
abbrev Tapi_Header:=Int×(Arr 32)×(Arr 32)×Int×Int×Int
abbrev Tapi_Block:=Tapi_Header×(List Tapi_Tx)
abbrev Tapi_Checkpoint:=Int×(Arr 32)
abbrev Tapi_Params:=Tapi_Header×(Arr 4)×Int×Int×Int×Int×(List Tapi_Checkpoint)×Int×Int×Int
abbrev Tapi_Ledger:=Int×(Arr 32)×(List Tapi_Coin)
abbrev Tapi_Context:=Int×(Arr 32)×Int×Int×(List Int)
abbrev Tlightclientmade_World:=Tapi_Params×(List Tapi_Block)×(List Tapi_Ledger)×(List Tapi_Context)×(List (List Tapi_Coin))
noncomputable def Yt (a0:(List Int)):Option (List Int) :=
 (chk (a0.length≤140737488355328)).bind fun _=>some (a0)
noncomputable def Zbf (p65:(List (List Int))):Option (List (List Int)) :=
 some (p65)
noncomputable def Xw (p64:Int) (p124:(List (List Int))):Option ((Int×(List (List Int))) ⊕ ((List (List Int)))) :=
 some (.inl (IntKind.i64.wrap (p64+1),p124))
noncomputable def Zh4 (x97:Tapi_Tx) (p64:Int):(Int×(List (List Int)))→Option ((Int×(List (List Int))) ⊕ ((Int×(List (List Int))) ⊕ ((List (List Int)))))
 | (p123,p124)=>(if p123<(x97.2.1.length:Int) then(idx (x97.2.1) (p123)).bind fun x128=>(Zew x128.1).bind fun y129=>(chk (p124.length+1≤5864062014805)).bind fun _=>some (.inl (IntKind.i64.wrap (p123+1),p124++[y129])) else(Xw p64 p124).map Sum.inr)
noncomputable def Xx (x97:Tapi_Tx) (p64:Int) (p109:(List (List Int))):Option ((Int×(List (List Int))) ⊕ ((List (List Int)))) :=
 (ZcZ x97).bind fun y114=>(if y114=true then some (.inl (IntKind.i64.wrap (p64+1),p109)) else Ze (Zh4 x97 p64) (0,p109))
noncomputable def Zab (p108:Int) (p134:(List (List Int))):Option ((Int×(List (List Int))) ⊕ ((Int×(List (List Int))) ⊕ ((List (List Int))))) :=
 some (.inl (IntKind.i64.wrap (p108+1),p134))
noncomputable def Zh5 (x97:Tapi_Tx) (p64:Int):(Int×(List (List Int)))→Option ((Int×(List (List Int))) ⊕ ((Int×(List (List Int))) ⊕ ((List (List Int)))))
 | (p108,p109)=>(if p108<(x97.2.2.1.length:Int) then(idx (x97.2.2.1) (p108)).bind fun x131=>(if 0<(x131.2.length:Int) then(Yt x131.2).bind fun y135=>(chk (p109.length+1≤5864062014805)).bind fun _=>Zab p108 (p109++[y135]) else Zab p108 p109) else(Xx x97 p64 p109).map Sum.inr)
noncomputable def Zdm (a0:Tapi_Block):(Int×(List (List Int)))→Option ((Int×(List (List Int))) ⊕ ((List (List Int))))
 | (p64,p65)=>(if p64<(a0.2.length:Int) then(idx (a0.2) (p64)).bind fun x97=>Ze (Zh5 x97 p64) (0,p65) else(Zbf p65).map Sum.inr)
noncomputable def Zbr (a0:Tapi_Block):Option ((List (List Int))) :=
 Ze (Zdm a0) (0,[])
noncomputable def Xy (a0:Tapi_Header):Option ((List Int)) :=
 (Z6 ([]:(List Int)) a0.1).bind fun y1=>(Xt y1 a0.2.1).bind fun y2=>(Xt y2 a0.2.2.1).bind fun y3=>(Z6 y3 a0.2.2.2.1).bind fun y4=>(Z6 y4 a0.2.2.2.2.1).bind fun y5=>(Z6 y5 a0.2.2.2.2.2).bind fun y6=>some (y6)
noncomputable def ZeL (p12:(List Int)):Option ((List Int)×Int) :=
 (if 100000<(p12.length:Int) then some ((([]:(List Int)),4)) else some ((p12,0)))
noncomputable def Zbs (a0:Tapi_Block):(Int×(List Int))→Option ((Int×(List Int)) ⊕ ((List Int)×Int))
 | (p11,p12)=>(if p11<(a0.2.length:Int) then(idx (a0.2) (p11)).bind fun x16=>(Zga x16 true).bind fun y17=>(if ¬ (y17.2=0) then some (.inr ((([]:(List Int)),4))) else(chk (p12.length+y17.1.length≤140737488355328)).bind fun _=>some (.inl (IntKind.i64.wrap (p11+1),p12++y17.1))) else(ZeL p12).map Sum.inr)
noncomputable def Zdv (a0:Tapi_Block):Option ((List Int)×Int) :=
 (if 256<(a0.2.length:Int) then some ((([]:(List Int)),4)) else(Xy a0.1).bind fun y1=>(Yv y1 (IntKind.u64.wrap ((a0.2.length:Int)))).bind fun y2=>Ze (Zbs a0) (0,y2))
noncomputable def Zig (a0:(Arr 32)):Option ((Arr 2)) :=
 (ZbS ((a0.l).take 8)).bind fun y1=>(ZbS (((a0.l).drop 8).take 8)).bind fun y2=>some ((⟨[y1,y2],rfl⟩:Arr 2))
noncomputable def Zfp (a0:Tapi_Header):Option ((Arr 32)) :=
 (Xy a0).bind fun y1=>(Zcy y1).bind fun y2=>some (y2)
noncomputable def Zeg (a0:Int) (a1:Int) (a2:(List Int)):Option (Tapi_Tx) :=
 (Lmade_Null).bind fun y1=>some ((1,[(y1,IntKind.u32.wrap (a0),([]:(List (List Int))))],[(a1,a2)],0))
noncomputable def ZbC (a0:(Arr 4)):Option (Bool) :=
 some (decide (a0=zA 4))
noncomputable def Lref02_Len_k1:Option Int :=
 some (0)
noncomputable def Zg0 (a0:(Arr 4)):Int→Option ((Int) ⊕ (Int))
 | p4=>(if 0≤p4 then(ZaT a0 p4).bind fun y6=>(if y6=true then some (.inr (IntKind.i64.wrap (p4+1))) else some (.inl (IntKind.i64.wrap (p4-1)))) else(Lref02_Len_k1).map Sum.inr)
noncomputable def ZbD (a0:(Arr 4)):Option (Int) :=
 Ze (Zg0 a0) 255
noncomputable def Xo (a0:Int) (a1:Int) (a2:Int):Option (Int×Int) :=
 (chk ((0≤a0∧0≤a1)∧(a1≤18446744073709551615∧0≤a2)∧a2≤1)).bind fun _=>some ((a0+a1+a2) % 18446744073709551616,(a0+a1+a2) / 18446744073709551616)
noncomputable def Zi5 (p9:(Arr 4)) (p7:Int):Option ((Arr 4)×Bool) :=
 some ((p9,decide (p7=1)))
noncomputable def Zi6 (a0:(Arr 4)) (a1:(Arr 4)):(Int×Int×(Arr 4))→Option ((Int×Int×(Arr 4)) ⊕ ((Arr 4)×Bool))
 | (p7,p8,p9)=>(if p8<4 then(inA (4) (p8)).bind fun j12=>(Xo (a0.at j12) (a1.at j12) p7).bind fun y13=>some (.inl (y13.2,IntKind.i64.wrap (p8+1),p9.put j12 y13.1)) else(Zi5 p9 p7).map Sum.inr)
noncomputable def ZeM (a0:(Arr 4)) (a1:(Arr 4)):Option ((Arr 4)×Bool) :=
 Ze (Zi6 a0 a1) (0,0,zA 4)
noncomputable def Zi7 (p6:(Arr 4)):Option (Arr 4) :=
 some (p6)
noncomputable def Lref02_Shl_s1:(Int×(Arr 4))→Option ((Int×(Arr 4)) ⊕ ((Arr 4)))
 | (p5,p6)=>(if 0<p5 then(ZeM p6 p6).bind fun y8=>some (.inl (IntKind.i64.wrap (p5-1),y8.1)) else(Zi7 p6).map Sum.inr)
noncomputable def ZeN (a0:(Arr 4)) (a1:Int):Option ((Arr 4)) :=
 (if 256≤a1 then some (zA 4) else Ze (Lref02_Shl_s1) (a1,a0))
noncomputable def Zc6 (p7:(Arr 4)):Option ((Arr 4)×Int) :=
 (ZbC p7).bind fun y8=>(if y8=true then some ((zA 4,120)) else some ((p7,0)))
noncomputable def Zbc (a0:Int):Option ((Arr 4)×Int) :=
 (X7 (IntKind.u64.wrap (bits .and .u32 a0 16777215))).bind fun y1=>(if ¬ (bits .and .u32 a0 8388608=0) then some ((zA 4,120)) else(if IntKind.i64.wrap ((a0).fdiv 16777216)<3 then(ZaU y1 (IntKind.i64.wrap (8 * (IntKind.i64.wrap (3-(IntKind.i64.wrap ((a0).fdiv 16777216))))))).bind fun y9=>Zc6 y9 else(ZbC y1).bind fun y10=>((if ¬ (y10=true) then(ZbD y1).bind fun y11=>some (decide (256<IntKind.i64.wrap (y11+(IntKind.i64.wrap (8 * (IntKind.i64.wrap ((IntKind.i64.wrap ((a0).fdiv 16777216))-3))))))) else some (false))).bind fun z12=>(if (¬ (y10=true)∧z12=true) then some ((zA 4,120)) else(ZeN y1 (IntKind.i64.wrap (8 * (IntKind.i64.wrap ((IntKind.i64.wrap ((a0).fdiv 16777216))-3))))).bind fun y13=>Zc6 y13)))
noncomputable def ZfG (a0:Tapi_Params):Option Bool :=
 (Zbc a0.1.2.2.2.2.1).bind fun y16=>((if y16.2=0 then(Xn y16.1 a0.2.1).bind fun y17=>some (decide (y17≤0)) else some (false))).bind fun z18=>some ((decide (y16.2=0) && z18))
noncomputable def ZhM (a0:Tapi_Params):Int→Option ((Int) ⊕ (Bool))
 | p11=>(if p11<(a0.2.2.2.2.2.2.1.length:Int) then(idx (a0.2.2.2.2.2.2.1) (p11)).bind fun x19=>((if (x19.1<1∨16777216<x19.1) then some (false) else((if 0<p11 then(idx (a0.2.2.2.2.2.2.1) (IntKind.i64.wrap (p11-1))).bind fun x20=>some (decide (x19.1≤x20.1)) else some (false))).bind fun z21=>some ((decide (0<p11) && z21)))).bind fun z22=>(if ((x19.1<1∨16777216<x19.1)∨z22=true) then some (.inr (false)) else some (.inl (IntKind.i64.wrap (p11+1)))) else(ZfG a0).map Sum.inr)
noncomputable def Xq (a0:Tapi_Params):Option (Bool) :=
 (ZbC a0.2.1).bind fun y1=>(if ((((y1=true∨a0.2.2.1<1)∨4096<a0.2.2.1)∨a0.2.2.2.1<1)∨1048576<a0.2.2.2.1) then some (false) else(if (((((a0.2.2.2.2.2.2.2.1<0∨2100000000000000<a0.2.2.2.2.2.2.2.1)∨a0.2.2.2.2.2.2.2.2.1<1)∨16777216<a0.2.2.2.2.2.2.2.2.1)∨a0.2.2.2.2.2.2.2.2.2<0)∨16777216<a0.2.2.2.2.2.2.2.2.2) then some (false) else Ze (ZhM a0) 0))
noncomputable def Zgp (p5:Int):Option Int :=
 some (p5)
noncomputable def Lref23_Subsidy_s1:(Int×Int)→Option ((Int×Int) ⊕ (Int))
 | (p5,p6)=>(if (0<p6∧0<p5) then some (.inl (IntKind.i64.wrap ((p5).tdiv 2),IntKind.i64.wrap (p6-1))) else(Zgp p5).map Sum.inr)
noncomputable def Zbt (a0:Tapi_Params) (a1:Int):Option (Int) :=
 (Xq a0).bind fun y1=>(if (¬ (y1=true)∨a1<0) then some (0) else(chk (a0.2.2.2.2.2.2.2.2.1≠0)).bind fun _=>Ze (Lref23_Subsidy_s1) (a0.2.2.2.2.2.2.2.1,IntKind.i64.wrap ((a1).tdiv a0.2.2.2.2.2.2.2.2.1)))
noncomputable def ZdU (p11:(List Int)):Option (List Int) :=
 some (p11)
noncomputable def Yk (a0:Tapi_Header):(Int×(List Int))→Option ((Int×(List Int)) ⊕ ((List Int)))
 | (p10,p11)=>(if p10<(3:Int) then(inA (3) (p10)).bind fun j15=>(([a0.2.2.2.1,a0.2.2.2.2.1,a0.2.2.2.2.2])[j15]?).bind fun x16=>(ZY p11 x16).bind fun y17=>some (.inl (IntKind.i64.wrap (p10+1),y17)) else(ZdU p11).map Sum.inr)
noncomputable def Xz (a0:Tapi_Header):Option ((List Int)) :=
 (ZY ([]:(List Int)) a0.1).bind fun y1=>(Yw y1 a0.2.1).bind fun y2=>(Yw y2 a0.2.2.1).bind fun y3=>Ze (Yk a0) (0,y3)
noncomputable def Zai (a0:Tapi_Header):Option ((Arr 32)) :=
 (Xz a0).bind fun y1=>(Zbb y1).bind fun y2=>some (y2)
noncomputable def ZfB (p9:(Arr 4)):Option (Arr 4) :=
 some (p9)
noncomputable def ZfC (a0:(Arr 32)):(Int×(Arr 4))→Option ((Int×(Arr 4)) ⊕ ((Arr 4)))
 | (p8,p9)=>(if p8<32 then(inA (4) (IntKind.i64.wrap ((IntKind.i64.wrap (31-p8)).tdiv 8))).bind fun j13=>(inA (32) (p8)).bind fun j14=>(chk (¬ (IntKind.i64.wrap (8 * ((IntKind.i64.wrap (31-p8)).tmod 8))<0))).bind fun _=>some (.inl (IntKind.i64.wrap (p8+1),p9.put j13 (bits .or .u64 (p9.at j13) (IntKind.u64.wrap ((IntKind.u64.wrap (a0.at j14)) * (2 ^ (min (IntKind.i64.wrap (8 * ((IntKind.i64.wrap (31-p8)).tmod 8))).toNat 64))))))) else(ZfB p9).map Sum.inr)
noncomputable def Zaw (a0:(Arr 32)):Option ((Arr 4)) :=
 Ze (ZfC a0) (0,zA 4)
noncomputable def Zc7 (a0:(Arr 32)) (a1:Int):Option (Bool) :=
 (Zbc a1).bind fun y1=>((if y1.2=0 then(Zaw a0).bind fun y2=>(Xn y2 y1.1).bind fun y3=>some (decide (y3≤0)) else some (false))).bind fun z4=>some ((decide (y1.2=0) && z4))
noncomputable def Zhe (p29:(List Int)):Option Int :=
 (if (p29.length:Int)=0 then some (0) else(inA (p29.length) (IntKind.i64.wrap (((p29.length:Int)).tdiv 2))).bind fun j46=>((p29)[j46]?).bind fun x47=>some (x47))
noncomputable def Zc8 (p56:Int) (p29:(List Int)) (p28:Int) (x48:Int):Option ((Int×(List Int)) ⊕ (Int)) :=
 (chk (p56≤(p29.length:Int)∧0≤p56)).bind fun _=>(chk (0≤p56∧p56≤(p29.length:Int))).bind fun _=>(chk (1+(((p29).drop (p56).toNat).take (p29.length-(p56).toNat)).length≤35184372088832)).bind fun _=>(chk ((p56).toNat+1+(((p29).drop (p56).toNat).take (p29.length-(p56).toNat)).length≤35184372088832)).bind fun _=>some (.inl (IntKind.i64.wrap (p28+1),(p29).take (p56).toNat++([x48]++((p29).drop (p56).toNat).take (p29.length-(p56).toNat))))
noncomputable def Zhf (p29:(List Int)) (x48:Int) (p28:Int):Int→Option ((Int) ⊕ ((Int×(List Int)) ⊕ (Int)))
 | p56=>((if p56<(p29.length:Int) then(inA (p29.length) (p56)).bind fun j64=>((p29)[j64]?).bind fun x65=>some (decide (x65≤x48)) else some (false))).bind fun z66=>(if (p56<(p29.length:Int)∧z66=true) then some (.inl (IntKind.i64.wrap (p56+1))) else(Zc8 p56 p29 p28 x48).map Sum.inr)
noncomputable def Zhg (a0:(List Int)):(Int×(List Int))→Option ((Int×(List Int)) ⊕ (Int))
 | (p28,p29)=>(if p28<(a0.length:Int) then(idx (a0) (p28)).bind fun x48=>Ze (Zhf p29 x48 p28) 0 else(Zhe p29).map Sum.inr)
noncomputable def Zcg (a0:(List Int)):Option (Int) :=
 Ze (Zhg a0) (0,[])
noncomputable def Zfq (a0:Tapi_Tx):Option ((Arr 32)) :=
 (Zag a0).bind fun y1=>(if ¬ (y1=true) then some (zA 32) else(Zal a0 true).bind fun y2=>(Zbb y2).bind fun y3=>some (y3))
noncomputable def Zfr (a0:(Arr 32)) (a1:(Arr 32)):Option ((Arr 32)) :=
 (ZaK [[1],a0.l,a1.l]).bind fun y1=>(Xa y1).bind fun y2=>some (y2)
noncomputable def ZeO (p52:(List (List (Arr 32)))):Option (List (List (Arr 32))) :=
 some (p52)
noncomputable def Zc9 (p52:(List (List (Arr 32)))) (p92:(List (Arr 32))):Option (((List (Arr 32))×(List (List (Arr 32)))) ⊕ ((List (List (Arr 32))))) :=
 (chk (p52.length+1≤5864062014805)).bind fun _=>some (.inl (p92,p52++[p92]))
noncomputable def Zbu (p91:Int) (p107:(List (Arr 32))):Option ((Int×(List (Arr 32))) ⊕ (((List (Arr 32))×(List (List (Arr 32)))) ⊕ ((List (List (Arr 32)))))) :=
 some (.inl (IntKind.i64.wrap (p91+2),p107))
noncomputable def Zhh (p51:(List (Arr 32))) (p52:(List (List (Arr 32)))):(Int×(List (Arr 32)))→Option ((Int×(List (Arr 32))) ⊕ (((List (Arr 32))×(List (List (Arr 32)))) ⊕ ((List (List (Arr 32))))))
 | (p91,p92)=>(if p91<(p51.length:Int) then(if IntKind.i64.wrap (p91+1)<(p51.length:Int) then(idx (p51) (p91)).bind fun x108=>(idx (p51) (IntKind.i64.wrap (p91+1))).bind fun x109=>(Zfr x108 x109).bind fun y110=>(chk (p92.length+1≤4398046511104)).bind fun _=>Zbu p91 (p92++[y110]) else(idx (p51) (p91)).bind fun x112=>(chk (p92.length+1≤4398046511104)).bind fun _=>Zbu p91 (p92++[x112])) else(Zc9 p52 p92).map Sum.inr)
noncomputable def Lref07_levels_s1:((List (Arr 32))×(List (List (Arr 32))))→Option (((List (Arr 32))×(List (List (Arr 32)))) ⊕ ((List (List (Arr 32)))))
 | (p51,p52)=>(if 1<(p51.length:Int) then Ze (Zhh p51 p52) (0,[]) else(ZeO p52).map Sum.inr)
noncomputable def Zdw (a0:(List (Arr 32))):Option ((List (List (Arr 32)))) :=
 Ze (Lref07_levels_s1) (a0,[a0])
noncomputable def Zfs (a0:(List (Arr 32))):Option ((Arr 32)) :=
 (if ((a0.length:Int)=0∨1024<(a0.length:Int)) then some (zA 32) else(Zdw a0).bind fun y1=>(inA (y1.length) (IntKind.i64.wrap ((y1.length:Int)-1))).bind fun j2=>((y1)[j2]?).bind fun x3=>((x3)[0]?).bind fun x4=>some (x4))
noncomputable def Zgf (p9:(List (Arr 32))):Option (Arr 32) :=
 (Zfs p9).bind fun y13=>some (y13)
noncomputable def Zih (a0:(List Tapi_Tx)):(Int×(List (Arr 32)))→Option ((Int×(List (Arr 32))) ⊕ ((Arr 32)))
 | (p8,p9)=>(if p8<(a0.length:Int) then(idx (a0) (p8)).bind fun x14=>(Zfq x14).bind fun y15=>(chk (p9.length+1≤4398046511104)).bind fun _=>some (.inl (IntKind.i64.wrap (p8+1),p9++[y15])) else(Zgf p9).map Sum.inr)
noncomputable def ZdV (a0:(List Tapi_Tx)):Option ((Arr 32)) :=
 Ze (Zih a0) (0,[])
noncomputable def Ze8 (a0:Int):Option (Int) :=
 some (IntKind.u32.wrap (20+(IntKind.u32.wrap ((IntKind.u32.wrap ((a0).tmod 8)) * 15))))
noncomputable def Zgq (a0:Tapi_OutPoint) (a1:Tapi_OutPoint):Option Int :=
 (if a0.2<a1.2 then some ((-1)) else(if a1.2<a0.2 then some (1) else some (0)))
noncomputable def Zgr (a0:Tapi_OutPoint) (a1:Tapi_OutPoint):Int→Option ((Int) ⊕ (Int))
 | p3=>(if p3<32 then(inA (32) (p3)).bind fun j5=>(if a0.1.at j5<a1.1.at j5 then some (.inr ((-1))) else(if a1.1.at j5<a0.1.at j5 then some (.inr (1)) else some (.inl (IntKind.i64.wrap (p3+1))))) else(Zgq a0 a1).map Sum.inr)
noncomputable def Xd (a0:Tapi_OutPoint) (a1:Tapi_OutPoint):Option (Int) :=
 Ze (Zgr a0 a1) 0
noncomputable def Lref23_Sound_k1:Option Bool :=
 some (true)
noncomputable def ZhN (a0:Tapi_Ledger):(Int×Int)→Option ((Int×Int) ⊕ (Bool))
 | (p11,p12)=>(if p12<(a0.2.2.length:Int) then(idx (a0.2.2) (p12)).bind fun x17=>((if 0<p12 then(idx (a0.2.2) (IntKind.i64.wrap (p12-1))).bind fun x18=>(Xd x18.1 x17.1).bind fun y19=>some (decide (0≤y19)) else some (false))).bind fun z20=>(if (((0<p12∧z20=true)∨x17.2.2.1<1)∨a0.1<x17.2.2.1) then some (.inr (false)) else(if ((x17.2.1.1<0∨2100000000000000<x17.2.1.1)∨520<(x17.2.1.2.length:Int)) then some (.inr (false)) else(if 2100000000000000<IntKind.i64.wrap (p11+x17.2.1.1) then some (.inr (false)) else some (.inl (IntKind.i64.wrap (p11+x17.2.1.1),IntKind.i64.wrap (p12+1)))))) else(Lref23_Sound_k1).map Sum.inr)
noncomputable def Zda (a0:Tapi_Ledger):Option (Bool) :=
 (if ((a0.1<0∨16777216<a0.1)∨100000<(a0.2.2.length:Int)) then some (false) else Ze (ZhN a0) (0,0))
noncomputable def Zdx (a0:Tapi_Tx) (a1:Bool):Option ((List Int)×Int) :=
 (Zag a0).bind fun y1=>(if ¬ (y1=true) then some ((([]:(List Int)),4)) else(Zal a0 a1).bind fun y2=>some ((y2,0)))
noncomputable def Zhi (p12:(List Int)):Option (List Int) :=
 some (p12)
noncomputable def ZeP (a0:Tapi_Block):(Int×(List Int))→Option ((Int×(List Int)) ⊕ ((List Int)))
 | (p11,p12)=>(if p11<(a0.2.length:Int) then(idx (a0.2) (p11)).bind fun x16=>(Zdx x16 true).bind fun y17=>(chk (p12.length+y17.1.length≤140737488355328)).bind fun _=>some (.inl (IntKind.i64.wrap (p11+1),p12++y17.1)) else(Zhi p12).map Sum.inr)
noncomputable def Zdy (a0:Tapi_Block):Option ((List Int)) :=
 (Xz a0.1).bind fun y1=>(YN y1 (IntKind.u64.wrap ((a0.2.length:Int)))).bind fun y2=>Ze (ZeP a0) (0,y2)
noncomputable def ZcJ (a0:Tapi_Block):Option Bool :=
 (Zdy a0).bind fun y9=>some (decide ((y9.length:Int)≤100000))
noncomputable def Xr (a0:Tapi_Block):Int→Option ((Int) ⊕ (Bool))
 | p6=>(if p6<(a0.2.length:Int) then(idx (a0.2) (p6)).bind fun x10=>(Zag x10).bind fun y11=>(if ¬ (y11=true) then some (.inr (false)) else some (.inl (IntKind.i64.wrap (p6+1)))) else(ZcJ a0).map Sum.inr)
noncomputable def Zft (a0:Tapi_Block):Option (Bool) :=
 (if 256<(a0.2.length:Int) then some (false) else Ze (Xr a0) 0)
noncomputable def Lref11_place_k1:Option Int :=
 some ((-1))
noncomputable def ZfH (a0:(List (Arr 32))) (a1:(Arr 32)):Int→Option ((Int) ⊕ (Int))
 | p4=>(if p4<(a0.length:Int) then(idx (a0) (p4)).bind fun x6=>(if x6=a1 then some (.inr (p4)) else some (.inl (IntKind.i64.wrap (p4+1)))) else(Lref11_place_k1).map Sum.inr)
noncomputable def Zdb (a0:(List (Arr 32))) (a1:(Arr 32)):Option (Int) :=
 Ze (ZfH a0 a1) 0
noncomputable def Lref11_forward_k1:Option Bool :=
 some (false)
noncomputable def Zcl (p20:Int):Option ((Int) ⊕ (Bool)) :=
 some (.inl (IntKind.i64.wrap (p20+1)))
noncomputable def Zd9 (x30:Tapi_Tx) (a1:(List (Arr 32))) (p20:Int):Int→Option ((Int) ⊕ ((Int) ⊕ (Bool)))
 | p36=>(if p36<(x30.2.1.length:Int) then(idx (x30.2.1) (p36)).bind fun x39=>(Zdb a1 x39.1.1).bind fun y40=>(if p20≤y40 then some (.inr (.inr (true))) else some (.inl (IntKind.i64.wrap (p36+1)))) else(Zcl p20).map Sum.inr)
noncomputable def Zea (a0:Tapi_Block) (a1:(List (Arr 32))):Int→Option ((Int) ⊕ (Bool))
 | p20=>(if p20<(a0.2.length:Int) then(idx (a0.2) (p20)).bind fun x30=>Ze (Zd9 x30 a1 p20) 0 else(Lref11_forward_k1).map Sum.inr)
noncomputable def ZcK (a0:Tapi_Block) (a1:(List (Arr 32))):Option (Bool) :=
 Ze (Zea a0 a1) 0
noncomputable def Lref11_twice_k1:Option Bool :=
 some (false)
noncomputable def ZdJ (p69:Int) (p130:(List Tapi_OutPoint)):Option ((Int×(List Tapi_OutPoint)) ⊕ (Bool)) :=
 some (.inl (IntKind.i64.wrap (p69+1),p130))
noncomputable def Zb4 (p130:(List Tapi_OutPoint)) (p129:Int) (x141:Tapi_Input):Option ((Int×(List Tapi_OutPoint)) ⊕ ((Int×(List Tapi_OutPoint)) ⊕ (Bool))) :=
 (chk (p130.length+1≤3909374676536)).bind fun _=>some (.inl (IntKind.i64.wrap (p129+1),p130++[x141.1]))
noncomputable def ZfI (p130:(List Tapi_OutPoint)) (x141:Tapi_Input) (p129:Int):Int→Option ((Int) ⊕ ((Int×(List Tapi_OutPoint)) ⊕ ((Int×(List Tapi_OutPoint)) ⊕ (Bool))))
 | p147=>(if p147<(p130.length:Int) then(inA (p130.length) (p147)).bind fun j151=>((p130)[j151]?).bind fun x152=>(if (x152.1=x141.1.1∧x152.2=x141.1.2) then some (.inr (.inr (.inr (true)))) else some (.inl (IntKind.i64.wrap (p147+1)))) else(Zb4 p130 p129 x141).map Sum.inr)
noncomputable def ZhO (x106:Tapi_Tx) (p69:Int):(Int×(List Tapi_OutPoint))→Option ((Int×(List Tapi_OutPoint)) ⊕ ((Int×(List Tapi_OutPoint)) ⊕ (Bool)))
 | (p129,p130)=>(if p129<(x106.2.1.length:Int) then(idx (x106.2.1) (p129)).bind fun x141=>Ze (ZfI p130 x141 p129) 0 else(ZdJ p69 p130).map Sum.inr)
noncomputable def ZhP (a0:Tapi_Block):(Int×(List Tapi_OutPoint))→Option ((Int×(List Tapi_OutPoint)) ⊕ (Bool))
 | (p69,p70)=>(if p69<(a0.2.length:Int) then(idx (a0.2) (p69)).bind fun x106=>Ze (ZhO x106 p69) (0,p70) else(Lref11_twice_k1).map Sum.inr)
noncomputable def Zeh (a0:Tapi_Block):Option (Bool) :=
 Ze (ZhP a0) (0,[])
noncomputable def Zb5 (a0:Tapi_Block) (p28:(List (Arr 32))):Option Int :=
 (ZcK a0 p28).bind fun y33=>(if y33=true then some (101) else(Zeh a0).bind fun y34=>(if y34=true then some (91) else(ZdV a0.2).bind fun y35=>(if ¬ (y35=a0.1.2.2.1) then some (110) else some (0))))
noncomputable def ZhQ (a0:Tapi_Block):(Int×(List (Arr 32)))→Option ((Int×(List (Arr 32))) ⊕ (Int))
 | (p27,p28)=>(if p27<(a0.2.length:Int) then(idx (a0.2) (p27)).bind fun x36=>(Zex x36).bind fun y37=>(Zdb p28 y37).bind fun y38=>(if 0≤y38 then some (.inr (91)) else(chk (p28.length+1≤4398046511104)).bind fun _=>some (.inl (IntKind.i64.wrap (p27+1),p28++[y37]))) else(Zb5 a0 p28).map Sum.inr)
noncomputable def Zb6 (a0:Tapi_Block):Option Int :=
 Ze (ZhQ a0) (0,[])
noncomputable def ZfJ (a0:Tapi_Block):Int→Option ((Int) ⊕ (Int))
 | p15=>(if p15<(a0.2.length:Int) then(idx (a0.2) (p15)).bind fun x40=>(Zc0 x40).bind fun y41=>(if ¬ (y41=0) then some (.inr (y41)) else some (.inl (IntKind.i64.wrap (p15+1)))) else(Zb6 a0).map Sum.inr)
noncomputable def Zb7 (a0:Tapi_Block):Option Int :=
 Ze (ZfJ a0) 0
noncomputable def ZfK (a0:Tapi_Block):Int→Option ((Int) ⊕ (Int))
 | p7=>(if p7<(a0.2.length:Int) then(idx (a0.2) (p7)).bind fun x42=>(X5 x42).bind fun y43=>(if ¬ ((y43 == decide (p7=0))=true) then some (.inr (111)) else some (.inl (IntKind.i64.wrap (p7+1)))) else(Zb7 a0).map Sum.inr)
noncomputable def ZbT (a0:Tapi_Block):Option (Int) :=
 (Zft a0).bind fun y1=>(if ¬ (y1=true) then some (4) else(if (a0.2.length:Int)=0 then some (93) else Ze (ZfK a0) 0))
noncomputable def Lref09_Final_k1:Option Bool :=
 some (true)
noncomputable def ZfL (a0:Tapi_Tx):Int→Option ((Int) ⊕ (Bool))
 | p4=>(if p4<(a0.2.1.length:Int) then(idx (a0.2.1) (p4)).bind fun x6=>(if ¬ (x6.2.1=4294967295) then some (.inr (false)) else some (.inl (IntKind.i64.wrap (p4+1)))) else(Lref09_Final_k1).map Sum.inr)
noncomputable def Zaj (a0:Tapi_Tx) (a1:Int):Option (Bool) :=
 (if IntKind.i64.wrap (a0.2.2.2)≤a1 then some (true) else Ze (ZfL a0) 0)
noncomputable def Zei (a0:Tapi_Params) (a1:Tapi_Ledger) (a2:Tapi_Block):Option (Int) :=
 (Xq a0).bind fun y1=>((if ¬ (y1=true) then some (false) else(Zda a1).bind fun y2=>some (!(y2)))).bind fun z3=>(if (¬ (y1=true)∨z3=true) then some (6) else(if a1.1=16777216 then some (4) else(if ¬ (a2.1.2.1=a1.2.1) then some (144) else(ZbT a2).bind fun y4=>(if ¬ (y4=0) then some (y4) else((a2.2)[0]?).bind fun x5=>((x5.2.1)[0]?).bind fun x6=>(if ¬ (IntKind.i64.wrap (x6.2.1)=IntKind.i64.wrap (a1.1+1)) then some (102) else(Zaj x5 (IntKind.i64.wrap (a1.1+1))).bind fun y7=>(if ¬ (y7=true) then some (85) else some (0)))))))
noncomputable def Lref23_find_k1:Option Int :=
 some ((-1))
noncomputable def Zgg (a0:(List Tapi_Coin)) (a1:Tapi_OutPoint):Int→Option ((Int) ⊕ (Int))
 | p4=>(if p4<(a0.length:Int) then(idx (a0) (p4)).bind fun x6=>(if (x6.1.1=a1.1∧x6.1.2=a1.2) then some (.inr (p4)) else some (.inl (IntKind.i64.wrap (p4+1)))) else(Lref23_find_k1).map Sum.inr)
noncomputable def Zcz (a0:(List Tapi_Coin)) (a1:Tapi_OutPoint):Option (Int) :=
 Ze (Zgg a0 a1) 0
noncomputable def ZaV (a0:Tapi_Coin):Option (Tapi_Coin) :=
 (ZaK [a0.2.1.2]).bind fun y1=>some ((a0.1,(a0.2.1.1,y1),a0.2.2.1,a0.2.2.2))
noncomputable def ZfM (p13:(List Tapi_Coin)):Option ((List Tapi_Coin)×Int) :=
 some ((p13,0))
noncomputable def ZfN (p13:(List Tapi_Coin)) (a3:Int) (a0:Tapi_Params):Int→Option ((Int) ⊕ ((List Tapi_Coin)×Int))
 | p24=>(if p24<(p13.length:Int) then(inA (p13.length) (p24)).bind fun j27=>((p13)[j27]?).bind fun x28=>(if (x28.2.2.2=true∧IntKind.i64.wrap (a3-x28.2.2.1)<a0.2.2.2.2.2.2.2.2.2) then some (.inr ((([]:(List Tapi_Coin)),230))) else some (.inl (IntKind.i64.wrap (p24+1)))) else(ZfM p13).map Sum.inr)
noncomputable def ZdK (p13:(List Tapi_Coin)) (a3:Int) (a0:Tapi_Params):Option ((List Tapi_Coin)×Int) :=
 Ze (ZfN p13 a3 a0) 0
noncomputable def ZhR (a2:Tapi_Tx) (a1:(List Tapi_Coin)) (a3:Int) (a0:Tapi_Params):(Int×(List Tapi_Coin))→Option ((Int×(List Tapi_Coin)) ⊕ ((List Tapi_Coin)×Int))
 | (p12,p13)=>(if p12<(a2.2.1.length:Int) then(idx (a2.2.1) (p12)).bind fun x29=>(Zcz a1 x29.1).bind fun y30=>(if y30<0 then some (.inr ((([]:(List Tapi_Coin)),101))) else(idx (a1) (y30)).bind fun x31=>(ZaV x31).bind fun y32=>(chk (p13.length+1≤1599289640401)).bind fun _=>some (.inl (IntKind.i64.wrap (p12+1),p13++[(y32.1,(y32.2.1.1,y32.2.1.2),y32.2.2.1,y32.2.2.2)]))) else(ZdK p13 a3 a0).map Sum.inr)
noncomputable def Zej (a0:Tapi_Params) (a1:(List Tapi_Coin)) (a2:Tapi_Tx) (a3:Int):Option ((List Tapi_Coin)×Int) :=
 Ze (ZhR a2 a1 a3 a0) (0,[])
noncomputable def ZcL (a0:(List Tapi_Coin)) (a1:Int):Option ((List Tapi_Coin)) :=
 (chk (a1≤(a0.length:Int)∧0≤a1)).bind fun _=>(chk (((a0).take ((a1).toNat)).length≤1599289640401)).bind fun _=>(chk (0≤IntKind.i64.wrap (a1+1)∧IntKind.i64.wrap (a1+1)≤(a0.length:Int))).bind fun _=>(chk (((a0).take ((a1).toNat)).length+((a0).drop ((IntKind.i64.wrap (a1+1)).toNat)).length≤1599289640401)).bind fun _=>some ((a0).take ((a1).toNat)++(a0).drop ((IntKind.i64.wrap (a1+1)).toNat))
noncomputable def Zgs (p10:(List Tapi_Coin)):Option (List Tapi_Coin) :=
 some (p10)
noncomputable def Zgt (a0:Tapi_Tx) (y1:((Arr 32))) (a1:Int):(Int×(List Tapi_Coin))→Option ((Int×(List Tapi_Coin)) ⊕ ((List Tapi_Coin)))
 | (p9,p10)=>(if p9<(a0.2.2.1.length:Int) then(idx (a0.2.2.1) (p9)).bind fun x14=>(X5 a0).bind fun y15=>(chk (p10.length+1≤1599289640401)).bind fun _=>some (.inl (IntKind.i64.wrap (p9+1),p10++[((y1,IntKind.u32.wrap (p9)),x14,a1,y15)])) else(Zgs p10).map Sum.inr)
noncomputable def ZaC (a0:Tapi_Tx) (a1:Int):Option ((List Tapi_Coin)) :=
 (Zex a0).bind fun y1=>Ze (Zgt a0 y1 a1) (0,[])
noncomputable def Zii (a1:Tapi_Coin) (p11:(List Tapi_Coin)) (a0:(List Tapi_Coin)):Option (List Tapi_Coin) :=
 (ZaV a1).bind fun y16=>(chk (p11.length+1≤1599289640401)).bind fun _=>(chk (0≤(p11.length:Int)∧(p11.length:Int)≤(a0.length:Int))).bind fun _=>(chk (p11.length+1+((a0).drop (((p11.length:Int)).toNat)).length≤1599289640401)).bind fun _=>some (p11++[(y16.1,(y16.2.1.1,y16.2.1.2),y16.2.2.1,y16.2.2.2)]++(a0).drop (((p11.length:Int)).toNat))
noncomputable def ZcM (p10:Int) (p23:(List Tapi_Coin)):Option ((Int×(List Tapi_Coin)) ⊕ ((List Tapi_Coin))) :=
 some (.inl (IntKind.i64.wrap (p10+1),p23))
noncomputable def Zij (a0:(List Tapi_Coin)) (a1:Tapi_Coin):(Int×(List Tapi_Coin))→Option ((Int×(List Tapi_Coin)) ⊕ ((List Tapi_Coin)))
 | (p10,p11)=>(if p10<(a0.length:Int) then(idx (a0) (p10)).bind fun x20=>(Xd x20.1 a1.1).bind fun y21=>(if y21<0 then(chk (p11.length+1≤1599289640401)).bind fun _=>ZcM p10 (p11++[x20]) else ZcM p10 p11) else(Zii a1 p11 a0).map Sum.inr)
noncomputable def ZbE (a0:(List Tapi_Coin)) (a1:Tapi_Coin):Option ((List Tapi_Coin)) :=
 Ze (Zij a0 a1) (0,[])
noncomputable def Zg1 (p22:(List Tapi_Coin)):Option ((List Tapi_Coin)×Int) :=
 some ((p22,0))
noncomputable def Zi8 (y13:((List Tapi_Coin))):((List Tapi_Coin)×Int)→Option (((List Tapi_Coin)×Int) ⊕ ((List Tapi_Coin)×Int))
 | (p22,p23)=>(if p23<(y13.length:Int) then(inA (y13.length) (p23)).bind fun j27=>((y13)[j27]?).bind fun x28=>(ZbE p22 x28).bind fun y29=>some (.inl (y29,IntKind.i64.wrap (p23+1))) else(Zg1 p22).map Sum.inr)
noncomputable def Ze9 (a1:Tapi_Tx) (a2:Int) (a0:(List Tapi_Coin)):Option ((List Tapi_Coin)×Int) :=
 (ZaC a1 a2).bind fun y13=>Ze (Zi8 y13) (a0,0)
noncomputable def Zg2 (y1:((List Tapi_Coin))) (a0:(List Tapi_Coin)) (a1:Tapi_Tx) (a2:Int):Int→Option ((Int) ⊕ ((List Tapi_Coin)×Int))
 | p9=>(if p9<(y1.length:Int) then(inA (y1.length) (p9)).bind fun j30=>((y1)[j30]?).bind fun x31=>(Zcz a0 x31.1).bind fun y32=>(if 0≤y32 then some (.inr ((([]:(List Tapi_Coin)),91))) else some (.inl (IntKind.i64.wrap (p9+1)))) else(Ze9 a1 a2 a0).map Sum.inr)
noncomputable def Zgh (a0:(List Tapi_Coin)) (a1:Tapi_Tx) (a2:Int):Option ((List Tapi_Coin)×Int) :=
 (ZaC a1 a2).bind fun y1=>Ze (Zg2 y1 a0 a1 a2) 0
noncomputable def ZhS (p5:Int):Option Int :=
 some (p5)
noncomputable def ZhT (a0:(List Tapi_Coin)):(Int×Int)→Option ((Int×Int) ⊕ (Int))
 | (p5,p6)=>(if p6<(a0.length:Int) then(idx (a0) (p6)).bind fun x8=>some (.inl (IntKind.i64.wrap (p5+x8.2.1.1),IntKind.i64.wrap (p6+1))) else(ZhS p5).map Sum.inr)
noncomputable def Zdc (a0:(List Tapi_Coin)):Option (Int) :=
 Ze (ZhT a0) (0,0)
noncomputable def Zfu (a0:Tapi_Params) (a1:Tapi_Context):Option (Bool) :=
 (Xq a0).bind fun y1=>some ((((y1 && decide (0≤a1.1)) && decide (a1.1≤16777216)) && decide ((a1.2.2.2.2.length:Int)=(if 11<IntKind.i64.wrap (a1.1+1) then 11 else IntKind.i64.wrap (a1.1+1)))))
noncomputable def Zgu (a1:Tapi_Context) (y2:((Arr 32))) (a2:Tapi_Header) (p4:Int) (p8:(List Int)):Option (Tapi_Context×Int) :=
 some (((IntKind.i64.wrap (a1.1+1),y2,a2.2.2.2.2.1,p4,p8),0))
noncomputable def Zcm (a1:Tapi_Context) (a2:Tapi_Header) (y2:((Arr 32))) (p4:Int):Option (Tapi_Context×Int) :=
 (chk (a1.2.2.2.2.length≤35184372088832)).bind fun _=>(chk (a1.2.2.2.2.length+1≤35184372088832)).bind fun _=>(if 11<(a1.2.2.2.2.length+1:Int) then(chk (1≤((a1.2.2.2.2++[a2.2.2.2.1]).length:Int))).bind fun _=>Zgu a1 y2 a2 p4 (((a1.2.2.2.2++[a2.2.2.2.1]).drop 1).take ((a1.2.2.2.2++[a2.2.2.2.1]).length-1)) else Zgu a1 y2 a2 p4 (a1.2.2.2.2++[a2.2.2.2.1]))
noncomputable def Zbv (a0:Tapi_Params) (a1:Tapi_Context) (a2:Tapi_Header):Option (Tapi_Context×Int) :=
 (Zfu a0 a1).bind fun y1=>(if ¬ (y1=true) then some (((0,zA 32,0,0,([]:(List Int))),6)) else(if a1.1=16777216 then some (((0,zA 32,0,0,([]:(List Int))),4)) else(Zai a2).bind fun y2=>(chk (a0.2.2.1≠0)).bind fun _=>(if (IntKind.i64.wrap (a1.1+1)).tmod a0.2.2.1=0 then Zcm a1 a2 y2 a2.2.2.2.1 else Zcm a1 a2 y2 a1.2.2.2.1)))
noncomputable def Zek (a0:Int):Option (Tapi_Params) :=
 (ZhL (zA 4)).bind fun y1=>(ZaU y1 1).bind fun y2=>some (((1,zA 32,zA 32,IntKind.u32.wrap (1000+(IntKind.u32.wrap (a0))),545259519,0),y2,IntKind.i64.wrap (3+(IntKind.i64.wrap ((a0).tmod 5))),5,600,1,([]:(List Tapi_Checkpoint)),1000,IntKind.i64.wrap (4+(IntKind.i64.wrap ((a0).tmod 3))),IntKind.i64.wrap ((a0).tmod 3)))
noncomputable def Zel (a0:Tapi_Params):Option (Tapi_Ledger×Int) :=
 (Xq a0).bind fun y1=>(if ¬ (y1=true) then some (((0,zA 32,([]:(List Tapi_Coin))),6)) else(Zai a0.1).bind fun y2=>some (((0,y2,([]:(List Tapi_Coin))),0)))
noncomputable def Zem (a0:Tapi_Params):Option (Tapi_Context×Int) :=
 (Xq a0).bind fun y1=>(if ¬ (y1=true) then some (((0,zA 32,0,0,([]:(List Int))),6)) else(Zai a0.1).bind fun y2=>some (((0,y2,a0.1.2.2.2.2.1,a0.1.2.2.2.1,[a0.1.2.2.2.1]),0)))
noncomputable def Zfv (a0:Int):Option (Tlightclientmade_World) :=
 (Zek a0).bind fun y1=>(Zel y1).bind fun y2=>(Zem y1).bind fun y3=>some ((y1,([]:(List Tapi_Block)),[y2.1],[y3.1],([]:(List (List Tapi_Coin)))))
end
section
set_option maxRecDepth 100000
abbrev Tapi_Env:=(Arr 32)×Int×Int
noncomputable def ZbU (p56:Int) (p61:(List Int)) (p65:Int) (p57:Int) (p64:Int) (p59:Bool) (p60:Bool) (rf:(List Int)→Int→Int→Int→Option ((List Int))):Option ((Int×Int×Int×Bool×Bool×(List Int)) ⊕ ((List Int))) :=
 ((if 0<p56 then(inA (p61.length) (IntKind.i64.wrap (p56-1))).bind fun j67=>((p61)[j67]?).bind fun x68=>(inA (p61.length) (p65)).bind fun j69=>((p61)[j69]?).bind fun x70=>(Y5 x68 x70).bind fun y71=>some (!(y71)) else some (false))).bind fun z72=>(if (0<p56∧z72=true) then((none:Option Unit)).bind fun _=>some (.inl (0,p57,p64,p59,p60,p61)) else((none:Option Unit)).bind fun _=>(if IntKind.i64.wrap (0-p56)<IntKind.i64.wrap (p57-0) then(rf p61 p56 0 p64).bind fun y73=>(chk (y73.length=p61.length)).bind fun _=>some (.inl (IntKind.i64.wrap (0+1),p57,p64,decide (IntKind.i64.wrap ((IntKind.i64.wrap (p57-p56)).tdiv 8)≤IntKind.i64.wrap (0-p56)),false,y73)) else(rf p61 (IntKind.i64.wrap (0+1)) p57 p64).bind fun y75=>(chk (y75.length=p61.length)).bind fun _=>some (.inl (p56,0,p64,decide (IntKind.i64.wrap ((IntKind.i64.wrap (p57-p56)).tdiv 8)≤IntKind.i64.wrap (p57-0)),false,y75))))
noncomputable def ZbV (p59:Bool) (p60:Bool) (p56:Int) (p61:(List Int)) (p57:Int) (p64:Int) (rf:(List Int)→Int→Int→Int→Option ((List Int))) (p65:Int) (p66:Int):Option ((Int×Int×Int×Bool×Bool×(List Int)) ⊕ ((List Int))) :=
 (if ((p59=true∧p60=true)∧p66=1) then((none:Option Unit)).bind fun _=>ZbU p56 p61 p65 p57 p64 p59 p60 rf else ZbU p56 p61 p65 p57 p64 p59 p60 rf)
noncomputable def XQ (p59:Bool) (p60:Bool) (p56:Int) (p61:(List Int)) (p57:Int) (rf:(List Int)→Int→Int→Int→Option ((List Int))) (p64:Int):Option ((Int×Int×Int×Bool×Bool×(List Int)) ⊕ ((List Int))) :=
 ((none:Option Unit)).bind fun _=>(if 0=2 then((none:Option Unit)).bind fun _=>ZbV p59 p60 p56 p61 p57 p64 rf (IntKind.i64.wrap ((IntKind.i64.wrap (p57-1))-(IntKind.i64.wrap (0-p56)))) 1 else ZbV p59 p60 p56 p61 p57 p64 rf 0 0)
noncomputable def XR (a0:(List Int)) (rf:(List Int)→Int→Int→Int→Option ((List Int))):(Int×Int×Int×Bool×Bool×(List Int))→Option ((Int×Int×Int×Bool×Bool×(List Int)) ⊕ ((List Int)))
 | (p56,p57,p58,p59,p60,p61)=>(if IntKind.i64.wrap (p57-p56)≤12 then(Zt p61 p56 p57).bind fun y62=>(chk (y62.length=p61.length)).bind fun _=>(chk (y62.length=a0.length)).bind fun _=>some (.inr (y62)) else(if p58=0 then((none:Option Unit)).bind fun _=>(chk (p61.length=a0.length)).bind fun _=>some (.inr (p61)) else(if ¬ (p59=true) then((none:Option Unit)).bind fun _=>XQ p59 p60 p56 p61 p57 rf (IntKind.i64.wrap (p58-1)) else XQ p59 p60 p56 p61 p57 rf p58)))
noncomputable def Yr (rf:(List Int)→Int→Int→Int→Option ((List Int))) (a0:(List Int)) (a1:Int) (a2:Int) (a3:Int):Option ((List Int)) :=
 Ze (XR a0 rf) (a1,a2,a3,true,true,a0)
noncomputable def Lslices_pdqsortOrdered_of_uint64w_n:Nat→(List Int)→Int→Int→Int→Option ((List Int))
 | 0,_,_,_,_=>none
 | n+1,a0,a1,a2,a3=>Yr (Lslices_pdqsortOrdered_of_uint64w_n n) a0 a1 a2 a3
noncomputable def YA (a0:(List Int)) (a1:Int) (a2:Int) (a3:Int):Option ((List Int)):=ZnU fun n=>Lslices_pdqsortOrdered_of_uint64w_n n a0 a1 a2 a3
noncomputable def Ym (a0:(List Int)):Option ((List Int)) :=
 (ZcG (IntKind.u64.wrap ((a0.length:Int)))).bind fun y1=>(YA a0 0 (a0.length:Int) y1).bind fun y2=>(chk (y2.length=a0.length)).bind fun _=>(chk (y2.length=a0.length)).bind fun _=>some (y2)
noncomputable def ZdL (p11:(List Int)):Option (List Int) :=
 (Ym p11).bind fun y16=>(chk (y16.length=p11.length)).bind fun _=>some (y16)
noncomputable def ZbW (a1:(List (List Int))) (a0:(Arr 2)) (a2:Int) (a3:Int):(Int×(List Int))→Option ((Int×(List Int)) ⊕ ((List Int)))
 | (p10,p11)=>(if p10<(a1.length:Int) then(idx (a1) (p10)).bind fun x18=>(Zif a0 x18).bind fun y19=>(ZhG y19 (IntKind.u64.wrap ((IntKind.u64.wrap (a2)) * a3))).bind fun y20=>(chk (p11.length+1≤17592186044416)).bind fun _=>some (.inl (IntKind.i64.wrap (p10+1),p11++[y20])) else(ZdL p11).map Sum.inr)
noncomputable def Zb8 (a0:(Arr 2)) (a1:(List (List Int))) (a2:Int) (a3:Int):Option ((List Int)) :=
 Ze (ZbW a1 a0 a2 a3) (0,[])
noncomputable def Zeb (a0:(Arr 2)) (p13:(List (List Int))) (a3:Int) (a2:Int):Option (Tapi_Filter×Int) :=
 (Zb8 a0 p13 (p13.length:Int) a3).bind fun y18=>(Zbo y18 a2).bind fun y19=>some ((y19.1,y19.2))
noncomputable def Za2 (p11:Int) (p22:(List (ByteArray×Bool))) (p23:(List (List Int))):Option ((Int×(List (ByteArray×Bool))×(List (List Int))) ⊕ (Tapi_Filter×Int)) :=
 some (.inl (IntKind.i64.wrap (p11+1),p22,p23))
noncomputable def Za3 (a1:(List (List Int))) (a0:(Arr 2)) (a3:Int) (a2:Int):(Int×(List (ByteArray×Bool))×(List (List Int)))→Option ((Int×(List (ByteArray×Bool))×(List (List Int))) ⊕ (Tapi_Filter×Int))
 | (p11,p12,p13)=>(if p11<(a1.length:Int) then(idx (a1) (p11)).bind fun x20=>(if ¬ ((Zcc (Zjw x20) p12).getD false=true) then(chk (p13.length+1≤5864062014805)).bind fun _=>Za2 p11 (ZeG (Zjw x20) true p12) (p13++[x20]) else Za2 p11 p12 p13) else(Zeb a0 p13 a3 a2).map Sum.inr)
noncomputable def ZcN (a0:(Arr 2)) (a1:(List (List Int))) (a2:Int) (a3:Int):Option (Tapi_Filter×Int) :=
 (if 4096<(a1.length:Int) then some (((0,([]:(List Int))),4)) else(if (((a3<1∨1099511627776<a3)∨a2<0)∨32<a2) then some (((0,([]:(List Int))),5)) else Ze (Za3 a1 a0 a3 a2) (0,([]:(List (ByteArray×Bool))),[])))
noncomputable def ZdW (a0:Tapi_Block):Option (Tapi_Filter×Int) :=
 (Zdv a0).bind fun y1=>(if ¬ (y1.2=0) then some (((0,([]:(List Int))),y1.2)) else(Zfp a0.1).bind fun y2=>(Zig y2).bind fun y3=>(Zbr a0).bind fun y4=>(ZcN y3 y4 10 1533).bind fun y5=>some ((y5.1,y5.2)))
noncomputable def Zhr (a0:(List Int)):Option ((List (List Int))) :=
 (if ¬ ((a0.length:Int)=4) then some (([]:(List (List Int)))) else((a0)[2]?).bind fun x1=>some ([[x1]]))
noncomputable def Zen (a1:Int) (a0:Tapi_Coin) (y1:((List (List Int)))) (p3:Int) (p4:(List Tapi_Output)):Option (Tapi_Tx×Int) :=
 (ZaP (IntKind.u8.wrap ((a1).tdiv 4))).bind fun y5=>(chk (p4.length+1≤4398046511104)).bind fun _=>some (((1,[(a0.1,IntKind.u32.wrap (a1),y1)],p4++[(p3,y5)],0),(if a0.2.1.1<IntKind.i64.wrap ((a1).tmod 3) then a0.2.1.1 else IntKind.i64.wrap ((a1).tmod 3))))
noncomputable def Zfw (a0:Tapi_Coin) (a1:Int):Option (Tapi_Tx×Int) :=
 (Zhr a0.2.1.2).bind fun y1=>(if (a1).tmod 2=1 then(ZaP (IntKind.u8.wrap ((a1).tdiv 2))).bind fun y7=>Zen a1 a0 y1 (IntKind.i64.wrap ((IntKind.i64.wrap (a0.2.1.1-(if a0.2.1.1<IntKind.i64.wrap ((a1).tmod 3) then a0.2.1.1 else IntKind.i64.wrap ((a1).tmod 3)))).tdiv 3)) [(IntKind.i64.wrap ((IntKind.i64.wrap (a0.2.1.1-(if a0.2.1.1<IntKind.i64.wrap ((a1).tmod 3) then a0.2.1.1 else IntKind.i64.wrap ((a1).tmod 3))))-(IntKind.i64.wrap ((IntKind.i64.wrap (a0.2.1.1-(if a0.2.1.1<IntKind.i64.wrap ((a1).tmod 3) then a0.2.1.1 else IntKind.i64.wrap ((a1).tmod 3)))).tdiv 3))),y7)] else Zen a1 a0 y1 (IntKind.i64.wrap (a0.2.1.1-(if a0.2.1.1<IntKind.i64.wrap ((a1).tmod 3) then a0.2.1.1 else IntKind.i64.wrap ((a1).tmod 3)))) [])
noncomputable def ZgM (p147:(List Tapi_Tx)) (p145:Int):Option ((List Tapi_Tx)×Int) :=
 some ((p147,p145))
noncomputable def Y0 (p146:Int) (p288:Int) (p289:(List Tapi_Tx)) (p290:(List Tapi_Coin)):Option ((Int×Int×(List Tapi_Tx)×(List Tapi_Coin)) ⊕ ((List Tapi_Tx)×Int)) :=
 some (.inl (p288,IntKind.u8.wrap (p146+1),p289,p290))
noncomputable def ZbF (p146:Int) (p145:Int) (y294:(Tapi_Tx×Int)) (p147:(List Tapi_Tx)) (p309:(List Tapi_Coin)):Option ((Int) ⊕ ((Int×Int×(List Tapi_Tx)×(List Tapi_Coin)) ⊕ ((List Tapi_Tx)×Int))) :=
 (Y0 p146 (IntKind.i64.wrap (p145+y294.2)) (p147++[(y294.1.1,y294.1.2.1,y294.1.2.2.1,y294.1.2.2.2)]) p309).map Sum.inr
noncomputable def ZbG (y294:(Tapi_Tx×Int)) (y299:((Arr 32))) (a1:Tapi_Ledger) (p146:Int) (p145:Int) (p147:(List Tapi_Tx)):(Int×(List Tapi_Coin))→Option ((Int×(List Tapi_Coin)) ⊕ ((Int) ⊕ ((Int×Int×(List Tapi_Tx)×(List Tapi_Coin)) ⊕ ((List Tapi_Tx)×Int))))
 | (p308,p309)=>(if p308<(y294.1.2.2.1.length:Int) then(inA (y294.1.2.2.1.length) (p308)).bind fun j313=>((y294.1.2.2.1)[j313]?).bind fun x314=>(chk (p309.length+1≤1599289640401)).bind fun _=>some (.inl (IntKind.i64.wrap (p308+1),p309++[((y299,IntKind.u32.wrap (p308)),x314,IntKind.i64.wrap (a1.1+1),false)])) else(ZbF p146 p145 y294 p147 p309).map Sum.inr)
noncomputable def ZdX (p148:(List Tapi_Coin)) (a2:Int) (p146:Int) (a1:Tapi_Ledger) (a0:Tapi_Params) (p147:(List Tapi_Tx)) (p145:Int):Int→Option ((Int) ⊕ ((Int×Int×(List Tapi_Tx)×(List Tapi_Coin)) ⊕ ((List Tapi_Tx)×Int)))
 | p265=>(if p265<(p148.length:Int) then(chk ((p148.length:Int)≠0)).bind fun _=>(inA (p148.length) ((IntKind.i64.wrap ((IntKind.i64.wrap ((IntKind.i64.wrap (IntKind.u8.wrap ((a2).tdiv 4)))+(IntKind.i64.wrap (p146))))+p265)).tmod (p148.length:Int))).bind fun j292=>((p148)[j292]?).bind fun x293=>(if (x293.2.2.2=true∧IntKind.i64.wrap ((IntKind.i64.wrap (a1.1+1))-x293.2.2.1)<a0.2.2.2.2.2.2.2.2.2) then some (.inl (IntKind.i64.wrap (p265+1))) else(Zfw x293 (IntKind.u8.wrap (a2+p146))).bind fun y294=>(chk (p147.length+1≤2199023255552)).bind fun _=>(chk ((IntKind.i64.wrap ((IntKind.i64.wrap ((IntKind.i64.wrap (IntKind.u8.wrap ((a2).tdiv 4)))+(IntKind.i64.wrap (p146))))+p265)).tmod (p148.length:Int)≤(p148.length:Int)∧0≤(IntKind.i64.wrap ((IntKind.i64.wrap ((IntKind.i64.wrap (IntKind.u8.wrap ((a2).tdiv 4)))+(IntKind.i64.wrap (p146))))+p265)).tmod (p148.length:Int))).bind fun _=>(chk (0≤IntKind.i64.wrap (((IntKind.i64.wrap ((IntKind.i64.wrap ((IntKind.i64.wrap (IntKind.u8.wrap ((a2).tdiv 4)))+(IntKind.i64.wrap (p146))))+p265)).tmod (p148.length:Int))+1)∧IntKind.i64.wrap (((IntKind.i64.wrap ((IntKind.i64.wrap ((IntKind.i64.wrap (IntKind.u8.wrap ((a2).tdiv 4)))+(IntKind.i64.wrap (p146))))+p265)).tmod (p148.length:Int))+1)≤(p148.length:Int))).bind fun _=>(chk (((IntKind.i64.wrap ((IntKind.i64.wrap ((IntKind.i64.wrap (IntKind.u8.wrap ((a2).tdiv 4)))+(IntKind.i64.wrap (p146))))+p265)).tmod (p148.length:Int)).toNat+(((p148).drop (IntKind.i64.wrap (((IntKind.i64.wrap ((IntKind.i64.wrap ((IntKind.i64.wrap (IntKind.u8.wrap ((a2).tdiv 4)))+(IntKind.i64.wrap (p146))))+p265)).tmod (p148.length:Int))+1)).toNat).take (p148.length-(IntKind.i64.wrap (((IntKind.i64.wrap ((IntKind.i64.wrap ((IntKind.i64.wrap (IntKind.u8.wrap ((a2).tdiv 4)))+(IntKind.i64.wrap (p146))))+p265)).tmod (p148.length:Int))+1)).toNat)).length≤1599289640401)).bind fun _=>(Zex (y294.1.1,y294.1.2.1,y294.1.2.2.1,y294.1.2.2.2)).bind fun y299=>Ze (ZbG y294 y299 a1 p146 p145 p147) (0,(p148).take ((IntKind.i64.wrap ((IntKind.i64.wrap ((IntKind.i64.wrap (IntKind.u8.wrap ((a2).tdiv 4)))+(IntKind.i64.wrap (p146))))+p265)).tmod (p148.length:Int)).toNat++((p148).drop (IntKind.i64.wrap (((IntKind.i64.wrap ((IntKind.i64.wrap ((IntKind.i64.wrap (IntKind.u8.wrap ((a2).tdiv 4)))+(IntKind.i64.wrap (p146))))+p265)).tmod (p148.length:Int))+1)).toNat).take (p148.length-(IntKind.i64.wrap (((IntKind.i64.wrap ((IntKind.i64.wrap ((IntKind.i64.wrap (IntKind.u8.wrap ((a2).tdiv 4)))+(IntKind.i64.wrap (p146))))+p265)).tmod (p148.length:Int))+1)).toNat))) else(Y0 p146 p145 p147 p148).map Sum.inr)
noncomputable def ZdY (a2:Int) (a1:Tapi_Ledger) (a0:Tapi_Params):(Int×Int×(List Tapi_Tx)×(List Tapi_Coin))→Option ((Int×Int×(List Tapi_Tx)×(List Tapi_Coin)) ⊕ ((List Tapi_Tx)×Int))
 | (p145,p146,p147,p148)=>(if p146<(a2).tmod 4 then Ze (ZdX p148 a2 p146 a1 a0 p147 p145) 0 else(ZgM p147 p145).map Sum.inr)
noncomputable def YJ (a0:Tapi_Params) (a1:Tapi_Ledger) (a2:Int):Option ((List Tapi_Tx)×Int) :=
 (chk (a1.2.2.length≤1599289640401)).bind fun _=>Ze (ZdY a2 a1 a0) (0,0,[],a1.2.2)
noncomputable def Zg3 (p49:(Arr 8)):Option ((Arr 4)×(Arr 4)) :=
 some (((zA 4).over ((p49.l).drop 4),(zA 4).over ((p49.l).take 4)))
noncomputable def Zfa (p48:Int) (p90:(Arr 8)) (p88:Int):Option ((Int×(Arr 8)) ⊕ ((Arr 4)×(Arr 4))) :=
 (inA (8) (IntKind.i64.wrap (p48+4))).bind fun j97=>some (.inl (IntKind.i64.wrap (p48+1),p90.put j97 p88))
noncomputable def Zi9 (p48:Int) (a0:(Arr 4)) (a1:(Arr 4)):(Int×Int×(Arr 8))→Option ((Int×Int×(Arr 8)) ⊕ ((Int×(Arr 8)) ⊕ ((Arr 4)×(Arr 4))))
 | (p88,p89,p90)=>(if p89<4 then(inA (4) (p48)).bind fun j98=>(inA (4) (p89)).bind fun j99=>(XP (a0.at j98) (a1.at j99)).bind fun y100=>(inA (8) (IntKind.i64.wrap (p48+p89))).bind fun j101=>(Xo (p90.at j101) y100.2 0).bind fun y102=>(Xo y102.1 p88 0).bind fun y103=>some (.inl (IntKind.u64.wrap ((IntKind.u64.wrap (y100.1+y102.2))+y103.2),IntKind.i64.wrap (p89+1),p90.put j101 y103.1)) else(Zfa p48 p90 p88).map Sum.inr)
noncomputable def Zja (a0:(Arr 4)) (a1:(Arr 4)):(Int×(Arr 8))→Option ((Int×(Arr 8)) ⊕ ((Arr 4)×(Arr 4)))
 | (p48,p49)=>(if p48<4 then Ze (Zi9 p48 a0 a1) (0,0,p49) else(Zg3 p49).map Sum.inr)
noncomputable def Zgi (a0:(Arr 4)) (a1:(Arr 4)):Option ((Arr 4)×(Arr 4)) :=
 Ze (Zja a0 a1) (0,zA 8)
noncomputable def Zjb (p28:(Arr 4)) (p29:(Arr 4)):Option ((Arr 4)×(Arr 4)×Bool) :=
 some ((p28,p29,true))
noncomputable def Zfb (p27:Int) (p50:(Arr 4)) (p51:(Arr 4)):Option ((Int×(Arr 4)×(Arr 4)) ⊕ ((Arr 4)×(Arr 4)×Bool)) :=
 some (.inl (IntKind.i64.wrap (p27-1),p50,p51))
noncomputable def Zdz (y41:(Bool)) (a2:(Arr 4)) (p27:Int) (p28:(Arr 4)) (p44:(Arr 4)):Option ((Int×(Arr 4)×(Arr 4)) ⊕ ((Arr 4)×(Arr 4)×Bool)) :=
 ((if y41=true then some (false) else(Xn p44 a2).bind fun y45=>some (decide (0≤y45)))).bind fun z46=>(if (y41=true∨z46=true) then(Zge p44 a2).bind fun y52=>(inA (4) (IntKind.i64.wrap ((p27).tdiv 64))).bind fun j53=>(chk (¬ ((p27).tmod 64<0))).bind fun _=>Zfb p27 (p28.put j53 (bits .or .u64 (p28.at j53) (IntKind.u64.wrap (1 * (2 ^ (min ((p27).tmod 64).toNat 64)))))) y52.1 else Zfb p27 p28 p44)
noncomputable def Zjc (a1:(Arr 4)) (a2:(Arr 4)):(Int×(Arr 4)×(Arr 4))→Option ((Int×(Arr 4)×(Arr 4)) ⊕ ((Arr 4)×(Arr 4)×Bool))
 | (p27,p28,p29)=>(if 0≤p27 then(ZaT p29 255).bind fun y41=>(ZeM p29 p29).bind fun y42=>(ZaT a1 p27).bind fun y43=>(if y43=true then Zdz y41 a2 p27 p28 (y42.1.put 0 (bits .or .u64 (y42.1.at 0) 1)) else Zdz y41 a2 p27 p28 y42.1) else(Zjb p28 p29).map Sum.inr)
noncomputable def Zgj (a0:(Arr 4)) (a1:(Arr 4)) (a2:(Arr 4)):Option ((Arr 4)×(Arr 4)×Bool) :=
 (Xn a2 a0).bind fun y1=>(if y1≤0 then some ((zA 4,zA 4,false)) else Ze (Zjc a1 a2) (255,zA 4,a0))
noncomputable def Za4 (p15:Int) (p20:(Arr 4)):Option ((Int) ⊕ (Int)) :=
 (ZbD p20).bind fun y21=>(if y21≤23 then some (.inr (bits .or .u32 (IntKind.u32.wrap ((IntKind.u32.wrap (p15)) * 16777216)) (IntKind.u32.wrap (p20.at 0)))) else some (.inl (IntKind.i64.wrap (p15+1))))
noncomputable def Zgv (a0:(Arr 4)):Int→Option ((Int) ⊕ (Int))
 | p15=>(if p15≤3 then(ZeN a0 (IntKind.i64.wrap (8 * (IntKind.i64.wrap (3-p15))))).bind fun y22=>(ZaU y22 (IntKind.i64.wrap (8 * (IntKind.i64.wrap (3-p15))))).bind fun y23=>(Xn y23 a0).bind fun y24=>(if ¬ (y24=0) then some (.inl (IntKind.i64.wrap (p15+1))) else Za4 p15 y22) else(ZaU a0 (IntKind.i64.wrap (8 * (IntKind.i64.wrap (p15-3))))).bind fun y25=>Za4 p15 y25)
noncomputable def ZcO (a0:(Arr 4)):Option (Int) :=
 (ZbC a0).bind fun y1=>(if y1=true then some (0) else Ze (Zgv a0) 1)
noncomputable def Zdd (p13:(Arr 4)):Option (Int×Int) :=
 (ZcO p13).bind fun y14=>some ((y14,0))
noncomputable def Zde (p10:(Arr 4)):Option (Int×Int) :=
 (ZbC p10).bind fun y11=>(if y11=true then(X7 1).bind fun y15=>Zdd y15 else Zdd p10)
noncomputable def Zdf (a0:Tapi_Params) (y2:((Arr 4)×Int)) (p3:Int):Option (Int×Int) :=
 (X7 (if IntKind.u64.wrap (4 * (IntKind.u64.wrap ((IntKind.u64.wrap (a0.2.2.1)) * (IntKind.u64.wrap (a0.2.2.2.1)))))<(if p3<IntKind.u64.wrap ((IntKind.u64.wrap ((IntKind.u64.wrap (a0.2.2.1)) * (IntKind.u64.wrap (a0.2.2.2.1)))).tdiv 4) then IntKind.u64.wrap ((IntKind.u64.wrap ((IntKind.u64.wrap (a0.2.2.1)) * (IntKind.u64.wrap (a0.2.2.2.1)))).tdiv 4) else p3) then IntKind.u64.wrap (4 * (IntKind.u64.wrap ((IntKind.u64.wrap (a0.2.2.1)) * (IntKind.u64.wrap (a0.2.2.2.1))))) else(if p3<IntKind.u64.wrap ((IntKind.u64.wrap ((IntKind.u64.wrap (a0.2.2.1)) * (IntKind.u64.wrap (a0.2.2.2.1)))).tdiv 4) then IntKind.u64.wrap ((IntKind.u64.wrap ((IntKind.u64.wrap (a0.2.2.1)) * (IntKind.u64.wrap (a0.2.2.2.1)))).tdiv 4) else p3))).bind fun y4=>(Zgi y2.1 y4).bind fun y5=>(X7 (IntKind.u64.wrap ((IntKind.u64.wrap (a0.2.2.1)) * (IntKind.u64.wrap (a0.2.2.2.1))))).bind fun y6=>(Zgj y5.1 y5.2 y6).bind fun y7=>((if ¬ (y7.2.2=true) then some (false) else(Xn y7.1 a0.2.1).bind fun y8=>some (decide (0<y8)))).bind fun z9=>(if (¬ (y7.2.2=true)∨z9=true) then Zde a0.2.1 else Zde y7.1)
noncomputable def ZdA (a0:Tapi_Params) (a1:Int) (a2:Int) (a3:Int):Option (Int×Int) :=
 (Xq a0).bind fun y1=>(if ¬ (y1=true) then some ((0,6)) else(Zbc a1).bind fun y2=>(if ¬ (y2.2=0) then some ((0,y2.2)) else(if a2<a3 then Zdf a0 y2 (IntKind.u64.wrap (IntKind.u32.wrap (a3-a2))) else Zdf a0 y2 0)))
noncomputable def Zdg (a0:Tapi_Params) (a1:Tapi_Context):Option (Int×Int) :=
 (Xq a0).bind fun y1=>(if ((((¬ (y1=true)∨a1.1<0)∨16777216<a1.1)∨(a1.2.2.2.2.length:Int)=0)∨11<(a1.2.2.2.2.length:Int)) then some ((0,6)) else(chk (a0.2.2.1≠0)).bind fun _=>(if ¬ ((IntKind.i64.wrap (a1.1+1)).tmod a0.2.2.1=0) then some ((a1.2.2.1,0)) else(idx (a1.2.2.2.2) (IntKind.i64.wrap ((a1.2.2.2.2.length:Int)-1))).bind fun x3=>(ZdA a0 a1.2.2.1 a1.2.2.2.1 x3).bind fun y4=>some ((y4.1,y4.2))))
noncomputable def ZkJ (a0:Tapi_Params) (a1:Tapi_Context) (a2:(Arr 32)) (y2:(Int)) (a3:Int) (y1:(Int×Int)) (p8:Int):Option Tapi_Header :=
 some ((a0.2.2.2.2.2.1,a1.2.1,a2,IntKind.u32.wrap ((IntKind.u32.wrap (y2+1))+a3),y1.1,p8))
noncomputable def Zik (a0:Tapi_Params) (a1:Tapi_Context) (a2:(Arr 32)) (y2:(Int)) (a3:Int) (y1:(Int×Int)):Int→Option ((Int) ⊕ (Tapi_Header))
 | p8=>(if p8<20000 then(Zai (a0.2.2.2.2.2.1,a1.2.1,a2,IntKind.u32.wrap ((IntKind.u32.wrap (y2+1))+a3),y1.1,p8)).bind fun y11=>(Zc7 y11 y1.1).bind fun y12=>(if y12=true then some (.inr ((a0.2.2.2.2.2.1,a1.2.1,a2,IntKind.u32.wrap ((IntKind.u32.wrap (y2+1))+a3),y1.1,p8))) else some (.inl (IntKind.u32.wrap (p8+1)))) else(ZkJ a0 a1 a2 y2 a3 y1 p8).map Sum.inr)
noncomputable def Zfx (a0:Tapi_Params) (a1:Tapi_Context) (a2:(Arr 32)) (a3:Int):Option (Tapi_Header) :=
 (Zdg a0 a1).bind fun y1=>(Zcg a1.2.2.2.2).bind fun y2=>Ze (Zik a0 a1 a2 y2 a3 y1) 0
noncomputable def Zeo (a0:Tapi_Params) (a1:Tapi_Ledger) (a2:Tapi_Context) (a3:Int):Option (Tapi_Block) :=
 (YJ a0 a1 a3).bind fun y1=>(Zbt a0 (IntKind.i64.wrap (a1.1+1))).bind fun y2=>(ZaP (IntKind.u8.wrap ((a3).tdiv 8))).bind fun y3=>(Zeg (IntKind.i64.wrap (a1.1+1)) (IntKind.i64.wrap (y2+y1.2)) y3).bind fun y4=>(chk (1+y1.1.length≤2199023255552)).bind fun _=>(ZdV ([(y4.1,y4.2.1,y4.2.2.1,y4.2.2.2)]++y1.1)).bind fun y6=>(Ze8 a3).bind fun y7=>(Zfx a0 a2 y6 y7).bind fun y8=>some ((y8,[(y4.1,y4.2.1,y4.2.2.1,y4.2.2.2)]++y1.1))
noncomputable def Zan (a0:ByteArray) (a1:(List Int)):Option ((Arr 32)) :=
 (chk (a0.size≤140737488355328)).bind fun _=>(Xa (ZjZ a0)).bind fun y2=>(chk (y2.l.length≤140737488355328)).bind fun _=>(chk (y2.l.length+y2.l.length≤140737488355328)).bind fun _=>(chk (y2.l.length+y2.l.length+a1.length≤140737488355328)).bind fun _=>(Xa (y2.l++y2.l++a1)).bind fun y6=>some (y6)
noncomputable def Zcn (a0:Tapi_Tx) (p14:(List Int)) (p15:(List Int)) (p29:(List Int)) (a1:Int) (a2:Tapi_Output):Option ((Arr 32)×Int) :=
 (ZY ([]:(List Int)) a0.1).bind fun y33=>(Xa p14).bind fun y34=>(Yw y33 y34).bind fun y35=>(Xa p15).bind fun y36=>(Yw y35 y36).bind fun y37=>(Xa p29).bind fun y38=>(Yw y37 y38).bind fun y39=>(ZY y39 a0.2.2.2).bind fun y40=>(ZY y40 (IntKind.u32.wrap (a1))).bind fun y41=>(ZdH a2).bind fun y42=>(chk (y41.length+y42.length≤140737488355328)).bind fun _=>(Zan (⟨#[108,105,103,104,116,99,108,105,101,110,116,47,115,112,101,110,100]⟩:ByteArray) (y41++y42)).bind fun y44=>some ((y44,0))
noncomputable def Zgw (a0:Tapi_Tx) (p14:(List Int)) (p15:(List Int)) (a1:Int) (a2:Tapi_Output):(Int×(List Int))→Option ((Int×(List Int)) ⊕ ((Arr 32)×Int))
 | (p28,p29)=>(if p28<(a0.2.2.1.length:Int) then(idx (a0.2.2.1) (p28)).bind fun x45=>(ZdH x45).bind fun y46=>(chk (p29.length+y46.length≤140737488355328)).bind fun _=>some (.inl (IntKind.i64.wrap (p28+1),p29++y46)) else(Zcn a0 p14 p15 p29 a1 a2).map Sum.inr)
noncomputable def Zco (a0:Tapi_Tx) (p14:(List Int)) (p15:(List Int)) (a1:Int) (a2:Tapi_Output):Option ((Arr 32)×Int) :=
 Ze (Zgw a0 p14 p15 a1 a2) (0,[])
noncomputable def Zgx (a0:Tapi_Tx) (a1:Int) (a2:Tapi_Output):(Int×(List Int)×(List Int))→Option ((Int×(List Int)×(List Int)) ⊕ ((Arr 32)×Int))
 | (p13,p14,p15)=>(if p13<(a0.2.1.length:Int) then(idx (a0.2.1) (p13)).bind fun x48=>(ZcW x48.1).bind fun y49=>(chk (p14.length+y49.length≤140737488355328)).bind fun _=>(ZY p15 x48.2.1).bind fun y51=>some (.inl (IntKind.i64.wrap (p13+1),p14++y49,y51)) else(Zco a0 p14 p15 a1 a2).map Sum.inr)
noncomputable def ZcP (a0:Tapi_Tx) (a1:Int) (a2:Tapi_Output):Option ((Arr 32)×Int) :=
 (Zag a0).bind fun y1=>(if ((¬ (y1=true)∨a2.1<0)∨520<(a2.2.length:Int)) then some ((zA 32,4)) else(if (a1<0∨(a0.2.1.length:Int)≤a1) then some ((zA 32,5)) else Ze (Zgx a0 a1 a2) (0,[],([]:(List Int)))))
open Classical in
noncomputable def ZaD (a0:(List Int)) (a1:(List (List Int))) (a2:Tapi_Env):Option (Int) :=
 if ∃ j k,(1≤j∧j≤6)∧(1≤k∧k≤6)∧a0=[1,1,j,5]∧a1=[[k]] then some (if a1=[[a0.getD 2 0]] then 0 else 84) else none
noncomputable def Zep (a0:Tapi_Tx) (a1:Int) (a2:Tapi_Coin) (a3:Int):Option (Int) :=
 (ZcP a0 a1 a2.2.1).bind fun y1=>(if ¬ (y1.2=0) then some (y1.2) else(idx (a0.2.1) (a1)).bind fun x2=>(if ¬ ((x2.1.1=a2.1.1∧x2.1.2=a2.1.2)) then some (101) else(if ((16777216<a3∨a2.2.2.1<0)∨a3<a2.2.2.1) then some (102) else(ZaD a2.2.1.2 x2.2.2 (y1.1,a3,IntKind.i64.wrap (a3-a2.2.2.1))).bind fun y3=>some (y3))))
noncomputable def ZhU (y2:(Int×Int)):Option (Int×Int) :=
 some ((y2.1,0))
noncomputable def ZfO (a1:(List Tapi_Coin)) (a0:Tapi_Tx) (a2:Int) (y2:(Int×Int)):Int→Option ((Int) ⊕ (Int×Int))
 | p9=>(if p9<(a1.length:Int) then(idx (a1) (p9)).bind fun x12=>(Zep a0 p9 x12 a2).bind fun y13=>(if ¬ (y13=0) then some (.inr ((0,y13))) else some (.inl (IntKind.i64.wrap (p9+1)))) else(ZhU y2).map Sum.inr)
noncomputable def Zeq (a0:Tapi_Tx) (a1:(List Tapi_Coin)) (a2:Int):Option (Int×Int) :=
 (X5 a0).bind fun y1=>(if y1=true then some ((0,92)) else(Zf9 a0 a1).bind fun y2=>(if ¬ (y2.2=0) then some ((0,y2.2)) else(Zaj a0 a2).bind fun y3=>(if ¬ (y3=true) then some ((0,85)) else Ze (ZfO a1 a0 a2 y2) 0)))
noncomputable def ZfW (a2:Tapi_Block) (a1:Tapi_Ledger) (p50:Int) (p52:(List Tapi_Coin)) (y2:((Arr 32))) (p53:(List Tapi_Coin)):Option (Tapi_Ledger×(List Tapi_Coin)×Int) :=
 ((a2.2)[0]?).bind fun x75=>(ZaC x75 (IntKind.i64.wrap (a1.1+1))).bind fun y76=>(Zdc y76).bind fun y77=>(if p50<y77 then some (((0,zA 32,([]:(List Tapi_Coin))),([]:(List Tapi_Coin)),231)) else(Zdc p52).bind fun y78=>(if 2100000000000000<y78 then some (((0,zA 32,([]:(List Tapi_Coin))),([]:(List Tapi_Coin)),90)) else(if 100000<(p52.length:Int) then some (((0,zA 32,([]:(List Tapi_Coin))),([]:(List Tapi_Coin)),4)) else some (((IntKind.i64.wrap (a1.1+1),y2,p52),p53,0)))))
noncomputable def XS (x79:Tapi_Tx) (a1:Tapi_Ledger) (p51:Int) (p96:Int) (p97:(List Tapi_Coin)) (p98:(List Tapi_Coin)):Option ((Int×Int×(List Tapi_Coin)×(List Tapi_Coin)) ⊕ (Tapi_Ledger×(List Tapi_Coin)×Int)) :=
 (Zgh p97 x79 (IntKind.i64.wrap (a1.1+1))).bind fun y99=>(if ¬ (y99.2=0) then some (.inr (((0,zA 32,([]:(List Tapi_Coin))),([]:(List Tapi_Coin)),y99.2))) else some (.inl (p96,IntKind.i64.wrap (p51+1),y99.1,p98)))
noncomputable def ZfX (p53:(List Tapi_Coin)) (y100:((List Tapi_Coin)×Int)) (x79:Tapi_Tx) (a1:Tapi_Ledger) (p51:Int) (p50:Int) (y101:(Int×Int)) (p111:(List Tapi_Coin)):Option ((Int×Int×(List Tapi_Coin)×(List Tapi_Coin)) ⊕ (Tapi_Ledger×(List Tapi_Coin)×Int)) :=
 (chk (p53.length+y100.1.length≤1599289640401)).bind fun _=>XS x79 a1 p51 (IntKind.i64.wrap (p50+y101.1)) p111 (p53++y100.1)
noncomputable def ZfY (y100:((List Tapi_Coin)×Int)) (p53:(List Tapi_Coin)) (x79:Tapi_Tx) (a1:Tapi_Ledger) (p51:Int) (p50:Int) (y101:(Int×Int)):(Int×(List Tapi_Coin))→Option ((Int×(List Tapi_Coin)) ⊕ ((Int×Int×(List Tapi_Coin)×(List Tapi_Coin)) ⊕ (Tapi_Ledger×(List Tapi_Coin)×Int)))
 | (p110,p111)=>(if p110<(y100.1.length:Int) then(idx (y100.1) (p110)).bind fun x116=>(Zcz p111 x116.1).bind fun y117=>(ZcL p111 y117).bind fun y118=>some (.inl (IntKind.i64.wrap (p110+1),y118)) else(ZfX p53 y100 x79 a1 p51 p50 y101 p111).map Sum.inr)
noncomputable def ZfZ (a2:Tapi_Block) (a0:Tapi_Params) (a1:Tapi_Ledger) (y2:((Arr 32))):(Int×Int×(List Tapi_Coin)×(List Tapi_Coin))→Option ((Int×Int×(List Tapi_Coin)×(List Tapi_Coin)) ⊕ (Tapi_Ledger×(List Tapi_Coin)×Int))
 | (p50,p51,p52,p53)=>(if p51<(a2.2.length:Int) then(idx (a2.2) (p51)).bind fun x79=>(if 0<p51 then(Zej a0 p52 x79 (IntKind.i64.wrap (a1.1+1))).bind fun y100=>(if ¬ (y100.2=0) then some (.inr (((0,zA 32,([]:(List Tapi_Coin))),([]:(List Tapi_Coin)),y100.2))) else(Zeq x79 y100.1 (IntKind.i64.wrap (a1.1+1))).bind fun y101=>(if ¬ (y101.2=0) then some (.inr (((0,zA 32,([]:(List Tapi_Coin))),([]:(List Tapi_Coin)),y101.2))) else Ze (ZfY y100 p53 x79 a1 p51 p50 y101) (0,p52))) else XS x79 a1 p51 p50 p52 p53) else(ZfW a2 a1 p50 p52 y2 p53).map Sum.inr)
noncomputable def Zb9 (a0:Tapi_Params) (a1:Tapi_Ledger) (a2:Tapi_Block):Option (Tapi_Ledger×(List Tapi_Coin)×Int) :=
 (Zei a0 a1 a2).bind fun y1=>(if ¬ (y1=0) then some (((0,zA 32,([]:(List Tapi_Coin))),([]:(List Tapi_Coin)),y1)) else(Zai a2.1).bind fun y2=>(Zbt a0 (IntKind.i64.wrap (a1.1+1))).bind fun y3=>Ze (ZfZ a2 a0 a1 y2) (y3,0,a1.2.2,[]))
noncomputable def Lref14_Checkw_k1:Option Int :=
 some (0)
noncomputable def Zhj (a0:Tapi_Params) (y1:(Tapi_Context×Int)):Int→Option ((Int) ⊕ (Int))
 | p8=>(if p8<(a0.2.2.2.2.2.2.1.length:Int) then(idx (a0.2.2.2.2.2.2.1) (p8)).bind fun x10=>(if (x10.1=y1.1.1∧¬ (x10.2=y1.1.2.1)) then some (.inr (143)) else some (.inl (IntKind.i64.wrap (p8+1)))) else(Lref14_Checkw_k1).map Sum.inr)
noncomputable def Zch (a0:Tapi_Params) (a1:Tapi_Context) (a2:Tapi_Header) (a3:Int):Option (Int) :=
 (Zbv a0 a1 a2).bind fun y1=>(if ¬ (y1.2=0) then some (y1.2) else(if ¬ (a2.2.1=a1.2.1) then some (144) else(if a2.1<a0.2.2.2.2.2.1 then some (142) else(Zdg a0 a1).bind fun y2=>(if ¬ (y2.2=0) then some (y2.2) else(if ¬ (a2.2.2.2.2.1=y2.1) then some (130) else(Zc7 y1.1.2.1 a2.2.2.2.2.1).bind fun y3=>(if ¬ (y3=true) then some (121) else(Zcg a1.2.2.2.2).bind fun y4=>(if a2.2.2.2.1≤y4 then some (140) else(if IntKind.u64.wrap ((IntKind.u64.wrap (a3))+(IntKind.u64.wrap (a0.2.2.2.2.1)))<IntKind.u64.wrap (a2.2.2.2.1) then some (141) else Ze (Zhj a0 y1) 0))))))))
noncomputable def Zil (a0:Tlightclientmade_World) (p39:(List Tapi_Block)) (p40:(List Tapi_Ledger)) (p41:(List Tapi_Context)) (p42:(List (List Tapi_Coin))):Option Tlightclientmade_World :=
 some ((a0.1,p39,p40,p41,p42))
noncomputable def Zim (a1:(List Int)) (a0:Tlightclientmade_World):(Int×(List Tapi_Block)×(List Tapi_Ledger)×(List Tapi_Context)×(List (List Tapi_Coin)))→Option ((Int×(List Tapi_Block)×(List Tapi_Ledger)×(List Tapi_Context)×(List (List Tapi_Coin))) ⊕ (Tlightclientmade_World))
 | (p38,p39,p40,p41,p42)=>(if p38<(a1.length:Int) then(idx (a1) (p38)).bind fun x57=>(inA (p40.length) (IntKind.i64.wrap ((p40.length:Int)-1))).bind fun j58=>((p40)[j58]?).bind fun x59=>(inA (p41.length) (IntKind.i64.wrap ((p41.length:Int)-1))).bind fun j60=>((p41)[j60]?).bind fun x61=>(Zeo a0.1 x59 x61 x57).bind fun y62=>(Zb9 a0.1 x59 (y62.1,y62.2)).bind fun y63=>((if ¬ (y63.2.2=0) then some (false) else(Zch a0.1 x61 y62.1 1073741824).bind fun y64=>some (!(decide (y64=0))))).bind fun z65=>(if (¬ (y63.2.2=0)∨z65=true) then some (.inl (IntKind.i64.wrap (p38+1),p39,p40,p41,p42)) else(Zbv a0.1 x61 y62.1).bind fun y66=>(chk (p39.length+1≤1353245080339)).bind fun _=>(chk (p40.length+1≤2199023255552)).bind fun _=>(chk (p41.length+1≤1954687338268)).bind fun _=>(chk (p42.length+1≤5864062014805)).bind fun _=>some (.inl (IntKind.i64.wrap (p38+1),p39++[(y62.1,y62.2)],p40++[y63.1],p41++[y66.1],p42++[y63.2.1]))) else(Zil a0 p39 p40 p41 p42).map Sum.inr)
noncomputable def Zfy (a0:Tlightclientmade_World) (a1:(List Int)):Option (Tlightclientmade_World) :=
 (chk (a0.2.1.length≤1353245080339)).bind fun _=>(chk (a0.2.2.2.2.length≤5864062014805)).bind fun _=>(chk (a0.2.2.1.length≤2199023255552)).bind fun _=>(chk (a0.2.2.2.1.length≤1954687338268)).bind fun _=>Ze (Zim a1 a0) (0,a0.2.1,a0.2.2.1,a0.2.2.2.1,a0.2.2.2.2)
noncomputable def Zer (a0:Int) (a1:(List Int)):Option (Tlightclientmade_World) :=
 (Zfv a0).bind fun y1=>(Zfy (y1.1,y1.2.1,y1.2.2.1,y1.2.2.2.1,y1.2.2.2.2) a1).bind fun y2=>some ((y2.1,y2.2.1,y2.2.2.1,y2.2.2.2.1,y2.2.2.2.2))
noncomputable def Zgk (a0:(List Int)) (a1:Int):Option ((List Int)) :=
 (chk ((if a1<(a0.length:Int) then a1 else(a0.length:Int))≤(a0.length:Int)∧0≤(if a1<(a0.length:Int) then a1 else(a0.length:Int)))).bind fun _=>some ((a0).take (((if a1<(a0.length:Int) then a1 else(a0.length:Int))).toNat))
end
section
set_option maxRecDepth 100000
noncomputable def ZfP (p21:(List (Arr 32))) (p22:(List (Arr 32))) (p23:(List Tapi_Filter)):Option (Tapi_FilterChain×(List Tapi_Filter)×Bool) :=
 (Z2 (([]:(List (Arr 32))),([]:(List (Arr 32)))) p21 p22).bind fun y32=>some ((y32.1,p23,decide (y32.2=0)))
noncomputable def ZhV (y2:(Tlightclientmade_World)):(Int×(List (Arr 32))×(List (Arr 32))×(List Tapi_Filter))→Option ((Int×(List (Arr 32))×(List (Arr 32))×(List Tapi_Filter)) ⊕ (Tapi_FilterChain×(List Tapi_Filter)×Bool))
 | (p20,p21,p22,p23)=>(if p20<(y2.2.1.length:Int) then(inA (y2.2.1.length) (p20)).bind fun j33=>((y2.2.1)[j33]?).bind fun x34=>(ZdW x34).bind fun y35=>(if ¬ (y35.2=0) then some (.inr (((([]:(List (Arr 32))),([]:(List (Arr 32)))),([]:(List Tapi_Filter)),false))) else(Zai x34.1).bind fun y36=>(chk (p21.length+1≤4398046511104)).bind fun _=>(Zc5 y35.1).bind fun y38=>(chk (p22.length+1≤4398046511104)).bind fun _=>(chk (p23.length+1≤4398046511104)).bind fun _=>some (.inl (IntKind.i64.wrap (p20+1),p21++[y36],p22++[y38],p23++[y35.1]))) else(ZfP p21 p22 p23).map Sum.inr)
noncomputable def Zes (a0:Int) (a1:(List Int)):Option (Tapi_FilterChain×(List Tapi_Filter)×Bool) :=
 (Zgk a1 8).bind fun y1=>(Zer a0 y1).bind fun y2=>Ze (ZhV y2) (0,[],[],[])
noncomputable def ZhW (a0:(List (Arr 32))) (a1:(List (Arr 32))):Option (Bool) :=
 some ((decide ((a0.length:Int)≤40) && decide ((a1.length:Int)≤40)))
noncomputable def Y7 (a0:Tapi_FilterChain) (a1:Int):Option (Tapi_FilterChain×Int) :=
 (Yz a0).bind fun y1=>(if ¬ (y1=true) then some (((([]:(List (Arr 32))),([]:(List (Arr 32)))),6)) else(if (a1<0∨(a0.2.length:Int)<a1) then some (((([]:(List (Arr 32))),([]:(List (Arr 32)))),5)) else(chk (a1≤(a0.1.length:Int)∧0≤a1)).bind fun _=>(Yx [(a0.1).take ((a1).toNat)]).bind fun y3=>(chk (a1≤(a0.2.length:Int)∧0≤a1)).bind fun _=>(Yx [(a0.2).take ((a1).toNat)]).bind fun y5=>some (((y3,y5),0))))
noncomputable def Lref07_SameHashes_k1:Option Bool :=
 some (true)
noncomputable def ZaW (a0:(List (Arr 32))) (a1:(List (Arr 32))):Int→Option ((Int) ⊕ (Bool))
 | p6=>(if p6<(a0.length:Int) then(idx (a0) (p6)).bind fun x9=>(idx (a1) (p6)).bind fun x10=>(if ¬ (x9=x10) then some (.inr (false)) else some (.inl (IntKind.i64.wrap (p6+1)))) else(Lref07_SameHashes_k1).map Sum.inr)
noncomputable def X0 (a0:(List (Arr 32))) (a1:(List (Arr 32))):Option (Bool) :=
 (if ¬ ((a0.length:Int)=(a1.length:Int)) then some (false) else Ze (ZaW a0 a1) 0)
noncomputable def ZdZ (a0:Tapi_FilterChain) (a1:Tapi_FilterChain):Option (Bool) :=
 (X0 a0.1 a1.1).bind fun y1=>((if y1=true then(X0 a0.2 a1.2).bind fun y2=>some (y2) else some (false))).bind fun z3=>some ((y1 && z3))
noncomputable def Y8 (a0:Tapi_FilterChain) (a1:(List (Arr 32))):Option (Int) :=
 (Yz a0).bind fun y1=>(if ¬ (y1=true) then some (0) else(ZS a0.1 a1).bind fun y2=>(if 0≤y2 then some (y2) else some ((a1.length:Int))))
noncomputable def Zac (a0:Tapi_FilterChain) (a1:(List (Arr 32))) (a2:(List (Arr 32))):Option (Tapi_FilterChain×Int) :=
 (Y8 a0 a1).bind fun y1=>(Y7 a0 y1).bind fun y2=>(if ¬ (y2.2=0) then some (((([]:(List (Arr 32))),([]:(List (Arr 32)))),y2.2)) else(chk (0≤y1∧y1≤(a1.length:Int))).bind fun _=>(Z2 y2.1 ((a1).drop ((y1).toNat)) a2).bind fun y4=>some ((y4.1,y4.2)))
noncomputable def Xl (y11:(Tapi_FilterChain×Int)) (y2:(Tapi_FilterChain×(List Tapi_Filter)×Bool)) (p20:(List (Arr 32))) (y10:(Tapi_FilterChain×Int)) (a4:Int):Option Bool :=
 (Y8 y11.1 y2.1.1).bind fun y24=>(chk (0≤y24∧y24≤(p20.length:Int))).bind fun _=>(Zac y11.1 y2.1.1 (((p20).drop (y24).toNat).take (p20.length-(y24).toNat))).bind fun y26=>((if (((y10.2=0∧y11.2=0)∧y26.2=0)∧(y26.1.2.length:Int)=(y2.1.2.length:Int)) then((if (IntKind.i64.wrap (a4)).tmod (IntKind.i64.wrap ((y2.1.1.length:Int)+1))<y24 then some (false) else(ZdZ y26.1 y2.1).bind fun y27=>some (y27))).bind fun z28=>some ((decide ((IntKind.i64.wrap (a4)).tmod (IntKind.i64.wrap ((y2.1.1.length:Int)+1))<y24) || z28)) else some (false))).bind fun z29=>some (((((decide (y10.2=0) && decide (y11.2=0)) && decide (y26.2=0)) && decide ((y26.1.2.length:Int)=(y2.1.2.length:Int))) && z29))
noncomputable def YM (y2:(Tapi_FilterChain×(List Tapi_Filter)×Bool)) (y11:(Tapi_FilterChain×Int)) (y10:(Tapi_FilterChain×Int)) (a4:Int):(Int×(List (Arr 32)))→Option ((Int×(List (Arr 32))) ⊕ (Bool))
 | (p19,p20)=>(if p19<(y2.2.1.length:Int) then(idx (y2.2.1) (p19)).bind fun x30=>(Zc5 x30).bind fun y31=>(chk (p20.length+1≤4398046511104)).bind fun _=>some (.inl (IntKind.i64.wrap (p19+1),p20++[y31])) else(Xl y11 y2 p20 y10 a4).map Sum.inr)
noncomputable def YE (a0:Int) (a1:(List Int)) (a2:(List (Arr 32))) (a3:(List (Arr 32))) (a4:Int):Option (Bool) :=
 (Llaw21_sane).bind fun y1=>(if ¬ (y1=true) then some (false) else(Zes a0 a1).bind fun y2=>((if ¬ (y2.2.2=true) then some (false) else(ZhW a2 a3).bind fun y3=>some (!(y3)))).bind fun z4=>(if ((¬ (y2.2.2=true)∨z4=true)∨¬ ((a2.length:Int)=(a3.length:Int))) then some (y2.2.2) else(Z2 y2.1 a2 a3).bind fun y5=>(Y7 y5.1 (y2.1.1.length:Int)).bind fun y6=>((if (¬ (y5.2=0)∨¬ (y6.2=0)) then some (false) else(ZdZ y6.1 y2.1).bind fun y7=>some (!(y7)))).bind fun z8=>(if ((¬ (y5.2=0)∨¬ (y6.2=0))∨z8=true) then some (false) else(chk (IntKind.i64.wrap ((y2.1.1.length:Int)+1)≠0)).bind fun _=>(Y7 y2.1 ((IntKind.i64.wrap (a4)).tmod (IntKind.i64.wrap ((y2.1.1.length:Int)+1)))).bind fun y10=>(Z2 y10.1 a2 a3).bind fun y11=>Ze (YM y2 y11 y10 a4) (0,[]))))
end
end Go.Lc
namespace Go.Av
open Go.RowKit
open Go.Av
set_option linter.unusedVariables false
set_option linter.unusedSimpArgs false
theorem bA {β:Type}{n:Nat}{i:Int}{f:Nat→Option β}{y:β}(h:(inA n i).bind f=some y):∃ j,(0≤i∧i.toNat=j∧j<n)∧f j=some y :=
 let ⟨j,h1,h2⟩:=bs h
 ⟨j,YQ h1,h2⟩
theorem bI {α β:Type}{l:List α}{i:Int}{f:α→Option β}{y:β}(h:(idx l i).bind f=some y):∃ x,(0≤i∧l[i.toNat]? = some x∧∀ h':i.toNat<l.length,l[i.toNat]=x)∧f x=some y :=
 let ⟨x,h1,h2⟩:=bs h
 ⟨x,⟨(Zcb h1).1,(Zcb h1).2,YL (Zcb h1).2⟩,h2⟩
theorem bC {β:Type}{p:Prop}[Decidable p]{f:Unit→Option β}{y:β}(h:(chk p).bind f=some y):p∧f ()=some y :=
 let ⟨_,h1,h2⟩:=bs h
 ⟨ZK h1,h2⟩
theorem bG {α β:Type}{o:Option α}{f:α→Option β}{y:β}{P:α→Prop}(h:o.bind f=some y) (k:∀ x,o=some x→P x):∃ x,P x∧f x=some y :=
 let ⟨x,h1,h2⟩:=bs h
 ⟨x,k x h1,h2⟩
theorem eqT (p:Prop):(p=True)∨¬ p:=(Classical.em p).imp eq_true id
theorem ifP {α:Type}{c:Prop}[Decidable c]{a b r:α}(h:(if c then a else b)=r) (hc:c:=by simp[-Int.ofNat_toNat, *]):a=r:=by rwa[if_pos hc] at h
theorem Zlg {α β:Type}{c:Prop}[Decidable c]{a b:Option α}{f:α→Option β}{r:Option β}(h:(if c then a else b).bind f=r) (hc:c:=by simp[-Int.ofNat_toNat, *]):a.bind f=r:=by rwa[if_pos hc] at h
theorem Zlh {α β:Type}{c:Prop}[Decidable c]{a b:Option α}{f:α→Option β}{r:Option β}(h:(if c then a else b).bind f=r) (hc:¬ c:=by simp[-Int.ofNat_toNat, *]):b.bind f=r:=by rwa[if_neg hc] at h
theorem ifN {α:Type}{c:Prop}[Decidable c]{a b r:α}(h:(if c then a else b)=r) (hc:¬ c:=by simp[-Int.ofNat_toNat, *]):b=r:=by rwa[if_neg hc] at h
attribute [simp] YK Y3 ZcC
structure Con (α β:Type) where
 E:α→List PV
 R:α→β→PV×List (List Cell)
 g:α→Option β
section
variable {α β:Type}{K:Con α β}
noncomputable def Con.G (K:Con α β):List PV→Option (PV×List (List Cell)):=Zae K.E fun x=>(K.g x).map (K.R x)
def Con.Inj (K:Con α β):Prop:=∀ a b,K.E a=K.E b→a=b
theorem Con.Inj.eq (hi:K.Inj){x:α}{y:β}(h:K.g x=some y):K.G (K.E x)=some (K.R x y):=YY hi h
theorem Con.none {ps:List PV}(h:∀ a,K.E a=ps→False):K.G ps=none:=ZsL h
def Zh (T:Tab):List (Nat×(List PV→Option (PV×List (List Cell))))→Prop
 | []=>True
 | (g,F) :: l=>T g=some F∧Zh T l
theorem ZrN {l m:List (Nat×(List PV→Option (PV×List (List Cell))))}{own:Nat→List (List Nat)}(h:∀ p∈m,(tab l own).fn p.1=some p.2):Zh (tab l own) m:=by
 induction m with
 | nil=>trivial
 | cons p m ih=>exact⟨h p (by simp),ih fun q hq=>h q (by simp[hq])⟩
def Walk (tt:TT) (G:Glob) (l:List (Nat×(List PV→Option (PV×List (List Cell))))) (own:Nat→List (List Nat)) (fn:Func) (K:Con α β):Prop :=
 ∀ T:Tab,T.own=own→Zh T l→∀ x y,K.g x=some y→∃ kp fl n,ZZ tt T G kp fl n fn (K.E x)=some (K.R x y)
def kpL:List (Nat×Kp)→Keep
 | [],_=>⟨[],[],[]⟩
 | (j,q) :: l,i=>if i=j then q else kpL l i
theorem Walk.of {tt:TT}{G:Glob}{l:List (Nat×(List PV→Option (PV×List (List Cell))))}{own:Nat→List (List Nat)}{fn:Func}{c:Code}{n:Nat}(kl:List (Nat×Kp)) (w:Bool) (hb:fn.body=some c) (hn:fn.ntmps=n)
  (h:∀ T:Tab,T.own=own→Zh T l→∀ x y,K.g x=some y→Zkh (K.E x)=true∧ZA tt T G (kpL kl) c ⟨(ioIn 0 0 (K.E x)).1++List.replicate (n-(K.E x).length) .skip,ZjN (K.E x)⟩ (YW tt w fn (K.E x) (K.R x y))):Walk tt G l own fn K :=
 fun T h1 h2 x y h3=>fnE (kp:=kpL kl) (w:=w) hb (h T h1 h2 x y h3).1 (by rw[hn]; exact(h T h1 h2 x y h3).2)
def distinctF:List (Nat×(List PV→Option (PV×List (List Cell))))→Bool
 | []=>true
 | (g,_) :: l=>l.all (fun q=>!(q.1 == g)) && distinctF l
theorem Znt {own:Nat→List (List Nat)}:∀ {l:List (Nat×(List PV→Option (PV×List (List Cell))))},distinctF l=true→∀ p∈l,tabF l p.1=some p.2
 | [],_,p,hp=>by simp at hp
 | (g,F) :: l,h,p,hp=>by
  simp only[distinctF,Bool.and_eq_true,List.all_eq_true] at h;simp only[tabF];rcases List.mem_cons.1 hp with rfl | hp
  ·simp
  ·have:=h.1 p hp
   rw[if_neg (by simpa using this)];exact Znt (own:=own) h.2 p hp
theorem mkW {P:Program}{tt:TT}{G:Glob}{l:List (Nat×(List PV→Option (PV×List (List Cell))))}{own:Nat→List (List Nat)}(hm:P.follows .mixedOrders=true) (htt:∀ t i,tt t=some i→ZW P t=some i)
  {f:FuncId}{fn:Func}{c:Code}(w:Walk tt G l own fn K) (hT:ZnQ P G l) (hf:P.funcs[f]? = some fn) (hb:fn.body=some c) (hname:(!(fn.name == "runtime.NumGoroutine") && distinctF l)=true):Yb P G f K.G:=by
 simp only[Bool.and_eq_true,Bool.not_eq_true'] at hname;exact mkI (T:=tab l own) hm htt (tab_ok hT) hf hb hname.1 fun x y hy=>w _ rfl (ZrN (Znt (own:=own) hname.2)) x y hy
end
attribute [simp] kpL
section
variable {tt:TT}{T:Tab}{G:Glob}{kp:Keep}{st st0 st1:ASt}{a b c d:Code}{Q Q':AE→ASt→Prop}{P R H:Prop}
def Imp (R P:Prop):Prop:=R→P
structure ZaX (X R:Prop):Prop where
 h:X=R
theorem Imp.of (e:ZaX P R):Imp P R:=fun p=>e.h ▸ p
theorem Zcw {id:Nat}{ops:Array Oper}(hc:c = .region id ops false) (h:Zct tt T G ops.toList ops.toList st=some st1) (hq:Imp R (ZA tt T G kp b st1 Q)) (hj:(kp (id+1000000)).ks.isEmpty=true:=by rfl):Imp R (ZA tt T G kp (.seq c b) st Q):=fun r=>Zd hc h (hq r) hj
theorem ZbH {id:Nat}{ops:Array Oper}{fs:List Foot}(hc:c = .region id ops true) (h:ZcR tt T G ops.toList ops.toList st=some (st1,fs)) (hd:ZgD ops.toList fs=true) (hq:Imp R (ZA tt T G kp b st1 Q)) (hj:(kp (id+1000000)).ks.isEmpty=true:=by rfl):Imp R (ZA tt T G kp (.seq c b) st Q):=fun r=>Xf hc h hd (hq r) hj
theorem ZhX {id:Nat}{ops:Array Oper}(hc:c = .region id ops false) (h:Zct tt T G ops.toList ops.toList st=some st1) (hq:Imp R (Q .normal st1)) (hj:(kp (id+1000000)).ks.isEmpty=true:=by rfl):Imp R (ZA tt T G kp c st Q):=fun r=>XY hc h (hq r) hj
theorem Zgl {id:Nat}{ops:Array Oper}{fs:List Foot}(hc:c = .region id ops true) (h:ZcR tt T G ops.toList ops.toList st=some (st1,fs)) (hd:ZgD ops.toList fs=true) (hq:Imp R (Q .normal st1)) (hj:(kp (id+1000000)).ks.isEmpty=true:=by rfl):Imp R (ZA tt T G kp c st Q):=fun r=>ZnS hc h hd (hq r) hj
theorem ZeQ (h:Imp R (ZA tt T G kp (.seq a (.seq b d)) st Q)):Imp R (ZA tt T G kp (.seq (.seq a b) d) st Q):=fun r=>ZH (h r)
theorem Zgm (h:Imp R (Q .normal st)):Imp R (ZA tt T G kp .skip st Q):=fun r=>Zic (h r)
theorem ZhY (h:Imp R (Q .ret st)):Imp R (ZA tt T G kp .ret st Q):=fun r=>Zaf (h r)
theorem Zgn {id:Nat}(h:Imp R (Q (.exit id) st)):Imp R (ZA tt T G kp (.exit id) st Q):=fun r=>Zmm (h r)
theorem ZbI (h:Imp R (ZA tt T G kp b st Q)):Imp R (ZA tt T G kp (.seq .skip b) st Q):=fun r=>ZM (h r)
theorem Zcx (h:Imp R (Q .ret st)):Imp R (ZA tt T G kp (.seq .ret b) st Q):=fun r=>ZaO (h r)
theorem ZbJ {id:Nat}(h:Imp R (Q (.exit id) st)):Imp R (ZA tt T G kp (.seq (.exit id) b) st Q):=fun r=>Ys (h r)
theorem ZeR {id:Nat}(h:Imp R (ZA tt T G kp c st (Zjv id Q))):Imp R (ZA tt T G kp (.block id c) st Q):=fun r=>Zg9 (h r)
theorem ZaY {id:Nat}(h:Imp R (ZA tt T G kp c st (Zjv id (ZhE (fun s=>ZA tt T G kp d s Q) Q)))):Imp R (ZA tt T G kp (.seq (.block id c) d) st Q):=fun r=>ZD (h r)
theorem Zax {x:Operand}(h:rd G st.get x=some (bV true)) (h1:Imp R (ZA tt T G kp a st Q)):Imp R (ZA tt T G kp (.cond x a b) st Q):=fun r=>Zg7 h (h1 r)
theorem Zay {x:Operand}(h:rd G st.get x=some (bV false)) (h1:Imp R (ZA tt T G kp b st Q)):Imp R (ZA tt T G kp (.cond x a b) st Q):=fun r=>Zg8 h (h1 r)
theorem YF {x:Operand}(h:rd G st.get x=some (bV true)) (h1:Imp R (ZA tt T G kp (.seq a d) st Q)):Imp R (ZA tt T G kp (.seq (.cond x a b) d) st Q):=fun r=>ZC h (h1 r)
theorem YG {x:Operand}(h:rd G st.get x=some (bV false)) (h1:Imp R (ZA tt T G kp (.seq b d) st Q)):Imp R (ZA tt T G kp (.seq (.cond x a b) d) st Q):=fun r=>ZF h (h1 r)
theorem ZeS (h:Imp R P) (e:H=P):Imp R H:=fun r=>e ▸ h r
theorem go (k:R) (h:∀ X:Prop,ZaX X R→Imp X P:=by
 intro X e
 repeat (first
  | (with_reducible refine ZeQ ?_)
  | (with_reducible refine ZbI ?_)
  | (with_reducible refine ZaY ?_)
  | (with_reducible refine ZbJ ?_)
  | (with_reducible refine Zcx ?_)
  | (with_reducible refine ZeR ?_)
  | (with_reducible refine Zgm ?_)
  | (with_reducible refine Zgn ?_)
  | (with_reducible refine ZhY ?_)
  | (with_reducible refine YF ?_ ?_; · simp[-Int.ofNat_toNat,bV, *]; done)
  | (with_reducible refine YG ?_ ?_; · simp[-Int.ofNat_toNat,bV, *]; done)
  | (refine Zcw rfl (by first | (simp[-Int.ofNat_toNat, *] <;> rfl) | fail) ?_)
  | (refine ZbH rfl (by simp[-Int.ofNat_toNat, *]; first | exact⟨rfl,rfl⟩ | rfl) (by kernel_rfl) ?_)
  | (with_reducible refine Zax ?_ ?_; · simp[-Int.ofNat_toNat,bV, *]; done)
  | (with_reducible refine Zay ?_ ?_; · simp[-Int.ofNat_toNat,bV, *]; done)
  | (refine ZhX rfl (by first | (simp[-Int.ofNat_toNat, *] <;> rfl) | fail) ?_)
  | (refine Zgl rfl (by simp[-Int.ofNat_toNat, *]; first | exact⟨rfl,rfl⟩ | rfl) (by kernel_rfl) ?_)
  | (refine ZeS ?_ (by simp only[pq,reduceCtorEq]; rfl)))
 exact Imp.of e):P:=h R ⟨rfl⟩ k
theorem nrm {p q:Prop}(c:p) (h:p→q:=by
 intro h;try simp[-Int.ofNat_toNat] at h
 first | exact(eq_true h:(_=_)=True) | exact h):q:=h c
theorem nst (k:R) (h:P=R:=by simp only[und,List.replicate,List.cons_append,List.nil_append]; rfl):P:=h ▸ k
theorem fin (h:H) (k:H→P:=by
 intro h;obtain rfl:=Option.some.inj h
 repeat (simp only[pq,reduceCtorEq]; rintro rfl)
 simp[-Int.ofNat_toNat,YW, *]):P:=k h
theorem bk (h:H) (k:H→P:=by
 intro h;obtain rfl:=Option.some.inj h
 repeat (simp only[pq,reduceCtorEq]; rintro rfl)
 simp only[pq,reduceCtorEq]
 simp[-Int.ofNat_toNat,und,List.replicate,Nat.add_assoc, *]):P:=k h
theorem lp {σ ρ:Type}{step:σ→Option (σ ⊕ ρ)}(n:Nat) (H:σ→ASt){s:σ}{r:ρ}
  (hr:Ze step s=some r)
  (hb:∀ s x,step s=some x→ZA tt T G kp c (H s) (QL (kp n) H Q r x)) (hn:firstId c=n:=by kernel_rfl) (hf:ZbM (kp n) st=H s:=by simp[-Int.ofNat_toNat,und,List.replicate, *]):ZA tt T G kp (.loop c) st Q :=
 X8 (by rw[hn]) hr hf hb
theorem ua (h:ZA tt T G kp (.seq (.seq a b) d) st Q):ZA tt T G kp (.seq a (.seq b d)) st Q:=by
 obtain⟨n0,e,s,h1,h2⟩:=h;refine⟨n0,e,s,fun n hn=>?_,h2⟩;rw[← h1 n hn];simp only[Yn];cases Yn tt T G kp n a st with
 | none=>rfl
 | some x=>obtain⟨e,s⟩:=x; cases e <;> rfl
theorem jn {H:ASt}(key:Nat) (h0:ZA tt T G kp d H Q) (h:ZA tt T G kp d H Q→ZA tt T G kp c H Q:=by first | exact id | exact ua | exact fun h=>ua (ua h)) (hc:firstJ c=some key:=by rfl) (ha:(kp key).ks.isEmpty=false:=by rfl) (hf:ZbM (kp key) st=ZbM (kp key) H:=by simp[-Int.ofNat_toNat,und,List.replicate, *]):ZA tt T G kp c st Q :=
 Zhq hc rfl ha hf (h h0)
end
abbrev kk (fn:Func) (F:(Nat→Code)→Code):Code:=F (reg fn)
abbrev co (n:Nat) (a b:Code):Code:=.cond (.tmp n) a b
abbrev sk:Code:=.skip
abbrev rt:Code:=.ret
def Zkv (r:Nat→Code):Code→Code
 | .region id _ _=>r id
 | .seq a b=>.seq (Zkv r a) (Zkv r b)
 | .cond x a b=>.cond x (Zkv r a) (Zkv r b)
 | .block i c=>.block i (Zkv r c)
 | .loop c=>.loop (Zkv r c)
 | c=>c
def Znu (fn:Func):Code:=match fn.body with | some c=>c | none=>.skip
class YH {α β:Type}(f:α→β):Prop where
 h:∀ a b,f a=f b→a=b
section
variable {α β γ δ ε ζ:Type}
def eI (k:IntKind) (x:Int):PV:=.one (.v (.int k x))
def eB (x:Bool):PV:=.one (.v (.bool x))
def eT (x:ByteArray):PV:=.one (.v (.string x))
def eL (k:IntKind) (x:List Int):PV:=.one (.slice .no (Zg k x))
def eS (f:α→List Cell) (x:List α):PV:=.one (.slice .no (List.map f x))
def eA (k:IntKind){n:Nat}(x:Arr n):PV:=.agg (arC k x)
def eG (f:α→List Cell) (x:α):PV:=.agg (f x)
def oL (k:IntKind) (x:List Int):PV:=.one (.own 1 (Zg k x))
def oS (n:Nat) (f:α→List Cell) (x:List α):PV:=.one (.own n (List.map f x))
def oG (f:α→List Cell) (x:α):PV:=.io (f x)
def oR (k:IntKind) (x:List Int):PV:=.rio 1 (Zg k x)
def a0 (_:Unit):List PV:=[]
def a1 (e:α→PV) (x:α):List PV:=[e x]
def a2 (e:α→PV) (f:β→PV) (x:α×β):List PV:=[e x.1,f x.2]
def a3 (e:α→PV) (f:β→PV) (g:γ→PV) (x:α×β×γ):List PV:=[e x.1,f x.2.1,g x.2.2]
def a4 (e:α→PV) (f:β→PV) (g:γ→PV) (h:δ→PV) (x:α×β×γ×δ):List PV:=[e x.1,f x.2.1,g x.2.2.1,h x.2.2.2]
def a5 (e:α→PV) (f:β→PV) (g:γ→PV) (h:δ→PV) (i:ε→PV) (x:α×β×γ×δ×ε):List PV:=[e x.1,f x.2.1,g x.2.2.1,h x.2.2.2.1,i x.2.2.2.2]
def a6 (e:α→PV) (f:β→PV) (g:γ→PV) (h:δ→PV) (i:ε→PV) (j:ζ→PV) (x:α×β×γ×δ×ε×ζ):List PV:=[e x.1,f x.2.1,g x.2.2.1,h x.2.2.2.1,i x.2.2.2.2.1,j x.2.2.2.2.2]
def r1 (e:β→PV) (_:α) (y:β):PV×List (List Cell):=(e y,[])
def r2 (e:β→PV) (f:γ→PV) (_:α) (y:β×γ):PV×List (List Cell):=(.tup [e y.1,f y.2],[])
def r3 (e:β→PV) (f:γ→PV) (g:δ→PV) (_:α) (y:β×γ×δ):PV×List (List Cell):=(.tup [e y.1,f y.2.1,g y.2.2],[])
def r4 (e:β→PV) (f:γ→PV) (g:δ→PV) (h:ε→PV) (_:α) (y:β×γ×δ×ε):PV×List (List Cell):=(.tup [e y.1,f y.2.1,g y.2.2.1,h y.2.2.2],[])
def lR (k:IntKind) (x:List Int):List Cell:=(Zg k x).flatten
def rio (f:β→List Cell) (_:α) (y:β):PV×List (List Cell):=(.tup [],[f y])
def u2 (f:α→β→γ) (x:α×β):γ:=f x.1 x.2
def u3 (f:α→β→γ→δ) (x:α×β×γ):δ:=f x.1 x.2.1 x.2.2
def u4 (f:α→β→γ→δ→ε) (x:α×β×γ×δ):ε:=f x.1 x.2.1 x.2.2.1 x.2.2.2
def u5 (f:α→β→γ→δ→ε→ζ) (x:α×β×γ×δ×ε):ζ:=f x.1 x.2.1 x.2.2.1 x.2.2.2.1 x.2.2.2.2
def u6 {η:Type}(f:α→β→γ→δ→ε→ζ→η) (x:α×β×γ×δ×ε×ζ):η:=f x.1 x.2.1 x.2.2.1 x.2.2.2.1 x.2.2.2.2.1 x.2.2.2.2.2
theorem kS:(∀ {k x},lR k x=(Zg k x).flatten)∧(∀ {x},a0 x=[])∧(∀ {k x},eI k x = .one (.v (.int k x)))∧(∀ {x},eB x = .one (.v (.bool x)))∧(∀ {x},eT x = .one (.v (.string x)))∧(∀ {k x},eL k x = .one (.slice .no (Zg k x)))∧(∀ {α:Type}{f:α→List Cell}{x},eS f x = .one (.slice .no (List.map f x)))∧(∀ {k n}{x:Arr n},eA k x = .agg (arC k x))∧(∀ {α:Type}{f:α→List Cell}{x},eG f x = .agg (f x))∧(∀ {k x},oL k x = .one (.own 1 (Zg k x)))∧(∀ {n}{α:Type}{f:α→List Cell}{x},oS n f x = .one (.own n (List.map f x)))∧(∀ {α:Type}{f:α→List Cell}{x},oG f x = .io (f x))∧(∀ {k x},oR k x = .rio 1 (Zg k x))∧(∀ {α:Type}{e:α→PV}{x},a1 e x=[e x])∧(∀ {α β:Type}{e:α→PV}{f:β→PV}{x},a2 e f x=[e x.1,f x.2])∧(∀ {α β γ:Type}{e:α→PV}{f:β→PV}{g:γ→PV}{x},a3 e f g x=[e x.1,f x.2.1,g x.2.2])∧(∀ {α β γ δ:Type}{e:α→PV}{f:β→PV}{g:γ→PV}{h:δ→PV}{x},a4 e f g h x=[e x.1,f x.2.1,g x.2.2.1,h x.2.2.2])∧(∀ {α β γ δ ε:Type}{e:α→PV}{f:β→PV}{g:γ→PV}{h:δ→PV}{i:ε→PV}{x},a5 e f g h i x=[e x.1,f x.2.1,g x.2.2.1,h x.2.2.2.1,i x.2.2.2.2])∧(∀ {α β γ δ ε ζ:Type}{e:α→PV}{f:β→PV}{g:γ→PV}{h:δ→PV}{i:ε→PV}{j:ζ→PV}{x},a6 e f g h i j x=[e x.1,f x.2.1,g x.2.2.1,h x.2.2.2.1,i x.2.2.2.2.1,j x.2.2.2.2.2])∧(∀ {α β:Type}{e:β→PV}{x:α}{y},r1 e x y=(e y,[]))∧(∀ {α β γ:Type}{e:β→PV}{f:γ→PV}{x:α}{y},r2 e f x y=(.tup [e y.1,f y.2],[]))∧(∀ {α β γ δ:Type}{e:β→PV}{f:γ→PV}{g:δ→PV}{x:α}{y},r3 e f g x y=(.tup [e y.1,f y.2.1,g y.2.2],[]))∧(∀ {α β γ δ ε:Type}{e:β→PV}{f:γ→PV}{g:δ→PV}{h:ε→PV}{x:α}{y},r4 e f g h x y=(.tup [e y.1,f y.2.1,g y.2.2.1,h y.2.2.2],[]))∧(∀ {α β:Type}{f:β→List Cell}{x:α}{y},rio f x y=(.tup [],[f y]))∧(∀ {α β γ:Type}{f:α→β→γ}{x},u2 f x=f x.1 x.2)∧(∀ {α β γ δ:Type}{f:α→β→γ→δ}{x},u3 f x=f x.1 x.2.1 x.2.2)∧(∀ {α β γ δ ε:Type}{f:α→β→γ→δ→ε}{x},u4 f x=f x.1 x.2.1 x.2.2.1 x.2.2.2)∧(∀ {α β γ δ ε ζ:Type}{f:α→β→γ→δ→ε→ζ}{x},u5 f x=f x.1 x.2.1 x.2.2.1 x.2.2.2.1 x.2.2.2.2)∧(∀ {α β γ δ ε ζ η:Type}{f:α→β→γ→δ→ε→ζ→η}{x},u6 f x=f x.1 x.2.1 x.2.2.1 x.2.2.2.1 x.2.2.2.2.1 x.2.2.2.2.2) :=
 ⟨rfl,rfl,rfl,rfl,rfl,rfl,rfl,rfl,rfl,rfl,rfl,rfl,rfl,rfl,rfl,rfl,rfl,rfl,rfl,rfl,rfl,rfl,rfl,rfl,rfl,rfl,rfl,rfl,rfl⟩
instance {k:IntKind}:YH (eI k):=⟨by simp[eI]⟩
instance:YH eB:=⟨by simp[eB]⟩
instance:YH eT:=⟨by simp[eT]⟩
instance {k:IntKind}:YH (eL k):=⟨by simp[eL]⟩
instance {k:IntKind}:YH (oL k):=⟨by simp[oL]⟩
instance {k:IntKind}:YH (oR k):=⟨by simp[oR]⟩
instance {k:IntKind}{n:Nat}:YH (eA k (n:=n)):=⟨by simp[eA]⟩
instance:YH a0:=⟨fun _ _ _=>rfl⟩
instance {e:α→PV}[i:YH e]:YH (a1 e):=⟨fun a b h=>i.h a b (by simpa[a1] using h)⟩
instance {e:α→PV}{f:β→PV}[ke:YH e] [kf:YH f]:YH (a2 e f):=⟨fun a b h=>by simp only[a2,List.cons.injEq,and_true] at h; exact Prod.ext (ke.h _ _ h.1) (kf.h _ _ h.2)⟩
instance {e:α→PV}{f:β→PV}{g:γ→PV}[ke:YH e] [kf:YH f] [kg:YH g]:YH (a3 e f g):=⟨fun a b h=>by simp only[a3,List.cons.injEq,and_true] at h; exact Prod.ext (ke.h _ _ h.1) (Prod.ext (kf.h _ _ h.2.1) (kg.h _ _ h.2.2))⟩
instance {e:α→PV}{f:β→PV}{g:γ→PV}{h:δ→PV}[ke:YH e] [kf:YH f] [kg:YH g] [kh:YH h]:YH (a4 e f g h):=⟨fun a b h=>by simp only[a4,List.cons.injEq,and_true] at h; exact Prod.ext (ke.h _ _ h.1) (Prod.ext (kf.h _ _ h.2.1) (Prod.ext (kg.h _ _ h.2.2.1) (kh.h _ _ h.2.2.2)))⟩
instance {e:α→PV}{f:β→PV}{g:γ→PV}{h:δ→PV}{i:ε→PV}[ke:YH e] [kf:YH f] [kg:YH g] [kh:YH h] [ki:YH i]:YH (a5 e f g h i):=⟨fun a b h=>by simp only[a5,List.cons.injEq,and_true] at h; exact Prod.ext (ke.h _ _ h.1) (Prod.ext (kf.h _ _ h.2.1) (Prod.ext (kg.h _ _ h.2.2.1) (Prod.ext (kh.h _ _ h.2.2.2.1) (ki.h _ _ h.2.2.2.2))))⟩
instance {e:α→PV}{f:β→PV}{g:γ→PV}{h:δ→PV}{i:ε→PV}{j:ζ→PV}[ke:YH e] [kf:YH f] [kg:YH g] [kh:YH h] [ki:YH i] [kj:YH j]:YH (a6 e f g h i j):=⟨fun a b h=>by simp only[a6,List.cons.injEq,and_true] at h; exact Prod.ext (ke.h _ _ h.1) (Prod.ext (kf.h _ _ h.2.1) (Prod.ext (kg.h _ _ h.2.2.1) (Prod.ext (kh.h _ _ h.2.2.2.1) (Prod.ext (ki.h _ _ h.2.2.2.2.1) (kj.h _ _ h.2.2.2.2.2)))))⟩
end
class EnC {α:Type}(f:α→List Cell) (n:outParam Nat):Prop where
 len:∀ a,(f a).length=n
 inj:∀ a b,f a=f b→a=b
theorem enC {α:Type}{f:α→List Cell}{n:Nat}(h:∀ a,(f a).length=n:=by intro a; simp) (k:∀ a b,f a=f b→a=b:=by intro a b h; simpa[Prod.ext_iff,and_assoc] using h):EnC f n:=⟨h,k⟩
section
variable {α:Type}{f:α→List Cell}{n:Nat}[i:EnC f n]
@[simp↓] theorem ZsN (m:List α):(∀ l,l∈List.map f m→l.length=n)=True:=ZmG i.len m
@[simp↓] theorem ZyL (m:List α) (k:Nat):(∀ l,l∈List.drop k (List.map f m)→l.length=n)=True:=eq_true fun l h=>of_eq_true (ZsN m) l (List.mem_of_mem_drop h)
@[simp↓] theorem ZyM (m:List α) (k:Nat):(∀ l,l∈List.take k (List.map f m)→l.length=n)=True:=eq_true fun l h=>of_eq_true (ZsN m) l (List.mem_of_mem_take h)
end
@[simp] theorem en_map {α:Type}{f:α→List Cell}{n:Nat}[i:EnC f n]{l m:List α}:List.map f l=List.map f m↔l=m:=ZqO i.inj
instance {α:Type}{f:α→List Cell}{n:Nat}[i:EnC f n]:YH (eG f):=⟨fun a b h=>i.inj a b (by simpa[eG] using h)⟩
instance {α:Type}{f:α→List Cell}{n:Nat}[i:EnC f n]:YH (oG f):=⟨fun a b h=>i.inj a b (by simpa[oG] using h)⟩
instance {α:Type}{f:α→List Cell}{n:Nat}[i:EnC f n]:YH (eS f):=⟨fun a b h=>by simpa[eS] using h⟩
instance {α:Type}{f:α→List Cell}{n m:Nat}[i:EnC f n]:YH (oS m f):=⟨fun a b h=>by simpa[oS] using h⟩
class EnP {α:Type}(f:α→List Cell):Prop where
 h:∀ a,(f a).any Cell.isSl=false
@[simp] theorem ZyN {α:Type}{f:α→List Cell}[i:EnP f] (m:List α):m.any ((fun l=>l.any Cell.isSl) ∘ f)=false:=List.any_eq_false.2 fun x _=>by simp[i.h]
theorem enP {α:Type}{f:α→List Cell}(h:∀ a,(f a).any Cell.isSl=false:=by intro a; simp):EnP f:=⟨h⟩
instance {k:IntKind}{n:Nat}:EnC (arC k (n:=n)) n:=⟨by simp,by simp⟩
section
variable {α β γ δ ε ζ η:Type}
abbrev cn (E:α→List PV) (R:α→β→PV×List (List Cell)) (g:α→Option β):Con α β:=⟨E,R,g⟩
theorem Con.q1 (K:Con α β) [i:YH K.E]{f:α→Option β}{x:α}{y:β}(h:f x=some y) (hf:∀ x,K.g x=f x:=by intro x; rfl):K.G (K.E x)=some (K.R x y):=YY i.h ((hf x).trans h)
theorem Con.q0 (K:Con Unit β) [i:YH K.E]{f:Option β}{y:β}(h:f=some y) (hf:K.g ()=f:=by rfl):K.G (K.E ())=some (K.R () y):=YY i.h (hf.trans h)
theorem Con.q2 (K:Con (α×β) γ) [i:YH K.E]{g:α→β→Option γ}{a:α}{b:β}{y:γ}(h:g a b=some y) (hf:∀ a b,K.g (a,b)=g a b:=by intros; rfl):K.G (K.E (a,b))=some (K.R (a,b) y):=YY i.h ((hf a b).trans h)
theorem Con.q3 (K:Con (α×β×γ) δ) [i:YH K.E]{g:α→β→γ→Option δ}{a:α}{b:β}{c:γ}{y:δ}(h:g a b c=some y) (hf:∀ a b c,K.g (a,b,c)=g a b c:=by intros; rfl):K.G (K.E (a,b,c))=some (K.R (a,b,c) y):=YY i.h ((hf a b c).trans h)
theorem Con.q4 (K:Con (α×β×γ×δ) ε) [i:YH K.E]{g:α→β→γ→δ→Option ε}{a:α}{b:β}{c:γ}{d:δ}{y:ε}(h:g a b c d=some y) (hf:∀ a b c d,K.g (a,b,c,d)=g a b c d:=by intros; rfl):K.G (K.E (a,b,c,d))=some (K.R (a,b,c,d) y):=YY i.h ((hf a b c d).trans h)
end
section
variable {α β:Type}{K:Con α β}{tt:TT}{G:Glob}{l:List (Nat×(List PV→Option (PV×List (List Cell))))}{own:Nat→List (List Nat)}{fn:Func}
theorem Walk.sk {n:Nat}{cc:(Nat→Code)→Code}(kl:List (Nat×Kp)) (w:Bool) (hn:fn.ntmps=n)
  (h:∀ T:Tab,T.own=own→Zh T l→∀ x y,K.g x=some y→ZA tt T G (kpL kl) (cc (reg fn)) ⟨(ioIn 0 0 (K.E x)).1++List.replicate (n-(K.E x).length) .skip,ZjN (K.E x)⟩ (YW tt w fn (K.E x) (K.R x y)))
  (hc:∀ r,Zkv r (Znu fn)=cc r:=by intro r; (conv=>lhs; reduce) <;> rfl) (hb:fn.body=some (Zkv (reg fn) (Znu fn)):=by kernel_rfl) (hi:∀ x,Zkh (K.E x)=true:=by intro x; simp[kS]):Walk tt G l own fn K :=
 .of kl w (hb.trans (congrArg some (hc _))) hn fun T h1 h2 x y h3=>⟨hi x,h T h1 h2 x y h3⟩
theorem Walk.ak {n:Nat}{cc:(Nat→Code)→Code}(kl:List (Nat×Kp)) (w:Bool) (hn:fn.ntmps=n)
  (h:∀ T:Tab,T.own=own→Zh T l→∀ x y,Imp (K.g x=some y) (ZA tt T G (kpL kl) (cc (reg fn)) ⟨(ioIn 0 0 (K.E x)).1++List.replicate (n-(K.E x).length) .skip,ZjN (K.E x)⟩ (YW tt w fn (K.E x) (K.R x y))))
  (hc:∀ r,Zkv r (Znu fn)=cc r:=by intro r; (conv=>lhs; reduce) <;> rfl) (hb:fn.body=some (Zkv (reg fn) (Znu fn)):=by kernel_rfl) (hi:∀ x,Zkh (K.E x)=true:=by intro x; simp[kS]):Walk tt G l own fn K :=
 .of kl w (hb.trans (congrArg some (hc _))) hn fun T h1 h2 x y h3=>⟨hi x,h T h1 h2 x y h3⟩
theorem mkU {P:Program}(hm:P.follows .mixedOrders=true) (htt:∀ t i,tt t=some i→ZW P t=some i){f:FuncId}(w:Walk tt G l own fn K) (hT:ZnQ P G l) (hf:P.funcs[f]? = some fn) (hb:fn.body.isSome=true) (hn:(!(fn.name == "runtime.NumGoroutine") && distinctF l)=true):Yb P G f K.G :=
 have ⟨c,hc⟩:=Option.isSome_iff_exists.1 hb
 mkW hm htt w hT hf hc hn
end
class Fc (p:Prop) (q:outParam Prop):Prop where
 h:p→q
instance {p:Prop}[Decidable p]{u:Unit}:Fc (chk p=some u) p:=⟨ZK⟩
instance {n:Nat}{i:Int}{j:Nat}:Fc (inA n i=some j) (0≤i∧i.toNat=j∧j<n):=⟨YQ⟩
instance {α:Type}{l:List α}{i:Nat}{x:α}:Fc (l[i]? = some x) (l[i]? = some x∧∀ h':i<l.length,l[i]=x):=⟨fun h=>⟨h,YL h⟩⟩
abbrev Con.Q {α β:Type}(K:Con α β) (x:α) (y:β):Prop:=K.G (K.E x)=some (K.R x y)
section
variable {α β γ:Type}{P:Prop}{r:Option β}{y:β}
theorem ZjB {o:Option α}{f:α→Option β}{q:α→Prop}[i:∀ x,Fc (o=some x) (q x)] (k:∀ x,o=some x→q x→Imp (f x=some y) P):Imp (o.bind f=some y) P:=fun h =>
 let ⟨x,h1,h2⟩:=bs h
 k x h1 ((i x).h h1) h2
theorem Zin {o:Option α}{f:α→Option β}{x:α}(e:o=some x) (k:Imp (f x=some y) P):Imp (o.bind f=some y) P:=fun h=>k (by rw[e] at h; exact h)
theorem ZkK {p:Prop}[Decidable p]{f:Unit→Option β}(k:p→Imp (f ()=some y) P):Imp ((chk p).bind f=some y) P:=fun h =>
 let ⟨_,h1,h2⟩:=bs h
 k (ZK h1) h2
theorem Zj5 {l:List α}{i:Int}{f:α→Option β}(k:∀ x,0≤i→l[i.toNat]? = some x→(∀ h':i.toNat<l.length,l[i.toNat]=x)→Imp (f x=some y) P):Imp ((idx l i).bind f=some y) P:=fun h =>
 let ⟨x,h1,h2⟩:=bs h
 k x (Zcb h1).1 (Zcb h1).2 (YL (Zcb h1).2) h2
theorem ZjC {l:List α}{i:Int}{f:α→Option β}{x:α}(e:l[i.toNat]? = some x) (k:Imp (f x=some y) P):Imp ((idx l i).bind f=some y) P:=Zj5 fun z _ h _=>by
 obtain rfl:=Option.some.inj (e.symm.trans h);exact k
theorem ZjD {a:α}{f:α→Option β}(k:Imp (f a=r) P):Imp ((some a).bind f=r) P:=k
theorem im_none:Imp ((none:Option β)=some y) P:=fun h=>by cases h
theorem Zio {f:α→Option β}:Imp ((none:Option α).bind f=some y) P:=fun h=>by cases h
theorem Zet {c:Prop}[Decidable c]{a b:Option β}(hc:c) (k:Imp (a=r) P):Imp ((if c then a else b)=r) P:=fun h=>k (by rwa[if_pos hc] at h)
theorem Zj6 {c:Prop}[Decidable c]{a b:Option β}(hc:¬ c) (k:Imp (b=r) P):Imp ((if c then a else b)=r) P:=fun h=>k (by rwa[if_neg hc] at h)
theorem ZcQ {c:Prop}[Decidable c]{a b:Option α}{f:α→Option β}(hc:c) (k:Imp (a.bind f=r) P):Imp ((if c then a else b).bind f=r) P:=fun h=>k (by rwa[if_pos hc] at h)
theorem Zip {c:Prop}[Decidable c]{a b:Option α}{f:α→Option β}(hc:¬ c) (k:Imp (b.bind f=r) P):Imp ((if c then a else b).bind f=r) P:=fun h=>k (by rwa[if_neg hc] at h)
theorem Zmn {c:Prop}[Decidable c]{a b:Option β}(k:c→Imp (a=r) P) (l:¬ c→Imp (b=r) P):Imp ((if c then a else b)=r) P:=if h:c then Zet h (k h) else Zj6 h (l h)
theorem ZkL {c:Prop}[Decidable c]{a b:Option α}{f:α→Option β}(k:c→Imp (a.bind f=r) P) (l:¬ c→Imp (b.bind f=r) P):Imp ((if c then a else b).bind f=r) P:=if h:c then ZcQ h (k h) else Zip h (l h)
theorem ZjE {c d:Prop}[Decidable c] [Decidable d]{i:Decidable (c∨d)}{a b:Option β}(k:Imp ((if c then a else if d then a else b)=r) P):Imp ((@ite _ (c∨d) i a b)=r) P:=fun h=>k (by
 rw[← h]; by_cases hc:c <;> by_cases hd:d <;> simp[hc,hd])
theorem Ziq {c d:Prop}[Decidable c] [Decidable d]{i:Decidable (c∧d)}{a b:Option β}(k:Imp ((if c then if d then a else b else b)=r) P):Imp ((@ite _ (c∧d) i a b)=r) P:=fun h=>k (by
 rw[← h]; by_cases hc:c <;> by_cases hd:d <;> simp[hc,hd])
theorem Zir {c:Prop}[Decidable c]{i:Decidable (¬ c)}{a b:Option β}(k:Imp ((if c then b else a)=r) P):Imp ((@ite _ (¬ c) i a b)=r) P:=fun h=>k (by
 rw[← h]; by_cases hc:c <;> simp[hc])
theorem Zhs {o:Option γ}{g:γ→Option α}{f:α→Option β}(k:Imp ((o.bind fun x=>(g x).bind f)=r) P):Imp ((o.bind g).bind f=r) P:=fun h=>k (by rw[← h]; cases o <;> rfl)
end
theorem ZkM {β γ:Type}{o:Option β}{g:β→γ}{y:γ}{P:Prop}(k:∀ z,y=g z→Imp (o=some z) P):Imp (o.map g=some y) P:=fun h=>by
 obtain⟨z,h1,h2⟩:=Option.map_eq_some_iff.1 h;exact k z h2.symm h1
theorem ZkN {β:Type}{a y:β}{P:Prop}(k:a=y→P):Imp (some a=some y) P:=fun h=>k (Option.some.inj h)
theorem ZjF {P:Prop}(k:Imp True P):P:=k trivial
theorem Zmo {β:Type}{z r:β}{A P:Prop}(k:r=z→Imp A P):Imp A (z=r→P):=fun a e=>k e.symm a
theorem leT {a b:Nat}(h:a≤b):(a≤b)=True:=eq_true h
theorem ltT {a b:Nat}(h:a<b):(a<b)=True:=eq_true h
theorem Zjd {a b:Int}(h:a≤b):(a≤b)=True:=eq_true h
theorem Zje {a b:Int}(h:a<b):(a<b)=True:=eq_true h
theorem leF {a b:Nat}(h:b<a):(a≤b)=False:=eq_false (by omega)
theorem ltF {a b:Nat}(h:b≤a):(a<b)=False:=eq_false (by omega)
theorem Zjf {a b:Int}(h:b<a):(a≤b)=False:=eq_false (by omega)
theorem Zjg {a b:Int}(h:b≤a):(a<b)=False:=eq_false (by omega)
@[simp] theorem Zw2 (a:Nat):(1+a≤a+1)=True:=eq_true (by omega)
@[simp] theorem tk_map {α:Type}{f:α→List Cell}{c:List Cell}{l:List α}:List.take (1+l.length) (c :: List.map f l)=c :: List.map f l:=List.take_of_length_le (by simp; omega)
@[simp] theorem ZyO {α:Type}{f:α→List Cell}{c:List Cell}{l:List α}{m:Nat}:List.take (1+(l.length-m)) (c :: List.drop m (List.map f l))=c :: List.drop m (List.map f l):=List.take_of_length_le (by simp; omega)
@[simp] theorem ZyP {k:IntKind}{c:List Cell}{l:List Int}{m:Nat}:List.take (1+(l.length-m)) (c :: List.drop m (Zg k l))=c :: List.drop m (Zg k l):=List.take_of_length_le (by simp; omega)
section
variable {bx:Boxes}{k:IntKind}{cs:List Cell}
theorem ZrO {l:List Int}{es:List Nat}(h:(es.take l.length).all (· == 0)=true):ZaM bx es (ints k l++cs)=(ZaM bx (es.drop l.length) cs).map (ints k l++·):=by
 induction l generalizing es with
 | nil=>simp[ints]
 | cons x l ih =>
  cases es with
  | nil =>
   have:=ih (es:=[]) (by simp);simp only[List.drop_nil] at this ⊢;show(match ZdF bx 0 (.v (.int k x)),ZaM bx [] (ints k l++cs) with | some d,some ds=>some (d :: ds) | _,_=>none)=_
   rw[this];generalize ZaM bx [] cs=z;cases z <;> simp[ZdF,Z4,ints]
  | cons e es =>
   simp only[List.length_cons,List.take_succ_cons,List.all_cons,Bool.and_eq_true,beq_iff_eq] at h;obtain⟨rfl,h⟩:=h;have:=ih h;show(match ZdF bx 0 (.v (.int k x)),ZaM bx es (ints k l++cs) with | some d,some ds=>some (d :: ds) | _,_=>none)=_
   rw[this];simp only[List.length_cons,List.drop_succ_cons];cases ZaM bx (es.drop l.length) cs <;> simp[ZdF,Z4,ints]
theorem ZrP {l:List Int}{es:List Nat}:lentL es (ints k l++cs)=lentL (es.drop l.length) cs:=by
 induction l generalizing es with
 | nil=>simp[ints]
 | cons x l ih =>
  cases es with
  | nil =>
   have:=ih (es:=[]);simp only[List.drop_nil] at this ⊢;show nmC (.v (.int k x))++lentL [] (ints k l++cs)=_
   rw[this]; rfl
  | cons e es =>
   show Zd4 e (.v (.int k x))++lentL es (ints k l++cs)=_
   rw[ih];simp[Zd4,nmC]
theorem Zub {l:List Int}{es:List Nat}:hdL es (ints k l++cs)=hdL (es.drop l.length) cs:=by
 induction l generalizing es with
 | nil=>simp[ints]
 | cons x l ih =>
  cases es with
  | nil =>
   have:=ih (es:=[]);simp only[List.drop_nil] at this ⊢;show hdL [] (ints k l++cs)=_
   rw[this]
  | cons e es =>
   show hdC e (.v (.int k x))++hdL es (ints k l++cs)=_
   rw[ih];simp[hdC,nmC]
variable {n:Nat}{a:Arr n}{es:List Nat}
@[simp] theorem ZxR (h:(es.take n).all (· == 0)=true):ZaM bx es (arC k a++cs)=(ZaM bx (es.drop n) cs).map (arC k a++·):=by
 have:=ZrO (bx:=bx) (k:=k) (cs:=cs) (l:=a.l) (es:=es) (by rwa[a.hl])
 rwa[a.hl] at this
@[simp] theorem lentL_arC:lentL es (arC k a++cs)=lentL (es.drop n) cs:=by
 have:=ZrP (k:=k) (cs:=cs) (l:=a.l) (es:=es)
 rwa[a.hl] at this
@[simp] theorem hdL_arC:hdL es (arC k a++cs)=hdL (es.drop n) cs:=by
 have:=Zub (k:=k) (cs:=cs) (l:=a.l) (es:=es)
 rwa[a.hl] at this
end
theorem Yp {α β:Type}{f:α→β}{l:List α}{n:Nat}:List.take (l.length-n) (List.drop n (List.map f l))=List.drop n (List.map f l):=List.take_of_length_le (by simp)
theorem eqI {a b:Int}(h:a=b):a≤b∧b≤a:=⟨Int.le_of_eq h,Int.le_of_eq h.symm⟩
theorem ZfD {X R:Prop}(e:ZaX X R) (x:X):R:=e.h ▸ x
section
variable {tt:TT}{T:Tab}{G:Glob}{kp:Keep}{st st1:ASt}{c:Code}{Q:AE→ASt→Prop}{σ ρ:Type}
theorem ZjG {A P:Prop}(v:Bool) (k:v=true→Imp A P) (l:v=false→Imp A P):Imp A P:=by cases v <;> simp_all
theorem Zad {step:σ→Option (σ ⊕ ρ)}{s:σ}{r:ρ}(k:Imp (Ze step s=some r) (ZA tt T G kp (.loop c) st Q)):Imp (Ze step s=some r) (ZA tt T G kp (.loop c) st Q):=k
def ZhZ (l:List (Nat×PV)) (e:List PV):List PV:=l.foldl (fun e p=>e.set p.1 p.2) e
def updB:List (Nat×Box)→Boxes→Boxes
 | [],b=>b
 | (n,x) :: l,b=>updB l (setB b n x)
def upd (p:List (Nat×PV)×List (Nat×Box)) (s:ASt):ASt:=⟨ZhZ p.1 s.env,updB p.2 s.boxes⟩
theorem lpP {step:σ→Option (σ ⊕ ρ)}{s:σ}{r:ρ}(n:Nat) (A:σ→List (Nat×PV)×List (Nat×Box))
  (k:∀ s x,Imp (step s=some x) (ZA tt T G kp c (upd (A s) st1) (QL (kp n) (fun s=>upd (A s) st1) Q r x)))
  (h1:ZbM (kp n) st=st1:=by first | (simp[-Int.ofNat_toNat,-Int.natCast_tdiv_eq_ediv,und,List.replicate, *] <;> rfl) | fail) (h2:st1=upd (A s) st1:=by simp[-Int.ofNat_toNat,-Int.natCast_tdiv_eq_ediv,upd,ZhZ,updB, *]) (hn:firstId c=n:=by kernel_rfl):Imp (Ze step s=some r) (ZA tt T G kp (.loop c) st Q):=fun hr =>
 X8 (by rw[hn]) hr (h1.trans h2) fun s x hx=>k s x hx
end
end Go.Av
namespace Go.Lc
open Go.RowKit
open Go.Av
set_option linter.unusedVariables false
set_option linter.unusedSimpArgs false
theorem ZU {σ ρ:Type}{step:σ→Option (σ ⊕ ρ)}{s s':σ}(h:step s=some (.inl s')):Ze step s=Ze step s' := by rw[Zlb,h]
theorem YU {σ ρ:Type}{step:σ→Option (σ ⊕ ρ)}{s:σ}{x:Option ρ}(h:step s=x.map .inr):Ze step s=x:=by
 rw[Zlb,h];cases x <;> rfl
theorem ZbK {σ ρ:Type}{step:σ→Option (σ ⊕ ρ)}{s:σ}{r:ρ}(h:step s=some (.inr r)):Ze step s=some r:=by rw[Zlb,h]
theorem ZG {σ ρ:Type}{step:σ→Option (σ ⊕ ρ)}(enc:Nat→σ) (n:Nat){x:Option ρ}(h:∀ i,i<n→step (enc i)=some (.inl (enc (i+1)))) (he:step (enc n)=x.map .inr):Ze step (enc 0)=x:=by
 have key:∀ k,k≤n→Ze step (enc (n-k))=x:=by
  intro k;induction k with
  | zero=>intro _; exact YU he
  | succ k ih =>
   intro hk;rw[ZU (h (n-(k+1)) (by omega)),show n-(k+1)+1=n-k by omega];exact ih (by omega)
 have:=key n (Nat.le_refl _)
 rwa[Nat.sub_self] at this
theorem Zak {σ ρ:Type}{step:σ→Option (σ ⊕ ρ)}(I:Nat→σ→Prop) (Q:ρ→Prop) (h:∀ i s,I i s→(∃ j s',j<i∧step s=some (.inl s')∧I j s')∨∃ r,step s=some (.inr r)∧Q r):∀ (n:Nat) (s:σ),I n s→∃ r,Ze step s=some r∧Q r:=by
 intro n;induction n using Nat.strongRecOn with
 | _ n ih =>
  intro s hs;rcases h n s hs with ⟨j,s',hj,h1,h2⟩ | ⟨r,h1,h2⟩
  ·obtain⟨r,h3,h4⟩:=ih j hj s' h2
   exact⟨r,(ZU h1).trans h3,h4⟩
  ·exact⟨r,ZbK h1,h2⟩
def Tot {α:Type}(x:Option α) (Q:α→Prop):Prop:=∃ a,x=some a∧Q a
section
variable {α β:Type}{x:Option α}{f:α→Option β}{P:α→Prop}{Q:β→Prop}
theorem Tot.bind (h:Tot x P) (k:∀ a,P a→Tot (f a) Q):Tot (x.bind f) Q:=by
 obtain⟨a,rfl,ha⟩:=h;exact k a ha
theorem Tot.mono {P':α→Prop}(h:Tot x P) (k:∀ a,P a→P' a):Tot x P' := by
 obtain⟨a,h1,ha⟩:=h;exact⟨a,h1,k a ha⟩
theorem Zb {a:α}(h:P a):Tot (some a) P:=⟨a,rfl,h⟩
theorem Zf {c:Prop}[Decidable c]{a b:Option α}(h1:c→Tot a P) (h2:¬ c→Tot b P):Tot (if c then a else b) P:=by
 by_cases h:c
 ·rw[if_pos h]; exact h1 h
 ·rw[if_neg h]; exact h2 h
theorem Tot.inr {ρ σ:Type}{x:Option ρ}{Q:ρ→Prop}(h:Tot x Q):∃ r,(x.map Sum.inr:Option (σ ⊕ ρ))=some (.inr r)∧Q r:=by
 obtain⟨a,rfl,ha⟩:=h;exact⟨a,rfl,ha⟩
end
theorem Za {α β:Type}(a:α) (f:α→Option β):(some a).bind f=f a:=rfl
theorem Zj {p:Prop}[Decidable p]{α:Type}{f:Unit→Option α}(h:p):(chk p).bind f=f ():=by rw[Zvg h]; rfl
theorem Zvj {α:Type}{l:List α}{i:Nat}(h:i<l.length):idx l (i:Int)=some l[i]:=by simp[idx,h]
theorem Zi {α β:Type}{l:List α}{i:Nat}{f:α→Option β}(h:i<l.length):(idx l (i:Int)).bind f=f l[i]:=by rw[Zvj h]; rfl
theorem Zvk {n i:Nat}(h:i<n):inA n (i:Int)=some i:=by simp[inA,h]
theorem YS {β:Type}{n i:Nat}{f:Nat→Option β}(h:i<n):(inA n (i:Int)).bind f=f i:=by rw[Zvk h]; rfl
theorem Zis {α β:Type}{l:List α}{i:Nat}{f:α→Option β}(h:i<l.length):(l[i]?).bind f=f l[i]:=by rw[List.getElem?_eq_getElem h]; rfl
theorem wi (n:Int) (h:-9223372036854775808≤n∧n≤9223372036854775807):IntKind.i64.wrap n=n:=IntWalk.i64_in n h
theorem Zu {i n:Nat}(h:i<n) (hn:n≤9223372036854775807):IntKind.i64.wrap ((i:Int)+1)=((i+1:Nat):Int):=by rw[wi _ (by omega)]; omega
theorem wu (n:Int) (h:0≤n∧n≤18446744073709551615):IntKind.u64.wrap n=n:=IntWalk.u64_in n h
theorem Zor {α:Type}(f:Nat→α) (z:α){i k:Nat}(h:i<k):(((List.range i).map f)++List.replicate (k-i) z).set i (f i)=((List.range (i+1)).map f)++List.replicate (k-(i+1)) z:=by
 rw[List.set_append_right _ _ (by simp)];simp only[List.length_map,List.length_range,Nat.sub_self];rw[show k-i=(k-(i+1))+1 by omega,List.replicate_succ,List.set_cons_zero,List.range_succ,List.map_append];simp
theorem ZpG {α:Type}(f:Nat→α) (z:α){i k:Nat}(h:i≤k):(((List.range i).map f)++List.replicate (k-i) z).length=k:=by simp; omega
class Xg (α:Type) where
 force:{β:Type}→α→(α→β)→β
 eq:∀ {β:Type}(a:α) (k:α→β),force a k=k a
noncomputable def Znv {β:Type}(n:Nat) (k:Nat→β):β:=Nat.rec (motive:=fun _=>β) (k Nat.zero) (fun m _=>k (Nat.succ m)) n
theorem ZlW {β:Type}(n:Nat) (k:Nat→β):Znv n k=k n:=by cases n <;> rfl
noncomputable instance:Xg Nat:=⟨Znv,ZlW⟩
noncomputable def ZsO {β:Type}(i:Int) (k:Int→β):β:=Int.rec (motive:=fun _=>β) (fun n=>Znv n fun m=>k (Int.ofNat m)) (fun n=>Znv n fun m=>k (Int.negSucc m)) i
theorem ZsP {β:Type}(i:Int) (k:Int→β):ZsO i k=k i:=by
 cases i with
 | ofNat n=>exact ZlW n fun m=>k (Int.ofNat m)
 | negSucc n=>exact ZlW n fun m=>k (Int.negSucc m)
noncomputable instance:Xg Int:=⟨ZsO,ZsP⟩
noncomputable def ZsQ {β:Type}(b:Bool) (k:Bool→β):β:=Bool.rec (motive:=fun _=>β) (k false) (k true) b
theorem ZsR {β:Type}(b:Bool) (k:Bool→β):ZsQ b k=k b:=by cases b <;> rfl
noncomputable instance:Xg Bool:=⟨ZsQ,ZsR⟩
noncomputable instance:Xg Unit:=⟨fun _ k=>k (),fun _ _=>rfl⟩
noncomputable def ZsS {α γ β:Type}[Xg α] [Xg γ] (p:α×γ) (k:α×γ→β):β:=Prod.rec (motive:=fun _=>β) (fun a c=>Xg.force a fun a=>Xg.force c fun c=>k (a,c)) p
theorem ZsT {α γ β:Type}[Xg α] [Xg γ] (p:α×γ) (k:α×γ→β):ZsS p k=k p:=by
 obtain⟨a,c⟩:=p;exact(Xg.eq a _).trans (Xg.eq c _)
noncomputable instance {α γ:Type}[Xg α] [Xg γ]:Xg (α×γ):=⟨ZsS,ZsT⟩
noncomputable def ZpH {α β:Type}[Xg α] (l:List α) (k:List α→β):β:=List.rec (motive:=fun _=>(List α→β)→β) (fun k=>k []) (fun a _ ih k=>Xg.force a fun a=>ih fun l=>k (a :: l)) l k
theorem Zos {α β:Type}[Xg α] (l:List α) (k:List α→β):ZpH l k=k l:=by
 induction l generalizing k with
 | nil=>rfl
 | cons a l ih =>
  refine(Xg.eq (β:=β) a _).trans ?_;exact ih fun l=>k (a :: l)
noncomputable instance {α:Type}[Xg α]:Xg (List α):=⟨ZpH,Zos⟩
noncomputable def ZpI {n:Nat}{β:Type}(a:Arr n) (k:Arr n→β):β:=ZpH a.l fun l=>if h:Nat.beq l.length n=true then k ⟨l,Nat.eq_of_beq_eq_true h⟩ else k a
theorem ZsU {n:Nat}{β:Type}(a:Arr n) (k:Arr n→β):ZpI a k=k a:=by
 unfold ZpI;rw[Zos];split <;> rfl
noncomputable instance {n:Nat}:Xg (Arr n):=⟨ZpI,ZsU⟩
noncomputable instance {α γ:Type}[Xg α] [Xg γ]:Xg (α ⊕ γ):=⟨fun x k=>Sum.rec (motive:=fun _=>_) (fun a=>Xg.force a fun a=>k (.inl a)) (fun c=>Xg.force c fun c=>k (.inr c)) x,fun x k=>by cases x <;> exact Xg.eq _ _⟩
noncomputable instance {α:Type}[Xg α]:Xg (Option α):=⟨fun x k=>Option.rec (motive:=fun _=>_) (k none) (fun a=>Xg.force a fun a=>k (some a)) x,fun x k=>by cases x <;> first | rfl | exact Xg.eq _ _⟩
def Le {α:Type}(o o':Option α):Prop:=∀ x,o=some x→o'=some x
theorem Le.refl {α:Type}(o:Option α):Le o o:=fun _ h=>h
class Lec {α:Type}(o o':Option α):Prop where
 h:Le o o'
end Go.Lc
namespace Go.Av
open Go.RowKit
open Go.Av
set_option linter.unusedVariables false
set_option linter.unusedSimpArgs false
section
open Go.Lc
theorem YB {P:Program}{tt:TT}{T:Tab}{G:Glob}{kp:Keep}{w:Bool}{n:Nat}(hm:P.follows .mixedOrders=true) (htt:∀ t i,tt t=some i→ZW P t=some i) (hT:∀ f F,T f=some F→Zdk P G (f % 1000000) F){f:FuncId}{fn:Func}
  (hf:P.funcs[f]? = some fn) (hb:(fn.body.isSome && !(fn.name == "runtime.NumGoroutine"))=true):Yb P G f (ZZ tt T G kp w n fn):=by
 obtain⟨h1,h2⟩:=Bool.and_eq_true_iff.1 hb;obtain⟨c,hc⟩:=Option.isSome_iff_exists.1 h1;exact ZnP hm htt hT hf hc (by simpa using h2) fun ps r _ h=>⟨_,_,_,h⟩
theorem ZsV {P:Program}{G:Glob}{f:FuncId}{F F':List PV→Option (PV×List (List Cell))}(h:Yb P G f F) (hw:∀ ps r,F' ps=some r→F ps=some r):Yb P G f F' :=
 ⟨h.1,fun S w ks hh ps vs r outs a1 a2 a3 a4 hF=>h.2 S w ks hh ps vs r outs a1 a2 a3 a4 (hw _ _ hF)⟩
def d1 {α:Type}(d:PV→Option α):List PV→Option α
 | [p]=>d p
 | _=>none
def d2 {α β:Type}(d:PV→Option α) (e:PV→Option β):List PV→Option (α×β)
 | [p,q]=>match d p,e q with
  | some x,some y=>some (x,y)
  | _,_=>none
 | _=>none
end
theorem ZpJ {x:Int}(h:(Lit.int .u8 x).wf=true):0≤x∧x≤255:=by simpa[Lit.wf,IntKind.has,IntKind.min,IntKind.max,IntKind.signed,IntKind.bits] using h
end Go.Av
