import Derived.Test.YtbppknpnmjhjpaaGreatDoorLcG2
import Derived.Test.YtbppknpnmjhjpaaGreatDoorLcG1
namespace Go.Lc
open Go.RowKit
open Go.Av
set_option linter.unusedVariables false
set_option linter.unusedSimpArgs false
section
set_option maxRecDepth 100000
abbrev Tapi_Header:=Int×(Arr 32)×(Arr 32)×Int×Int×Int
abbrev Tapi_Block:=Tapi_Header×(List Tapi_Tx)
abbrev Tapi_Checkpoint:=Int×(Arr 32)
abbrev Tapi_Params:=Tapi_Header×(Arr 4)×Int×Int×Int×Int×(List Tapi_Checkpoint)×Int×Int×Int
abbrev Tapi_Ledger:=Int×(Arr 32)×(List Tapi_Coin)
abbrev Tapi_Context:=Int×(Arr 32)×Int×Int×(List Int)
abbrev Tlightclientmade_World:=Tapi_Params×(List Tapi_Block)×(List Tapi_Ledger)×(List Tapi_Context)×(List (List Tapi_Coin))
noncomputable def Yy (a0:(List Int)):Option (List Int) :=
 (chk (a0.length≤140737488355328)).bind fun _=>some (a0)
noncomputable def ZbN (p65:(List (List Int))):Option (List (List Int)) :=
 some (p65)
noncomputable def Xy (p64:Int) (p124:(List (List Int))):Option ((Int×(List (List Int))) ⊕ ((List (List Int)))) :=
 some (.inl (IntKind.i64.wrap (p64+1),p124))
noncomputable def Zji (x97:Tapi_Tx) (p64:Int):(Int×(List (List Int)))→Option ((Int×(List (List Int))) ⊕ ((Int×(List (List Int))) ⊕ ((List (List Int)))))
 | (p123,p124)=>(if p123<(x97.2.1.length:Int) then(idx (x97.2.1) (p123)).bind fun x128=>(Zfy x128.1).bind fun y129=>(chk (p124.length+1≤5864062014805)).bind fun _=>some (.inl (IntKind.i64.wrap (p123+1),p124++[y129])) else(Xy p64 p124).map Sum.inr)
noncomputable def Xz (x97:Tapi_Tx) (p64:Int) (p109:(List (List Int))):Option ((Int×(List (List Int))) ⊕ ((List (List Int)))) :=
 (Zcp x97).bind fun y114=>(if y114=true then some (.inl (IntKind.i64.wrap (p64+1),p109)) else Ze (Zji x97 p64) (0,p109))
noncomputable def Zax (p108:Int) (p134:(List (List Int))):Option ((Int×(List (List Int))) ⊕ ((Int×(List (List Int))) ⊕ ((List (List Int))))) :=
 some (.inl (IntKind.i64.wrap (p108+1),p134))
noncomputable def Zjj (x97:Tapi_Tx) (p64:Int):(Int×(List (List Int)))→Option ((Int×(List (List Int))) ⊕ ((Int×(List (List Int))) ⊕ ((List (List Int)))))
 | (p108,p109)=>(if p108<(x97.2.2.1.length:Int) then(idx (x97.2.2.1) (p108)).bind fun x131=>(if 0<(x131.2.length:Int) then(Yy x131.2).bind fun y135=>(chk (p109.length+1≤5864062014805)).bind fun _=>Zax p108 (p109++[y135]) else Zax p108 p109) else(Xz x97 p64 p109).map Sum.inr)
noncomputable def Zeb (a0:Tapi_Block):(Int×(List (List Int)))→Option ((Int×(List (List Int))) ⊕ ((List (List Int))))
 | (p64,p65)=>(if p64<(a0.2.length:Int) then(idx (a0.2) (p64)).bind fun x97=>Ze (Zjj x97 p64) (0,p65) else(ZbN p65).map Sum.inr)
noncomputable def ZbZ (a0:Tapi_Block):Option ((List (List Int))) :=
 Ze (Zeb a0) (0,[])
noncomputable def XA (a0:Tapi_Header):Option ((List Int)) :=
 (Z9 ([]:(List Int)) a0.1).bind fun y1=>(Xv y1 a0.2.1).bind fun y2=>(Xv y2 a0.2.2.1).bind fun y3=>(Z9 y3 a0.2.2.2.1).bind fun y4=>(Z9 y4 a0.2.2.2.2.1).bind fun y5=>(Z9 y5 a0.2.2.2.2.2).bind fun y6=>some (y6)
noncomputable def ZfJ (p12:(List Int)):Option ((List Int)×Int) :=
 (if 100000<(p12.length:Int) then some ((([]:(List Int)),4)) else some ((p12,0)))
noncomputable def Zb0 (a0:Tapi_Block):(Int×(List Int))→Option ((Int×(List Int)) ⊕ ((List Int)×Int))
 | (p11,p12)=>(if p11<(a0.2.length:Int) then(idx (a0.2) (p11)).bind fun x16=>(Zdf x16 true).bind fun y17=>(if ¬ (y17.2=0) then some (.inr ((([]:(List Int)),4))) else(chk (p12.length+y17.1.length≤140737488355328)).bind fun _=>some (.inl (IntKind.i64.wrap (p11+1),p12++y17.1))) else(ZfJ p12).map Sum.inr)
noncomputable def ZcW (a0:Tapi_Block):Option ((List Int)×Int) :=
 (if 256<(a0.2.length:Int) then some ((([]:(List Int)),4)) else(XA a0.1).bind fun y1=>(YB y1 (IntKind.u64.wrap ((a0.2.length:Int)))).bind fun y2=>Ze (Zb0 a0) (0,y2))
noncomputable def Zjt (a0:(Arr 32)):Option ((Arr 2)) :=
 (Zcs ((a0.l).take 8)).bind fun y1=>(Zcs (((a0.l).drop 8).take 8)).bind fun y2=>some ((⟨[y1,y2],rfl⟩:Arr 2))
noncomputable def ZeO (a0:Tapi_Header):Option ((Arr 32)) :=
 (XA a0).bind fun y1=>(Zb9 y1).bind fun y2=>some (y2)
noncomputable def Zfb (a0:Int) (a1:Int) (a2:(List Int)):Option (Tapi_Tx) :=
 (Lmade_Null).bind fun y1=>some ((1,[(y1,IntKind.u32.wrap (a0),([]:(List (List Int))))],[(a1,a2)],0))
noncomputable def Zca (a0:(Arr 4)):Option (Bool) :=
 some (decide (a0=zA 4))
noncomputable def Lref02_Len_k1:Option Int :=
 some (0)
noncomputable def Zif (a0:(Arr 4)):Int→Option ((Int) ⊕ (Int))
 | p4=>(if 0≤p4 then(Zbg a0 p4).bind fun y6=>(if y6=true then some (.inr (IntKind.i64.wrap (p4+1))) else some (.inl (IntKind.i64.wrap (p4-1)))) else(Lref02_Len_k1).map Sum.inr)
noncomputable def Zcb (a0:(Arr 4)):Option (Int) :=
 Ze (Zif a0) 255
noncomputable def Xl (a0:Int) (a1:Int) (a2:Int):Option (Int×Int) :=
 (chk ((0≤a0∧0≤a1)∧(a1≤18446744073709551615∧0≤a2)∧a2≤1)).bind fun _=>some ((a0+a1+a2) % 18446744073709551616,(a0+a1+a2) / 18446744073709551616)
noncomputable def Zki (p9:(Arr 4)) (p7:Int):Option ((Arr 4)×Bool) :=
 some ((p9,decide (p7=1)))
noncomputable def Zkj (a0:(Arr 4)) (a1:(Arr 4)):(Int×Int×(Arr 4))→Option ((Int×Int×(Arr 4)) ⊕ ((Arr 4)×Bool))
 | (p7,p8,p9)=>(if p8<4 then(inA (4) (p8)).bind fun j12=>(Xl (a0.at j12) (a1.at j12) p7).bind fun y13=>some (.inl (y13.2,IntKind.i64.wrap (p8+1),p9.put j12 y13.1)) else(Zki p9 p7).map Sum.inr)
noncomputable def ZfK (a0:(Arr 4)) (a1:(Arr 4)):Option ((Arr 4)×Bool) :=
 Ze (Zkj a0 a1) (0,0,zA 4)
noncomputable def Zkk (p6:(Arr 4)):Option (Arr 4) :=
 some (p6)
noncomputable def Lref02_Shl_s1:(Int×(Arr 4))→Option ((Int×(Arr 4)) ⊕ ((Arr 4)))
 | (p5,p6)=>(if 0<p5 then(ZfK p6 p6).bind fun y8=>some (.inl (IntKind.i64.wrap (p5-1),y8.1)) else(Zkk p6).map Sum.inr)
noncomputable def ZfL (a0:(Arr 4)) (a1:Int):Option ((Arr 4)) :=
 (if 256≤a1 then some (zA 4) else Ze (Lref02_Shl_s1) (a1,a0))
noncomputable def ZdU (p7:(Arr 4)):Option ((Arr 4)×Int) :=
 (Zca p7).bind fun y8=>(if y8=true then some ((zA 4,120)) else some ((p7,0)))
noncomputable def ZbF (a0:Int):Option ((Arr 4)×Int) :=
 (Zas (IntKind.u64.wrap (bits .and .u32 a0 16777215))).bind fun y1=>(if ¬ (bits .and .u32 a0 8388608=0) then some ((zA 4,120)) else(if IntKind.i64.wrap ((a0).fdiv 16777216)<3 then(Zbh y1 (IntKind.i64.wrap (8 * (IntKind.i64.wrap (3-(IntKind.i64.wrap ((a0).fdiv 16777216))))))).bind fun y9=>ZdU y9 else(Zca y1).bind fun y10=>((if ¬ (y10=true) then(Zcb y1).bind fun y11=>some (decide (256<IntKind.i64.wrap (y11+(IntKind.i64.wrap (8 * (IntKind.i64.wrap ((IntKind.i64.wrap ((a0).fdiv 16777216))-3))))))) else some (false))).bind fun z12=>(if (¬ (y10=true)∧z12=true) then some ((zA 4,120)) else(ZfL y1 (IntKind.i64.wrap (8 * (IntKind.i64.wrap ((IntKind.i64.wrap ((a0).fdiv 16777216))-3))))).bind fun y13=>ZdU y13)))
noncomputable def ZgH (a0:Tapi_Params):Option Bool :=
 (ZbF a0.1.2.2.2.2.1).bind fun y16=>((if y16.2=0 then(Xk y16.1 a0.2.1).bind fun y17=>some (decide (y17≤0)) else some (false))).bind fun z18=>some ((decide (y16.2=0) && z18))
noncomputable def Zi1 (a0:Tapi_Params):Int→Option ((Int) ⊕ (Bool))
 | p11=>(if p11<(a0.2.2.2.2.2.2.1.length:Int) then(idx (a0.2.2.2.2.2.2.1) (p11)).bind fun x19=>((if (x19.1<1∨16777216<x19.1) then some (false) else((if 0<p11 then(idx (a0.2.2.2.2.2.2.1) (IntKind.i64.wrap (p11-1))).bind fun x20=>some (decide (x19.1≤x20.1)) else some (false))).bind fun z21=>some ((decide (0<p11) && z21)))).bind fun z22=>(if ((x19.1<1∨16777216<x19.1)∨z22=true) then some (.inr (false)) else some (.inl (IntKind.i64.wrap (p11+1)))) else(ZgH a0).map Sum.inr)
noncomputable def Xp (a0:Tapi_Params):Option (Bool) :=
 (Zca a0.2.1).bind fun y1=>(if ((((y1=true∨a0.2.2.1<1)∨4096<a0.2.2.1)∨a0.2.2.2.1<1)∨1048576<a0.2.2.2.1) then some (false) else(if (((((a0.2.2.2.2.2.2.2.1<0∨2100000000000000<a0.2.2.2.2.2.2.2.1)∨a0.2.2.2.2.2.2.2.2.1<1)∨16777216<a0.2.2.2.2.2.2.2.2.1)∨a0.2.2.2.2.2.2.2.2.2<0)∨16777216<a0.2.2.2.2.2.2.2.2.2) then some (false) else Ze (Zi1 a0) 0))
noncomputable def ZhD (p5:Int):Option Int :=
 some (p5)
noncomputable def Lref23_Subsidy_s1:(Int×Int)→Option ((Int×Int) ⊕ (Int))
 | (p5,p6)=>(if (0<p6∧0<p5) then some (.inl (IntKind.i64.wrap ((p5).tdiv 2),IntKind.i64.wrap (p6-1))) else(ZhD p5).map Sum.inr)
noncomputable def Zb1 (a0:Tapi_Params) (a1:Int):Option (Int) :=
 (Xp a0).bind fun y1=>(if (¬ (y1=true)∨a1<0) then some (0) else(chk (a0.2.2.2.2.2.2.2.2.1≠0)).bind fun _=>Ze (Lref23_Subsidy_s1) (a0.2.2.2.2.2.2.2.1,IntKind.i64.wrap ((a1).tdiv a0.2.2.2.2.2.2.2.2.1)))
noncomputable def ZeP (p11:(List Int)):Option (List Int) :=
 some (p11)
noncomputable def Yp (a0:Tapi_Header):(Int×(List Int))→Option ((Int×(List Int)) ⊕ ((List Int)))
 | (p10,p11)=>(if p10<(3:Int) then(inA (3) (p10)).bind fun j15=>(([a0.2.2.2.1,a0.2.2.2.2.1,a0.2.2.2.2.2])[j15]?).bind fun x16=>(Z2 p11 x16).bind fun y17=>some (.inl (IntKind.i64.wrap (p10+1),y17)) else(ZeP p11).map Sum.inr)
noncomputable def XB (a0:Tapi_Header):Option ((List Int)) :=
 (Z2 ([]:(List Int)) a0.1).bind fun y1=>(YC y1 a0.2.1).bind fun y2=>(YC y2 a0.2.2.1).bind fun y3=>Ze (Yp a0) (0,y3)
noncomputable def ZaB (a0:Tapi_Header):Option ((Arr 32)) :=
 (XB a0).bind fun y1=>(ZaI y1).bind fun y2=>some (y2)
noncomputable def ZgC (p9:(Arr 4)):Option (Arr 4) :=
 some (p9)
noncomputable def ZgD (a0:(Arr 32)):(Int×(Arr 4))→Option ((Int×(Arr 4)) ⊕ ((Arr 4)))
 | (p8,p9)=>(if p8<32 then(inA (4) (IntKind.i64.wrap ((IntKind.i64.wrap (31-p8)).tdiv 8))).bind fun j13=>(inA (32) (p8)).bind fun j14=>(chk (¬ (IntKind.i64.wrap (8 * ((IntKind.i64.wrap (31-p8)).tmod 8))<0))).bind fun _=>some (.inl (IntKind.i64.wrap (p8+1),p9.put j13 (bits .or .u64 (p9.at j13) (IntKind.u64.wrap ((IntKind.u64.wrap (a0.at j14)) * (2 ^ (min (IntKind.i64.wrap (8 * ((IntKind.i64.wrap (31-p8)).tmod 8))).toNat 64))))))) else(ZgC p9).map Sum.inr)
noncomputable def ZaS (a0:(Arr 32)):Option ((Arr 4)) :=
 Ze (ZgD a0) (0,zA 4)
noncomputable def ZdV (a0:(Arr 32)) (a1:Int):Option (Bool) :=
 (ZbF a1).bind fun y1=>((if y1.2=0 then(ZaS a0).bind fun y2=>(Xk y2 y1.1).bind fun y3=>some (decide (y3≤0)) else some (false))).bind fun z4=>some ((decide (y1.2=0) && z4))
noncomputable def Zio (p29:(List Int)):Option Int :=
 (if (p29.length:Int)=0 then some (0) else(inA (p29.length) (IntKind.i64.wrap (((p29.length:Int)).tdiv 2))).bind fun j46=>((p29)[j46]?).bind fun x47=>some (x47))
noncomputable def ZdW (p56:Int) (p29:(List Int)) (p28:Int) (x48:Int):Option ((Int×(List Int)) ⊕ (Int)) :=
 (chk (p56≤(p29.length:Int)∧0≤p56)).bind fun _=>(chk (0≤p56∧p56≤(p29.length:Int))).bind fun _=>(chk (1+(((p29).drop (p56).toNat).take (p29.length-(p56).toNat)).length≤35184372088832)).bind fun _=>(chk ((p56).toNat+1+(((p29).drop (p56).toNat).take (p29.length-(p56).toNat)).length≤35184372088832)).bind fun _=>some (.inl (IntKind.i64.wrap (p28+1),(p29).take (p56).toNat++([x48]++((p29).drop (p56).toNat).take (p29.length-(p56).toNat))))
noncomputable def Zip (p29:(List Int)) (x48:Int) (p28:Int):Int→Option ((Int) ⊕ ((Int×(List Int)) ⊕ (Int)))
 | p56=>((if p56<(p29.length:Int) then(inA (p29.length) (p56)).bind fun j64=>((p29)[j64]?).bind fun x65=>some (decide (x65≤x48)) else some (false))).bind fun z66=>(if (p56<(p29.length:Int)∧z66=true) then some (.inl (IntKind.i64.wrap (p56+1))) else(ZdW p56 p29 p28 x48).map Sum.inr)
noncomputable def Ziq (a0:(List Int)):(Int×(List Int))→Option ((Int×(List Int)) ⊕ (Int))
 | (p28,p29)=>(if p28<(a0.length:Int) then(idx (a0) (p28)).bind fun x48=>Ze (Zip p29 x48 p28) 0 else(Zio p29).map Sum.inr)
noncomputable def ZcX (a0:(List Int)):Option (Int) :=
 Ze (Ziq a0) (0,[])
noncomputable def Zgo (a0:Tapi_Tx):Option ((Arr 32)) :=
 (Zaz a0).bind fun y1=>(if ¬ (y1=true) then some (zA 32) else(ZaG a0 true).bind fun y2=>(ZaI y2).bind fun y3=>some (y3))
noncomputable def Zgp (a0:(Arr 32)) (a1:(Arr 32)):Option ((Arr 32)) :=
 (Xt [[1],a0.l,a1.l]).bind fun y1=>(Y9 y1).bind fun y2=>some (y2)
noncomputable def ZfM (p52:(List (List (Arr 32)))):Option (List (List (Arr 32))) :=
 some (p52)
noncomputable def ZdX (p52:(List (List (Arr 32)))) (p92:(List (Arr 32))):Option (((List (Arr 32))×(List (List (Arr 32)))) ⊕ ((List (List (Arr 32))))) :=
 (chk (p52.length+1≤5864062014805)).bind fun _=>some (.inl (p92,p52++[p92]))
noncomputable def Zb2 (p91:Int) (p107:(List (Arr 32))):Option ((Int×(List (Arr 32))) ⊕ (((List (Arr 32))×(List (List (Arr 32)))) ⊕ ((List (List (Arr 32)))))) :=
 some (.inl (IntKind.i64.wrap (p91+2),p107))
noncomputable def ZdY (p51:(List (Arr 32))) (p52:(List (List (Arr 32)))):(Int×(List (Arr 32)))→Option ((Int×(List (Arr 32))) ⊕ (((List (Arr 32))×(List (List (Arr 32)))) ⊕ ((List (List (Arr 32))))))
 | (p91,p92)=>(if p91<(p51.length:Int) then(if IntKind.i64.wrap (p91+1)<(p51.length:Int) then(idx (p51) (p91)).bind fun x108=>(idx (p51) (IntKind.i64.wrap (p91+1))).bind fun x109=>(Zgp x108 x109).bind fun y110=>(chk (p92.length+1≤4398046511104)).bind fun _=>Zb2 p91 (p92++[y110]) else(idx (p51) (p91)).bind fun x112=>(chk (p92.length+1≤4398046511104)).bind fun _=>Zb2 p91 (p92++[x112])) else(ZdX p52 p92).map Sum.inr)
noncomputable def Lref07_levels_s1:((List (Arr 32))×(List (List (Arr 32))))→Option (((List (Arr 32))×(List (List (Arr 32)))) ⊕ ((List (List (Arr 32)))))
 | (p51,p52)=>(if 1<(p51.length:Int) then Ze (ZdY p51 p52) (0,[]) else(ZfM p52).map Sum.inr)
noncomputable def ZbG (a0:(List (Arr 32))):Option ((List (List (Arr 32)))) :=
 Ze (Lref07_levels_s1) (a0,[a0])
noncomputable def Zdj (a0:(List (Arr 32))):Option ((Arr 32)) :=
 (if ((a0.length:Int)=0∨1024<(a0.length:Int)) then some (zA 32) else(ZbG a0).bind fun y1=>(inA (y1.length) (IntKind.i64.wrap ((y1.length:Int)-1))).bind fun j2=>((y1)[j2]?).bind fun x3=>((x3)[0]?).bind fun x4=>some (x4))
noncomputable def Zfc (p9:(List (Arr 32))):Option (Arr 32) :=
 (Zdj p9).bind fun y13=>some (y13)
noncomputable def Zfd (a0:(List Tapi_Tx)):(Int×(List (Arr 32)))→Option ((Int×(List (Arr 32))) ⊕ ((Arr 32)))
 | (p8,p9)=>(if p8<(a0.length:Int) then(idx (a0) (p8)).bind fun x14=>(Zgo x14).bind fun y15=>(chk (p9.length+1≤4398046511104)).bind fun _=>some (.inl (IntKind.i64.wrap (p8+1),p9++[y15])) else(Zfc p9).map Sum.inr)
noncomputable def Zcc (a0:(List Tapi_Tx)):Option ((Arr 32)) :=
 Ze (Zfd a0) (0,[])
noncomputable def Zf7 (a0:Int):Option (Int) :=
 some (IntKind.u32.wrap (20+(IntKind.u32.wrap ((IntKind.u32.wrap ((a0).tmod 8)) * 15))))
noncomputable def ZhE (a0:Tapi_OutPoint) (a1:Tapi_OutPoint):Option Int :=
 (if a0.2<a1.2 then some ((-1)) else(if a1.2<a0.2 then some (1) else some (0)))
noncomputable def ZhF (a0:Tapi_OutPoint) (a1:Tapi_OutPoint):Int→Option ((Int) ⊕ (Int))
 | p3=>(if p3<32 then(inA (32) (p3)).bind fun j5=>(if a0.1.at j5<a1.1.at j5 then some (.inr ((-1))) else(if a1.1.at j5<a0.1.at j5 then some (.inr (1)) else some (.inl (IntKind.i64.wrap (p3+1))))) else(ZhE a0 a1).map Sum.inr)
noncomputable def Xc (a0:Tapi_OutPoint) (a1:Tapi_OutPoint):Option (Int) :=
 Ze (ZhF a0 a1) 0
noncomputable def Lref23_Sound_k1:Option Bool :=
 some (true)
noncomputable def Zi2 (a0:Tapi_Ledger):(Int×Int)→Option ((Int×Int) ⊕ (Bool))
 | (p11,p12)=>(if p12<(a0.2.2.length:Int) then(idx (a0.2.2) (p12)).bind fun x17=>((if 0<p12 then(idx (a0.2.2) (IntKind.i64.wrap (p12-1))).bind fun x18=>(Xc x18.1 x17.1).bind fun y19=>some (decide (0≤y19)) else some (false))).bind fun z20=>(if (((0<p12∧z20=true)∨x17.2.2.1<1)∨a0.1<x17.2.2.1) then some (.inr (false)) else(if ((x17.2.1.1<0∨2100000000000000<x17.2.1.1)∨520<(x17.2.1.2.length:Int)) then some (.inr (false)) else(if 2100000000000000<IntKind.i64.wrap (p11+x17.2.1.1) then some (.inr (false)) else some (.inl (IntKind.i64.wrap (p11+x17.2.1.1),IntKind.i64.wrap (p12+1)))))) else(Lref23_Sound_k1).map Sum.inr)
noncomputable def ZdZ (a0:Tapi_Ledger):Option (Bool) :=
 (if ((a0.1<0∨16777216<a0.1)∨100000<(a0.2.2.length:Int)) then some (false) else Ze (Zi2 a0) (0,0))
noncomputable def Zem (a0:Tapi_Tx) (a1:Bool):Option ((List Int)×Int) :=
 (Zaz a0).bind fun y1=>(if ¬ (y1=true) then some ((([]:(List Int)),4)) else(ZaG a0 a1).bind fun y2=>some ((y2,0)))
noncomputable def Zir (p12:(List Int)):Option (List Int) :=
 some (p12)
noncomputable def ZfN (a0:Tapi_Block):(Int×(List Int))→Option ((Int×(List Int)) ⊕ ((List Int)))
 | (p11,p12)=>(if p11<(a0.2.length:Int) then(idx (a0.2) (p11)).bind fun x16=>(Zem x16 true).bind fun y17=>(chk (p12.length+y17.1.length≤140737488355328)).bind fun _=>some (.inl (IntKind.i64.wrap (p11+1),p12++y17.1)) else(Zir p12).map Sum.inr)
noncomputable def Zen (a0:Tapi_Block):Option ((List Int)) :=
 (XB a0.1).bind fun y1=>(YQ y1 (IntKind.u64.wrap ((a0.2.length:Int)))).bind fun y2=>Ze (ZfN a0) (0,y2)
noncomputable def Zdv (a0:Tapi_Block):Option Bool :=
 (Zen a0).bind fun y9=>some (decide ((y9.length:Int)≤100000))
noncomputable def Xu (a0:Tapi_Block):Int→Option ((Int) ⊕ (Bool))
 | p6=>(if p6<(a0.2.length:Int) then(idx (a0.2) (p6)).bind fun x10=>(Zaz x10).bind fun y11=>(if ¬ (y11=true) then some (.inr (false)) else some (.inl (IntKind.i64.wrap (p6+1)))) else(Zdv a0).map Sum.inr)
noncomputable def Zgq (a0:Tapi_Block):Option (Bool) :=
 (if 256<(a0.2.length:Int) then some (false) else Ze (Xu a0) 0)
noncomputable def Lref11_place_k1:Option Int :=
 some ((-1))
noncomputable def Zbi (a0:(List (Arr 32))) (a1:(Arr 32)):Int→Option ((Int) ⊕ (Int))
 | p4=>(if p4<(a0.length:Int) then(idx (a0) (p4)).bind fun x6=>(if x6=a1 then some (.inr (p4)) else some (.inl (IntKind.i64.wrap (p4+1)))) else(Lref11_place_k1).map Sum.inr)
noncomputable def Zbj (a0:(List (Arr 32))) (a1:(Arr 32)):Option (Int) :=
 Ze (Zbi a0 a1) 0
noncomputable def Lref11_forward_k1:Option Bool :=
 some (false)
noncomputable def Zbt (p20:Int):Option ((Int) ⊕ (Bool)) :=
 some (.inl (IntKind.i64.wrap (p20+1)))
noncomputable def Zbu (x30:Tapi_Tx) (a1:(List (Arr 32))) (p20:Int):Int→Option ((Int) ⊕ ((Int) ⊕ (Bool)))
 | p36=>(if p36<(x30.2.1.length:Int) then(idx (x30.2.1) (p36)).bind fun x39=>(Zbj a1 x39.1.1).bind fun y40=>(if p20≤y40 then some (.inr (.inr (true))) else some (.inl (IntKind.i64.wrap (p36+1)))) else(Zbt p20).map Sum.inr)
noncomputable def Zc3 (a0:Tapi_Block) (a1:(List (Arr 32))):Int→Option ((Int) ⊕ (Bool))
 | p20=>(if p20<(a0.2.length:Int) then(idx (a0.2) (p20)).bind fun x30=>Ze (Zbu x30 a1 p20) 0 else(Lref11_forward_k1).map Sum.inr)
noncomputable def ZaZ (a0:Tapi_Block) (a1:(List (Arr 32))):Option (Bool) :=
 Ze (Zc3 a0 a1) 0
noncomputable def Lref11_twice_k1:Option Bool :=
 some (false)
noncomputable def ZcG (p69:Int) (p130:(List Tapi_OutPoint)):Option ((Int×(List Tapi_OutPoint)) ⊕ (Bool)) :=
 some (.inl (IntKind.i64.wrap (p69+1),p130))
noncomputable def XJ (p130:(List Tapi_OutPoint)) (p129:Int) (x141:Tapi_Input):Option ((Int×(List Tapi_OutPoint)) ⊕ ((Int×(List Tapi_OutPoint)) ⊕ (Bool))) :=
 (chk (p130.length+1≤3909374676536)).bind fun _=>some (.inl (IntKind.i64.wrap (p129+1),p130++[x141.1]))
noncomputable def XK (p130:(List Tapi_OutPoint)) (x141:Tapi_Input) (p129:Int):Int→Option ((Int) ⊕ ((Int×(List Tapi_OutPoint)) ⊕ ((Int×(List Tapi_OutPoint)) ⊕ (Bool))))
 | p147=>(if p147<(p130.length:Int) then(inA (p130.length) (p147)).bind fun j151=>((p130)[j151]?).bind fun x152=>(if (x152.1=x141.1.1∧x152.2=x141.1.2) then some (.inr (.inr (.inr (true)))) else some (.inl (IntKind.i64.wrap (p147+1)))) else(XJ p130 p129 x141).map Sum.inr)
noncomputable def Zbk (x106:Tapi_Tx) (p69:Int):(Int×(List Tapi_OutPoint))→Option ((Int×(List Tapi_OutPoint)) ⊕ ((Int×(List Tapi_OutPoint)) ⊕ (Bool)))
 | (p129,p130)=>(if p129<(x106.2.1.length:Int) then(idx (x106.2.1) (p129)).bind fun x141=>Ze (XK p130 x141 p129) 0 else(ZcG p69 p130).map Sum.inr)
noncomputable def Zey (a0:Tapi_Block):(Int×(List Tapi_OutPoint))→Option ((Int×(List Tapi_OutPoint)) ⊕ (Bool))
 | (p69,p70)=>(if p69<(a0.2.length:Int) then(idx (a0.2) (p69)).bind fun x106=>Ze (Zbk x106 p69) (0,p70) else(Lref11_twice_k1).map Sum.inr)
noncomputable def Zct (a0:Tapi_Block):Option (Bool) :=
 Ze (Zey a0) (0,[])
noncomputable def XL (a0:Tapi_Block) (p28:(List (Arr 32))):Option Int :=
 (ZaZ a0 p28).bind fun y33=>(if y33=true then some (101) else(Zct a0).bind fun y34=>(if y34=true then some (91) else(Zcc a0.2).bind fun y35=>(if ¬ (y35=a0.1.2.2.1) then some (110) else some (0))))
noncomputable def Zbl (a0:Tapi_Block):(Int×(List (Arr 32)))→Option ((Int×(List (Arr 32))) ⊕ (Int))
 | (p27,p28)=>(if p27<(a0.2.length:Int) then(idx (a0.2) (p27)).bind fun x36=>(Zfz x36).bind fun y37=>(Zbj p28 y37).bind fun y38=>(if 0≤y38 then some (.inr (91)) else(chk (p28.length+1≤4398046511104)).bind fun _=>some (.inl (IntKind.i64.wrap (p27+1),p28++[y37]))) else(XL a0 p28).map Sum.inr)
noncomputable def XM (a0:Tapi_Block):Option Int :=
 Ze (Zbl a0) (0,[])
noncomputable def ZcH (a0:Tapi_Block):Int→Option ((Int) ⊕ (Int))
 | p15=>(if p15<(a0.2.length:Int) then(idx (a0.2) (p15)).bind fun x40=>(ZdO x40).bind fun y41=>(if ¬ (y41=0) then some (.inr (y41)) else some (.inl (IntKind.i64.wrap (p15+1)))) else(XM a0).map Sum.inr)
noncomputable def Zat (a0:Tapi_Block):Option Int :=
 Ze (ZcH a0) 0
noncomputable def ZcI (a0:Tapi_Block):Int→Option ((Int) ⊕ (Int))
 | p7=>(if p7<(a0.2.length:Int) then(idx (a0.2) (p7)).bind fun x42=>(Zaq x42).bind fun y43=>(if ¬ ((y43 == decide (p7=0))=true) then some (.inr (111)) else some (.inl (IntKind.i64.wrap (p7+1)))) else(Zat a0).map Sum.inr)
noncomputable def ZaC (a0:Tapi_Block):Option (Int) :=
 (Zgq a0).bind fun y1=>(if ¬ (y1=true) then some (4) else(if (a0.2.length:Int)=0 then some (93) else Ze (ZcI a0) 0))
noncomputable def Lref09_Final_k1:Option Bool :=
 some (true)
noncomputable def ZgI (a0:Tapi_Tx):Int→Option ((Int) ⊕ (Bool))
 | p4=>(if p4<(a0.2.1.length:Int) then(idx (a0.2.1) (p4)).bind fun x6=>(if ¬ (x6.2.1=4294967295) then some (.inr (false)) else some (.inl (IntKind.i64.wrap (p4+1)))) else(Lref09_Final_k1).map Sum.inr)
noncomputable def ZaD (a0:Tapi_Tx) (a1:Int):Option (Bool) :=
 (if IntKind.i64.wrap (a0.2.2.2)≤a1 then some (true) else Ze (ZgI a0) 0)
noncomputable def Zfe (a0:Tapi_Params) (a1:Tapi_Ledger) (a2:Tapi_Block):Option (Int) :=
 (Xp a0).bind fun y1=>((if ¬ (y1=true) then some (false) else(ZdZ a1).bind fun y2=>some (!(y2)))).bind fun z3=>(if (¬ (y1=true)∨z3=true) then some (6) else(if a1.1=16777216 then some (4) else(if ¬ (a2.1.2.1=a1.2.1) then some (144) else(ZaC a2).bind fun y4=>(if ¬ (y4=0) then some (y4) else((a2.2)[0]?).bind fun x5=>((x5.2.1)[0]?).bind fun x6=>(if ¬ (IntKind.i64.wrap (x6.2.1)=IntKind.i64.wrap (a1.1+1)) then some (102) else(ZaD x5 (IntKind.i64.wrap (a1.1+1))).bind fun y7=>(if ¬ (y7=true) then some (85) else some (0)))))))
noncomputable def Lref23_find_k1:Option Int :=
 some ((-1))
noncomputable def Zhq (a0:(List Tapi_Coin)) (a1:Tapi_OutPoint):Int→Option ((Int) ⊕ (Int))
 | p4=>(if p4<(a0.length:Int) then(idx (a0) (p4)).bind fun x6=>(if (x6.1.1=a1.1∧x6.1.2=a1.2) then some (.inr (p4)) else some (.inl (IntKind.i64.wrap (p4+1)))) else(Lref23_find_k1).map Sum.inr)
noncomputable def Zdk (a0:(List Tapi_Coin)) (a1:Tapi_OutPoint):Option (Int) :=
 Ze (Zhq a0 a1) 0
noncomputable def Zbm (a0:Tapi_Coin):Option (Tapi_Coin) :=
 (Xt [a0.2.1.2]).bind fun y1=>some ((a0.1,(a0.2.1.1,y1),a0.2.2.1,a0.2.2.2))
noncomputable def ZgJ (p13:(List Tapi_Coin)):Option ((List Tapi_Coin)×Int) :=
 some ((p13,0))
noncomputable def ZgK (p13:(List Tapi_Coin)) (a3:Int) (a0:Tapi_Params):Int→Option ((Int) ⊕ ((List Tapi_Coin)×Int))
 | p24=>(if p24<(p13.length:Int) then(inA (p13.length) (p24)).bind fun j27=>((p13)[j27]?).bind fun x28=>(if (x28.2.2.2=true∧IntKind.i64.wrap (a3-x28.2.2.1)<a0.2.2.2.2.2.2.2.2.2) then some (.inr ((([]:(List Tapi_Coin)),230))) else some (.inl (IntKind.i64.wrap (p24+1)))) else(ZgJ p13).map Sum.inr)
noncomputable def Zez (p13:(List Tapi_Coin)) (a3:Int) (a0:Tapi_Params):Option ((List Tapi_Coin)×Int) :=
 Ze (ZgK p13 a3 a0) 0
noncomputable def Zi3 (a2:Tapi_Tx) (a1:(List Tapi_Coin)) (a3:Int) (a0:Tapi_Params):(Int×(List Tapi_Coin))→Option ((Int×(List Tapi_Coin)) ⊕ ((List Tapi_Coin)×Int))
 | (p12,p13)=>(if p12<(a2.2.1.length:Int) then(idx (a2.2.1) (p12)).bind fun x29=>(Zdk a1 x29.1).bind fun y30=>(if y30<0 then some (.inr ((([]:(List Tapi_Coin)),101))) else(idx (a1) (y30)).bind fun x31=>(Zbm x31).bind fun y32=>(chk (p13.length+1≤1599289640401)).bind fun _=>some (.inl (IntKind.i64.wrap (p12+1),p13++[(y32.1,(y32.2.1.1,y32.2.1.2),y32.2.2.1,y32.2.2.2)]))) else(Zez p13 a3 a0).map Sum.inr)
noncomputable def Zff (a0:Tapi_Params) (a1:(List Tapi_Coin)) (a2:Tapi_Tx) (a3:Int):Option ((List Tapi_Coin)×Int) :=
 Ze (Zi3 a2 a1 a3 a0) (0,[])
noncomputable def Zdw (a0:(List Tapi_Coin)) (a1:Int):Option ((List Tapi_Coin)) :=
 (chk (a1≤(a0.length:Int)∧0≤a1)).bind fun _=>(chk (((a0).take ((a1).toNat)).length≤1599289640401)).bind fun _=>(chk (0≤IntKind.i64.wrap (a1+1)∧IntKind.i64.wrap (a1+1)≤(a0.length:Int))).bind fun _=>(chk (((a0).take ((a1).toNat)).length+((a0).drop ((IntKind.i64.wrap (a1+1)).toNat)).length≤1599289640401)).bind fun _=>some ((a0).take ((a1).toNat)++(a0).drop ((IntKind.i64.wrap (a1+1)).toNat))
noncomputable def ZhG (p10:(List Tapi_Coin)):Option (List Tapi_Coin) :=
 some (p10)
noncomputable def ZhH (a0:Tapi_Tx) (y1:((Arr 32))) (a1:Int):(Int×(List Tapi_Coin))→Option ((Int×(List Tapi_Coin)) ⊕ ((List Tapi_Coin)))
 | (p9,p10)=>(if p9<(a0.2.2.1.length:Int) then(idx (a0.2.2.1) (p9)).bind fun x14=>(Zaq a0).bind fun y15=>(chk (p10.length+1≤1599289640401)).bind fun _=>some (.inl (IntKind.i64.wrap (p9+1),p10++[((y1,IntKind.u32.wrap (p9)),x14,a1,y15)])) else(ZhG p10).map Sum.inr)
noncomputable def Za0 (a0:Tapi_Tx) (a1:Int):Option ((List Tapi_Coin)) :=
 (Zfz a0).bind fun y1=>Ze (ZhH a0 y1 a1) (0,[])
noncomputable def Zju (a1:Tapi_Coin) (p11:(List Tapi_Coin)) (a0:(List Tapi_Coin)):Option (List Tapi_Coin) :=
 (Zbm a1).bind fun y16=>(chk (p11.length+1≤1599289640401)).bind fun _=>(chk (0≤(p11.length:Int)∧(p11.length:Int)≤(a0.length:Int))).bind fun _=>(chk (p11.length+1+((a0).drop (((p11.length:Int)).toNat)).length≤1599289640401)).bind fun _=>some (p11++[(y16.1,(y16.2.1.1,y16.2.1.2),y16.2.2.1,y16.2.2.2)]++(a0).drop (((p11.length:Int)).toNat))
noncomputable def Zdx (p10:Int) (p23:(List Tapi_Coin)):Option ((Int×(List Tapi_Coin)) ⊕ ((List Tapi_Coin))) :=
 some (.inl (IntKind.i64.wrap (p10+1),p23))
noncomputable def Zjv (a0:(List Tapi_Coin)) (a1:Tapi_Coin):(Int×(List Tapi_Coin))→Option ((Int×(List Tapi_Coin)) ⊕ ((List Tapi_Coin)))
 | (p10,p11)=>(if p10<(a0.length:Int) then(idx (a0) (p10)).bind fun x20=>(Xc x20.1 a1.1).bind fun y21=>(if y21<0 then(chk (p11.length+1≤1599289640401)).bind fun _=>Zdx p10 (p11++[x20]) else Zdx p10 p11) else(Zju a1 p11 a0).map Sum.inr)
noncomputable def Zcd (a0:(List Tapi_Coin)) (a1:Tapi_Coin):Option ((List Tapi_Coin)) :=
 Ze (Zjv a0 a1) (0,[])
noncomputable def Zig (p22:(List Tapi_Coin)):Option ((List Tapi_Coin)×Int) :=
 some ((p22,0))
noncomputable def Zkl (y13:((List Tapi_Coin))):((List Tapi_Coin)×Int)→Option (((List Tapi_Coin)×Int) ⊕ ((List Tapi_Coin)×Int))
 | (p22,p23)=>(if p23<(y13.length:Int) then(inA (y13.length) (p23)).bind fun j27=>((y13)[j27]?).bind fun x28=>(Zcd p22 x28).bind fun y29=>some (.inl (y29,IntKind.i64.wrap (p23+1))) else(Zig p22).map Sum.inr)
noncomputable def Zf8 (a1:Tapi_Tx) (a2:Int) (a0:(List Tapi_Coin)):Option ((List Tapi_Coin)×Int) :=
 (Za0 a1 a2).bind fun y13=>Ze (Zkl y13) (a0,0)
noncomputable def Zih (y1:((List Tapi_Coin))) (a0:(List Tapi_Coin)) (a1:Tapi_Tx) (a2:Int):Int→Option ((Int) ⊕ ((List Tapi_Coin)×Int))
 | p9=>(if p9<(y1.length:Int) then(inA (y1.length) (p9)).bind fun j30=>((y1)[j30]?).bind fun x31=>(Zdk a0 x31.1).bind fun y32=>(if 0≤y32 then some (.inr ((([]:(List Tapi_Coin)),91))) else some (.inl (IntKind.i64.wrap (p9+1)))) else(Zf8 a1 a2 a0).map Sum.inr)
noncomputable def Zhr (a0:(List Tapi_Coin)) (a1:Tapi_Tx) (a2:Int):Option ((List Tapi_Coin)×Int) :=
 (Za0 a1 a2).bind fun y1=>Ze (Zih y1 a0 a1 a2) 0
noncomputable def Zi4 (p5:Int):Option Int :=
 some (p5)
noncomputable def Zi5 (a0:(List Tapi_Coin)):(Int×Int)→Option ((Int×Int) ⊕ (Int))
 | (p5,p6)=>(if p6<(a0.length:Int) then(idx (a0) (p6)).bind fun x8=>some (.inl (IntKind.i64.wrap (p5+x8.2.1.1),IntKind.i64.wrap (p6+1))) else(Zi4 p5).map Sum.inr)
noncomputable def Zd0 (a0:(List Tapi_Coin)):Option (Int) :=
 Ze (Zi5 a0) (0,0)
noncomputable def Zgr (a0:Tapi_Params) (a1:Tapi_Context):Option (Bool) :=
 (Xp a0).bind fun y1=>some ((((y1 && decide (0≤a1.1)) && decide (a1.1≤16777216)) && decide ((a1.2.2.2.2.length:Int)=(if 11<IntKind.i64.wrap (a1.1+1) then 11 else IntKind.i64.wrap (a1.1+1)))))
noncomputable def ZhI (a1:Tapi_Context) (y2:((Arr 32))) (a2:Tapi_Header) (p4:Int) (p8:(List Int)):Option (Tapi_Context×Int) :=
 some (((IntKind.i64.wrap (a1.1+1),y2,a2.2.2.2.2.1,p4,p8),0))
noncomputable def Zc4 (a1:Tapi_Context) (a2:Tapi_Header) (y2:((Arr 32))) (p4:Int):Option (Tapi_Context×Int) :=
 (chk (a1.2.2.2.2.length≤35184372088832)).bind fun _=>(chk (a1.2.2.2.2.length+1≤35184372088832)).bind fun _=>(if 11<(a1.2.2.2.2.length+1:Int) then(chk (1≤((a1.2.2.2.2++[a2.2.2.2.1]).length:Int))).bind fun _=>ZhI a1 y2 a2 p4 (((a1.2.2.2.2++[a2.2.2.2.1]).drop 1).take ((a1.2.2.2.2++[a2.2.2.2.1]).length-1)) else ZhI a1 y2 a2 p4 (a1.2.2.2.2++[a2.2.2.2.1]))
noncomputable def Zb3 (a0:Tapi_Params) (a1:Tapi_Context) (a2:Tapi_Header):Option (Tapi_Context×Int) :=
 (Zgr a0 a1).bind fun y1=>(if ¬ (y1=true) then some (((0,zA 32,0,0,([]:(List Int))),6)) else(if a1.1=16777216 then some (((0,zA 32,0,0,([]:(List Int))),4)) else(ZaB a2).bind fun y2=>(chk (a0.2.2.1≠0)).bind fun _=>(if (IntKind.i64.wrap (a1.1+1)).tmod a0.2.2.1=0 then Zc4 a1 a2 y2 a2.2.2.2.1 else Zc4 a1 a2 y2 a1.2.2.2.1)))
noncomputable def Zfg (a0:Int):Option (Tapi_Params) :=
 (Zi0 (zA 4)).bind fun y1=>(Zbh y1 1).bind fun y2=>some (((1,zA 32,zA 32,IntKind.u32.wrap (1000+(IntKind.u32.wrap (a0))),545259519,0),y2,IntKind.i64.wrap (3+(IntKind.i64.wrap ((a0).tmod 5))),5,600,1,([]:(List Tapi_Checkpoint)),1000,IntKind.i64.wrap (4+(IntKind.i64.wrap ((a0).tmod 3))),IntKind.i64.wrap ((a0).tmod 3)))
noncomputable def Zfh (a0:Tapi_Params):Option (Tapi_Ledger×Int) :=
 (Xp a0).bind fun y1=>(if ¬ (y1=true) then some (((0,zA 32,([]:(List Tapi_Coin))),6)) else(ZaB a0.1).bind fun y2=>some (((0,y2,([]:(List Tapi_Coin))),0)))
noncomputable def Zfi (a0:Tapi_Params):Option (Tapi_Context×Int) :=
 (Xp a0).bind fun y1=>(if ¬ (y1=true) then some (((0,zA 32,0,0,([]:(List Int))),6)) else(ZaB a0.1).bind fun y2=>some (((0,y2,a0.1.2.2.2.2.1,a0.1.2.2.2.1,[a0.1.2.2.2.1]),0)))
noncomputable def Zgs (a0:Int):Option (Tlightclientmade_World) :=
 (Zfg a0).bind fun y1=>(Zfh y1).bind fun y2=>(Zfi y1).bind fun y3=>some ((y1,([]:(List Tapi_Block)),[y2.1],[y3.1],([]:(List (List Tapi_Coin)))))
end
section
set_option maxRecDepth 100000
abbrev Tapi_Env:=(Arr 32)×Int×Int
noncomputable def Zcu (p56:Int) (p61:(List Int)) (p65:Int) (p57:Int) (p64:Int) (p59:Bool) (p60:Bool) (rf:(List Int)→Int→Int→Int→Option ((List Int))):Option ((Int×Int×Int×Bool×Bool×(List Int)) ⊕ ((List Int))) :=
 ((if 0<p56 then(inA (p61.length) (IntKind.i64.wrap (p56-1))).bind fun j67=>((p61)[j67]?).bind fun x68=>(inA (p61.length) (p65)).bind fun j69=>((p61)[j69]?).bind fun x70=>(Y6 x68 x70).bind fun y71=>some (!(y71)) else some (false))).bind fun z72=>(if (0<p56∧z72=true) then((none:Option Unit)).bind fun _=>some (.inl (0,p57,p64,p59,p60,p61)) else((none:Option Unit)).bind fun _=>(if IntKind.i64.wrap (0-p56)<IntKind.i64.wrap (p57-0) then(rf p61 p56 0 p64).bind fun y73=>(chk (y73.length=p61.length)).bind fun _=>some (.inl (IntKind.i64.wrap (0+1),p57,p64,decide (IntKind.i64.wrap ((IntKind.i64.wrap (p57-p56)).tdiv 8)≤IntKind.i64.wrap (0-p56)),false,y73)) else(rf p61 (IntKind.i64.wrap (0+1)) p57 p64).bind fun y75=>(chk (y75.length=p61.length)).bind fun _=>some (.inl (p56,0,p64,decide (IntKind.i64.wrap ((IntKind.i64.wrap (p57-p56)).tdiv 8)≤IntKind.i64.wrap (p57-0)),false,y75))))
noncomputable def Zcv (p59:Bool) (p60:Bool) (p56:Int) (p61:(List Int)) (p57:Int) (p64:Int) (rf:(List Int)→Int→Int→Int→Option ((List Int))) (p65:Int) (p66:Int):Option ((Int×Int×Int×Bool×Bool×(List Int)) ⊕ ((List Int))) :=
 (if ((p59=true∧p60=true)∧p66=1) then((none:Option Unit)).bind fun _=>Zcu p56 p61 p65 p57 p64 p59 p60 rf else Zcu p56 p61 p65 p57 p64 p59 p60 rf)
noncomputable def X0 (p59:Bool) (p60:Bool) (p56:Int) (p61:(List Int)) (p57:Int) (rf:(List Int)→Int→Int→Int→Option ((List Int))) (p64:Int):Option ((Int×Int×Int×Bool×Bool×(List Int)) ⊕ ((List Int))) :=
 ((none:Option Unit)).bind fun _=>(if 0=2 then((none:Option Unit)).bind fun _=>Zcv p59 p60 p56 p61 p57 p64 rf (IntKind.i64.wrap ((IntKind.i64.wrap (p57-1))-(IntKind.i64.wrap (0-p56)))) 1 else Zcv p59 p60 p56 p61 p57 p64 rf 0 0)
noncomputable def X4 (a0:(List Int)) (rf:(List Int)→Int→Int→Int→Option ((List Int))):(Int×Int×Int×Bool×Bool×(List Int))→Option ((Int×Int×Int×Bool×Bool×(List Int)) ⊕ ((List Int)))
 | (p56,p57,p58,p59,p60,p61)=>(if IntKind.i64.wrap (p57-p56)≤12 then(Zy p61 p56 p57).bind fun y62=>(chk (y62.length=p61.length)).bind fun _=>(chk (y62.length=a0.length)).bind fun _=>some (.inr (y62)) else(if p58=0 then((none:Option Unit)).bind fun _=>(chk (p61.length=a0.length)).bind fun _=>some (.inr (p61)) else(if ¬ (p59=true) then((none:Option Unit)).bind fun _=>X0 p59 p60 p56 p61 p57 rf (IntKind.i64.wrap (p58-1)) else X0 p59 p60 p56 p61 p57 rf p58)))
noncomputable def Yx (rf:(List Int)→Int→Int→Int→Option ((List Int))) (a0:(List Int)) (a1:Int) (a2:Int) (a3:Int):Option ((List Int)) :=
 Ze (X4 a0 rf) (a1,a2,a3,true,true,a0)
noncomputable def Lslices_pdqsortOrdered_of_uint64w_n:Nat→(List Int)→Int→Int→Int→Option ((List Int))
 | 0,_,_,_,_=>none
 | n+1,a0,a1,a2,a3=>Yx (Lslices_pdqsortOrdered_of_uint64w_n n) a0 a1 a2 a3
noncomputable def YF (a0:(List Int)) (a1:Int) (a2:Int) (a3:Int):Option ((List Int)):=ZpB fun n=>Lslices_pdqsortOrdered_of_uint64w_n n a0 a1 a2 a3
noncomputable def Ys (a0:(List Int)):Option ((List Int)) :=
 (Zds (IntKind.u64.wrap ((a0.length:Int)))).bind fun y1=>(YF a0 0 (a0.length:Int) y1).bind fun y2=>(chk (y2.length=a0.length)).bind fun _=>(chk (y2.length=a0.length)).bind fun _=>some (y2)
noncomputable def ZeA (p11:(List Int)):Option (List Int) :=
 (Ys p11).bind fun y16=>(chk (y16.length=p11.length)).bind fun _=>some (y16)
noncomputable def Zcw (a1:(List (List Int))) (a0:(Arr 2)) (a2:Int) (a3:Int):(Int×(List Int))→Option ((Int×(List Int)) ⊕ ((List Int)))
 | (p10,p11)=>(if p10<(a1.length:Int) then(idx (a1) (p10)).bind fun x18=>(Zjs a0 x18).bind fun y19=>(ZiV y19 (IntKind.u64.wrap ((IntKind.u64.wrap (a2)) * a3))).bind fun y20=>(chk (p11.length+1≤17592186044416)).bind fun _=>some (.inl (IntKind.i64.wrap (p10+1),p11++[y20])) else(ZeA p11).map Sum.inr)
noncomputable def ZcJ (a0:(Arr 2)) (a1:(List (List Int))) (a2:Int) (a3:Int):Option ((List Int)) :=
 Ze (Zcw a1 a0 a2 a3) (0,[])
noncomputable def Ze1 (a0:(Arr 2)) (p13:(List (List Int))) (a3:Int) (a2:Int):Option (Tapi_Filter×Int) :=
 (ZcJ a0 p13 (p13.length:Int) a3).bind fun y18=>(ZbY y18 a2).bind fun y19=>some ((y19.1,y19.2))
noncomputable def Zbv (p11:Int) (p22:(List (ByteArray×Bool))) (p23:(List (List Int))):Option ((Int×(List (ByteArray×Bool))×(List (List Int))) ⊕ (Tapi_Filter×Int)) :=
 some (.inl (IntKind.i64.wrap (p11+1),p22,p23))
noncomputable def Zbw (a1:(List (List Int))) (a0:(Arr 2)) (a3:Int) (a2:Int):(Int×(List (ByteArray×Bool))×(List (List Int)))→Option ((Int×(List (ByteArray×Bool))×(List (List Int))) ⊕ (Tapi_Filter×Int))
 | (p11,p12,p13)=>(if p11<(a1.length:Int) then(idx (a1) (p11)).bind fun x20=>(if ¬ ((XT (ZkL x20) p12).getD false=true) then(chk (p13.length+1≤5864062014805)).bind fun _=>Zbv p11 (ZbQ (ZkL x20) true p12) (p13++[x20]) else Zbv p11 p12 p13) else(Ze1 a0 p13 a3 a2).map Sum.inr)
noncomputable def Zdy (a0:(Arr 2)) (a1:(List (List Int))) (a2:Int) (a3:Int):Option (Tapi_Filter×Int) :=
 (if 4096<(a1.length:Int) then some (((0,([]:(List Int))),4)) else(if (((a3<1∨1099511627776<a3)∨a2<0)∨32<a2) then some (((0,([]:(List Int))),5)) else Ze (Zbw a1 a0 a3 a2) (0,([]:(List (ByteArray×Bool))),[])))
noncomputable def Zce (a0:Tapi_Block):Option (Tapi_Filter×Int) :=
 (ZcW a0).bind fun y1=>(if ¬ (y1.2=0) then some (((0,([]:(List Int))),y1.2)) else(ZeO a0.1).bind fun y2=>(Zjt y2).bind fun y3=>(ZbZ a0).bind fun y4=>(Zdy y3 y4 10 1533).bind fun y5=>some ((y5.1,y5.2)))
noncomputable def ZiG (a0:(List Int)):Option ((List (List Int))) :=
 (if ¬ ((a0.length:Int)=4) then some (([]:(List (List Int)))) else((a0)[2]?).bind fun x1=>some ([[x1]]))
noncomputable def Zfj (a1:Int) (a0:Tapi_Coin) (y1:((List (List Int)))) (p3:Int) (p4:(List Tapi_Output)):Option (Tapi_Tx×Int) :=
 (Zbc (IntKind.u8.wrap ((a1).tdiv 4))).bind fun y5=>(chk (p4.length+1≤4398046511104)).bind fun _=>some (((1,[(a0.1,IntKind.u32.wrap (a1),y1)],p4++[(p3,y5)],0),(if a0.2.1.1<IntKind.i64.wrap ((a1).tmod 3) then a0.2.1.1 else IntKind.i64.wrap ((a1).tmod 3))))
noncomputable def Zgt (a0:Tapi_Coin) (a1:Int):Option (Tapi_Tx×Int) :=
 (ZiG a0.2.1.2).bind fun y1=>(if (a1).tmod 2=1 then(Zbc (IntKind.u8.wrap ((a1).tdiv 2))).bind fun y7=>Zfj a1 a0 y1 (IntKind.i64.wrap ((IntKind.i64.wrap (a0.2.1.1-(if a0.2.1.1<IntKind.i64.wrap ((a1).tmod 3) then a0.2.1.1 else IntKind.i64.wrap ((a1).tmod 3)))).tdiv 3)) [(IntKind.i64.wrap ((IntKind.i64.wrap (a0.2.1.1-(if a0.2.1.1<IntKind.i64.wrap ((a1).tmod 3) then a0.2.1.1 else IntKind.i64.wrap ((a1).tmod 3))))-(IntKind.i64.wrap ((IntKind.i64.wrap (a0.2.1.1-(if a0.2.1.1<IntKind.i64.wrap ((a1).tmod 3) then a0.2.1.1 else IntKind.i64.wrap ((a1).tmod 3)))).tdiv 3))),y7)] else Zfj a1 a0 y1 (IntKind.i64.wrap (a0.2.1.1-(if a0.2.1.1<IntKind.i64.wrap ((a1).tmod 3) then a0.2.1.1 else IntKind.i64.wrap ((a1).tmod 3)))) [])
noncomputable def Zh2 (p147:(List Tapi_Tx)) (p145:Int):Option ((List Tapi_Tx)×Int) :=
 some ((p147,p145))
noncomputable def Y1 (p146:Int) (p288:Int) (p289:(List Tapi_Tx)) (p290:(List Tapi_Coin)):Option ((Int×Int×(List Tapi_Tx)×(List Tapi_Coin)) ⊕ ((List Tapi_Tx)×Int)) :=
 some (.inl (p288,IntKind.u8.wrap (p146+1),p289,p290))
noncomputable def Zcf (p146:Int) (p145:Int) (y294:(Tapi_Tx×Int)) (p147:(List Tapi_Tx)) (p309:(List Tapi_Coin)):Option ((Int) ⊕ ((Int×Int×(List Tapi_Tx)×(List Tapi_Coin)) ⊕ ((List Tapi_Tx)×Int))) :=
 (Y1 p146 (IntKind.i64.wrap (p145+y294.2)) (p147++[(y294.1.1,y294.1.2.1,y294.1.2.2.1,y294.1.2.2.2)]) p309).map Sum.inr
noncomputable def Zcg (y294:(Tapi_Tx×Int)) (y299:((Arr 32))) (a1:Tapi_Ledger) (p146:Int) (p145:Int) (p147:(List Tapi_Tx)):(Int×(List Tapi_Coin))→Option ((Int×(List Tapi_Coin)) ⊕ ((Int) ⊕ ((Int×Int×(List Tapi_Tx)×(List Tapi_Coin)) ⊕ ((List Tapi_Tx)×Int))))
 | (p308,p309)=>(if p308<(y294.1.2.2.1.length:Int) then(inA (y294.1.2.2.1.length) (p308)).bind fun j313=>((y294.1.2.2.1)[j313]?).bind fun x314=>(chk (p309.length+1≤1599289640401)).bind fun _=>some (.inl (IntKind.i64.wrap (p308+1),p309++[((y299,IntKind.u32.wrap (p308)),x314,IntKind.i64.wrap (a1.1+1),false)])) else(Zcf p146 p145 y294 p147 p309).map Sum.inr)
noncomputable def ZeQ (p148:(List Tapi_Coin)) (a2:Int) (p146:Int) (a1:Tapi_Ledger) (a0:Tapi_Params) (p147:(List Tapi_Tx)) (p145:Int):Int→Option ((Int) ⊕ ((Int×Int×(List Tapi_Tx)×(List Tapi_Coin)) ⊕ ((List Tapi_Tx)×Int)))
 | p265=>(if p265<(p148.length:Int) then(chk ((p148.length:Int)≠0)).bind fun _=>(inA (p148.length) ((IntKind.i64.wrap ((IntKind.i64.wrap ((IntKind.i64.wrap (IntKind.u8.wrap ((a2).tdiv 4)))+(IntKind.i64.wrap (p146))))+p265)).tmod (p148.length:Int))).bind fun j292=>((p148)[j292]?).bind fun x293=>(if (x293.2.2.2=true∧IntKind.i64.wrap ((IntKind.i64.wrap (a1.1+1))-x293.2.2.1)<a0.2.2.2.2.2.2.2.2.2) then some (.inl (IntKind.i64.wrap (p265+1))) else(Zgt x293 (IntKind.u8.wrap (a2+p146))).bind fun y294=>(chk (p147.length+1≤2199023255552)).bind fun _=>(chk ((IntKind.i64.wrap ((IntKind.i64.wrap ((IntKind.i64.wrap (IntKind.u8.wrap ((a2).tdiv 4)))+(IntKind.i64.wrap (p146))))+p265)).tmod (p148.length:Int)≤(p148.length:Int)∧0≤(IntKind.i64.wrap ((IntKind.i64.wrap ((IntKind.i64.wrap (IntKind.u8.wrap ((a2).tdiv 4)))+(IntKind.i64.wrap (p146))))+p265)).tmod (p148.length:Int))).bind fun _=>(chk (0≤IntKind.i64.wrap (((IntKind.i64.wrap ((IntKind.i64.wrap ((IntKind.i64.wrap (IntKind.u8.wrap ((a2).tdiv 4)))+(IntKind.i64.wrap (p146))))+p265)).tmod (p148.length:Int))+1)∧IntKind.i64.wrap (((IntKind.i64.wrap ((IntKind.i64.wrap ((IntKind.i64.wrap (IntKind.u8.wrap ((a2).tdiv 4)))+(IntKind.i64.wrap (p146))))+p265)).tmod (p148.length:Int))+1)≤(p148.length:Int))).bind fun _=>(chk (((IntKind.i64.wrap ((IntKind.i64.wrap ((IntKind.i64.wrap (IntKind.u8.wrap ((a2).tdiv 4)))+(IntKind.i64.wrap (p146))))+p265)).tmod (p148.length:Int)).toNat+(((p148).drop (IntKind.i64.wrap (((IntKind.i64.wrap ((IntKind.i64.wrap ((IntKind.i64.wrap (IntKind.u8.wrap ((a2).tdiv 4)))+(IntKind.i64.wrap (p146))))+p265)).tmod (p148.length:Int))+1)).toNat).take (p148.length-(IntKind.i64.wrap (((IntKind.i64.wrap ((IntKind.i64.wrap ((IntKind.i64.wrap (IntKind.u8.wrap ((a2).tdiv 4)))+(IntKind.i64.wrap (p146))))+p265)).tmod (p148.length:Int))+1)).toNat)).length≤1599289640401)).bind fun _=>(Zfz (y294.1.1,y294.1.2.1,y294.1.2.2.1,y294.1.2.2.2)).bind fun y299=>Ze (Zcg y294 y299 a1 p146 p145 p147) (0,(p148).take ((IntKind.i64.wrap ((IntKind.i64.wrap ((IntKind.i64.wrap (IntKind.u8.wrap ((a2).tdiv 4)))+(IntKind.i64.wrap (p146))))+p265)).tmod (p148.length:Int)).toNat++((p148).drop (IntKind.i64.wrap (((IntKind.i64.wrap ((IntKind.i64.wrap ((IntKind.i64.wrap (IntKind.u8.wrap ((a2).tdiv 4)))+(IntKind.i64.wrap (p146))))+p265)).tmod (p148.length:Int))+1)).toNat).take (p148.length-(IntKind.i64.wrap (((IntKind.i64.wrap ((IntKind.i64.wrap ((IntKind.i64.wrap (IntKind.u8.wrap ((a2).tdiv 4)))+(IntKind.i64.wrap (p146))))+p265)).tmod (p148.length:Int))+1)).toNat))) else(Y1 p146 p145 p147 p148).map Sum.inr)
noncomputable def ZeR (a2:Int) (a1:Tapi_Ledger) (a0:Tapi_Params):(Int×Int×(List Tapi_Tx)×(List Tapi_Coin))→Option ((Int×Int×(List Tapi_Tx)×(List Tapi_Coin)) ⊕ ((List Tapi_Tx)×Int))
 | (p145,p146,p147,p148)=>(if p146<(a2).tmod 4 then Ze (ZeQ p148 a2 p146 a1 a0 p147 p145) 0 else(Zh2 p147 p145).map Sum.inr)
noncomputable def YN (a0:Tapi_Params) (a1:Tapi_Ledger) (a2:Int):Option ((List Tapi_Tx)×Int) :=
 (chk (a1.2.2.length≤1599289640401)).bind fun _=>Ze (ZeR a2 a1 a0) (0,0,[],a1.2.2)
noncomputable def Zii (p49:(Arr 8)):Option ((Arr 4)×(Arr 4)) :=
 some (((zA 4).over ((p49.l).drop 4),(zA 4).over ((p49.l).take 4)))
noncomputable def Zf9 (p48:Int) (p90:(Arr 8)) (p88:Int):Option ((Int×(Arr 8)) ⊕ ((Arr 4)×(Arr 4))) :=
 (inA (8) (IntKind.i64.wrap (p48+4))).bind fun j97=>some (.inl (IntKind.i64.wrap (p48+1),p90.put j97 p88))
noncomputable def Zkm (p48:Int) (a0:(Arr 4)) (a1:(Arr 4)):(Int×Int×(Arr 8))→Option ((Int×Int×(Arr 8)) ⊕ ((Int×(Arr 8)) ⊕ ((Arr 4)×(Arr 4))))
 | (p88,p89,p90)=>(if p89<4 then(inA (4) (p48)).bind fun j98=>(inA (4) (p89)).bind fun j99=>(XZ (a0.at j98) (a1.at j99)).bind fun y100=>(inA (8) (IntKind.i64.wrap (p48+p89))).bind fun j101=>(Xl (p90.at j101) y100.2 0).bind fun y102=>(Xl y102.1 p88 0).bind fun y103=>some (.inl (IntKind.u64.wrap ((IntKind.u64.wrap (y100.1+y102.2))+y103.2),IntKind.i64.wrap (p89+1),p90.put j101 y103.1)) else(Zf9 p48 p90 p88).map Sum.inr)
noncomputable def Zkn (a0:(Arr 4)) (a1:(Arr 4)):(Int×(Arr 8))→Option ((Int×(Arr 8)) ⊕ ((Arr 4)×(Arr 4)))
 | (p48,p49)=>(if p48<4 then Ze (Zkm p48 a0 a1) (0,0,p49) else(Zii p49).map Sum.inr)
noncomputable def Zhs (a0:(Arr 4)) (a1:(Arr 4)):Option ((Arr 4)×(Arr 4)) :=
 Ze (Zkn a0 a1) (0,zA 8)
noncomputable def Zko (p28:(Arr 4)) (p29:(Arr 4)):Option ((Arr 4)×(Arr 4)×Bool) :=
 some ((p28,p29,true))
noncomputable def Zga (p27:Int) (p50:(Arr 4)) (p51:(Arr 4)):Option ((Int×(Arr 4)×(Arr 4)) ⊕ ((Arr 4)×(Arr 4)×Bool)) :=
 some (.inl (IntKind.i64.wrap (p27-1),p50,p51))
noncomputable def Zeo (y41:(Bool)) (a2:(Arr 4)) (p27:Int) (p28:(Arr 4)) (p44:(Arr 4)):Option ((Int×(Arr 4)×(Arr 4)) ⊕ ((Arr 4)×(Arr 4)×Bool)) :=
 ((if y41=true then some (false) else(Xk p44 a2).bind fun y45=>some (decide (0≤y45)))).bind fun z46=>(if (y41=true∨z46=true) then(Zhp p44 a2).bind fun y52=>(inA (4) (IntKind.i64.wrap ((p27).tdiv 64))).bind fun j53=>(chk (¬ ((p27).tmod 64<0))).bind fun _=>Zga p27 (p28.put j53 (bits .or .u64 (p28.at j53) (IntKind.u64.wrap (1 * (2 ^ (min ((p27).tmod 64).toNat 64)))))) y52.1 else Zga p27 p28 p44)
noncomputable def Zkp (a1:(Arr 4)) (a2:(Arr 4)):(Int×(Arr 4)×(Arr 4))→Option ((Int×(Arr 4)×(Arr 4)) ⊕ ((Arr 4)×(Arr 4)×Bool))
 | (p27,p28,p29)=>(if 0≤p27 then(Zbg p29 255).bind fun y41=>(ZfK p29 p29).bind fun y42=>(Zbg a1 p27).bind fun y43=>(if y43=true then Zeo y41 a2 p27 p28 (y42.1.put 0 (bits .or .u64 (y42.1.at 0) 1)) else Zeo y41 a2 p27 p28 y42.1) else(Zko p28 p29).map Sum.inr)
noncomputable def Zht (a0:(Arr 4)) (a1:(Arr 4)) (a2:(Arr 4)):Option ((Arr 4)×(Arr 4)×Bool) :=
 (Xk a2 a0).bind fun y1=>(if y1≤0 then some ((zA 4,zA 4,false)) else Ze (Zkp a1 a2) (255,zA 4,a0))
noncomputable def Zbx (p15:Int) (p20:(Arr 4)):Option ((Int) ⊕ (Int)) :=
 (Zcb p20).bind fun y21=>(if y21≤23 then some (.inr (bits .or .u32 (IntKind.u32.wrap ((IntKind.u32.wrap (p15)) * 16777216)) (IntKind.u32.wrap (p20.at 0)))) else some (.inl (IntKind.i64.wrap (p15+1))))
noncomputable def ZhJ (a0:(Arr 4)):Int→Option ((Int) ⊕ (Int))
 | p15=>(if p15≤3 then(ZfL a0 (IntKind.i64.wrap (8 * (IntKind.i64.wrap (3-p15))))).bind fun y22=>(Zbh y22 (IntKind.i64.wrap (8 * (IntKind.i64.wrap (3-p15))))).bind fun y23=>(Xk y23 a0).bind fun y24=>(if ¬ (y24=0) then some (.inl (IntKind.i64.wrap (p15+1))) else Zbx p15 y22) else(Zbh a0 (IntKind.i64.wrap (8 * (IntKind.i64.wrap (p15-3))))).bind fun y25=>Zbx p15 y25)
noncomputable def Zdz (a0:(Arr 4)):Option (Int) :=
 (Zca a0).bind fun y1=>(if y1=true then some (0) else Ze (ZhJ a0) 1)
noncomputable def Zd1 (p13:(Arr 4)):Option (Int×Int) :=
 (Zdz p13).bind fun y14=>some ((y14,0))
noncomputable def Zd2 (p10:(Arr 4)):Option (Int×Int) :=
 (Zca p10).bind fun y11=>(if y11=true then(Zas 1).bind fun y15=>Zd1 y15 else Zd1 p10)
noncomputable def Zd3 (a0:Tapi_Params) (y2:((Arr 4)×Int)) (p3:Int):Option (Int×Int) :=
 (Zas (if IntKind.u64.wrap (4 * (IntKind.u64.wrap ((IntKind.u64.wrap (a0.2.2.1)) * (IntKind.u64.wrap (a0.2.2.2.1)))))<(if p3<IntKind.u64.wrap ((IntKind.u64.wrap ((IntKind.u64.wrap (a0.2.2.1)) * (IntKind.u64.wrap (a0.2.2.2.1)))).tdiv 4) then IntKind.u64.wrap ((IntKind.u64.wrap ((IntKind.u64.wrap (a0.2.2.1)) * (IntKind.u64.wrap (a0.2.2.2.1)))).tdiv 4) else p3) then IntKind.u64.wrap (4 * (IntKind.u64.wrap ((IntKind.u64.wrap (a0.2.2.1)) * (IntKind.u64.wrap (a0.2.2.2.1))))) else(if p3<IntKind.u64.wrap ((IntKind.u64.wrap ((IntKind.u64.wrap (a0.2.2.1)) * (IntKind.u64.wrap (a0.2.2.2.1)))).tdiv 4) then IntKind.u64.wrap ((IntKind.u64.wrap ((IntKind.u64.wrap (a0.2.2.1)) * (IntKind.u64.wrap (a0.2.2.2.1)))).tdiv 4) else p3))).bind fun y4=>(Zhs y2.1 y4).bind fun y5=>(Zas (IntKind.u64.wrap ((IntKind.u64.wrap (a0.2.2.1)) * (IntKind.u64.wrap (a0.2.2.2.1))))).bind fun y6=>(Zht y5.1 y5.2 y6).bind fun y7=>((if ¬ (y7.2.2=true) then some (false) else(Xk y7.1 a0.2.1).bind fun y8=>some (decide (0<y8)))).bind fun z9=>(if (¬ (y7.2.2=true)∨z9=true) then Zd2 a0.2.1 else Zd2 y7.1)
noncomputable def Zep (a0:Tapi_Params) (a1:Int) (a2:Int) (a3:Int):Option (Int×Int) :=
 (Xp a0).bind fun y1=>(if ¬ (y1=true) then some ((0,6)) else(ZbF a1).bind fun y2=>(if ¬ (y2.2=0) then some ((0,y2.2)) else(if a2<a3 then Zd3 a0 y2 (IntKind.u64.wrap (IntKind.u32.wrap (a3-a2))) else Zd3 a0 y2 0)))
noncomputable def Zd4 (a0:Tapi_Params) (a1:Tapi_Context):Option (Int×Int) :=
 (Xp a0).bind fun y1=>(if ((((¬ (y1=true)∨a1.1<0)∨16777216<a1.1)∨(a1.2.2.2.2.length:Int)=0)∨11<(a1.2.2.2.2.length:Int)) then some ((0,6)) else(chk (a0.2.2.1≠0)).bind fun _=>(if ¬ ((IntKind.i64.wrap (a1.1+1)).tmod a0.2.2.1=0) then some ((a1.2.2.1,0)) else(idx (a1.2.2.2.2) (IntKind.i64.wrap ((a1.2.2.2.2.length:Int)-1))).bind fun x3=>(Zep a0 a1.2.2.1 a1.2.2.2.1 x3).bind fun y4=>some ((y4.1,y4.2))))
noncomputable def Zl7 (a0:Tapi_Params) (a1:Tapi_Context) (a2:(Arr 32)) (y2:(Int)) (a3:Int) (y1:(Int×Int)) (p8:Int):Option Tapi_Header :=
 some ((a0.2.2.2.2.2.1,a1.2.1,a2,IntKind.u32.wrap ((IntKind.u32.wrap (y2+1))+a3),y1.1,p8))
noncomputable def Zjw (a0:Tapi_Params) (a1:Tapi_Context) (a2:(Arr 32)) (y2:(Int)) (a3:Int) (y1:(Int×Int)):Int→Option ((Int) ⊕ (Tapi_Header))
 | p8=>(if p8<20000 then(ZaB (a0.2.2.2.2.2.1,a1.2.1,a2,IntKind.u32.wrap ((IntKind.u32.wrap (y2+1))+a3),y1.1,p8)).bind fun y11=>(ZdV y11 y1.1).bind fun y12=>(if y12=true then some (.inr ((a0.2.2.2.2.2.1,a1.2.1,a2,IntKind.u32.wrap ((IntKind.u32.wrap (y2+1))+a3),y1.1,p8))) else some (.inl (IntKind.u32.wrap (p8+1)))) else(Zl7 a0 a1 a2 y2 a3 y1 p8).map Sum.inr)
noncomputable def Zgu (a0:Tapi_Params) (a1:Tapi_Context) (a2:(Arr 32)) (a3:Int):Option (Tapi_Header) :=
 (Zd4 a0 a1).bind fun y1=>(ZcX a1.2.2.2.2).bind fun y2=>Ze (Zjw a0 a1 a2 y2 a3 y1) 0
noncomputable def Zfk (a0:Tapi_Params) (a1:Tapi_Ledger) (a2:Tapi_Context) (a3:Int):Option (Tapi_Block) :=
 (YN a0 a1 a3).bind fun y1=>(Zb1 a0 (IntKind.i64.wrap (a1.1+1))).bind fun y2=>(Zbc (IntKind.u8.wrap ((a3).tdiv 8))).bind fun y3=>(Zfb (IntKind.i64.wrap (a1.1+1)) (IntKind.i64.wrap (y2+y1.2)) y3).bind fun y4=>(chk (1+y1.1.length≤2199023255552)).bind fun _=>(Zcc ([(y4.1,y4.2.1,y4.2.2.1,y4.2.2.2)]++y1.1)).bind fun y6=>(Zf7 a3).bind fun y7=>(Zgu a0 a2 y6 y7).bind fun y8=>some ((y8,[(y4.1,y4.2.1,y4.2.2.1,y4.2.2.2)]++y1.1))
noncomputable def ZaJ (a0:ByteArray) (a1:(List Int)):Option ((Arr 32)) :=
 (chk (a0.size≤140737488355328)).bind fun _=>(Y9 (Zle a0)).bind fun y2=>(chk (y2.l.length≤140737488355328)).bind fun _=>(chk (y2.l.length+y2.l.length≤140737488355328)).bind fun _=>(chk (y2.l.length+y2.l.length+a1.length≤140737488355328)).bind fun _=>(Y9 (y2.l++y2.l++a1)).bind fun y6=>some (y6)
noncomputable def Zc5 (a0:Tapi_Tx) (p14:(List Int)) (p15:(List Int)) (p29:(List Int)) (a1:Int) (a2:Tapi_Output):Option ((Arr 32)×Int) :=
 (Z2 ([]:(List Int)) a0.1).bind fun y33=>(Y9 p14).bind fun y34=>(YC y33 y34).bind fun y35=>(Y9 p15).bind fun y36=>(YC y35 y36).bind fun y37=>(Y9 p29).bind fun y38=>(YC y37 y38).bind fun y39=>(Z2 y39 a0.2.2.2).bind fun y40=>(Z2 y40 (IntKind.u32.wrap (a1))).bind fun y41=>(Zew a2).bind fun y42=>(chk (y41.length+y42.length≤140737488355328)).bind fun _=>(ZaJ (⟨#[108,105,103,104,116,99,108,105,101,110,116,47,115,112,101,110,100]⟩:ByteArray) (y41++y42)).bind fun y44=>some ((y44,0))
noncomputable def ZhK (a0:Tapi_Tx) (p14:(List Int)) (p15:(List Int)) (a1:Int) (a2:Tapi_Output):(Int×(List Int))→Option ((Int×(List Int)) ⊕ ((Arr 32)×Int))
 | (p28,p29)=>(if p28<(a0.2.2.1.length:Int) then(idx (a0.2.2.1) (p28)).bind fun x45=>(Zew x45).bind fun y46=>(chk (p29.length+y46.length≤140737488355328)).bind fun _=>some (.inl (IntKind.i64.wrap (p28+1),p29++y46)) else(Zc5 a0 p14 p15 p29 a1 a2).map Sum.inr)
noncomputable def Zc6 (a0:Tapi_Tx) (p14:(List Int)) (p15:(List Int)) (a1:Int) (a2:Tapi_Output):Option ((Arr 32)×Int) :=
 Ze (ZhK a0 p14 p15 a1 a2) (0,[])
noncomputable def ZhL (a0:Tapi_Tx) (a1:Int) (a2:Tapi_Output):(Int×(List Int)×(List Int))→Option ((Int×(List Int)×(List Int)) ⊕ ((Arr 32)×Int))
 | (p13,p14,p15)=>(if p13<(a0.2.1.length:Int) then(idx (a0.2.1) (p13)).bind fun x48=>(ZdL x48.1).bind fun y49=>(chk (p14.length+y49.length≤140737488355328)).bind fun _=>(Z2 p15 x48.2.1).bind fun y51=>some (.inl (IntKind.i64.wrap (p13+1),p14++y49,y51)) else(Zc6 a0 p14 p15 a1 a2).map Sum.inr)
noncomputable def ZdA (a0:Tapi_Tx) (a1:Int) (a2:Tapi_Output):Option ((Arr 32)×Int) :=
 (Zaz a0).bind fun y1=>(if ((¬ (y1=true)∨a2.1<0)∨520<(a2.2.length:Int)) then some ((zA 32,4)) else(if (a1<0∨(a0.2.1.length:Int)≤a1) then some ((zA 32,5)) else Ze (ZhL a0 a1 a2) (0,[],([]:(List Int)))))
open Classical in
noncomputable def Za1 (a0:(List Int)) (a1:(List (List Int))) (a2:Tapi_Env):Option (Int) :=
 if ∃ j k,(1≤j∧j≤6)∧(1≤k∧k≤6)∧a0=[1,1,j,5]∧a1=[[k]] then some (if a1=[[a0.getD 2 0]] then 0 else 84) else none
noncomputable def Zfl (a0:Tapi_Tx) (a1:Int) (a2:Tapi_Coin) (a3:Int):Option (Int) :=
 (ZdA a0 a1 a2.2.1).bind fun y1=>(if ¬ (y1.2=0) then some (y1.2) else(idx (a0.2.1) (a1)).bind fun x2=>(if ¬ ((x2.1.1=a2.1.1∧x2.1.2=a2.1.2)) then some (101) else(if ((16777216<a3∨a2.2.2.1<0)∨a3<a2.2.2.1) then some (102) else(Za1 a2.2.1.2 x2.2.2 (y1.1,a3,IntKind.i64.wrap (a3-a2.2.2.1))).bind fun y3=>some (y3))))
noncomputable def Zi6 (y2:(Int×Int)):Option (Int×Int) :=
 some ((y2.1,0))
noncomputable def ZgL (a1:(List Tapi_Coin)) (a0:Tapi_Tx) (a2:Int) (y2:(Int×Int)):Int→Option ((Int) ⊕ (Int×Int))
 | p9=>(if p9<(a1.length:Int) then(idx (a1) (p9)).bind fun x12=>(Zfl a0 p9 x12 a2).bind fun y13=>(if ¬ (y13=0) then some (.inr ((0,y13))) else some (.inl (IntKind.i64.wrap (p9+1)))) else(Zi6 y2).map Sum.inr)
noncomputable def Zfm (a0:Tapi_Tx) (a1:(List Tapi_Coin)) (a2:Int):Option (Int×Int) :=
 (Zaq a0).bind fun y1=>(if y1=true then some ((0,92)) else(Zhl a0 a1).bind fun y2=>(if ¬ (y2.2=0) then some ((0,y2.2)) else(ZaD a0 a2).bind fun y3=>(if ¬ (y3=true) then some ((0,85)) else Ze (ZgL a1 a0 a2 y2) 0)))
noncomputable def ZgZ (a2:Tapi_Block) (a1:Tapi_Ledger) (p50:Int) (p52:(List Tapi_Coin)) (y2:((Arr 32))) (p53:(List Tapi_Coin)):Option (Tapi_Ledger×(List Tapi_Coin)×Int) :=
 ((a2.2)[0]?).bind fun x75=>(Za0 x75 (IntKind.i64.wrap (a1.1+1))).bind fun y76=>(Zd0 y76).bind fun y77=>(if p50<y77 then some (((0,zA 32,([]:(List Tapi_Coin))),([]:(List Tapi_Coin)),231)) else(Zd0 p52).bind fun y78=>(if 2100000000000000<y78 then some (((0,zA 32,([]:(List Tapi_Coin))),([]:(List Tapi_Coin)),90)) else(if 100000<(p52.length:Int) then some (((0,zA 32,([]:(List Tapi_Coin))),([]:(List Tapi_Coin)),4)) else some (((IntKind.i64.wrap (a1.1+1),y2,p52),p53,0)))))
noncomputable def X6 (x79:Tapi_Tx) (a1:Tapi_Ledger) (p51:Int) (p96:Int) (p97:(List Tapi_Coin)) (p98:(List Tapi_Coin)):Option ((Int×Int×(List Tapi_Coin)×(List Tapi_Coin)) ⊕ (Tapi_Ledger×(List Tapi_Coin)×Int)) :=
 (Zhr p97 x79 (IntKind.i64.wrap (a1.1+1))).bind fun y99=>(if ¬ (y99.2=0) then some (.inr (((0,zA 32,([]:(List Tapi_Coin))),([]:(List Tapi_Coin)),y99.2))) else some (.inl (p96,IntKind.i64.wrap (p51+1),y99.1,p98)))
noncomputable def Zg0 (p53:(List Tapi_Coin)) (y100:((List Tapi_Coin)×Int)) (x79:Tapi_Tx) (a1:Tapi_Ledger) (p51:Int) (p50:Int) (y101:(Int×Int)) (p111:(List Tapi_Coin)):Option ((Int×Int×(List Tapi_Coin)×(List Tapi_Coin)) ⊕ (Tapi_Ledger×(List Tapi_Coin)×Int)) :=
 (chk (p53.length+y100.1.length≤1599289640401)).bind fun _=>X6 x79 a1 p51 (IntKind.i64.wrap (p50+y101.1)) p111 (p53++y100.1)
noncomputable def Zg1 (y100:((List Tapi_Coin)×Int)) (p53:(List Tapi_Coin)) (x79:Tapi_Tx) (a1:Tapi_Ledger) (p51:Int) (p50:Int) (y101:(Int×Int)):(Int×(List Tapi_Coin))→Option ((Int×(List Tapi_Coin)) ⊕ ((Int×Int×(List Tapi_Coin)×(List Tapi_Coin)) ⊕ (Tapi_Ledger×(List Tapi_Coin)×Int)))
 | (p110,p111)=>(if p110<(y100.1.length:Int) then(idx (y100.1) (p110)).bind fun x116=>(Zdk p111 x116.1).bind fun y117=>(Zdw p111 y117).bind fun y118=>some (.inl (IntKind.i64.wrap (p110+1),y118)) else(Zg0 p53 y100 x79 a1 p51 p50 y101 p111).map Sum.inr)
noncomputable def Zg2 (a2:Tapi_Block) (a0:Tapi_Params) (a1:Tapi_Ledger) (y2:((Arr 32))):(Int×Int×(List Tapi_Coin)×(List Tapi_Coin))→Option ((Int×Int×(List Tapi_Coin)×(List Tapi_Coin)) ⊕ (Tapi_Ledger×(List Tapi_Coin)×Int))
 | (p50,p51,p52,p53)=>(if p51<(a2.2.length:Int) then(idx (a2.2) (p51)).bind fun x79=>(if 0<p51 then(Zff a0 p52 x79 (IntKind.i64.wrap (a1.1+1))).bind fun y100=>(if ¬ (y100.2=0) then some (.inr (((0,zA 32,([]:(List Tapi_Coin))),([]:(List Tapi_Coin)),y100.2))) else(Zfm x79 y100.1 (IntKind.i64.wrap (a1.1+1))).bind fun y101=>(if ¬ (y101.2=0) then some (.inr (((0,zA 32,([]:(List Tapi_Coin))),([]:(List Tapi_Coin)),y101.2))) else Ze (Zg1 y100 p53 x79 a1 p51 p50 y101) (0,p52))) else X6 x79 a1 p51 p50 p52 p53) else(ZgZ a2 a1 p50 p52 y2 p53).map Sum.inr)
noncomputable def ZcK (a0:Tapi_Params) (a1:Tapi_Ledger) (a2:Tapi_Block):Option (Tapi_Ledger×(List Tapi_Coin)×Int) :=
 (Zfe a0 a1 a2).bind fun y1=>(if ¬ (y1=0) then some (((0,zA 32,([]:(List Tapi_Coin))),([]:(List Tapi_Coin)),y1)) else(ZaB a2.1).bind fun y2=>(Zb1 a0 (IntKind.i64.wrap (a1.1+1))).bind fun y3=>Ze (Zg2 a2 a0 a1 y2) (y3,0,a1.2.2,[]))
noncomputable def Lref14_Checkw_k1:Option Int :=
 some (0)
noncomputable def Zis (a0:Tapi_Params) (y1:(Tapi_Context×Int)):Int→Option ((Int) ⊕ (Int))
 | p8=>(if p8<(a0.2.2.2.2.2.2.1.length:Int) then(idx (a0.2.2.2.2.2.2.1) (p8)).bind fun x10=>(if (x10.1=y1.1.1∧¬ (x10.2=y1.1.2.1)) then some (.inr (143)) else some (.inl (IntKind.i64.wrap (p8+1)))) else(Lref14_Checkw_k1).map Sum.inr)
noncomputable def ZcY (a0:Tapi_Params) (a1:Tapi_Context) (a2:Tapi_Header) (a3:Int):Option (Int) :=
 (Zb3 a0 a1 a2).bind fun y1=>(if ¬ (y1.2=0) then some (y1.2) else(if ¬ (a2.2.1=a1.2.1) then some (144) else(if a2.1<a0.2.2.2.2.2.1 then some (142) else(Zd4 a0 a1).bind fun y2=>(if ¬ (y2.2=0) then some (y2.2) else(if ¬ (a2.2.2.2.2.1=y2.1) then some (130) else(ZdV y1.1.2.1 a2.2.2.2.2.1).bind fun y3=>(if ¬ (y3=true) then some (121) else(ZcX a1.2.2.2.2).bind fun y4=>(if a2.2.2.2.1≤y4 then some (140) else(if IntKind.u64.wrap ((IntKind.u64.wrap (a3))+(IntKind.u64.wrap (a0.2.2.2.2.1)))<IntKind.u64.wrap (a2.2.2.2.1) then some (141) else Ze (Zis a0 y1) 0))))))))
noncomputable def Zjx (a0:Tlightclientmade_World) (p39:(List Tapi_Block)) (p40:(List Tapi_Ledger)) (p41:(List Tapi_Context)) (p42:(List (List Tapi_Coin))):Option Tlightclientmade_World :=
 some ((a0.1,p39,p40,p41,p42))
noncomputable def Zjy (a1:(List Int)) (a0:Tlightclientmade_World):(Int×(List Tapi_Block)×(List Tapi_Ledger)×(List Tapi_Context)×(List (List Tapi_Coin)))→Option ((Int×(List Tapi_Block)×(List Tapi_Ledger)×(List Tapi_Context)×(List (List Tapi_Coin))) ⊕ (Tlightclientmade_World))
 | (p38,p39,p40,p41,p42)=>(if p38<(a1.length:Int) then(idx (a1) (p38)).bind fun x57=>(inA (p40.length) (IntKind.i64.wrap ((p40.length:Int)-1))).bind fun j58=>((p40)[j58]?).bind fun x59=>(inA (p41.length) (IntKind.i64.wrap ((p41.length:Int)-1))).bind fun j60=>((p41)[j60]?).bind fun x61=>(Zfk a0.1 x59 x61 x57).bind fun y62=>(ZcK a0.1 x59 (y62.1,y62.2)).bind fun y63=>((if ¬ (y63.2.2=0) then some (false) else(ZcY a0.1 x61 y62.1 1073741824).bind fun y64=>some (!(decide (y64=0))))).bind fun z65=>(if (¬ (y63.2.2=0)∨z65=true) then some (.inl (IntKind.i64.wrap (p38+1),p39,p40,p41,p42)) else(Zb3 a0.1 x61 y62.1).bind fun y66=>(chk (p39.length+1≤1353245080339)).bind fun _=>(chk (p40.length+1≤2199023255552)).bind fun _=>(chk (p41.length+1≤1954687338268)).bind fun _=>(chk (p42.length+1≤5864062014805)).bind fun _=>some (.inl (IntKind.i64.wrap (p38+1),p39++[(y62.1,y62.2)],p40++[y63.1],p41++[y66.1],p42++[y63.2.1]))) else(Zjx a0 p39 p40 p41 p42).map Sum.inr)
noncomputable def Zgv (a0:Tlightclientmade_World) (a1:(List Int)):Option (Tlightclientmade_World) :=
 (chk (a0.2.1.length≤1353245080339)).bind fun _=>(chk (a0.2.2.2.2.length≤5864062014805)).bind fun _=>(chk (a0.2.2.1.length≤2199023255552)).bind fun _=>(chk (a0.2.2.2.1.length≤1954687338268)).bind fun _=>Ze (Zjy a1 a0) (0,a0.2.1,a0.2.2.1,a0.2.2.2.1,a0.2.2.2.2)
noncomputable def Zfn (a0:Int) (a1:(List Int)):Option (Tlightclientmade_World) :=
 (Zgs a0).bind fun y1=>(Zgv (y1.1,y1.2.1,y1.2.2.1,y1.2.2.2.1,y1.2.2.2.2) a1).bind fun y2=>some ((y2.1,y2.2.1,y2.2.2.1,y2.2.2.2.1,y2.2.2.2.2))
noncomputable def Zhu (a0:(List Int)) (a1:Int):Option ((List Int)) :=
 (chk ((if a1<(a0.length:Int) then a1 else(a0.length:Int))≤(a0.length:Int)∧0≤(if a1<(a0.length:Int) then a1 else(a0.length:Int)))).bind fun _=>some ((a0).take (((if a1<(a0.length:Int) then a1 else(a0.length:Int))).toNat))
end
section
set_option maxRecDepth 100000
abbrev Tapi_Claim:=Int×(Arr 32)
abbrev Tapi_Dispute:=Int×Int×(Arr 32)×(List Tapi_Claim)
noncomputable def Za2 (a0:(List Tapi_Claim)):Option Bool :=
 some (decide ((a0.length:Int)≤64))
noncomputable def Xg (a0:(List Tapi_Claim)):(Int×Int)→Option ((Int×Int) ⊕ (Bool))
 | (p5,p6)=>(if p6<(a0.length:Int) then(idx (a0) (p6)).bind fun x8=>(if x8.1≤p5 then some (.inr (false)) else some (.inl (x8.1,IntKind.i64.wrap (p6+1)))) else(Za2 a0).map Sum.inr)
noncomputable def YW (a0:(List Tapi_Claim)):Option (Bool) :=
 Ze (Xg a0) ((-1),0)
noncomputable def Xm (a0:Int) (a1:Int):Option (Bool) :=
 some (((decide (0≤a0) && decide (a0<a1)) && decide (a1≤16777216)))
noncomputable def Zu (a0:(List Tapi_Claim)):Option (List Tapi_Claim) :=
 (chk (a0.length≤3518437208883)).bind fun _=>some (a0)
noncomputable def Zaf (a0:Int) (a1:(Arr 32)) (a2:Int) (a3:(List Tapi_Claim)):Option (Tapi_Dispute×Int) :=
 ((if (a3.length:Int)=0 then some (false) else(YW a3).bind fun y1=>some (!(y1)))).bind fun z2=>(if ((a3.length:Int)=0∨z2=true) then some (((0,0,zA 32,([]:(List Tapi_Claim))),6)) else(Xm a0 a2).bind fun y3=>(if ¬ (y3=true) then some (((0,0,zA 32,([]:(List Tapi_Claim))),5)) else(Zu a3).bind fun y4=>some (((a0,a2,a1,y4),0))))
noncomputable def YU (a0:Tapi_Dispute):Option (Bool) :=
 (Xm a0.1 a0.2.1).bind fun y1=>((if (y1=true∧0<(a0.2.2.2.length:Int)) then(YW a0.2.2.2).bind fun y2=>some (y2) else some (false))).bind fun z3=>some (((y1 && decide (0<(a0.2.2.2.length:Int))) && z3))
noncomputable def Xq (a0:Tapi_Dispute):Option (Int×Bool) :=
 (YU a0).bind fun y1=>(if ¬ (y1=true) then some ((0,false)) else(if 1<IntKind.i64.wrap (a0.2.1-a0.1) then some ((IntKind.i64.wrap (a0.1+(IntKind.i64.wrap ((IntKind.i64.wrap (a0.2.1-a0.1)).tdiv 2))),false)) else some ((a0.2.1,true))))
noncomputable def Ldispute_agree_k1:Option Bool :=
 some (true)
noncomputable def Zby (a0:(List Tapi_Claim)):Int→Option ((Int) ⊕ (Bool))
 | p5=>(if p5<(a0.length:Int) then(idx (a0) (p5)).bind fun x8=>((a0)[0]?).bind fun x9=>(if ¬ (x8.2=x9.2) then some (.inr (false)) else some (.inl (IntKind.i64.wrap (p5+1)))) else(Ldispute_agree_k1).map Sum.inr)
noncomputable def Zag (a0:(List Tapi_Claim)):Option (Bool) :=
 Ze (Zby a0) 0
noncomputable def YX (p47:(List Int)) (p69:Int) (p70:Int) (p71:(Arr 32)) (p72:(List Tapi_Claim)):Option (Tapi_Dispute×(List Int)×Int) :=
 some (((p69,p70,p71,p72),p47,0))
noncomputable def X7 (p46:(List Tapi_Claim)) (p47:(List Int)) (y4:(Int×Bool)) (a0:Tapi_Dispute) (p45:(List Tapi_Claim)):Option (Tapi_Dispute×(List Int)×Int) :=
 (if (p46.length:Int)=0 then some (((0,0,zA 32,([]:(List Tapi_Claim))),([]:(List Int)),221)) else(Zag p46).bind fun y66=>(if y66=true then(chk (0<p46.length)).bind fun _=>((p46)[0]?).bind fun x74=>YX p47 y4.1 a0.2.1 x74.2 p45 else YX p47 a0.1 y4.1 a0.2.2.1 p46))
noncomputable def YG (p81:Int) (p44:Int) (p90:(List Tapi_Claim)) (p91:(List Tapi_Claim)) (p92:(List Int)):Option ((Int×Int×(List Tapi_Claim)×(List Tapi_Claim)×(List Int)) ⊕ (Tapi_Dispute×(List Int)×Int)) :=
 some (.inl (p81,IntKind.i64.wrap (p44+1),p90,p91,p92))
noncomputable def Xh (p81:Int) (a1:(List Tapi_Claim)) (x75:Tapi_Claim) (p45:(List Tapi_Claim)) (p46:(List Tapi_Claim)) (p44:Int) (p47:(List Int)):Option ((Int×Int×(List Tapi_Claim)×(List Tapi_Claim)×(List Int)) ⊕ (Tapi_Dispute×(List Int)×Int)) :=
 ((if p81<(a1.length:Int) then(idx (a1) (p81)).bind fun x84=>some (decide (x84.1=x75.1)) else some (false))).bind fun z85=>(if (p81<(a1.length:Int)∧z85=true) then(chk (p45.length+1≤3518437208883)).bind fun _=>(idx (a1) (p81)).bind fun x94=>(chk (p46.length+1≤3518437208883)).bind fun _=>YG p81 p44 (p45++[x75]) (p46++[x94]) p47 else(chk (p47.length+1≤17592186044416)).bind fun _=>YG p81 p44 p45 p46 (p47++[x75.1]))
noncomputable def Zcx (a1:(List Tapi_Claim)) (x75:Tapi_Claim) (p45:(List Tapi_Claim)) (p46:(List Tapi_Claim)) (p44:Int) (p47:(List Int)):Int→Option ((Int) ⊕ ((Int×Int×(List Tapi_Claim)×(List Tapi_Claim)×(List Int)) ⊕ (Tapi_Dispute×(List Int)×Int)))
 | p81=>((if p81<(a1.length:Int) then(idx (a1) (p81)).bind fun x97=>some (decide (x97.1<x75.1)) else some (false))).bind fun z98=>(if (p81<(a1.length:Int)∧z98=true) then some (.inl (IntKind.i64.wrap (p81+1))) else(Xh p81 a1 x75 p45 p46 p44 p47).map Sum.inr)
noncomputable def Zcy (a0:Tapi_Dispute) (a1:(List Tapi_Claim)) (y4:(Int×Bool)):(Int×Int×(List Tapi_Claim)×(List Tapi_Claim)×(List Int))→Option ((Int×Int×(List Tapi_Claim)×(List Tapi_Claim)×(List Int)) ⊕ (Tapi_Dispute×(List Int)×Int))
 | (p43,p44,p45,p46,p47)=>(if p44<(a0.2.2.2.length:Int) then(idx (a0.2.2.2) (p44)).bind fun x75=>Ze (Zcx a1 x75 p45 p46 p44 p47) p43 else(X7 p46 p47 y4 a0 p45).map Sum.inr)
noncomputable def XN (a0:Tapi_Dispute) (a1:(List Tapi_Claim)):Option (Tapi_Dispute×(List Int)×Int) :=
 (YU a0).bind fun y1=>((if ¬ (y1=true) then some (false) else(YW a1).bind fun y2=>some (!(y2)))).bind fun z3=>(if (¬ (y1=true)∨z3=true) then some (((0,0,zA 32,([]:(List Tapi_Claim))),([]:(List Int)),6)) else(Xq a0).bind fun y4=>(if y4.2=true then some (((0,0,zA 32,([]:(List Tapi_Claim))),([]:(List Int)),171)) else Ze (Zcy a0 a1 y4) (0,0,[],[],[])))
noncomputable def Zau (a0:Int) (a1:Int):Option (Int) :=
 (if a1≤a0 then some (0) else(Yz (IntKind.u64.wrap ((IntKind.u64.wrap ((IntKind.u64.wrap (a1))-(IntKind.u64.wrap (a0))))-1))).bind fun y1=>some (y1))
noncomputable def Zkq (a0:Tapi_Dispute):Option (Bool) :=
 (YU a0).bind fun y1=>((if y1=true then(Zag a0.2.2.2).bind fun y2=>some (!(y2)) else some (false))).bind fun z3=>some ((y1 && z3))
noncomputable def Llaw22_sane:Option (Bool) :=
 (Zaf 0 (zA 32) 8 [(1,(zA 32).put 0 1),(4,(zA 32).put 0 2)]).bind fun y1=>(Xq y1.1).bind fun y2=>(XN y1.1 [(1,(zA 32).put 0 1),((4,(zA 32).put 0 2).1,(1,(zA 32).put 0 1).2)]).bind fun y3=>(Xq y3.1).bind fun y4=>((if (y1.2=0∧y3.2.2=0) then(Zkq y1.1).bind fun y5=>some (y5) else some (false))).bind fun z6=>((if ((((((y1.2=0∧y3.2.2=0)∧z6=true)∧y2.1=4)∧¬ (y2.2=true))∧(y3.2.1.length:Int)=0)∧y4.1=6) then(Zau 0 8).bind fun y7=>some (decide (y7=3)) else some (false))).bind fun z8=>some ((((((((decide (y1.2=0) && decide (y3.2.2=0)) && z6) && decide (y2.1=4)) && !(y2.2)) && decide ((y3.2.1.length:Int)=0)) && decide (y4.1=6)) && z8))
noncomputable def Lblock_coins_k3:Option Int :=
 some (0)
noncomputable def Zav (p49:Int) (p65:(List (Tapi_OutPoint×Bool))):Option ((Int×(List (Tapi_OutPoint×Bool))) ⊕ (Int)) :=
 some (.inl (IntKind.i64.wrap (p49+1),p65))
noncomputable def ZcL (x59:Tapi_Tx) (p49:Int):(Int×(List (Tapi_OutPoint×Bool)))→Option ((Int×(List (Tapi_OutPoint×Bool))) ⊕ ((Int×(List (Tapi_OutPoint×Bool))) ⊕ (Int)))
 | (p64,p65)=>(if p64<(x59.2.1.length:Int) then(idx (x59.2.1) (p64)).bind fun x67=>(if (XT x67.1 p65).getD false=true then some (.inr (.inr (91))) else some (.inl (IntKind.i64.wrap (p64+1),ZbQ x67.1 true p65))) else(Zav p49 p65).map Sum.inr)
noncomputable def ZgM (a0:(List Tapi_Tx)):(Int×(List (Tapi_OutPoint×Bool)))→Option ((Int×(List (Tapi_OutPoint×Bool))) ⊕ (Int))
 | (p49,p50)=>(if p49<(a0.length:Int) then(idx (a0) (p49)).bind fun x59=>Ze (ZcL x59 p49) (0,p50) else(Lblock_coins_k3).map Sum.inr)
noncomputable def YK (a0:(List Tapi_Tx)):Option Int :=
 Ze (ZgM a0) (0,([]:(List (Tapi_OutPoint×Bool))))
noncomputable def Zbn (p24:Int):Option ((Int) ⊕ (Int)) :=
 some (.inl (IntKind.i64.wrap (p24+1)))
noncomputable def ZgN (x68:Tapi_Tx) (p8:(List ((Arr 32)×Int))) (p24:Int):Int→Option ((Int) ⊕ ((Int) ⊕ (Int)))
 | p72=>(if p72<(x68.2.1.length:Int) then(idx (x68.2.1) (p72)).bind fun x74=>(if ((XT x74.1.1 p8).isSome=true∧p24≤(XT x74.1.1 p8).getD 0) then some (.inr (.inr (101))) else some (.inl (IntKind.i64.wrap (p72+1)))) else(Zbn p24).map Sum.inr)
noncomputable def Zi7 (a0:(List Tapi_Tx)) (p8:(List ((Arr 32)×Int))):Int→Option ((Int) ⊕ (Int))
 | p24=>(if p24<(a0.length:Int) then(idx (a0) (p24)).bind fun x68=>Ze (ZgN x68 p8 p24) 0 else(YK a0).map Sum.inr)
noncomputable def YY (a0:(List Tapi_Tx)) (p8:(List ((Arr 32)×Int))):Option Int :=
 Ze (Zi7 a0 p8) 0
noncomputable def ZcM (a0:(List Tapi_Tx)):(Int×(List ((Arr 32)×Int)))→Option ((Int×(List ((Arr 32)×Int))) ⊕ (Int))
 | (p7,p8)=>(if p7<(a0.length:Int) then(idx (a0) (p7)).bind fun x75=>(Zl6 x75).bind fun y76=>(if (XT y76 p8).isSome=true then some (.inr (91)) else some (.inl (IntKind.i64.wrap (p7+1),ZbQ y76 p7 p8))) else(YY a0 p8).map Sum.inr)
noncomputable def Zfo (a0:(List Tapi_Tx)):Option (Int) :=
 Ze (ZcM a0) (0,([]:(List ((Arr 32)×Int))))
noncomputable def Zjz (a0:Tapi_Tx):Option ((Arr 32)) :=
 (ZfI a0 true).bind fun y1=>some (y1)
noncomputable def Zfp (a0:(Arr 32)) (a1:(Arr 32)):Option ((Arr 32)) :=
 (chk (1+a0.l.length≤140737488355328)).bind fun _=>(chk (1+a0.l.length+a1.l.length≤140737488355328)).bind fun _=>(ZgX ([1]++a0.l++a1.l)).bind fun y3=>some (y3)
noncomputable def Ze2 (p52:(List (List (Arr 32)))):Option (List (List (Arr 32))) :=
 some (p52)
noncomputable def Ze3 (p52:(List (List (Arr 32)))) (p92:(List (Arr 32))):Option (((List (Arr 32))×(List (List (Arr 32)))) ⊕ ((List (List (Arr 32))))) :=
 (chk (p52.length+1≤5864062014805)).bind fun _=>some (.inl (p92,p52++[p92]))
noncomputable def Zc7 (p91:Int) (p107:(List (Arr 32))):Option ((Int×(List (Arr 32))) ⊕ (((List (Arr 32))×(List (List (Arr 32)))) ⊕ ((List (List (Arr 32)))))) :=
 some (.inl (IntKind.i64.wrap (p91+2),p107))
noncomputable def Ze4 (p51:(List (Arr 32))) (p52:(List (List (Arr 32)))):(Int×(List (Arr 32)))→Option ((Int×(List (Arr 32))) ⊕ (((List (Arr 32))×(List (List (Arr 32)))) ⊕ ((List (List (Arr 32))))))
 | (p91,p92)=>(if p91<(p51.length:Int) then(if IntKind.i64.wrap (p91+1)<(p51.length:Int) then(idx (p51) (p91)).bind fun x108=>(idx (p51) (IntKind.i64.wrap (p91+1))).bind fun x109=>(Zfp x108 x109).bind fun y110=>(chk (p92.length+1≤4398046511104)).bind fun _=>Zc7 p91 (p92++[y110]) else(idx (p51) (p91)).bind fun x112=>(chk (p92.length+1≤4398046511104)).bind fun _=>Zc7 p91 (p92++[x112])) else(Ze3 p52 p92).map Sum.inr)
noncomputable def Lmerkle_levels_s1:((List (Arr 32))×(List (List (Arr 32))))→Option (((List (Arr 32))×(List (List (Arr 32)))) ⊕ ((List (List (Arr 32)))))
 | (p51,p52)=>(if 1<(p51.length:Int) then Ze (Ze4 p51 p52) (0,[]) else(Ze2 p52).map Sum.inr)
noncomputable def ZdB (a0:(List (Arr 32))):Option ((List (List (Arr 32)))) :=
 Ze (Lmerkle_levels_s1) (a0,[a0])
noncomputable def Zfq (a0:(List (Arr 32))):Option ((Arr 32)) :=
 (if ((a0.length:Int)=0∨1024<(a0.length:Int)) then some (zA 32) else(ZdB a0).bind fun y1=>(inA (y1.length) (IntKind.i64.wrap ((y1.length:Int)-1))).bind fun j2=>((y1)[j2]?).bind fun x3=>((x3)[0]?).bind fun x4=>some (x4))
noncomputable def Zhv (p9:(List (Arr 32))):Option (Arr 32) :=
 (Zfq p9).bind fun y13=>some (y13)
noncomputable def Zhw (a0:(List Tapi_Tx)):(Int×(List (Arr 32)))→Option ((Int×(List (Arr 32))) ⊕ ((Arr 32)))
 | (p8,p9)=>(if p8<(a0.length:Int) then(idx (a0) (p8)).bind fun x14=>(Zjz x14).bind fun y15=>(chk (p9.length+1≤4398046511104)).bind fun _=>some (.inl (IntKind.i64.wrap (p8+1),p9++[y15])) else(Zhv p9).map Sum.inr)
noncomputable def Zgw (a0:(List Tapi_Tx)):Option ((Arr 32)) :=
 Ze (Zhw a0) (0,[])
noncomputable def ZcN (a0:Tapi_Block):Option Int :=
 (Zfo a0.2).bind fun y18=>(if ¬ (y18=0) then some (y18) else(Zgw a0.2).bind fun y19=>(if ¬ (y19=a0.1.2.2.1) then some (110) else some (0)))
noncomputable def ZgO (a0:Tapi_Block):Int→Option ((Int) ⊕ (Int))
 | p15=>(if p15<(a0.2.length:Int) then(idx (a0.2) (p15)).bind fun x20=>(ZgW x20).bind fun y21=>(if ¬ (y21=0) then some (.inr (y21)) else some (.inl (IntKind.i64.wrap (p15+1)))) else(ZcN a0).map Sum.inr)
noncomputable def ZcO (a0:Tapi_Block):Option Int :=
 Ze (ZgO a0) 0
noncomputable def ZgP (a0:Tapi_Block):Int→Option ((Int) ⊕ (Int))
 | p7=>(if p7<(a0.2.length:Int) then(idx (a0.2) (p7)).bind fun x22=>(Zcp x22).bind fun y23=>(if ¬ ((y23 == decide (p7=0))=true) then some (.inr (111)) else some (.inl (IntKind.i64.wrap (p7+1)))) else(ZcO a0).map Sum.inr)
noncomputable def Zfr (a0:Tapi_Block):Option (Int) :=
 (ZcW a0).bind fun y1=>(if ¬ (y1.2=0) then some (y1.2) else(if (a0.2.length:Int)=0 then some (93) else Ze (ZgP a0) 0))
noncomputable def ZeB (p14:(List Tapi_Claim)) (a0:Tapi_Dispute) (p15:(List Int)):Option (Tapi_Dispute×(List Int)×Int) :=
 (if (p14.length:Int)=0 then some (((0,0,zA 32,([]:(List Tapi_Claim))),([]:(List Int)),221)) else some (((a0.1,a0.2.1,a0.2.2.1,p14),p15,0)))
noncomputable def Za3 (p13:Int) (p24:(List Tapi_Claim)) (p25:(List Int)):Option ((Int×(List Tapi_Claim)×(List Int)) ⊕ (Tapi_Dispute×(List Int)×Int)) :=
 some (.inl (IntKind.i64.wrap (p13+1),p24,p25))
noncomputable def Zg3 (a0:Tapi_Dispute) (a1:(Arr 32)):(Int×(List Tapi_Claim)×(List Int))→Option ((Int×(List Tapi_Claim)×(List Int)) ⊕ (Tapi_Dispute×(List Int)×Int))
 | (p13,p14,p15)=>(if p13<(a0.2.2.2.length:Int) then(idx (a0.2.2.2) (p13)).bind fun x21=>(if x21.2=a1 then(chk (p14.length+1≤3518437208883)).bind fun _=>Za3 p13 (p14++[x21]) p15 else(chk (p15.length+1≤17592186044416)).bind fun _=>Za3 p13 p14 (p15++[x21.1])) else(ZeB p14 a0 p15).map Sum.inr)
noncomputable def ZcP (a0:Tapi_Dispute) (a1:(Arr 32)):Option (Tapi_Dispute×(List Int)×Int) :=
 (YU a0).bind fun y1=>(if ¬ (y1=true) then some (((0,0,zA 32,([]:(List Tapi_Claim))),([]:(List Int)),6)) else(if 1<IntKind.i64.wrap (a0.2.1-a0.1) then some (((0,0,zA 32,([]:(List Tapi_Claim))),([]:(List Int)),171)) else Ze (Zg3 a0 a1) (0,[],[])))
noncomputable def ZdC (a0:Tapi_Dispute) (a1:(Arr 32)) (a2:Tapi_Block):Option ((Arr 32)×(List Int)×Int) :=
 (YU a0).bind fun y1=>(if ¬ (y1=true) then some ((zA 32,([]:(List Int)),6)) else(if 1<IntKind.i64.wrap (a0.2.1-a0.1) then some ((zA 32,([]:(List Int)),171)) else(ZeO a2.1).bind fun y2=>(if ¬ (y2=a1) then some ((zA 32,([]:(List Int)),144)) else(Zfr a2).bind fun y3=>(if ¬ (y3=0) then some ((zA 32,([]:(List Int)),y3)) else(Zce a2).bind fun y4=>(if ¬ (y4.2=0) then some ((zA 32,([]:(List Int)),y4.2)) else(ZdT y4.1).bind fun y5=>(Zdt y5 a0.2.2.1).bind fun y6=>(ZcP a0 y6).bind fun y7=>(if ¬ (y7.2.2=0) then some ((zA 32,([]:(List Int)),y7.2.2)) else some ((y6,y7.2.1,0))))))))
noncomputable def Zi8 (p11:(List (Arr 32))):Option (List (Arr 32)) :=
 some (p11)
noncomputable def ZeC (a1:(List (Arr 32))):(Int×(Arr 32)×(List (Arr 32)))→Option ((Int×(Arr 32)×(List (Arr 32))) ⊕ ((List (Arr 32))))
 | (p9,p10,p11)=>(if p9<(a1.length:Int) then(idx (a1) (p9)).bind fun x15=>(Zek x15 p10).bind fun y16=>(chk (p11.length+1≤4398046511104)).bind fun _=>some (.inl (IntKind.i64.wrap (p9+1),y16,p11++[y16])) else(Zi8 p11).map Sum.inr)
noncomputable def Zfs (a0:(Arr 32)) (a1:(List (Arr 32))):Option ((List (Arr 32))) :=
 Ze (ZeC a1) (0,a0,[])
noncomputable def Zft (a0:(List (Arr 32))) (a1:Int) (a2:Int) (a3:(List Int)):Option ((Arr 32)) :=
 (chk ((if 1<(a3.length:Int) then(a3.length:Int) else 1)≠0)).bind fun _=>((if (a1=0∨(a3.length:Int)=0) then some (false) else(idx (a3) ((IntKind.i64.wrap ((IntKind.i64.wrap (a1 * 7))+a2)).tmod (if 1<(a3.length:Int) then(a3.length:Int) else 1))).bind fun x2=>some (decide ((x2).tmod 3=0)))).bind fun z3=>(if ((a1=0∨(a3.length:Int)=0)∨z3=true) then(idx (a0) (a2)).bind fun x4=>some (x4) else(idx (a3) ((IntKind.i64.wrap ((IntKind.i64.wrap (a1 * 7))+a2)).tmod (if 1<(a3.length:Int) then(a3.length:Int) else 1))).bind fun x5=>some (((zA 32).put 0 x5).put 1 (IntKind.u8.wrap (a2))))
noncomputable def Zit (p11:(List Tapi_Claim)):Option (List Tapi_Claim) :=
 some (p11)
noncomputable def Ziu (a1:Int) (a5:Int) (a4:(List Int)) (a0:(List (Arr 32))) (a2:Int) (a3:(List Int)):(Int×(List Tapi_Claim))→Option ((Int×(List Tapi_Claim)) ⊕ ((List Tapi_Claim)))
 | (p10,p11)=>(if p10<a1 then((if (0<p10∧IntKind.i64.wrap (p10+(IntKind.i64.wrap (5 * a5)))<(a4.length:Int)) then(idx (a4) (IntKind.i64.wrap (p10+(IntKind.i64.wrap (5 * a5))))).bind fun x16=>some (decide ((x16).tmod 4=0)) else some (false))).bind fun z17=>(if ((0<p10∧IntKind.i64.wrap (p10+(IntKind.i64.wrap (5 * a5)))<(a4.length:Int))∧z17=true) then some (.inl (IntKind.i64.wrap (p10+1),p11)) else(Zft a0 p10 a2 a3).bind fun y18=>(chk (p11.length+1≤3518437208883)).bind fun _=>some (.inl (IntKind.i64.wrap (p10+1),p11++[(p10,y18)]))) else(Zit p11).map Sum.inr)
noncomputable def ZcZ (a0:(List (Arr 32))) (a1:Int) (a2:Int) (a3:(List Int)) (a4:(List Int)) (a5:Int):Option ((List Tapi_Claim)) :=
 Ze (Ziu a1 a5 a4 a0 a2 a3) (0,[])
noncomputable def Llaw22_DisputeHonest_k3:Option Bool :=
 some (true)
noncomputable def Zed (p86:Int):Option ((Int) ⊕ (Bool)) :=
 some (.inl (IntKind.i64.wrap (p86+1)))
noncomputable def Zaj (p55:Tapi_Dispute) (x93:Int) (y69:((Arr 32)×(List Int)×Int)) (p86:Int):Int→Option ((Int) ⊕ ((Int) ⊕ (Bool)))
 | p97=>(if p97<(p55.2.2.2.length:Int) then(idx (p55.2.2.2) (p97)).bind fun x99=>(if ((x99.1=x93∧x99.2=y69.1)∨x93=0) then some (.inr (.inr (false))) else some (.inl (IntKind.i64.wrap (p97+1)))) else(Zed p86).map Sum.inr)
noncomputable def ZbH (y69:((Arr 32)×(List Int)×Int)) (p55:Tapi_Dispute):Int→Option ((Int) ⊕ (Bool))
 | p86=>(if p86<(y69.2.1.length:Int) then(idx (y69.2.1) (p86)).bind fun x93=>Ze (Zaj p55 x93 y69 p86) 0 else(Llaw22_DisputeHonest_k3).map Sum.inr)
noncomputable def ZbI (y3:(Tlightclientmade_World)) (p55:Tapi_Dispute) (y22:((List (Arr 32)))):Option Bool :=
 (inA (y3.2.1.length) (p55.2.1)).bind fun j66=>((y3.2.1)[j66]?).bind fun x67=>(ZaB x67.1).bind fun y68=>(ZdC p55 y68 x67).bind fun y69=>((if ¬ (y69.2.2=0) then some (false) else(inA (y22.length) (p55.2.1)).bind fun j70=>((y22)[j70]?).bind fun x71=>some (!(decide (y69.1=x71))))).bind fun z72=>(if (¬ (y69.2.2=0)∨z72=true) then some (false) else Ze (ZbH y69 p55) 0)
noncomputable def ZbJ (y22:((List (Arr 32)))) (a4:Int) (a2:(List Int)) (a3:(List Int)) (y3:(Tlightclientmade_World)):(Int×Int×Bool×Tapi_Dispute)→Option ((Int×Int×Bool×Tapi_Dispute) ⊕ (Bool))
 | (p52,p53,p54,p55)=>(if ¬ (p54=true) then(ZcZ y22 (IntKind.i64.wrap (2+(IntKind.i64.wrap ((a4).tmod 4)))) p53 a2 a3 p52).bind fun y100=>(XN p55 y100).bind fun y101=>((if ¬ (y101.2.2=0) then some (false) else((if 0<(y101.2.1.length:Int) then((y101.2.1)[0]?).bind fun x102=>some (decide (x102=0)) else some (false))).bind fun z103=>some ((decide (0<(y101.2.1.length:Int)) && z103)))).bind fun z104=>((if (¬ (y101.2.2=0)∨z104=true) then some (false) else(inA (y22.length) (y101.1.1)).bind fun j105=>((y22)[j105]?).bind fun x106=>some (!(decide (y101.1.2.2.1=x106))))).bind fun z107=>(if ((¬ (y101.2.2=0)∨z104=true)∨z107=true) then some (.inr (false)) else(Zau 0 (IntKind.i64.wrap ((y22.length:Int)-1))).bind fun y108=>(if y108<IntKind.i64.wrap (p52+1) then some (.inr (false)) else(Xq y101.1).bind fun y109=>some (.inl (IntKind.i64.wrap (p52+1),y109.1,y109.2,y101.1)))) else(ZbI y3 p55 y22).map Sum.inr)
noncomputable def ZbK (p16:(List (Arr 32))) (a4:Int) (a2:(List Int)) (a3:(List Int)) (y3:(Tlightclientmade_World)):Option Bool :=
 (Zfs (zA 32) p16).bind fun y22=>(ZcZ y22 (IntKind.i64.wrap (2+(IntKind.i64.wrap ((a4).tmod 4)))) (IntKind.i64.wrap ((y22.length:Int)-1)) a2 ([]:(List Int)) 0).bind fun y23=>(chk (0<y22.length)).bind fun _=>((y22)[0]?).bind fun x25=>(Zaf 0 x25 (IntKind.i64.wrap ((y22.length:Int)-1)) y23).bind fun y26=>(if ¬ (y26.2=0) then some (false) else(Xq y26.1).bind fun y27=>Ze (ZbJ y22 a4 a2 a3 y3) (0,y27.1,y27.2,y26.1))
noncomputable def Zak (y3:(Tlightclientmade_World)) (a4:Int) (a2:(List Int)) (a3:(List Int)):(Int×(List (Arr 32)))→Option ((Int×(List (Arr 32))) ⊕ (Bool))
 | (p15,p16)=>(if p15<(y3.2.1.length:Int) then(inA (y3.2.1.length) (p15)).bind fun j110=>((y3.2.1)[j110]?).bind fun x111=>(Zce x111).bind fun y112=>(ZdT y112.1).bind fun y113=>(chk (p16.length+1≤4398046511104)).bind fun _=>some (.inl (IntKind.i64.wrap (p15+1),p16++[y113])) else(ZbK p16 a4 a2 a3 y3).map Sum.inr)
noncomputable def Xn (a0:Int) (a1:(List Int)) (a2:(List Int)) (a3:(List Int)) (a4:Int):Option (Bool) :=
 (Llaw22_sane).bind fun y1=>(if ¬ (y1=true) then some (false) else(Zhu a1 8).bind fun y2=>(Zfn a0 y2).bind fun y3=>(if (y3.2.1.length:Int)<2 then some (true) else Ze (Zak y3 a4 a2 a3) (0,[])))
end
end Go.Lc
namespace Go.Av
open Go.RowKit
open Go.Av
set_option linter.unusedVariables false
set_option linter.unusedSimpArgs false
theorem bA {β:Type}{n:Nat}{i:Int}{f:Nat→Option β}{y:β}(h:(inA n i).bind f=some y):∃ j,(0≤i∧i.toNat=j∧j<n)∧f j=some y :=
 let ⟨j,h1,h2⟩:=bs h
 ⟨j,Yj h1,h2⟩
theorem bI {α β:Type}{l:List α}{i:Int}{f:α→Option β}{y:β}(h:(idx l i).bind f=some y):∃ x,(0≤i∧l[i.toNat]? = some x∧∀ h':i.toNat<l.length,l[i.toNat]=x)∧f x=some y :=
 let ⟨x,h1,h2⟩:=bs h
 ⟨x,⟨(ZbP h1).1,(ZbP h1).2,Yb (ZbP h1).2⟩,h2⟩
theorem bC {β:Type}{p:Prop}[Decidable p]{f:Unit→Option β}{y:β}(h:(chk p).bind f=some y):p∧f ()=some y :=
 let ⟨_,h1,h2⟩:=bs h
 ⟨ZO h1,h2⟩
theorem bG {α β:Type}{o:Option α}{f:α→Option β}{y:β}{P:α→Prop}(h:o.bind f=some y) (k:∀ x,o=some x→P x):∃ x,P x∧f x=some y :=
 let ⟨x,h1,h2⟩:=bs h
 ⟨x,k x h1,h2⟩
theorem eqT (p:Prop):(p=True)∨¬ p:=(Classical.em p).imp eq_true id
theorem ifP {α:Type}{c:Prop}[Decidable c]{a b r:α}(h:(if c then a else b)=r) (hc:c:=by simp[-Int.ofNat_toNat, *]):a=r:=by rwa[if_pos hc] at h
theorem ZlP {α β:Type}{c:Prop}[Decidable c]{a b:Option α}{f:α→Option β}{r:Option β}(h:(if c then a else b).bind f=r) (hc:c:=by simp[-Int.ofNat_toNat, *]):a.bind f=r:=by rwa[if_pos hc] at h
theorem ZmO {α β:Type}{c:Prop}[Decidable c]{a b:Option α}{f:α→Option β}{r:Option β}(h:(if c then a else b).bind f=r) (hc:¬ c:=by simp[-Int.ofNat_toNat, *]):b.bind f=r:=by rwa[if_neg hc] at h
theorem ifN {α:Type}{c:Prop}[Decidable c]{a b r:α}(h:(if c then a else b)=r) (hc:¬ c:=by simp[-Int.ofNat_toNat, *]):b=r:=by rwa[if_neg hc] at h
attribute [simp] YO Y4 Zdo
structure Con (α β:Type) where
 E:α→List PV
 R:α→β→PV×List (List Cell)
 g:α→Option β
section
variable {α β:Type}{K:Con α β}
noncomputable def Con.G (K:Con α β):List PV→Option (PV×List (List Cell)):=Zab K.E fun x=>(K.g x).map (K.R x)
def Con.Inj (K:Con α β):Prop:=∀ a b,K.E a=K.E b→a=b
theorem Con.Inj.eq (hi:K.Inj){x:α}{y:β}(h:K.g x=some y):K.G (K.E x)=some (K.R x y):=YD hi h
theorem Con.none {ps:List PV}(h:∀ a,K.E a=ps→False):K.G ps=none:=ZuH h
def Zh (T:Tab):List (Nat×(List PV→Option (PV×List (List Cell))))→Prop
 | []=>True
 | (g,F) :: l=>T g=some F∧Zh T l
theorem ZtF {l m:List (Nat×(List PV→Option (PV×List (List Cell))))}{own:Nat→List (List Nat)}(h:∀ p∈m,(tab l own).fn p.1=some p.2):Zh (tab l own) m:=by
 induction m with
 | nil=>trivial
 | cons p m ih=>exact⟨h p (by simp),ih fun q hq=>h q (by simp[hq])⟩
def Walk (tt:TT) (G:Glob) (l:List (Nat×(List PV→Option (PV×List (List Cell))))) (own:Nat→List (List Nat)) (fn:Func) (K:Con α β):Prop :=
 ∀ T:Tab,T.own=own→Zh T l→∀ x y,K.g x=some y→∃ kp fl n,ZN tt T G kp fl n fn (K.E x)=some (K.R x y)
def kpL:List (Nat×Kp)→Keep
 | [],_=>⟨[],[],[]⟩
 | (j,q) :: l,i=>if i=j then q else kpL l i
theorem Walk.of {tt:TT}{G:Glob}{l:List (Nat×(List PV→Option (PV×List (List Cell))))}{own:Nat→List (List Nat)}{fn:Func}{c:Code}{n:Nat}(kl:List (Nat×Kp)) (w:Bool) (hb:fn.body=some c) (hn:fn.ntmps=n)
  (h:∀ T:Tab,T.own=own→Zh T l→∀ x y,K.g x=some y→Zly (K.E x)=true∧ZI tt T G (kpL kl) c ⟨(ioIn 0 0 (K.E x)).1++List.replicate (n-(K.E x).length) .skip,Zk2 (K.E x)⟩ (YP tt w fn (K.E x) (K.R x y))):Walk tt G l own fn K :=
 fun T h1 h2 x y h3=>fnE (kp:=kpL kl) (w:=w) hb (h T h1 h2 x y h3).1 (by rw[hn]; exact(h T h1 h2 x y h3).2)
def distinctF:List (Nat×(List PV→Option (PV×List (List Cell))))→Bool
 | []=>true
 | (g,_) :: l=>l.all (fun q=>!(q.1 == g)) && distinctF l
theorem Zo7 {own:Nat→List (List Nat)}:∀ {l:List (Nat×(List PV→Option (PV×List (List Cell))))},distinctF l=true→∀ p∈l,tabF l p.1=some p.2
 | [],_,p,hp=>by simp at hp
 | (g,F) :: l,h,p,hp=>by
  simp only[distinctF,Bool.and_eq_true,List.all_eq_true] at h;simp only[tabF];rcases List.mem_cons.1 hp with rfl | hp
  ·simp
  ·have:=h.1 p hp
   rw[if_neg (by simpa using this)];exact Zo7 (own:=own) h.2 p hp
theorem mkW {P:Program}{tt:TT}{G:Glob}{l:List (Nat×(List PV→Option (PV×List (List Cell))))}{own:Nat→List (List Nat)}(hm:P.follows .mixedOrders=true) (htt:∀ t i,tt t=some i→Z0 P t=some i)
  {f:FuncId}{fn:Func}{c:Code}(w:Walk tt G l own fn K) (hT:Zpx P G l) (hf:P.funcs[f]? = some fn) (hb:fn.body=some c) (hname:(!(fn.name == "runtime.NumGoroutine") && distinctF l)=true):ZR P G f K.G:=by
 simp only[Bool.and_eq_true,Bool.not_eq_true'] at hname;exact mkI (T:=tab l own) hm htt (tab_ok hT) hf hb hname.1 fun x y hy=>w _ rfl (ZtF (Zo7 (own:=own) hname.2)) x y hy
end
attribute [simp] kpL
section
variable {tt:TT}{T:Tab}{G:Glob}{kp:Keep}{st st0 st1:ASt}{a b c d:Code}{Q Q':AE→ASt→Prop}{P R H:Prop}
def Imp (R P:Prop):Prop:=R→P
structure Zbo (X R:Prop):Prop where
 h:X=R
theorem Imp.of (e:Zbo P R):Imp P R:=fun p=>e.h ▸ p
theorem Zdh {id:Nat}{ops:Array Oper}(hc:c = .region id ops false) (h:Zdd tt T G ops.toList ops.toList st=some st1) (hq:Imp R (ZI tt T G kp b st1 Q)) (hj:(kp (id+1000000)).ks.isEmpty=true:=by rfl):Imp R (ZI tt T G kp (.seq c b) st Q):=fun r=>Zd hc h (hq r) hj
theorem Zch {id:Nat}{ops:Array Oper}{fs:List Foot}(hc:c = .region id ops true) (h:ZdF tt T G ops.toList ops.toList st=some (st1,fs)) (hd:ZhT ops.toList fs=true) (hq:Imp R (ZI tt T G kp b st1 Q)) (hj:(kp (id+1000000)).ks.isEmpty=true:=by rfl):Imp R (ZI tt T G kp (.seq c b) st Q):=fun r=>Z6 hc h hd (hq r) hj
theorem Zi9 {id:Nat}{ops:Array Oper}(hc:c = .region id ops false) (h:Zdd tt T G ops.toList ops.toList st=some st1) (hq:Imp R (Q .normal st1)) (hj:(kp (id+1000000)).ks.isEmpty=true:=by rfl):Imp R (ZI tt T G kp c st Q):=fun r=>Xb hc h (hq r) hj
theorem Zhx {id:Nat}{ops:Array Oper}{fs:List Foot}(hc:c = .region id ops true) (h:ZdF tt T G ops.toList ops.toList st=some (st1,fs)) (hd:ZhT ops.toList fs=true) (hq:Imp R (Q .normal st1)) (hj:(kp (id+1000000)).ks.isEmpty=true:=by rfl):Imp R (ZI tt T G kp c st Q):=fun r=>Zpz hc h hd (hq r) hj
theorem ZfO (h:Imp R (ZI tt T G kp (.seq a (.seq b d)) st Q)):Imp R (ZI tt T G kp (.seq (.seq a b) d) st Q):=fun r=>ZA (h r)
theorem Zhy (h:Imp R (Q .normal st)):Imp R (ZI tt T G kp .skip st Q):=fun r=>Ze7 (h r)
theorem Zja (h:Imp R (Q .ret st)):Imp R (ZI tt T G kp .ret st Q):=fun r=>Zai (h r)
theorem Zhz {id:Nat}(h:Imp R (Q (.exit id) st)):Imp R (ZI tt T G kp (.exit id) st Q):=fun r=>ZnV (h r)
theorem Zci (h:Imp R (ZI tt T G kp b st Q)):Imp R (ZI tt T G kp (.seq .skip b) st Q):=fun r=>ZD (h r)
theorem Zdi (h:Imp R (Q .ret st)):Imp R (ZI tt T G kp (.seq .ret b) st Q):=fun r=>Zac (h r)
theorem Zcj {id:Nat}(h:Imp R (Q (.exit id) st)):Imp R (ZI tt T G kp (.seq (.exit id) b) st Q):=fun r=>Z7 (h r)
theorem ZfP {id:Nat}(h:Imp R (ZI tt T G kp c st (ZkK id Q))):Imp R (ZI tt T G kp (.block id c) st Q):=fun r=>ZgU (h r)
theorem Zbp {id:Nat}(h:Imp R (ZI tt T G kp c st (ZkK id (ZiT (fun s=>ZI tt T G kp d s Q) Q)))):Imp R (ZI tt T G kp (.seq (.block id c) d) st Q):=fun r=>Zx (h r)
theorem ZaT {x:Operand}(h:rd G st.get x=some (bV true)) (h1:Imp R (ZI tt T G kp a st Q)):Imp R (ZI tt T G kp (.cond x a b) st Q):=fun r=>ZcS h (h1 r)
theorem ZaU {x:Operand}(h:rd G st.get x=some (bV false)) (h1:Imp R (ZI tt T G kp b st Q)):Imp R (ZI tt T G kp (.cond x a b) st Q):=fun r=>ZdI h (h1 r)
theorem YL {x:Operand}(h:rd G st.get x=some (bV true)) (h1:Imp R (ZI tt T G kp (.seq a d) st Q)):Imp R (ZI tt T G kp (.seq (.cond x a b) d) st Q):=fun r=>Zw h (h1 r)
theorem YM {x:Operand}(h:rd G st.get x=some (bV false)) (h1:Imp R (ZI tt T G kp (.seq b d) st Q)):Imp R (ZI tt T G kp (.seq (.cond x a b) d) st Q):=fun r=>Zv h (h1 r)
theorem ZfQ (h:Imp R P) (e:H=P):Imp R H:=fun r=>e ▸ h r
theorem go (k:R) (h:∀ X:Prop,Zbo X R→Imp X P:=by
 intro X e
 repeat (first
  | (with_reducible refine ZfO ?_)
  | (with_reducible refine Zci ?_)
  | (with_reducible refine Zbp ?_)
  | (with_reducible refine Zcj ?_)
  | (with_reducible refine Zdi ?_)
  | (with_reducible refine ZfP ?_)
  | (with_reducible refine Zhy ?_)
  | (with_reducible refine Zhz ?_)
  | (with_reducible refine Zja ?_)
  | (with_reducible refine YL ?_ ?_; · simp[-Int.ofNat_toNat,bV, *]; done)
  | (with_reducible refine YM ?_ ?_; · simp[-Int.ofNat_toNat,bV, *]; done)
  | (refine Zdh rfl (by first | (simp[-Int.ofNat_toNat, *] <;> rfl) | fail) ?_)
  | (refine Zch rfl (by simp[-Int.ofNat_toNat, *]; first | exact⟨rfl,rfl⟩ | rfl) (by kernel_rfl) ?_)
  | (with_reducible refine ZaT ?_ ?_; · simp[-Int.ofNat_toNat,bV, *]; done)
  | (with_reducible refine ZaU ?_ ?_; · simp[-Int.ofNat_toNat,bV, *]; done)
  | (refine Zi9 rfl (by first | (simp[-Int.ofNat_toNat, *] <;> rfl) | fail) ?_)
  | (refine Zhx rfl (by simp[-Int.ofNat_toNat, *]; first | exact⟨rfl,rfl⟩ | rfl) (by kernel_rfl) ?_)
  | (refine ZfQ ?_ (by simp only[pq,reduceCtorEq]; rfl)))
 exact Imp.of e):P:=h R ⟨rfl⟩ k
theorem nrm {p q:Prop}(c:p) (h:p→q:=by
 intro h;try simp[-Int.ofNat_toNat] at h
 first | exact(eq_true h:(_=_)=True) | exact h):q:=h c
theorem nst (k:R) (h:P=R:=by simp only[und,List.replicate,List.cons_append,List.nil_append]; rfl):P:=h ▸ k
theorem fin (h:H) (k:H→P:=by
 intro h;obtain rfl:=Option.some.inj h
 repeat (simp only[pq,reduceCtorEq]; rintro rfl)
 simp[-Int.ofNat_toNat,YP, *]):P:=k h
theorem bk (h:H) (k:H→P:=by
 intro h;obtain rfl:=Option.some.inj h
 repeat (simp only[pq,reduceCtorEq]; rintro rfl)
 simp only[pq,reduceCtorEq]
 simp[-Int.ofNat_toNat,und,List.replicate,Nat.add_assoc, *]):P:=k h
theorem lp {σ ρ:Type}{step:σ→Option (σ ⊕ ρ)}(n:Nat) (H:σ→ASt){s:σ}{r:ρ}
  (hr:Ze step s=some r)
  (hb:∀ s x,step s=some x→ZI tt T G kp c (H s) (QL (kp n) H Q r x)) (hn:firstId c=n:=by kernel_rfl) (hf:Zcl (kp n) st=H s:=by simp[-Int.ofNat_toNat,und,List.replicate, *]):ZI tt T G kp (.loop c) st Q :=
 Xs (by rw[hn]) hr hf hb
theorem ua (h:ZI tt T G kp (.seq (.seq a b) d) st Q):ZI tt T G kp (.seq a (.seq b d)) st Q:=by
 obtain⟨n0,e,s,h1,h2⟩:=h;refine⟨n0,e,s,fun n hn=>?_,h2⟩;rw[← h1 n hn];simp only[Yt];cases Yt tt T G kp n a st with
 | none=>rfl
 | some x=>obtain⟨e,s⟩:=x; cases e <;> rfl
theorem jn {H:ASt}(key:Nat) (h0:ZI tt T G kp d H Q) (h:ZI tt T G kp d H Q→ZI tt T G kp c H Q:=by first | exact id | exact ua | exact fun h=>ua (ua h)) (hc:firstJ c=some key:=by rfl) (ha:(kp key).ks.isEmpty=false:=by rfl) (hf:Zcl (kp key) st=Zcl (kp key) H:=by simp[-Int.ofNat_toNat,und,List.replicate, *]):ZI tt T G kp c st Q :=
 ZiE hc rfl ha hf (h h0)
end
abbrev kk (fn:Func) (F:(Nat→Code)→Code):Code:=F (reg fn)
abbrev co (n:Nat) (a b:Code):Code:=.cond (.tmp n) a b
abbrev sk:Code:=.skip
abbrev rt:Code:=.ret
def ZlQ (r:Nat→Code):Code→Code
 | .region id _ _=>r id
 | .seq a b=>.seq (ZlQ r a) (ZlQ r b)
 | .cond x a b=>.cond x (ZlQ r a) (ZlQ r b)
 | .block i c=>.block i (ZlQ r c)
 | .loop c=>.loop (ZlQ r c)
 | c=>c
def Zo8 (fn:Func):Code:=match fn.body with | some c=>c | none=>.skip
class YI {α β:Type}(f:α→β):Prop where
 h:∀ a b,f a=f b→a=b
section
variable {α β γ δ ε ζ:Type}
def eI (k:IntKind) (x:Int):PV:=.one (.v (.int k x))
def eB (x:Bool):PV:=.one (.v (.bool x))
def eT (x:ByteArray):PV:=.one (.v (.string x))
def eL (k:IntKind) (x:List Int):PV:=.one (.slice .no (Zg k x))
def eS (f:α→List Cell) (x:List α):PV:=.one (.slice .no (List.map f x))
def eA (k:IntKind){n:Nat}(x:Arr n):PV:=.agg (arC k x)
def eG (f:α→List Cell) (x:α):PV:=.agg (f x)
def oL (k:IntKind) (x:List Int):PV:=.one (.own 1 (Zg k x))
def oS (n:Nat) (f:α→List Cell) (x:List α):PV:=.one (.own n (List.map f x))
def oG (f:α→List Cell) (x:α):PV:=.io (f x)
def oR (k:IntKind) (x:List Int):PV:=.rio 1 (Zg k x)
def a0 (_:Unit):List PV:=[]
def a1 (e:α→PV) (x:α):List PV:=[e x]
def a2 (e:α→PV) (f:β→PV) (x:α×β):List PV:=[e x.1,f x.2]
def a3 (e:α→PV) (f:β→PV) (g:γ→PV) (x:α×β×γ):List PV:=[e x.1,f x.2.1,g x.2.2]
def a4 (e:α→PV) (f:β→PV) (g:γ→PV) (h:δ→PV) (x:α×β×γ×δ):List PV:=[e x.1,f x.2.1,g x.2.2.1,h x.2.2.2]
def a5 (e:α→PV) (f:β→PV) (g:γ→PV) (h:δ→PV) (i:ε→PV) (x:α×β×γ×δ×ε):List PV:=[e x.1,f x.2.1,g x.2.2.1,h x.2.2.2.1,i x.2.2.2.2]
def a6 (e:α→PV) (f:β→PV) (g:γ→PV) (h:δ→PV) (i:ε→PV) (j:ζ→PV) (x:α×β×γ×δ×ε×ζ):List PV:=[e x.1,f x.2.1,g x.2.2.1,h x.2.2.2.1,i x.2.2.2.2.1,j x.2.2.2.2.2]
def r1 (e:β→PV) (_:α) (y:β):PV×List (List Cell):=(e y,[])
def r2 (e:β→PV) (f:γ→PV) (_:α) (y:β×γ):PV×List (List Cell):=(.tup [e y.1,f y.2],[])
def r3 (e:β→PV) (f:γ→PV) (g:δ→PV) (_:α) (y:β×γ×δ):PV×List (List Cell):=(.tup [e y.1,f y.2.1,g y.2.2],[])
def r4 (e:β→PV) (f:γ→PV) (g:δ→PV) (h:ε→PV) (_:α) (y:β×γ×δ×ε):PV×List (List Cell):=(.tup [e y.1,f y.2.1,g y.2.2.1,h y.2.2.2],[])
def lR (k:IntKind) (x:List Int):List Cell:=(Zg k x).flatten
def rio (f:β→List Cell) (_:α) (y:β):PV×List (List Cell):=(.tup [],[f y])
def u2 (f:α→β→γ) (x:α×β):γ:=f x.1 x.2
def u3 (f:α→β→γ→δ) (x:α×β×γ):δ:=f x.1 x.2.1 x.2.2
def u4 (f:α→β→γ→δ→ε) (x:α×β×γ×δ):ε:=f x.1 x.2.1 x.2.2.1 x.2.2.2
def u5 (f:α→β→γ→δ→ε→ζ) (x:α×β×γ×δ×ε):ζ:=f x.1 x.2.1 x.2.2.1 x.2.2.2.1 x.2.2.2.2
def u6 {η:Type}(f:α→β→γ→δ→ε→ζ→η) (x:α×β×γ×δ×ε×ζ):η:=f x.1 x.2.1 x.2.2.1 x.2.2.2.1 x.2.2.2.2.1 x.2.2.2.2.2
theorem kS:(∀ {k x},lR k x=(Zg k x).flatten)∧(∀ {x},a0 x=[])∧(∀ {k x},eI k x = .one (.v (.int k x)))∧(∀ {x},eB x = .one (.v (.bool x)))∧(∀ {x},eT x = .one (.v (.string x)))∧(∀ {k x},eL k x = .one (.slice .no (Zg k x)))∧(∀ {α:Type}{f:α→List Cell}{x},eS f x = .one (.slice .no (List.map f x)))∧(∀ {k n}{x:Arr n},eA k x = .agg (arC k x))∧(∀ {α:Type}{f:α→List Cell}{x},eG f x = .agg (f x))∧(∀ {k x},oL k x = .one (.own 1 (Zg k x)))∧(∀ {n}{α:Type}{f:α→List Cell}{x},oS n f x = .one (.own n (List.map f x)))∧(∀ {α:Type}{f:α→List Cell}{x},oG f x = .io (f x))∧(∀ {k x},oR k x = .rio 1 (Zg k x))∧(∀ {α:Type}{e:α→PV}{x},a1 e x=[e x])∧(∀ {α β:Type}{e:α→PV}{f:β→PV}{x},a2 e f x=[e x.1,f x.2])∧(∀ {α β γ:Type}{e:α→PV}{f:β→PV}{g:γ→PV}{x},a3 e f g x=[e x.1,f x.2.1,g x.2.2])∧(∀ {α β γ δ:Type}{e:α→PV}{f:β→PV}{g:γ→PV}{h:δ→PV}{x},a4 e f g h x=[e x.1,f x.2.1,g x.2.2.1,h x.2.2.2])∧(∀ {α β γ δ ε:Type}{e:α→PV}{f:β→PV}{g:γ→PV}{h:δ→PV}{i:ε→PV}{x},a5 e f g h i x=[e x.1,f x.2.1,g x.2.2.1,h x.2.2.2.1,i x.2.2.2.2])∧(∀ {α β γ δ ε ζ:Type}{e:α→PV}{f:β→PV}{g:γ→PV}{h:δ→PV}{i:ε→PV}{j:ζ→PV}{x},a6 e f g h i j x=[e x.1,f x.2.1,g x.2.2.1,h x.2.2.2.1,i x.2.2.2.2.1,j x.2.2.2.2.2])∧(∀ {α β:Type}{e:β→PV}{x:α}{y},r1 e x y=(e y,[]))∧(∀ {α β γ:Type}{e:β→PV}{f:γ→PV}{x:α}{y},r2 e f x y=(.tup [e y.1,f y.2],[]))∧(∀ {α β γ δ:Type}{e:β→PV}{f:γ→PV}{g:δ→PV}{x:α}{y},r3 e f g x y=(.tup [e y.1,f y.2.1,g y.2.2],[]))∧(∀ {α β γ δ ε:Type}{e:β→PV}{f:γ→PV}{g:δ→PV}{h:ε→PV}{x:α}{y},r4 e f g h x y=(.tup [e y.1,f y.2.1,g y.2.2.1,h y.2.2.2],[]))∧(∀ {α β:Type}{f:β→List Cell}{x:α}{y},rio f x y=(.tup [],[f y]))∧(∀ {α β γ:Type}{f:α→β→γ}{x},u2 f x=f x.1 x.2)∧(∀ {α β γ δ:Type}{f:α→β→γ→δ}{x},u3 f x=f x.1 x.2.1 x.2.2)∧(∀ {α β γ δ ε:Type}{f:α→β→γ→δ→ε}{x},u4 f x=f x.1 x.2.1 x.2.2.1 x.2.2.2)∧(∀ {α β γ δ ε ζ:Type}{f:α→β→γ→δ→ε→ζ}{x},u5 f x=f x.1 x.2.1 x.2.2.1 x.2.2.2.1 x.2.2.2.2)∧(∀ {α β γ δ ε ζ η:Type}{f:α→β→γ→δ→ε→ζ→η}{x},u6 f x=f x.1 x.2.1 x.2.2.1 x.2.2.2.1 x.2.2.2.2.1 x.2.2.2.2.2) :=
 ⟨rfl,rfl,rfl,rfl,rfl,rfl,rfl,rfl,rfl,rfl,rfl,rfl,rfl,rfl,rfl,rfl,rfl,rfl,rfl,rfl,rfl,rfl,rfl,rfl,rfl,rfl,rfl,rfl,rfl⟩
instance {k:IntKind}:YI (eI k):=⟨by simp[eI]⟩
instance:YI eB:=⟨by simp[eB]⟩
instance:YI eT:=⟨by simp[eT]⟩
instance {k:IntKind}:YI (eL k):=⟨by simp[eL]⟩
instance {k:IntKind}:YI (oL k):=⟨by simp[oL]⟩
instance {k:IntKind}:YI (oR k):=⟨by simp[oR]⟩
instance {k:IntKind}{n:Nat}:YI (eA k (n:=n)):=⟨by simp[eA]⟩
instance:YI a0:=⟨fun _ _ _=>rfl⟩
instance {e:α→PV}[i:YI e]:YI (a1 e):=⟨fun a b h=>i.h a b (by simpa[a1] using h)⟩
instance {e:α→PV}{f:β→PV}[ke:YI e] [kf:YI f]:YI (a2 e f):=⟨fun a b h=>by simp only[a2,List.cons.injEq,and_true] at h; exact Prod.ext (ke.h _ _ h.1) (kf.h _ _ h.2)⟩
instance {e:α→PV}{f:β→PV}{g:γ→PV}[ke:YI e] [kf:YI f] [kg:YI g]:YI (a3 e f g):=⟨fun a b h=>by simp only[a3,List.cons.injEq,and_true] at h; exact Prod.ext (ke.h _ _ h.1) (Prod.ext (kf.h _ _ h.2.1) (kg.h _ _ h.2.2))⟩
instance {e:α→PV}{f:β→PV}{g:γ→PV}{h:δ→PV}[ke:YI e] [kf:YI f] [kg:YI g] [kh:YI h]:YI (a4 e f g h):=⟨fun a b h=>by simp only[a4,List.cons.injEq,and_true] at h; exact Prod.ext (ke.h _ _ h.1) (Prod.ext (kf.h _ _ h.2.1) (Prod.ext (kg.h _ _ h.2.2.1) (kh.h _ _ h.2.2.2)))⟩
instance {e:α→PV}{f:β→PV}{g:γ→PV}{h:δ→PV}{i:ε→PV}[ke:YI e] [kf:YI f] [kg:YI g] [kh:YI h] [ki:YI i]:YI (a5 e f g h i):=⟨fun a b h=>by simp only[a5,List.cons.injEq,and_true] at h; exact Prod.ext (ke.h _ _ h.1) (Prod.ext (kf.h _ _ h.2.1) (Prod.ext (kg.h _ _ h.2.2.1) (Prod.ext (kh.h _ _ h.2.2.2.1) (ki.h _ _ h.2.2.2.2))))⟩
instance {e:α→PV}{f:β→PV}{g:γ→PV}{h:δ→PV}{i:ε→PV}{j:ζ→PV}[ke:YI e] [kf:YI f] [kg:YI g] [kh:YI h] [ki:YI i] [kj:YI j]:YI (a6 e f g h i j):=⟨fun a b h=>by simp only[a6,List.cons.injEq,and_true] at h; exact Prod.ext (ke.h _ _ h.1) (Prod.ext (kf.h _ _ h.2.1) (Prod.ext (kg.h _ _ h.2.2.1) (Prod.ext (kh.h _ _ h.2.2.2.1) (Prod.ext (ki.h _ _ h.2.2.2.2.1) (kj.h _ _ h.2.2.2.2.2)))))⟩
end
class EnC {α:Type}(f:α→List Cell) (n:outParam Nat):Prop where
 len:∀ a,(f a).length=n
 inj:∀ a b,f a=f b→a=b
theorem enC {α:Type}{f:α→List Cell}{n:Nat}(h:∀ a,(f a).length=n:=by intro a; simp) (k:∀ a b,f a=f b→a=b:=by intro a b h; simpa[Prod.ext_iff,and_assoc] using h):EnC f n:=⟨h,k⟩
section
variable {α:Type}{f:α→List Cell}{n:Nat}[i:EnC f n]
@[simp↓] theorem ZuJ (m:List α):(∀ l,l∈List.map f m→l.length=n)=True:=Zoj i.len m
@[simp↓] theorem ZAY (m:List α) (k:Nat):(∀ l,l∈List.drop k (List.map f m)→l.length=n)=True:=eq_true fun l h=>of_eq_true (ZuJ m) l (List.mem_of_mem_drop h)
@[simp↓] theorem ZAZ (m:List α) (k:Nat):(∀ l,l∈List.take k (List.map f m)→l.length=n)=True:=eq_true fun l h=>of_eq_true (ZuJ m) l (List.mem_of_mem_take h)
end
@[simp] theorem en_map {α:Type}{f:α→List Cell}{n:Nat}[i:EnC f n]{l m:List α}:List.map f l=List.map f m↔l=m:=ZsA i.inj
instance {α:Type}{f:α→List Cell}{n:Nat}[i:EnC f n]:YI (eG f):=⟨fun a b h=>i.inj a b (by simpa[eG] using h)⟩
instance {α:Type}{f:α→List Cell}{n:Nat}[i:EnC f n]:YI (oG f):=⟨fun a b h=>i.inj a b (by simpa[oG] using h)⟩
instance {α:Type}{f:α→List Cell}{n:Nat}[i:EnC f n]:YI (eS f):=⟨fun a b h=>by simpa[eS] using h⟩
instance {α:Type}{f:α→List Cell}{n m:Nat}[i:EnC f n]:YI (oS m f):=⟨fun a b h=>by simpa[oS] using h⟩
class EnP {α:Type}(f:α→List Cell):Prop where
 h:∀ a,(f a).any Cell.isSl=false
@[simp] theorem ZA0 {α:Type}{f:α→List Cell}[i:EnP f] (m:List α):m.any ((fun l=>l.any Cell.isSl) ∘ f)=false:=List.any_eq_false.2 fun x _=>by simp[i.h]
theorem enP {α:Type}{f:α→List Cell}(h:∀ a,(f a).any Cell.isSl=false:=by intro a; simp):EnP f:=⟨h⟩
instance {k:IntKind}{n:Nat}:EnC (arC k (n:=n)) n:=⟨by simp,by simp⟩
section
variable {α β γ δ ε ζ η:Type}
abbrev cn (E:α→List PV) (R:α→β→PV×List (List Cell)) (g:α→Option β):Con α β:=⟨E,R,g⟩
theorem Con.q1 (K:Con α β) [i:YI K.E]{f:α→Option β}{x:α}{y:β}(h:f x=some y) (hf:∀ x,K.g x=f x:=by intro x; rfl):K.G (K.E x)=some (K.R x y):=YD i.h ((hf x).trans h)
theorem Con.q0 (K:Con Unit β) [i:YI K.E]{f:Option β}{y:β}(h:f=some y) (hf:K.g ()=f:=by rfl):K.G (K.E ())=some (K.R () y):=YD i.h (hf.trans h)
theorem Con.q2 (K:Con (α×β) γ) [i:YI K.E]{g:α→β→Option γ}{a:α}{b:β}{y:γ}(h:g a b=some y) (hf:∀ a b,K.g (a,b)=g a b:=by intros; rfl):K.G (K.E (a,b))=some (K.R (a,b) y):=YD i.h ((hf a b).trans h)
theorem Con.q3 (K:Con (α×β×γ) δ) [i:YI K.E]{g:α→β→γ→Option δ}{a:α}{b:β}{c:γ}{y:δ}(h:g a b c=some y) (hf:∀ a b c,K.g (a,b,c)=g a b c:=by intros; rfl):K.G (K.E (a,b,c))=some (K.R (a,b,c) y):=YD i.h ((hf a b c).trans h)
theorem Con.q4 (K:Con (α×β×γ×δ) ε) [i:YI K.E]{g:α→β→γ→δ→Option ε}{a:α}{b:β}{c:γ}{d:δ}{y:ε}(h:g a b c d=some y) (hf:∀ a b c d,K.g (a,b,c,d)=g a b c d:=by intros; rfl):K.G (K.E (a,b,c,d))=some (K.R (a,b,c,d) y):=YD i.h ((hf a b c d).trans h)
theorem Con.q6 (K:Con (α×β×γ×δ×ε×ζ) η) [i:YI K.E]{g:α→β→γ→δ→ε→ζ→Option η}{a:α}{b:β}{c:γ}{d:δ}{e:ε}{f:ζ}{y:η}(h:g a b c d e f=some y) (hf:∀ a b c d e f,K.g (a,b,c,d,e,f)=g a b c d e f:=by intros; rfl):K.G (K.E (a,b,c,d,e,f))=some (K.R (a,b,c,d,e,f) y):=YD i.h ((hf a b c d e f).trans h)
end
section
variable {α β:Type}{K:Con α β}{tt:TT}{G:Glob}{l:List (Nat×(List PV→Option (PV×List (List Cell))))}{own:Nat→List (List Nat)}{fn:Func}
theorem Walk.sk {n:Nat}{cc:(Nat→Code)→Code}(kl:List (Nat×Kp)) (w:Bool) (hn:fn.ntmps=n)
  (h:∀ T:Tab,T.own=own→Zh T l→∀ x y,K.g x=some y→ZI tt T G (kpL kl) (cc (reg fn)) ⟨(ioIn 0 0 (K.E x)).1++List.replicate (n-(K.E x).length) .skip,Zk2 (K.E x)⟩ (YP tt w fn (K.E x) (K.R x y)))
  (hc:∀ r,ZlQ r (Zo8 fn)=cc r:=by intro r; (conv=>lhs; reduce) <;> rfl) (hb:fn.body=some (ZlQ (reg fn) (Zo8 fn)):=by kernel_rfl) (hi:∀ x,Zly (K.E x)=true:=by intro x; simp[kS]):Walk tt G l own fn K :=
 .of kl w (hb.trans (congrArg some (hc _))) hn fun T h1 h2 x y h3=>⟨hi x,h T h1 h2 x y h3⟩
theorem Walk.ak {n:Nat}{cc:(Nat→Code)→Code}(kl:List (Nat×Kp)) (w:Bool) (hn:fn.ntmps=n)
  (h:∀ T:Tab,T.own=own→Zh T l→∀ x y,Imp (K.g x=some y) (ZI tt T G (kpL kl) (cc (reg fn)) ⟨(ioIn 0 0 (K.E x)).1++List.replicate (n-(K.E x).length) .skip,Zk2 (K.E x)⟩ (YP tt w fn (K.E x) (K.R x y))))
  (hc:∀ r,ZlQ r (Zo8 fn)=cc r:=by intro r; (conv=>lhs; reduce) <;> rfl) (hb:fn.body=some (ZlQ (reg fn) (Zo8 fn)):=by kernel_rfl) (hi:∀ x,Zly (K.E x)=true:=by intro x; simp[kS]):Walk tt G l own fn K :=
 .of kl w (hb.trans (congrArg some (hc _))) hn fun T h1 h2 x y h3=>⟨hi x,h T h1 h2 x y h3⟩
theorem mkU {P:Program}(hm:P.follows .mixedOrders=true) (htt:∀ t i,tt t=some i→Z0 P t=some i){f:FuncId}(w:Walk tt G l own fn K) (hT:Zpx P G l) (hf:P.funcs[f]? = some fn) (hb:fn.body.isSome=true) (hn:(!(fn.name == "runtime.NumGoroutine") && distinctF l)=true):ZR P G f K.G :=
 have ⟨c,hc⟩:=Option.isSome_iff_exists.1 hb
 mkW hm htt w hT hf hc hn
end
end Go.Av
