import Derived.Test.YthpkpciceodioaaGreatDoorLcG2
import Derived.Test.YthpkpciceodioaaGreatDoorLcG1
import Derived.IntWalk
namespace Go.Lc
open Go.RowKit
open Go.Av
set_option linter.unusedVariables false
set_option linter.unusedSimpArgs false
section
set_option maxRecDepth 100000
abbrev Tapi_Header:=Int×(Arr 32)×(Arr 32)×Int×Int×Int
abbrev Tapi_Block:=Tapi_Header×(List Tapi_Tx)
abbrev Tapi_Checkpoint:=Int×(Arr 32)
abbrev Tapi_Params:=Tapi_Header×(Arr 4)×Int×Int×Int×Int×(List Tapi_Checkpoint)×Int×Int×Int
abbrev Tapi_Ledger:=Int×(Arr 32)×(List Tapi_Coin)
abbrev Tapi_Context:=Int×(Arr 32)×Int×Int×(List Int)
abbrev Tlightclientmade_World:=Tapi_Params×(List Tapi_Block)×(List Tapi_Ledger)×(List Tapi_Context)×(List (List Tapi_Coin))
noncomputable def ZZ (a0:(List Int)):Option (List Int) :=
 (chk (a0.length≤140737488355328)).bind fun _=>some (a0)
noncomputable def Zba (p65:(List (List Int))):Option (List (List Int)) :=
 some (p65)
noncomputable def Xn (p64:Int) (p124:(List (List Int))):Option ((Int×(List (List Int))) ⊕ ((List (List Int)))) :=
 some (.inl (IntKind.i64.wrap (p64+1),p124))
noncomputable def ZiE (x97:Tapi_Tx) (p64:Int):(Int×(List (List Int)))→Option ((Int×(List (List Int))) ⊕ ((Int×(List (List Int))) ⊕ ((List (List Int)))))
 | (p123,p124)=>(if p123<(x97.2.1.length:Int) then(idx (x97.2.1) (p123)).bind fun x128=>(ZeM x128.1).bind fun y129=>(chk (p124.length+1≤5864062014805)).bind fun _=>some (.inl (IntKind.i64.wrap (p123+1),p124++[y129])) else(Xn p64 p124).map Sum.inr)
noncomputable def Xo (x97:Tapi_Tx) (p64:Int) (p109:(List (List Int))):Option ((Int×(List (List Int))) ⊕ ((List (List Int)))) :=
 (Zc4 x97).bind fun y114=>(if y114=true then some (.inl (IntKind.i64.wrap (p64+1),p109)) else Zd (ZiE x97 p64) (0,p109))
noncomputable def X8 (p108:Int) (p134:(List (List Int))):Option ((Int×(List (List Int))) ⊕ ((Int×(List (List Int))) ⊕ ((List (List Int))))) :=
 some (.inl (IntKind.i64.wrap (p108+1),p134))
noncomputable def ZiF (x97:Tapi_Tx) (p64:Int):(Int×(List (List Int)))→Option ((Int×(List (List Int))) ⊕ ((Int×(List (List Int))) ⊕ ((List (List Int)))))
 | (p108,p109)=>(if p108<(x97.2.2.1.length:Int) then(idx (x97.2.2.1) (p108)).bind fun x131=>(if 0<(x131.2.length:Int) then(ZZ x131.2).bind fun y135=>(chk (p109.length+1≤5864062014805)).bind fun _=>X8 p108 (p109++[y135]) else X8 p108 p109) else(Xo x97 p64 p109).map Sum.inr)
noncomputable def Zdu (a0:Tapi_Block):(Int×(List (List Int)))→Option ((Int×(List (List Int))) ⊕ ((List (List Int))))
 | (p64,p65)=>(if p64<(a0.2.length:Int) then(idx (a0.2) (p64)).bind fun x97=>Zd (ZiF x97 p64) (0,p65) else(Zba p65).map Sum.inr)
noncomputable def Zaw (a0:Tapi_Block):Option ((List (List Int))) :=
 Zd (Zdu a0) (0,[])
noncomputable def Xp (a0:Tapi_Header):Option ((List Int)) :=
 (Z7 ([]:(List Int)) a0.1).bind fun y1=>(Xk y1 a0.2.1).bind fun y2=>(Xk y2 a0.2.2.1).bind fun y3=>(Z7 y3 a0.2.2.2.1).bind fun y4=>(Z7 y4 a0.2.2.2.2.1).bind fun y5=>(Z7 y5 a0.2.2.2.2.2).bind fun y6=>some (y6)
noncomputable def Ze2 (p12:(List Int)):Option ((List Int)×Int) :=
 (if 100000<(p12.length:Int) then some ((([]:(List Int)),4)) else some ((p12,0)))
noncomputable def Zbn (a0:Tapi_Block):(Int×(List Int))→Option ((Int×(List Int)) ⊕ ((List Int)×Int))
 | (p11,p12)=>(if p11<(a0.2.length:Int) then(idx (a0.2) (p11)).bind fun x16=>(ZgC x16 true).bind fun y17=>(if ¬ (y17.2=0) then some (.inr ((([]:(List Int)),4))) else(chk (p12.length+y17.1.length≤140737488355328)).bind fun _=>some (.inl (IntKind.i64.wrap (p11+1),p12++y17.1))) else(Ze2 p12).map Sum.inr)
noncomputable def ZdC (a0:Tapi_Block):Option ((List Int)×Int) :=
 (if 256<(a0.2.length:Int) then some ((([]:(List Int)),4)) else(Xp a0.1).bind fun y1=>(YM y1 (IntKind.u64.wrap ((a0.2.length:Int)))).bind fun y2=>Zd (Zbn a0) (0,y2))
noncomputable def ZhJ (a0:(Arr 32)):Option ((Arr 2)) :=
 (ZbN ((a0.l).take 8)).bind fun y1=>(ZbN (((a0.l).drop 8).take 8)).bind fun y2=>some ((⟨[y1,y2],rfl⟩:Arr 2))
noncomputable def Zcz (a0:Tapi_Header):Option ((Arr 32)) :=
 (Xp a0).bind fun y1=>(ZfK y1).bind fun y2=>some (y2)
noncomputable def Zew (a0:Int) (a1:Int) (a2:(List Int)):Option (Tapi_Tx) :=
 (Lmade_Null).bind fun y1=>some ((1,[(y1,IntKind.u32.wrap (a0),([]:(List (List Int))))],[(a1,a2)],0))
noncomputable def Zae (a0:(Arr 4)):Option (Bool) :=
 some (decide (a0=zA 4))
noncomputable def Lref02_Len_k1:Option Int :=
 some (0)
noncomputable def ZdD (a0:(Arr 4)):Int→Option ((Int) ⊕ (Int))
 | p4=>(if 0≤p4 then(XW a0 p4).bind fun y6=>(if y6=true then some (.inr (IntKind.i64.wrap (p4+1))) else some (.inl (IntKind.i64.wrap (p4-1)))) else(Lref02_Len_k1).map Sum.inr)
noncomputable def Zak (a0:(Arr 4)):Option (Int) :=
 Zd (ZdD a0) 255
noncomputable def YE (a0:Int) (a1:Int) (a2:Int):Option (Int×Int) :=
 (chk ((0≤a0∧0≤a1)∧(a1≤18446744073709551615∧0≤a2)∧a2≤1)).bind fun _=>some ((a0+a1+a2) % 18446744073709551616,(a0+a1+a2) / 18446744073709551616)
noncomputable def Zft (p9:(Arr 4)) (p7:Int):Option ((Arr 4)×Bool) :=
 some ((p9,decide (p7=1)))
noncomputable def Zfu (a0:(Arr 4)) (a1:(Arr 4)):(Int×Int×(Arr 4))→Option ((Int×Int×(Arr 4)) ⊕ ((Arr 4)×Bool))
 | (p7,p8,p9)=>(if p8<4 then(inA (4) (p8)).bind fun j12=>(YE (a0.at j12) (a1.at j12) p7).bind fun y13=>some (.inl (y13.2,IntKind.i64.wrap (p8+1),p9.put j12 y13.1)) else(Zft p9 p7).map Sum.inr)
noncomputable def Zcu (a0:(Arr 4)) (a1:(Arr 4)):Option ((Arr 4)×Bool) :=
 Zd (Zfu a0 a1) (0,0,zA 4)
noncomputable def Zfv (p6:(Arr 4)):Option (Arr 4) :=
 some (p6)
noncomputable def Lref02_Shl_s1:(Int×(Arr 4))→Option ((Int×(Arr 4)) ⊕ ((Arr 4)))
 | (p5,p6)=>(if 0<p5 then(Zcu p6 p6).bind fun y8=>some (.inl (IntKind.i64.wrap (p5-1),y8.1)) else(Zfv p6).map Sum.inr)
noncomputable def Zcv (a0:(Arr 4)) (a1:Int):Option ((Arr 4)) :=
 (if 256≤a1 then some (zA 4) else Zd (Lref02_Shl_s1) (a1,a0))
noncomputable def Zax (p7:(Arr 4)):Option ((Arr 4)×Int) :=
 (Zae p7).bind fun y8=>(if y8=true then some ((zA 4,120)) else some ((p7,0)))
noncomputable def Xf (a0:Int):Option ((Arr 4)×Int) :=
 (Y9 (IntKind.u64.wrap (bits .and .u32 a0 16777215))).bind fun y1=>(if ¬ (bits .and .u32 a0 8388608=0) then some ((zA 4,120)) else(if IntKind.i64.wrap ((a0).fdiv 16777216)<3 then(Xw y1 (IntKind.i64.wrap (8 * (IntKind.i64.wrap (3-(IntKind.i64.wrap ((a0).fdiv 16777216))))))).bind fun y9=>Zax y9 else(Zae y1).bind fun y10=>((if ¬ (y10=true) then(Zak y1).bind fun y11=>some (decide (256<IntKind.i64.wrap (y11+(IntKind.i64.wrap (8 * (IntKind.i64.wrap ((IntKind.i64.wrap ((a0).fdiv 16777216))-3))))))) else some (false))).bind fun z12=>(if (¬ (y10=true)∧z12=true) then some ((zA 4,120)) else(Zcv y1 (IntKind.i64.wrap (8 * (IntKind.i64.wrap ((IntKind.i64.wrap ((a0).fdiv 16777216))-3))))).bind fun y13=>Zax y13)))
noncomputable def Zf6 (a0:Tapi_Params):Option Bool :=
 (Xf a0.1.2.2.2.2.1).bind fun y16=>((if y16.2=0 then(YJ y16.1 a0.2.1).bind fun y17=>some (decide (y17≤0)) else some (false))).bind fun z18=>some ((decide (y16.2=0) && z18))
noncomputable def Zij (a0:Tapi_Params):Int→Option ((Int) ⊕ (Bool))
 | p11=>(if p11<(a0.2.2.2.2.2.2.1.length:Int) then(idx (a0.2.2.2.2.2.2.1) (p11)).bind fun x19=>((if (x19.1<1∨16777216<x19.1) then some (false) else((if 0<p11 then(idx (a0.2.2.2.2.2.2.1) (IntKind.i64.wrap (p11-1))).bind fun x20=>some (decide (x19.1≤x20.1)) else some (false))).bind fun z21=>some ((decide (0<p11) && z21)))).bind fun z22=>(if ((x19.1<1∨16777216<x19.1)∨z22=true) then some (.inr (false)) else some (.inl (IntKind.i64.wrap (p11+1)))) else(Zf6 a0).map Sum.inr)
noncomputable def Xg (a0:Tapi_Params):Option (Bool) :=
 (Zae a0.2.1).bind fun y1=>(if ((((y1=true∨a0.2.2.1<1)∨4096<a0.2.2.1)∨a0.2.2.2.1<1)∨1048576<a0.2.2.2.1) then some (false) else(if (((((a0.2.2.2.2.2.2.2.1<0∨2100000000000000<a0.2.2.2.2.2.2.2.1)∨a0.2.2.2.2.2.2.2.2.1<1)∨16777216<a0.2.2.2.2.2.2.2.2.1)∨a0.2.2.2.2.2.2.2.2.2<0)∨16777216<a0.2.2.2.2.2.2.2.2.2) then some (false) else Zd (Zij a0) 0))
noncomputable def ZgR (p5:Int):Option Int :=
 some (p5)
noncomputable def Lref23_Subsidy_s1:(Int×Int)→Option ((Int×Int) ⊕ (Int))
 | (p5,p6)=>(if (0<p6∧0<p5) then some (.inl (IntKind.i64.wrap ((p5).tdiv 2),IntKind.i64.wrap (p6-1))) else(ZgR p5).map Sum.inr)
noncomputable def Zbo (a0:Tapi_Params) (a1:Int):Option (Int) :=
 (Xg a0).bind fun y1=>(if (¬ (y1=true)∨a1<0) then some (0) else(chk (a0.2.2.2.2.2.2.2.2.1≠0)).bind fun _=>Zd (Lref23_Subsidy_s1) (a0.2.2.2.2.2.2.2.1,IntKind.i64.wrap ((a1).tdiv a0.2.2.2.2.2.2.2.2.1)))
noncomputable def Zd5 (p11:(List Int)):Option (List Int) :=
 some (p11)
noncomputable def Yn (a0:Tapi_Header):(Int×(List Int))→Option ((Int×(List Int)) ⊕ ((List Int)))
 | (p10,p11)=>(if p10<(3:Int) then(inA (3) (p10)).bind fun j15=>(([a0.2.2.2.1,a0.2.2.2.2.1,a0.2.2.2.2.2])[j15]?).bind fun x16=>(Z2 p11 x16).bind fun y17=>some (.inl (IntKind.i64.wrap (p10+1),y17)) else(Zd5 p11).map Sum.inr)
noncomputable def Xq (a0:Tapi_Header):Option ((List Int)) :=
 (Z2 ([]:(List Int)) a0.1).bind fun y1=>(Yw y1 a0.2.1).bind fun y2=>(Yw y2 a0.2.2.1).bind fun y3=>Zd (Yn a0) (0,y3)
noncomputable def YU (a0:Tapi_Header):Option ((Arr 32)) :=
 (Xq a0).bind fun y1=>(XQ y1).bind fun y2=>some (y2)
noncomputable def Zbb (p9:(Arr 4)):Option (Arr 4) :=
 some (p9)
noncomputable def Zbc (a0:(Arr 32)):(Int×(Arr 4))→Option ((Int×(Arr 4)) ⊕ ((Arr 4)))
 | (p8,p9)=>(if p8<32 then(inA (4) (IntKind.i64.wrap ((IntKind.i64.wrap (31-p8)).tdiv 8))).bind fun j13=>(inA (32) (p8)).bind fun j14=>(chk (¬ (IntKind.i64.wrap (8 * ((IntKind.i64.wrap (31-p8)).tmod 8))<0))).bind fun _=>some (.inl (IntKind.i64.wrap (p8+1),p9.put j13 (bits .or .u64 (p9.at j13) (IntKind.u64.wrap ((IntKind.u64.wrap (a0.at j14)) * (2 ^ (min (IntKind.i64.wrap (8 * ((IntKind.i64.wrap (31-p8)).tmod 8))).toNat 64))))))) else(Zbb p9).map Sum.inr)
noncomputable def YV (a0:(Arr 32)):Option ((Arr 4)) :=
 Zd (Zbc a0) (0,zA 4)
noncomputable def Zdc (a0:(Arr 32)) (a1:Int):Option (Bool) :=
 (Xf a1).bind fun y1=>((if y1.2=0 then(YV a0).bind fun y2=>(YJ y2 y1.1).bind fun y3=>some (decide (y3≤0)) else some (false))).bind fun z4=>some ((decide (y1.2=0) && z4))
noncomputable def ZhK (p29:(List Int)):Option Int :=
 (if (p29.length:Int)=0 then some (0) else(inA (p29.length) (IntKind.i64.wrap (((p29.length:Int)).tdiv 2))).bind fun j46=>((p29)[j46]?).bind fun x47=>some (x47))
noncomputable def Zdd (p56:Int) (p29:(List Int)) (p28:Int) (x48:Int):Option ((Int×(List Int)) ⊕ (Int)) :=
 (chk (p56≤(p29.length:Int)∧0≤p56)).bind fun _=>(chk (0≤p56∧p56≤(p29.length:Int))).bind fun _=>(chk (1+(((p29).drop (p56).toNat).take (p29.length-(p56).toNat)).length≤35184372088832)).bind fun _=>(chk ((p56).toNat+1+(((p29).drop (p56).toNat).take (p29.length-(p56).toNat)).length≤35184372088832)).bind fun _=>some (.inl (IntKind.i64.wrap (p28+1),(p29).take (p56).toNat++([x48]++((p29).drop (p56).toNat).take (p29.length-(p56).toNat))))
noncomputable def ZhL (p29:(List Int)) (x48:Int) (p28:Int):Int→Option ((Int) ⊕ ((Int×(List Int)) ⊕ (Int)))
 | p56=>((if p56<(p29.length:Int) then(inA (p29.length) (p56)).bind fun j64=>((p29)[j64]?).bind fun x65=>some (decide (x65≤x48)) else some (false))).bind fun z66=>(if (p56<(p29.length:Int)∧z66=true) then some (.inl (IntKind.i64.wrap (p56+1))) else(Zdd p56 p29 p28 x48).map Sum.inr)
noncomputable def ZhM (a0:(List Int)):(Int×(List Int))→Option ((Int×(List Int)) ⊕ (Int))
 | (p28,p29)=>(if p28<(a0.length:Int) then(idx (a0) (p28)).bind fun x48=>Zd (ZhL p29 x48 p28) 0 else(ZhK p29).map Sum.inr)
noncomputable def Zcb (a0:(List Int)):Option (Int) :=
 Zd (ZhM a0) (0,[])
noncomputable def ZfN (a0:Tapi_Tx):Option ((Arr 32)) :=
 (Zac a0).bind fun y1=>(if ¬ (y1=true) then some (zA 32) else(Zai a0 true).bind fun y2=>(XQ y2).bind fun y3=>some (y3))
noncomputable def ZfO (a0:(Arr 32)) (a1:(Arr 32)):Option ((Arr 32)) :=
 (ZaI [[1],a0.l,a1.l]).bind fun y1=>(YI y1).bind fun y2=>some (y2)
noncomputable def Ze3 (p52:(List (List (Arr 32)))):Option (List (List (Arr 32))) :=
 some (p52)
noncomputable def Zde (p52:(List (List (Arr 32)))) (p92:(List (Arr 32))):Option (((List (Arr 32))×(List (List (Arr 32)))) ⊕ ((List (List (Arr 32))))) :=
 (chk (p52.length+1≤5864062014805)).bind fun _=>some (.inl (p92,p52++[p92]))
noncomputable def Zbp (p91:Int) (p107:(List (Arr 32))):Option ((Int×(List (Arr 32))) ⊕ (((List (Arr 32))×(List (List (Arr 32)))) ⊕ ((List (List (Arr 32)))))) :=
 some (.inl (IntKind.i64.wrap (p91+2),p107))
noncomputable def ZhN (p51:(List (Arr 32))) (p52:(List (List (Arr 32)))):(Int×(List (Arr 32)))→Option ((Int×(List (Arr 32))) ⊕ (((List (Arr 32))×(List (List (Arr 32)))) ⊕ ((List (List (Arr 32))))))
 | (p91,p92)=>(if p91<(p51.length:Int) then(if IntKind.i64.wrap (p91+1)<(p51.length:Int) then(idx (p51) (p91)).bind fun x108=>(idx (p51) (IntKind.i64.wrap (p91+1))).bind fun x109=>(ZfO x108 x109).bind fun y110=>(chk (p92.length+1≤4398046511104)).bind fun _=>Zbp p91 (p92++[y110]) else(idx (p51) (p91)).bind fun x112=>(chk (p92.length+1≤4398046511104)).bind fun _=>Zbp p91 (p92++[x112])) else(Zde p52 p92).map Sum.inr)
noncomputable def Lref07_levels_s1:((List (Arr 32))×(List (List (Arr 32))))→Option (((List (Arr 32))×(List (List (Arr 32)))) ⊕ ((List (List (Arr 32)))))
 | (p51,p52)=>(if 1<(p51.length:Int) then Zd (ZhN p51 p52) (0,[]) else(Ze3 p52).map Sum.inr)
noncomputable def ZdE (a0:(List (Arr 32))):Option ((List (List (Arr 32)))) :=
 Zd (Lref07_levels_s1) (a0,[a0])
noncomputable def ZfP (a0:(List (Arr 32))):Option ((Arr 32)) :=
 (if ((a0.length:Int)=0∨1024<(a0.length:Int)) then some (zA 32) else(ZdE a0).bind fun y1=>(inA (y1.length) (IntKind.i64.wrap ((y1.length:Int)-1))).bind fun j2=>((y1)[j2]?).bind fun x3=>((x3)[0]?).bind fun x4=>some (x4))
noncomputable def ZgH (p9:(List (Arr 32))):Option (Arr 32) :=
 (ZfP p9).bind fun y13=>some (y13)
noncomputable def ZiR (a0:(List Tapi_Tx)):(Int×(List (Arr 32)))→Option ((Int×(List (Arr 32))) ⊕ ((Arr 32)))
 | (p8,p9)=>(if p8<(a0.length:Int) then(idx (a0) (p8)).bind fun x14=>(ZfN x14).bind fun y15=>(chk (p9.length+1≤4398046511104)).bind fun _=>some (.inl (IntKind.i64.wrap (p8+1),p9++[y15])) else(ZgH p9).map Sum.inr)
noncomputable def Zd6 (a0:(List Tapi_Tx)):Option ((Arr 32)) :=
 Zd (ZiR a0) (0,[])
noncomputable def Zfw (a0:Int):Option (Int) :=
 some (IntKind.u32.wrap (20+(IntKind.u32.wrap ((IntKind.u32.wrap ((a0).tmod 8)) * 15))))
noncomputable def ZgS (a0:Tapi_OutPoint) (a1:Tapi_OutPoint):Option Int :=
 (if a0.2<a1.2 then some ((-1)) else(if a1.2<a0.2 then some (1) else some (0)))
noncomputable def ZgT (a0:Tapi_OutPoint) (a1:Tapi_OutPoint):Int→Option ((Int) ⊕ (Int))
 | p3=>(if p3<32 then(inA (32) (p3)).bind fun j5=>(if a0.1.at j5<a1.1.at j5 then some (.inr ((-1))) else(if a1.1.at j5<a0.1.at j5 then some (.inr (1)) else some (.inl (IntKind.i64.wrap (p3+1))))) else(ZgS a0 a1).map Sum.inr)
noncomputable def Y5 (a0:Tapi_OutPoint) (a1:Tapi_OutPoint):Option (Int) :=
 Zd (ZgT a0 a1) 0
noncomputable def Lref23_Sound_k1:Option Bool :=
 some (true)
noncomputable def Zik (a0:Tapi_Ledger):(Int×Int)→Option ((Int×Int) ⊕ (Bool))
 | (p11,p12)=>(if p12<(a0.2.2.length:Int) then(idx (a0.2.2) (p12)).bind fun x17=>((if 0<p12 then(idx (a0.2.2) (IntKind.i64.wrap (p12-1))).bind fun x18=>(Y5 x18.1 x17.1).bind fun y19=>some (decide (0≤y19)) else some (false))).bind fun z20=>(if (((0<p12∧z20=true)∨x17.2.2.1<1)∨a0.1<x17.2.2.1) then some (.inr (false)) else(if ((x17.2.1.1<0∨2100000000000000<x17.2.1.1)∨520<(x17.2.1.2.length:Int)) then some (.inr (false)) else(if 2100000000000000<IntKind.i64.wrap (p11+x17.2.1.1) then some (.inr (false)) else some (.inl (IntKind.i64.wrap (p11+x17.2.1.1),IntKind.i64.wrap (p12+1)))))) else(Lref23_Sound_k1).map Sum.inr)
noncomputable def Zdf (a0:Tapi_Ledger):Option (Bool) :=
 (if ((a0.1<0∨16777216<a0.1)∨100000<(a0.2.2.length:Int)) then some (false) else Zd (Zik a0) (0,0))
noncomputable def ZdF (a0:Tapi_Tx) (a1:Bool):Option ((List Int)×Int) :=
 (Zac a0).bind fun y1=>(if ¬ (y1=true) then some ((([]:(List Int)),4)) else(Zai a0 a1).bind fun y2=>some ((y2,0)))
noncomputable def ZhO (p12:(List Int)):Option (List Int) :=
 some (p12)
noncomputable def Ze4 (a0:Tapi_Block):(Int×(List Int))→Option ((Int×(List Int)) ⊕ ((List Int)))
 | (p11,p12)=>(if p11<(a0.2.length:Int) then(idx (a0.2) (p11)).bind fun x16=>(ZdF x16 true).bind fun y17=>(chk (p12.length+y17.1.length≤140737488355328)).bind fun _=>some (.inl (IntKind.i64.wrap (p11+1),p12++y17.1)) else(ZhO p12).map Sum.inr)
noncomputable def ZdG (a0:Tapi_Block):Option ((List Int)) :=
 (Xq a0.1).bind fun y1=>(YN y1 (IntKind.u64.wrap ((a0.2.length:Int)))).bind fun y2=>Zd (Ze4 a0) (0,y2)
noncomputable def ZcN (a0:Tapi_Block):Option Bool :=
 (ZdG a0).bind fun y9=>some (decide ((y9.length:Int)≤100000))
noncomputable def Xh (a0:Tapi_Block):Int→Option ((Int) ⊕ (Bool))
 | p6=>(if p6<(a0.2.length:Int) then(idx (a0.2) (p6)).bind fun x10=>(Zac x10).bind fun y11=>(if ¬ (y11=true) then some (.inr (false)) else some (.inl (IntKind.i64.wrap (p6+1)))) else(ZcN a0).map Sum.inr)
noncomputable def ZfQ (a0:Tapi_Block):Option (Bool) :=
 (if 256<(a0.2.length:Int) then some (false) else Zd (Xh a0) 0)
noncomputable def Lref11_place_k1:Option Int :=
 some ((-1))
noncomputable def Zf7 (a0:(List (Arr 32))) (a1:(Arr 32)):Int→Option ((Int) ⊕ (Int))
 | p4=>(if p4<(a0.length:Int) then(idx (a0) (p4)).bind fun x6=>(if x6=a1 then some (.inr (p4)) else some (.inl (IntKind.i64.wrap (p4+1)))) else(Lref11_place_k1).map Sum.inr)
noncomputable def Zdg (a0:(List (Arr 32))) (a1:(Arr 32)):Option (Int) :=
 Zd (Zf7 a0 a1) 0
noncomputable def Lref11_forward_k1:Option Bool :=
 some (false)
noncomputable def Zci (p20:Int):Option ((Int) ⊕ (Bool)) :=
 some (.inl (IntKind.i64.wrap (p20+1)))
noncomputable def Zem (x30:Tapi_Tx) (a1:(List (Arr 32))) (p20:Int):Int→Option ((Int) ⊕ ((Int) ⊕ (Bool)))
 | p36=>(if p36<(x30.2.1.length:Int) then(idx (x30.2.1) (p36)).bind fun x39=>(Zdg a1 x39.1.1).bind fun y40=>(if p20≤y40 then some (.inr (.inr (true))) else some (.inl (IntKind.i64.wrap (p36+1)))) else(Zci p20).map Sum.inr)
noncomputable def Zen (a0:Tapi_Block) (a1:(List (Arr 32))):Int→Option ((Int) ⊕ (Bool))
 | p20=>(if p20<(a0.2.length:Int) then(idx (a0.2) (p20)).bind fun x30=>Zd (Zem x30 a1 p20) 0 else(Lref11_forward_k1).map Sum.inr)
noncomputable def ZcO (a0:Tapi_Block) (a1:(List (Arr 32))):Option (Bool) :=
 Zd (Zen a0 a1) 0
noncomputable def Lref11_twice_k1:Option Bool :=
 some (false)
noncomputable def ZdT (p69:Int) (p130:(List Tapi_OutPoint)):Option ((Int×(List Tapi_OutPoint)) ⊕ (Bool)) :=
 some (.inl (IntKind.i64.wrap (p69+1),p130))
noncomputable def Zb0 (p130:(List Tapi_OutPoint)) (p129:Int) (x141:Tapi_Input):Option ((Int×(List Tapi_OutPoint)) ⊕ ((Int×(List Tapi_OutPoint)) ⊕ (Bool))) :=
 (chk (p130.length+1≤3909374676536)).bind fun _=>some (.inl (IntKind.i64.wrap (p129+1),p130++[x141.1]))
noncomputable def Zf8 (p130:(List Tapi_OutPoint)) (x141:Tapi_Input) (p129:Int):Int→Option ((Int) ⊕ ((Int×(List Tapi_OutPoint)) ⊕ ((Int×(List Tapi_OutPoint)) ⊕ (Bool))))
 | p147=>(if p147<(p130.length:Int) then(inA (p130.length) (p147)).bind fun j151=>((p130)[j151]?).bind fun x152=>(if (x152.1=x141.1.1∧x152.2=x141.1.2) then some (.inr (.inr (.inr (true)))) else some (.inl (IntKind.i64.wrap (p147+1)))) else(Zb0 p130 p129 x141).map Sum.inr)
noncomputable def Zil (x106:Tapi_Tx) (p69:Int):(Int×(List Tapi_OutPoint))→Option ((Int×(List Tapi_OutPoint)) ⊕ ((Int×(List Tapi_OutPoint)) ⊕ (Bool)))
 | (p129,p130)=>(if p129<(x106.2.1.length:Int) then(idx (x106.2.1) (p129)).bind fun x141=>Zd (Zf8 p130 x141 p129) 0 else(ZdT p69 p130).map Sum.inr)
noncomputable def Zim (a0:Tapi_Block):(Int×(List Tapi_OutPoint))→Option ((Int×(List Tapi_OutPoint)) ⊕ (Bool))
 | (p69,p70)=>(if p69<(a0.2.length:Int) then(idx (a0.2) (p69)).bind fun x106=>Zd (Zil x106 p69) (0,p70) else(Lref11_twice_k1).map Sum.inr)
noncomputable def Zex (a0:Tapi_Block):Option (Bool) :=
 Zd (Zim a0) (0,[])
noncomputable def Zb1 (a0:Tapi_Block) (p28:(List (Arr 32))):Option Int :=
 (ZcO a0 p28).bind fun y33=>(if y33=true then some (101) else(Zex a0).bind fun y34=>(if y34=true then some (91) else(Zd6 a0.2).bind fun y35=>(if ¬ (y35=a0.1.2.2.1) then some (110) else some (0))))
noncomputable def Zin (a0:Tapi_Block):(Int×(List (Arr 32)))→Option ((Int×(List (Arr 32))) ⊕ (Int))
 | (p27,p28)=>(if p27<(a0.2.length:Int) then(idx (a0.2) (p27)).bind fun x36=>(ZeN x36).bind fun y37=>(Zdg p28 y37).bind fun y38=>(if 0≤y38 then some (.inr (91)) else(chk (p28.length+1≤4398046511104)).bind fun _=>some (.inl (IntKind.i64.wrap (p27+1),p28++[y37]))) else(Zb1 a0 p28).map Sum.inr)
noncomputable def Zb2 (a0:Tapi_Block):Option Int :=
 Zd (Zin a0) (0,[])
noncomputable def Zf9 (a0:Tapi_Block):Int→Option ((Int) ⊕ (Int))
 | p15=>(if p15<(a0.2.length:Int) then(idx (a0.2) (p15)).bind fun x40=>(Zc5 x40).bind fun y41=>(if ¬ (y41=0) then some (.inr (y41)) else some (.inl (IntKind.i64.wrap (p15+1)))) else(Zb2 a0).map Sum.inr)
noncomputable def Zb3 (a0:Tapi_Block):Option Int :=
 Zd (Zf9 a0) 0
noncomputable def Zga (a0:Tapi_Block):Int→Option ((Int) ⊕ (Int))
 | p7=>(if p7<(a0.2.length:Int) then(idx (a0.2) (p7)).bind fun x42=>(X5 x42).bind fun y43=>(if ¬ ((y43 == decide (p7=0))=true) then some (.inr (111)) else some (.inl (IntKind.i64.wrap (p7+1)))) else(Zb3 a0).map Sum.inr)
noncomputable def Zey (a0:Tapi_Block):Option (Int) :=
 (ZfQ a0).bind fun y1=>(if ¬ (y1=true) then some (4) else(if (a0.2.length:Int)=0 then some (93) else Zd (Zga a0) 0))
noncomputable def Lref09_Final_k1:Option Bool :=
 some (true)
noncomputable def Zgb (a0:Tapi_Tx):Int→Option ((Int) ⊕ (Bool))
 | p4=>(if p4<(a0.2.1.length:Int) then(idx (a0.2.1) (p4)).bind fun x6=>(if ¬ (x6.2.1=4294967295) then some (.inr (false)) else some (.inl (IntKind.i64.wrap (p4+1)))) else(Lref09_Final_k1).map Sum.inr)
noncomputable def Zaf (a0:Tapi_Tx) (a1:Int):Option (Bool) :=
 (if IntKind.i64.wrap (a0.2.2.2)≤a1 then some (true) else Zd (Zgb a0) 0)
noncomputable def Zez (a0:Tapi_Params) (a1:Tapi_Ledger) (a2:Tapi_Block):Option (Int) :=
 (Xg a0).bind fun y1=>((if ¬ (y1=true) then some (false) else(Zdf a1).bind fun y2=>some (!(y2)))).bind fun z3=>(if (¬ (y1=true)∨z3=true) then some (6) else(if a1.1=16777216 then some (4) else(if ¬ (a2.1.2.1=a1.2.1) then some (144) else(Zey a2).bind fun y4=>(if ¬ (y4=0) then some (y4) else((a2.2)[0]?).bind fun x5=>((x5.2.1)[0]?).bind fun x6=>(if ¬ (IntKind.i64.wrap (x6.2.1)=IntKind.i64.wrap (a1.1+1)) then some (102) else(Zaf x5 (IntKind.i64.wrap (a1.1+1))).bind fun y7=>(if ¬ (y7=true) then some (85) else some (0)))))))
noncomputable def Lref23_find_k1:Option Int :=
 some ((-1))
noncomputable def ZgI (a0:(List Tapi_Coin)) (a1:Tapi_OutPoint):Int→Option ((Int) ⊕ (Int))
 | p4=>(if p4<(a0.length:Int) then(idx (a0) (p4)).bind fun x6=>(if (x6.1.1=a1.1∧x6.1.2=a1.2) then some (.inr (p4)) else some (.inl (IntKind.i64.wrap (p4+1)))) else(Lref23_find_k1).map Sum.inr)
noncomputable def ZcA (a0:(List Tapi_Coin)) (a1:Tapi_OutPoint):Option (Int) :=
 Zd (ZgI a0 a1) 0
noncomputable def ZaO (a0:Tapi_Coin):Option (Tapi_Coin) :=
 (ZaI [a0.2.1.2]).bind fun y1=>some ((a0.1,(a0.2.1.1,y1),a0.2.2.1,a0.2.2.2))
noncomputable def Zgc (p13:(List Tapi_Coin)):Option ((List Tapi_Coin)×Int) :=
 some ((p13,0))
noncomputable def Zgd (p13:(List Tapi_Coin)) (a3:Int) (a0:Tapi_Params):Int→Option ((Int) ⊕ ((List Tapi_Coin)×Int))
 | p24=>(if p24<(p13.length:Int) then(inA (p13.length) (p24)).bind fun j27=>((p13)[j27]?).bind fun x28=>(if (x28.2.2.2=true∧IntKind.i64.wrap (a3-x28.2.2.1)<a0.2.2.2.2.2.2.2.2.2) then some (.inr ((([]:(List Tapi_Coin)),230))) else some (.inl (IntKind.i64.wrap (p24+1)))) else(Zgc p13).map Sum.inr)
noncomputable def ZdU (p13:(List Tapi_Coin)) (a3:Int) (a0:Tapi_Params):Option ((List Tapi_Coin)×Int) :=
 Zd (Zgd p13 a3 a0) 0
noncomputable def Zio (a2:Tapi_Tx) (a1:(List Tapi_Coin)) (a3:Int) (a0:Tapi_Params):(Int×(List Tapi_Coin))→Option ((Int×(List Tapi_Coin)) ⊕ ((List Tapi_Coin)×Int))
 | (p12,p13)=>(if p12<(a2.2.1.length:Int) then(idx (a2.2.1) (p12)).bind fun x29=>(ZcA a1 x29.1).bind fun y30=>(if y30<0 then some (.inr ((([]:(List Tapi_Coin)),101))) else(idx (a1) (y30)).bind fun x31=>(ZaO x31).bind fun y32=>(chk (p13.length+1≤1599289640401)).bind fun _=>some (.inl (IntKind.i64.wrap (p12+1),p13++[(y32.1,(y32.2.1.1,y32.2.1.2),y32.2.2.1,y32.2.2.2)]))) else(ZdU p13 a3 a0).map Sum.inr)
noncomputable def ZeA (a0:Tapi_Params) (a1:(List Tapi_Coin)) (a2:Tapi_Tx) (a3:Int):Option ((List Tapi_Coin)×Int) :=
 Zd (Zio a2 a1 a3 a0) (0,[])
noncomputable def ZcP (a0:(List Tapi_Coin)) (a1:Int):Option ((List Tapi_Coin)) :=
 (chk (a1≤(a0.length:Int)∧0≤a1)).bind fun _=>(chk (((a0).take ((a1).toNat)).length≤1599289640401)).bind fun _=>(chk (0≤IntKind.i64.wrap (a1+1)∧IntKind.i64.wrap (a1+1)≤(a0.length:Int))).bind fun _=>(chk (((a0).take ((a1).toNat)).length+((a0).drop ((IntKind.i64.wrap (a1+1)).toNat)).length≤1599289640401)).bind fun _=>some ((a0).take ((a1).toNat)++(a0).drop ((IntKind.i64.wrap (a1+1)).toNat))
noncomputable def ZgU (p10:(List Tapi_Coin)):Option (List Tapi_Coin) :=
 some (p10)
noncomputable def ZgV (a0:Tapi_Tx) (y1:((Arr 32))) (a1:Int):(Int×(List Tapi_Coin))→Option ((Int×(List Tapi_Coin)) ⊕ ((List Tapi_Coin)))
 | (p9,p10)=>(if p9<(a0.2.2.1.length:Int) then(idx (a0.2.2.1) (p9)).bind fun x14=>(X5 a0).bind fun y15=>(chk (p10.length+1≤1599289640401)).bind fun _=>some (.inl (IntKind.i64.wrap (p9+1),p10++[((y1,IntKind.u32.wrap (p9)),x14,a1,y15)])) else(ZgU p10).map Sum.inr)
noncomputable def ZaE (a0:Tapi_Tx) (a1:Int):Option ((List Tapi_Coin)) :=
 (ZeN a0).bind fun y1=>Zd (ZgV a0 y1 a1) (0,[])
noncomputable def ZiS (a1:Tapi_Coin) (p11:(List Tapi_Coin)) (a0:(List Tapi_Coin)):Option (List Tapi_Coin) :=
 (ZaO a1).bind fun y16=>(chk (p11.length+1≤1599289640401)).bind fun _=>(chk (0≤(p11.length:Int)∧(p11.length:Int)≤(a0.length:Int))).bind fun _=>(chk (p11.length+1+((a0).drop (((p11.length:Int)).toNat)).length≤1599289640401)).bind fun _=>some (p11++[(y16.1,(y16.2.1.1,y16.2.1.2),y16.2.2.1,y16.2.2.2)]++(a0).drop (((p11.length:Int)).toNat))
noncomputable def ZcQ (p10:Int) (p23:(List Tapi_Coin)):Option ((Int×(List Tapi_Coin)) ⊕ ((List Tapi_Coin))) :=
 some (.inl (IntKind.i64.wrap (p10+1),p23))
noncomputable def ZiT (a0:(List Tapi_Coin)) (a1:Tapi_Coin):(Int×(List Tapi_Coin))→Option ((Int×(List Tapi_Coin)) ⊕ ((List Tapi_Coin)))
 | (p10,p11)=>(if p10<(a0.length:Int) then(idx (a0) (p10)).bind fun x20=>(Y5 x20.1 a1.1).bind fun y21=>(if y21<0 then(chk (p11.length+1≤1599289640401)).bind fun _=>ZcQ p10 (p11++[x20]) else ZcQ p10 p11) else(ZiS a1 p11 a0).map Sum.inr)
noncomputable def Zbx (a0:(List Tapi_Coin)) (a1:Tapi_Coin):Option ((List Tapi_Coin)) :=
 Zd (ZiT a0 a1) (0,[])
noncomputable def Zhv (p22:(List Tapi_Coin)):Option ((List Tapi_Coin)×Int) :=
 some ((p22,0))
noncomputable def ZjE (y13:((List Tapi_Coin))):((List Tapi_Coin)×Int)→Option (((List Tapi_Coin)×Int) ⊕ ((List Tapi_Coin)×Int))
 | (p22,p23)=>(if p23<(y13.length:Int) then(inA (y13.length) (p23)).bind fun j27=>((y13)[j27]?).bind fun x28=>(Zbx p22 x28).bind fun y29=>some (.inl (y29,IntKind.i64.wrap (p23+1))) else(Zhv p22).map Sum.inr)
noncomputable def Zfx (a1:Tapi_Tx) (a2:Int) (a0:(List Tapi_Coin)):Option ((List Tapi_Coin)×Int) :=
 (ZaE a1 a2).bind fun y13=>Zd (ZjE y13) (a0,0)
noncomputable def Zhw (y1:((List Tapi_Coin))) (a0:(List Tapi_Coin)) (a1:Tapi_Tx) (a2:Int):Int→Option ((Int) ⊕ ((List Tapi_Coin)×Int))
 | p9=>(if p9<(y1.length:Int) then(inA (y1.length) (p9)).bind fun j30=>((y1)[j30]?).bind fun x31=>(ZcA a0 x31.1).bind fun y32=>(if 0≤y32 then some (.inr ((([]:(List Tapi_Coin)),91))) else some (.inl (IntKind.i64.wrap (p9+1)))) else(Zfx a1 a2 a0).map Sum.inr)
noncomputable def ZgJ (a0:(List Tapi_Coin)) (a1:Tapi_Tx) (a2:Int):Option ((List Tapi_Coin)×Int) :=
 (ZaE a1 a2).bind fun y1=>Zd (Zhw y1 a0 a1 a2) 0
noncomputable def Zip (p5:Int):Option Int :=
 some (p5)
noncomputable def Ziq (a0:(List Tapi_Coin)):(Int×Int)→Option ((Int×Int) ⊕ (Int))
 | (p5,p6)=>(if p6<(a0.length:Int) then(idx (a0) (p6)).bind fun x8=>some (.inl (IntKind.i64.wrap (p5+x8.2.1.1),IntKind.i64.wrap (p6+1))) else(Zip p5).map Sum.inr)
noncomputable def Zdh (a0:(List Tapi_Coin)):Option (Int) :=
 Zd (Ziq a0) (0,0)
noncomputable def ZfR (a0:Tapi_Params) (a1:Tapi_Context):Option (Bool) :=
 (Xg a0).bind fun y1=>some ((((y1 && decide (0≤a1.1)) && decide (a1.1≤16777216)) && decide ((a1.2.2.2.2.length:Int)=(if 11<IntKind.i64.wrap (a1.1+1) then 11 else IntKind.i64.wrap (a1.1+1)))))
noncomputable def ZgW (a1:Tapi_Context) (y2:((Arr 32))) (a2:Tapi_Header) (p4:Int) (p8:(List Int)):Option (Tapi_Context×Int) :=
 some (((IntKind.i64.wrap (a1.1+1),y2,a2.2.2.2.2.1,p4,p8),0))
noncomputable def Zcj (a1:Tapi_Context) (a2:Tapi_Header) (y2:((Arr 32))) (p4:Int):Option (Tapi_Context×Int) :=
 (chk (a1.2.2.2.2.length≤35184372088832)).bind fun _=>(chk (a1.2.2.2.2.length+1≤35184372088832)).bind fun _=>(if 11<(a1.2.2.2.2.length+1:Int) then(chk (1≤((a1.2.2.2.2++[a2.2.2.2.1]).length:Int))).bind fun _=>ZgW a1 y2 a2 p4 (((a1.2.2.2.2++[a2.2.2.2.1]).drop 1).take ((a1.2.2.2.2++[a2.2.2.2.1]).length-1)) else ZgW a1 y2 a2 p4 (a1.2.2.2.2++[a2.2.2.2.1]))
noncomputable def Zbq (a0:Tapi_Params) (a1:Tapi_Context) (a2:Tapi_Header):Option (Tapi_Context×Int) :=
 (ZfR a0 a1).bind fun y1=>(if ¬ (y1=true) then some (((0,zA 32,0,0,([]:(List Int))),6)) else(if a1.1=16777216 then some (((0,zA 32,0,0,([]:(List Int))),4)) else(YU a2).bind fun y2=>(chk (a0.2.2.1≠0)).bind fun _=>(if (IntKind.i64.wrap (a1.1+1)).tmod a0.2.2.1=0 then Zcj a1 a2 y2 a2.2.2.2.1 else Zcj a1 a2 y2 a1.2.2.2.1)))
noncomputable def ZeB (a0:Int):Option (Tapi_Params) :=
 (Zii (zA 4)).bind fun y1=>(Xw y1 1).bind fun y2=>some (((1,zA 32,zA 32,IntKind.u32.wrap (1000+(IntKind.u32.wrap (a0))),545259519,0),y2,IntKind.i64.wrap (3+(IntKind.i64.wrap ((a0).tmod 5))),5,600,1,([]:(List Tapi_Checkpoint)),1000,IntKind.i64.wrap (4+(IntKind.i64.wrap ((a0).tmod 3))),IntKind.i64.wrap ((a0).tmod 3)))
noncomputable def ZeC (a0:Tapi_Params):Option (Tapi_Ledger×Int) :=
 (Xg a0).bind fun y1=>(if ¬ (y1=true) then some (((0,zA 32,([]:(List Tapi_Coin))),6)) else(YU a0.1).bind fun y2=>some (((0,y2,([]:(List Tapi_Coin))),0)))
noncomputable def ZeD (a0:Tapi_Params):Option (Tapi_Context×Int) :=
 (Xg a0).bind fun y1=>(if ¬ (y1=true) then some (((0,zA 32,0,0,([]:(List Int))),6)) else(YU a0.1).bind fun y2=>some (((0,y2,a0.1.2.2.2.2.1,a0.1.2.2.2.1,[a0.1.2.2.2.1]),0)))
noncomputable def ZfS (a0:Int):Option (Tlightclientmade_World) :=
 (ZeB a0).bind fun y1=>(ZeC y1).bind fun y2=>(ZeD y1).bind fun y3=>some ((y1,([]:(List Tapi_Block)),[y2.1],[y3.1],([]:(List (List Tapi_Coin)))))
end
section
set_option maxRecDepth 100000
noncomputable def Lconst_true:Option Bool :=
 some true
end
section
set_option maxRecDepth 100000
abbrev Tapi_Env:=(Arr 32)×Int×Int
noncomputable def ZbO (p56:Int) (p61:(List Int)) (p65:Int) (p57:Int) (p64:Int) (p59:Bool) (p60:Bool) (rf:(List Int)→Int→Int→Int→Option ((List Int))):Option ((Int×Int×Int×Bool×Bool×(List Int)) ⊕ ((List Int))) :=
 ((if 0<p56 then(inA (p61.length) (IntKind.i64.wrap (p56-1))).bind fun j67=>((p61)[j67]?).bind fun x68=>(inA (p61.length) (p65)).bind fun j69=>((p61)[j69]?).bind fun x70=>(Y1 x68 x70).bind fun y71=>some (!(y71)) else some (false))).bind fun z72=>(if (0<p56∧z72=true) then((none:Option Unit)).bind fun _=>some (.inl (0,p57,p64,p59,p60,p61)) else((none:Option Unit)).bind fun _=>(if IntKind.i64.wrap (0-p56)<IntKind.i64.wrap (p57-0) then(rf p61 p56 0 p64).bind fun y73=>(chk (y73.length=p61.length)).bind fun _=>some (.inl (IntKind.i64.wrap (0+1),p57,p64,decide (IntKind.i64.wrap ((IntKind.i64.wrap (p57-p56)).tdiv 8)≤IntKind.i64.wrap (0-p56)),false,y73)) else(rf p61 (IntKind.i64.wrap (0+1)) p57 p64).bind fun y75=>(chk (y75.length=p61.length)).bind fun _=>some (.inl (p56,0,p64,decide (IntKind.i64.wrap ((IntKind.i64.wrap (p57-p56)).tdiv 8)≤IntKind.i64.wrap (p57-0)),false,y75))))
noncomputable def ZbP (p59:Bool) (p60:Bool) (p56:Int) (p61:(List Int)) (p57:Int) (p64:Int) (rf:(List Int)→Int→Int→Int→Option ((List Int))) (p65:Int) (p66:Int):Option ((Int×Int×Int×Bool×Bool×(List Int)) ⊕ ((List Int))) :=
 (if ((p59=true∧p60=true)∧p66=1) then((none:Option Unit)).bind fun _=>ZbO p56 p61 p65 p57 p64 p59 p60 rf else ZbO p56 p61 p65 p57 p64 p59 p60 rf)
noncomputable def XK (p59:Bool) (p60:Bool) (p56:Int) (p61:(List Int)) (p57:Int) (rf:(List Int)→Int→Int→Int→Option ((List Int))) (p64:Int):Option ((Int×Int×Int×Bool×Bool×(List Int)) ⊕ ((List Int))) :=
 ((none:Option Unit)).bind fun _=>(if 0=2 then((none:Option Unit)).bind fun _=>ZbP p59 p60 p56 p61 p57 p64 rf (IntKind.i64.wrap ((IntKind.i64.wrap (p57-1))-(IntKind.i64.wrap (0-p56)))) 1 else ZbP p59 p60 p56 p61 p57 p64 rf 0 0)
noncomputable def XL (a0:(List Int)) (rf:(List Int)→Int→Int→Int→Option ((List Int))):(Int×Int×Int×Bool×Bool×(List Int))→Option ((Int×Int×Int×Bool×Bool×(List Int)) ⊕ ((List Int)))
 | (p56,p57,p58,p59,p60,p61)=>(if IntKind.i64.wrap (p57-p56)≤12 then(Zv p61 p56 p57).bind fun y62=>(chk (y62.length=p61.length)).bind fun _=>(chk (y62.length=a0.length)).bind fun _=>some (.inr (y62)) else(if p58=0 then((none:Option Unit)).bind fun _=>(chk (p61.length=a0.length)).bind fun _=>some (.inr (p61)) else(if ¬ (p59=true) then((none:Option Unit)).bind fun _=>XK p59 p60 p56 p61 p57 rf (IntKind.i64.wrap (p58-1)) else XK p59 p60 p56 p61 p57 rf p58)))
noncomputable def Yt (rf:(List Int)→Int→Int→Int→Option ((List Int))) (a0:(List Int)) (a1:Int) (a2:Int) (a3:Int):Option ((List Int)) :=
 Zd (XL a0 rf) (a1,a2,a3,true,true,a0)
noncomputable def Lslices_pdqsortOrdered_of_uint64w_n:Nat→(List Int)→Int→Int→Int→Option ((List Int))
 | 0,_,_,_,_=>none
 | n+1,a0,a1,a2,a3=>Yt (Lslices_pdqsortOrdered_of_uint64w_n n) a0 a1 a2 a3
noncomputable def YA (a0:(List Int)) (a1:Int) (a2:Int) (a3:Int):Option ((List Int)):=ZoL fun n=>Lslices_pdqsortOrdered_of_uint64w_n n a0 a1 a2 a3
noncomputable def Yp (a0:(List Int)):Option ((List Int)) :=
 (ZcJ (IntKind.u64.wrap ((a0.length:Int)))).bind fun y1=>(YA a0 0 (a0.length:Int) y1).bind fun y2=>(chk (y2.length=a0.length)).bind fun _=>(chk (y2.length=a0.length)).bind fun _=>some (y2)
noncomputable def ZdV (p11:(List Int)):Option (List Int) :=
 (Yp p11).bind fun y16=>(chk (y16.length=p11.length)).bind fun _=>some (y16)
noncomputable def ZbQ (a1:(List (List Int))) (a0:(Arr 2)) (a2:Int) (a3:Int):(Int×(List Int))→Option ((Int×(List Int)) ⊕ ((List Int)))
 | (p10,p11)=>(if p10<(a1.length:Int) then(idx (a1) (p10)).bind fun x18=>(ZiQ a0 x18).bind fun y19=>(Zic y19 (IntKind.u64.wrap ((IntKind.u64.wrap (a2)) * a3))).bind fun y20=>(chk (p11.length+1≤17592186044416)).bind fun _=>some (.inl (IntKind.i64.wrap (p10+1),p11++[y20])) else(ZdV p11).map Sum.inr)
noncomputable def ZaP (a0:(Arr 2)) (a1:(List (List Int))) (a2:Int) (a3:Int):Option ((List Int)) :=
 Zd (ZbQ a1 a0 a2 a3) (0,[])
noncomputable def Zeo (a0:(Arr 2)) (p13:(List (List Int))) (a3:Int) (a2:Int):Option (Tapi_Filter×Int) :=
 (ZaP a0 p13 (p13.length:Int) a3).bind fun y18=>(Zbl y18 a2).bind fun y19=>some ((y19.1,y19.2))
noncomputable def ZaY (p11:Int) (p22:(List (ByteArray×Bool))) (p23:(List (List Int))):Option ((Int×(List (ByteArray×Bool))×(List (List Int))) ⊕ (Tapi_Filter×Int)) :=
 some (.inl (IntKind.i64.wrap (p11+1),p22,p23))
noncomputable def ZaZ (a1:(List (List Int))) (a0:(Arr 2)) (a3:Int) (a2:Int):(Int×(List (ByteArray×Bool))×(List (List Int)))→Option ((Int×(List (ByteArray×Bool))×(List (List Int))) ⊕ (Tapi_Filter×Int))
 | (p11,p12,p13)=>(if p11<(a1.length:Int) then(idx (a1) (p11)).bind fun x20=>(if ¬ ((Zb7 (ZgA x20) p12).getD false=true) then(chk (p13.length+1≤5864062014805)).bind fun _=>ZaY p11 (ZeY (ZgA x20) true p12) (p13++[x20]) else ZaY p11 p12 p13) else(Zeo a0 p13 a3 a2).map Sum.inr)
noncomputable def ZcR (a0:(Arr 2)) (a1:(List (List Int))) (a2:Int) (a3:Int):Option (Tapi_Filter×Int) :=
 (if 4096<(a1.length:Int) then some (((0,([]:(List Int))),4)) else(if (((a3<1∨1099511627776<a3)∨a2<0)∨32<a2) then some (((0,([]:(List Int))),5)) else Zd (ZaZ a1 a0 a3 a2) (0,([]:(List (ByteArray×Bool))),[])))
noncomputable def Zby (a0:Tapi_Block):Option (Tapi_Filter×Int) :=
 (ZdC a0).bind fun y1=>(if ¬ (y1.2=0) then some (((0,([]:(List Int))),y1.2)) else(Zcz a0.1).bind fun y2=>(ZhJ y2).bind fun y3=>(Zaw a0).bind fun y4=>(ZcR y3 y4 10 1533).bind fun y5=>some ((y5.1,y5.2)))
noncomputable def Ya (a0:(List Int)):Option ((List Int)) :=
 (if (a0.length:Int)<2 then some (a0) else none)
noncomputable def Zb4 (a0:(Arr 2)) (a1:(List (List Int))) (a2:Int) (a3:Int):Option ((List Int)×Int) :=
 (if 4096<(a1.length:Int) then some ((([]:(List Int)),4)) else(if (((a2<0∨4096<a2)∨a3<1)∨1099511627776<a3) then some ((([]:(List Int)),5)) else(ZaP a0 a1 a2 a3).bind fun y1=>(Ya y1).bind fun y2=>some ((y2,0))))
noncomputable def Lgolomb_Matchw_k1:Option (Bool×Int) :=
 some ((false,0))
noncomputable def Zep (p46:Int) (y1:((List Int)×Int)) (x40:Int) (p28:Int):Option ((Int×Int) ⊕ (Bool×Int)) :=
 ((if p46<(y1.1.length:Int) then(idx (y1.1) (p46)).bind fun x49=>some (decide (x49=x40)) else some (false))).bind fun z50=>(if (p46<(y1.1.length:Int)∧z50=true) then some (.inr ((true,0))) else some (.inl (p46,IntKind.i64.wrap (p28+1))))
noncomputable def Zj1 (y1:((List Int)×Int)) (x40:Int) (p28:Int):Int→Option ((Int) ⊕ ((Int×Int) ⊕ (Bool×Int)))
 | p46=>((if p46<(y1.1.length:Int) then(idx (y1.1) (p46)).bind fun x51=>some (decide (x51<x40)) else some (false))).bind fun z52=>(if (p46<(y1.1.length:Int)∧z52=true) then some (.inl (IntKind.i64.wrap (p46+1))) else(Zep p46 y1 x40 p28).map Sum.inr)
noncomputable def Zeq (y2:((List Int)×Int)) (y1:((List Int)×Int)):(Int×Int)→Option ((Int×Int) ⊕ (Bool×Int))
 | (p27,p28)=>(if p28<(y2.1.length:Int) then(idx (y2.1) (p28)).bind fun x40=>Zd (Zj1 y1 x40 p28) p27 else(Lgolomb_Matchw_k1).map Sum.inr)
noncomputable def ZcS (a0:(Arr 2)) (a1:Tapi_Filter) (a2:(List (List Int))) (a3:Int) (a4:Int):Option (Bool×Int) :=
 (ZcM a1 a3).bind fun y1=>(if ¬ (y1.2=0) then some ((false,y1.2)) else(Zb4 a0 a2 a1.1 a4).bind fun y2=>(if ¬ (y2.2=0) then some ((false,y2.2)) else Zd (Zeq y2 y1) (0,0)))
noncomputable def Zer (a1:(Arr 32)) (a0:Tapi_Filter) (p9:(List (List Int))):Option (Bool×Int) :=
 (ZhJ a1).bind fun y13=>(ZcS y13 a0 p9 10 1533).bind fun y14=>some ((y14.1,y14.2))
noncomputable def Zck (p8:Int) (p17:(List (List Int))):Option ((Int×(List (List Int))) ⊕ (Bool×Int)) :=
 some (.inl (IntKind.i64.wrap (p8+1),p17))
noncomputable def Zes (a2:(List (List Int))) (a1:(Arr 32)) (a0:Tapi_Filter):(Int×(List (List Int)))→Option ((Int×(List (List Int))) ⊕ (Bool×Int))
 | (p8,p9)=>(if p8<(a2.length:Int) then(idx (a2) (p8)).bind fun x15=>(if 0<(x15.length:Int) then(chk (p9.length+1≤5864062014805)).bind fun _=>Zck p8 (p9++[x15]) else Zck p8 p9) else(Zer a1 a0 p9).map Sum.inr)
noncomputable def XX (a0:Tapi_Filter) (a1:(Arr 32)) (a2:(List (List Int))):Option (Bool×Int) :=
 Zd (Zes a2 a1 a0) (0,[])
noncomputable def Zh0 (a0:(List Int)):Option ((List (List Int))) :=
 (if ¬ ((a0.length:Int)=4) then some (([]:(List (List Int)))) else((a0)[2]?).bind fun x1=>some ([[x1]]))
noncomputable def ZeE (a1:Int) (a0:Tapi_Coin) (y1:((List (List Int)))) (p3:Int) (p4:(List Tapi_Output)):Option (Tapi_Tx×Int) :=
 (Xd (IntKind.u8.wrap ((a1).tdiv 4))).bind fun y5=>(chk (p4.length+1≤4398046511104)).bind fun _=>some (((1,[(a0.1,IntKind.u32.wrap (a1),y1)],p4++[(p3,y5)],0),(if a0.2.1.1<IntKind.i64.wrap ((a1).tmod 3) then a0.2.1.1 else IntKind.i64.wrap ((a1).tmod 3))))
noncomputable def ZfT (a0:Tapi_Coin) (a1:Int):Option (Tapi_Tx×Int) :=
 (Zh0 a0.2.1.2).bind fun y1=>(if (a1).tmod 2=1 then(Xd (IntKind.u8.wrap ((a1).tdiv 2))).bind fun y7=>ZeE a1 a0 y1 (IntKind.i64.wrap ((IntKind.i64.wrap (a0.2.1.1-(if a0.2.1.1<IntKind.i64.wrap ((a1).tmod 3) then a0.2.1.1 else IntKind.i64.wrap ((a1).tmod 3)))).tdiv 3)) [(IntKind.i64.wrap ((IntKind.i64.wrap (a0.2.1.1-(if a0.2.1.1<IntKind.i64.wrap ((a1).tmod 3) then a0.2.1.1 else IntKind.i64.wrap ((a1).tmod 3))))-(IntKind.i64.wrap ((IntKind.i64.wrap (a0.2.1.1-(if a0.2.1.1<IntKind.i64.wrap ((a1).tmod 3) then a0.2.1.1 else IntKind.i64.wrap ((a1).tmod 3)))).tdiv 3))),y7)] else ZeE a1 a0 y1 (IntKind.i64.wrap (a0.2.1.1-(if a0.2.1.1<IntKind.i64.wrap ((a1).tmod 3) then a0.2.1.1 else IntKind.i64.wrap ((a1).tmod 3)))) [])
noncomputable def Zhf (p147:(List Tapi_Tx)) (p145:Int):Option ((List Tapi_Tx)×Int) :=
 some ((p147,p145))
noncomputable def YW (p146:Int) (p288:Int) (p289:(List Tapi_Tx)) (p290:(List Tapi_Coin)):Option ((Int×Int×(List Tapi_Tx)×(List Tapi_Coin)) ⊕ ((List Tapi_Tx)×Int)) :=
 some (.inl (p288,IntKind.u8.wrap (p146+1),p289,p290))
noncomputable def Zbz (p146:Int) (p145:Int) (y294:(Tapi_Tx×Int)) (p147:(List Tapi_Tx)) (p309:(List Tapi_Coin)):Option ((Int) ⊕ ((Int×Int×(List Tapi_Tx)×(List Tapi_Coin)) ⊕ ((List Tapi_Tx)×Int))) :=
 (YW p146 (IntKind.i64.wrap (p145+y294.2)) (p147++[(y294.1.1,y294.1.2.1,y294.1.2.2.1,y294.1.2.2.2)]) p309).map Sum.inr
noncomputable def ZbA (y294:(Tapi_Tx×Int)) (y299:((Arr 32))) (a1:Tapi_Ledger) (p146:Int) (p145:Int) (p147:(List Tapi_Tx)):(Int×(List Tapi_Coin))→Option ((Int×(List Tapi_Coin)) ⊕ ((Int) ⊕ ((Int×Int×(List Tapi_Tx)×(List Tapi_Coin)) ⊕ ((List Tapi_Tx)×Int))))
 | (p308,p309)=>(if p308<(y294.1.2.2.1.length:Int) then(inA (y294.1.2.2.1.length) (p308)).bind fun j313=>((y294.1.2.2.1)[j313]?).bind fun x314=>(chk (p309.length+1≤1599289640401)).bind fun _=>some (.inl (IntKind.i64.wrap (p308+1),p309++[((y299,IntKind.u32.wrap (p308)),x314,IntKind.i64.wrap (a1.1+1),false)])) else(Zbz p146 p145 y294 p147 p309).map Sum.inr)
noncomputable def Zd7 (p148:(List Tapi_Coin)) (a2:Int) (p146:Int) (a1:Tapi_Ledger) (a0:Tapi_Params) (p147:(List Tapi_Tx)) (p145:Int):Int→Option ((Int) ⊕ ((Int×Int×(List Tapi_Tx)×(List Tapi_Coin)) ⊕ ((List Tapi_Tx)×Int)))
 | p265=>(if p265<(p148.length:Int) then(chk ((p148.length:Int)≠0)).bind fun _=>(inA (p148.length) ((IntKind.i64.wrap ((IntKind.i64.wrap ((IntKind.i64.wrap (IntKind.u8.wrap ((a2).tdiv 4)))+(IntKind.i64.wrap (p146))))+p265)).tmod (p148.length:Int))).bind fun j292=>((p148)[j292]?).bind fun x293=>(if (x293.2.2.2=true∧IntKind.i64.wrap ((IntKind.i64.wrap (a1.1+1))-x293.2.2.1)<a0.2.2.2.2.2.2.2.2.2) then some (.inl (IntKind.i64.wrap (p265+1))) else(ZfT x293 (IntKind.u8.wrap (a2+p146))).bind fun y294=>(chk (p147.length+1≤2199023255552)).bind fun _=>(chk ((IntKind.i64.wrap ((IntKind.i64.wrap ((IntKind.i64.wrap (IntKind.u8.wrap ((a2).tdiv 4)))+(IntKind.i64.wrap (p146))))+p265)).tmod (p148.length:Int)≤(p148.length:Int)∧0≤(IntKind.i64.wrap ((IntKind.i64.wrap ((IntKind.i64.wrap (IntKind.u8.wrap ((a2).tdiv 4)))+(IntKind.i64.wrap (p146))))+p265)).tmod (p148.length:Int))).bind fun _=>(chk (0≤IntKind.i64.wrap (((IntKind.i64.wrap ((IntKind.i64.wrap ((IntKind.i64.wrap (IntKind.u8.wrap ((a2).tdiv 4)))+(IntKind.i64.wrap (p146))))+p265)).tmod (p148.length:Int))+1)∧IntKind.i64.wrap (((IntKind.i64.wrap ((IntKind.i64.wrap ((IntKind.i64.wrap (IntKind.u8.wrap ((a2).tdiv 4)))+(IntKind.i64.wrap (p146))))+p265)).tmod (p148.length:Int))+1)≤(p148.length:Int))).bind fun _=>(chk (((IntKind.i64.wrap ((IntKind.i64.wrap ((IntKind.i64.wrap (IntKind.u8.wrap ((a2).tdiv 4)))+(IntKind.i64.wrap (p146))))+p265)).tmod (p148.length:Int)).toNat+(((p148).drop (IntKind.i64.wrap (((IntKind.i64.wrap ((IntKind.i64.wrap ((IntKind.i64.wrap (IntKind.u8.wrap ((a2).tdiv 4)))+(IntKind.i64.wrap (p146))))+p265)).tmod (p148.length:Int))+1)).toNat).take (p148.length-(IntKind.i64.wrap (((IntKind.i64.wrap ((IntKind.i64.wrap ((IntKind.i64.wrap (IntKind.u8.wrap ((a2).tdiv 4)))+(IntKind.i64.wrap (p146))))+p265)).tmod (p148.length:Int))+1)).toNat)).length≤1599289640401)).bind fun _=>(ZeN (y294.1.1,y294.1.2.1,y294.1.2.2.1,y294.1.2.2.2)).bind fun y299=>Zd (ZbA y294 y299 a1 p146 p145 p147) (0,(p148).take ((IntKind.i64.wrap ((IntKind.i64.wrap ((IntKind.i64.wrap (IntKind.u8.wrap ((a2).tdiv 4)))+(IntKind.i64.wrap (p146))))+p265)).tmod (p148.length:Int)).toNat++((p148).drop (IntKind.i64.wrap (((IntKind.i64.wrap ((IntKind.i64.wrap ((IntKind.i64.wrap (IntKind.u8.wrap ((a2).tdiv 4)))+(IntKind.i64.wrap (p146))))+p265)).tmod (p148.length:Int))+1)).toNat).take (p148.length-(IntKind.i64.wrap (((IntKind.i64.wrap ((IntKind.i64.wrap ((IntKind.i64.wrap (IntKind.u8.wrap ((a2).tdiv 4)))+(IntKind.i64.wrap (p146))))+p265)).tmod (p148.length:Int))+1)).toNat))) else(YW p146 p145 p147 p148).map Sum.inr)
noncomputable def Zd8 (a2:Int) (a1:Tapi_Ledger) (a0:Tapi_Params):(Int×Int×(List Tapi_Tx)×(List Tapi_Coin))→Option ((Int×Int×(List Tapi_Tx)×(List Tapi_Coin)) ⊕ ((List Tapi_Tx)×Int))
 | (p145,p146,p147,p148)=>(if p146<(a2).tmod 4 then Zd (Zd7 p148 a2 p146 a1 a0 p147 p145) 0 else(Zhf p147 p145).map Sum.inr)
noncomputable def YK (a0:Tapi_Params) (a1:Tapi_Ledger) (a2:Int):Option ((List Tapi_Tx)×Int) :=
 (chk (a1.2.2.length≤1599289640401)).bind fun _=>Zd (Zd8 a2 a1 a0) (0,0,[],a1.2.2)
noncomputable def Zhx (p49:(Arr 8)):Option ((Arr 4)×(Arr 4)) :=
 some (((zA 4).over ((p49.l).drop 4),(zA 4).over ((p49.l).take 4)))
noncomputable def Zfy (p48:Int) (p90:(Arr 8)) (p88:Int):Option ((Int×(Arr 8)) ⊕ ((Arr 4)×(Arr 4))) :=
 (inA (8) (IntKind.i64.wrap (p48+4))).bind fun j97=>some (.inl (IntKind.i64.wrap (p48+1),p90.put j97 p88))
noncomputable def ZjF (p48:Int) (a0:(Arr 4)) (a1:(Arr 4)):(Int×Int×(Arr 8))→Option ((Int×Int×(Arr 8)) ⊕ ((Int×(Arr 8)) ⊕ ((Arr 4)×(Arr 4))))
 | (p88,p89,p90)=>(if p89<4 then(inA (4) (p48)).bind fun j98=>(inA (4) (p89)).bind fun j99=>(XJ (a0.at j98) (a1.at j99)).bind fun y100=>(inA (8) (IntKind.i64.wrap (p48+p89))).bind fun j101=>(YE (p90.at j101) y100.2 0).bind fun y102=>(YE y102.1 p88 0).bind fun y103=>some (.inl (IntKind.u64.wrap ((IntKind.u64.wrap (y100.1+y102.2))+y103.2),IntKind.i64.wrap (p89+1),p90.put j101 y103.1)) else(Zfy p48 p90 p88).map Sum.inr)
noncomputable def ZjG (a0:(Arr 4)) (a1:(Arr 4)):(Int×(Arr 8))→Option ((Int×(Arr 8)) ⊕ ((Arr 4)×(Arr 4)))
 | (p48,p49)=>(if p48<4 then Zd (ZjF p48 a0 a1) (0,0,p49) else(Zhx p49).map Sum.inr)
noncomputable def ZgK (a0:(Arr 4)) (a1:(Arr 4)):Option ((Arr 4)×(Arr 4)) :=
 Zd (ZjG a0 a1) (0,zA 8)
noncomputable def ZjH (p28:(Arr 4)) (p29:(Arr 4)):Option ((Arr 4)×(Arr 4)×Bool) :=
 some ((p28,p29,true))
noncomputable def Zfz (p27:Int) (p50:(Arr 4)) (p51:(Arr 4)):Option ((Int×(Arr 4)×(Arr 4)) ⊕ ((Arr 4)×(Arr 4)×Bool)) :=
 some (.inl (IntKind.i64.wrap (p27-1),p50,p51))
noncomputable def ZdH (y41:(Bool)) (a2:(Arr 4)) (p27:Int) (p28:(Arr 4)) (p44:(Arr 4)):Option ((Int×(Arr 4)×(Arr 4)) ⊕ ((Arr 4)×(Arr 4)×Bool)) :=
 ((if y41=true then some (false) else(YJ p44 a2).bind fun y45=>some (decide (0≤y45)))).bind fun z46=>(if (y41=true∨z46=true) then(ZgG p44 a2).bind fun y52=>(inA (4) (IntKind.i64.wrap ((p27).tdiv 64))).bind fun j53=>(chk (¬ ((p27).tmod 64<0))).bind fun _=>Zfz p27 (p28.put j53 (bits .or .u64 (p28.at j53) (IntKind.u64.wrap (1 * (2 ^ (min ((p27).tmod 64).toNat 64)))))) y52.1 else Zfz p27 p28 p44)
noncomputable def ZjI (a1:(Arr 4)) (a2:(Arr 4)):(Int×(Arr 4)×(Arr 4))→Option ((Int×(Arr 4)×(Arr 4)) ⊕ ((Arr 4)×(Arr 4)×Bool))
 | (p27,p28,p29)=>(if 0≤p27 then(XW p29 255).bind fun y41=>(Zcu p29 p29).bind fun y42=>(XW a1 p27).bind fun y43=>(if y43=true then ZdH y41 a2 p27 p28 (y42.1.put 0 (bits .or .u64 (y42.1.at 0) 1)) else ZdH y41 a2 p27 p28 y42.1) else(ZjH p28 p29).map Sum.inr)
noncomputable def ZgL (a0:(Arr 4)) (a1:(Arr 4)) (a2:(Arr 4)):Option ((Arr 4)×(Arr 4)×Bool) :=
 (YJ a2 a0).bind fun y1=>(if y1≤0 then some ((zA 4,zA 4,false)) else Zd (ZjI a1 a2) (255,zA 4,a0))
noncomputable def Za0 (p15:Int) (p20:(Arr 4)):Option ((Int) ⊕ (Int)) :=
 (Zak p20).bind fun y21=>(if y21≤23 then some (.inr (bits .or .u32 (IntKind.u32.wrap ((IntKind.u32.wrap (p15)) * 16777216)) (IntKind.u32.wrap (p20.at 0)))) else some (.inl (IntKind.i64.wrap (p15+1))))
noncomputable def ZgX (a0:(Arr 4)):Int→Option ((Int) ⊕ (Int))
 | p15=>(if p15≤3 then(Zcv a0 (IntKind.i64.wrap (8 * (IntKind.i64.wrap (3-p15))))).bind fun y22=>(Xw y22 (IntKind.i64.wrap (8 * (IntKind.i64.wrap (3-p15))))).bind fun y23=>(YJ y23 a0).bind fun y24=>(if ¬ (y24=0) then some (.inl (IntKind.i64.wrap (p15+1))) else Za0 p15 y22) else(Xw a0 (IntKind.i64.wrap (8 * (IntKind.i64.wrap (p15-3))))).bind fun y25=>Za0 p15 y25)
noncomputable def ZcT (a0:(Arr 4)):Option (Int) :=
 (Zae a0).bind fun y1=>(if y1=true then some (0) else Zd (ZgX a0) 1)
noncomputable def Zdi (p13:(Arr 4)):Option (Int×Int) :=
 (ZcT p13).bind fun y14=>some ((y14,0))
noncomputable def Zdj (p10:(Arr 4)):Option (Int×Int) :=
 (Zae p10).bind fun y11=>(if y11=true then(Y9 1).bind fun y15=>Zdi y15 else Zdi p10)
noncomputable def Zdk (a0:Tapi_Params) (y2:((Arr 4)×Int)) (p3:Int):Option (Int×Int) :=
 (Y9 (if IntKind.u64.wrap (4 * (IntKind.u64.wrap ((IntKind.u64.wrap (a0.2.2.1)) * (IntKind.u64.wrap (a0.2.2.2.1)))))<(if p3<IntKind.u64.wrap ((IntKind.u64.wrap ((IntKind.u64.wrap (a0.2.2.1)) * (IntKind.u64.wrap (a0.2.2.2.1)))).tdiv 4) then IntKind.u64.wrap ((IntKind.u64.wrap ((IntKind.u64.wrap (a0.2.2.1)) * (IntKind.u64.wrap (a0.2.2.2.1)))).tdiv 4) else p3) then IntKind.u64.wrap (4 * (IntKind.u64.wrap ((IntKind.u64.wrap (a0.2.2.1)) * (IntKind.u64.wrap (a0.2.2.2.1))))) else(if p3<IntKind.u64.wrap ((IntKind.u64.wrap ((IntKind.u64.wrap (a0.2.2.1)) * (IntKind.u64.wrap (a0.2.2.2.1)))).tdiv 4) then IntKind.u64.wrap ((IntKind.u64.wrap ((IntKind.u64.wrap (a0.2.2.1)) * (IntKind.u64.wrap (a0.2.2.2.1)))).tdiv 4) else p3))).bind fun y4=>(ZgK y2.1 y4).bind fun y5=>(Y9 (IntKind.u64.wrap ((IntKind.u64.wrap (a0.2.2.1)) * (IntKind.u64.wrap (a0.2.2.2.1))))).bind fun y6=>(ZgL y5.1 y5.2 y6).bind fun y7=>((if ¬ (y7.2.2=true) then some (false) else(YJ y7.1 a0.2.1).bind fun y8=>some (decide (0<y8)))).bind fun z9=>(if (¬ (y7.2.2=true)∨z9=true) then Zdj a0.2.1 else Zdj y7.1)
noncomputable def ZdI (a0:Tapi_Params) (a1:Int) (a2:Int) (a3:Int):Option (Int×Int) :=
 (Xg a0).bind fun y1=>(if ¬ (y1=true) then some ((0,6)) else(Xf a1).bind fun y2=>(if ¬ (y2.2=0) then some ((0,y2.2)) else(if a2<a3 then Zdk a0 y2 (IntKind.u64.wrap (IntKind.u32.wrap (a3-a2))) else Zdk a0 y2 0)))
noncomputable def Zdl (a0:Tapi_Params) (a1:Tapi_Context):Option (Int×Int) :=
 (Xg a0).bind fun y1=>(if ((((¬ (y1=true)∨a1.1<0)∨16777216<a1.1)∨(a1.2.2.2.2.length:Int)=0)∨11<(a1.2.2.2.2.length:Int)) then some ((0,6)) else(chk (a0.2.2.1≠0)).bind fun _=>(if ¬ ((IntKind.i64.wrap (a1.1+1)).tmod a0.2.2.1=0) then some ((a1.2.2.1,0)) else(idx (a1.2.2.2.2) (IntKind.i64.wrap ((a1.2.2.2.2.length:Int)-1))).bind fun x3=>(ZdI a0 a1.2.2.1 a1.2.2.2.1 x3).bind fun y4=>some ((y4.1,y4.2))))
noncomputable def Zlr (a0:Tapi_Params) (a1:Tapi_Context) (a2:(Arr 32)) (y2:(Int)) (a3:Int) (y1:(Int×Int)) (p8:Int):Option Tapi_Header :=
 some ((a0.2.2.2.2.2.1,a1.2.1,a2,IntKind.u32.wrap ((IntKind.u32.wrap (y2+1))+a3),y1.1,p8))
noncomputable def ZiU (a0:Tapi_Params) (a1:Tapi_Context) (a2:(Arr 32)) (y2:(Int)) (a3:Int) (y1:(Int×Int)):Int→Option ((Int) ⊕ (Tapi_Header))
 | p8=>(if p8<20000 then(YU (a0.2.2.2.2.2.1,a1.2.1,a2,IntKind.u32.wrap ((IntKind.u32.wrap (y2+1))+a3),y1.1,p8)).bind fun y11=>(Zdc y11 y1.1).bind fun y12=>(if y12=true then some (.inr ((a0.2.2.2.2.2.1,a1.2.1,a2,IntKind.u32.wrap ((IntKind.u32.wrap (y2+1))+a3),y1.1,p8))) else some (.inl (IntKind.u32.wrap (p8+1)))) else(Zlr a0 a1 a2 y2 a3 y1 p8).map Sum.inr)
noncomputable def ZfU (a0:Tapi_Params) (a1:Tapi_Context) (a2:(Arr 32)) (a3:Int):Option (Tapi_Header) :=
 (Zdl a0 a1).bind fun y1=>(Zcb a1.2.2.2.2).bind fun y2=>Zd (ZiU a0 a1 a2 y2 a3 y1) 0
noncomputable def ZeF (a0:Tapi_Params) (a1:Tapi_Ledger) (a2:Tapi_Context) (a3:Int):Option (Tapi_Block) :=
 (YK a0 a1 a3).bind fun y1=>(Zbo a0 (IntKind.i64.wrap (a1.1+1))).bind fun y2=>(Xd (IntKind.u8.wrap ((a3).tdiv 8))).bind fun y3=>(Zew (IntKind.i64.wrap (a1.1+1)) (IntKind.i64.wrap (y2+y1.2)) y3).bind fun y4=>(chk (1+y1.1.length≤2199023255552)).bind fun _=>(Zd6 ([(y4.1,y4.2.1,y4.2.2.1,y4.2.2.2)]++y1.1)).bind fun y6=>(Zfw a3).bind fun y7=>(ZfU a0 a2 y6 y7).bind fun y8=>some ((y8,[(y4.1,y4.2.1,y4.2.2.1,y4.2.2.2)]++y1.1))
noncomputable def Zal (a0:ByteArray) (a1:(List Int)):Option ((Arr 32)) :=
 (chk (a0.size≤140737488355328)).bind fun _=>(YI (ZkD a0)).bind fun y2=>(chk (y2.l.length≤140737488355328)).bind fun _=>(chk (y2.l.length+y2.l.length≤140737488355328)).bind fun _=>(chk (y2.l.length+y2.l.length+a1.length≤140737488355328)).bind fun _=>(YI (y2.l++y2.l++a1)).bind fun y6=>some (y6)
noncomputable def Zcl (a0:Tapi_Tx) (p14:(List Int)) (p15:(List Int)) (p29:(List Int)) (a1:Int) (a2:Tapi_Output):Option ((Arr 32)×Int) :=
 (Z2 ([]:(List Int)) a0.1).bind fun y33=>(YI p14).bind fun y34=>(Yw y33 y34).bind fun y35=>(YI p15).bind fun y36=>(Yw y35 y36).bind fun y37=>(YI p29).bind fun y38=>(Yw y37 y38).bind fun y39=>(Z2 y39 a0.2.2.2).bind fun y40=>(Z2 y40 (IntKind.u32.wrap (a1))).bind fun y41=>(ZdP a2).bind fun y42=>(chk (y41.length+y42.length≤140737488355328)).bind fun _=>(Zal (⟨#[108,105,103,104,116,99,108,105,101,110,116,47,115,112,101,110,100]⟩:ByteArray) (y41++y42)).bind fun y44=>some ((y44,0))
noncomputable def ZgY (a0:Tapi_Tx) (p14:(List Int)) (p15:(List Int)) (a1:Int) (a2:Tapi_Output):(Int×(List Int))→Option ((Int×(List Int)) ⊕ ((Arr 32)×Int))
 | (p28,p29)=>(if p28<(a0.2.2.1.length:Int) then(idx (a0.2.2.1) (p28)).bind fun x45=>(ZdP x45).bind fun y46=>(chk (p29.length+y46.length≤140737488355328)).bind fun _=>some (.inl (IntKind.i64.wrap (p28+1),p29++y46)) else(Zcl a0 p14 p15 p29 a1 a2).map Sum.inr)
noncomputable def Zcm (a0:Tapi_Tx) (p14:(List Int)) (p15:(List Int)) (a1:Int) (a2:Tapi_Output):Option ((Arr 32)×Int) :=
 Zd (ZgY a0 p14 p15 a1 a2) (0,[])
noncomputable def ZgZ (a0:Tapi_Tx) (a1:Int) (a2:Tapi_Output):(Int×(List Int)×(List Int))→Option ((Int×(List Int)×(List Int)) ⊕ ((Arr 32)×Int))
 | (p13,p14,p15)=>(if p13<(a0.2.1.length:Int) then(idx (a0.2.1) (p13)).bind fun x48=>(Zc1 x48.1).bind fun y49=>(chk (p14.length+y49.length≤140737488355328)).bind fun _=>(Z2 p15 x48.2.1).bind fun y51=>some (.inl (IntKind.i64.wrap (p13+1),p14++y49,y51)) else(Zcm a0 p14 p15 a1 a2).map Sum.inr)
noncomputable def ZcU (a0:Tapi_Tx) (a1:Int) (a2:Tapi_Output):Option ((Arr 32)×Int) :=
 (Zac a0).bind fun y1=>(if ((¬ (y1=true)∨a2.1<0)∨520<(a2.2.length:Int)) then some ((zA 32,4)) else(if (a1<0∨(a0.2.1.length:Int)≤a1) then some ((zA 32,5)) else Zd (ZgZ a0 a1 a2) (0,[],([]:(List Int)))))
open Classical in
noncomputable def ZaF (a0:(List Int)) (a1:(List (List Int))) (a2:Tapi_Env):Option (Int) :=
 if ∃ j k,(1≤j∧j≤6)∧(1≤k∧k≤6)∧a0=[1,1,j,5]∧a1=[[k]] then some (if a1=[[a0.getD 2 0]] then 0 else 84) else none
noncomputable def ZeG (a0:Tapi_Tx) (a1:Int) (a2:Tapi_Coin) (a3:Int):Option (Int) :=
 (ZcU a0 a1 a2.2.1).bind fun y1=>(if ¬ (y1.2=0) then some (y1.2) else(idx (a0.2.1) (a1)).bind fun x2=>(if ¬ ((x2.1.1=a2.1.1∧x2.1.2=a2.1.2)) then some (101) else(if ((16777216<a3∨a2.2.2.1<0)∨a3<a2.2.2.1) then some (102) else(ZaF a2.2.1.2 x2.2.2 (y1.1,a3,IntKind.i64.wrap (a3-a2.2.2.1))).bind fun y3=>some (y3))))
noncomputable def Zir (y2:(Int×Int)):Option (Int×Int) :=
 some ((y2.1,0))
noncomputable def Zge (a1:(List Tapi_Coin)) (a0:Tapi_Tx) (a2:Int) (y2:(Int×Int)):Int→Option ((Int) ⊕ (Int×Int))
 | p9=>(if p9<(a1.length:Int) then(idx (a1) (p9)).bind fun x12=>(ZeG a0 p9 x12 a2).bind fun y13=>(if ¬ (y13=0) then some (.inr ((0,y13))) else some (.inl (IntKind.i64.wrap (p9+1)))) else(Zir y2).map Sum.inr)
noncomputable def ZeH (a0:Tapi_Tx) (a1:(List Tapi_Coin)) (a2:Int):Option (Int×Int) :=
 (X5 a0).bind fun y1=>(if y1=true then some ((0,92)) else(ZgB a0 a1).bind fun y2=>(if ¬ (y2.2=0) then some ((0,y2.2)) else(Zaf a0 a2).bind fun y3=>(if ¬ (y3=true) then some ((0,85)) else Zd (Zge a1 a0 a2 y2) 0)))
noncomputable def Zgl (a2:Tapi_Block) (a1:Tapi_Ledger) (p50:Int) (p52:(List Tapi_Coin)) (y2:((Arr 32))) (p53:(List Tapi_Coin)):Option (Tapi_Ledger×(List Tapi_Coin)×Int) :=
 ((a2.2)[0]?).bind fun x75=>(ZaE x75 (IntKind.i64.wrap (a1.1+1))).bind fun y76=>(Zdh y76).bind fun y77=>(if p50<y77 then some (((0,zA 32,([]:(List Tapi_Coin))),([]:(List Tapi_Coin)),231)) else(Zdh p52).bind fun y78=>(if 2100000000000000<y78 then some (((0,zA 32,([]:(List Tapi_Coin))),([]:(List Tapi_Coin)),90)) else(if 100000<(p52.length:Int) then some (((0,zA 32,([]:(List Tapi_Coin))),([]:(List Tapi_Coin)),4)) else some (((IntKind.i64.wrap (a1.1+1),y2,p52),p53,0)))))
noncomputable def XM (x79:Tapi_Tx) (a1:Tapi_Ledger) (p51:Int) (p96:Int) (p97:(List Tapi_Coin)) (p98:(List Tapi_Coin)):Option ((Int×Int×(List Tapi_Coin)×(List Tapi_Coin)) ⊕ (Tapi_Ledger×(List Tapi_Coin)×Int)) :=
 (ZgJ p97 x79 (IntKind.i64.wrap (a1.1+1))).bind fun y99=>(if ¬ (y99.2=0) then some (.inr (((0,zA 32,([]:(List Tapi_Coin))),([]:(List Tapi_Coin)),y99.2))) else some (.inl (p96,IntKind.i64.wrap (p51+1),y99.1,p98)))
noncomputable def Zgm (p53:(List Tapi_Coin)) (y100:((List Tapi_Coin)×Int)) (x79:Tapi_Tx) (a1:Tapi_Ledger) (p51:Int) (p50:Int) (y101:(Int×Int)) (p111:(List Tapi_Coin)):Option ((Int×Int×(List Tapi_Coin)×(List Tapi_Coin)) ⊕ (Tapi_Ledger×(List Tapi_Coin)×Int)) :=
 (chk (p53.length+y100.1.length≤1599289640401)).bind fun _=>XM x79 a1 p51 (IntKind.i64.wrap (p50+y101.1)) p111 (p53++y100.1)
noncomputable def Zgn (y100:((List Tapi_Coin)×Int)) (p53:(List Tapi_Coin)) (x79:Tapi_Tx) (a1:Tapi_Ledger) (p51:Int) (p50:Int) (y101:(Int×Int)):(Int×(List Tapi_Coin))→Option ((Int×(List Tapi_Coin)) ⊕ ((Int×Int×(List Tapi_Coin)×(List Tapi_Coin)) ⊕ (Tapi_Ledger×(List Tapi_Coin)×Int)))
 | (p110,p111)=>(if p110<(y100.1.length:Int) then(idx (y100.1) (p110)).bind fun x116=>(ZcA p111 x116.1).bind fun y117=>(ZcP p111 y117).bind fun y118=>some (.inl (IntKind.i64.wrap (p110+1),y118)) else(Zgm p53 y100 x79 a1 p51 p50 y101 p111).map Sum.inr)
noncomputable def Zgo (a2:Tapi_Block) (a0:Tapi_Params) (a1:Tapi_Ledger) (y2:((Arr 32))):(Int×Int×(List Tapi_Coin)×(List Tapi_Coin))→Option ((Int×Int×(List Tapi_Coin)×(List Tapi_Coin)) ⊕ (Tapi_Ledger×(List Tapi_Coin)×Int))
 | (p50,p51,p52,p53)=>(if p51<(a2.2.length:Int) then(idx (a2.2) (p51)).bind fun x79=>(if 0<p51 then(ZeA a0 p52 x79 (IntKind.i64.wrap (a1.1+1))).bind fun y100=>(if ¬ (y100.2=0) then some (.inr (((0,zA 32,([]:(List Tapi_Coin))),([]:(List Tapi_Coin)),y100.2))) else(ZeH x79 y100.1 (IntKind.i64.wrap (a1.1+1))).bind fun y101=>(if ¬ (y101.2=0) then some (.inr (((0,zA 32,([]:(List Tapi_Coin))),([]:(List Tapi_Coin)),y101.2))) else Zd (Zgn y100 p53 x79 a1 p51 p50 y101) (0,p52))) else XM x79 a1 p51 p50 p52 p53) else(Zgl a2 a1 p50 p52 y2 p53).map Sum.inr)
noncomputable def Zb5 (a0:Tapi_Params) (a1:Tapi_Ledger) (a2:Tapi_Block):Option (Tapi_Ledger×(List Tapi_Coin)×Int) :=
 (Zez a0 a1 a2).bind fun y1=>(if ¬ (y1=0) then some (((0,zA 32,([]:(List Tapi_Coin))),([]:(List Tapi_Coin)),y1)) else(YU a2.1).bind fun y2=>(Zbo a0 (IntKind.i64.wrap (a1.1+1))).bind fun y3=>Zd (Zgo a2 a0 a1 y2) (y3,0,a1.2.2,[]))
noncomputable def Lref14_Checkw_k1:Option Int :=
 some (0)
noncomputable def ZhP (a0:Tapi_Params) (y1:(Tapi_Context×Int)):Int→Option ((Int) ⊕ (Int))
 | p8=>(if p8<(a0.2.2.2.2.2.2.1.length:Int) then(idx (a0.2.2.2.2.2.2.1) (p8)).bind fun x10=>(if (x10.1=y1.1.1∧¬ (x10.2=y1.1.2.1)) then some (.inr (143)) else some (.inl (IntKind.i64.wrap (p8+1)))) else(Lref14_Checkw_k1).map Sum.inr)
noncomputable def Zcc (a0:Tapi_Params) (a1:Tapi_Context) (a2:Tapi_Header) (a3:Int):Option (Int) :=
 (Zbq a0 a1 a2).bind fun y1=>(if ¬ (y1.2=0) then some (y1.2) else(if ¬ (a2.2.1=a1.2.1) then some (144) else(if a2.1<a0.2.2.2.2.2.1 then some (142) else(Zdl a0 a1).bind fun y2=>(if ¬ (y2.2=0) then some (y2.2) else(if ¬ (a2.2.2.2.2.1=y2.1) then some (130) else(Zdc y1.1.2.1 a2.2.2.2.2.1).bind fun y3=>(if ¬ (y3=true) then some (121) else(Zcb a1.2.2.2.2).bind fun y4=>(if a2.2.2.2.1≤y4 then some (140) else(if IntKind.u64.wrap ((IntKind.u64.wrap (a3))+(IntKind.u64.wrap (a0.2.2.2.2.1)))<IntKind.u64.wrap (a2.2.2.2.1) then some (141) else Zd (ZhP a0 y1) 0))))))))
noncomputable def ZiV (a0:Tlightclientmade_World) (p39:(List Tapi_Block)) (p40:(List Tapi_Ledger)) (p41:(List Tapi_Context)) (p42:(List (List Tapi_Coin))):Option Tlightclientmade_World :=
 some ((a0.1,p39,p40,p41,p42))
noncomputable def ZiW (a1:(List Int)) (a0:Tlightclientmade_World):(Int×(List Tapi_Block)×(List Tapi_Ledger)×(List Tapi_Context)×(List (List Tapi_Coin)))→Option ((Int×(List Tapi_Block)×(List Tapi_Ledger)×(List Tapi_Context)×(List (List Tapi_Coin))) ⊕ (Tlightclientmade_World))
 | (p38,p39,p40,p41,p42)=>(if p38<(a1.length:Int) then(idx (a1) (p38)).bind fun x57=>(inA (p40.length) (IntKind.i64.wrap ((p40.length:Int)-1))).bind fun j58=>((p40)[j58]?).bind fun x59=>(inA (p41.length) (IntKind.i64.wrap ((p41.length:Int)-1))).bind fun j60=>((p41)[j60]?).bind fun x61=>(ZeF a0.1 x59 x61 x57).bind fun y62=>(Zb5 a0.1 x59 (y62.1,y62.2)).bind fun y63=>((if ¬ (y63.2.2=0) then some (false) else(Zcc a0.1 x61 y62.1 1073741824).bind fun y64=>some (!(decide (y64=0))))).bind fun z65=>(if (¬ (y63.2.2=0)∨z65=true) then some (.inl (IntKind.i64.wrap (p38+1),p39,p40,p41,p42)) else(Zbq a0.1 x61 y62.1).bind fun y66=>(chk (p39.length+1≤1353245080339)).bind fun _=>(chk (p40.length+1≤2199023255552)).bind fun _=>(chk (p41.length+1≤1954687338268)).bind fun _=>(chk (p42.length+1≤5864062014805)).bind fun _=>some (.inl (IntKind.i64.wrap (p38+1),p39++[(y62.1,y62.2)],p40++[y63.1],p41++[y66.1],p42++[y63.2.1]))) else(ZiV a0 p39 p40 p41 p42).map Sum.inr)
noncomputable def ZfV (a0:Tlightclientmade_World) (a1:(List Int)):Option (Tlightclientmade_World) :=
 (chk (a0.2.1.length≤1353245080339)).bind fun _=>(chk (a0.2.2.2.2.length≤5864062014805)).bind fun _=>(chk (a0.2.2.1.length≤2199023255552)).bind fun _=>(chk (a0.2.2.2.1.length≤1954687338268)).bind fun _=>Zd (ZiW a1 a0) (0,a0.2.1,a0.2.2.1,a0.2.2.2.1,a0.2.2.2.2)
noncomputable def ZbR (a0:Int) (a1:(List Int)):Option (Tlightclientmade_World) :=
 (ZfS a0).bind fun y1=>(ZfV (y1.1,y1.2.1,y1.2.2.1,y1.2.2.2.1,y1.2.2.2.2) a1).bind fun y2=>some ((y2.1,y2.2.1,y2.2.2.1,y2.2.2.2.1,y2.2.2.2.2))
noncomputable def Llaw20_sanew:Option (Bool) :=
 (ZbR 0 [0]).bind fun y1=>(chk (0<y1.2.1.length)).bind fun _=>((y1.2.1)[0]?).bind fun x3=>(Zby x3).bind fun y4=>(YU x3.1).bind fun y5=>(Xd 0).bind fun y6=>(XX y4.1 y5 [y6]).bind fun y7=>((if (((y4.2=0∧y4.1.1=1)∧y7.1=true)∧y7.2=0) then(Zaw x3).bind fun y8=>some (decide ((y8.length:Int)=1)) else some (false))).bind fun z9=>some (((((decide (y4.2=0) && decide (y4.1.1=1)) && y7.1) && decide (y7.2=0)) && z9))
noncomputable def Ze5 (a0:(List Int)) (a1:Int):Option ((List Int)) :=
 (chk ((if a1<(a0.length:Int) then a1 else(a0.length:Int))≤(a0.length:Int)∧0≤(if a1<(a0.length:Int) then a1 else(a0.length:Int)))).bind fun _=>some ((a0).take (((if a1<(a0.length:Int) then a1 else(a0.length:Int))).toNat))
noncomputable def Llaw20_FilterMisses_k1:Option Bool :=
 some (true)
noncomputable def Zhg (p265:Int):Option ((Int) ⊕ (Bool)) :=
 some (.inl (IntKind.i64.wrap (p265+1)))
noncomputable def Zhh (p483:Int):Option ((Int) ⊕ ((Int) ⊕ (Bool))) :=
 some (.inl (IntKind.i64.wrap (p483+1)))
noncomputable def Zhi (p555:Int):Option ((Int) ⊕ ((Int) ⊕ ((Int) ⊕ (Bool)))) :=
 some (.inl (IntKind.i64.wrap (p555+1)))
noncomputable def ZbB (x568:Tapi_Tx) (y529:(Bool×Int)) (x527:(List Int)) (p555:Int):Int→Option ((Int) ⊕ ((Int) ⊕ ((Int) ⊕ ((Int) ⊕ (Bool)))))
 | p576=>(if p576<(x568.2.2.1.length:Int) then(idx (x568.2.2.1) (p576)).bind fun x580=>((if (¬ (y529.1=true)∧0<(x527.length:Int)) then(Zbw x580.2 x527).bind fun y581=>some (y581) else some (false))).bind fun z582=>(if ((¬ (y529.1=true)∧0<(x527.length:Int))∧z582=true) then some (.inr (.inr (.inr (.inr (false))))) else some (.inl (IntKind.i64.wrap (p576+1)))) else(Zhi p555).map Sum.inr)
noncomputable def ZbC (x397:Tapi_Block) (y529:(Bool×Int)) (x527:(List Int)) (p483:Int):Int→Option ((Int) ⊕ ((Int) ⊕ ((Int) ⊕ (Bool))))
 | p555=>(if p555<(x397.2.length:Int) then(idx (x397.2) (p555)).bind fun x568=>Zd (ZbB x568 y529 x527 p555) 0 else(Zhh p483).map Sum.inr)
noncomputable def ZbD (a2:(List Int)) (y399:((List Int))) (x397:Tapi_Block) (y398:(Tapi_Filter×Int)) (p265:Int):Int→Option ((Int) ⊕ ((Int) ⊕ (Bool)))
 | p483=>(if p483<(2:Int) then(inA (2) (p483)).bind fun j526=>(([a2,y399])[j526]?).bind fun x527=>(YU x397.1).bind fun y528=>(XX y398.1 y528 [x527]).bind fun y529=>(if ¬ (y529.2=0) then some (.inr (.inr (false))) else Zd (ZbC x397 y529 x527 p483) 0) else(Zhg p265).map Sum.inr)
noncomputable def Zd9 (y3:(Tlightclientmade_World)) (a0:Int) (a2:(List Int)):Int→Option ((Int) ⊕ (Bool))
 | p265=>(if p265<(y3.2.1.length:Int) then(inA (y3.2.1.length) (p265)).bind fun j396=>((y3.2.1)[j396]?).bind fun x397=>(Zby x397).bind fun y398=>(Xd a0).bind fun y399=>Zd (ZbD a2 y399 x397 y398 p265) 0 else(Llaw20_FilterMisses_k1).map Sum.inr)
noncomputable def ZiG (a0:Int) (a1:(List Int)) (a2:(List Int)):Option (Bool) :=
 (Llaw20_sanew).bind fun y1=>(if ¬ (y1=true) then some (false) else(if 100<(a2.length:Int) then some (true) else(Ze5 a1 8).bind fun y2=>(ZbR a0 y2).bind fun y3=>Zd (Zd9 y3 a0 a2) 0))
end
section
set_option maxRecDepth 100000
noncomputable def Llaw20_FilterMisses_c_k1:Option Bool :=
 some (true)
noncomputable def Zdm (p265:Int):Option ((Int) ⊕ (Bool)) :=
 some (.inl (IntKind.i64.wrap (p265+1)))
noncomputable def Zdn (p483:Int):Option ((Int) ⊕ ((Int) ⊕ (Bool))) :=
 some (.inl (IntKind.i64.wrap (p483+1)))
noncomputable def Zdo (p555:Int):Option ((Int) ⊕ ((Int) ⊕ ((Int) ⊕ (Bool)))) :=
 some (.inl (IntKind.i64.wrap (p555+1)))
noncomputable def XN (x568:Tapi_Tx) (y529:(Bool×Int)) (x527:(List Int)) (p555:Int):Int→Option ((Int) ⊕ ((Int) ⊕ ((Int) ⊕ ((Int) ⊕ (Bool)))))
 | p576=>(if p576<(x568.2.2.1.length:Int) then(idx (x568.2.2.1) (p576)).bind fun x580=>((if (¬ (y529.1=true)∧0<(x527.length:Int)) then(Zbw x580.2 x527).bind fun y581=>some (y581) else some (false))).bind fun z582=>(if ((¬ (y529.1=true)∧0<(x527.length:Int))∧z582=true) then some (.inr (.inr (.inr (.inr (false))))) else some (.inl (IntKind.i64.wrap (p576+1)))) else(Zdo p555).map Sum.inr)
noncomputable def XO (x397:Tapi_Block) (y529:(Bool×Int)) (x527:(List Int)) (p483:Int):Int→Option ((Int) ⊕ ((Int) ⊕ ((Int) ⊕ (Bool))))
 | p555=>(if p555<(x397.2.length:Int) then(idx (x397.2) (p555)).bind fun x568=>Zd (XN x568 y529 x527 p555) 0 else(Zdn p483).map Sum.inr)
noncomputable def XP (a2:(List Int)) (y399:((List Int))) (x397:Tapi_Block) (y398:(Tapi_Filter×Int)) (p265:Int):Int→Option ((Int) ⊕ ((Int) ⊕ (Bool)))
 | p483=>(if p483<(2:Int) then(inA (2) (p483)).bind fun j526=>(([a2,y399])[j526]?).bind fun x527=>(YU x397.1).bind fun y528=>(XX y398.1 y528 [x527]).bind fun y529=>(if ¬ (y529.2=0) then some (.inr (.inr (false))) else Zd (XO x397 y529 x527 p483) 0) else(Zdm p265).map Sum.inr)
noncomputable def ZaQ (y3:(Tlightclientmade_World)) (a0:Int) (a2:(List Int)):Int→Option ((Int) ⊕ (Bool))
 | p265=>(if p265<(y3.2.1.length:Int) then(inA (y3.2.1.length) (p265)).bind fun j396=>((y3.2.1)[j396]?).bind fun x397=>(Zby x397).bind fun y398=>(Xd a0).bind fun y399=>Zd (XP a2 y399 x397 y398 p265) 0 else(Llaw20_FilterMisses_c_k1).map Sum.inr)
noncomputable def Y6 (a0:Int) (a1:(List Int)) (a2:(List Int)):Option (Bool) :=
 (Lconst_true).bind fun y1=>(if ¬ (y1=true) then some (false) else(if 100<(a2.length:Int) then some (true) else(Ze5 a1 8).bind fun y2=>(ZbR a0 y2).bind fun y3=>Zd (ZaQ y3 a0 a2) 0))
end
end Go.Lc
namespace Go.Av
open Go.RowKit
open Go.Av
set_option linter.unusedVariables false
set_option linter.unusedSimpArgs false
theorem bA {β:Type}{n:Nat}{i:Int}{f:Nat→Option β}{y:β}(h:(inA n i).bind f=some y):∃ j,(0≤i∧i.toNat=j∧j<n)∧f j=some y :=
 let ⟨j,h1,h2⟩:=bs h
 ⟨j,Yy h1,h2⟩
theorem bI {α β:Type}{l:List α}{i:Int}{f:α→Option β}{y:β}(h:(idx l i).bind f=some y):∃ x,(0≤i∧l[i.toNat]? = some x∧∀ h':i.toNat<l.length,l[i.toNat]=x)∧f x=some y :=
 let ⟨x,h1,h2⟩:=bs h
 ⟨x,⟨(ZcY h1).1,(ZcY h1).2,YC (ZcY h1).2⟩,h2⟩
theorem bC {β:Type}{p:Prop}[Decidable p]{f:Unit→Option β}{y:β}(h:(chk p).bind f=some y):p∧f ()=some y :=
 let ⟨_,h1,h2⟩:=bs h
 ⟨ZW h1,h2⟩
theorem bG {α β:Type}{o:Option α}{f:α→Option β}{y:β}{P:α→Prop}(h:o.bind f=some y) (k:∀ x,o=some x→P x):∃ x,P x∧f x=some y :=
 let ⟨x,h1,h2⟩:=bs h
 ⟨x,k x h1,h2⟩
theorem eqT (p:Prop):(p=True)∨¬ p:=(Classical.em p).imp eq_true id
theorem ifP {α:Type}{c:Prop}[Decidable c]{a b r:α}(h:(if c then a else b)=r) (hc:c:=by simp[-Int.ofNat_toNat, *]):a=r:=by rwa[if_pos hc] at h
theorem ZoM {α β:Type}{c:Prop}[Decidable c]{a b:Option α}{f:α→Option β}{r:Option β}(h:(if c then a else b).bind f=r) (hc:c:=by simp[-Int.ofNat_toNat, *]):a.bind f=r:=by rwa[if_pos hc] at h
theorem ZqD {α β:Type}{c:Prop}[Decidable c]{a b:Option α}{f:α→Option β}{r:Option β}(h:(if c then a else b).bind f=r) (hc:¬ c:=by simp[-Int.ofNat_toNat, *]):b.bind f=r:=by rwa[if_neg hc] at h
theorem ifN {α:Type}{c:Prop}[Decidable c]{a b r:α}(h:(if c then a else b)=r) (hc:¬ c:=by simp[-Int.ofNat_toNat, *]):b=r:=by rwa[if_neg hc] at h
attribute [simp] YL YZ ZcF
structure Con (α β:Type) where
 E:α→List PV
 R:α→β→PV×List (List Cell)
 g:α→Option β
section
variable {α β:Type}{K:Con α β}
noncomputable def Con.G (K:Con α β):List PV→Option (PV×List (List Cell)):=Zab K.E fun x=>(K.g x).map (K.R x)
def Con.Inj (K:Con α β):Prop:=∀ a b,K.E a=K.E b→a=b
theorem Con.Inj.eq (hi:K.Inj){x:α}{y:β}(h:K.g x=some y):K.G (K.E x)=some (K.R x y):=YO hi h
theorem Con.none {ps:List PV}(h:∀ a,K.E a=ps→False):K.G ps=none:=ZtR h
def Zh (T:Tab):List (Nat×(List PV→Option (PV×List (List Cell))))→Prop
 | []=>True
 | (g,F) :: l=>T g=some F∧Zh T l
theorem ZsS {l m:List (Nat×(List PV→Option (PV×List (List Cell))))}{own:Nat→List (List Nat)}(h:∀ p∈m,(tab l own).fn p.1=some p.2):Zh (tab l own) m:=by
 induction m with
 | nil=>trivial
 | cons p m ih=>exact⟨h p (by simp),ih fun q hq=>h q (by simp[hq])⟩
def Walk (tt:TT) (G:Glob) (l:List (Nat×(List PV→Option (PV×List (List Cell))))) (own:Nat→List (List Nat)) (fn:Func) (K:Con α β):Prop :=
 ∀ T:Tab,T.own=own→Zh T l→∀ x y,K.g x=some y→∃ kp fl n,ZO tt T G kp fl n fn (K.E x)=some (K.R x y)
def kpL:List (Nat×Kp)→Keep
 | [],_=>⟨[],[],[]⟩
 | (j,q) :: l,i=>if i=j then q else kpL l i
theorem Walk.of {tt:TT}{G:Glob}{l:List (Nat×(List PV→Option (PV×List (List Cell))))}{own:Nat→List (List Nat)}{fn:Func}{c:Code}{n:Nat}(kl:List (Nat×Kp)) (w:Bool) (hb:fn.body=some c) (hn:fn.ntmps=n)
  (h:∀ T:Tab,T.own=own→Zh T l→∀ x y,K.g x=some y→ZkX (K.E x)=true∧ZC tt T G (kpL kl) c ⟨(ioIn 0 0 (K.E x)).1++List.replicate (n-(K.E x).length) .skip,Zku (K.E x)⟩ (XT tt w fn (K.E x) (K.R x y))):Walk tt G l own fn K :=
 fun T h1 h2 x y h3=>fnE (kp:=kpL kl) (w:=w) hb (h T h1 h2 x y h3).1 (by rw[hn]; exact(h T h1 h2 x y h3).2)
def distinctF:List (Nat×(List PV→Option (PV×List (List Cell))))→Bool
 | []=>true
 | (g,_) :: l=>l.all (fun q=>!(q.1 == g)) && distinctF l
theorem Zok {own:Nat→List (List Nat)}:∀ {l:List (Nat×(List PV→Option (PV×List (List Cell))))},distinctF l=true→∀ p∈l,tabF l p.1=some p.2
 | [],_,p,hp=>by simp at hp
 | (g,F) :: l,h,p,hp=>by
  simp only[distinctF,Bool.and_eq_true,List.all_eq_true] at h;simp only[tabF];rcases List.mem_cons.1 hp with rfl | hp
  ·simp
  ·have:=h.1 p hp
   rw[if_neg (by simpa using this)];exact Zok (own:=own) h.2 p hp
theorem mkW {P:Program}{tt:TT}{G:Glob}{l:List (Nat×(List PV→Option (PV×List (List Cell))))}{own:Nat→List (List Nat)}(hm:P.follows .mixedOrders=true) (htt:∀ t i,tt t=some i→Z1 P t=some i)
  {f:FuncId}{fn:Func}{c:Code}(w:Walk tt G l own fn K) (hT:ZnK P G l) (hf:P.funcs[f]? = some fn) (hb:fn.body=some c) (hname:(!(fn.name == "runtime.NumGoroutine") && distinctF l)=true):ZB P G f K.G:=by
 simp only[Bool.and_eq_true,Bool.not_eq_true'] at hname;exact mkI (T:=tab l own) hm htt (tab_ok hT) hf hb hname.1 fun x y hy=>w _ rfl (ZsS (Zok (own:=own) hname.2)) x y hy
end
attribute [simp] kpL
section
variable {tt:TT}{T:Tab}{G:Glob}{kp:Keep}{st st0 st1:ASt}{a b c d:Code}{Q Q':AE→ASt→Prop}{P R H:Prop}
def Imp (R P:Prop):Prop:=R→P
structure ZaR (X R:Prop):Prop where
 h:X=R
theorem Imp.of (e:ZaR P R):Imp P R:=fun p=>e.h ▸ p
theorem Zcw {id:Nat}{ops:Array Oper}(hc:c = .region id ops false) (h:Zcr tt T G ops.toList ops.toList st=some st1) (hq:Imp R (ZC tt T G kp b st1 Q)) (hj:(kp (id+1000000)).ks.isEmpty=true:=by rfl):Imp R (ZC tt T G kp (.seq c b) st Q):=fun r=>Ze hc h (hq r) hj
theorem ZbE {id:Nat}{ops:Array Oper}{fs:List Foot}(hc:c = .region id ops true) (h:ZcW tt T G ops.toList ops.toList st=some (st1,fs)) (hd:Zg6 ops.toList fs=true) (hq:Imp R (ZC tt T G kp b st1 Q)) (hj:(kp (id+1000000)).ks.isEmpty=true:=by rfl):Imp R (ZC tt T G kp (.seq c b) st Q):=fun r=>Y8 hc h hd (hq r) hj
theorem Zis {id:Nat}{ops:Array Oper}(hc:c = .region id ops false) (h:Zcr tt T G ops.toList ops.toList st=some st1) (hq:Imp R (Q .normal st1)) (hj:(kp (id+1000000)).ks.isEmpty=true:=by rfl):Imp R (ZC tt T G kp c st Q):=fun r=>XC hc h (hq r) hj
theorem ZgM {id:Nat}{ops:Array Oper}{fs:List Foot}(hc:c = .region id ops true) (h:ZcW tt T G ops.toList ops.toList st=some (st1,fs)) (hd:Zg6 ops.toList fs=true) (hq:Imp R (Q .normal st1)) (hj:(kp (id+1000000)).ks.isEmpty=true:=by rfl):Imp R (ZC tt T G kp c st Q):=fun r=>ZoK hc h hd (hq r) hj
theorem Ze6 (h:Imp R (ZC tt T G kp (.seq a (.seq b d)) st Q)):Imp R (ZC tt T G kp (.seq (.seq a b) d) st Q):=fun r=>ZT (h r)
theorem ZgN (h:Imp R (Q .normal st)):Imp R (ZC tt T G kp .skip st Q):=fun r=>Zgz (h r)
theorem Zit (h:Imp R (Q .ret st)):Imp R (ZC tt T G kp .ret st Q):=fun r=>Zcg (h r)
theorem ZgO {id:Nat}(h:Imp R (Q (.exit id) st)):Imp R (ZC tt T G kp (.exit id) st Q):=fun r=>Zm6 (h r)
theorem ZbF (h:Imp R (ZC tt T G kp b st Q)):Imp R (ZC tt T G kp (.seq .skip b) st Q):=fun r=>ZL (h r)
theorem Zcx (h:Imp R (Q .ret st)):Imp R (ZC tt T G kp (.seq .ret b) st Q):=fun r=>ZeV (h r)
theorem ZbG {id:Nat}(h:Imp R (Q (.exit id) st)):Imp R (ZC tt T G kp (.seq (.exit id) b) st Q):=fun r=>Ym (h r)
theorem Ze7 {id:Nat}(h:Imp R (ZC tt T G kp c st (Zkb id Q))):Imp R (ZC tt T G kp (.block id c) st Q):=fun r=>ZdZ (h r)
theorem ZaS {id:Nat}(h:Imp R (ZC tt T G kp c st (Zkb id (Zia (fun s=>ZC tt T G kp d s Q) Q)))):Imp R (ZC tt T G kp (.seq (.block id c) d) st Q):=fun r=>ZG (h r)
theorem Zay {x:Operand}(h:rd G st.get x=some (bV true)) (h1:Imp R (ZC tt T G kp a st Q)):Imp R (ZC tt T G kp (.cond x a b) st Q):=fun r=>ZhE h (h1 r)
theorem Zaz {x:Operand}(h:rd G st.get x=some (bV false)) (h1:Imp R (ZC tt T G kp b st Q)):Imp R (ZC tt T G kp (.cond x a b) st Q):=fun r=>ZeW h (h1 r)
theorem YF {x:Operand}(h:rd G st.get x=some (bV true)) (h1:Imp R (ZC tt T G kp (.seq a d) st Q)):Imp R (ZC tt T G kp (.seq (.cond x a b) d) st Q):=fun r=>ZJ h (h1 r)
theorem YG {x:Operand}(h:rd G st.get x=some (bV false)) (h1:Imp R (ZC tt T G kp (.seq b d) st Q)):Imp R (ZC tt T G kp (.seq (.cond x a b) d) st Q):=fun r=>ZE h (h1 r)
theorem Ze8 (h:Imp R P) (e:H=P):Imp R H:=fun r=>e ▸ h r
theorem go (k:R) (h:∀ X:Prop,ZaR X R→Imp X P:=by
 intro X e
 repeat (first
  | (with_reducible refine Ze6 ?_)
  | (with_reducible refine ZbF ?_)
  | (with_reducible refine ZaS ?_)
  | (with_reducible refine ZbG ?_)
  | (with_reducible refine Zcx ?_)
  | (with_reducible refine Ze7 ?_)
  | (with_reducible refine ZgN ?_)
  | (with_reducible refine ZgO ?_)
  | (with_reducible refine Zit ?_)
  | (with_reducible refine YF ?_ ?_; · simp[-Int.ofNat_toNat,bV, *]; done)
  | (with_reducible refine YG ?_ ?_; · simp[-Int.ofNat_toNat,bV, *]; done)
  | (refine Zcw rfl (by first | (simp[-Int.ofNat_toNat, *] <;> rfl) | fail) ?_)
  | (refine ZbE rfl (by simp[-Int.ofNat_toNat, *]; first | exact⟨rfl,rfl⟩ | rfl) (by kernel_rfl) ?_)
  | (with_reducible refine Zay ?_ ?_; · simp[-Int.ofNat_toNat,bV, *]; done)
  | (with_reducible refine Zaz ?_ ?_; · simp[-Int.ofNat_toNat,bV, *]; done)
  | (refine Zis rfl (by first | (simp[-Int.ofNat_toNat, *] <;> rfl) | fail) ?_)
  | (refine ZgM rfl (by simp[-Int.ofNat_toNat, *]; first | exact⟨rfl,rfl⟩ | rfl) (by kernel_rfl) ?_)
  | (refine Ze8 ?_ (by simp only[pq,reduceCtorEq]; rfl)))
 exact Imp.of e):P:=h R ⟨rfl⟩ k
theorem nrm {p q:Prop}(c:p) (h:p→q:=by
 intro h;try simp[-Int.ofNat_toNat] at h
 first | exact(eq_true h:(_=_)=True) | exact h):q:=h c
theorem nst (k:R) (h:P=R:=by simp only[und,List.replicate,List.cons_append,List.nil_append]; rfl):P:=h ▸ k
theorem fin (h:H) (k:H→P:=by
 intro h;obtain rfl:=Option.some.inj h
 repeat (simp only[pq,reduceCtorEq]; rintro rfl)
 simp[-Int.ofNat_toNat,XT, *]):P:=k h
theorem bk (h:H) (k:H→P:=by
 intro h;obtain rfl:=Option.some.inj h
 repeat (simp only[pq,reduceCtorEq]; rintro rfl)
 simp only[pq,reduceCtorEq]
 simp[-Int.ofNat_toNat,und,List.replicate,Nat.add_assoc, *]):P:=k h
theorem lp {σ ρ:Type}{step:σ→Option (σ ⊕ ρ)}(n:Nat) (H:σ→ASt){s:σ}{r:ρ}
  (hr:Zd step s=some r)
  (hb:∀ s x,step s=some x→ZC tt T G kp c (H s) (QL (kp n) H Q r x)) (hn:firstId c=n:=by kernel_rfl) (hf:ZbH (kp n) st=H s:=by simp[-Int.ofNat_toNat,und,List.replicate, *]):ZC tt T G kp (.loop c) st Q :=
 XU (by rw[hn]) hr hf hb
theorem ua (h:ZC tt T G kp (.seq (.seq a b) d) st Q):ZC tt T G kp (.seq a (.seq b d)) st Q:=by
 obtain⟨n0,e,s,h1,h2⟩:=h;refine⟨n0,e,s,fun n hn=>?_,h2⟩;rw[← h1 n hn];simp only[Yq];cases Yq tt T G kp n a st with
 | none=>rfl
 | some x=>obtain⟨e,s⟩:=x; cases e <;> rfl
theorem jn {H:ASt}(key:Nat) (h0:ZC tt T G kp d H Q) (h:ZC tt T G kp d H Q→ZC tt T G kp c H Q:=by first | exact id | exact ua | exact fun h=>ua (ua h)) (hc:firstJ c=some key:=by rfl) (ha:(kp key).ks.isEmpty=false:=by rfl) (hf:ZbH (kp key) st=ZbH (kp key) H:=by simp[-Int.ofNat_toNat,und,List.replicate, *]):ZC tt T G kp c st Q :=
 ZhZ hc rfl ha hf (h h0)
end
abbrev kk (fn:Func) (F:(Nat→Code)→Code):Code:=F (reg fn)
abbrev co (n:Nat) (a b:Code):Code:=.cond (.tmp n) a b
abbrev sk:Code:=.skip
abbrev rt:Code:=.ret
def Zld (r:Nat→Code):Code→Code
 | .region id _ _=>r id
 | .seq a b=>.seq (Zld r a) (Zld r b)
 | .cond x a b=>.cond x (Zld r a) (Zld r b)
 | .block i c=>.block i (Zld r c)
 | .loop c=>.loop (Zld r c)
 | c=>c
def Zol (fn:Func):Code:=match fn.body with | some c=>c | none=>.skip
class Yg {α β:Type}(f:α→β):Prop where
 h:∀ a b,f a=f b→a=b
section
variable {α β γ δ ε ζ:Type}
def eI (k:IntKind) (x:Int):PV:=.one (.v (.int k x))
def eB (x:Bool):PV:=.one (.v (.bool x))
def eT (x:ByteArray):PV:=.one (.v (.string x))
def eL (k:IntKind) (x:List Int):PV:=.one (.slice .no (Zf k x))
def eS (f:α→List Cell) (x:List α):PV:=.one (.slice .no (List.map f x))
def eA (k:IntKind){n:Nat}(x:Arr n):PV:=.agg (arC k x)
def eG (f:α→List Cell) (x:α):PV:=.agg (f x)
def oL (k:IntKind) (x:List Int):PV:=.one (.own 1 (Zf k x))
def oS (n:Nat) (f:α→List Cell) (x:List α):PV:=.one (.own n (List.map f x))
def oG (f:α→List Cell) (x:α):PV:=.io (f x)
def oR (k:IntKind) (x:List Int):PV:=.rio 1 (Zf k x)
def a0 (_:Unit):List PV:=[]
def a1 (e:α→PV) (x:α):List PV:=[e x]
def a2 (e:α→PV) (f:β→PV) (x:α×β):List PV:=[e x.1,f x.2]
def a3 (e:α→PV) (f:β→PV) (g:γ→PV) (x:α×β×γ):List PV:=[e x.1,f x.2.1,g x.2.2]
def a4 (e:α→PV) (f:β→PV) (g:γ→PV) (h:δ→PV) (x:α×β×γ×δ):List PV:=[e x.1,f x.2.1,g x.2.2.1,h x.2.2.2]
def a5 (e:α→PV) (f:β→PV) (g:γ→PV) (h:δ→PV) (i:ε→PV) (x:α×β×γ×δ×ε):List PV:=[e x.1,f x.2.1,g x.2.2.1,h x.2.2.2.1,i x.2.2.2.2]
def a6 (e:α→PV) (f:β→PV) (g:γ→PV) (h:δ→PV) (i:ε→PV) (j:ζ→PV) (x:α×β×γ×δ×ε×ζ):List PV:=[e x.1,f x.2.1,g x.2.2.1,h x.2.2.2.1,i x.2.2.2.2.1,j x.2.2.2.2.2]
def r1 (e:β→PV) (_:α) (y:β):PV×List (List Cell):=(e y,[])
def r2 (e:β→PV) (f:γ→PV) (_:α) (y:β×γ):PV×List (List Cell):=(.tup [e y.1,f y.2],[])
def r3 (e:β→PV) (f:γ→PV) (g:δ→PV) (_:α) (y:β×γ×δ):PV×List (List Cell):=(.tup [e y.1,f y.2.1,g y.2.2],[])
def r4 (e:β→PV) (f:γ→PV) (g:δ→PV) (h:ε→PV) (_:α) (y:β×γ×δ×ε):PV×List (List Cell):=(.tup [e y.1,f y.2.1,g y.2.2.1,h y.2.2.2],[])
def lR (k:IntKind) (x:List Int):List Cell:=(Zf k x).flatten
def rio (f:β→List Cell) (_:α) (y:β):PV×List (List Cell):=(.tup [],[f y])
def u2 (f:α→β→γ) (x:α×β):γ:=f x.1 x.2
def u3 (f:α→β→γ→δ) (x:α×β×γ):δ:=f x.1 x.2.1 x.2.2
def u4 (f:α→β→γ→δ→ε) (x:α×β×γ×δ):ε:=f x.1 x.2.1 x.2.2.1 x.2.2.2
def u5 (f:α→β→γ→δ→ε→ζ) (x:α×β×γ×δ×ε):ζ:=f x.1 x.2.1 x.2.2.1 x.2.2.2.1 x.2.2.2.2
def u6 {η:Type}(f:α→β→γ→δ→ε→ζ→η) (x:α×β×γ×δ×ε×ζ):η:=f x.1 x.2.1 x.2.2.1 x.2.2.2.1 x.2.2.2.2.1 x.2.2.2.2.2
theorem kS:(∀ {k x},lR k x=(Zf k x).flatten)∧(∀ {x},a0 x=[])∧(∀ {k x},eI k x = .one (.v (.int k x)))∧(∀ {x},eB x = .one (.v (.bool x)))∧(∀ {x},eT x = .one (.v (.string x)))∧(∀ {k x},eL k x = .one (.slice .no (Zf k x)))∧(∀ {α:Type}{f:α→List Cell}{x},eS f x = .one (.slice .no (List.map f x)))∧(∀ {k n}{x:Arr n},eA k x = .agg (arC k x))∧(∀ {α:Type}{f:α→List Cell}{x},eG f x = .agg (f x))∧(∀ {k x},oL k x = .one (.own 1 (Zf k x)))∧(∀ {n}{α:Type}{f:α→List Cell}{x},oS n f x = .one (.own n (List.map f x)))∧(∀ {α:Type}{f:α→List Cell}{x},oG f x = .io (f x))∧(∀ {k x},oR k x = .rio 1 (Zf k x))∧(∀ {α:Type}{e:α→PV}{x},a1 e x=[e x])∧(∀ {α β:Type}{e:α→PV}{f:β→PV}{x},a2 e f x=[e x.1,f x.2])∧(∀ {α β γ:Type}{e:α→PV}{f:β→PV}{g:γ→PV}{x},a3 e f g x=[e x.1,f x.2.1,g x.2.2])∧(∀ {α β γ δ:Type}{e:α→PV}{f:β→PV}{g:γ→PV}{h:δ→PV}{x},a4 e f g h x=[e x.1,f x.2.1,g x.2.2.1,h x.2.2.2])∧(∀ {α β γ δ ε:Type}{e:α→PV}{f:β→PV}{g:γ→PV}{h:δ→PV}{i:ε→PV}{x},a5 e f g h i x=[e x.1,f x.2.1,g x.2.2.1,h x.2.2.2.1,i x.2.2.2.2])∧(∀ {α β γ δ ε ζ:Type}{e:α→PV}{f:β→PV}{g:γ→PV}{h:δ→PV}{i:ε→PV}{j:ζ→PV}{x},a6 e f g h i j x=[e x.1,f x.2.1,g x.2.2.1,h x.2.2.2.1,i x.2.2.2.2.1,j x.2.2.2.2.2])∧(∀ {α β:Type}{e:β→PV}{x:α}{y},r1 e x y=(e y,[]))∧(∀ {α β γ:Type}{e:β→PV}{f:γ→PV}{x:α}{y},r2 e f x y=(.tup [e y.1,f y.2],[]))∧(∀ {α β γ δ:Type}{e:β→PV}{f:γ→PV}{g:δ→PV}{x:α}{y},r3 e f g x y=(.tup [e y.1,f y.2.1,g y.2.2],[]))∧(∀ {α β γ δ ε:Type}{e:β→PV}{f:γ→PV}{g:δ→PV}{h:ε→PV}{x:α}{y},r4 e f g h x y=(.tup [e y.1,f y.2.1,g y.2.2.1,h y.2.2.2],[]))∧(∀ {α β:Type}{f:β→List Cell}{x:α}{y},rio f x y=(.tup [],[f y]))∧(∀ {α β γ:Type}{f:α→β→γ}{x},u2 f x=f x.1 x.2)∧(∀ {α β γ δ:Type}{f:α→β→γ→δ}{x},u3 f x=f x.1 x.2.1 x.2.2)∧(∀ {α β γ δ ε:Type}{f:α→β→γ→δ→ε}{x},u4 f x=f x.1 x.2.1 x.2.2.1 x.2.2.2)∧(∀ {α β γ δ ε ζ:Type}{f:α→β→γ→δ→ε→ζ}{x},u5 f x=f x.1 x.2.1 x.2.2.1 x.2.2.2.1 x.2.2.2.2)∧(∀ {α β γ δ ε ζ η:Type}{f:α→β→γ→δ→ε→ζ→η}{x},u6 f x=f x.1 x.2.1 x.2.2.1 x.2.2.2.1 x.2.2.2.2.1 x.2.2.2.2.2) :=
 ⟨rfl,rfl,rfl,rfl,rfl,rfl,rfl,rfl,rfl,rfl,rfl,rfl,rfl,rfl,rfl,rfl,rfl,rfl,rfl,rfl,rfl,rfl,rfl,rfl,rfl,rfl,rfl,rfl,rfl⟩
instance {k:IntKind}:Yg (eI k):=⟨by simp[eI]⟩
instance:Yg eB:=⟨by simp[eB]⟩
instance:Yg eT:=⟨by simp[eT]⟩
instance {k:IntKind}:Yg (eL k):=⟨by simp[eL]⟩
instance {k:IntKind}:Yg (oL k):=⟨by simp[oL]⟩
instance {k:IntKind}:Yg (oR k):=⟨by simp[oR]⟩
instance {k:IntKind}{n:Nat}:Yg (eA k (n:=n)):=⟨by simp[eA]⟩
instance:Yg a0:=⟨fun _ _ _=>rfl⟩
instance {e:α→PV}[i:Yg e]:Yg (a1 e):=⟨fun a b h=>i.h a b (by simpa[a1] using h)⟩
instance {e:α→PV}{f:β→PV}[ke:Yg e] [kf:Yg f]:Yg (a2 e f):=⟨fun a b h=>by simp only[a2,List.cons.injEq,and_true] at h; exact Prod.ext (ke.h _ _ h.1) (kf.h _ _ h.2)⟩
instance {e:α→PV}{f:β→PV}{g:γ→PV}[ke:Yg e] [kf:Yg f] [kg:Yg g]:Yg (a3 e f g):=⟨fun a b h=>by simp only[a3,List.cons.injEq,and_true] at h; exact Prod.ext (ke.h _ _ h.1) (Prod.ext (kf.h _ _ h.2.1) (kg.h _ _ h.2.2))⟩
instance {e:α→PV}{f:β→PV}{g:γ→PV}{h:δ→PV}[ke:Yg e] [kf:Yg f] [kg:Yg g] [kh:Yg h]:Yg (a4 e f g h):=⟨fun a b h=>by simp only[a4,List.cons.injEq,and_true] at h; exact Prod.ext (ke.h _ _ h.1) (Prod.ext (kf.h _ _ h.2.1) (Prod.ext (kg.h _ _ h.2.2.1) (kh.h _ _ h.2.2.2)))⟩
instance {e:α→PV}{f:β→PV}{g:γ→PV}{h:δ→PV}{i:ε→PV}[ke:Yg e] [kf:Yg f] [kg:Yg g] [kh:Yg h] [ki:Yg i]:Yg (a5 e f g h i):=⟨fun a b h=>by simp only[a5,List.cons.injEq,and_true] at h; exact Prod.ext (ke.h _ _ h.1) (Prod.ext (kf.h _ _ h.2.1) (Prod.ext (kg.h _ _ h.2.2.1) (Prod.ext (kh.h _ _ h.2.2.2.1) (ki.h _ _ h.2.2.2.2))))⟩
instance {e:α→PV}{f:β→PV}{g:γ→PV}{h:δ→PV}{i:ε→PV}{j:ζ→PV}[ke:Yg e] [kf:Yg f] [kg:Yg g] [kh:Yg h] [ki:Yg i] [kj:Yg j]:Yg (a6 e f g h i j):=⟨fun a b h=>by simp only[a6,List.cons.injEq,and_true] at h; exact Prod.ext (ke.h _ _ h.1) (Prod.ext (kf.h _ _ h.2.1) (Prod.ext (kg.h _ _ h.2.2.1) (Prod.ext (kh.h _ _ h.2.2.2.1) (Prod.ext (ki.h _ _ h.2.2.2.2.1) (kj.h _ _ h.2.2.2.2.2)))))⟩
end
class EnC {α:Type}(f:α→List Cell) (n:outParam Nat):Prop where
 len:∀ a,(f a).length=n
 inj:∀ a b,f a=f b→a=b
theorem enC {α:Type}{f:α→List Cell}{n:Nat}(h:∀ a,(f a).length=n:=by intro a; simp) (k:∀ a b,f a=f b→a=b:=by intro a b h; simpa[Prod.ext_iff,and_assoc] using h):EnC f n:=⟨h,k⟩
section
variable {α:Type}{f:α→List Cell}{n:Nat}[i:EnC f n]
@[simp↓] theorem ZtT (m:List α):(∀ l,l∈List.map f m→l.length=n)=True:=Znt i.len m
@[simp↓] theorem ZAn (m:List α) (k:Nat):(∀ l,l∈List.drop k (List.map f m)→l.length=n)=True:=eq_true fun l h=>of_eq_true (ZtT m) l (List.mem_of_mem_drop h)
@[simp↓] theorem ZAo (m:List α) (k:Nat):(∀ l,l∈List.take k (List.map f m)→l.length=n)=True:=eq_true fun l h=>of_eq_true (ZtT m) l (List.mem_of_mem_take h)
end
@[simp] theorem en_map {α:Type}{f:α→List Cell}{n:Nat}[i:EnC f n]{l m:List α}:List.map f l=List.map f m↔l=m:=ZrO i.inj
instance {α:Type}{f:α→List Cell}{n:Nat}[i:EnC f n]:Yg (eG f):=⟨fun a b h=>i.inj a b (by simpa[eG] using h)⟩
instance {α:Type}{f:α→List Cell}{n:Nat}[i:EnC f n]:Yg (oG f):=⟨fun a b h=>i.inj a b (by simpa[oG] using h)⟩
instance {α:Type}{f:α→List Cell}{n:Nat}[i:EnC f n]:Yg (eS f):=⟨fun a b h=>by simpa[eS] using h⟩
instance {α:Type}{f:α→List Cell}{n m:Nat}[i:EnC f n]:Yg (oS m f):=⟨fun a b h=>by simpa[oS] using h⟩
class EnP {α:Type}(f:α→List Cell):Prop where
 h:∀ a,(f a).any Cell.isSl=false
@[simp] theorem ZAp {α:Type}{f:α→List Cell}[i:EnP f] (m:List α):m.any ((fun l=>l.any Cell.isSl) ∘ f)=false:=List.any_eq_false.2 fun x _=>by simp[i.h]
theorem enP {α:Type}{f:α→List Cell}(h:∀ a,(f a).any Cell.isSl=false:=by intro a; simp):EnP f:=⟨h⟩
instance {k:IntKind}{n:Nat}:EnC (arC k (n:=n)) n:=⟨by simp,by simp⟩
section
variable {α β γ δ ε ζ η:Type}
abbrev cn (E:α→List PV) (R:α→β→PV×List (List Cell)) (g:α→Option β):Con α β:=⟨E,R,g⟩
theorem Con.q1 (K:Con α β) [i:Yg K.E]{f:α→Option β}{x:α}{y:β}(h:f x=some y) (hf:∀ x,K.g x=f x:=by intro x; rfl):K.G (K.E x)=some (K.R x y):=YO i.h ((hf x).trans h)
theorem Con.q0 (K:Con Unit β) [i:Yg K.E]{f:Option β}{y:β}(h:f=some y) (hf:K.g ()=f:=by rfl):K.G (K.E ())=some (K.R () y):=YO i.h (hf.trans h)
theorem Con.q2 (K:Con (α×β) γ) [i:Yg K.E]{g:α→β→Option γ}{a:α}{b:β}{y:γ}(h:g a b=some y) (hf:∀ a b,K.g (a,b)=g a b:=by intros; rfl):K.G (K.E (a,b))=some (K.R (a,b) y):=YO i.h ((hf a b).trans h)
theorem Con.q3 (K:Con (α×β×γ) δ) [i:Yg K.E]{g:α→β→γ→Option δ}{a:α}{b:β}{c:γ}{y:δ}(h:g a b c=some y) (hf:∀ a b c,K.g (a,b,c)=g a b c:=by intros; rfl):K.G (K.E (a,b,c))=some (K.R (a,b,c) y):=YO i.h ((hf a b c).trans h)
theorem Con.q4 (K:Con (α×β×γ×δ) ε) [i:Yg K.E]{g:α→β→γ→δ→Option ε}{a:α}{b:β}{c:γ}{d:δ}{y:ε}(h:g a b c d=some y) (hf:∀ a b c d,K.g (a,b,c,d)=g a b c d:=by intros; rfl):K.G (K.E (a,b,c,d))=some (K.R (a,b,c,d) y):=YO i.h ((hf a b c d).trans h)
theorem Con.q5 (K:Con (α×β×γ×δ×ε) ζ) [i:Yg K.E]{g:α→β→γ→δ→ε→Option ζ}{a:α}{b:β}{c:γ}{d:δ}{e:ε}{y:ζ}(h:g a b c d e=some y) (hf:∀ a b c d e,K.g (a,b,c,d,e)=g a b c d e:=by intros; rfl):K.G (K.E (a,b,c,d,e))=some (K.R (a,b,c,d,e) y):=YO i.h ((hf a b c d e).trans h)
end
section
variable {α β:Type}{K:Con α β}{tt:TT}{G:Glob}{l:List (Nat×(List PV→Option (PV×List (List Cell))))}{own:Nat→List (List Nat)}{fn:Func}
theorem Walk.sk {n:Nat}{cc:(Nat→Code)→Code}(kl:List (Nat×Kp)) (w:Bool) (hn:fn.ntmps=n)
  (h:∀ T:Tab,T.own=own→Zh T l→∀ x y,K.g x=some y→ZC tt T G (kpL kl) (cc (reg fn)) ⟨(ioIn 0 0 (K.E x)).1++List.replicate (n-(K.E x).length) .skip,Zku (K.E x)⟩ (XT tt w fn (K.E x) (K.R x y)))
  (hc:∀ r,Zld r (Zol fn)=cc r:=by intro r; (conv=>lhs; reduce) <;> rfl) (hb:fn.body=some (Zld (reg fn) (Zol fn)):=by kernel_rfl) (hi:∀ x,ZkX (K.E x)=true:=by intro x; simp[kS]):Walk tt G l own fn K :=
 .of kl w (hb.trans (congrArg some (hc _))) hn fun T h1 h2 x y h3=>⟨hi x,h T h1 h2 x y h3⟩
theorem Walk.ak {n:Nat}{cc:(Nat→Code)→Code}(kl:List (Nat×Kp)) (w:Bool) (hn:fn.ntmps=n)
  (h:∀ T:Tab,T.own=own→Zh T l→∀ x y,Imp (K.g x=some y) (ZC tt T G (kpL kl) (cc (reg fn)) ⟨(ioIn 0 0 (K.E x)).1++List.replicate (n-(K.E x).length) .skip,Zku (K.E x)⟩ (XT tt w fn (K.E x) (K.R x y))))
  (hc:∀ r,Zld r (Zol fn)=cc r:=by intro r; (conv=>lhs; reduce) <;> rfl) (hb:fn.body=some (Zld (reg fn) (Zol fn)):=by kernel_rfl) (hi:∀ x,ZkX (K.E x)=true:=by intro x; simp[kS]):Walk tt G l own fn K :=
 .of kl w (hb.trans (congrArg some (hc _))) hn fun T h1 h2 x y h3=>⟨hi x,h T h1 h2 x y h3⟩
theorem mkU {P:Program}(hm:P.follows .mixedOrders=true) (htt:∀ t i,tt t=some i→Z1 P t=some i){f:FuncId}(w:Walk tt G l own fn K) (hT:ZnK P G l) (hf:P.funcs[f]? = some fn) (hb:fn.body.isSome=true) (hn:(!(fn.name == "runtime.NumGoroutine") && distinctF l)=true):ZB P G f K.G :=
 have ⟨c,hc⟩:=Option.isSome_iff_exists.1 hb
 mkW hm htt w hT hf hc hn
end
class Fc (p:Prop) (q:outParam Prop):Prop where
 h:p→q
instance {p:Prop}[Decidable p]{u:Unit}:Fc (chk p=some u) p:=⟨ZW⟩
instance {n:Nat}{i:Int}{j:Nat}:Fc (inA n i=some j) (0≤i∧i.toNat=j∧j<n):=⟨Yy⟩
instance {α:Type}{l:List α}{i:Nat}{x:α}:Fc (l[i]? = some x) (l[i]? = some x∧∀ h':i<l.length,l[i]=x):=⟨fun h=>⟨h,YC h⟩⟩
abbrev Con.Q {α β:Type}(K:Con α β) (x:α) (y:β):Prop:=K.G (K.E x)=some (K.R x y)
section
variable {α β γ:Type}{P:Prop}{r:Option β}{y:β}
theorem Zkh {o:Option α}{f:α→Option β}{q:α→Prop}[i:∀ x,Fc (o=some x) (q x)] (k:∀ x,o=some x→q x→Imp (f x=some y) P):Imp (o.bind f=some y) P:=fun h =>
 let ⟨x,h1,h2⟩:=bs h
 k x h1 ((i x).h h1) h2
theorem ZiX {o:Option α}{f:α→Option β}{x:α}(e:o=some x) (k:Imp (f x=some y) P):Imp (o.bind f=some y) P:=fun h=>k (by rw[e] at h; exact h)
theorem Zls {p:Prop}[Decidable p]{f:Unit→Option β}(k:p→Imp (f ()=some y) P):Imp ((chk p).bind f=some y) P:=fun h =>
 let ⟨_,h1,h2⟩:=bs h
 k (ZW h1) h2
theorem ZkJ {l:List α}{i:Int}{f:α→Option β}(k:∀ x,0≤i→l[i.toNat]? = some x→(∀ h':i.toNat<l.length,l[i.toNat]=x)→Imp (f x=some y) P):Imp ((idx l i).bind f=some y) P:=fun h =>
 let ⟨x,h1,h2⟩:=bs h
 k x (ZcY h1).1 (ZcY h1).2 (YC (ZcY h1).2) h2
theorem Zki {l:List α}{i:Int}{f:α→Option β}{x:α}(e:l[i.toNat]? = some x) (k:Imp (f x=some y) P):Imp ((idx l i).bind f=some y) P:=ZkJ fun z _ h _=>by
 obtain rfl:=Option.some.inj (e.symm.trans h);exact k
theorem Zkj {a:α}{f:α→Option β}(k:Imp (f a=r) P):Imp ((some a).bind f=r) P:=k
theorem im_none:Imp ((none:Option β)=some y) P:=fun h=>by cases h
theorem ZiY {f:α→Option β}:Imp ((none:Option α).bind f=some y) P:=fun h=>by cases h
theorem ZeI {c:Prop}[Decidable c]{a b:Option β}(hc:c) (k:Imp (a=r) P):Imp ((if c then a else b)=r) P:=fun h=>k (by rwa[if_pos hc] at h)
theorem ZkK {c:Prop}[Decidable c]{a b:Option β}(hc:¬ c) (k:Imp (b=r) P):Imp ((if c then a else b)=r) P:=fun h=>k (by rwa[if_neg hc] at h)
theorem ZcV {c:Prop}[Decidable c]{a b:Option α}{f:α→Option β}(hc:c) (k:Imp (a.bind f=r) P):Imp ((if c then a else b).bind f=r) P:=fun h=>k (by rwa[if_pos hc] at h)
theorem ZiZ {c:Prop}[Decidable c]{a b:Option α}{f:α→Option β}(hc:¬ c) (k:Imp (b.bind f=r) P):Imp ((if c then a else b).bind f=r) P:=fun h=>k (by rwa[if_neg hc] at h)
theorem Zm7 {c:Prop}[Decidable c]{a b:Option β}(k:c→Imp (a=r) P) (l:¬ c→Imp (b=r) P):Imp ((if c then a else b)=r) P:=if h:c then ZeI h (k h) else ZkK h (l h)
theorem Zlt {c:Prop}[Decidable c]{a b:Option α}{f:α→Option β}(k:c→Imp (a.bind f=r) P) (l:¬ c→Imp (b.bind f=r) P):Imp ((if c then a else b).bind f=r) P:=if h:c then ZcV h (k h) else ZiZ h (l h)
theorem Zkk {c d:Prop}[Decidable c] [Decidable d]{i:Decidable (c∨d)}{a b:Option β}(k:Imp ((if c then a else if d then a else b)=r) P):Imp ((@ite _ (c∨d) i a b)=r) P:=fun h=>k (by
 rw[← h]; by_cases hc:c <;> by_cases hd:d <;> simp[hc,hd])
theorem Zi0 {c d:Prop}[Decidable c] [Decidable d]{i:Decidable (c∧d)}{a b:Option β}(k:Imp ((if c then if d then a else b else b)=r) P):Imp ((@ite _ (c∧d) i a b)=r) P:=fun h=>k (by
 rw[← h]; by_cases hc:c <;> by_cases hd:d <;> simp[hc,hd])
theorem Zi1 {c:Prop}[Decidable c]{i:Decidable (¬ c)}{a b:Option β}(k:Imp ((if c then b else a)=r) P):Imp ((@ite _ (¬ c) i a b)=r) P:=fun h=>k (by
 rw[← h]; by_cases hc:c <;> simp[hc])
theorem Zh1 {o:Option γ}{g:γ→Option α}{f:α→Option β}(k:Imp ((o.bind fun x=>(g x).bind f)=r) P):Imp ((o.bind g).bind f=r) P:=fun h=>k (by rw[← h]; cases o <;> rfl)
end
theorem Zlu {β γ:Type}{o:Option β}{g:β→γ}{y:γ}{P:Prop}(k:∀ z,y=g z→Imp (o=some z) P):Imp (o.map g=some y) P:=fun h=>by
 obtain⟨z,h1,h2⟩:=Option.map_eq_some_iff.1 h;exact k z h2.symm h1
theorem Zlv {β:Type}{a y:β}{P:Prop}(k:a=y→P):Imp (some a=some y) P:=fun h=>k (Option.some.inj h)
theorem Zkl {P:Prop}(k:Imp True P):P:=k trivial
theorem Zm8 {β:Type}{z r:β}{A P:Prop}(k:r=z→Imp A P):Imp A (z=r→P):=fun a e=>k e.symm a
theorem leT {a b:Nat}(h:a≤b):(a≤b)=True:=eq_true h
theorem ltT {a b:Nat}(h:a<b):(a<b)=True:=eq_true h
theorem ZjJ {a b:Int}(h:a≤b):(a≤b)=True:=eq_true h
theorem ZjK {a b:Int}(h:a<b):(a<b)=True:=eq_true h
theorem leF {a b:Nat}(h:b<a):(a≤b)=False:=eq_false (by omega)
theorem ltF {a b:Nat}(h:b≤a):(a<b)=False:=eq_false (by omega)
theorem ZjL {a b:Int}(h:b<a):(a≤b)=False:=eq_false (by omega)
theorem ZjM {a b:Int}(h:b≤a):(a<b)=False:=eq_false (by omega)
@[simp] theorem Zyx (a:Nat):(1+a≤a+1)=True:=eq_true (by omega)
@[simp] theorem tk_map {α:Type}{f:α→List Cell}{c:List Cell}{l:List α}:List.take (1+l.length) (c :: List.map f l)=c :: List.map f l:=List.take_of_length_le (by simp; omega)
@[simp] theorem ZAq {α:Type}{f:α→List Cell}{c:List Cell}{l:List α}{m:Nat}:List.take (1+(l.length-m)) (c :: List.drop m (List.map f l))=c :: List.drop m (List.map f l):=List.take_of_length_le (by simp; omega)
@[simp] theorem ZAr {k:IntKind}{c:List Cell}{l:List Int}{m:Nat}:List.take (1+(l.length-m)) (c :: List.drop m (Zf k l))=c :: List.drop m (Zf k l):=List.take_of_length_le (by simp; omega)
section
variable {bx:Boxes}{k:IntKind}{cs:List Cell}
theorem ZsT {l:List Int}{es:List Nat}(h:(es.take l.length).all (· == 0)=true):ZaJ bx es (ints k l++cs)=(ZaJ bx (es.drop l.length) cs).map (ints k l++·):=by
 induction l generalizing es with
 | nil=>simp[ints]
 | cons x l ih =>
  cases es with
  | nil =>
   have:=ih (es:=[]) (by simp);simp only[List.drop_nil] at this ⊢;show(match ZdM bx 0 (.v (.int k x)),ZaJ bx [] (ints k l++cs) with | some d,some ds=>some (d :: ds) | _,_=>none)=_
   rw[this];generalize ZaJ bx [] cs=z;cases z <;> simp[ZdM,Z6,ints]
  | cons e es =>
   simp only[List.length_cons,List.take_succ_cons,List.all_cons,Bool.and_eq_true,beq_iff_eq] at h;obtain⟨rfl,h⟩:=h;have:=ih h;show(match ZdM bx 0 (.v (.int k x)),ZaJ bx es (ints k l++cs) with | some d,some ds=>some (d :: ds) | _,_=>none)=_
   rw[this];simp only[List.length_cons,List.drop_succ_cons];cases ZaJ bx (es.drop l.length) cs <;> simp[ZdM,Z6,ints]
theorem ZsU {l:List Int}{es:List Nat}:lentL es (ints k l++cs)=lentL (es.drop l.length) cs:=by
 induction l generalizing es with
 | nil=>simp[ints]
 | cons x l ih =>
  cases es with
  | nil =>
   have:=ih (es:=[]);simp only[List.drop_nil] at this ⊢;show nmC (.v (.int k x))++lentL [] (ints k l++cs)=_
   rw[this]; rfl
  | cons e es =>
   show Zeg e (.v (.int k x))++lentL es (ints k l++cs)=_
   rw[ih];simp[Zeg,nmC]
theorem Zvg {l:List Int}{es:List Nat}:hdL es (ints k l++cs)=hdL (es.drop l.length) cs:=by
 induction l generalizing es with
 | nil=>simp[ints]
 | cons x l ih =>
  cases es with
  | nil =>
   have:=ih (es:=[]);simp only[List.drop_nil] at this ⊢;show hdL [] (ints k l++cs)=_
   rw[this]
  | cons e es =>
   show hdC e (.v (.int k x))++hdL es (ints k l++cs)=_
   rw[ih];simp[hdC,nmC]
variable {n:Nat}{a:Arr n}{es:List Nat}
@[simp] theorem Zzo (h:(es.take n).all (· == 0)=true):ZaJ bx es (arC k a++cs)=(ZaJ bx (es.drop n) cs).map (arC k a++·):=by
 have:=ZsT (bx:=bx) (k:=k) (cs:=cs) (l:=a.l) (es:=es) (by rwa[a.hl])
 rwa[a.hl] at this
@[simp] theorem lentL_arC:lentL es (arC k a++cs)=lentL (es.drop n) cs:=by
 have:=ZsU (k:=k) (cs:=cs) (l:=a.l) (es:=es)
 rwa[a.hl] at this
@[simp] theorem hdL_arC:hdL es (arC k a++cs)=hdL (es.drop n) cs:=by
 have:=Zvg (k:=k) (cs:=cs) (l:=a.l) (es:=es)
 rwa[a.hl] at this
end
theorem eqI {a b:Int}(h:a=b):a≤b∧b≤a:=⟨Int.le_of_eq h,Int.le_of_eq h.symm⟩
theorem ZfY {X R:Prop}(e:ZaR X R) (x:X):R:=e.h ▸ x
section
variable {tt:TT}{T:Tab}{G:Glob}{kp:Keep}{st st1:ASt}{c:Code}{Q:AE→ASt→Prop}{σ ρ:Type}
theorem Zkm {A P:Prop}(v:Bool) (k:v=true→Imp A P) (l:v=false→Imp A P):Imp A P:=by cases v <;> simp_all
theorem Zaa {step:σ→Option (σ ⊕ ρ)}{s:σ}{r:ρ}(k:Imp (Zd step s=some r) (ZC tt T G kp (.loop c) st Q)):Imp (Zd step s=some r) (ZC tt T G kp (.loop c) st Q):=k
def Ziu (l:List (Nat×PV)) (e:List PV):List PV:=l.foldl (fun e p=>e.set p.1 p.2) e
def updB:List (Nat×Box)→Boxes→Boxes
 | [],b=>b
 | (n,x) :: l,b=>updB l (setB b n x)
def upd (p:List (Nat×PV)×List (Nat×Box)) (s:ASt):ASt:=⟨Ziu p.1 s.env,updB p.2 s.boxes⟩
theorem lpP {step:σ→Option (σ ⊕ ρ)}{s:σ}{r:ρ}(n:Nat) (A:σ→List (Nat×PV)×List (Nat×Box))
  (k:∀ s x,Imp (step s=some x) (ZC tt T G kp c (upd (A s) st1) (QL (kp n) (fun s=>upd (A s) st1) Q r x)))
  (h1:ZbH (kp n) st=st1:=by first | (simp[-Int.ofNat_toNat,-Int.natCast_tdiv_eq_ediv,und,List.replicate, *] <;> rfl) | fail) (h2:st1=upd (A s) st1:=by simp[-Int.ofNat_toNat,-Int.natCast_tdiv_eq_ediv,upd,Ziu,updB, *]) (hn:firstId c=n:=by kernel_rfl):Imp (Zd step s=some r) (ZC tt T G kp (.loop c) st Q):=fun hr =>
 XU (by rw[hn]) hr (h1.trans h2) fun s x hx=>k s x hx
end
end Go.Av
namespace Go.Lc
open Go.RowKit
open Go.Av
set_option linter.unusedVariables false
set_option linter.unusedSimpArgs false
theorem Yx {σ ρ:Type}{step:σ→Option (σ ⊕ ρ)}{s s':σ}(h:step s=some (.inl s')):Zd step s=Zd step s' := by rw[ZlV,h]
theorem Zag {σ ρ:Type}{step:σ→Option (σ ⊕ ρ)}{s:σ}{x:Option ρ}(h:step s=x.map .inr):Zd step s=x:=by
 rw[ZlV,h];cases x <;> rfl
theorem Xi {σ ρ:Type}{step:σ→Option (σ ⊕ ρ)}{s:σ}{r:ρ}(h:step s=some (.inr r)):Zd step s=some r:=by rw[ZlV,h]
theorem ZM {σ ρ:Type}{step:σ→Option (σ ⊕ ρ)}(enc:Nat→σ) (n:Nat){x:Option ρ}(h:∀ i,i<n→step (enc i)=some (.inl (enc (i+1)))) (he:step (enc n)=x.map .inr):Zd step (enc 0)=x:=by
 have key:∀ k,k≤n→Zd step (enc (n-k))=x:=by
  intro k;induction k with
  | zero=>intro _; exact Zag he
  | succ k ih =>
   intro hk;rw[Yx (h (n-(k+1)) (by omega)),show n-(k+1)+1=n-k by omega];exact ih (by omega)
 have:=key n (Nat.le_refl _)
 rwa[Nat.sub_self] at this
theorem Xa {σ ρ:Type}{step:σ→Option (σ ⊕ ρ)}(I:Nat→σ→Prop) (Q:ρ→Prop) (h:∀ i s,I i s→(∃ j s',j<i∧step s=some (.inl s')∧I j s')∨∃ r,step s=some (.inr r)∧Q r):∀ (n:Nat) (s:σ),I n s→∃ r,Zd step s=some r∧Q r:=by
 intro n;induction n using Nat.strongRecOn with
 | _ n ih =>
  intro s hs;rcases h n s hs with ⟨j,s',hj,h1,h2⟩ | ⟨r,h1,h2⟩
  ·obtain⟨r,h3,h4⟩:=ih j hj s' h2
   exact⟨r,(Yx h1).trans h3,h4⟩
  ·exact⟨r,Xi h1,h2⟩
def Tot {α:Type}(x:Option α) (Q:α→Prop):Prop:=∃ a,x=some a∧Q a
section
variable {α β:Type}{x:Option α}{f:α→Option β}{P:α→Prop}{Q:β→Prop}
theorem Tot.bind (h:Tot x P) (k:∀ a,P a→Tot (f a) Q):Tot (x.bind f) Q:=by
 obtain⟨a,rfl,ha⟩:=h;exact k a ha
theorem Tot.mono {P':α→Prop}(h:Tot x P) (k:∀ a,P a→P' a):Tot x P' := by
 obtain⟨a,h1,ha⟩:=h;exact⟨a,h1,k a ha⟩
theorem Zb {a:α}(h:P a):Tot (some a) P:=⟨a,rfl,h⟩
theorem Zg {c:Prop}[Decidable c]{a b:Option α}(h1:c→Tot a P) (h2:¬ c→Tot b P):Tot (if c then a else b) P:=by
 by_cases h:c
 ·rw[if_pos h]; exact h1 h
 ·rw[if_neg h]; exact h2 h
theorem Tot.inr {ρ σ:Type}{x:Option ρ}{Q:ρ→Prop}(h:Tot x Q):∃ r,(x.map Sum.inr:Option (σ ⊕ ρ))=some (.inr r)∧Q r:=by
 obtain⟨a,rfl,ha⟩:=h;exact⟨a,rfl,ha⟩
end
theorem Za {α β:Type}(a:α) (f:α→Option β):(some a).bind f=f a:=rfl
theorem Zj {p:Prop}[Decidable p]{α:Type}{f:Unit→Option α}(h:p):(chk p).bind f=f ():=by rw[Zwu h]; rfl
theorem Zwy {α:Type}{l:List α}{i:Nat}(h:i<l.length):idx l (i:Int)=some l[i]:=by simp[idx,h]
theorem Zi {α β:Type}{l:List α}{i:Nat}{f:α→Option β}(h:i<l.length):(idx l (i:Int)).bind f=f l[i]:=by rw[Zwy h]; rfl
theorem Zwz {n i:Nat}(h:i<n):inA n (i:Int)=some i:=by simp[inA,h]
theorem Yu {β:Type}{n i:Nat}{f:Nat→Option β}(h:i<n):(inA n (i:Int)).bind f=f i:=by rw[Zwz h]; rfl
theorem Ze9 {α β:Type}{l:List α}{i:Nat}{f:α→Option β}(h:i<l.length):(l[i]?).bind f=f l[i]:=by rw[List.getElem?_eq_getElem h]; rfl
theorem wi (n:Int) (h:-9223372036854775808≤n∧n≤9223372036854775807):IntKind.i64.wrap n=n:=IntWalk.i64_in n h
theorem Zp {i n:Nat}(h:i<n) (hn:n≤9223372036854775807):IntKind.i64.wrap ((i:Int)+1)=((i+1:Nat):Int):=by rw[wi _ (by omega)]; omega
theorem wu (n:Int) (h:0≤n∧n≤18446744073709551615):IntKind.u64.wrap n=n:=IntWalk.u64_in n h
theorem Zpm {α:Type}(f:Nat→α) (z:α){i k:Nat}(h:i<k):(((List.range i).map f)++List.replicate (k-i) z).set i (f i)=((List.range (i+1)).map f)++List.replicate (k-(i+1)) z:=by
 rw[List.set_append_right _ _ (by simp)];simp only[List.length_map,List.length_range,Nat.sub_self];rw[show k-i=(k-(i+1))+1 by omega,List.replicate_succ,List.set_cons_zero,List.range_succ,List.map_append];simp
theorem ZqE {α:Type}(f:Nat→α) (z:α){i k:Nat}(h:i≤k):(((List.range i).map f)++List.replicate (k-i) z).length=k:=by simp; omega
class Yc (α:Type) where
 force:{β:Type}→α→(α→β)→β
 eq:∀ {β:Type}(a:α) (k:α→β),force a k=k a
noncomputable def Zu {β:Type}(n:Nat) (k:Nat→β):β:=Nat.rec (motive:=fun _=>β) (k Nat.zero) (fun m _=>k (Nat.succ m)) n
theorem ZP {β:Type}(n:Nat) (k:Nat→β):Zu n k=k n:=by cases n <;> rfl
noncomputable instance:Yc Nat:=⟨Zu,ZP⟩
noncomputable def ZtU {β:Type}(i:Int) (k:Int→β):β:=Int.rec (motive:=fun _=>β) (fun n=>Zu n fun m=>k (Int.ofNat m)) (fun n=>Zu n fun m=>k (Int.negSucc m)) i
theorem ZtV {β:Type}(i:Int) (k:Int→β):ZtU i k=k i:=by
 cases i with
 | ofNat n=>exact ZP n fun m=>k (Int.ofNat m)
 | negSucc n=>exact ZP n fun m=>k (Int.negSucc m)
noncomputable instance:Yc Int:=⟨ZtU,ZtV⟩
noncomputable def ZtW {β:Type}(b:Bool) (k:Bool→β):β:=Bool.rec (motive:=fun _=>β) (k false) (k true) b
theorem ZtX {β:Type}(b:Bool) (k:Bool→β):ZtW b k=k b:=by cases b <;> rfl
noncomputable instance:Yc Bool:=⟨ZtW,ZtX⟩
noncomputable instance:Yc Unit:=⟨fun _ k=>k (),fun _ _=>rfl⟩
noncomputable def ZtY {α γ β:Type}[Yc α] [Yc γ] (p:α×γ) (k:α×γ→β):β:=Prod.rec (motive:=fun _=>β) (fun a c=>Yc.force a fun a=>Yc.force c fun c=>k (a,c)) p
theorem ZtZ {α γ β:Type}[Yc α] [Yc γ] (p:α×γ) (k:α×γ→β):ZtY p k=k p:=by
 obtain⟨a,c⟩:=p;exact(Yc.eq a _).trans (Yc.eq c _)
noncomputable instance {α γ:Type}[Yc α] [Yc γ]:Yc (α×γ):=⟨ZtY,ZtZ⟩
noncomputable def ZqF {α β:Type}[Yc α] (l:List α) (k:List α→β):β:=List.rec (motive:=fun _=>(List α→β)→β) (fun k=>k []) (fun a _ ih k=>Yc.force a fun a=>ih fun l=>k (a :: l)) l k
theorem Zpn {α β:Type}[Yc α] (l:List α) (k:List α→β):ZqF l k=k l:=by
 induction l generalizing k with
 | nil=>rfl
 | cons a l ih =>
  refine(Yc.eq (β:=β) a _).trans ?_;exact ih fun l=>k (a :: l)
noncomputable instance {α:Type}[Yc α]:Yc (List α):=⟨ZqF,Zpn⟩
noncomputable def ZqG {n:Nat}{β:Type}(a:Arr n) (k:Arr n→β):β:=ZqF a.l fun l=>if h:Nat.beq l.length n=true then k ⟨l,Nat.eq_of_beq_eq_true h⟩ else k a
theorem Zt0 {n:Nat}{β:Type}(a:Arr n) (k:Arr n→β):ZqG a k=k a:=by
 unfold ZqG;rw[Zpn];split <;> rfl
noncomputable instance {n:Nat}:Yc (Arr n):=⟨ZqG,Zt0⟩
noncomputable def _root_.Option.bindF {α β:Type}[Yc α] (o:Option α) (f:α→Option β):Option β:=Option.rec (motive:=fun _=>Option β) none (fun x=>Yc.force x f) o
theorem ZqH {α β:Type}[Yc α] (o:Option α) (f:α→Option β):o.bindF f=o.bind f:=by
 cases o with
 | none=>rfl
 | some x=>exact Yc.eq x f
noncomputable def ZnR {σ ρ:Type}[Yc σ] (step:σ→Option (σ ⊕ ρ)) (s:σ):Option ρ :=
 Nat.rec (motive:=fun _=>σ→Option ρ) (fun _=>none) (fun _ ih s=>Option.rec (motive:=fun _=>Option ρ) none (fun x=>Sum.rec (motive:=fun _=>Option ρ) (fun s'=>Yc.force s' ih) (fun r=>some r) x) (step s)) 1000000 s
noncomputable instance {α γ:Type}[Yc α] [Yc γ]:Yc (α ⊕ γ):=⟨fun x k=>Sum.rec (motive:=fun _=>_) (fun a=>Yc.force a fun a=>k (.inl a)) (fun c=>Yc.force c fun c=>k (.inr c)) x,fun x k=>by cases x <;> exact Yc.eq _ _⟩
noncomputable instance {α:Type}[Yc α]:Yc (Option α):=⟨fun x k=>Option.rec (motive:=fun _=>_) (k none) (fun a=>Yc.force a fun a=>k (some a)) x,fun x k=>by cases x <;> first | rfl | exact Yc.eq _ _⟩
def Le {α:Type}(o o':Option α):Prop:=∀ x,o=some x→o'=some x
theorem Le.refl {α:Type}(o:Option α):Le o o:=fun _ h=>h
theorem ZwA {α β:Type}[Yc α]{o o':Option α}{f f':α→Option β}(h:Le o o') (hf:∀ x,Le (f x) (f' x)):Le (o.bindF f) (o'.bind f'):=by
 intro y hy;rw[ZqH] at hy;obtain⟨x,hx,hy⟩:=Option.bind_eq_some_iff.1 hy;rw[h _ hx];exact hf x _ hy
theorem ZxE {α β:Type}{o o':Option α}{f:α→β}(h:Le o o'):Le (o.map f) (o'.map f):=by
 intro y hy;obtain⟨x,hx,rfl⟩:=Option.map_eq_some_iff.1 hy;rw[h _ hx];rfl
theorem ZxF {α:Type}{p:Prop}[Decidable p]{a a' b b':Option α}(h:Le a a') (h':Le b b'):Le (if p then a else b) (if p then a' else b'):=by
 split
 ·exact h
 ·exact h'
theorem ZxG {σ ρ:Type}[Yc σ]{step step':σ→Option (σ ⊕ ρ)}{s:σ}(h:∀ s,Le (step s) (step' s)):Le (ZnR step s) (Zd step' s):=by
 have key:∀ (n:Nat) (s:σ) (r:ρ),(Nat.rec (motive:=fun _=>σ→Option ρ) (fun _=>none) (fun _ ih s=>Option.rec (motive:=fun _=>Option ρ) none (fun x=>Sum.rec (motive:=fun _=>Option ρ) (fun s'=>Yc.force s' ih) (fun r=>some r) x) (step s)) n s:Option ρ)=some r→Zd step' s=some r:=by
  intro n;induction n with
  | zero=>intro s r h; cases h
  | succ n ih =>
   intro s r hr;simp only at hr;rcases hs:step s with _ | (s' | r')
   ·rw[hs] at hr; cases hr
   ·rw[hs] at hr
    have hr:=(Yc.eq s' _).symm.trans hr;rw[Yx (h s _ hs)];exact ih s' r hr
   ·rw[hs] at hr
    obtain rfl:=Option.some.inj hr;exact Xi (h s _ hs)
 intro r hr;exact key 1000000 s r hr
class Lec {α:Type}(o o':Option α):Prop where
 h:Le o o'
theorem Lec.mk' {α:Type}{o o' p p':Option α}(e:o=p) (e':o'=p') (h:Le p p' := by
 repeat' (first
  | (with_reducible exact Le.refl _)
  | (with_reducible exact Lec.h)
  | (with_reducible refine ZxG fun s=>?_; repeat (first | (with_reducible exact Lec.h) | (rcases s with ⟨_,s⟩)))
  | (with_reducible refine ZwA ?_ fun _=>?_)
  | (with_reducible refine ZxF ?_ ?_)
  | (with_reducible refine ZxE ?_))):Lec o o' := ⟨by rw[e,e']; exact h⟩
section
set_option maxRecDepth 100000
noncomputable def Zkc (a0:(Arr 4)) (a1:Int):Option (Bool) :=
 (inA (4) (IntKind.i64.wrap ((a1).tdiv 64))).bindF fun j1=>(chk (¬ ((a1).tmod 64<0))).bindF fun _=>some (decide (bits .and .u64 ((a0.at j1).fdiv (2 ^ (min ((a1).tmod 64).toNat 64))) 1=1))
instance {a0 a1}:Lec (Zkc a0 a1) (XW a0 a1):=.mk' (Zkc.eq_1 ..) (XW.eq_1 ..)
noncomputable def ZjN (p12:(Arr 4)):Option (Arr 4) :=
 some (p12)
instance {p12}:Lec (ZjN p12) (Zfs p12):=.mk' (ZjN.eq_1 ..) (Zfs.eq_1 ..)
noncomputable def Zhy (p11:Int) (p20:(Arr 4)):Option ((Int×(Arr 4)) ⊕ ((Arr 4))) :=
 some (.inl (IntKind.i64.wrap (p11+1),p20))
instance {p11 p20}:Lec (Zhy p11 p20) (Za7 p11 p20):=.mk' (Zhy.eq_1 ..) (Za7.eq_1 ..)
noncomputable def ZjO (a1:Int) (a0:(Arr 4)):(Int×(Arr 4))→Option ((Int×(Arr 4)) ⊕ ((Arr 4)))
 | (p11,p12)=>(if IntKind.i64.wrap (p11+a1)<256 then(Zkc a0 (IntKind.i64.wrap (p11+a1))).bindF fun y17=>(if y17=true then(inA (4) (IntKind.i64.wrap ((p11).tdiv 64))).bindF fun j21=>(chk (¬ ((p11).tmod 64<0))).bindF fun _=>Zhy p11 (p12.put j21 (bits .or .u64 (p12.at j21) (IntKind.u64.wrap (1 * (2 ^ (min ((p11).tmod 64).toNat 64)))))) else Zhy p11 p12) else(ZjN p12).map Sum.inr)
instance {a1 a0 p11 p12}:Lec (ZjO a1 a0 (p11,p12)) (ZdB a1 a0 (p11,p12)):=.mk' (ZjO.eq_1 ..) (ZdB.eq_1 ..)
noncomputable def Ziv (a0:(Arr 4)) (a1:Int):Option ((Arr 4)) :=
 (if a1≤0 then some (a0) else(if 256≤a1 then some (zA 4) else ZnR (ZjO a1 a0) (0,zA 4)))
instance {a0 a1}:Lec (Ziv a0 a1) (Xw a0 a1):=.mk' (Ziv.eq_1 ..) (Xw.eq_1 ..)
noncomputable def ZhQ (a0:Int) (a1:Int) (a2:Int):Option (Int×Int) :=
 (chk ((0≤a0∧0≤a1)∧(a1≤18446744073709551615∧0≤a2)∧a2≤1)).bindF fun _=>some ((a0+a1+a2) % 18446744073709551616,(a0+a1+a2) / 18446744073709551616)
instance {a0 a1 a2}:Lec (ZhQ a0 a1 a2) (YE a0 a1 a2):=.mk' (ZhQ.eq_1 ..) (YE.eq_1 ..)
noncomputable def ZjP (p9:(Arr 4)) (p7:Int):Option ((Arr 4)×Bool) :=
 some ((p9,decide (p7=1)))
instance {p9 p7}:Lec (ZjP p9 p7) (Zft p9 p7):=.mk' (ZjP.eq_1 ..) (Zft.eq_1 ..)
noncomputable def ZjQ (a0:(Arr 4)) (a1:(Arr 4)):(Int×Int×(Arr 4))→Option ((Int×Int×(Arr 4)) ⊕ ((Arr 4)×Bool))
 | (p7,p8,p9)=>(if p8<4 then(inA (4) (p8)).bindF fun j12=>(ZhQ (a0.at j12) (a1.at j12) p7).bindF fun y13=>some (.inl (y13.2,IntKind.i64.wrap (p8+1),p9.put j12 y13.1)) else(ZjP p9 p7).map Sum.inr)
instance {a0 a1 p7 p8 p9}:Lec (ZjQ a0 a1 (p7,p8,p9)) (Zfu a0 a1 (p7,p8,p9)):=.mk' (ZjQ.eq_1 ..) (Zfu.eq_1 ..)
noncomputable def ZlZ (a0:(Arr 4)) (a1:(Arr 4)):Option ((Arr 4)×Bool) :=
 ZnR (ZjQ a0 a1) (0,0,zA 4)
instance {a0 a1}:Lec (ZlZ a0 a1) (Zcu a0 a1):=.mk' (ZlZ.eq_1 ..) (Zcu.eq_1 ..)
noncomputable def ZjR (p6:(Arr 4)):Option (Arr 4) :=
 some (p6)
instance {p6}:Lec (ZjR p6) (Zfv p6):=.mk' (ZjR.eq_1 ..) (Zfv.eq_1 ..)
noncomputable def Fref02_Shl_s1:(Int×(Arr 4))→Option ((Int×(Arr 4)) ⊕ ((Arr 4)))
 | (p5,p6)=>(if 0<p5 then(ZlZ p6 p6).bindF fun y8=>some (.inl (IntKind.i64.wrap (p5-1),y8.1)) else(ZjR p6).map Sum.inr)
instance {p5 p6}:Lec (Fref02_Shl_s1 (p5,p6)) (Lref02_Shl_s1 (p5,p6)):=.mk' (Fref02_Shl_s1.eq_1 ..) (Lref02_Shl_s1.eq_1 ..)
noncomputable def Zl0 (a0:(Arr 4)) (a1:Int):Option ((Arr 4)) :=
 (if 256≤a1 then some (zA 4) else ZnR (Fref02_Shl_s1) (a1,a0))
instance {a0 a1}:Lec (Zl0 a0 a1) (Zcv a0 a1):=.mk' (Zl0.eq_1 ..) (Zcv.eq_1 ..)
noncomputable def Fref02_Cmp_k1:Option Int :=
 some (0)
instance:Lec (Fref02_Cmp_k1) (Lref02_Cmp_k1):=.mk' (Fref02_Cmp_k1.eq_1 ..) (Lref02_Cmp_k1.eq_1 ..)
noncomputable def ZjS (a0:(Arr 4)) (a1:(Arr 4)):Int→Option ((Int) ⊕ (Int))
 | p3=>(if 0≤p3 then(inA (4) (p3)).bindF fun j5=>(if a0.at j5<a1.at j5 then some (.inr ((-1))) else(if a1.at j5<a0.at j5 then some (.inr (1)) else some (.inl (IntKind.i64.wrap (p3-1))))) else(Fref02_Cmp_k1).map Sum.inr)
instance {a0 a1 p3}:Lec (ZjS a0 a1 p3) (Zfr a0 a1 p3):=.mk' (ZjS.eq_1 ..) (Zfr.eq_1 ..)
noncomputable def Zkd (a0:(Arr 4)) (a1:(Arr 4)):Option (Int) :=
 ZnR (ZjS a0 a1) 3
instance {a0 a1}:Lec (Zkd a0 a1) (YJ a0 a1):=.mk' (Zkd.eq_1 ..) (YJ.eq_1 ..)
noncomputable def Zjm (a0:(Arr 4)):Option (Bool) :=
 some (decide (a0=zA 4))
instance {a0}:Lec (Zjm a0) (Zae a0):=.mk' (Zjm.eq_1 ..) (Zae.eq_1 ..)
noncomputable def Ziw (a0:Int):Option ((Arr 4)) :=
 some ((zA 4).put 0 a0)
instance {a0}:Lec (Ziw a0) (Y9 a0):=.mk' (Ziw.eq_1 ..) (Y9.eq_1 ..)
noncomputable def Fref02_Len_k1:Option Int :=
 some (0)
instance:Lec (Fref02_Len_k1) (Lref02_Len_k1):=.mk' (Fref02_Len_k1.eq_1 ..) (Lref02_Len_k1.eq_1 ..)
noncomputable def ZjT (a0:(Arr 4)):Int→Option ((Int) ⊕ (Int))
 | p4=>(if 0≤p4 then(Zkc a0 p4).bindF fun y6=>(if y6=true then some (.inr (IntKind.i64.wrap (p4+1))) else some (.inl (IntKind.i64.wrap (p4-1)))) else(Fref02_Len_k1).map Sum.inr)
instance {a0 p4}:Lec (ZjT a0 p4) (ZdD a0 p4):=.mk' (ZjT.eq_1 ..) (ZdD.eq_1 ..)
noncomputable def Zl1 (a0:(Arr 4)):Option (Int) :=
 ZnR (ZjT a0) 255
instance {a0}:Lec (Zl1 a0) (Zak a0):=.mk' (Zl1.eq_1 ..) (Zak.eq_1 ..)
noncomputable def Zfa (p7:(Arr 4)):Option ((Arr 4)×Int) :=
 (Zjm p7).bindF fun y8=>(if y8=true then some ((zA 4,120)) else some ((p7,0)))
instance {p7}:Lec (Zfa p7) (Zax p7):=.mk' (Zfa.eq_1 ..) (Zax.eq_1 ..)
noncomputable def Zhz (a0:Int):Option ((Arr 4)×Int) :=
 (Ziw (IntKind.u64.wrap (bits .and .u32 a0 16777215))).bindF fun y1=>(if ¬ (bits .and .u32 a0 8388608=0) then some ((zA 4,120)) else(if IntKind.i64.wrap ((a0).fdiv 16777216)<3 then(Ziv y1 (IntKind.i64.wrap (8 * (IntKind.i64.wrap (3-(IntKind.i64.wrap ((a0).fdiv 16777216))))))).bindF fun y9=>Zfa y9 else(Zjm y1).bindF fun y10=>((if ¬ (y10=true) then(Zl1 y1).bindF fun y11=>some (decide (256<IntKind.i64.wrap (y11+(IntKind.i64.wrap (8 * (IntKind.i64.wrap ((IntKind.i64.wrap ((a0).fdiv 16777216))-3))))))) else some (false))).bindF fun z12=>(if (¬ (y10=true)∧z12=true) then some ((zA 4,120)) else(Zl0 y1 (IntKind.i64.wrap (8 * (IntKind.i64.wrap ((IntKind.i64.wrap ((a0).fdiv 16777216))-3))))).bindF fun y13=>Zfa y13)))
instance {a0}:Lec (Zhz a0) (Xf a0):=.mk' (Zhz.eq_1 ..) (Xf.eq_1 ..)
noncomputable def ZfZ (p9:(Arr 4)):Option (Arr 4) :=
 some (p9)
instance {p9}:Lec (ZfZ p9) (Zbb p9):=.mk' (ZfZ.eq_1 ..) (Zbb.eq_1 ..)
noncomputable def Zf0 (a0:(Arr 32)):(Int×(Arr 4))→Option ((Int×(Arr 4)) ⊕ ((Arr 4)))
 | (p8,p9)=>(if p8<32 then(inA (4) (IntKind.i64.wrap ((IntKind.i64.wrap (31-p8)).tdiv 8))).bindF fun j13=>(inA (32) (p8)).bindF fun j14=>(chk (¬ (IntKind.i64.wrap (8 * ((IntKind.i64.wrap (31-p8)).tmod 8))<0))).bindF fun _=>some (.inl (IntKind.i64.wrap (p8+1),p9.put j13 (bits .or .u64 (p9.at j13) (IntKind.u64.wrap ((IntKind.u64.wrap (a0.at j14)) * (2 ^ (min (IntKind.i64.wrap (8 * ((IntKind.i64.wrap (31-p8)).tmod 8))).toNat 64))))))) else(ZfZ p9).map Sum.inr)
instance {a0 p8 p9}:Lec (Zf0 a0 (p8,p9)) (Zbc a0 (p8,p9)):=.mk' (Zf0.eq_1 ..) (Zbc.eq_1 ..)
noncomputable def Zfb (a0:(Arr 32)):Option ((Arr 4)) :=
 ZnR (Zf0 a0) (0,zA 4)
instance {a0}:Lec (Zfb a0) (YV a0):=.mk' (Zfb.eq_1 ..) (YV.eq_1 ..)
end
theorem Zpo (bad:Nat→Prop):∀ n,(∃ i,i<n∧bad i)→∃ m,m<n∧bad m∧∀ j,j<m→¬ bad j:=by
 classical
 intro n;induction n with
 | zero=>rintro⟨i,h,_⟩; omega
 | succ n ih =>
  intro h;by_cases hx:∃ i,i<n∧bad i
  ·obtain⟨m,h1,h2,h3⟩:=ih hx
   exact⟨m,by omega,h2,h3⟩
  ·obtain⟨i,hi,hb⟩:=h
   have:i=n:=by
    rcases Nat.lt_or_ge i n with h' | h'
    ·exact absurd ⟨i,h',hb⟩ hx
    ·omega
   subst this;exact⟨i,by omega,hb,fun j hj hb=>hx ⟨j,hj,hb⟩⟩
theorem ZqI {σ ρ:Type}{step:σ→Option (σ ⊕ ρ)}(enc:Nat→σ) (n:Nat) (bad:Nat→Prop) (rb x:Option ρ) (h:∀ i,i<n→¬ bad i→step (enc i)=some (.inl (enc (i+1)))) (hb:∀ i,i<n→bad i→step (enc i)=rb.map .inr) (he:step (enc n)=x.map .inr):Zd step (enc 0)=(by classical exact if ∃ i,i<n∧bad i then rb else x):=by
 classical
 by_cases hx:∃ i,i<n∧bad i
 ·rw[if_pos hx]
  obtain⟨m,hm,hbm,hmin⟩:=Zpo bad n hx;exact ZM enc m (fun i hi=>h i (by omega) (hmin i hi)) (hb m hm hbm)
 ·rw[if_neg hx]
  exact ZM enc n (fun i hi=>h i hi fun hbi=>hx ⟨i,hi,hbi⟩) he
theorem Zt1 {σ ρ α:Type}{step:σ→Option (σ ⊕ ρ)}(enc:Nat→σ) (l:List α) (bad:α→Prop) (rb x:Option ρ) (h:∀ i (hi:i<l.length),¬ bad l[i]→step (enc i)=some (.inl (enc (i+1)))) (hb:∀ i (hi:i<l.length),bad l[i]→step (enc i)=rb.map .inr) (he:step (enc l.length)=x.map .inr):Zd step (enc 0)=(by classical exact if ∃ a∈l,bad a then rb else x):=by
 classical
 rw[ZqI enc l.length (fun i=>∃ hi:i<l.length,bad l[i]) rb x (fun i hi hn=>h i hi fun hb=>hn ⟨hi,hb⟩) (fun i hi ⟨_,hbi⟩=>hb i hi hbi) he]
 have:(∃ i,i<l.length∧∃ hi:i<l.length,bad l[i])↔∃ a∈l,bad a:=by
  constructor
  ·rintro⟨i,_,hi,hb⟩
   exact⟨_,List.getElem_mem hi,hb⟩
  ·rintro⟨a,ha,hb⟩
   obtain⟨i,hi,rfl⟩:=List.getElem_of_mem ha;exact⟨i,hi,hi,hb⟩
 simp only[this]
theorem Zea {σ ρ α:Type}{step:σ→Option (σ ⊕ ρ)}(enc:Nat→σ) (l:List α) (bad:α→Prop) (rb x:Option ρ) [inst:Decidable (∃ a∈l,bad a)] (h:∀ i (hi:i<l.length),¬ bad l[i]→step (enc i)=some (.inl (enc (i+1)))) (hb:∀ i (hi:i<l.length),bad l[i]→step (enc i)=rb.map .inr) (he:step (enc l.length)=x.map .inr){s:σ}(hs:s=enc 0):Zd step s=if ∃ a∈l,bad a then rb else x:=by
 subst hs;rw[Zt1 enc l bad rb x h hb he];split
 ·rfl
 ·rfl
theorem ZaT {α β:Type}{l:List α}(f:α→List β){i:Nat}(h:i<l.length):(l.take (i+1)).flatMap f=(l.take i).flatMap f++f l[i]:=by
 rw[List.take_succ_eq_append_getElem h,List.flatMap_append];simp
theorem ZdW {α β:Type}(l:List α) (f:α→List β) (i:Nat):((l.take i).flatMap f).length≤(l.flatMap f).length:=by
 conv=>rhs; rw[← List.take_append_drop i l]
 rw[List.flatMap_append,List.length_append];omega
def Yi (n:Int) (k:Nat):List Int:=(List.range k).map fun i=>IntKind.u8.wrap (n.fdiv (2 ^ (8 * i)))
@[simp] theorem Zeb (n:Int) (k:Nat):(Yi n k).length=k:=by simp[Yi]
theorem ZrP {i:Nat}(h:i<8):min (IntKind.i64.wrap (8 * (i:Int))).toNat 64=8 * i:=by
 rw[wi _ (by omega)];omega
theorem ZmG (n:Int) (k:Nat) (hk:k≤8):Xe n k=some (Yi n k):=by
 unfold Xe;rw[Zj (by omega)]
 have:=ZM (step:=ZcZ k n) (fun i=>((i:Int),((List.range i).map fun i=>IntKind.u8.wrap (n.fdiv (2 ^ (8 * i))))++List.replicate (k-i) 0)) k (x:=some (Yi n k)) (fun i hi=>by
  simp only[ZcZ];rw[if_pos (by omega),Zj (by rw[wi _ (by omega)]; omega),ZqE _ _ (by omega),Yu hi,ZrP (by omega),Zpm (fun i=>IntKind.u8.wrap (n.fdiv (2 ^ (8 * i)))) 0 hi,Zp hi (by omega)]) (by
  simp only[ZcZ];rw[if_neg (by omega)]
  simp[ZeZ,Yi])
 simpa using this
theorem Zh2 (n:Int) (k:Nat) (hk:k≤8):Yf n k=some (Yi n k):=by
 unfold Yf;rw[Zj (by omega)]
 have:=ZM (step:=Zc0 k n) (fun i=>((i:Int),((List.range i).map fun i=>IntKind.u8.wrap (n.fdiv (2 ^ (8 * i))))++List.replicate (k-i) 0)) k (x:=some (Yi n k)) (fun i hi=>by
  simp only[Zc0];rw[if_pos (by simp; omega),Zj (by rw[wi _ (by omega)]; omega),ZqE _ _ (by omega),Yu hi,ZrP (by omega),Zpm (fun i=>IntKind.u8.wrap (n.fdiv (2 ^ (8 * i)))) 0 hi,Zp hi (by omega)]) (by
  simp only[Zc0];rw[if_neg (by simp)]
  simp[Ze1,Yi])
 simpa using this
theorem ZdX {a b:List Int}(h:a.length+b.length≤140737488355328):YD a b=some (a++b):=by
 unfold YD;rw[wi _ (by omega),Zj (by omega),Zj (by omega),Zj (by omega)]
theorem ZaG {a b:List Int}(h:a.length+b.length≤140737488355328):Ye a b=some (a++b):=by
 unfold Ye;rw[wi _ (by omega),Zj (by omega),Zj (by omega),Zj (by omega)]
section
variable {b:List Int}{n:Int}
theorem Zix (h:b.length≤140737488355000):Z7 b n=some (b++Yi (IntKind.u64.wrap n) 4):=by
 unfold Z7;have this:Xe (IntKind.u64.wrap n) 4=some (Yi (IntKind.u64.wrap n) 4):=ZmG _ 4 (by omega);rw[this,Za,ZdX (by simp; omega)];rfl
theorem Zt2 (h:b.length≤140737488355000):Zao b n=some (b++Yi n 8):=by
 unfold Zao;have this:Xe n 8=some (Yi n 8):=ZmG _ 8 (by omega);rw[this,Za,ZdX (by simp; omega)];rfl
theorem ZxH (h:b.length≤140737488355000):Zbe b n=some (b++Yi (IntKind.u64.wrap n) 2):=by
 unfold Zbe;have this:Xe (IntKind.u64.wrap n) 2=some (Yi (IntKind.u64.wrap n) 2):=ZmG _ 2 (by omega);rw[this,Za,ZdX (by simp; omega)];rfl
theorem ZdJ (h:b.length≤140737488355000):Z2 b n=some (b++Yi (IntKind.u64.wrap n) 4):=by
 unfold Z2;have this:Yf (IntKind.u64.wrap n) 4=some (Yi (IntKind.u64.wrap n) 4):=Zh2 _ 4 (by omega);rw[this,Za,ZaG (by simp; omega)];rfl
theorem ZwB (h:b.length≤140737488355000):Zbf b n=some (b++Yi n 8):=by
 unfold Zbf;have this:Yf n 8=some (Yi n 8):=Zh2 _ 8 (by omega);rw[this,Za,ZaG (by simp; omega)];rfl
def ZaU (n:Int):List Int:=if n<253 then Yi n 1 else if n<65536 then 253 :: Yi n 2 else if n<4294967296 then 254 :: Yi n 4 else 255 :: Yi n 8
theorem ZbS (n:Int):(ZaU n).length≤9:=by
 unfold ZaU;split
 ·simp
 ·split
  ·simp
  ·split <;> simp
theorem Zlw (h0:0≤n∧n≤18446744073709551615) (h:b.length≤140737488354900):YM b n=some (b++ZaU n):=by
 unfold YM ZaU;split
 ·rw[ZdX (by simp; omega)]
  simp[Yi]
 ·split
  ·rw[ZdX (by simp; omega),Za,ZxH (by simp; omega),IntWalk.u16_in _ (by omega),wu _ (by omega)]
   simp
  ·split
   ·rw[ZdX (by simp; omega),Za,Zix (by simp; omega),IntWalk.u32_in _ (by omega),wu _ (by omega)]
    simp
   ·rw[ZdX (by simp; omega),Za,Zt2 (by simp; omega)]
    simp
theorem ZkL (h0:0≤n∧n≤18446744073709551615) (h:b.length≤140737488354900):YN b n=some (b++ZaU n):=by
 have l1:Yf n 1=some (Yi n 1):=Zh2 n 1 (by omega);have l2:Yf n 2=some (Yi n 2):=Zh2 n 2 (by omega);have l4:Yf n 4=some (Yi n 4):=Zh2 n 4 (by omega);have l8:Yf n 8=some (Yi n 8):=Zh2 n 8 (by omega);unfold YN ZaU;split
 ·rw[l1,Za,ZaG (by simp; omega)]
  rfl
 ·split
  ·rw[l2,Za,ZaG (by simp),Za,ZaG (by simp; omega)]
   rfl
  ·split
   ·rw[l4,Za,ZaG (by simp),Za,ZaG (by simp; omega)]
    rfl
   ·rw[l8,Za,ZaG (by simp),Za,ZaG (by simp; omega)]
    rfl
end
def bytesB (s:List Int):List Int:=ZaU s.length++s
theorem Zl2 (s:List Int):(bytesB s).length≤9+s.length:=by
 have:=ZbS s.length;simp[bytesB]
 omega
theorem ZfW {n:Nat}(h:n≤140737488355328):IntKind.u64.wrap (n:Int)=n:=wu _ (by omega)
theorem Zpp {b s:List Int}(h:b.length+s.length≤140737488354900):XD b s=some (b++bytesB s):=by
 unfold XD;have:=ZbS s.length;rw[ZfW (by omega),Zlw (by omega) (by omega),Za,ZdX (by simp; omega)];simp[bytesB]
theorem Zpq {b s:List Int}(h:b.length+s.length≤140737488354900):XE b s=some (b++bytesB s):=by
 unfold XE;have:=ZbS s.length;rw[ZfW (by omega),ZkL (by omega) (by omega),Za,ZaG (by simp; omega)];simp[bytesB]
theorem ZoN {b:List Int}{a:Arr 32}(h:b.length≤140737488355000):Xk b a=some (b++a.l):=by
 unfold Xk;rw[ZdX (by rw[a.hl]; omega)];rfl
theorem Zi2 {b:List Int}{a:Arr 32}(h:b.length≤140737488355000):Yw b a=some (b++a.l):=by
 unfold Yw;rw[ZaG (by rw[a.hl]; omega)];rfl
def Zjw (o:Tapi_OutPoint):List Int:=o.1.l++Yi (IntKind.u64.wrap o.2) 4
@[simp] theorem Zl3 (o:Tapi_OutPoint):(Zjw o).length=36:=by simp[Zjw,o.1.hl]
theorem ZqJ (o:Tapi_OutPoint):ZeM o=some (Zjw o):=by
 unfold ZeM;rw[ZoN (by simp),Za,Zix (by simp[o.1.hl])];rfl
theorem Zpr (o:Tapi_OutPoint):Zc1 o=some (Zjw o):=by
 unfold Zc1;rw[Zi2 (by simp),Za,ZdJ (by simp[o.1.hl])];rfl
end Go.Lc
