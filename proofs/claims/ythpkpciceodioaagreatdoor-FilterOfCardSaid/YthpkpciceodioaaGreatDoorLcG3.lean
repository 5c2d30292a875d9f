import Derived.Test.YthpkpciceodioaaGreatDoorLcG2
import Derived.Test.YthpkpciceodioaaGreatDoorLcG1
import Derived.IntWalk
namespace Go.Lc
open Go.RowKit
open Go.Av
set_option linter.unusedVariables false
set_option linter.unusedSimpArgs false
section
set_option maxRecDepth 100000
abbrev Tapi_Header:=Int×(Arr 32)×(Arr 32)×Int×Int×Int
abbrev Tapi_Block:=Tapi_Header×(List Tapi_Tx)
noncomputable def YG (a0:(List Int)):Option (List Int) :=
 (chk (a0.length≤140737488355328)).bind fun _=>some (a0)
noncomputable def ZfR (p65:(List (List Int))):Option (List (List Int)) :=
 some (p65)
noncomputable def Zb2 (p64:Int) (p124:(List (List Int))):Option ((Int×(List (List Int))) ⊕ ((List (List Int)))) :=
 some (.inl (IntKind.i64.wrap (p64+1),p124))
noncomputable def ZfS (x97:Tapi_Tx) (p64:Int):(Int×(List (List Int)))→Option ((Int×(List (List Int))) ⊕ ((Int×(List (List Int))) ⊕ ((List (List Int)))))
 | (p123,p124)=>(if p123<(x97.2.1.length:Int) then (idx (x97.2.1) (p123)).bind fun x128=>(ZcS x128.1).bind fun y129=>(chk (p124.length+1≤5864062014805)).bind fun _=>some (.inl (IntKind.i64.wrap (p123+1),p124++[y129])) else (Zb2 p64 p124).map Sum.inr)
noncomputable def Zb3 (x97:Tapi_Tx) (p64:Int) (p109:(List (List Int))):Option ((Int×(List (List Int))) ⊕ ((List (List Int)))) :=
 (ZcK x97).bind fun y114=>(if y114=true then some (.inl (IntKind.i64.wrap (p64+1),p109)) else Zf (ZfS x97 p64) (0,p109))
noncomputable def ZaR (p108:Int) (p134:(List (List Int))):Option ((Int×(List (List Int))) ⊕ ((Int×(List (List Int))) ⊕ ((List (List Int))))) :=
 some (.inl (IntKind.i64.wrap (p108+1),p134))
noncomputable def ZfT (x97:Tapi_Tx) (p64:Int):(Int×(List (List Int)))→Option ((Int×(List (List Int))) ⊕ ((Int×(List (List Int))) ⊕ ((List (List Int)))))
 | (p108,p109)=>(if p108<(x97.2.2.1.length:Int) then (idx (x97.2.2.1) (p108)).bind fun x131=>(if 0<(x131.2.length:Int) then (YG x131.2).bind fun y135=>(chk (p109.length+1≤5864062014805)).bind fun _=>ZaR p108 (p109++[y135]) else ZaR p108 p109) else (Zb3 x97 p64 p109).map Sum.inr)
noncomputable def Zb4 (a0:Tapi_Block):(Int×(List (List Int)))→Option ((Int×(List (List Int))) ⊕ ((List (List Int))))
 | (p64,p65)=>(if p64<(a0.2.length:Int) then (idx (a0.2) (p64)).bind fun x97=>Zf (ZfT x97 p64) (0,p65) else (ZfR p65).map Sum.inr)
noncomputable def Zax (a0:Tapi_Block):Option ((List (List Int))) :=
 Zf (Zb4 a0) (0,[])
noncomputable def XI (a0:Tapi_Header):Option ((List Int)) :=
 (YJ ([]:(List Int)) a0.1).bind fun y1=>(XF y1 a0.2.1).bind fun y2=>(XF y2 a0.2.2.1).bind fun y3=>(YJ y3 a0.2.2.2.1).bind fun y4=>(YJ y4 a0.2.2.2.2.1).bind fun y5=>(YJ y5 a0.2.2.2.2.2).bind fun y6=>some (y6)
noncomputable def Zfk (p12:(List Int)):Option ((List Int)×Int) :=
 (if 100000<(p12.length:Int) then some ((([]:(List Int)),4)) else some ((p12,0)))
noncomputable def Za4 (a0:Tapi_Block):(Int×(List Int))→Option ((Int×(List Int)) ⊕ ((List Int)×Int))
 | (p11,p12)=>(if p11<(a0.2.length:Int) then (idx (a0.2) (p11)).bind fun x16=>(Zel x16 true).bind fun y17=>(if ¬ (y17.2=0) then some (.inr ((([]:(List Int)),4))) else (chk (p12.length+y17.1.length≤140737488355328)).bind fun _=>some (.inl (IntKind.i64.wrap (p11+1),p12++y17.1))) else (Zfk p12).map Sum.inr)
noncomputable def Zcb (a0:Tapi_Block):Option ((List Int)×Int) :=
 (if 256<(a0.2.length:Int) then some ((([]:(List Int)),4)) else (XI a0.1).bind fun y1=>(Xm y1 (IntKind.u64.wrap ((a0.2.length:Int)))).bind fun y2=>Zf (Za4 a0) (0,y2))
noncomputable def Zf6 (a0:(Arr 32)):Option ((Arr 2)) :=
 (ZaK ((a0.l).take 8)).bind fun y1=>(ZaK (((a0.l).drop 8).take 8)).bind fun y2=>some ((⟨[y1,y2],rfl⟩:Arr 2))
noncomputable def ZbJ (a0:Tapi_Header):Option ((Arr 32)) :=
 (XI a0).bind fun y1=>(Zdv y1).bind fun y2=>some (y2)
noncomputable def Zep (a0:Tapi_Block):Option (Tapi_Filter×Int) :=
 (Zcb a0).bind fun y1=>(if ¬ (y1.2=0) then some (((0,([]:(List Int))),y1.2)) else (ZbJ a0.1).bind fun y2=>(Zf6 y2).bind fun y3=>(Zax a0).bind fun y4=>(Zbu y3 y4 10 1533).bind fun y5=>some ((y5.1,y5.2)))
noncomputable def ZcC (a0:(Arr 4)):Option (Bool) :=
 some (decide (a0=zA 4))
noncomputable def Lref02_Len_k1:Option Int :=
 some (0)
noncomputable def Ze1 (a0:(Arr 4)):Int→Option ((Int) ⊕ (Int))
 | p4=>(if 0≤p4 then (Zc8 a0 p4).bind fun y6=>(if y6=true then some (.inr (IntKind.i64.wrap (p4+1))) else some (.inl (IntKind.i64.wrap (p4-1)))) else (Lref02_Len_k1).map Sum.inr)
noncomputable def Zeq (a0:(Arr 4)):Option (Int) :=
 Zf (Ze1 a0) 255
noncomputable def Za5 (a0:Int) (a1:Int) (a2:Int):Option (Int×Int) :=
 (chk ((0≤a0∧0≤a1)∧(a1≤18446744073709551615∧0≤a2)∧a2≤1)).bind fun _=>some ((a0+a1+a2) % 18446744073709551616,(a0+a1+a2) / 18446744073709551616)
noncomputable def Ze2 (p9:(Arr 4)) (p7:Int):Option ((Arr 4)×Bool) :=
 some ((p9,decide (p7=1)))
noncomputable def Ze3 (a0:(Arr 4)) (a1:(Arr 4)):(Int×Int×(Arr 4))→Option ((Int×Int×(Arr 4)) ⊕ ((Arr 4)×Bool))
 | (p7,p8,p9)=>(if p8<4 then (inA (4) (p8)).bind fun j12=>(Za5 (a0.at j12) (a1.at j12) p7).bind fun y13=>some (.inl (y13.2,IntKind.i64.wrap (p8+1),p9.put j12 y13.1)) else (Ze2 p9 p7).map Sum.inr)
noncomputable def Zer (a0:(Arr 4)) (a1:(Arr 4)):Option ((Arr 4)×Bool) :=
 Zf (Ze3 a0 a1) (0,0,zA 4)
noncomputable def Ze4 (p6:(Arr 4)):Option (Arr 4) :=
 some (p6)
noncomputable def Lref02_Shl_s1:(Int×(Arr 4))→Option ((Int×(Arr 4)) ⊕ ((Arr 4)))
 | (p5,p6)=>(if 0<p5 then (Zer p6 p6).bind fun y8=>some (.inl (IntKind.i64.wrap (p5-1),y8.1)) else (Ze4 p6).map Sum.inr)
noncomputable def Zes (a0:(Arr 4)) (a1:Int):Option ((Arr 4)) :=
 (if 256≤a1 then some (zA 4) else Zf (Lref02_Shl_s1) (a1,a0))
noncomputable def Zay (p7:(Arr 4)):Option ((Arr 4)×Int) :=
 (ZcC p7).bind fun y8=>(if y8=true then some ((zA 4,120)) else some ((p7,0)))
noncomputable def Zdm (a0:Int):Option ((Arr 4)×Int) :=
 (Zbr (IntKind.u64.wrap (bits .and .u32 a0 16777215))).bind fun y1=>(if ¬ (bits .and .u32 a0 8388608=0) then some ((zA 4,120)) else (if IntKind.i64.wrap ((a0).fdiv 16777216)<3 then (Zc9 y1 (IntKind.i64.wrap (8 * (IntKind.i64.wrap (3-(IntKind.i64.wrap ((a0).fdiv 16777216))))))).bind fun y9=>Zay y9 else (ZcC y1).bind fun y10=>((if ¬ (y10=true) then (Zeq y1).bind fun y11=>some (decide (256<IntKind.i64.wrap (y11+(IntKind.i64.wrap (8 * (IntKind.i64.wrap ((IntKind.i64.wrap ((a0).fdiv 16777216))-3))))))) else some (false))).bind fun z12=>(if (¬ (y10=true)∧z12=true) then some ((zA 4,120)) else (Zes y1 (IntKind.i64.wrap (8 * (IntKind.i64.wrap ((IntKind.i64.wrap ((a0).fdiv 16777216))-3))))).bind fun y13=>Zay y13)))
noncomputable def ZcD (p11:(List Int)):Option (List Int) :=
 some (p11)
noncomputable def Y5 (a0:Tapi_Header):(Int×(List Int))→Option ((Int×(List Int)) ⊕ ((List Int)))
 | (p10,p11)=>(if p10<(3:Int) then (inA (3) (p10)).bind fun j15=>(([a0.2.2.2.1,a0.2.2.2.2.1,a0.2.2.2.2.2])[j15]?).bind fun x16=>(Xk p11 x16).bind fun y17=>some (.inl (IntKind.i64.wrap (p10+1),y17)) else (ZcD p11).map Sum.inr)
noncomputable def XJ (a0:Tapi_Header):Option ((List Int)) :=
 (Xk ([]:(List Int)) a0.1).bind fun y1=>(XG y1 a0.2.1).bind fun y2=>(XG y2 a0.2.2.1).bind fun y3=>Zf (Y5 a0) (0,y3)
noncomputable def ZbK (a0:Tapi_Header):Option ((Arr 32)) :=
 (XJ a0).bind fun y1=>(ZaJ y1).bind fun y2=>some (y2)
noncomputable def Zb5 (p9:(Arr 4)):Option (Arr 4) :=
 some (p9)
noncomputable def Zb6 (a0:(Arr 32)):(Int×(Arr 4))→Option ((Int×(Arr 4)) ⊕ ((Arr 4)))
 | (p8,p9)=>(if p8<32 then (inA (4) (IntKind.i64.wrap ((IntKind.i64.wrap (31-p8)).tdiv 8))).bind fun j13=>(inA (32) (p8)).bind fun j14=>(chk (¬ (IntKind.i64.wrap (8 * ((IntKind.i64.wrap (31-p8)).tmod 8))<0))).bind fun _=>some (.inl (IntKind.i64.wrap (p8+1),p9.put j13 (bits .or .u64 (p9.at j13) (IntKind.u64.wrap ((IntKind.u64.wrap (a0.at j14)) * (2 ^ (min (IntKind.i64.wrap (8 * ((IntKind.i64.wrap (31-p8)).tmod 8))).toNat 64))))))) else (Zb5 p9).map Sum.inr)
noncomputable def ZbZ (a0:(Arr 32)):Option ((Arr 4)) :=
 Zf (Zb6 a0) (0,zA 4)
noncomputable def Zcc (a0:Tapi_Tx) (a1:Bool):Option ((List Int)×Int) :=
 (ZcA a0).bind fun y1=>(if ¬ (y1=true) then some ((([]:(List Int)),4)) else (Zbt a0 a1).bind fun y2=>some ((y2,0)))
noncomputable def ZhG (p12:(List Int)):Option (List Int) :=
 some (p12)
noncomputable def Zda (a0:Tapi_Block):(Int×(List Int))→Option ((Int×(List Int)) ⊕ ((List Int)))
 | (p11,p12)=>(if p11<(a0.2.length:Int) then (idx (a0.2) (p11)).bind fun x16=>(Zcc x16 true).bind fun y17=>(chk (p12.length+y17.1.length≤140737488355328)).bind fun _=>some (.inl (IntKind.i64.wrap (p11+1),p12++y17.1)) else (ZhG p12).map Sum.inr)
noncomputable def Zcd (a0:Tapi_Block):Option ((List Int)) :=
 (XJ a0.1).bind fun y1=>(Xn y1 (IntKind.u64.wrap ((a0.2.length:Int)))).bind fun y2=>Zf (Zda a0) (0,y2)
noncomputable def ZcN (a0:Tapi_Block):Option Bool :=
 (Zcd a0).bind fun y9=>some (decide ((y9.length:Int)≤100000))
noncomputable def XE (a0:Tapi_Block):Int→Option ((Int) ⊕ (Bool))
 | p6=>(if p6<(a0.2.length:Int) then (idx (a0.2) (p6)).bind fun x10=>(ZcA x10).bind fun y11=>(if ¬ (y11=true) then some (.inr (false)) else some (.inl (IntKind.i64.wrap (p6+1)))) else (ZcN a0).map Sum.inr)
noncomputable def ZdB (a0:Tapi_Block):Option (Bool) :=
 (if 256<(a0.2.length:Int) then some (false) else Zf (XE a0) 0)
noncomputable def Lkeep_Tx_k2:Option Bool :=
 some (true)
noncomputable def ZdC (a0:Tapi_Tx):Int→Option ((Int) ⊕ (Bool))
 | p12=>(if p12<(a0.2.2.1.length:Int) then (idx (a0.2.2.1) (p12)).bind fun x14=>(if 600<(x14.2.length:Int) then some (.inr (false)) else some (.inl (IntKind.i64.wrap (p12+1)))) else (Lkeep_Tx_k2).map Sum.inr)
noncomputable def Zgr (a0:Tapi_Tx):Option Bool :=
 Zf (ZdC a0) 0
noncomputable def ZeO (a0:Tapi_Tx):Int→Option ((Int) ⊕ (Bool))
 | p6=>(if p6<(a0.2.1.length:Int) then (idx (a0.2.1) (p6)).bind fun x15=>(ZdA x15.2.2 40 600).bind fun y16=>(if ¬ (y16=true) then some (.inr (false)) else some (.inl (IntKind.i64.wrap (p6+1)))) else (Zgr a0).map Sum.inr)
noncomputable def Zf7 (a0:Tapi_Tx):Option (Bool) :=
 (if (70<(a0.2.1.length:Int)∨70<(a0.2.2.1.length:Int)) then some (false) else Zf (ZeO a0) 0)
noncomputable def Lkeep_Block_k1:Option Bool :=
 some (true)
noncomputable def ZcO (a0:Tapi_Block):Int→Option ((Int) ⊕ (Bool))
 | p6=>(if p6<(a0.2.length:Int) then (idx (a0.2) (p6)).bind fun x9=>(Zf7 x9).bind fun y10=>(if ¬ (y10=true) then some (.inr (false)) else some (.inl (IntKind.i64.wrap (p6+1)))) else (Lkeep_Block_k1).map Sum.inr)
noncomputable def ZdD (a0:Tapi_Block):Option (Bool) :=
 (if 12<(a0.2.length:Int) then some (false) else Zf (ZcO a0) 0)
noncomputable def ZgE (p65:(List (List Int))):Option (List (List Int)) :=
 some (p65)
noncomputable def Zcr (p64:Int) (p124:(List (List Int))):Option ((Int×(List (List Int))) ⊕ ((List (List Int)))) :=
 some (.inl (IntKind.i64.wrap (p64+1),p124))
noncomputable def ZgF (x97:Tapi_Tx) (p64:Int):(Int×(List (List Int)))→Option ((Int×(List (List Int))) ⊕ ((Int×(List (List Int))) ⊕ ((List (List Int)))))
 | (p123,p124)=>(if p123<(x97.2.1.length:Int) then (idx (x97.2.1) (p123)).bind fun x128=>(Zbf x128.1).bind fun y129=>(chk (p124.length+1≤5864062014805)).bind fun _=>some (.inl (IntKind.i64.wrap (p123+1),p124++[y129])) else (Zcr p64 p124).map Sum.inr)
noncomputable def Zcs (x97:Tapi_Tx) (p64:Int) (p109:(List (List Int))):Option ((Int×(List (List Int))) ⊕ ((List (List Int)))) :=
 (Zcl x97).bind fun y114=>(if y114=true then some (.inl (IntKind.i64.wrap (p64+1),p109)) else Zf (ZgF x97 p64) (0,p109))
noncomputable def Zbj (p108:Int) (p134:(List (List Int))):Option ((Int×(List (List Int))) ⊕ ((Int×(List (List Int))) ⊕ ((List (List Int))))) :=
 some (.inl (IntKind.i64.wrap (p108+1),p134))
noncomputable def ZgG (x97:Tapi_Tx) (p64:Int):(Int×(List (List Int)))→Option ((Int×(List (List Int))) ⊕ ((Int×(List (List Int))) ⊕ ((List (List Int)))))
 | (p108,p109)=>(if p108<(x97.2.2.1.length:Int) then (idx (x97.2.2.1) (p108)).bind fun x131=>(if 0<(x131.2.length:Int) then (ZbH [x131.2]).bind fun y135=>(chk (p109.length+1≤5864062014805)).bind fun _=>Zbj p108 (p109++[y135]) else Zbj p108 p109) else (Zcs x97 p64 p109).map Sum.inr)
noncomputable def Zct (a0:Tapi_Block):(Int×(List (List Int)))→Option ((Int×(List (List Int))) ⊕ ((List (List Int))))
 | (p64,p65)=>(if p64<(a0.2.length:Int) then (idx (a0.2) (p64)).bind fun x97=>Zf (ZgG x97 p64) (0,p65) else (ZgE p65).map Sum.inr)
noncomputable def ZaG (a0:Tapi_Block):Option ((List (List Int))) :=
 Zf (Zct a0) (0,[])
noncomputable def Zet (a0:(Arr 32)):Option ((Arr 2)) :=
 (ZbI ((a0.l).take 8)).bind fun y1=>(ZbI (((a0.l).drop 8).take 8)).bind fun y2=>some ((⟨[y1,y2],rfl⟩:Arr 2))
noncomputable def Zfq (a0:Tapi_Block):Option (Tapi_Filter×Int) :=
 (ZdB a0).bind fun y1=>(if ¬ (y1=true) then some (((0,([]:(List Int))),4)) else (ZbK a0.1).bind fun y2=>(Zet y2).bind fun y3=>(ZaG a0).bind fun y4=>(ZbY y3 y4 10 1533).bind fun y5=>some ((y5.1,y5.2)))
noncomputable def Lref08_SameItems_k1:Option Bool :=
 some (true)
noncomputable def ZaS (a0:(List (List Int))) (a1:(List (List Int))):Int→Option ((Int) ⊕ (Bool))
 | p8=>(if p8<(a0.length:Int) then (idx (a0) (p8)).bind fun x12=>(idx (a1) (p8)).bind fun x13=>(Zba x12 x13).bind fun y14=>(if ¬ (y14=true) then some (.inr (false)) else some (.inl (IntKind.i64.wrap (p8+1)))) else (Lref08_SameItems_k1).map Sum.inr)
noncomputable def Za6 (a0:(List (List Int))) (a1:(List (List Int))):Option (Bool) :=
 (if ¬ ((a0.length:Int)=(a1.length:Int)) then some (false) else Zf (ZaS a0 a1) 0)
end
section
set_option maxRecDepth 100000
noncomputable def Lconst_true:Option Bool :=
 some true
noncomputable def Zag (a0:Tapi_Block):Option (Bool) :=
 (Lconst_true).bind fun y1=>(if ¬ (y1=true) then some (false) else (ZdD a0).bind fun y2=>(if ¬ (y2=true) then some (true) else (Zep a0).bind fun y3=>(Zfq a0).bind fun y4=>(Zax a0).bind fun y5=>(ZaG a0).bind fun y6=>(Za6 y5 y6).bind fun y7=>((if (y7=true∧y3.2=y4.2) then (Zdz y3.1 y4.1).bind fun y8=>some (y8) else some (false))).bind fun z9=>some (((y7 && decide (y3.2=y4.2)) && z9))))
end
end Go.Lc
namespace Go.Av
open Go.RowKit
open Go.Av
set_option linter.unusedVariables false
set_option linter.unusedSimpArgs false
theorem bA {β:Type} {n:Nat} {i:Int} {f:Nat→Option β} {y:β} (h:(inA n i).bind f=some y):∃ j,(0≤i∧i.toNat=j∧j<n)∧f j=some y :=
 let ⟨j,h1,h2⟩:=bs h
 ⟨j,Zq h1,h2⟩
theorem bI {α β:Type} {l:List α} {i:Int} {f:α→Option β} {y:β} (h:(idx l i).bind f=some y):∃ x,(0≤i∧l[i.toNat]? = some x∧∀ h':i.toNat<l.length,l[i.toNat]=x)∧f x=some y :=
 let ⟨x,h1,h2⟩:=bs h
 ⟨x,⟨(Zhz h1).1,(Zhz h1).2,Zk (Zhz h1).2⟩,h2⟩
theorem bC {β:Type} {p:Prop} [Decidable p] {f:Unit→Option β} {y:β} (h:(chk p).bind f=some y):p∧f ()=some y :=
 let ⟨_,h1,h2⟩:=bs h
 ⟨ZC h1,h2⟩
theorem bG {α β:Type} {o:Option α} {f:α→Option β} {y:β} {P:α→Prop} (h:o.bind f=some y) (k:∀ x,o=some x→P x):∃ x,P x∧f x=some y :=
 let ⟨x,h1,h2⟩:=bs h
 ⟨x,k x h1,h2⟩
theorem eqT (p:Prop):(p=True)∨¬ p:=(Classical.em p).imp eq_true id
theorem ifP {α:Type} {c:Prop} [Decidable c] {a b r:α} (h:(if c then a else b)=r) (hc:c:=by simp [-Int.ofNat_toNat, *]):a=r:=by rwa [if_pos hc] at h
theorem ZiY {α β:Type} {c:Prop} [Decidable c] {a b:Option α} {f:α→Option β} {r:Option β} (h:(if c then a else b).bind f=r) (hc:c:=by simp [-Int.ofNat_toNat, *]):a.bind f=r:=by rwa [if_pos hc] at h
theorem ZiZ {α β:Type} {c:Prop} [Decidable c] {a b:Option α} {f:α→Option β} {r:Option β} (h:(if c then a else b).bind f=r) (hc:¬ c:=by simp [-Int.ofNat_toNat, *]):b.bind f=r:=by rwa [if_neg hc] at h
theorem ifN {α:Type} {c:Prop} [Decidable c] {a b r:α} (h:(if c then a else b)=r) (hc:¬ c:=by simp [-Int.ofNat_toNat, *]):b=r:=by rwa [if_neg hc] at h
attribute [simp] YL YW Xq
structure Con (α β:Type) where
 E:α→List PV
 R:α→β→PV×List (List Cell)
 g:α→Option β
section
variable {α β:Type} {K:Con α β}
noncomputable def Con.G (K:Con α β):List PV→Option (PV×List (List Cell)):=XW K.E fun x=>(K.g x).map (K.R x)
def Con.Inj (K:Con α β):Prop:=∀ a b,K.E a=K.E b→a=b
theorem Con.Inj.eq (hi:K.Inj) {x:α} {y:β} (h:K.g x=some y):K.G (K.E x)=some (K.R x y):=Xx hi h
theorem Con.none {ps:List PV} (h:∀ a,K.E a=ps→False):K.G ps=none:=Zqk h
def Zi (T:Tab):List (Nat×(List PV→Option (PV×List (List Cell))))→Prop
 | []=>True
 | (g,F) :: l=>T g=some F∧Zi T l
theorem Zps {l m:List (Nat×(List PV→Option (PV×List (List Cell))))} {own:Nat→List (List Nat)} (h:∀ p∈m,(tab l own).fn p.1=some p.2):Zi (tab l own) m:=by
 induction m with
 | nil=>trivial
 | cons p m ih=>exact ⟨h p (by simp),ih fun q hq=>h q (by simp [hq])⟩
def Walk (tt:TT) (G:Glob) (l:List (Nat×(List PV→Option (PV×List (List Cell))))) (own:Nat→List (List Nat)) (fn:Func) (K:Con α β):Prop :=
 ∀ T:Tab,T.own=own→Zi T l→∀ x y,K.g x=some y→∃ kp fl n,Xj tt T G kp fl n fn (K.E x)=some (K.R x y)
def kpL:List (Nat×Kp)→Keep
 | [],_=>⟨[],[],[]⟩
 | (j,q) :: l,i=>if i=j then q else kpL l i
theorem Walk.of {tt:TT} {G:Glob} {l:List (Nat×(List PV→Option (PV×List (List Cell))))} {own:Nat→List (List Nat)} {fn:Func} {c:Code} {n:Nat} (kl:List (Nat×Kp)) (w:Bool) (hb:fn.body=some c) (hn:fn.ntmps=n)
  (h:∀ T:Tab,T.own=own→Zi T l→∀ x y,K.g x=some y→Zj2 (K.E x)=true∧Z0 tt T G (kpL kl) c ⟨(ioIn 0 0 (K.E x)).1++List.replicate (n-(K.E x).length) .skip,ZiB (K.E x)⟩ (ZaN tt w fn (K.E x) (K.R x y))):Walk tt G l own fn K :=
 fun T h1 h2 x y h3=>fnE (kp:=kpL kl) (w:=w) hb (h T h1 h2 x y h3).1 (by rw [hn]; exact (h T h1 h2 x y h3).2)
def distinctF:List (Nat×(List PV→Option (PV×List (List Cell))))→Bool
 | []=>true
 | (g,_) :: l=>l.all (fun q=>!(q.1 == g)) && distinctF l
theorem Zlg {own:Nat→List (List Nat)}:∀ {l:List (Nat×(List PV→Option (PV×List (List Cell))))},distinctF l=true→∀ p∈l,tabF l p.1=some p.2
 | [],_,p,hp=>by simp at hp
 | (g,F) :: l,h,p,hp=>by
  simp only [distinctF,Bool.and_eq_true,List.all_eq_true] at h;simp only [tabF];rcases List.mem_cons.1 hp with rfl | hp
  ·simp
  ·have:=h.1 p hp
   rw [if_neg (by simpa using this)];exact Zlg (own:=own) h.2 p hp
theorem mkW {P:Program} {tt:TT} {G:Glob} {l:List (Nat×(List PV→Option (PV×List (List Cell))))} {own:Nat→List (List Nat)} (hm:P.follows .mixedOrders=true) (htt:∀ t i,tt t=some i→Yy P t=some i)
  {f:FuncId} {fn:Func} {c:Code} (w:Walk tt G l own fn K) (hT:Zm8 P G l) (hf:P.funcs[f]? = some fn) (hb:fn.body=some c) (hname:(!(fn.name == "runtime.NumGoroutine") && distinctF l)=true):Zh P G f K.G:=by
 simp only [Bool.and_eq_true,Bool.not_eq_true'] at hname;exact mkI (T:=tab l own) hm htt (tab_ok hT) hf hb hname.1 fun x y hy=>w _ rfl (Zps (Zlg (own:=own) hname.2)) x y hy
end
attribute [simp] kpL
section
variable {tt:TT} {T:Tab} {G:Glob} {kp:Keep} {st st0 st1:ASt} {a b c d:Code} {Q Q':AE→ASt→Prop} {P R H:Prop}
def Imp (R P:Prop):Prop:=R→P
structure Zi0 (X R:Prop):Prop where
 h:X=R
theorem Imp.of (e:Zi0 P R):Imp P R:=fun p=>e.h ▸ p
theorem Zeu {id:Nat} {ops:Array Oper} (hc:c = .region id ops false) (h:ZgK tt T G ops.toList ops.toList st=some st1) (hq:Imp R (Z0 tt T G kp b st1 Q)) (hj:(kp (id+1000000)).ks.isEmpty=true:=by rfl):Imp R (Z0 tt T G kp (.seq c b) st Q):=fun r=>Ze hc h (hq r) hj
theorem ZdE {id:Nat} {ops:Array Oper} {fs:List Foot} (hc:c = .region id ops true) (h:ZgL tt T G ops.toList ops.toList st=some (st1,fs)) (hd:ZdX ops.toList fs=true) (hq:Imp R (Z0 tt T G kp b st1 Q)) (hj:(kp (id+1000000)).ks.isEmpty=true:=by rfl):Imp R (Z0 tt T G kp (.seq c b) st Q):=fun r=>ZY hc h hd (hq r) hj
theorem Zim {id:Nat} {ops:Array Oper} (hc:c = .region id ops false) (h:ZgK tt T G ops.toList ops.toList st=some st1) (hq:Imp R (Q .normal st1)) (hj:(kp (id+1000000)).ks.isEmpty=true:=by rfl):Imp R (Z0 tt T G kp c st Q):=fun r=>Y8 hc h (hq r) hj
theorem Zhi {id:Nat} {ops:Array Oper} {fs:List Foot} (hc:c = .region id ops true) (h:ZgL tt T G ops.toList ops.toList st=some (st1,fs)) (hd:ZdX ops.toList fs=true) (hq:Imp R (Q .normal st1)) (hj:(kp (id+1000000)).ks.isEmpty=true:=by rfl):Imp R (Z0 tt T G kp c st Q):=fun r=>Zhh hc h hd (hq r) hj
theorem Zf8 (h:Imp R (Z0 tt T G kp (.seq a (.seq b d)) st Q)):Imp R (Z0 tt T G kp (.seq (.seq a b) d) st Q):=fun r=>ZE (h r)
theorem Zhj (h:Imp R (Q .normal st)):Imp R (Z0 tt T G kp .skip st Q):=fun r=>Zka (h r)
theorem Zin (h:Imp R (Q .ret st)):Imp R (Z0 tt T G kp .ret st Q):=fun r=>ZbR (h r)
theorem Zhk {id:Nat} (h:Imp R (Q (.exit id) st)):Imp R (Z0 tt T G kp (.exit id) st Q):=fun r=>Zon (h r)
theorem ZdF (h:Imp R (Z0 tt T G kp b st Q)):Imp R (Z0 tt T G kp (.seq .skip b) st Q):=fun r=>ZB (h r)
theorem Zev (h:Imp R (Q .ret st)):Imp R (Z0 tt T G kp (.seq .ret b) st Q):=fun r=>Zck (h r)
theorem ZdG {id:Nat} (h:Imp R (Q (.exit id) st)):Imp R (Z0 tt T G kp (.seq (.exit id) b) st Q):=fun r=>Z4 (h r)
theorem Zf9 {id:Nat} (h:Imp R (Z0 tt T G kp c st (Zha id Q))):Imp R (Z0 tt T G kp (.block id c) st Q):=fun r=>XX (h r)
theorem ZcP {id:Nat} (h:Imp R (Z0 tt T G kp c st (Zha id (ZfD (fun s=>Z0 tt T G kp d s Q) Q)))):Imp R (Z0 tt T G kp (.seq (.block id c) d) st Q):=fun r=>Yh (h r)
theorem Zga {x:Operand} (h:rd G st.get x=some (bV true)) (h1:Imp R (Z0 tt T G kp a st Q)):Imp R (Z0 tt T G kp (.cond x a b) st Q):=fun r=>Zcx h (h1 r)
theorem Zgb {x:Operand} (h:rd G st.get x=some (bV false)) (h1:Imp R (Z0 tt T G kp b st Q)):Imp R (Z0 tt T G kp (.cond x a b) st Q):=fun r=>Zcy h (h1 r)
theorem ZcQ {x:Operand} (h:rd G st.get x=some (bV true)) (h1:Imp R (Z0 tt T G kp (.seq a d) st Q)):Imp R (Z0 tt T G kp (.seq (.cond x a b) d) st Q):=fun r=>ZK h (h1 r)
theorem ZcR {x:Operand} (h:rd G st.get x=some (bV false)) (h1:Imp R (Z0 tt T G kp (.seq b d) st Q)):Imp R (Z0 tt T G kp (.seq (.cond x a b) d) st Q):=fun r=>Zn h (h1 r)
theorem Zkb (h:Imp R P) (e:H=P):Imp R H:=fun r=>e ▸ h r
theorem go (k:R) (h:∀ X:Prop,Zi0 X R→Imp X P:=by
 intro X e
 repeat (first
  | (with_reducible refine Zf8 ?_)
  | (with_reducible refine ZdF ?_)
  | (with_reducible refine ZcP ?_)
  | (with_reducible refine ZdG ?_)
  | (with_reducible refine Zev ?_)
  | (with_reducible refine Zf9 ?_)
  | (with_reducible refine Zhj ?_)
  | (with_reducible refine Zhk ?_)
  | (with_reducible refine Zin ?_)
  | (with_reducible refine ZcQ ?_ ?_; · simp [-Int.ofNat_toNat,bV, *]; done)
  | (with_reducible refine ZcR ?_ ?_; · simp [-Int.ofNat_toNat,bV, *]; done)
  | (refine Zeu rfl (by first | (simp [-Int.ofNat_toNat, *] <;> rfl) | fail) ?_)
  | (refine ZdE rfl (by simp [-Int.ofNat_toNat, *]; first | exact ⟨rfl,rfl⟩ | rfl) (by kernel_rfl) ?_)
  | (with_reducible refine Zga ?_ ?_; · simp [-Int.ofNat_toNat,bV, *]; done)
  | (with_reducible refine Zgb ?_ ?_; · simp [-Int.ofNat_toNat,bV, *]; done)
  | (refine Zim rfl (by first | (simp [-Int.ofNat_toNat, *] <;> rfl) | fail) ?_)
  | (refine Zhi rfl (by simp [-Int.ofNat_toNat, *]; first | exact ⟨rfl,rfl⟩ | rfl) (by kernel_rfl) ?_)
  | (refine Zkb ?_ (by simp only [pq,reduceCtorEq]; rfl)))
 exact Imp.of e):P:=h R ⟨rfl⟩ k
theorem nrm {p q:Prop} (c:p) (h:p→q:=by
 intro h;try simp [-Int.ofNat_toNat] at h
 first | exact (eq_true h:(_=_)=True) | exact h):q:=h c
theorem nst (k:R) (h:P=R:=by simp only [und,List.replicate,List.cons_append,List.nil_append]; rfl):P:=h ▸ k
theorem fin (h:H) (k:H→P:=by
 intro h;obtain rfl:=Option.some.inj h
 repeat (simp only [pq,reduceCtorEq]; rintro rfl)
 simp [-Int.ofNat_toNat,ZaN, *]):P:=k h
theorem bk (h:H) (k:H→P:=by
 intro h;obtain rfl:=Option.some.inj h
 repeat (simp only [pq,reduceCtorEq]; rintro rfl)
 simp only [pq,reduceCtorEq]
 simp [-Int.ofNat_toNat,und,List.replicate,Nat.add_assoc, *]):P:=k h
theorem lp {σ ρ:Type} {step:σ→Option (σ ⊕ ρ)} (n:Nat) (H:σ→ASt) {s:σ} {r:ρ}
  (hr:Zf step s=some r)
  (hb:∀ s x,step s=some x→Z0 tt T G kp c (H s) (QL (kp n) H Q r x)) (hn:firstId c=n:=by kernel_rfl) (hf:Zbz (kp n) st=H s:=by simp [-Int.ofNat_toNat,und,List.replicate, *]):Z0 tt T G kp (.loop c) st Q :=
 XR (by rw [hn]) hr hf hb
theorem ua (h:Z0 tt T G kp (.seq (.seq a b) d) st Q):Z0 tt T G kp (.seq a (.seq b d)) st Q:=by
 obtain ⟨n0,e,s,h1,h2⟩:=h;refine ⟨n0,e,s,fun n hn=>?_,h2⟩;rw [← h1 n hn];simp only [Y6];cases Y6 tt T G kp n a st with
 | none=>rfl
 | some x=>obtain ⟨e,s⟩:=x; cases e <;> rfl
theorem jn {H:ASt} (key:Nat) (h0:Z0 tt T G kp d H Q) (h:Z0 tt T G kp d H Q→Z0 tt T G kp c H Q:=by first | exact id | exact ua | exact fun h=>ua (ua h)) (hc:firstJ c=some key:=by rfl) (ha:(kp key).ks.isEmpty=false:=by rfl) (hf:Zbz (kp key) st=Zbz (kp key) H:=by simp [-Int.ofNat_toNat,und,List.replicate, *]):Z0 tt T G kp c st Q :=
 Xh hc rfl ha hf (h h0)
end
abbrev kk (fn:Func) (F:(Nat→Code)→Code):Code:=F (reg fn)
abbrev co (n:Nat) (a b:Code):Code:=.cond (.tmp n) a b
abbrev rt:Code:=.ret
end Go.Av
namespace Go.Lc
open Go.RowKit
open Go.Av
set_option linter.unusedVariables false
set_option linter.unusedSimpArgs false
theorem ZM {σ ρ:Type} {step:σ→Option (σ ⊕ ρ)} {s s':σ} (h:step s=some (.inl s')):Zf step s=Zf step s' := by rw [ZiV,h]
theorem Yv {σ ρ:Type} {step:σ→Option (σ ⊕ ρ)} {s:σ} {x:Option ρ} (h:step s=x.map .inr):Zf step s=x:=by
 rw [ZiV,h];cases x <;> rfl
theorem Yt {σ ρ:Type} {step:σ→Option (σ ⊕ ρ)} {s:σ} {r:ρ} (h:step s=some (.inr r)):Zf step s=some r:=by rw [ZiV,h]
theorem Yg {σ ρ:Type} {step:σ→Option (σ ⊕ ρ)} (enc:Nat→σ) (n:Nat) {x:Option ρ} (h:∀ i,i<n→step (enc i)=some (.inl (enc (i+1)))) (he:step (enc n)=x.map .inr):Zf step (enc 0)=x:=by
 have key:∀ k,k≤n→Zf step (enc (n-k))=x:=by
  intro k;induction k with
  | zero=>intro _; exact Yv he
  | succ k ih =>
   intro hk;rw [ZM (h (n-(k+1)) (by omega)),show n-(k+1)+1=n-k by omega];exact ih (by omega)
 have:=key n (Nat.le_refl _)
 rwa [Nat.sub_self] at this
theorem Xg {σ ρ:Type} {step:σ→Option (σ ⊕ ρ)} (I:Nat→σ→Prop) (Q:ρ→Prop) (h:∀ i s,I i s→(∃ j s',j<i∧step s=some (.inl s')∧I j s')∨∃ r,step s=some (.inr r)∧Q r):∀ (n:Nat) (s:σ),I n s→∃ r,Zf step s=some r∧Q r:=by
 intro n;induction n using Nat.strongRecOn with
 | _ n ih =>
  intro s hs;rcases h n s hs with ⟨j,s',hj,h1,h2⟩ | ⟨r,h1,h2⟩
  ·obtain ⟨r,h3,h4⟩:=ih j hj s' h2
   exact ⟨r,(ZM h1).trans h3,h4⟩
  ·exact ⟨r,Yt h1,h2⟩
def Tot {α:Type} (x:Option α) (Q:α→Prop):Prop:=∃ a,x=some a∧Q a
section
variable {α β:Type} {x:Option α} {f:α→Option β} {P:α→Prop} {Q:β→Prop}
theorem Tot.bind (h:Tot x P) (k:∀ a,P a→Tot (f a) Q):Tot (x.bind f) Q:=by
 obtain ⟨a,rfl,ha⟩:=h;exact k a ha
theorem Tot.mono {P':α→Prop} (h:Tot x P) (k:∀ a,P a→P' a):Tot x P' := by
 obtain ⟨a,h1,ha⟩:=h;exact ⟨a,h1,k a ha⟩
theorem Zfl {a:α} (h:P a):Tot (some a) P:=⟨a,rfl,h⟩
theorem Zio {c:Prop} [Decidable c] {a b:Option α} (h1:c→Tot a P) (h2:¬ c→Tot b P):Tot (if c then a else b) P:=by
 by_cases h:c
 ·rw [if_pos h]; exact h1 h
 ·rw [if_neg h]; exact h2 h
theorem Tot.inr {ρ σ:Type} {x:Option ρ} {Q:ρ→Prop} (h:Tot x Q):∃ r,(x.map Sum.inr:Option (σ ⊕ ρ))=some (.inr r)∧Q r:=by
 obtain ⟨a,rfl,ha⟩:=h;exact ⟨a,rfl,ha⟩
end
theorem Zb {α β:Type} (a:α) (f:α→Option β):(some a).bind f=f a:=rfl
theorem Zg {p:Prop} [Decidable p] {α:Type} {f:Unit→Option α} (h:p):(chk p).bind f=f ():=by rw [Zoo h]; rfl
theorem ZsS {α:Type} {l:List α} {i:Nat} (h:i<l.length):idx l (i:Int)=some l[i]:=by simp [idx,h]
theorem Zt {α β:Type} {l:List α} {i:Nat} {f:α→Option β} (h:i<l.length):(idx l (i:Int)).bind f=f l[i]:=by rw [ZsS h]; rfl
theorem ZsT {n i:Nat} (h:i<n):inA n (i:Int)=some i:=by simp [inA,h]
theorem XK {β:Type} {n i:Nat} {f:Nat→Option β} (h:i<n):(inA n (i:Int)).bind f=f i:=by rw [ZsT h]; rfl
theorem Znl {α β:Type} {l:List α} {i:Nat} {f:α→Option β} (h:i<l.length):(l[i]?).bind f=f l[i]:=by rw [List.getElem?_eq_getElem h]; rfl
theorem wi (n:Int) (h:-9223372036854775808≤n∧n≤9223372036854775807):IntKind.i64.wrap n=n:=IntWalk.i64_in n h
theorem Yr {i n:Nat} (h:i<n) (hn:n≤9223372036854775807):IntKind.i64.wrap ((i:Int)+1)=((i+1:Nat):Int):=by rw [wi _ (by omega)]; omega
theorem wu (n:Int) (h:0≤n∧n≤18446744073709551615):IntKind.u64.wrap n=n:=IntWalk.u64_in n h
theorem Zmd {α:Type} (f:Nat→α) (z:α) {i k:Nat} (h:i<k):(((List.range i).map f)++List.replicate (k-i) z).set i (f i)=((List.range (i+1)).map f)++List.replicate (k-(i+1)) z:=by
 rw [List.set_append_right _ _ (by simp)];simp only [List.length_map,List.length_range,Nat.sub_self];rw [show k-i=(k-(i+1))+1 by omega,List.replicate_succ,List.set_cons_zero,List.range_succ,List.map_append];simp
theorem Znm {α:Type} (f:Nat→α) (z:α) {i k:Nat} (h:i≤k):(((List.range i).map f)++List.replicate (k-i) z).length=k:=by simp; omega
class YO (α:Type) where
 force:{β:Type}→α→(α→β)→β
 eq:∀ {β:Type} (a:α) (k:α→β),force a k=k a
noncomputable def ZD {β:Type} (n:Nat) (k:Nat→β):β:=Nat.rec (motive:=fun _=>β) (k Nat.zero) (fun m _=>k (Nat.succ m)) n
theorem Yi {β:Type} (n:Nat) (k:Nat→β):ZD n k=k n:=by cases n <;> rfl
noncomputable instance:YO Nat:=⟨ZD,Yi⟩
noncomputable def Zqo {β:Type} (i:Int) (k:Int→β):β:=Int.rec (motive:=fun _=>β) (fun n=>ZD n fun m=>k (Int.ofNat m)) (fun n=>ZD n fun m=>k (Int.negSucc m)) i
theorem Zqp {β:Type} (i:Int) (k:Int→β):Zqo i k=k i:=by
 cases i with
 | ofNat n=>exact Yi n fun m=>k (Int.ofNat m)
 | negSucc n=>exact Yi n fun m=>k (Int.negSucc m)
noncomputable instance:YO Int:=⟨Zqo,Zqp⟩
noncomputable def Zqq {β:Type} (b:Bool) (k:Bool→β):β:=Bool.rec (motive:=fun _=>β) (k false) (k true) b
theorem Zqr {β:Type} (b:Bool) (k:Bool→β):Zqq b k=k b:=by cases b <;> rfl
noncomputable instance:YO Bool:=⟨Zqq,Zqr⟩
noncomputable instance:YO Unit:=⟨fun _ k=>k (),fun _ _=>rfl⟩
noncomputable def Zqs {α γ β:Type} [YO α] [YO γ] (p:α×γ) (k:α×γ→β):β:=Prod.rec (motive:=fun _=>β) (fun a c=>YO.force a fun a=>YO.force c fun c=>k (a,c)) p
theorem Zqt {α γ β:Type} [YO α] [YO γ] (p:α×γ) (k:α×γ→β):Zqs p k=k p:=by
 obtain ⟨a,c⟩:=p;exact (YO.eq a _).trans (YO.eq c _)
noncomputable instance {α γ:Type} [YO α] [YO γ]:YO (α×γ):=⟨Zqs,Zqt⟩
noncomputable def Znn {α β:Type} [YO α] (l:List α) (k:List α→β):β:=List.rec (motive:=fun _=>(List α→β)→β) (fun k=>k []) (fun a _ ih k=>YO.force a fun a=>ih fun l=>k (a :: l)) l k
theorem Zme {α β:Type} [YO α] (l:List α) (k:List α→β):Znn l k=k l:=by
 induction l generalizing k with
 | nil=>rfl
 | cons a l ih =>
  refine (YO.eq (β:=β) a _).trans ?_;exact ih fun l=>k (a :: l)
noncomputable instance {α:Type} [YO α]:YO (List α):=⟨Znn,Zme⟩
noncomputable def Zno {n:Nat} {β:Type} (a:Arr n) (k:Arr n→β):β:=Znn a.l fun l=>if h:Nat.beq l.length n=true then k ⟨l,Nat.eq_of_beq_eq_true h⟩ else k a
theorem Zqu {n:Nat} {β:Type} (a:Arr n) (k:Arr n→β):Zno a k=k a:=by
 unfold Zno;rw [Zme];split <;> rfl
noncomputable instance {n:Nat}:YO (Arr n):=⟨Zno,Zqu⟩
noncomputable def _root_.Option.bindF {α β:Type} [YO α] (o:Option α) (f:α→Option β):Option β:=Option.rec (motive:=fun _=>Option β) none (fun x=>YO.force x f) o
theorem Znp {α β:Type} [YO α] (o:Option α) (f:α→Option β):o.bindF f=o.bind f:=by
 cases o with
 | none=>rfl
 | some x=>exact YO.eq x f
noncomputable def ZkK {σ ρ:Type} [YO σ] (step:σ→Option (σ ⊕ ρ)) (s:σ):Option ρ :=
 Nat.rec (motive:=fun _=>σ→Option ρ) (fun _=>none) (fun _ ih s=>Option.rec (motive:=fun _=>Option ρ) none (fun x=>Sum.rec (motive:=fun _=>Option ρ) (fun s'=>YO.force s' ih) (fun r=>some r) x) (step s)) 1000000 s
noncomputable instance {α γ:Type} [YO α] [YO γ]:YO (α ⊕ γ):=⟨fun x k=>Sum.rec (motive:=fun _=>_) (fun a=>YO.force a fun a=>k (.inl a)) (fun c=>YO.force c fun c=>k (.inr c)) x,fun x k=>by cases x <;> exact YO.eq _ _⟩
noncomputable instance {α:Type} [YO α]:YO (Option α):=⟨fun x k=>Option.rec (motive:=fun _=>_) (k none) (fun a=>YO.force a fun a=>k (some a)) x,fun x k=>by cases x <;> first | rfl | exact YO.eq _ _⟩
def Le {α:Type} (o o':Option α):Prop:=∀ x,o=some x→o'=some x
theorem Le.refl {α:Type} (o:Option α):Le o o:=fun _ h=>h
theorem ZsU {α β:Type} [YO α] {o o':Option α} {f f':α→Option β} (h:Le o o') (hf:∀ x,Le (f x) (f' x)):Le (o.bindF f) (o'.bind f'):=by
 intro y hy;rw [Znp] at hy;obtain ⟨x,hx,hy⟩:=Option.bind_eq_some_iff.1 hy;rw [h _ hx];exact hf x _ hy
theorem Zux {α β:Type} {o o':Option α} {f:α→β} (h:Le o o'):Le (o.map f) (o'.map f):=by
 intro y hy;obtain ⟨x,hx,rfl⟩:=Option.map_eq_some_iff.1 hy;rw [h _ hx];rfl
theorem Zuy {α:Type} {p:Prop} [Decidable p] {a a' b b':Option α} (h:Le a a') (h':Le b b'):Le (if p then a else b) (if p then a' else b'):=by
 split
 ·exact h
 ·exact h'
theorem Zuz {σ ρ:Type} [YO σ] {step step':σ→Option (σ ⊕ ρ)} {s:σ} (h:∀ s,Le (step s) (step' s)):Le (ZkK step s) (Zf step' s):=by
 have key:∀ (n:Nat) (s:σ) (r:ρ),(Nat.rec (motive:=fun _=>σ→Option ρ) (fun _=>none) (fun _ ih s=>Option.rec (motive:=fun _=>Option ρ) none (fun x=>Sum.rec (motive:=fun _=>Option ρ) (fun s'=>YO.force s' ih) (fun r=>some r) x) (step s)) n s:Option ρ)=some r→Zf step' s=some r:=by
  intro n;induction n with
  | zero=>intro s r h; cases h
  | succ n ih =>
   intro s r hr;simp only at hr;rcases hs:step s with _ | (s' | r')
   ·rw [hs] at hr; cases hr
   ·rw [hs] at hr
    have hr:=(YO.eq s' _).symm.trans hr;rw [ZM (h s _ hs)];exact ih s' r hr
   ·rw [hs] at hr
    obtain rfl:=Option.some.inj hr;exact Yt (h s _ hs)
 intro r hr;exact key 1000000 s r hr
class Lec {α:Type} (o o':Option α):Prop where
 h:Le o o'
theorem Lec.mk' {α:Type} {o o' p p':Option α} (e:o=p) (e':o'=p') (h:Le p p' := by
 repeat' (first
  | (with_reducible exact Le.refl _)
  | (with_reducible exact Lec.h)
  | (with_reducible refine Zuz fun s=>?_; repeat (first | (with_reducible exact Lec.h) | (rcases s with ⟨_,s⟩)))
  | (with_reducible refine ZsU ?_ fun _=>?_)
  | (with_reducible refine Zuy ?_ ?_)
  | (with_reducible refine Zux ?_))):Lec o o' := ⟨by rw [e,e']; exact h⟩
section
set_option maxRecDepth 100000
noncomputable def Zhc (a0:(Arr 4)) (a1:Int):Option (Bool) :=
 (inA (4) (IntKind.i64.wrap ((a1).tdiv 64))).bindF fun j1=>(chk (¬ ((a1).tmod 64<0))).bindF fun _=>some (decide (bits .and .u64 ((a0.at j1).fdiv (2 ^ (min ((a1).tmod 64).toNat 64))) 1=1))
instance {a0 a1}:Lec (Zhc a0 a1) (Zc8 a0 a1):=.mk' (Zhc.eq_1 ..) (Zc8.eq_1 ..)
noncomputable def ZgS (p12:(Arr 4)):Option (Arr 4) :=
 some (p12)
instance {p12}:Lec (ZgS p12) (ZeZ p12):=.mk' (ZgS.eq_1 ..) (ZeZ.eq_1 ..)
noncomputable def Ze5 (p11:Int) (p20:(Arr 4)):Option ((Int×(Arr 4)) ⊕ ((Arr 4))) :=
 some (.inl (IntKind.i64.wrap (p11+1),p20))
instance {p11 p20}:Lec (Ze5 p11 p20) (Zbx p11 p20):=.mk' (Ze5.eq_1 ..) (Zbx.eq_1 ..)
noncomputable def ZgT (a1:Int) (a0:(Arr 4)):(Int×(Arr 4))→Option ((Int×(Arr 4)) ⊕ ((Arr 4)))
 | (p11,p12)=>(if IntKind.i64.wrap (p11+a1)<256 then (Zhc a0 (IntKind.i64.wrap (p11+a1))).bindF fun y17=>(if y17=true then (inA (4) (IntKind.i64.wrap ((p11).tdiv 64))).bindF fun j21=>(chk (¬ ((p11).tmod 64<0))).bindF fun _=>Ze5 p11 (p12.put j21 (bits .or .u64 (p12.at j21) (IntKind.u64.wrap (1 * (2 ^ (min ((p11).tmod 64).toNat 64)))))) else Ze5 p11 p12) else (ZgS p12).map Sum.inr)
instance {a1 a0 p11 p12}:Lec (ZgT a1 a0 (p11,p12)) (Ze0 a1 a0 (p11,p12)):=.mk' (ZgT.eq_1 ..) (Ze0.eq_1 ..)
noncomputable def ZfJ (a0:(Arr 4)) (a1:Int):Option ((Arr 4)) :=
 (if a1≤0 then some (a0) else (if 256≤a1 then some (zA 4) else ZkK (ZgT a1 a0) (0,zA 4)))
instance {a0 a1}:Lec (ZfJ a0 a1) (Zc9 a0 a1):=.mk' (ZfJ.eq_1 ..) (Zc9.eq_1 ..)
noncomputable def Zfm (a0:Int) (a1:Int) (a2:Int):Option (Int×Int) :=
 (chk ((0≤a0∧0≤a1)∧(a1≤18446744073709551615∧0≤a2)∧a2≤1)).bindF fun _=>some ((a0+a1+a2) % 18446744073709551616,(a0+a1+a2) / 18446744073709551616)
instance {a0 a1 a2}:Lec (Zfm a0 a1 a2) (Za5 a0 a1 a2):=.mk' (Zfm.eq_1 ..) (Za5.eq_1 ..)
noncomputable def ZgU (p9:(Arr 4)) (p7:Int):Option ((Arr 4)×Bool) :=
 some ((p9,decide (p7=1)))
instance {p9 p7}:Lec (ZgU p9 p7) (Ze2 p9 p7):=.mk' (ZgU.eq_1 ..) (Ze2.eq_1 ..)
noncomputable def ZgV (a0:(Arr 4)) (a1:(Arr 4)):(Int×Int×(Arr 4))→Option ((Int×Int×(Arr 4)) ⊕ ((Arr 4)×Bool))
 | (p7,p8,p9)=>(if p8<4 then (inA (4) (p8)).bindF fun j12=>(Zfm (a0.at j12) (a1.at j12) p7).bindF fun y13=>some (.inl (y13.2,IntKind.i64.wrap (p8+1),p9.put j12 y13.1)) else (ZgU p9 p7).map Sum.inr)
instance {a0 a1 p7 p8 p9}:Lec (ZgV a0 a1 (p7,p8,p9)) (Ze3 a0 a1 (p7,p8,p9)):=.mk' (ZgV.eq_1 ..) (Ze3.eq_1 ..)
noncomputable def Zi1 (a0:(Arr 4)) (a1:(Arr 4)):Option ((Arr 4)×Bool) :=
 ZkK (ZgV a0 a1) (0,0,zA 4)
instance {a0 a1}:Lec (Zi1 a0 a1) (Zer a0 a1):=.mk' (Zi1.eq_1 ..) (Zer.eq_1 ..)
noncomputable def ZgW (p6:(Arr 4)):Option (Arr 4) :=
 some (p6)
instance {p6}:Lec (ZgW p6) (Ze4 p6):=.mk' (ZgW.eq_1 ..) (Ze4.eq_1 ..)
noncomputable def Fref02_Shl_s1:(Int×(Arr 4))→Option ((Int×(Arr 4)) ⊕ ((Arr 4)))
 | (p5,p6)=>(if 0<p5 then (Zi1 p6 p6).bindF fun y8=>some (.inl (IntKind.i64.wrap (p5-1),y8.1)) else (ZgW p6).map Sum.inr)
instance {p5 p6}:Lec (Fref02_Shl_s1 (p5,p6)) (Lref02_Shl_s1 (p5,p6)):=.mk' (Fref02_Shl_s1.eq_1 ..) (Lref02_Shl_s1.eq_1 ..)
noncomputable def Zi2 (a0:(Arr 4)) (a1:Int):Option ((Arr 4)) :=
 (if 256≤a1 then some (zA 4) else ZkK (Fref02_Shl_s1) (a1,a0))
instance {a0 a1}:Lec (Zi2 a0 a1) (Zes a0 a1):=.mk' (Zi2.eq_1 ..) (Zes.eq_1 ..)
noncomputable def Fref02_Cmp_k1:Option Int :=
 some (0)
instance:Lec (Fref02_Cmp_k1) (Lref02_Cmp_k1):=.mk' (Fref02_Cmp_k1.eq_1 ..) (Lref02_Cmp_k1.eq_1 ..)
noncomputable def ZgX (a0:(Arr 4)) (a1:(Arr 4)):Int→Option ((Int) ⊕ (Int))
 | p3=>(if 0≤p3 then (inA (4) (p3)).bindF fun j5=>(if a0.at j5<a1.at j5 then some (.inr ((-1))) else (if a1.at j5<a0.at j5 then some (.inr (1)) else some (.inl (IntKind.i64.wrap (p3-1))))) else (Fref02_Cmp_k1).map Sum.inr)
instance {a0 a1 p3}:Lec (ZgX a0 a1 p3) (ZeY a0 a1 p3):=.mk' (ZgX.eq_1 ..) (ZeY.eq_1 ..)
noncomputable def Zhd (a0:(Arr 4)) (a1:(Arr 4)):Option (Int) :=
 ZkK (ZgX a0 a1) 3
instance {a0 a1}:Lec (Zhd a0 a1) (ZfI a0 a1):=.mk' (Zhd.eq_1 ..) (ZfI.eq_1 ..)
noncomputable def Zgs (a0:(Arr 4)):Option (Bool) :=
 some (decide (a0=zA 4))
instance {a0}:Lec (Zgs a0) (ZcC a0):=.mk' (Zgs.eq_1 ..) (ZcC.eq_1 ..)
noncomputable def ZfK (a0:Int):Option ((Arr 4)) :=
 some ((zA 4).put 0 a0)
instance {a0}:Lec (ZfK a0) (Zbr a0):=.mk' (ZfK.eq_1 ..) (Zbr.eq_1 ..)
noncomputable def Fref02_Len_k1:Option Int :=
 some (0)
instance:Lec (Fref02_Len_k1) (Lref02_Len_k1):=.mk' (Fref02_Len_k1.eq_1 ..) (Lref02_Len_k1.eq_1 ..)
noncomputable def ZgY (a0:(Arr 4)):Int→Option ((Int) ⊕ (Int))
 | p4=>(if 0≤p4 then (Zhc a0 p4).bindF fun y6=>(if y6=true then some (.inr (IntKind.i64.wrap (p4+1))) else some (.inl (IntKind.i64.wrap (p4-1)))) else (Fref02_Len_k1).map Sum.inr)
instance {a0 p4}:Lec (ZgY a0 p4) (Ze1 a0 p4):=.mk' (ZgY.eq_1 ..) (Ze1.eq_1 ..)
noncomputable def Zi3 (a0:(Arr 4)):Option (Int) :=
 ZkK (ZgY a0) 255
instance {a0}:Lec (Zi3 a0) (Zeq a0):=.mk' (Zi3.eq_1 ..) (Zeq.eq_1 ..)
noncomputable def Zdb (p7:(Arr 4)):Option ((Arr 4)×Int) :=
 (Zgs p7).bindF fun y8=>(if y8=true then some ((zA 4,120)) else some ((p7,0)))
instance {p7}:Lec (Zdb p7) (Zay p7):=.mk' (Zdb.eq_1 ..) (Zay.eq_1 ..)
noncomputable def Ze6 (a0:Int):Option ((Arr 4)×Int) :=
 (ZfK (IntKind.u64.wrap (bits .and .u32 a0 16777215))).bindF fun y1=>(if ¬ (bits .and .u32 a0 8388608=0) then some ((zA 4,120)) else (if IntKind.i64.wrap ((a0).fdiv 16777216)<3 then (ZfJ y1 (IntKind.i64.wrap (8 * (IntKind.i64.wrap (3-(IntKind.i64.wrap ((a0).fdiv 16777216))))))).bindF fun y9=>Zdb y9 else (Zgs y1).bindF fun y10=>((if ¬ (y10=true) then (Zi3 y1).bindF fun y11=>some (decide (256<IntKind.i64.wrap (y11+(IntKind.i64.wrap (8 * (IntKind.i64.wrap ((IntKind.i64.wrap ((a0).fdiv 16777216))-3))))))) else some (false))).bindF fun z12=>(if (¬ (y10=true)∧z12=true) then some ((zA 4,120)) else (Zi2 y1 (IntKind.i64.wrap (8 * (IntKind.i64.wrap ((IntKind.i64.wrap ((a0).fdiv 16777216))-3))))).bindF fun y13=>Zdb y13)))
instance {a0}:Lec (Ze6 a0) (Zdm a0):=.mk' (Ze6.eq_1 ..) (Zdm.eq_1 ..)
noncomputable def ZdP (p9:(Arr 4)):Option (Arr 4) :=
 some (p9)
instance {p9}:Lec (ZdP p9) (Zb5 p9):=.mk' (ZdP.eq_1 ..) (Zb5.eq_1 ..)
noncomputable def ZdQ (a0:(Arr 32)):(Int×(Arr 4))→Option ((Int×(Arr 4)) ⊕ ((Arr 4)))
 | (p8,p9)=>(if p8<32 then (inA (4) (IntKind.i64.wrap ((IntKind.i64.wrap (31-p8)).tdiv 8))).bindF fun j13=>(inA (32) (p8)).bindF fun j14=>(chk (¬ (IntKind.i64.wrap (8 * ((IntKind.i64.wrap (31-p8)).tmod 8))<0))).bindF fun _=>some (.inl (IntKind.i64.wrap (p8+1),p9.put j13 (bits .or .u64 (p9.at j13) (IntKind.u64.wrap ((IntKind.u64.wrap (a0.at j14)) * (2 ^ (min (IntKind.i64.wrap (8 * ((IntKind.i64.wrap (31-p8)).tmod 8))).toNat 64))))))) else (ZdP p9).map Sum.inr)
instance {a0 p8 p9}:Lec (ZdQ a0 (p8,p9)) (Zb6 a0 (p8,p9)):=.mk' (ZdQ.eq_1 ..) (Zb6.eq_1 ..)
noncomputable def Zdc (a0:(Arr 32)):Option ((Arr 4)) :=
 ZkK (ZdQ a0) (0,zA 4)
instance {a0}:Lec (Zdc a0) (ZbZ a0):=.mk' (Zdc.eq_1 ..) (ZbZ.eq_1 ..)
end
theorem Zmf (bad:Nat→Prop):∀ n,(∃ i,i<n∧bad i)→∃ m,m<n∧bad m∧∀ j,j<m→¬ bad j:=by
 classical
 intro n;induction n with
 | zero=>rintro ⟨i,h,_⟩; omega
 | succ n ih =>
  intro h;by_cases hx:∃ i,i<n∧bad i
  ·obtain ⟨m,h1,h2,h3⟩:=ih hx
   exact ⟨m,by omega,h2,h3⟩
  ·obtain ⟨i,hi,hb⟩:=h
   have:i=n:=by
    rcases Nat.lt_or_ge i n with h' | h'
    ·exact absurd ⟨i,h',hb⟩ hx
    ·omega
   subst this;exact ⟨i,by omega,hb,fun j hj hb=>hx ⟨j,hj,hb⟩⟩
theorem Znq {σ ρ:Type} {step:σ→Option (σ ⊕ ρ)} (enc:Nat→σ) (n:Nat) (bad:Nat→Prop) (rb x:Option ρ) (h:∀ i,i<n→¬ bad i→step (enc i)=some (.inl (enc (i+1)))) (hb:∀ i,i<n→bad i→step (enc i)=rb.map .inr) (he:step (enc n)=x.map .inr):Zf step (enc 0)=(by classical exact if ∃ i,i<n∧bad i then rb else x):=by
 classical
 by_cases hx:∃ i,i<n∧bad i
 ·rw [if_pos hx]
  obtain ⟨m,hm,hbm,hmin⟩:=Zmf bad n hx;exact Yg enc m (fun i hi=>h i (by omega) (hmin i hi)) (hb m hm hbm)
 ·rw [if_neg hx]
  exact Yg enc n (fun i hi=>h i hi fun hbi=>hx ⟨i,hi,hbi⟩) he
theorem Zqv {σ ρ α:Type} {step:σ→Option (σ ⊕ ρ)} (enc:Nat→σ) (l:List α) (bad:α→Prop) (rb x:Option ρ) (h:∀ i (hi:i<l.length),¬ bad l[i]→step (enc i)=some (.inl (enc (i+1)))) (hb:∀ i (hi:i<l.length),bad l[i]→step (enc i)=rb.map .inr) (he:step (enc l.length)=x.map .inr):Zf step (enc 0)=(by classical exact if ∃ a∈l,bad a then rb else x):=by
 classical
 rw [Znq enc l.length (fun i=>∃ hi:i<l.length,bad l[i]) rb x (fun i hi hn=>h i hi fun hb=>hn ⟨hi,hb⟩) (fun i hi ⟨_,hbi⟩=>hb i hi hbi) he]
 have:(∃ i,i<l.length∧∃ hi:i<l.length,bad l[i])↔∃ a∈l,bad a:=by
  constructor
  ·rintro ⟨i,_,hi,hb⟩
   exact ⟨_,List.getElem_mem hi,hb⟩
  ·rintro ⟨a,ha,hb⟩
   obtain ⟨i,hi,rfl⟩:=List.getElem_of_mem ha;exact ⟨i,hi,hi,hb⟩
 simp only [this]
theorem Zdd {σ ρ α:Type} {step:σ→Option (σ ⊕ ρ)} (enc:Nat→σ) (l:List α) (bad:α→Prop) (rb x:Option ρ) [inst:Decidable (∃ a∈l,bad a)] (h:∀ i (hi:i<l.length),¬ bad l[i]→step (enc i)=some (.inl (enc (i+1)))) (hb:∀ i (hi:i<l.length),bad l[i]→step (enc i)=rb.map .inr) (he:step (enc l.length)=x.map .inr) {s:σ} (hs:s=enc 0):Zf step s=if ∃ a∈l,bad a then rb else x:=by
 subst hs;rw [Zqv enc l bad rb x h hb he];split
 ·rfl
 ·rfl
theorem Zbk {α β:Type} {l:List α} (f:α→List β) {i:Nat} (h:i<l.length):(l.take (i+1)).flatMap f=(l.take i).flatMap f++f l[i]:=by
 rw [List.take_succ_eq_append_getElem h,List.flatMap_append];simp
theorem ZdV {α β:Type} (l:List α) (f:α→List β) (i:Nat):((l.take i).flatMap f).length≤(l.flatMap f).length:=by
 conv=>rhs; rw [← List.take_append_drop i l]
 rw [List.flatMap_append,List.length_append];omega
def YX (n:Int) (k:Nat):List Int:=(List.range k).map fun i=>IntKind.u8.wrap (n.fdiv (2 ^ (8 * i)))
@[simp] theorem Zd2 (n:Int) (k:Nat):(YX n k).length=k:=by simp [YX]
theorem Zop {i:Nat} (h:i<8):min (IntKind.i64.wrap (8 * (i:Int))).toNat 64=8 * i:=by
 rw [wi _ (by omega)];omega
theorem ZjE (n:Int) (k:Nat) (hk:k≤8):XC n k=some (YX n k):=by
 unfold XC;rw [Zg (by omega)]
 have:=Yg (step:=ZbS k n) (fun i=>((i:Int),((List.range i).map fun i=>IntKind.u8.wrap (n.fdiv (2 ^ (8 * i))))++List.replicate (k-i) 0)) k (x:=some (YX n k)) (fun i hi=>by
  simp only [ZbS];rw [if_pos (by omega),Zg (by rw [wi _ (by omega)]; omega),Znm _ _ (by omega),XK hi,Zop (by omega),Zmd (fun i=>IntKind.u8.wrap (n.fdiv (2 ^ (8 * i)))) 0 hi,Yr hi (by omega)]) (by
  simp only [ZbS];rw [if_neg (by omega)]
  simp [Zfc,YX])
 simpa using this
theorem Zfr (n:Int) (k:Nat) (hk:k≤8):YR n k=some (YX n k):=by
 unfold YR;rw [Zg (by omega)]
 have:=Yg (step:=ZbT k n) (fun i=>((i:Int),((List.range i).map fun i=>IntKind.u8.wrap (n.fdiv (2 ^ (8 * i))))++List.replicate (k-i) 0)) k (x:=some (YX n k)) (fun i hi=>by
  simp only [ZbT];rw [if_pos (by simp; omega),Zg (by rw [wi _ (by omega)]; omega),Znm _ _ (by omega),XK hi,Zop (by omega),Zmd (fun i=>IntKind.u8.wrap (n.fdiv (2 ^ (8 * i)))) 0 hi,Yr hi (by omega)]) (by
  simp only [ZbT];rw [if_neg (by simp)]
  simp [Zfd,YX])
 simpa using this
theorem Zcu {a b:List Int} (h:a.length+b.length≤140737488355328):Xi a b=some (a++b):=by
 unfold Xi;rw [wi _ (by omega),Zg (by omega),Zg (by omega),Zg (by omega)]
theorem ZaM {a b:List Int} (h:a.length+b.length≤140737488355328):YQ a b=some (a++b):=by
 unfold YQ;rw [wi _ (by omega),Zg (by omega),Zg (by omega),Zg (by omega)]
section
variable {b:List Int} {n:Int}
theorem ZfL (h:b.length≤140737488355000):YJ b n=some (b++YX (IntKind.u64.wrap n) 4):=by
 unfold YJ;have this:XC (IntKind.u64.wrap n) 4=some (YX (IntKind.u64.wrap n) 4):=ZjE _ 4 (by omega);rw [this,Zb,Zcu (by simp; omega)];rfl
theorem Zqw (h:b.length≤140737488355000):Zar b n=some (b++YX n 8):=by
 unfold Zar;have this:XC n 8=some (YX n 8):=ZjE _ 8 (by omega);rw [this,Zb,Zcu (by simp; omega)];rfl
theorem ZuA (h:b.length≤140737488355000):ZaV b n=some (b++YX (IntKind.u64.wrap n) 2):=by
 unfold ZaV;have this:XC (IntKind.u64.wrap n) 2=some (YX (IntKind.u64.wrap n) 2):=ZjE _ 2 (by omega);rw [this,Zb,Zcu (by simp; omega)];rfl
theorem Zfs (h:b.length≤140737488355000):Xk b n=some (b++YX (IntKind.u64.wrap n) 4):=by
 unfold Xk;have this:YR (IntKind.u64.wrap n) 4=some (YX (IntKind.u64.wrap n) 4):=Zfr _ 4 (by omega);rw [this,Zb,ZaM (by simp; omega)];rfl
theorem ZsV (h:b.length≤140737488355000):ZaW b n=some (b++YX n 8):=by
 unfold ZaW;have this:YR n 8=some (YX n 8):=Zfr _ 8 (by omega);rw [this,Zb,ZaM (by simp; omega)];rfl
def ZaH (n:Int):List Int:=if n<253 then YX n 1 else if n<65536 then 253 :: YX n 2 else if n<4294967296 then 254 :: YX n 4 else 255 :: YX n 8
theorem Zbl (n:Int):(ZaH n).length≤9:=by
 unfold ZaH;split
 ·simp
 ·split
  ·simp
  ·split <;> simp
theorem Zip (h0:0≤n∧n≤18446744073709551615) (h:b.length≤140737488354900):Xm b n=some (b++ZaH n):=by
 unfold Xm ZaH;split
 ·rw [Zcu (by simp; omega)]
  simp [YX]
 ·split
  ·rw [Zcu (by simp; omega),Zb,ZuA (by simp; omega),IntWalk.u16_in _ (by omega),wu _ (by omega)]
   simp
  ·split
   ·rw [Zcu (by simp; omega),Zb,ZfL (by simp; omega),IntWalk.u32_in _ (by omega),wu _ (by omega)]
    simp
   ·rw [Zcu (by simp; omega),Zb,Zqw (by simp; omega)]
    simp
theorem ZhH (h0:0≤n∧n≤18446744073709551615) (h:b.length≤140737488354900):Xn b n=some (b++ZaH n):=by
 have l1:YR n 1=some (YX n 1):=Zfr n 1 (by omega);have l2:YR n 2=some (YX n 2):=Zfr n 2 (by omega);have l4:YR n 4=some (YX n 4):=Zfr n 4 (by omega);have l8:YR n 8=some (YX n 8):=Zfr n 8 (by omega);unfold Xn ZaH;split
 ·rw [l1,Zb,ZaM (by simp; omega)]
  rfl
 ·split
  ·rw [l2,Zb,ZaM (by simp),Zb,ZaM (by simp; omega)]
   rfl
  ·split
   ·rw [l4,Zb,ZaM (by simp),Zb,ZaM (by simp; omega)]
    rfl
   ·rw [l8,Zb,ZaM (by simp),Zb,ZaM (by simp; omega)]
    rfl
end
def bytesB (s:List Int):List Int:=ZaH s.length++s
theorem Zlh (s:List Int):(bytesB s).length≤9+s.length:=by
 have:=Zbl s.length;simp [bytesB]
 omega
theorem ZdH {n:Nat} (h:n≤140737488355328):IntKind.u64.wrap (n:Int)=n:=wu _ (by omega)
theorem Zmg {b s:List Int} (h:b.length+s.length≤140737488354900):XY b s=some (b++bytesB s):=by
 unfold XY;have:=Zbl s.length;rw [ZdH (by omega),Zip (by omega) (by omega),Zb,Zcu (by simp; omega)];simp [bytesB]
theorem Zmh {b s:List Int} (h:b.length+s.length≤140737488354900):XZ b s=some (b++bytesB s):=by
 unfold XZ;have:=Zbl s.length;rw [ZdH (by omega),ZhH (by omega) (by omega),Zb,ZaM (by simp; omega)];simp [bytesB]
theorem ZlF {b:List Int} {a:Arr 32} (h:b.length≤140737488355000):XF b a=some (b++a.l):=by
 unfold XF;rw [Zcu (by rw [a.hl]; omega)];rfl
theorem ZkL {b:List Int} {a:Arr 32} (h:b.length≤140737488355000):XG b a=some (b++a.l):=by
 unfold XG;rw [ZaM (by rw [a.hl]; omega)];rfl
def ZgH (o:Tapi_OutPoint):List Int:=o.1.l++YX (IntKind.u64.wrap o.2) 4
@[simp] theorem Zli (o:Tapi_OutPoint):(ZgH o).length=36:=by simp [ZgH,o.1.hl]
theorem Znr (o:Tapi_OutPoint):ZcS o=some (ZgH o):=by
 unfold ZcS;rw [ZlF (by simp),Zb,ZfL (by simp [o.1.hl])];rfl
theorem Zmi (o:Tapi_OutPoint):Zbf o=some (ZgH o):=by
 unfold Zbf;rw [ZkL (by simp),Zb,Zfs (by simp [o.1.hl])];rfl
def inB (x:Tapi_Input):List Int:=ZgH x.1++YX (IntKind.u64.wrap x.2.1) 4
@[simp] theorem ZsW (x:Tapi_Input):(inB x).length=40:=by simp [inB]
def Zgc (o:Tapi_Output):List Int:=YX (IntKind.u64.wrap o.1) 8++bytesB o.2
def ZjF (x:Tapi_Input):List Int:=ZaH x.2.2.length++x.2.2.flatMap bytesB
def ZhV (t:Tapi_Tx):List Int:=YX (IntKind.u64.wrap t.1) 4++ZaH t.2.1.length
def Zad (t:Tapi_Tx) (w:Bool):List Int:=ZhV t++t.2.1.flatMap inB++ZaH t.2.2.1.length++t.2.2.1.flatMap Zgc++YX (IntKind.u64.wrap t.2.2.2) 4++(if w then t.2.1.flatMap ZjF else [])
def ZaC (t:Tapi_Tx):Nat:=100+(t.2.1.map fun x=>60+(x.2.2.map fun s=>20+s.length).sum).sum+(t.2.2.1.map fun o=>60+o.2.length).sum
theorem Ziq {α β:Type} (f:α→List β) (g:α→Nat) (h:∀ a,(f a).length≤g a) (l:List α):(l.flatMap f).length≤(l.map g).sum:=by
 induction l with
 | nil=>simp
 | cons a l ih =>
  simp only [List.flatMap_cons,List.length_append,List.map_cons,List.sum_cons];have:=h a;omega
theorem Zi4 {α:Type} (g:α→Nat) {l:List α} {a:α} (h:a∈l):g a≤(l.map g).sum:=by
 induction l with
 | nil=>simp at h
 | cons b l ih =>
  simp only [List.map_cons,List.sum_cons];rcases List.mem_cons.1 h with rfl | h
  ·omega
  ·have:=ih h
   omega
theorem ZhI {α:Type} (g:α→Nat) (c:Nat) (h:∀ a,c≤g a) (l:List α):c * l.length≤(l.map g).sum:=by
 induction l with
 | nil=>simp
 | cons a l ih =>
  have:=h a;simp only [List.map_cons,List.sum_cons,List.length_cons,Nat.mul_add];omega
theorem ZsX (x:Tapi_Input):(ZjF x).length≤9+(x.2.2.map fun s=>20+s.length).sum:=by
 have h1:=Zbl x.2.2.length;have h2:=Ziq bytesB (fun s=>20+s.length) (fun s=>by have:=Zlh s; omega) x.2.2;simp only [ZjF,List.length_append];omega
theorem ZsY (o:Tapi_Output):(Zgc o).length≤20+o.2.length:=by
 have:=Zlh o.2;simp only [Zgc,List.length_append,Zd2];omega
section
variable {t:Tapi_Tx} {w:Bool}
def Zd3 (t:Tapi_Tx) (i:Nat):List Int:=ZhV t++(t.2.1.take i).flatMap inB
def Zd4 (t:Tapi_Tx) (i:Nat):List Int:=ZhV t++t.2.1.flatMap inB++ZaH t.2.2.1.length++(t.2.2.1.take i).flatMap Zgc
def Zd5 (t:Tapi_Tx) (i:Nat):List Int:=ZhV t++t.2.1.flatMap inB++ZaH t.2.2.1.length++t.2.2.1.flatMap Zgc++YX (IntKind.u64.wrap t.2.2.2) 4++(t.2.1.take i).flatMap ZjF
theorem ZlG (t:Tapi_Tx):(t.2.1.flatMap inB).length+(t.2.1.flatMap ZjF).length≤(t.2.1.map fun x=>60+(x.2.2.map fun s=>20+s.length).sum).sum:=by
 induction t.2.1 with
 | nil=>simp
 | cons x l ih =>
  have:=ZsX x;simp only [List.flatMap_cons,List.length_append,List.map_cons,List.sum_cons,ZsW];omega
theorem Zns (t:Tapi_Tx):(t.2.2.1.flatMap Zgc).length≤(t.2.2.1.map fun o=>60+o.2.length).sum:=Ziq Zgc _ (fun o=>by have:=ZsY o; omega) _
theorem ZjG (t:Tapi_Tx):(ZhV t).length≤13:=by
 have:=Zbl t.2.1.length;simp only [ZhV,List.length_append,Zd2];omega
theorem ZlH (i:Nat):(Zd3 t i).length+50≤ZaC t:=by
 have h1:=ZjG t;have h2:=ZdV t.2.1 inB i;have h3:=ZlG t;simp only [Zd3,ZaC,List.length_append];omega
theorem Zir (i:Nat):(Zd4 t i).length+50≤ZaC t:=by
 have h1:=ZjG t;have h2:=ZdV t.2.2.1 Zgc i;have h3:=ZlG t;have h4:=Zns t;have h5:=Zbl t.2.2.1.length;simp only [Zd4,ZaC,List.length_append];omega
theorem Zoq (i:Nat):(Zd5 t i).length+50≤ZaC t:=by
 have h1:=ZjG t;have h2:=ZdV t.2.1 ZjF i;have h3:=ZlG t;have h4:=Zns t;have h5:=Zbl t.2.2.1.length;simp only [Zd5,ZaC,List.length_append,Zd2];omega
theorem Zgd (t:Tapi_Tx):t.2.1.length≤ZaC t:=by
 have:=ZhI (fun x:Tapi_Input=>60+(x.2.2.map fun s=>20+s.length).sum) 60 (fun x=>by omega) t.2.1;unfold ZaC;omega
theorem Zmj (t:Tapi_Tx):t.2.2.1.length≤ZaC t:=by
 have:=ZhI (fun o:Tapi_Output=>60+o.2.length) 60 (fun x=>by omega) t.2.2.1;unfold ZaC;omega
theorem Zor {x:Tapi_Input} (h:x∈t.2.1):60+(x.2.2.map fun s=>20+s.length).sum≤ZaC t:=by
 have:=Zi4 (fun x:Tapi_Input=>60+(x.2.2.map fun s=>20+s.length).sum) h;unfold ZaC;omega
theorem Znt {o:Tapi_Output} (h:o∈t.2.2.1):60+o.2.length≤ZaC t:=by
 have:=Zi4 (fun o:Tapi_Output=>60+o.2.length) h;unfold ZaC;omega
theorem ZhW {x:Tapi_Input} (h:x∈t.2.1):x.2.2.length≤ZaC t:=by
 have h1:=Zor h;have:=ZhI (fun s:List Int=>20+s.length) 20 (fun x=>by omega) x.2.2;omega
theorem Znu {x:Tapi_Input} (h:x∈t.2.1) {s:List Int} (hs:s∈x.2.2):20+s.length≤ZaC t:=by
 have h1:=Zor h;have:=Zi4 (fun s:List Int=>20+s.length) hs;omega
end
section
variable {t:Tapi_Tx} {w:Bool}
theorem ZjH {i:Nat} (h:i<t.2.1.length):Zd5 t (i+1)=Zd5 t i++ZaH (t.2.1[i]).2.2.length++(t.2.1[i]).2.2.flatMap bytesB:=by
 simp only [Zd5,Zbk ZjF h,ZjF,List.append_assoc]
theorem Znv {i:Nat} (h:i<t.2.1.length):(Zd5 t i++ZaH (t.2.1[i]).2.2.length).length+((t.2.1[i]).2.2.flatMap bytesB).length+50≤ZaC t:=by
 have:=Zoq (t:=t) (i+1);rw [ZjH h] at this;simp only [List.length_append] at this ⊢;omega
theorem Zos {x:Tapi_Input} {j:Nat} (h:j<x.2.2.length):((x.2.2.take j).flatMap bytesB).length+(bytesB x.2.2[j]).length≤(x.2.2.flatMap bytesB).length:=by
 have:=ZdV x.2.2 bytesB (j+1);rw [Zbk bytesB h] at this;simpa using this
theorem ZsZ (hM:ZaC t≤1000000000000) {i:Nat} (h:i<t.2.1.length) {q:List Int} (hq:q.length+((t.2.1[i]).2.2.flatMap bytesB).length+50≤ZaC t) :
  Zf (Zb7 t.2.1[i] (i:Int)) (0,q)=some (.inl (((i+1:Nat):Int),q++(t.2.1[i]).2.2.flatMap bytesB)):=by
 have hmem:=List.getElem_mem h;have hwl:=ZhW hmem;have hil:=Zgd t;generalize t.2.1[i]=x at hq hmem hwl ⊢
 have:=Yg (step:=Zb7 x (i:Int)) (fun j=>((j:Int),q++(x.2.2.take j).flatMap bytesB)) x.2.2.length (x:=some (.inl (((i+1:Nat):Int),q++x.2.2.flatMap bytesB))) (fun j hj=>by
  simp only [Zb7];have h1:=Zos hj;have h2:=Znu hmem (List.getElem_mem hj);rw [if_pos (by omega),Zt hj,Zmg (by simp; omega),Zb,Zg (by simp only [List.length_append,List.nil_append]; omega),Yr hj (by omega),Zbk bytesB hj];simp) (by
  simp only [Zb7];rw [if_neg (by omega)]
  simp only [ZgP,List.take_length,Yr h (by omega)])
 simpa using this
theorem Zv9 (hM:ZaC t≤1000000000000):ZeU t (Zd4 t t.2.2.1.length) w=some (Zad t w):=by
 have hil:=Zgd t;have h2:=Zir (t:=t) t.2.2.1.length;unfold ZeU;rw [ZfL (by simp),Zb,Zg (by simp; omega)];have he:Zd4 t t.2.2.1.length++([]++YX (IntKind.u64.wrap t.2.2.2) 4)=Zd5 t 0:=by simp [Zd4,Zd5]
 rw [he];cases w with
 | false=>simp [Zad,Zd5]
 | true =>
  rw [if_neg (by simp)]
  have:=Yg (step:=Zdf t) (fun i=>((i:Int),Zd5 t i)) t.2.1.length (x:=some (Zad t true)) (fun i hi=>by
   have h3:=Znv hi;have h5:=ZhW (List.getElem_mem hi);simp only [Zdf];rw [if_pos (by omega),Zt hi,ZdH (by omega),Zip (by omega) (by simp),Zb,Zg (by simp only [List.length_append,List.nil_append] at h3 ⊢; omega),List.nil_append,ZsZ hM hi h3,ZjH hi]) (by
   simp only [Zdf];rw [if_neg (by omega)]
   simp [ZgO,Zd5,Zad])
  simpa using this
theorem Zmk {i:Nat} (h:i<t.2.2.1.length):Zd4 t (i+1)=Zd4 t i++YX (IntKind.u64.wrap (t.2.2.1[i]).1) 8++bytesB (t.2.2.1[i]).2:=by
 simp only [Zd4,Zbk Zgc h,Zgc,List.append_assoc]
theorem Zwa (hM:ZaC t≤1000000000000):ZeV t (Zd3 t t.2.1.length) w=some (Zad t w):=by
 have hol:=Zmj t;have h2:=Zir (t:=t) 0;have h1:=Zbl t.2.2.1.length;have he:Zd3 t t.2.1.length++ZaH t.2.2.1.length=Zd4 t 0:=by simp [Zd3,Zd4]
 unfold ZeV;rw [ZdH (by omega),Zip (by omega) (by simp),Zb,List.nil_append,Zg (by rw [← List.length_append,he]; omega),he]
 have:=Yg (step:=Zdg t w) (fun i=>((i:Int),Zd4 t i)) t.2.2.1.length (x:=some (Zad t w)) (fun i hi=>by
  have h3:=Zir (t:=t) (i+1);have h4:=Znt (List.getElem_mem hi);rw [Zmk hi] at h3 ⊢;simp only [List.length_append,Zd2] at h3;simp only [Zdg];rw [if_pos (by omega),Zt hi,Zqw (by simp),Zb,Zg (by simp; omega),Zmg (by simp; omega),Zb,Zg (by simp; omega),Yr hi (by omega)];simp) (by
  simp only [Zdg]
  rw [if_neg (by omega),Zv9 hM])
 simpa using this
theorem Zml {i:Nat} (h:i<t.2.1.length):Zd3 t (i+1)=Zd3 t i++ZgH (t.2.1[i]).1++YX (IntKind.u64.wrap (t.2.1[i]).2.1) 4:=by
 simp only [Zd3,Zbk inB h,inB,List.append_assoc]
theorem Zmm (hM:ZaC t≤1000000000000):Zc0 t w=some (Zad t w):=by
 have hil:=Zgd t;have h1:=Zbl t.2.1.length;have he:YX (IntKind.u64.wrap t.1) 4++ZaH t.2.1.length=Zd3 t 0:=by simp [Zd3,ZhV]
 unfold Zc0;rw [ZfL (by simp),Zb,ZdH (by omega),Zip (by omega) (by simp),Zb,List.nil_append,List.nil_append,Zg (by simp; omega),he]
 have:=Yg (step:=Zdh t w) (fun i=>((i:Int),Zd3 t i)) t.2.1.length (x:=some (Zad t w)) (fun i hi=>by
  have h3:=ZlH (t:=t) (i+1);rw [Zml hi] at h3 ⊢;simp only [List.length_append,Zd2,Zli] at h3;simp only [Zdh];rw [if_pos (by omega),Zt hi,Znr,Zb,Zg (by simp; omega),ZfL (by simp),Zb,Zg (by simp; omega),Yr hi (by omega)];simp) (by
  simp only [Zdh]
  rw [if_neg (by omega),Zwa hM])
 simpa using this
theorem Zs0 {o:Tapi_Output} (h:o.2.length≤140737488354000):Zei o=some (Zgc o):=by
 unfold Zei;rw [ZsV (by simp),Zb,Zmh (by simp; omega)];rfl
theorem ZrH (hM:ZaC t≤1000000000000) {i:Nat} (h:i<t.2.1.length) {q:List Int} (hq:q.length+((t.2.1[i]).2.2.flatMap bytesB).length+50≤ZaC t) :
  Zf (ZaX t.2.1[i] (i:Int)) (0,q)=some (.inl (((i+1:Nat):Int),q++(t.2.1[i]).2.2.flatMap bytesB)):=by
 have hmem:=List.getElem_mem h;have hwl:=ZhW hmem;have hil:=Zgd t;generalize t.2.1[i]=x at hq hmem hwl ⊢
 have:=Yg (step:=ZaX x (i:Int)) (fun j=>((j:Int),q++(x.2.2.take j).flatMap bytesB)) x.2.2.length (x:=some (.inl (((i+1:Nat):Int),q++x.2.2.flatMap bytesB))) (fun j hj=>by
  simp only [ZaX];have h1:=Zos hj;have h2:=Znu hmem (List.getElem_mem hj);rw [if_pos (by omega),Zt hj,Zmh (by simp only [List.length_append]; omega),Zb,Yr hj (by omega),Zbk bytesB hj];simp) (by
  simp only [ZaX];rw [if_neg (by omega)]
  simp only [Zfe,List.take_length,Yr h (by omega)])
 simpa using this
theorem ZuB (hM:ZaC t≤1000000000000):Zc1 (Zd4 t t.2.2.1.length) t w=some (Zad t w):=by
 have hil:=Zgd t;have h2:=Zir (t:=t) t.2.2.1.length;unfold Zc1;rw [Zfs (by omega),Zb];have he:Zd4 t t.2.2.1.length++YX (IntKind.u64.wrap t.2.2.2) 4=Zd5 t 0:=by simp [Zd4,Zd5]
 rw [he];cases w with
 | false =>
  by_cases h0:(0:Int)<t.2.1.length
  ·refine Yv ?_
   simp only [Zas];rw [if_pos h0,show (0:Int)=((0:Nat):Int) from rfl,Zt (by omega)];simp [X0,Zad,Zd5]
  ·refine Yv ?_
   simp only [Zas];rw [if_neg h0];simp [X0,Zad,Zd5]
 | true =>
  have:=Yg (step:=Zas t true) (fun i=>((i:Int),Zd5 t i)) t.2.1.length (x:=some (Zad t true)) (fun i hi=>by
   have h3:=Znv hi;have h4:=Zoq (t:=t) i;have h5:=ZhW (List.getElem_mem hi);simp only [Zas];rw [if_pos (by omega),Zt hi,if_neg (by simp),ZdH (by omega),ZhH (by omega) (by omega),Zb,ZrH hM hi h3,ZjH hi]) (by
   simp only [Zas];rw [if_neg (by omega)]
   simp [X0,Zd5,Zad])
  simpa using this
theorem ZuC (hM:ZaC t≤1000000000000):Zc2 (Zd3 t t.2.1.length) t w=some (Zad t w):=by
 have hol:=Zmj t;have h0:=ZlH (t:=t) t.2.1.length;have he:Zd3 t t.2.1.length++ZaH t.2.2.1.length=Zd4 t 0:=by simp [Zd3,Zd4]
 unfold Zc2;rw [ZdH (by omega),ZhH (by omega) (by omega),Zb,he]
 have:=Yg (step:=ZbU t w) (fun i=>((i:Int),Zd4 t i)) t.2.2.1.length (x:=some (Zad t w)) (fun i hi=>by
  have h3:=Zir (t:=t) (i+1);have h4:=Znt (List.getElem_mem hi);rw [Zmk hi] at h3 ⊢;simp only [List.length_append,Zd2] at h3;simp only [ZbU];rw [if_pos (by omega),Zt hi,Zs0 (by omega),Zb,Zg (by simp only [Zgc,List.length_append,Zd2]; omega),Yr hi (by omega)];simp [Zgc]) (by
  simp only [ZbU]
  rw [if_neg (by omega),ZuB hM])
 simpa using this
theorem Zlj (hM:ZaC t≤1000000000000):Zbt t w=some (Zad t w):=by
 have hil:=Zgd t;have he:YX (IntKind.u64.wrap t.1) 4++ZaH t.2.1.length=Zd3 t 0:=by simp [Zd3,ZhV]
 unfold Zbt;rw [Zfs (by simp),Zb,ZdH (by omega),ZhH (by omega) (by simp),Zb,List.nil_append,he]
 have:=Yg (step:=ZbV t w) (fun i=>((i:Int),Zd3 t i)) t.2.1.length (x:=some (Zad t w)) (fun i hi=>by
  have h3:=ZlH (t:=t) (i+1);rw [Zml hi] at h3 ⊢;simp only [List.length_append,Zd2,Zli] at h3;simp only [ZbV];rw [if_pos (by omega),Zt hi,Zmi,Zb,Zg (by simp; omega),Zfs (by simp; omega),Zb,Yr hi (by omega)]) (by
  simp only [ZbV]
  rw [if_neg (by omega),ZuC hM])
 simpa using this
def Zh6 (t:Tapi_Tx):Prop:=t.2.1.length≤64∧t.2.2.1.length≤64∧(∀ o∈t.2.2.1,0≤o.1∧o.2.length≤520)∧∀ x∈t.2.1,x.2.2.length≤32∧∀ s∈x.2.2,s.length≤520
noncomputable def Zap (t:Tapi_Tx):Bool:=by classical exact decide (Zh6 t∧(Zad t true).length≤20000)
theorem ZhJ {α:Type} (g:α→Nat) (c:Nat) {l:List α} (h:∀ a∈l,g a≤c):(l.map g).sum≤c * l.length:=by
 induction l with
 | nil=>simp
 | cons a l ih =>
  have h1:=h a (by simp);have h2:=ih fun b hb=>h b (by simp [hb])
  simp only [List.map_cons,List.sum_cons,List.length_cons,Nat.mul_add];omega
theorem Zpt (h:Zh6 t):ZaC t≤3000000:=by
 obtain ⟨h1,h2,h3,h4⟩:=h
 have e1:=ZhJ (fun x:Tapi_Input=>60+(x.2.2.map fun s=>20+s.length).sum) 20000 (l:=t.2.1) (fun x hx=>by
  obtain ⟨g1,g2⟩:=h4 x hx;have:=ZhJ (fun s:List Int=>20+s.length) 540 (l:=x.2.2) (fun s hs=>by have:=g2 s hs; omega);have:=Nat.mul_le_mul_left 540 g1
  omega)
 have e2:=ZhJ (fun o:Tapi_Output=>60+o.2.length) 600 (l:=t.2.2.1) (fun o ho=>by have:=(h3 o ho).2; omega);have:=Nat.mul_le_mul_left 20000 h1;have:=Nat.mul_le_mul_left 600 h2;unfold ZaC;omega
theorem Znw (h:Zap t=true):ZaC t≤1000000000000:=by
 classical
 unfold Zap at h;simp only [decide_eq_true_eq] at h;have:=Zpt h.1;omega
end
section
theorem Znx {x:Tapi_Input} {i n:Nat} (hi:i<n) (hn:n≤64) (hw:x.2.2.length≤32):Zf (Zcz x (i:Int)) 0=(if ∃ s∈x.2.2,520<s.length then some (.inr false) else some (.inl ((i+1:Nat):Int))):=by
 refine Zdd (step:=Zcz x (i:Int)) (fun j=>(j:Int)) x.2.2 (fun s=>520<s.length) (some (.inr false)) (some (.inl ((i+1:Nat):Int))) (fun j hj hb=>?_) (fun j hj hb=>?_) ?_ rfl
 ·simp only [Zcz]
  rw [if_pos (by omega),Zt hj,if_neg (by omega),Yr hj (by omega)]
 ·simp only [Zcz]
  rw [if_pos (by omega),Zt hj,if_pos (by omega)];rfl
 ·simp only [Zcz]
  rw [if_neg (by omega)];simp only [Zh4,Yr hi (by omega)]
theorem Zs1 (t:Tapi_Tx):ZfZ t=some (Zap t):=by
 classical
 unfold ZfZ Zap;by_cases h0:64<t.2.1.length∨64<t.2.2.1.length
 ·rw [if_pos (by omega)]
  have:¬ Zh6 t:=fun h=>by have:=h.1; have:=h.2.1; omega
  simp [this]
 ·rw [if_neg (by omega)]
  have h1:=Zdd (step:=Zdu t) (fun i=>(i:Int)) t.2.2.1 (fun o=>o.1<0∨520<o.2.length) (some false) (Zgo t) (fun i hi hb=>by
   simp only [Zdu];rw [if_pos (by omega),Zt hi,if_neg (by omega),Yr hi (by omega)]) (fun i hi hb=>by
   simp only [Zdu];rw [if_pos (by omega),Zt hi,if_pos (by omega)];rfl) (by
   simp only [Zdu]
   rw [if_neg (by omega)]) (s:=0) rfl
  rw [h1];by_cases hb1:∃ o∈t.2.2.1,o.1<0∨520<o.2.length
  ·rw [if_pos hb1]
   obtain ⟨o,ho,hb⟩:=hb1;have:¬ Zh6 t:=fun h=>by have:=h.2.2.1 o ho; omega
   simp [this]
  ·rw [if_neg hb1]
   unfold Zgo
   have h2:=Zdd (step:=Zdt t) (fun i=>(i:Int)) t.2.1 (fun x=>32<x.2.2.length∨∃ s∈x.2.2,520<s.length) (some false) (Zgn t) (fun i hi hb=>by
    have h3:¬ 32<(t.2.1[i]).2.2.length:=fun h=>hb (.inl h)
    have h4:¬ ∃ s∈(t.2.1[i]).2.2,520<s.length:=fun h=>hb (.inr h)
    simp only [Zdt];rw [if_pos (by omega),Zt hi,if_neg (by omega),Znx hi (by omega) (by omega),if_neg h4]) (fun i hi hb=>by
    simp only [Zdt];rw [if_pos (by omega),Zt hi];by_cases h3:32<(t.2.1[i]).2.2.length
    ·rw [if_pos (by omega)]
     rfl
    ·rw [if_neg (by omega),Znx hi (by omega) (by omega),if_pos (hb.resolve_left h3)]
     rfl) (by
    simp only [Zdt]
    rw [if_neg (by omega)]) (s:=0) rfl
   rw [h2];by_cases hb2:∃ x∈t.2.1,32<x.2.2.length∨∃ s∈x.2.2,520<s.length
   ·rw [if_pos hb2]
    obtain ⟨x,hx,hb⟩:=hb2
    have:¬ Zh6 t:=fun h=>by
     obtain ⟨g1,g2⟩:=h.2.2.2 x hx;rcases hb with hb | ⟨s,hs,hb⟩
     ·omega
     ·have:=g2 s hs; omega
    simp [this]
   ·rw [if_neg hb2]
    have hlim:Zh6 t:=by
     refine ⟨by omega,by omega,fun o ho=>?_,fun x hx=>⟨?_,fun s hs=>?_⟩⟩
     ·have:¬ (o.1<0∨520<o.2.length):=fun h=>hb1 ⟨o,ho,h⟩
      omega
     ·have:¬ 32<x.2.2.length:=fun h=>hb2 ⟨x,hx,.inl h⟩
      omega
     ·have:¬ 520<s.length:=fun h=>hb2 ⟨x,hx,.inr ⟨s,hs,h⟩⟩
      omega
    unfold Zgn;rw [Zmm (by have:=Zpt hlim; omega),Zb];have e:(((Zad t true).length:Int)≤20000)↔((Zad t true).length≤20000):=by omega
    simp [hlim,e]
theorem Zmn {x:Tapi_Input} {i n:Nat} (hi:i<n) (hn:n≤64) (hw:x.2.2.length≤32):Zf (ZaY x (i:Int)) 0=(if ∃ s∈x.2.2,520<s.length then some (.inr false) else some (.inl ((i+1:Nat):Int))):=by
 refine Zdd (step:=ZaY x (i:Int)) (fun j=>(j:Int)) x.2.2 (fun s=>520<s.length) (some (.inr false)) (some (.inl ((i+1:Nat):Int))) (fun j hj hb=>?_) (fun j hj hb=>?_) ?_ rfl
 ·simp only [ZaY]
  rw [if_pos (by omega),Zt hj,if_neg (by omega),Yr hj (by omega)]
 ·simp only [ZaY]
  rw [if_pos (by omega),Zt hj,if_pos (by omega)];rfl
 ·simp only [ZaY]
  rw [if_neg (by omega)];simp only [Zf0,Yr hi (by omega)]
theorem ZhK (t:Tapi_Tx):ZcA t=some (Zap t):=by
 classical
 unfold ZcA Zap;by_cases h0:64<t.2.1.length∨64<t.2.2.1.length
 ·rw [if_pos (by omega)]
  have:¬ Zh6 t:=fun h=>by have:=h.1; have:=h.2.1; omega
  simp [this]
 ·rw [if_neg (by omega)]
  have h1:=Zdd (step:=ZbN t) (fun i=>(i:Int)) t.2.2.1 (fun o=>o.1<0∨520<o.2.length) (some false) (Zek t) (fun i hi hb=>by
   simp only [ZbN];rw [if_pos (by omega),Zt hi,if_neg (by omega),Yr hi (by omega)]) (fun i hi hb=>by
   simp only [ZbN];rw [if_pos (by omega),Zt hi,if_pos (by omega)];rfl) (by
   simp only [ZbN]
   rw [if_neg (by omega)]) (s:=0) rfl
  rw [h1];by_cases hb1:∃ o∈t.2.2.1,o.1<0∨520<o.2.length
  ·rw [if_pos hb1]
   obtain ⟨o,ho,hb⟩:=hb1;have:¬ Zh6 t:=fun h=>by have:=h.2.2.1 o ho; omega
   simp [this]
  ·rw [if_neg hb1]
   unfold Zek
   have h2:=Zdd (step:=ZbM t) (fun i=>(i:Int)) t.2.1 (fun x=>32<x.2.2.length∨∃ s∈x.2.2,520<s.length) (some false) (Zej t) (fun i hi hb=>by
    have h3:¬ 32<(t.2.1[i]).2.2.length:=fun h=>hb (.inl h)
    have h4:¬ ∃ s∈(t.2.1[i]).2.2,520<s.length:=fun h=>hb (.inr h)
    simp only [ZbM];rw [if_pos (by omega),Zt hi,if_neg (by omega),Zmn hi (by omega) (by omega),if_neg h4]) (fun i hi hb=>by
    simp only [ZbM];rw [if_pos (by omega),Zt hi];by_cases h3:32<(t.2.1[i]).2.2.length
    ·rw [if_pos (by omega)]
     rfl
    ·rw [if_neg (by omega),Zmn hi (by omega) (by omega),if_pos (hb.resolve_left h3)]
     rfl) (by
    simp only [ZbM]
    rw [if_neg (by omega)]) (s:=0) rfl
   rw [h2];by_cases hb2:∃ x∈t.2.1,32<x.2.2.length∨∃ s∈x.2.2,520<s.length
   ·rw [if_pos hb2]
    obtain ⟨x,hx,hb⟩:=hb2
    have:¬ Zh6 t:=fun h=>by
     obtain ⟨g1,g2⟩:=h.2.2.2 x hx;rcases hb with hb | ⟨s,hs,hb⟩
     ·omega
     ·have:=g2 s hs; omega
    simp [this]
   ·rw [if_neg hb2]
    have hlim:Zh6 t:=by
     refine ⟨by omega,by omega,fun o ho=>?_,fun x hx=>⟨?_,fun s hs=>?_⟩⟩
     ·have:¬ (o.1<0∨520<o.2.length):=fun h=>hb1 ⟨o,ho,h⟩
      omega
     ·have:¬ 32<x.2.2.length:=fun h=>hb2 ⟨x,hx,.inl h⟩
      omega
     ·have:¬ 520<s.length:=fun h=>hb2 ⟨x,hx,.inr ⟨s,hs,h⟩⟩
      omega
    unfold Zej;rw [Zlj (by have:=Zpt hlim; omega),Zb];have e:(((Zad t true).length:Int)≤20000)↔((Zad t true).length≤20000):=by omega
    simp [hlim,e]
end
def Nx {σ ρ:Type} (I:Nat→σ→Prop) (Q:ρ→Prop) (n:Nat):σ ⊕ ρ→Prop
 | .inl s=>∃ j,j<n∧I j s
 | .inr r=>Q r
theorem Tot.out {σ ρ:Type} {I:Nat→σ→Prop} {Q:ρ→Prop} {n:Nat} {x:Option ρ} (h:Tot x Q):Tot (x.map .inr) (Nx I Q n):=by
 obtain ⟨r,rfl,h⟩:=h;exact ⟨_,rfl,h⟩
end Go.Lc
