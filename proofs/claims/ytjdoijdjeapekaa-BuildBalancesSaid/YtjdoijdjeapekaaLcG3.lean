import Derived.Test.YtjdoijdjeapekaaLcG2
import Derived.Test.YtjdoijdjeapekaaLcG1
import Derived.Test.YtjdoijdjeapekaaAvP3
import Derived.IntWalk
section
namespace Go.Lc
open Go.RowKit
open Go.Av
set_option maxRecDepth 100000
set_option linter.unusedSimpArgs false
set_option linter.unusedVariables false
end Go.Lc
end
section
namespace Go.Lc
open Go.RowKit
open Go.Av
set_option maxRecDepth 100000
set_option linter.unusedSimpArgs false
set_option linter.unusedVariables false
end Go.Lc
end
section
namespace Go.Lc
open Go.RowKit
open Go.Av
set_option maxRecDepth 100000
set_option linter.unusedSimpArgs false
set_option linter.unusedVariables false
end Go.Lc
end
section
namespace Go.Lc
open Go.RowKit
open Go.Av
set_option maxRecDepth 100000
set_option linter.unusedSimpArgs false
set_option linter.unusedVariables false
end Go.Lc
end
section
namespace Go.Lc
open Go.RowKit
open Go.Av
set_option maxRecDepth 100000
set_option linter.unusedSimpArgs false
set_option linter.unusedVariables false
abbrev Tselection_certificate:=(List Int)×Int×Int×(List Int)
abbrev Tapi_Selection:=(List Int)×Int
abbrev Tselection_search:=(List Int)×Int×(List Int)×Tapi_Selection
noncomputable def Lmill_Outputs_k1 (p14 : (List Tapi_Output)) (p13 : Tlightclientmill_Deck) : Option ((List Tapi_Output)×Tlightclientmill_Deck) :=
 some ((p14,p13))
noncomputable def Lmill_Outputs_s1 : (Int×Tlightclientmill_Deck×(List Tapi_Output))→Option ((Int×Tlightclientmill_Deck×(List Tapi_Output)) ⊕ ((List Tapi_Output)×Tlightclientmill_Deck))
 | (p12,p13,p14)=>(if 0 < p12 then (Lmill_Deck_Next p13 2000).bind fun y19=>(Lmill_Deck_Next y19.2 6).bind fun y20=>(Lmade_Script (IntKind.u8.wrap (y20.1))).bind fun y21=>(chk (p14.length + 1≤4398046511104)).bind fun _=>some (.inl (IntKind.i64.wrap (p12 - 1),y20.2,p14++[(IntKind.i64.wrap (300 + y19.1),y21)])) else (Lmill_Outputs_k1 p14 p13).map Sum.inr)
noncomputable def Lmill_Outputs (a0 : Tlightclientmill_Deck) (a1 : Int) : Option ((List Tapi_Output)×Tlightclientmill_Deck) :=
 (Lmill_Deck_Range a0 1 a1).bind fun y1=>runLoop (Lmill_Outputs_s1) (y1.1,y1.2,[])
noncomputable def Llaw34_change (a0 : Int) : Option ((List Int)) :=
 (Lmill_Mod a0 3).bind fun y1=>(if y1 = 0 then some (([] : (List Int))) else (Lmill_Mod a0 6).bind fun y2=>(Lmade_Script (IntKind.u8.wrap (y2))).bind fun y3=>some (y3))
noncomputable def Lbuild_checkOutputs_k2 : Option Int :=
 some (0)
noncomputable def Lbuild_checkOutputs_s2 (a0 : (List Tapi_Output)) : (Int×Int)→Option ((Int×Int) ⊕ (Int))
 | (p10,p11)=>(if p11 < (a0.length : Int) then (idx (a0) (p11)).bind fun x13=>(if IntKind.i64.wrap (2100000000000000 - p10) < x13.1 then some (.inr (90)) else some (.inl (IntKind.i64.wrap (p10 + x13.1),IntKind.i64.wrap (p11 + 1)))) else (Lbuild_checkOutputs_k2).map Sum.inr)
noncomputable def Lbuild_checkOutputs_k1 (a1 : (List Int)) (a0 : (List Tapi_Output)) : Option Int :=
 (if (252 < (a1.length : Int)∨63 < (a0.length : Int)) then some (4) else runLoop (Lbuild_checkOutputs_s2 a0) (0,0))
noncomputable def Lbuild_checkOutputs_s1 (a0 : (List Tapi_Output)) (a1 : (List Int)) : Int→Option ((Int) ⊕ (Int))
 | p4=>(if p4 < (a0.length : Int) then (idx (a0) (p4)).bind fun x14=>(if x14.1 < 300 then some (.inr (340)) else some (.inl (IntKind.i64.wrap (p4 + 1)))) else (Lbuild_checkOutputs_k1 a1 a0).map Sum.inr)
noncomputable def Lbuild_checkOutputs (a0 : (List Tapi_Output)) (a1 : (List Int)) : Option (Int) :=
 (if (a0.length : Int) = 0 then some (93) else runLoop (Lbuild_checkOutputs_s1 a0 a1) 0)
noncomputable def Lbuild_null (a0 : Tapi_OutPoint) : Option (Bool) :=
 some ((decide (a0.1 = zA 32) && decide (a0.2 = 4294967295)))
noncomputable def Lbuild_check_k3 : Option Int :=
 some (0)
noncomputable def Lbuild_check_s3 (a0 : (List Tapi_Spendable)) : (Int×(List (Tapi_OutPoint×Bool)))→Option ((Int×(List (Tapi_OutPoint×Bool))) ⊕ (Int))
 | (p19,p20)=>(if p19 < (a0.length : Int) then (idx (a0) (p19)).bind fun x22=>(if (mget x22.1.1 p20).getD false = true then some (.inr (91)) else some (.inl (IntKind.i64.wrap (p19 + 1),mput x22.1.1 true p20))) else (Lbuild_check_k3).map Sum.inr)
noncomputable def Lbuild_check_k2 (a0 : (List Tapi_Spendable)) : Option Int :=
 runLoop (Lbuild_check_s3 a0) (0,([] : (List (Tapi_OutPoint×Bool))))
noncomputable def Lbuild_check_s2 (a0 : (List Tapi_Spendable)) : Int→Option ((Int) ⊕ (Int))
 | p12=>(if p12 < (a0.length : Int) then (idx (a0) (p12)).bind fun x23=>(Lbuild_null x23.1.1).bind fun y24=>(if y24 = true then some (.inr (92)) else some (.inl (IntKind.i64.wrap (p12 + 1)))) else (Lbuild_check_k2 a0).map Sum.inr)
noncomputable def Lbuild_check_k1 (a1 : (List Tapi_Output)) (a2 : (List Int)) (a0 : (List Tapi_Spendable)) : Option Int :=
 (Lbuild_checkOutputs a1 a2).bind fun y6=>(if ¬ (y6 = 0) then some (y6) else runLoop (Lbuild_check_s2 a0) 0)
noncomputable def Lbuild_check_s1 (a0 : (List Tapi_Spendable)) (a1 : (List Tapi_Output)) (a2 : (List Int)) : Int→Option ((Int) ⊕ (Int))
 | p4=>(if p4 < (a0.length : Int) then (idx (a0) (p4)).bind fun x25=>(if (((x25.1.2.1.1 < 0∨2100000000000000 < x25.1.2.1.1)∨x25.2 < 0)∨4000 < x25.2) then some (.inr (5)) else some (.inl (IntKind.i64.wrap (p4 + 1)))) else (Lbuild_check_k1 a1 a2 a0).map Sum.inr)
noncomputable def Lbuild_check (a0 : (List Tapi_Spendable)) (a1 : (List Tapi_Output)) (a2 : (List Int)) (a3 : Int) : Option (Int) :=
 (if (a3 < 0∨1048576 < a3) then some (5) else runLoop (Lbuild_check_s1 a0 a1 a2) 0)
noncomputable def Lselection_check_k1 (a1 : Int) : Option Int :=
 (if (a1 < 1∨2100000000000000 < a1) then some (5) else some (0))
noncomputable def Lselection_check_s1 (a0 : (List Int)) (a1 : Int) : Int→Option ((Int) ⊕ (Int))
 | p4=>(if p4 < (a0.length : Int) then (idx (a0) (p4)).bind fun x6=>(if (x6 < 1∨2100000000000000 < x6) then some (.inr (5)) else some (.inl (IntKind.i64.wrap (p4 + 1)))) else (Lselection_check_k1 a1).map Sum.inr)
noncomputable def Lselection_check (a0 : (List Int)) (a1 : Int) : Option (Int) :=
 (if 16 < (a0.length : Int) then some (4) else runLoop (Lselection_check_s1 a0 a1) 0)
noncomputable def Lselection_total_k1 (p5 : Int) : Option Int :=
 some (p5)
noncomputable def Lselection_total_s1 (a0 : (List Int)) : (Int×Int)→Option ((Int×Int) ⊕ (Int))
 | (p5,p6)=>(if p6 < (a0.length : Int) then (idx (a0) (p6)).bind fun x8=>some (.inl (IntKind.i64.wrap (p5 + x8),IntKind.i64.wrap (p6 + 1))) else (Lselection_total_k1 p5).map Sum.inr)
noncomputable def Lselection_total (a0 : (List Int)) : Option (Int) :=
 runLoop (Lselection_total_s1 a0) (0,0)
noncomputable def Lslices_Clone_of__int_int (a0 : (List Int)) : Option (List Int) :=
 (chk (a0.length≤17592186044416)).bind fun _=>some (a0)
noncomputable def Lselection_search_visit_k1 (a0 : Tselection_search) (p2 : (List Int)) (p3 : Int) : Option Tselection_search :=
 some ((a0.1,a0.2.1,a0.2.2.1,(p2,p3)))
noncomputable def Lselection_search_visit_b (rf : Tselection_search→Int→Int→Option (Tselection_search)) (a0 : Tselection_search) (a1 : Int) (a2 : Int) : Option (Tselection_search) :=
 (if a0.2.1≤a2 then (if ((a0.2.2.2.1.length : Int) = 0∨a2 < a0.2.2.2.2) then (Lslices_Clone_of__int_int a0.2.2.1).bind fun y4=>Lselection_search_visit_k1 a0 y4 a2 else Lselection_search_visit_k1 a0 a0.2.2.2.1 a0.2.2.2.2) else (if a1 = (a0.1.length : Int) then some ((a0.1,a0.2.1,a0.2.2.1,(a0.2.2.2.1,a0.2.2.2.2))) else (chk (a0.2.2.1.length + 1≤17592186044416)).bind fun _=>(idx (a0.1) (a1)).bind fun x6=>(rf (a0.1,a0.2.1,a0.2.2.1++[a1],(a0.2.2.2.1,a0.2.2.2.2)) (IntKind.i64.wrap (a1 + 1)) (IntKind.i64.wrap (a2 + x6))).bind fun y7=>(chk (IntKind.i64.wrap ((y7.2.2.1.length : Int) - 1)≤(y7.2.2.1.length : Int)∧0≤IntKind.i64.wrap ((y7.2.2.1.length : Int) - 1))).bind fun _=>(rf (y7.1,y7.2.1,(y7.2.2.1).take (IntKind.i64.wrap ((y7.2.2.1.length : Int) - 1)).toNat,(y7.2.2.2.1,y7.2.2.2.2)) (IntKind.i64.wrap (a1 + 1)) a2).bind fun y9=>some ((y9.1,y9.2.1,y9.2.2.1,(y9.2.2.2.1,y9.2.2.2.2)))))
noncomputable def Lselection_search_visit_n : Nat→Tselection_search→Int→Int→Option (Tselection_search)
 | 0,_,_,_=>none
 | n + 1,a0,a1,a2=>Lselection_search_visit_b (Lselection_search_visit_n n) a0 a1 a2
noncomputable def Lselection_search_visit (a0 : Tselection_search) (a1 : Int) (a2 : Int) : Option (Tselection_search):=fixN fun n=>Lselection_search_visit_n n a0 a1 a2
noncomputable def Lselection_certificate_ends (a0 : Tselection_certificate) (a1 : Int) (a2 : Int) : Option (Bool×Tselection_certificate) :=
 ((if a0.2.2.1≤a2 then some (false) else (chk (0≤a1∧a1≤(a0.1.length : Int))).bind fun _=>(Lselection_total ((a0.1).drop ((a1).toNat))).bind fun y2=>some (decide (IntKind.i64.wrap (a2 + y2) < a0.2.1)))).bind fun z3=>some (((decide (a0.2.2.1≤a2) || z3),(a0.1,a0.2.1,a0.2.2.1,a0.2.2.2)))
noncomputable def Lselection_certificate_branch_b (rf : Tselection_certificate→Int→Int→Option (Tselection_certificate)) (a0 : Tselection_certificate) (a1 : Int) (a2 : Int) : Option (Tselection_certificate) :=
 (if 16384 < (a0.2.2.2.length : Int) then some ((a0.1,a0.2.1,a0.2.2.1,a0.2.2.2)) else (Lselection_certificate_ends (a0.1,a0.2.1,a0.2.2.1,a0.2.2.2) a1 a2).bind fun y1=>(if (y1.1 = true∨a1 = (y1.2.1.length : Int)) then (chk (y1.2.2.2.2.length + 1≤140737488355328)).bind fun _=>some ((y1.2.1,y1.2.2.1,y1.2.2.2.1,y1.2.2.2.2++[2])) else (chk (y1.2.2.2.2.length + 1≤140737488355328)).bind fun _=>(idx (y1.2.1) (a1)).bind fun x4=>(rf (y1.2.1,y1.2.2.1,y1.2.2.2.1,y1.2.2.2.2++[1]) (IntKind.i64.wrap (a1 + 1)) (IntKind.i64.wrap (a2 + x4))).bind fun y5=>(rf (y5.1,y5.2.1,y5.2.2.1,y5.2.2.2) (IntKind.i64.wrap (a1 + 1)) a2).bind fun y6=>some ((y6.1,y6.2.1,y6.2.2.1,y6.2.2.2))))
noncomputable def Lselection_certificate_branch_n : Nat→Tselection_certificate→Int→Int→Option (Tselection_certificate)
 | 0,_,_,_=>none
 | n + 1,a0,a1,a2=>Lselection_certificate_branch_b (Lselection_certificate_branch_n n) a0 a1 a2
noncomputable def Lselection_certificate_branch (a0 : Tselection_certificate) (a1 : Int) (a2 : Int) : Option (Tselection_certificate):=fixN fun n=>Lselection_certificate_branch_n n a0 a1 a2
noncomputable def Lselection_Best (a0 : (List Int)) (a1 : Int) : Option (Tapi_Selection×(List Int)×Int) :=
 (Lselection_check a0 a1).bind fun y1=>(if ¬ (y1 = 0) then some (((([] : (List Int)),0),([] : (List Int)),y1)) else (Lselection_total a0).bind fun y2=>(if y2 < a1 then some (((([] : (List Int)),0),([] : (List Int)),320)) else (Lselection_search_visit (a0,a1,([] : (List Int)),(([] : (List Int)),0)) 0 0).bind fun y3=>(Lselection_certificate_branch (a0,a1,y3.2.2.2.2,([] : (List Int))) 0 0).bind fun y4=>(if 16384 < (y4.2.2.2.length : Int) then some (((([] : (List Int)),0),([] : (List Int)),4)) else some (((y3.2.2.2.1,y3.2.2.2.2),y4.2.2.2,0)))))
noncomputable def Lbuild_choose_k2 (p37 : (List Tapi_Spendable)) : Option ((List Tapi_Spendable)×Int) :=
 some ((p37,0))
noncomputable def Lbuild_choose_s2 (y26 : (Tapi_Selection×(List Int)×Int)) (p17 : (List Tapi_Spendable)) : (Int×(List Tapi_Spendable))→Option ((Int×(List Tapi_Spendable)) ⊕ ((List Tapi_Spendable)×Int))
 | (p36,p37)=>(if p36 < (y26.1.1.length : Int) then (idx (y26.1.1) (p36)).bind fun x42=>(inA (p17.length) (x42)).bind fun j43=>((p17)[j43]?).bind fun x44=>(chk (p37.length + 1≤1466015503701)).bind fun _=>some (.inl (IntKind.i64.wrap (p36 + 1),p37++[x44])) else (Lbuild_choose_k2 p37).map Sum.inr)
noncomputable def Lbuild_choose_k1 (p18 : (List Int)) (a1 : Int) (p17 : (List Tapi_Spendable)) : Option ((List Tapi_Spendable)×Int) :=
 (Lselection_Best p18 a1).bind fun y26=>(if ¬ (y26.2.2 = 0) then some ((([] : (List Tapi_Spendable)),y26.2.2)) else runLoop (Lbuild_choose_s2 y26 p17) (0,[]))
noncomputable def Lbuild_choose_k3 (p16 : Int) (p51 : (List Tapi_Spendable)) (p52 : (List Int)) : Option ((Int×(List Tapi_Spendable)×(List Int)) ⊕ ((List Tapi_Spendable)×Int)) :=
 some (.inl (IntKind.i64.wrap (p16 + 1),p51,p52))
noncomputable def Lbuild_choose_s1 (a0 : (List Tapi_Spendable)) (a2 : Int) (a1 : Int) : (Int×(List Tapi_Spendable)×(List Int))→Option ((Int×(List Tapi_Spendable)×(List Int)) ⊕ ((List Tapi_Spendable)×Int))
 | (p16,p17,p18)=>(if p16 < (a0.length : Int) then (idx (a0) (p16)).bind fun x46=>(Lbuild_InputWeight x46).bind fun y47=>(Lbuild_Fee y47 a2).bind fun y48=>(if 1≤IntKind.i64.wrap (x46.1.2.1.1 - y48) then (chk (p17.length + 1≤1466015503701)).bind fun _=>(chk (p18.length + 1≤17592186044416)).bind fun _=>Lbuild_choose_k3 p16 (p17++[x46]) (p18++[IntKind.i64.wrap (x46.1.2.1.1 - y48)]) else Lbuild_choose_k3 p16 p17 p18) else (Lbuild_choose_k1 p18 a1 p17).map Sum.inr)
noncomputable def Lbuild_choose (a0 : (List Tapi_Spendable)) (a1 : Int) (a2 : Int) : Option ((List Tapi_Spendable)×Int) :=
 runLoop (Lbuild_choose_s1 a0 a2 a1) (0,[],[])
noncomputable def Lbuild_paid_k1 (p5 : Int) : Option Int :=
 some (p5)
noncomputable def Lbuild_paid_s1 (a0 : (List Tapi_Output)) : (Int×Int)→Option ((Int×Int) ⊕ (Int))
 | (p5,p6)=>(if p6 < (a0.length : Int) then (idx (a0) (p6)).bind fun x8=>some (.inl (IntKind.i64.wrap (p5 + x8.1),IntKind.i64.wrap (p6 + 1))) else (Lbuild_paid_k1 p5).map Sum.inr)
noncomputable def Lbuild_paid (a0 : (List Tapi_Output)) : Option (Int) :=
 runLoop (Lbuild_paid_s1 a0) (0,0)
noncomputable def Lbuild_Make_k3 (p28 : Int) (p30 : (List Tapi_Input)) (a4 : Int) (p31 : (List Tapi_Coin)) (p49 : (List Tapi_Output)) (p50 : Int) : Option (Tapi_Plan×Int) :=
 (if 2100000000000000 < p28 then some ((((0,([] : (List Tapi_Input)),([] : (List Tapi_Output)),0),([] : (List Tapi_Coin)),0,0),90)) else (Lbuild_paid p49).bind fun y51=>some ((((1,p30,p49,a4),p31,IntKind.i64.wrap (p28 - y51),p50),0)))
noncomputable def Lbuild_Make_k2 (p30 : (List Tapi_Input)) (p10 : (List Tapi_Output)) (a4 : Int) (y17 : ((List Tapi_Spendable)×Int)) (a2 : (List Int)) (a1 : (List Tapi_Output)) (a3 : Int) (p28 : Int) (p31 : (List Tapi_Coin)) : Option (Tapi_Plan×Int) :=
 (Lbuild_Weight (1,p30,p10,a4) y17.1).bind fun y36=>(if 80000 < IntKind.i64.wrap (y36 + (IntKind.i64.wrap (4 * (IntKind.i64.wrap (9 + (a2.length : Int)))))) then some ((((0,([] : (List Tapi_Input)),([] : (List Tapi_Output)),0),([] : (List Tapi_Coin)),0,0),4)) else (Ltx_Check (1,p30,p10,a4)).bind fun y37=>(if ¬ (y37 = 0) then some ((((0,([] : (List Tapi_Input)),([] : (List Tapi_Output)),0),([] : (List Tapi_Coin)),0,0),y37)) else (Lbuild_paid a1).bind fun y38=>((if 0 < (a2.length : Int) then (Lbuild_Fee y36 a3).bind fun y39=>(Lbuild_Fee (IntKind.i64.wrap (4 * (IntKind.i64.wrap (9 + (a2.length : Int))))) a3).bind fun y40=>some (decide (300≤IntKind.i64.wrap ((IntKind.i64.wrap ((IntKind.i64.wrap (p28 - y38)) - y39)) - y40))) else some (false))).bind fun z41=>(if (0 < (a2.length : Int)∧z41 = true) then (Lbytes_Clone a2).bind fun y52=>(chk (p10.length + 1≤4398046511104)).bind fun _=>(Lbuild_Weight (1,p30,p10++[(0,y52)],a4) y17.1).bind fun y54=>(Lbuild_Fee y54 a3).bind fun y55=>(inA (p10.length + 1) ((a1.length : Int))).bind fun j56=>((p10++[(0,y52)])[j56]?).bind fun x57=>(Ltx_Check (1,p30,(p10++[(0,y52)]).set j56 (IntKind.i64.wrap ((IntKind.i64.wrap (p28 - y38)) - y55),x57.2),a4)).bind fun y58=>(if ¬ (y58 = 0) then some ((((0,([] : (List Tapi_Input)),([] : (List Tapi_Output)),0),([] : (List Tapi_Coin)),0,0),y58)) else Lbuild_Make_k3 p28 p30 a4 p31 ((p10++[(0,y52)]).set j56 (IntKind.i64.wrap ((IntKind.i64.wrap (p28 - y38)) - y55),x57.2)) (a1.length : Int)) else Lbuild_Make_k3 p28 p30 a4 p31 p10 (-1))))
noncomputable def Lbuild_Make_s2 (y17 : ((List Tapi_Spendable)×Int)) (a5 : Int) (p10 : (List Tapi_Output)) (a4 : Int) (a2 : (List Int)) (a1 : (List Tapi_Output)) (a3 : Int) : (Int×Int×(List Tapi_Input)×(List Tapi_Coin))→Option ((Int×Int×(List Tapi_Input)×(List Tapi_Coin)) ⊕ (Tapi_Plan×Int))
 | (p28,p29,p30,p31)=>(if p29 < (y17.1.length : Int) then (idx (y17.1) (p29)).bind fun x59=>(Lbytes_Clone x59.1.2.1.2).bind fun y60=>(chk (p31.length + 1≤1599289640401)).bind fun _=>(chk (p30.length + 1≤2199023255552)).bind fun _=>some (.inl (IntKind.i64.wrap (p28 + x59.1.2.1.1),IntKind.i64.wrap (p29 + 1),p30++[(x59.1.1,a5,([] : (List (List Int))))],p31++[(x59.1.1,(x59.1.2.1.1,y60),x59.1.2.2.1,x59.1.2.2.2)])) else (Lbuild_Make_k2 p30 p10 a4 y17 a2 a1 a3 p28 p31).map Sum.inr)
noncomputable def Lbuild_Make_k1 (a1 : (List Tapi_Output)) (p10 : (List Tapi_Output)) (a4 : Int) (a3 : Int) (a0 : (List Tapi_Spendable)) (a5 : Int) (a2 : (List Int)) : Option (Tapi_Plan×Int) :=
 (Lbuild_paid a1).bind fun y14=>(Ltx_Weight (1,([] : (List Tapi_Input)),p10,a4)).bind fun y15=>(Lbuild_Fee y15 a3).bind fun y16=>(Lbuild_choose a0 (IntKind.i64.wrap (y14 + y16)) a3).bind fun y17=>(if ¬ (y17.2 = 0) then some ((((0,([] : (List Tapi_Input)),([] : (List Tapi_Output)),0),([] : (List Tapi_Coin)),0,0),y17.2)) else runLoop (Lbuild_Make_s2 y17 a5 p10 a4 a2 a1 a3) (0,0,[],[]))
noncomputable def Lbuild_Make_s1 (a1 : (List Tapi_Output)) (a4 : Int) (a3 : Int) (a0 : (List Tapi_Spendable)) (a5 : Int) (a2 : (List Int)) : (Int×(List Tapi_Output))→Option ((Int×(List Tapi_Output)) ⊕ (Tapi_Plan×Int))
 | (p9,p10)=>(if p9 < (a1.length : Int) then (idx (a1) (p9)).bind fun x63=>(Lbytes_Clone x63.2).bind fun y64=>(chk (p10.length + 1≤4398046511104)).bind fun _=>some (.inl (IntKind.i64.wrap (p9 + 1),p10++[(x63.1,y64)])) else (Lbuild_Make_k1 a1 p10 a4 a3 a0 a5 a2).map Sum.inr)
noncomputable def Lbuild_Make (a0 : (List Tapi_Spendable)) (a1 : (List Tapi_Output)) (a2 : (List Int)) (a3 : Int) (a4 : Int) (a5 : Int) : Option (Tapi_Plan×Int) :=
 (Lbuild_check a0 a1 a2 a3).bind fun y1=>(if ¬ (y1 = 0) then some ((((0,([] : (List Tapi_Input)),([] : (List Tapi_Output)),0),([] : (List Tapi_Coin)),0,0),y1)) else runLoop (Lbuild_Make_s1 a1 a4 a3 a0 a5 a2) (0,[]))
noncomputable def Llaw34_BuildBalances_k2 (y7 : (Tapi_Plan×Int)) (p49 : (List Tapi_Spendable)) (y5 : (Int)) (y4 : ((List Tapi_Output)×Tlightclientmill_Deck)) (y6 : ((List Int))) : Option Bool :=
 (Lref10_Fee y7.1.1 y7.1.2.1).bind fun y83=>(if ((¬ (y83.2 = 0)∨¬ (y83.1 = y7.1.2.2.1))∨¬ ((p49.length : Int) = (y7.1.2.1.length : Int))) then some (false) else (Lbuild_Weight y7.1.1 p49).bind fun y84=>(Lbuild_Fee y84 y5).bind fun y85=>(if 0≤y7.1.2.2.2 then ((if ((y7.1.2.2.2 = (y4.1.length : Int)∧(y7.1.1.2.2.1.length : Int) = IntKind.i64.wrap ((y4.1.length : Int) + 1))∧y7.1.2.2.1 = y85) then (idx (y7.1.1.2.2.1) (y7.1.2.2.2)).bind fun x86=>some (decide (300≤x86.1)) else some (false))).bind fun z87=>some ((((decide (y7.1.2.2.2 = (y4.1.length : Int)) && decide ((y7.1.1.2.2.1.length : Int) = IntKind.i64.wrap ((y4.1.length : Int) + 1))) && decide (y7.1.2.2.1 = y85)) && z87)) else (if (¬ ((y7.1.1.2.2.1.length : Int) = (y4.1.length : Int))∨y7.1.2.2.1 < y85) then some (false) else ((if (y6.length : Int) = 0 then some (false) else (Lbuild_Fee (IntKind.i64.wrap (4 * (IntKind.i64.wrap (9 + (y6.length : Int))))) y5).bind fun y88=>some (decide (y7.1.2.2.1 < IntKind.i64.wrap ((IntKind.i64.wrap (y85 + 300)) + y88))))).bind fun z89=>some ((decide ((y6.length : Int) = 0) || z89)))))
noncomputable def Llaw34_BuildBalances_s2 (y4 : ((List Tapi_Output)×Tlightclientmill_Deck)) (y7 : (Tapi_Plan×Int)) (p49 : (List Tapi_Spendable)) (y5 : (Int)) (y6 : ((List Int))) : Int→Option ((Int) ⊕ (Bool))
 | p78=>(if p78 < (y4.1.length : Int) then (inA (y4.1.length) (p78)).bind fun j90=>((y4.1)[j90]?).bind fun x91=>(idx (y7.1.1.2.2.1) (p78)).bind fun x92=>(Lref09_SameOut x91 x92).bind fun y93=>(if ¬ (y93 = true) then some (.inr (false)) else some (.inl (IntKind.i64.wrap (p78 + 1)))) else (Llaw34_BuildBalances_k2 y7 p49 y5 y4 y6).map Sum.inr)
noncomputable def Llaw34_BuildBalances_k1 (y4 : ((List Tapi_Output)×Tlightclientmill_Deck)) (y7 : (Tapi_Plan×Int)) (p49 : (List Tapi_Spendable)) (y5 : (Int)) (y6 : ((List Int))) : Option Bool :=
 runLoop (Llaw34_BuildBalances_s2 y4 y7 p49 y5 y6) 0
noncomputable def Llaw34_BuildBalances_k3 (p48 : Int) (p107 : (List Tapi_Spendable)) : Option ((Int×(List Tapi_Spendable)) ⊕ (Bool)) :=
 some (.inl (IntKind.i64.wrap (p48 + 1),p107))
noncomputable def Llaw34_BuildBalances_k4 (p106 : Int) (p117 : (List Tapi_Spendable)) : Option ((Int×(List Tapi_Spendable)) ⊕ ((Int×(List Tapi_Spendable)) ⊕ (Bool))) :=
 some (.inl (IntKind.i64.wrap (p106 + 1),p117))
noncomputable def Llaw34_BuildBalances_s3 (y3 : ((List Tapi_Spendable)×Tlightclientmill_Deck)) (y7 : (Tapi_Plan×Int)) (p48 : Int) : (Int×(List Tapi_Spendable))→Option ((Int×(List Tapi_Spendable)) ⊕ ((Int×(List Tapi_Spendable)) ⊕ (Bool)))
 | (p106,p107)=>(if p106 < (y3.1.length : Int) then (inA (y3.1.length) (p106)).bind fun j113=>((y3.1)[j113]?).bind fun x114=>(idx (y7.1.2.1) (p48)).bind fun x115=>(if ((x114.1.1.1 = x115.1.1∧x114.1.1.2 = x115.1.2)∧x114.1.2.1.1 = x115.2.1.1) then (chk (p107.length + 1≤1466015503701)).bind fun _=>Llaw34_BuildBalances_k4 p106 (p107++[x114]) else Llaw34_BuildBalances_k4 p106 p107) else (Llaw34_BuildBalances_k3 p48 p107).map Sum.inr)
noncomputable def Llaw34_BuildBalances_s1 (y7 : (Tapi_Plan×Int)) (y3 : ((List Tapi_Spendable)×Tlightclientmill_Deck)) (y4 : ((List Tapi_Output)×Tlightclientmill_Deck)) (y5 : (Int)) (y6 : ((List Int))) : (Int×(List Tapi_Spendable))→Option ((Int×(List Tapi_Spendable)) ⊕ (Bool))
 | (p48,p49)=>(if p48 < (y7.1.2.1.length : Int) then runLoop (Llaw34_BuildBalances_s3 y3 y7 p48) (0,p49) else (Llaw34_BuildBalances_k1 y4 y7 p49 y5 y6).map Sum.inr)
noncomputable def Llaw34_BuildBalances (a0 : (List Int)) (a1 : Int) (a2 : Int) (a3 : Int) : Option (Bool) :=
 (Llaw34_sane).bind fun y1=>(if ¬ (y1 = true) then some (false) else (Lmill_New a0).bind fun y2=>(Lmill_Spendables y2 8).bind fun y3=>(Lmill_Outputs y3.2 3).bind fun y4=>(Lmill_Mod a1 3000).bind fun y5=>(Llaw34_change a2).bind fun y6=>(Lbuild_Make y3.1 y4.1 y6 y5 0 a3).bind fun y7=>(if ¬ (y7.2 = 0) then some (decide (y7.2 = 320)) else (Lbuild_Valid y7.1).bind fun y8=>(if ((¬ (y8 = true)∨(y7.1.1.2.2.1.length : Int) < (y4.1.length : Int))∨¬ ((y7.1.2.1.length : Int) = (y7.1.1.2.1.length : Int))) then some (false) else runLoop (Llaw34_BuildBalances_s1 y7 y3 y4 y5 y6) (0,[]))))

end Go.Lc
end
section
namespace Go.Av
open Go.RowKit
set_option linter.unusedVariables false
/-! short forms for printed walks -/
theorem bA {β : Type} {n : Nat} {i : Int} {f : Nat→Option β} {y : β} (h : (inA n i).bind f = some y) : ∃ j,(0≤i∧i.toNat = j∧j < n)∧f j = some y :=
 let ⟨j,h1,h2⟩:=bs h
 ⟨j,inA_some h1,h2⟩
theorem bI {α β : Type} {l : List α} {i : Int} {f : α→Option β} {y : β} (h : (idx l i).bind f = some y) : ∃ x,(0≤i∧l[i.toNat]? = some x∧∀ h' : i.toNat < l.length,l[i.toNat] = x)∧f x = some y :=
 let ⟨x,h1,h2⟩:=bs h
 ⟨x,⟨(idx_some h1).1,(idx_some h1).2,getE_of (idx_some h1).2⟩,h2⟩
theorem bC {β : Type} {p : Prop} [Decidable p] {f : Unit→Option β} {y : β} (h : (chk p).bind f = some y) : p∧f () = some y :=
 let ⟨_,h1,h2⟩:=bs h
 ⟨chk_some h1,h2⟩
theorem bG {α β : Type} {o : Option α} {f : α→Option β} {y : β} {P : α→Prop} (h : o.bind f = some y) (k : ∀ x,o = some x→P x) : ∃ x,P x∧f x = some y :=
 let ⟨x,h1,h2⟩:=bs h
 ⟨x,k x h1,h2⟩
theorem eqT (p : Prop) : (p = True)∨¬ p:=(Classical.em p).imp eq_true id
theorem ifP {α : Type} {c : Prop} [Decidable c] {a b r : α} (h : (if c then a else b) = r) (hc : c:=by simp [-Int.ofNat_toNat, *]) : a = r:=by rwa [if_pos hc] at h
theorem ifPb {α β : Type} {c : Prop} [Decidable c] {a b : Option α} {f : α→Option β} {r : Option β} (h : (if c then a else b).bind f = r) (hc : c:=by simp [-Int.ofNat_toNat, *]) : a.bind f = r:=by rwa [if_pos hc] at h
theorem ifNb {α β : Type} {c : Prop} [Decidable c] {a b : Option α} {f : α→Option β} {r : Option β} (h : (if c then a else b).bind f = r) (hc : ¬ c:=by simp [-Int.ofNat_toNat, *]) : b.bind f = r:=by rwa [if_neg hc] at h
theorem ifN {α : Type} {c : Prop} [Decidable c] {a b r : α} (h : (if c then a else b) = r) (hc : ¬ c:=by simp [-Int.ofNat_toNat, *]) : b = r:=by rwa [if_neg hc] at h
attribute [simp] arC_get arC_sub arC_put
/-! contracts -/
structure Con (α β : Type) where
 E : α→List PV
 R : α→β→PV×List (List Cell)
 g : α→Option β
section
variable {α β : Type} {K : Con α β}
noncomputable def Con.G (K : Con α β) : List PV→Option (PV×List (List Cell)):=lift K.E fun x=>(K.g x).map (K.R x)
def Con.Inj (K : Con α β) : Prop:=∀ a b,K.E a = K.E b→a = b
theorem Con.Inj.eq (hi : K.Inj) {x : α} {y : β} (h : K.g x = some y) : K.G (K.E x) = some (K.R x y):=lift_som hi h
theorem Con.none {ps : List PV} (h : ∀ a,K.E a = ps→False) : K.G ps = none:=lift_none h
def tabAll (T : Tab) : List (Nat×(List PV→Option (PV×List (List Cell))))→Prop
 | []=>True
 | (g,F) :: l=>T g = some F∧tabAll T l
theorem tabAll_sub {l m : List (Nat×(List PV→Option (PV×List (List Cell))))} {own : Nat→List (List Nat)} (h : ∀ p∈m,(tab l own).fn p.1 = some p.2) : tabAll (tab l own) m:=by
 induction m with
 | nil=>trivial
 | cons p m ih=>exact ⟨h p (by simp),ih fun q hq=>h q (by simp [hq])⟩
/-- what a walk shows -/
def Walk (tt : TT) (G : Glob) (l : List (Nat×(List PV→Option (PV×List (List Cell))))) (own : Nat→List (List Nat)) (fn : Func) (K : Con α β) : Prop :=
 ∀ T : Tab,T.own = own→tabAll T l→∀ x y,K.g x = some y→∃ kp fl n,execFn tt T G kp fl n fn (K.E x) = some (K.R x y)
def kpL : List (Nat×Kp)→Keep
 | [],_=>⟨[],[],[]⟩
 | (j,q) :: l,i=>if i = j then q else kpL l i
theorem Walk.of {tt : TT} {G : Glob} {l : List (Nat×(List PV→Option (PV×List (List Cell))))} {own : Nat→List (List Nat)} {fn : Func} {c : Code} {n : Nat} (kl : List (Nat×Kp)) (w : Bool) (hb : fn.body = some c) (hn : fn.ntmps = n)
  (h : ∀ T : Tab,T.own = own→tabAll T l→∀ x y,K.g x = some y→ioChk (K.E x) = true∧EndE tt T G (kpL kl) c ⟨(ioIn 0 0 (K.E x)).1++List.replicate (n - (K.E x).length) .skip,ioBx (K.E x)⟩ (FinQ tt w fn (K.E x) (K.R x y))) : Walk tt G l own fn K :=
 fun T h1 h2 x y h3=>fnE (kp:=kpL kl) (w:=w) hb (h T h1 h2 x y h3).1 (by rw [hn]; exact (h T h1 h2 x y h3).2)
def distinctF : List (Nat×(List PV→Option (PV×List (List Cell))))→Bool
 | []=>true
 | (g,_) :: l=>l.all (fun q=>!(q.1 == g)) && distinctF l
theorem tabAll_tab {own : Nat→List (List Nat)} : ∀ {l : List (Nat×(List PV→Option (PV×List (List Cell))))},distinctF l = true→∀ p∈l,tabF l p.1 = some p.2
 | [],_,p,hp=>by simp at hp
 | (g,F) :: l,h,p,hp=>by
  simp only [distinctF,Bool.and_eq_true,List.all_eq_true] at h;simp only [tabF];rcases List.mem_cons.1 hp with rfl | hp
  ·simp
  ·have:=h.1 p hp
   rw [if_neg (by simpa using this)];exact tabAll_tab (own:=own) h.2 p hp
theorem mkW {P : Program} {tt : TT} {G : Glob} {l : List (Nat×(List PV→Option (PV×List (List Cell))))} {own : Nat→List (List Nat)} (hm : P.follows .mixedOrders = true) (htt : ∀ t i,tt t = some i→tinfo P t = some i)
  {f : FuncId} {fn : Func} {c : Code} (w : Walk tt G l own fn K) (hT : AllI P G l) (hf : P.funcs[f]? = some fn) (hb : fn.body = some c) (hname : (!(fn.name == "runtime.NumGoroutine") && distinctF l) = true) : Impl P G f K.G:=by
 simp only [Bool.and_eq_true,Bool.not_eq_true'] at hname;exact mkI (T:=tab l own) hm htt (tab_ok hT) hf hb hname.1 fun x y hy=>w _ rfl (tabAll_sub (tabAll_tab (own:=own) hname.2)) x y hy
end
/-! steps -/
attribute [simp] kpL
section
variable {tt : TT} {T : Tab} {G : Glob} {kp : Keep} {st st0 st1 : ASt} {a b c d : Code} {Q Q' : AE→ASt→Prop} {P R H : Prop}
def Imp (R P : Prop) : Prop:=R→P
structure SameP (X R : Prop) : Prop where
 h : X = R
theorem Imp.of (e : SameP P R) : Imp P R:=fun p=>e.h ▸ p
theorem im_seq_reg {id : Nat} {ops : Array Oper} (hc : c = .region id ops false) (h : runL tt T G ops.toList ops.toList st = some st1) (hq : Imp R (EndE tt T G kp b st1 Q)) (hj : (kp (id + 1000000)).ks.isEmpty = true:=by rfl) : Imp R (EndE tt T G kp (.seq c b) st Q):=fun r=>ee_seq_reg hc h (hq r) hj
theorem im_seq_draw {id : Nat} {ops : Array Oper} {fs : List Foot} (hc : c = .region id ops true) (h : runU tt T G ops.toList ops.toList st = some (st1,fs)) (hd : drawOk ops.toList fs = true) (hq : Imp R (EndE tt T G kp b st1 Q)) (hj : (kp (id + 1000000)).ks.isEmpty = true:=by rfl) : Imp R (EndE tt T G kp (.seq c b) st Q):=fun r=>ee_seq_draw hc h hd (hq r) hj
theorem im_reg {id : Nat} {ops : Array Oper} (hc : c = .region id ops false) (h : runL tt T G ops.toList ops.toList st = some st1) (hq : Imp R (Q .normal st1)) (hj : (kp (id + 1000000)).ks.isEmpty = true:=by rfl) : Imp R (EndE tt T G kp c st Q):=fun r=>ee_reg hc h (hq r) hj
theorem im_draw {id : Nat} {ops : Array Oper} {fs : List Foot} (hc : c = .region id ops true) (h : runU tt T G ops.toList ops.toList st = some (st1,fs)) (hd : drawOk ops.toList fs = true) (hq : Imp R (Q .normal st1)) (hj : (kp (id + 1000000)).ks.isEmpty = true:=by rfl) : Imp R (EndE tt T G kp c st Q):=fun r=>ee_draw hc h hd (hq r) hj
theorem im_assoc (h : Imp R (EndE tt T G kp (.seq a (.seq b d)) st Q)) : Imp R (EndE tt T G kp (.seq (.seq a b) d) st Q):=fun r=>ee_assoc (h r)
theorem im_skip (h : Imp R (Q .normal st)) : Imp R (EndE tt T G kp .skip st Q):=fun r=>ee_skip (h r)
theorem im_ret (h : Imp R (Q .ret st)) : Imp R (EndE tt T G kp .ret st Q):=fun r=>ee_ret (h r)
theorem im_exit {id : Nat} (h : Imp R (Q (.exit id) st)) : Imp R (EndE tt T G kp (.exit id) st Q):=fun r=>ee_exit (h r)
theorem im_seq_skip (h : Imp R (EndE tt T G kp b st Q)) : Imp R (EndE tt T G kp (.seq .skip b) st Q):=fun r=>ee_seq_skip (h r)
theorem im_seq_ret (h : Imp R (Q .ret st)) : Imp R (EndE tt T G kp (.seq .ret b) st Q):=fun r=>ee_seq_ret (h r)
theorem im_seq_exit {id : Nat} (h : Imp R (Q (.exit id) st)) : Imp R (EndE tt T G kp (.seq (.exit id) b) st Q):=fun r=>ee_seq_exit (h r)
theorem im_block {id : Nat} (h : Imp R (EndE tt T G kp c st (outOf id Q))) : Imp R (EndE tt T G kp (.block id c) st Q):=fun r=>ee_block (h r)
theorem im_seq_block {id : Nat} (h : Imp R (EndE tt T G kp c st (outOf id (thenQ (fun s=>EndE tt T G kp d s Q) Q)))) : Imp R (EndE tt T G kp (.seq (.block id c) d) st Q):=fun r=>ee_seq_block (h r)
theorem im_condT {x : Operand} (h : rd G st.get x = some (bV true)) (h1 : Imp R (EndE tt T G kp a st Q)) : Imp R (EndE tt T G kp (.cond x a b) st Q):=fun r=>ee_condT h (h1 r)
theorem im_condF {x : Operand} (h : rd G st.get x = some (bV false)) (h1 : Imp R (EndE tt T G kp b st Q)) : Imp R (EndE tt T G kp (.cond x a b) st Q):=fun r=>ee_condF h (h1 r)
theorem im_seq_condT {x : Operand} (h : rd G st.get x = some (bV true)) (h1 : Imp R (EndE tt T G kp (.seq a d) st Q)) : Imp R (EndE tt T G kp (.seq (.cond x a b) d) st Q):=fun r=>ee_seq_condT h (h1 r)
theorem im_seq_condF {x : Operand} (h : rd G st.get x = some (bV false)) (h1 : Imp R (EndE tt T G kp (.seq b d) st Q)) : Imp R (EndE tt T G kp (.seq (.cond x a b) d) st Q):=fun r=>ee_seq_condF h (h1 r)
theorem im_pq (h : Imp R P) (e : H = P) : Imp R H:=fun r=>e ▸ h r
/-- the straight steps -/
theorem go (k : R) (h : ∀ X : Prop,SameP X R→Imp X P:=by
 intro X e
 repeat (first
  | (with_reducible refine im_assoc ?_)
  | (with_reducible refine im_seq_skip ?_)
  | (with_reducible refine im_seq_block ?_)
  | (with_reducible refine im_seq_exit ?_)
  | (with_reducible refine im_seq_ret ?_)
  | (with_reducible refine im_block ?_)
  | (with_reducible refine im_skip ?_)
  | (with_reducible refine im_exit ?_)
  | (with_reducible refine im_ret ?_)
  | (with_reducible refine im_seq_condT ?_ ?_; · simp [-Int.ofNat_toNat,bV, *]; done)
  | (with_reducible refine im_seq_condF ?_ ?_; · simp [-Int.ofNat_toNat,bV, *]; done)
  | (refine im_seq_reg rfl (by first | (simp [-Int.ofNat_toNat, *] <;> rfl) | fail) ?_)
  | (refine im_seq_draw rfl (by simp [-Int.ofNat_toNat, *]; first | exact ⟨rfl,rfl⟩ | rfl) (by kernel_rfl) ?_)
  | (with_reducible refine im_condT ?_ ?_; · simp [-Int.ofNat_toNat,bV, *]; done)
  | (with_reducible refine im_condF ?_ ?_; · simp [-Int.ofNat_toNat,bV, *]; done)
  | (refine im_reg rfl (by first | (simp [-Int.ofNat_toNat, *] <;> rfl) | fail) ?_)
  | (refine im_draw rfl (by simp [-Int.ofNat_toNat, *]; first | exact ⟨rfl,rfl⟩ | rfl) (by kernel_rfl) ?_)
  | (refine im_pq ?_ (by simp only [pq,reduceCtorEq]; rfl)))
 exact Imp.of e) : P:=h R ⟨rfl⟩ k
/-- a condition in its normal form -/
theorem nrm {p q : Prop} (c : p) (h : p→q:=by
 intro h;try simp [-Int.ofNat_toNat] at h
 first | exact (eq_true h : (_ = _) = True) | exact h) : q:=h c
/-- what is left of the names of a loop's head -/
theorem nst (k : R) (h : P = R:=by simp only [und,List.replicate,List.cons_append,List.nil_append]; rfl) : P:=h ▸ k
/-- the end -/
theorem fin (h : H) (k : H→P:=by
 intro h;obtain rfl:=Option.some.inj h
 repeat (simp only [pq,reduceCtorEq]; rintro rfl)
 simp [-Int.ofNat_toNat,FinQ, *]) : P:=k h
/-- the end of a loop's body -/
theorem bk (h : H) (k : H→P:=by
 intro h;obtain rfl:=Option.some.inj h
 repeat (simp only [pq,reduceCtorEq]; rintro rfl)
 simp only [pq,reduceCtorEq]
 simp [-Int.ofNat_toNat,und,List.replicate,Nat.add_assoc, *]) : P:=k h
theorem lp {σ ρ : Type} {step : σ→Option (σ ⊕ ρ)} (n : Nat) (H : σ→ASt) {s : σ} {r : ρ}
  (hr : runLoop step s = some r)
  (hb : ∀ s x,step s = some x→EndE tt T G kp c (H s) (QL (kp n) H Q r x)) (hn : firstId c = n:=by kernel_rfl) (hf : forget (kp n) st = H s:=by simp [-Int.ofNat_toNat,und,List.replicate, *]) : EndE tt T G kp (.loop c) st Q :=
 ee_loop (by rw [hn]) hr hf hb
theorem ua (h : EndE tt T G kp (.seq (.seq a b) d) st Q) : EndE tt T G kp (.seq a (.seq b d)) st Q:=by
 obtain ⟨n0,e,s,h1,h2⟩:=h;refine ⟨n0,e,s,fun n hn=>?_,h2⟩;rw [← h1 n hn];simp only [exec];cases exec tt T G kp n a st with
 | none=>rfl
 | some x=>obtain ⟨e,s⟩:=x; cases e <;> rfl
theorem jn {H : ASt} (key : Nat) (h0 : EndE tt T G kp d H Q) (h : EndE tt T G kp d H Q→EndE tt T G kp c H Q:=by first | exact id | exact ua | exact fun h=>ua (ua h)) (hc : firstJ c = some key:=by rfl) (ha : (kp key).ks.isEmpty = false:=by rfl) (hf : forget (kp key) st = forget (kp key) H:=by simp [-Int.ofNat_toNat,und,List.replicate, *]) : EndE tt T G kp c st Q :=
 ee_join hc rfl ha hf (h h0)
end
/-! code -/
abbrev kk (fn : Func) (F : (Nat→Code)→Code) : Code:=F (reg fn)
abbrev co (n : Nat) (a b : Code) : Code:=.cond (.tmp n) a b
end Go.Av
end
section
/- Ranges of numbers of a type. -/
namespace Go.Av
theorem wfi_i64 {x : Int} (h : (Lit.int .i64 x).wf = true) : -9223372036854775808≤x∧x≤9223372036854775807:=by simpa [Lit.wf,IntKind.has,IntKind.min,IntKind.max,IntKind.signed,IntKind.bits] using h
theorem wfi_u32 {x : Int} (h : (Lit.int .u32 x).wf = true) : 0≤x∧x≤4294967295:=by simpa [Lit.wf,IntKind.has,IntKind.min,IntKind.max,IntKind.signed,IntKind.bits] using h
end Go.Av
end
section
/- Plain facts about steps that may fail,loops and numbers. -/
namespace Go.Lc
open Go.RowKit
open Go.Av
set_option linter.unusedVariables false

/-! loops -/
theorem runLoop_step {σ ρ : Type} {step : σ→Option (σ ⊕ ρ)} {s s' : σ} (h : step s = some (.inl s')) : runLoop step s = runLoop step s' := by rw [runLoop_eq,h]
theorem runLoop_exit {σ ρ : Type} {step : σ→Option (σ ⊕ ρ)} {s : σ} {x : Option ρ} (h : step s = x.map .inr) : runLoop step s = x:=by
 rw [runLoop_eq,h];cases x <;> rfl
theorem runLoop_end {σ ρ : Type} {step : σ→Option (σ ⊕ ρ)} {s : σ} {r : ρ} (h : step s = some (.inr r)) : runLoop step s = some r:=by rw [runLoop_eq,h]
/-- n steps,and what is then done -/
theorem runLoop_to {σ ρ : Type} {step : σ→Option (σ ⊕ ρ)} (enc : Nat→σ) (n : Nat) {x : Option ρ} (h : ∀ i,i < n→step (enc i) = some (.inl (enc (i + 1)))) (he : step (enc n) = x.map .inr) : runLoop step (enc 0) = x:=by
 have key : ∀ k,k≤n→runLoop step (enc (n - k)) = x:=by
  intro k;induction k with
  | zero=>intro _; exact runLoop_exit he
  | succ k ih =>
   intro hk;rw [runLoop_step (h (n - (k + 1)) (by omega)),show n - (k + 1) + 1 = n - k by omega];exact ih (by omega)
 have:=key n (Nat.le_refl _)
 rwa [Nat.sub_self] at this
/-- a loop with an invariant -/
theorem runLoop_inv {σ ρ : Type} {step : σ→Option (σ ⊕ ρ)} (I : Nat→σ→Prop) (Q : ρ→Prop) (h : ∀ i s,I i s→(∃ j s',j < i∧step s = some (.inl s')∧I j s')∨∃ r,step s = some (.inr r)∧Q r) : ∀ (n : Nat) (s : σ),I n s→∃ r,runLoop step s = some r∧Q r:=by
 intro n;induction n using Nat.strongRecOn with
 | _ n ih =>
  intro s hs;rcases h n s hs with ⟨j,s',hj,h1,h2⟩ | ⟨r,h1,h2⟩
  ·obtain ⟨r,h3,h4⟩:=ih j hj s' h2
   exact ⟨r,(runLoop_step h1).trans h3,h4⟩
  ·exact ⟨r,runLoop_end h1,h2⟩

/-! steps that do not fail -/
def Tot {α : Type} (x : Option α) (Q : α→Prop) : Prop:=∃ a,x = some a∧Q a
section
variable {α β : Type} {x : Option α} {f : α→Option β} {P : α→Prop} {Q : β→Prop}
theorem Tot.bind (h : Tot x P) (k : ∀ a,P a→Tot (f a) Q) : Tot (x.bind f) Q:=by
 obtain ⟨a,rfl,ha⟩:=h;exact k a ha
theorem Tot.mono {P' : α→Prop} (h : Tot x P) (k : ∀ a,P a→P' a) : Tot x P' := by
 obtain ⟨a,h1,ha⟩:=h;exact ⟨a,h1,k a ha⟩
theorem tot_some {a : α} (h : P a) : Tot (some a) P:=⟨a,rfl,h⟩
theorem tot_ite {c : Prop} [Decidable c] {a b : Option α} (h1 : c→Tot a P) (h2 : ¬ c→Tot b P) : Tot (if c then a else b) P:=by
 by_cases h : c
 ·rw [if_pos h]; exact h1 h
 ·rw [if_neg h]; exact h2 h
theorem Tot.inr {ρ σ : Type} {x : Option ρ} {Q : ρ→Prop} (h : Tot x Q) : ∃ r,(x.map Sum.inr : Option (σ ⊕ ρ)) = some (.inr r)∧Q r:=by
 obtain ⟨a,rfl,ha⟩:=h;exact ⟨a,rfl,ha⟩
end
theorem bind_some' {α β : Type} (a : α) (f : α→Option β) : (some a).bind f = f a:=rfl
theorem chk_bind {p : Prop} [Decidable p] {α : Type} {f : Unit→Option α} (h : p) : (chk p).bind f = f ():=by rw [chk_pos h]; rfl
theorem idx_get {α : Type} {l : List α} {i : Nat} (h : i < l.length) : idx l (i : Int) = some l[i]:=by simp [idx,h]
theorem idx_bind {α β : Type} {l : List α} {i : Nat} {f : α→Option β} (h : i < l.length) : (idx l (i : Int)).bind f = f l[i]:=by rw [idx_get h]; rfl
theorem inA_nat {n i : Nat} (h : i < n) : inA n (i : Int) = some i:=by simp [inA,h]
theorem inA_bind {β : Type} {n i : Nat} {f : Nat→Option β} (h : i < n) : (inA n (i : Int)).bind f = f i:=by rw [inA_nat h]; rfl
theorem get_bind {α β : Type} {l : List α} {i : Nat} {f : α→Option β} (h : i < l.length) : (l[i]?).bind f = f l[i]:=by rw [List.getElem?_eq_getElem h]; rfl

/-! numbers -/
theorem wi (n : Int) (h : -9223372036854775808≤n∧n≤9223372036854775807) : IntKind.i64.wrap n = n:=IntWalk.i64_in n h
theorem wi_succ {i n : Nat} (h : i < n) (hn : n≤9223372036854775807) : IntKind.i64.wrap ((i : Int) + 1) = ((i + 1 : Nat) : Int):=by rw [wi _ (by omega)]; omega
theorem wu (n : Int) (h : 0≤n∧n≤18446744073709551615) : IntKind.u64.wrap n = n:=IntWalk.u64_in n h

/-! lists -/
theorem fill_step {α : Type} (f : Nat→α) (z : α) {i k : Nat} (h : i < k) : (((List.range i).map f)++List.replicate (k - i) z).set i (f i) = ((List.range (i + 1)).map f)++List.replicate (k - (i + 1)) z:=by
 rw [List.set_append_right _ _ (by simp)];simp only [List.length_map,List.length_range,Nat.sub_self];rw [show k - i = (k - (i + 1)) + 1 by omega,List.replicate_succ,List.set_cons_zero,List.range_succ,List.map_append];simp
theorem fill_len {α : Type} (f : Nat→α) (z : α) {i k : Nat} (h : i≤k) : (((List.range i).map f)++List.replicate (k - i) z).length = k:=by simp; omega
end Go.Lc
end
section
/- Encodings: what the codec and its reference compute. -/
namespace Go.Lc
open Go.RowKit
open Go.Av
set_option linter.unusedVariables false

theorem least_bad (bad : Nat→Prop) : ∀ n,(∃ i,i < n∧bad i)→∃ m,m < n∧bad m∧∀ j,j < m→¬ bad j:=by
 classical
 intro n;induction n with
 | zero=>rintro ⟨i,h,_⟩; omega
 | succ n ih =>
  intro h;by_cases hx : ∃ i,i < n∧bad i
  ·obtain ⟨m,h1,h2,h3⟩:=ih hx
   exact ⟨m,by omega,h2,h3⟩
  ·obtain ⟨i,hi,hb⟩:=h
   have : i = n:=by
    rcases Nat.lt_or_ge i n with h' | h'
    ·exact absurd ⟨i,h',hb⟩ hx
    ·omega
   subst this;exact ⟨i,by omega,hb,fun j hj hb=>hx ⟨j,hj,hb⟩⟩
theorem runLoop_scan {σ ρ : Type} {step : σ→Option (σ ⊕ ρ)} (enc : Nat→σ) (n : Nat) (bad : Nat→Prop) (rb x : Option ρ) (h : ∀ i,i < n→¬ bad i→step (enc i) = some (.inl (enc (i + 1)))) (hb : ∀ i,i < n→bad i→step (enc i) = rb.map .inr) (he : step (enc n) = x.map .inr) : runLoop step (enc 0) = (by classical exact if ∃ i,i < n∧bad i then rb else x):=by
 classical
 by_cases hx : ∃ i,i < n∧bad i
 ·rw [if_pos hx]
  obtain ⟨m,hm,hbm,hmin⟩:=least_bad bad n hx;exact runLoop_to enc m (fun i hi=>h i (by omega) (hmin i hi)) (hb m hm hbm)
 ·rw [if_neg hx]
  exact runLoop_to enc n (fun i hi=>h i hi fun hbi=>hx ⟨i,hi,hbi⟩) he
theorem scan_list {σ ρ α : Type} {step : σ→Option (σ ⊕ ρ)} (enc : Nat→σ) (l : List α) (bad : α→Prop) (rb x : Option ρ) (h : ∀ i (hi : i < l.length),¬ bad l[i]→step (enc i) = some (.inl (enc (i + 1)))) (hb : ∀ i (hi : i < l.length),bad l[i]→step (enc i) = rb.map .inr) (he : step (enc l.length) = x.map .inr) : runLoop step (enc 0) = (by classical exact if ∃ a∈l,bad a then rb else x):=by
 classical
 rw [runLoop_scan enc l.length (fun i=>∃ hi : i < l.length,bad l[i]) rb x (fun i hi hn=>h i hi fun hb=>hn ⟨hi,hb⟩) (fun i hi ⟨_,hbi⟩=>hb i hi hbi) he]
 have : (∃ i,i < l.length∧∃ hi : i < l.length,bad l[i])↔∃ a∈l,bad a:=by
  constructor
  ·rintro ⟨i,_,hi,hb⟩
   exact ⟨_,List.getElem_mem hi,hb⟩
  ·rintro ⟨a,ha,hb⟩
   obtain ⟨i,hi,rfl⟩:=List.getElem_of_mem ha;exact ⟨i,hi,hi,hb⟩
 simp only [this]
/-- as scan_list,for any way to decide -/
theorem scan_dec {σ ρ α : Type} {step : σ→Option (σ ⊕ ρ)} (enc : Nat→σ) (l : List α) (bad : α→Prop) (rb x : Option ρ) [inst : Decidable (∃ a∈l,bad a)] (h : ∀ i (hi : i < l.length),¬ bad l[i]→step (enc i) = some (.inl (enc (i + 1)))) (hb : ∀ i (hi : i < l.length),bad l[i]→step (enc i) = rb.map .inr) (he : step (enc l.length) = x.map .inr) {s : σ} (hs : s = enc 0) : runLoop step s = if ∃ a∈l,bad a then rb else x:=by
 subst hs;rw [scan_list enc l bad rb x h hb he];split
 ·rfl
 ·rfl
theorem flatMap_take {α β : Type} {l : List α} (f : α→List β) {i : Nat} (h : i < l.length) : (l.take (i + 1)).flatMap f = (l.take i).flatMap f++f l[i]:=by
 rw [List.take_succ_eq_append_getElem h,List.flatMap_append];simp
theorem flatMap_take_le {α β : Type} (l : List α) (f : α→List β) (i : Nat) : ((l.take i).flatMap f).length≤(l.flatMap f).length:=by
 conv=>rhs; rw [← List.take_append_drop i l]
 rw [List.flatMap_append,List.length_append];omega

/-! numbers,lowest byte first -/
def lowB (n : Int) (k : Nat) : List Int:=(List.range k).map fun i=>IntKind.u8.wrap (n.fdiv (2 ^ (8 * i)))
@[simp] theorem lowB_len (n : Int) (k : Nat) : (lowB n k).length = k:=by simp [lowB]
theorem low_pow {i : Nat} (h : i < 8) : min (IntKind.i64.wrap (8 * (i : Int))).toNat 64 = 8 * i:=by
 rw [wi _ (by omega)];omega
theorem lowest_eq (n : Int) (k : Nat) (hk : k≤8) : Lcodec_lowest n k = some (lowB n k):=by
 unfold Lcodec_lowest;rw [chk_bind (by omega)]
 have:=runLoop_to (step:=Lcodec_lowest_s1 k n) (fun i=>((i : Int),((List.range i).map fun i=>IntKind.u8.wrap (n.fdiv (2 ^ (8 * i))))++List.replicate (k - i) 0)) k (x:=some (lowB n k)) (fun i hi=>by
  simp only [Lcodec_lowest_s1];rw [if_pos (by omega),chk_bind (by rw [wi _ (by omega)]; omega),fill_len _ _ (by omega),inA_bind hi,low_pow (by omega),fill_step (fun i=>IntKind.u8.wrap (n.fdiv (2 ^ (8 * i)))) 0 hi,wi_succ hi (by omega)]) (by
  simp only [Lcodec_lowest_s1];rw [if_neg (by omega)]
  simp [Lcodec_lowest_k1,lowB])
 simpa using this
theorem little_eq (n : Int) (k : Nat) (hk : k≤8) : Lref01_little n k = some (lowB n k):=by
 unfold Lref01_little;rw [chk_bind (by omega)]
 have:=runLoop_to (step:=Lref01_little_s1 k n) (fun i=>((i : Int),((List.range i).map fun i=>IntKind.u8.wrap (n.fdiv (2 ^ (8 * i))))++List.replicate (k - i) 0)) k (x:=some (lowB n k)) (fun i hi=>by
  simp only [Lref01_little_s1];rw [if_pos (by simp; omega),chk_bind (by rw [wi _ (by omega)]; omega),fill_len _ _ (by omega),inA_bind hi,low_pow (by omega),fill_step (fun i=>IntKind.u8.wrap (n.fdiv (2 ^ (8 * i)))) 0 hi,wi_succ hi (by omega)]) (by
  simp only [Lref01_little_s1];rw [if_neg (by simp)]
  simp [Lref01_little_k1,lowB])
 simpa using this
theorem extend_eq {a b : List Int} (h : a.length + b.length≤140737488355328) : Lcodec_extend a b = some (a++b):=by
 unfold Lcodec_extend;rw [wi _ (by omega),chk_bind (by omega),chk_bind (by omega),chk_bind (by omega)]
theorem joined_eq {a b : List Int} (h : a.length + b.length≤140737488355328) : Lref01_joined a b = some (a++b):=by
 unfold Lref01_joined;rw [wi _ (by omega),chk_bind (by omega),chk_bind (by omega),chk_bind (by omega)]
section
variable {b : List Int} {n : Int}
theorem u32_eq (h : b.length≤140737488355000) : Lcodec_AppendU32 b n = some (b++lowB (IntKind.u64.wrap n) 4):=by
 unfold Lcodec_AppendU32;have this : Lcodec_lowest (IntKind.u64.wrap n) 4 = some (lowB (IntKind.u64.wrap n) 4):=lowest_eq _ 4 (by omega);rw [this,bind_some',extend_eq (by simp; omega)];rfl
theorem u64_eq (h : b.length≤140737488355000) : Lcodec_AppendU64 b n = some (b++lowB n 8):=by
 unfold Lcodec_AppendU64;have this : Lcodec_lowest n 8 = some (lowB n 8):=lowest_eq _ 8 (by omega);rw [this,bind_some',extend_eq (by simp; omega)];rfl
theorem u16_eq (h : b.length≤140737488355000) : Lcodec_AppendU16 b n = some (b++lowB (IntKind.u64.wrap n) 2):=by
 unfold Lcodec_AppendU16;have this : Lcodec_lowest (IntKind.u64.wrap n) 2 = some (lowB (IntKind.u64.wrap n) 2):=lowest_eq _ 2 (by omega);rw [this,bind_some',extend_eq (by simp; omega)];rfl
theorem ru32_eq (h : b.length≤140737488355000) : Lref01_AppendU32 b n = some (b++lowB (IntKind.u64.wrap n) 4):=by
 unfold Lref01_AppendU32;have this : Lref01_little (IntKind.u64.wrap n) 4 = some (lowB (IntKind.u64.wrap n) 4):=little_eq _ 4 (by omega);rw [this,bind_some',joined_eq (by simp; omega)];rfl
theorem ru64_eq (h : b.length≤140737488355000) : Lref01_AppendU64 b n = some (b++lowB n 8):=by
 unfold Lref01_AppendU64;have this : Lref01_little n 8 = some (lowB n 8):=little_eq _ 8 (by omega);rw [this,bind_some',joined_eq (by simp; omega)];rfl
/-- a size -/
def sizeB (n : Int) : List Int:=if n < 253 then lowB n 1 else if n < 65536 then 253 :: lowB n 2 else if n < 4294967296 then 254 :: lowB n 4 else 255 :: lowB n 8
theorem sizeB_len (n : Int) : (sizeB n).length≤9:=by
 unfold sizeB;split
 ·simp
 ·split
  ·simp
  ·split <;> simp
theorem size_eq (h0 : 0≤n∧n≤18446744073709551615) (h : b.length≤140737488354900) : Lcodec_AppendSize b n = some (b++sizeB n):=by
 unfold Lcodec_AppendSize sizeB;split
 ·rw [extend_eq (by simp; omega)]
  simp [lowB]
 ·split
  ·rw [extend_eq (by simp; omega),bind_some',u16_eq (by simp; omega),IntWalk.u16_in _ (by omega),wu _ (by omega)]
   simp
  ·split
   ·rw [extend_eq (by simp; omega),bind_some',u32_eq (by simp; omega),IntWalk.u32_in _ (by omega),wu _ (by omega)]
    simp
   ·rw [extend_eq (by simp; omega),bind_some',u64_eq (by simp; omega)]
    simp
theorem rsize_eq (h0 : 0≤n∧n≤18446744073709551615) (h : b.length≤140737488354900) : Lref01_AppendSize b n = some (b++sizeB n):=by
 have l1 : Lref01_little n 1 = some (lowB n 1):=little_eq n 1 (by omega);have l2 : Lref01_little n 2 = some (lowB n 2):=little_eq n 2 (by omega);have l4 : Lref01_little n 4 = some (lowB n 4):=little_eq n 4 (by omega);have l8 : Lref01_little n 8 = some (lowB n 8):=little_eq n 8 (by omega);unfold Lref01_AppendSize sizeB;split
 ·rw [l1,bind_some',joined_eq (by simp; omega)]
  rfl
 ·split
  ·rw [l2,bind_some',joined_eq (by simp),bind_some',joined_eq (by simp; omega)]
   rfl
  ·split
   ·rw [l4,bind_some',joined_eq (by simp),bind_some',joined_eq (by simp; omega)]
    rfl
   ·rw [l8,bind_some',joined_eq (by simp),bind_some',joined_eq (by simp; omega)]
    rfl
end
/-- bytes behind their size -/
def bytesB (s : List Int) : List Int:=sizeB s.length++s
theorem bytesB_len (s : List Int) : (bytesB s).length≤9 + s.length:=by
 have:=sizeB_len s.length;simp [bytesB]
 omega
theorem len_u64 {n : Nat} (h : n≤140737488355328) : IntKind.u64.wrap (n : Int) = n:=wu _ (by omega)
theorem abytes_eq {b s : List Int} (h : b.length + s.length≤140737488354900) : Lcodec_AppendBytes b s = some (b++bytesB s):=by
 unfold Lcodec_AppendBytes;have:=sizeB_len s.length;rw [len_u64 (by omega),size_eq (by omega) (by omega),bind_some',extend_eq (by simp; omega)];simp [bytesB]
theorem rbytes_eq {b s : List Int} (h : b.length + s.length≤140737488354900) : Lref01_AppendBytes b s = some (b++bytesB s):=by
 unfold Lref01_AppendBytes;have:=sizeB_len s.length;rw [len_u64 (by omega),rsize_eq (by omega) (by omega),bind_some',joined_eq (by simp; omega)];simp [bytesB]
theorem hash_eq {b : List Int} {a : Arr 32} (h : b.length≤140737488355000) : Lcodec_AppendHash b a = some (b++a.l):=by
 unfold Lcodec_AppendHash;rw [extend_eq (by rw [a.hl]; omega)];rfl
theorem rhash_eq {b : List Int} {a : Arr 32} (h : b.length≤140737488355000) : Lref01_AppendHash b a = some (b++a.l):=by
 unfold Lref01_AppendHash;rw [joined_eq (by rw [a.hl]; omega)];rfl
def pointB (o : Tapi_OutPoint) : List Int:=o.1.l++lowB (IntKind.u64.wrap o.2) 4
@[simp] theorem pointB_len (o : Tapi_OutPoint) : (pointB o).length = 36:=by simp [pointB,o.1.hl]
theorem point_eq (o : Tapi_OutPoint) : Ltx_Point o = some (pointB o):=by
 unfold Ltx_Point;rw [hash_eq (by simp),bind_some',u32_eq (by simp [o.1.hl])];rfl
theorem rpoint_eq (o : Tapi_OutPoint) : Lref09_Point o = some (pointB o):=by
 unfold Lref09_Point;rw [rhash_eq (by simp),bind_some',ru32_eq (by simp [o.1.hl])];rfl
end Go.Lc
end
section
/- Transactions: encodings,limits,weights; the program's and the reference's are the same. -/
namespace Go.Lc
open Go.RowKit
open Go.Av
set_option linter.unusedVariables false

def inB (x : Tapi_Input) : List Int:=pointB x.1++lowB (IntKind.u64.wrap x.2.1) 4
@[simp] theorem inB_len (x : Tapi_Input) : (inB x).length = 40:=by simp [inB]
def outB (o : Tapi_Output) : List Int:=lowB (IntKind.u64.wrap o.1) 8++bytesB o.2
def witB (x : Tapi_Input) : List Int:=sizeB x.2.2.length++x.2.2.flatMap bytesB
def headB (t : Tapi_Tx) : List Int:=lowB (IntKind.u64.wrap t.1) 4++sizeB t.2.1.length
def encS (t : Tapi_Tx) (w : Bool) : List Int:=headB t++t.2.1.flatMap inB++sizeB t.2.2.1.length++t.2.2.1.flatMap outB++lowB (IntKind.u64.wrap t.2.2.2) 4++(if w then t.2.1.flatMap witB else [])
/-- a bound for everything on the way -/
def encM (t : Tapi_Tx) : Nat:=100 + (t.2.1.map fun x=>60 + (x.2.2.map fun s=>20 + s.length).sum).sum + (t.2.2.1.map fun o=>60 + o.2.length).sum
theorem flatMap_len_le {α β : Type} (f : α→List β) (g : α→Nat) (h : ∀ a,(f a).length≤g a) (l : List α) : (l.flatMap f).length≤(l.map g).sum:=by
 induction l with
 | nil=>simp
 | cons a l ih =>
  simp only [List.flatMap_cons,List.length_append,List.map_cons,List.sum_cons];have:=h a;omega
theorem sum_mem_le {α : Type} (g : α→Nat) {l : List α} {a : α} (h : a∈l) : g a≤(l.map g).sum:=by
 induction l with
 | nil=>simp at h
 | cons b l ih =>
  simp only [List.map_cons,List.sum_cons];rcases List.mem_cons.1 h with rfl | h
  ·omega
  ·have:=ih h
   omega
theorem sum_const_le {α : Type} (g : α→Nat) (c : Nat) (h : ∀ a,c≤g a) (l : List α) : c * l.length≤(l.map g).sum:=by
 induction l with
 | nil=>simp
 | cons a l ih =>
  have:=h a;simp only [List.map_cons,List.sum_cons,List.length_cons,Nat.mul_add];omega
theorem witB_le (x : Tapi_Input) : (witB x).length≤9 + (x.2.2.map fun s=>20 + s.length).sum:=by
 have h1:=sizeB_len x.2.2.length;have h2:=flatMap_len_le bytesB (fun s=>20 + s.length) (fun s=>by have:=bytesB_len s; omega) x.2.2;simp only [witB,List.length_append];omega
theorem outB_le (o : Tapi_Output) : (outB o).length≤20 + o.2.length:=by
 have:=bytesB_len o.2;simp only [outB,List.length_append,lowB_len];omega

section
variable {t : Tapi_Tx} {w : Bool}
/-- the parts,from the left -/
def enc1 (t : Tapi_Tx) (i : Nat) : List Int:=headB t++(t.2.1.take i).flatMap inB
def enc2 (t : Tapi_Tx) (i : Nat) : List Int:=headB t++t.2.1.flatMap inB++sizeB t.2.2.1.length++(t.2.2.1.take i).flatMap outB
def enc3 (t : Tapi_Tx) (i : Nat) : List Int:=headB t++t.2.1.flatMap inB++sizeB t.2.2.1.length++t.2.2.1.flatMap outB++lowB (IntKind.u64.wrap t.2.2.2) 4++(t.2.1.take i).flatMap witB
theorem enc_ins (t : Tapi_Tx) : (t.2.1.flatMap inB).length + (t.2.1.flatMap witB).length≤(t.2.1.map fun x=>60 + (x.2.2.map fun s=>20 + s.length).sum).sum:=by
 induction t.2.1 with
 | nil=>simp
 | cons x l ih =>
  have:=witB_le x;simp only [List.flatMap_cons,List.length_append,List.map_cons,List.sum_cons,inB_len];omega
theorem enc_outs (t : Tapi_Tx) : (t.2.2.1.flatMap outB).length≤(t.2.2.1.map fun o=>60 + o.2.length).sum:=flatMap_len_le outB _ (fun o=>by have:=outB_le o; omega) _
theorem headB_len (t : Tapi_Tx) : (headB t).length≤13:=by
 have:=sizeB_len t.2.1.length;simp only [headB,List.length_append,lowB_len];omega
theorem enc1_le (i : Nat) : (enc1 t i).length + 50≤encM t:=by
 have h1:=headB_len t;have h2:=flatMap_take_le t.2.1 inB i;have h3:=enc_ins t;simp only [enc1,encM,List.length_append];omega
theorem enc2_le (i : Nat) : (enc2 t i).length + 50≤encM t:=by
 have h1:=headB_len t;have h2:=flatMap_take_le t.2.2.1 outB i;have h3:=enc_ins t;have h4:=enc_outs t;have h5:=sizeB_len t.2.2.1.length;simp only [enc2,encM,List.length_append];omega
theorem enc3_le (i : Nat) : (enc3 t i).length + 50≤encM t:=by
 have h1:=headB_len t;have h2:=flatMap_take_le t.2.1 witB i;have h3:=enc_ins t;have h4:=enc_outs t;have h5:=sizeB_len t.2.2.1.length;simp only [enc3,encM,List.length_append,lowB_len];omega
theorem encM_ins (t : Tapi_Tx) : t.2.1.length≤encM t:=by
 have:=sum_const_le (fun x : Tapi_Input=>60 + (x.2.2.map fun s=>20 + s.length).sum) 60 (fun x=>by omega) t.2.1;unfold encM;omega
theorem encM_outs (t : Tapi_Tx) : t.2.2.1.length≤encM t:=by
 have:=sum_const_le (fun o : Tapi_Output=>60 + o.2.length) 60 (fun x=>by omega) t.2.2.1;unfold encM;omega
theorem encM_in {x : Tapi_Input} (h : x∈t.2.1) : 60 + (x.2.2.map fun s=>20 + s.length).sum≤encM t:=by
 have:=sum_mem_le (fun x : Tapi_Input=>60 + (x.2.2.map fun s=>20 + s.length).sum) h;unfold encM;omega
theorem encM_out {o : Tapi_Output} (h : o∈t.2.2.1) : 60 + o.2.length≤encM t:=by
 have:=sum_mem_le (fun o : Tapi_Output=>60 + o.2.length) h;unfold encM;omega
theorem encM_wits {x : Tapi_Input} (h : x∈t.2.1) : x.2.2.length≤encM t:=by
 have h1:=encM_in h;have:=sum_const_le (fun s : List Int=>20 + s.length) 20 (fun x=>by omega) x.2.2;omega
theorem encM_wit {x : Tapi_Input} (h : x∈t.2.1) {s : List Int} (hs : s∈x.2.2) : 20 + s.length≤encM t:=by
 have h1:=encM_in h;have:=sum_mem_le (fun s : List Int=>20 + s.length) hs;omega
end
section
variable {t : Tapi_Tx} {w : Bool}
theorem enc3_succ {i : Nat} (h : i < t.2.1.length) : enc3 t (i + 1) = enc3 t i++sizeB (t.2.1[i]).2.2.length++(t.2.1[i]).2.2.flatMap bytesB:=by
 simp only [enc3,flatMap_take witB h,witB,List.append_assoc]
theorem enc3_len {i : Nat} (h : i < t.2.1.length) : (enc3 t i++sizeB (t.2.1[i]).2.2.length).length + ((t.2.1[i]).2.2.flatMap bytesB).length + 50≤encM t:=by
 have:=enc3_le (t:=t) (i + 1);rw [enc3_succ h] at this;simp only [List.length_append] at this ⊢;omega
theorem wit_len {x : Tapi_Input} {j : Nat} (h : j < x.2.2.length) : ((x.2.2.take j).flatMap bytesB).length + (bytesB x.2.2[j]).length≤(x.2.2.flatMap bytesB).length:=by
 have:=flatMap_take_le x.2.2 bytesB (j + 1);rw [flatMap_take bytesB h] at this;simpa using this
theorem tx_wits (hM : encM t≤1000000000000) {i : Nat} (h : i < t.2.1.length) {q : List Int} (hq : q.length + ((t.2.1[i]).2.2.flatMap bytesB).length + 50≤encM t) :
  runLoop (Ltx_encode_s4 t.2.1[i] (i : Int)) (0,q) = some (.inl (((i + 1 : Nat) : Int),q++(t.2.1[i]).2.2.flatMap bytesB)):=by
 have hmem:=List.getElem_mem h;have hwl:=encM_wits hmem;have hil:=encM_ins t;generalize t.2.1[i] = x at hq hmem hwl ⊢
 have:=runLoop_to (step:=Ltx_encode_s4 x (i : Int)) (fun j=>((j : Int),q++(x.2.2.take j).flatMap bytesB)) x.2.2.length (x:=some (.inl (((i + 1 : Nat) : Int),q++x.2.2.flatMap bytesB))) (fun j hj=>by
  simp only [Ltx_encode_s4];have h1:=wit_len hj;have h2:=encM_wit hmem (List.getElem_mem hj);rw [if_pos (by omega),idx_bind hj,abytes_eq (by simp; omega),bind_some',chk_bind (by simp only [List.length_append,List.nil_append]; omega),wi_succ hj (by omega),flatMap_take bytesB hj];simp) (by
  simp only [Ltx_encode_s4];rw [if_neg (by omega)]
  simp only [Ltx_encode_k4,List.take_length,wi_succ h (by omega)])
 simpa using this
theorem tx_k2 (hM : encM t≤1000000000000) : Ltx_encode_k2 t (enc2 t t.2.2.1.length) w = some (encS t w):=by
 have hil:=encM_ins t;have h2:=enc2_le (t:=t) t.2.2.1.length;unfold Ltx_encode_k2;rw [u32_eq (by simp),bind_some',chk_bind (by simp; omega)];have he : enc2 t t.2.2.1.length++([]++lowB (IntKind.u64.wrap t.2.2.2) 4) = enc3 t 0:=by simp [enc2,enc3]
 rw [he];cases w with
 | false=>simp [encS,enc3]
 | true =>
  rw [if_neg (by simp)]
  have:=runLoop_to (step:=Ltx_encode_s3 t) (fun i=>((i : Int),enc3 t i)) t.2.1.length (x:=some (encS t true)) (fun i hi=>by
   have h3:=enc3_len hi;have h5:=encM_wits (List.getElem_mem hi);simp only [Ltx_encode_s3];rw [if_pos (by omega),idx_bind hi,len_u64 (by omega),size_eq (by omega) (by simp),bind_some',chk_bind (by simp only [List.length_append,List.nil_append] at h3 ⊢; omega),List.nil_append,tx_wits hM hi h3,enc3_succ hi]) (by
   simp only [Ltx_encode_s3];rw [if_neg (by omega)]
   simp [Ltx_encode_k3,enc3,encS])
  simpa using this
theorem enc2_succ {i : Nat} (h : i < t.2.2.1.length) : enc2 t (i + 1) = enc2 t i++lowB (IntKind.u64.wrap (t.2.2.1[i]).1) 8++bytesB (t.2.2.1[i]).2:=by
 simp only [enc2,flatMap_take outB h,outB,List.append_assoc]
theorem tx_k1 (hM : encM t≤1000000000000) : Ltx_encode_k1 t (enc1 t t.2.1.length) w = some (encS t w):=by
 have hol:=encM_outs t;have h2:=enc2_le (t:=t) 0;have h1:=sizeB_len t.2.2.1.length;have he : enc1 t t.2.1.length++sizeB t.2.2.1.length = enc2 t 0:=by simp [enc1,enc2]
 unfold Ltx_encode_k1;rw [len_u64 (by omega),size_eq (by omega) (by simp),bind_some',List.nil_append,chk_bind (by rw [← List.length_append,he]; omega),he]
 have:=runLoop_to (step:=Ltx_encode_s2 t w) (fun i=>((i : Int),enc2 t i)) t.2.2.1.length (x:=some (encS t w)) (fun i hi=>by
  have h3:=enc2_le (t:=t) (i + 1);have h4:=encM_out (List.getElem_mem hi);rw [enc2_succ hi] at h3 ⊢;simp only [List.length_append,lowB_len] at h3;simp only [Ltx_encode_s2];rw [if_pos (by omega),idx_bind hi,u64_eq (by simp),bind_some',chk_bind (by simp; omega),abytes_eq (by simp; omega),bind_some',chk_bind (by simp; omega),wi_succ hi (by omega)];simp) (by
  simp only [Ltx_encode_s2]
  rw [if_neg (by omega),tx_k2 hM])
 simpa using this
theorem enc1_succ {i : Nat} (h : i < t.2.1.length) : enc1 t (i + 1) = enc1 t i++pointB (t.2.1[i]).1++lowB (IntKind.u64.wrap (t.2.1[i]).2.1) 4:=by
 simp only [enc1,flatMap_take inB h,inB,List.append_assoc]
theorem tx_encode (hM : encM t≤1000000000000) : Ltx_encode t w = some (encS t w):=by
 have hil:=encM_ins t;have h1:=sizeB_len t.2.1.length;have he : lowB (IntKind.u64.wrap t.1) 4++sizeB t.2.1.length = enc1 t 0:=by simp [enc1,headB]
 unfold Ltx_encode;rw [u32_eq (by simp),bind_some',len_u64 (by omega),size_eq (by omega) (by simp),bind_some',List.nil_append,List.nil_append,chk_bind (by simp; omega),he]
 have:=runLoop_to (step:=Ltx_encode_s1 t w) (fun i=>((i : Int),enc1 t i)) t.2.1.length (x:=some (encS t w)) (fun i hi=>by
  have h3:=enc1_le (t:=t) (i + 1);rw [enc1_succ hi] at h3 ⊢;simp only [List.length_append,lowB_len,pointB_len] at h3;simp only [Ltx_encode_s1];rw [if_pos (by omega),idx_bind hi,point_eq,bind_some',chk_bind (by simp; omega),u32_eq (by simp),bind_some',chk_bind (by simp; omega),wi_succ hi (by omega)];simp) (by
  simp only [Ltx_encode_s1]
  rw [if_neg (by omega),tx_k1 hM])
 simpa using this

/-! the reference -/
theorem rout_eq {o : Tapi_Output} (h : o.2.length≤140737488354000) : Lref09_Out o = some (outB o):=by
 unfold Lref09_Out;rw [ru64_eq (by simp),bind_some',rbytes_eq (by simp; omega)];rfl
theorem rtx_wits (hM : encM t≤1000000000000) {i : Nat} (h : i < t.2.1.length) {q : List Int} (hq : q.length + ((t.2.1[i]).2.2.flatMap bytesB).length + 50≤encM t) :
  runLoop (Lref09_encode_s4 t.2.1[i] (i : Int)) (0,q) = some (.inl (((i + 1 : Nat) : Int),q++(t.2.1[i]).2.2.flatMap bytesB)):=by
 have hmem:=List.getElem_mem h;have hwl:=encM_wits hmem;have hil:=encM_ins t;generalize t.2.1[i] = x at hq hmem hwl ⊢
 have:=runLoop_to (step:=Lref09_encode_s4 x (i : Int)) (fun j=>((j : Int),q++(x.2.2.take j).flatMap bytesB)) x.2.2.length (x:=some (.inl (((i + 1 : Nat) : Int),q++x.2.2.flatMap bytesB))) (fun j hj=>by
  simp only [Lref09_encode_s4];have h1:=wit_len hj;have h2:=encM_wit hmem (List.getElem_mem hj);rw [if_pos (by omega),idx_bind hj,rbytes_eq (by simp only [List.length_append]; omega),bind_some',wi_succ hj (by omega),flatMap_take bytesB hj];simp) (by
  simp only [Lref09_encode_s4];rw [if_neg (by omega)]
  simp only [Lref09_encode_k4,List.take_length,wi_succ h (by omega)])
 simpa using this
theorem rtx_k2 (hM : encM t≤1000000000000) : Lref09_encode_k2 (enc2 t t.2.2.1.length) t w = some (encS t w):=by
 have hil:=encM_ins t;have h2:=enc2_le (t:=t) t.2.2.1.length;unfold Lref09_encode_k2;rw [ru32_eq (by omega),bind_some'];have he : enc2 t t.2.2.1.length++lowB (IntKind.u64.wrap t.2.2.2) 4 = enc3 t 0:=by simp [enc2,enc3]
 rw [he];cases w with
 | false =>
  by_cases h0 : (0 : Int) < t.2.1.length
  ·refine runLoop_exit ?_
   simp only [Lref09_encode_s3];rw [if_pos h0,show (0 : Int) = ((0 : Nat) : Int) from rfl,idx_bind (by omega)];simp [Lref09_encode_k3,encS,enc3]
  ·refine runLoop_exit ?_
   simp only [Lref09_encode_s3];rw [if_neg h0];simp [Lref09_encode_k3,encS,enc3]
 | true =>
  have:=runLoop_to (step:=Lref09_encode_s3 t true) (fun i=>((i : Int),enc3 t i)) t.2.1.length (x:=some (encS t true)) (fun i hi=>by
   have h3:=enc3_len hi;have h4:=enc3_le (t:=t) i;have h5:=encM_wits (List.getElem_mem hi);simp only [Lref09_encode_s3];rw [if_pos (by omega),idx_bind hi,if_neg (by simp),len_u64 (by omega),rsize_eq (by omega) (by omega),bind_some',rtx_wits hM hi h3,enc3_succ hi]) (by
   simp only [Lref09_encode_s3];rw [if_neg (by omega)]
   simp [Lref09_encode_k3,enc3,encS])
  simpa using this
theorem rtx_k1 (hM : encM t≤1000000000000) : Lref09_encode_k1 (enc1 t t.2.1.length) t w = some (encS t w):=by
 have hol:=encM_outs t;have h0:=enc1_le (t:=t) t.2.1.length;have he : enc1 t t.2.1.length++sizeB t.2.2.1.length = enc2 t 0:=by simp [enc1,enc2]
 unfold Lref09_encode_k1;rw [len_u64 (by omega),rsize_eq (by omega) (by omega),bind_some',he]
 have:=runLoop_to (step:=Lref09_encode_s2 t w) (fun i=>((i : Int),enc2 t i)) t.2.2.1.length (x:=some (encS t w)) (fun i hi=>by
  have h3:=enc2_le (t:=t) (i + 1);have h4:=encM_out (List.getElem_mem hi);rw [enc2_succ hi] at h3 ⊢;simp only [List.length_append,lowB_len] at h3;simp only [Lref09_encode_s2];rw [if_pos (by omega),idx_bind hi,rout_eq (by omega),bind_some',chk_bind (by simp only [outB,List.length_append,lowB_len]; omega),wi_succ hi (by omega)];simp [outB]) (by
  simp only [Lref09_encode_s2]
  rw [if_neg (by omega),rtx_k2 hM])
 simpa using this
theorem rtx_encode (hM : encM t≤1000000000000) : Lref09_encode t w = some (encS t w):=by
 have hil:=encM_ins t;have he : lowB (IntKind.u64.wrap t.1) 4++sizeB t.2.1.length = enc1 t 0:=by simp [enc1,headB]
 unfold Lref09_encode;rw [ru32_eq (by simp),bind_some',len_u64 (by omega),rsize_eq (by omega) (by simp),bind_some',List.nil_append,he]
 have:=runLoop_to (step:=Lref09_encode_s1 t w) (fun i=>((i : Int),enc1 t i)) t.2.1.length (x:=some (encS t w)) (fun i hi=>by
  have h3:=enc1_le (t:=t) (i + 1);rw [enc1_succ hi] at h3 ⊢;simp only [List.length_append,lowB_len,pointB_len] at h3;simp only [Lref09_encode_s1];rw [if_pos (by omega),idx_bind hi,rpoint_eq,bind_some',chk_bind (by simp; omega),ru32_eq (by simp; omega),bind_some',wi_succ hi (by omega)]) (by
  simp only [Lref09_encode_s1]
  rw [if_neg (by omega),rtx_k1 hM])
 simpa using this

/-! limits -/
/-- outputs and inputs keep their limits -/
def limS (t : Tapi_Tx) : Prop:=t.2.1.length≤64∧t.2.2.1.length≤64∧(∀ o∈t.2.2.1,0≤o.1∧o.2.length≤520)∧∀ x∈t.2.1,x.2.2.length≤32∧∀ s∈x.2.2,s.length≤520
noncomputable def fitsS (t : Tapi_Tx) : Bool:=by classical exact decide (limS t∧(encS t true).length≤20000)
theorem sum_le_const {α : Type} (g : α→Nat) (c : Nat) {l : List α} (h : ∀ a∈l,g a≤c) : (l.map g).sum≤c * l.length:=by
 induction l with
 | nil=>simp
 | cons a l ih =>
  have h1:=h a (by simp);have h2:=ih fun b hb=>h b (by simp [hb])
  simp only [List.map_cons,List.sum_cons,List.length_cons,Nat.mul_add];omega
theorem lim_M (h : limS t) : encM t≤3000000:=by
 obtain ⟨h1,h2,h3,h4⟩:=h
 have e1:=sum_le_const (fun x : Tapi_Input=>60 + (x.2.2.map fun s=>20 + s.length).sum) 20000 (l:=t.2.1) (fun x hx=>by
  obtain ⟨g1,g2⟩:=h4 x hx;have:=sum_le_const (fun s : List Int=>20 + s.length) 540 (l:=x.2.2) (fun s hs=>by have:=g2 s hs; omega);have:=Nat.mul_le_mul_left 540 g1
  omega)
 have e2:=sum_le_const (fun o : Tapi_Output=>60 + o.2.length) 600 (l:=t.2.2.1) (fun o ho=>by have:=(h3 o ho).2; omega);have:=Nat.mul_le_mul_left 20000 h1;have:=Nat.mul_le_mul_left 600 h2;unfold encM;omega
/-- a transaction whose lists are short enough for a machine -/
theorem fits_enc (h : fitsS t = true) : encM t≤1000000000000:=by
 classical
 unfold fitsS at h;simp only [decide_eq_true_eq] at h;have:=lim_M h.1;omega
end
section
theorem enc_len {t : Tapi_Tx} {w : Bool} : (encS t w).length≤encM t:=by
 have h1:=enc3_le (t:=t) t.2.1.length
 have h2 : (encS t w).length≤(enc3 t t.2.1.length).length:=by
  cases w <;> simp [encS,enc3]
 omega
noncomputable def weightS (t : Tapi_Tx) : Int:=if fitsS t = true then 3 * (encS t false).length + (encS t true).length else 0

theorem tx_fits3 {x : Tapi_Input} {i n : Nat} (hi : i < n) (hn : n≤64) (hw : x.2.2.length≤32) : runLoop (Ltx_fits_s3 x (i : Int)) 0 = (if ∃ s∈x.2.2,520 < s.length then some (.inr false) else some (.inl ((i + 1 : Nat) : Int))):=by
 refine scan_dec (step:=Ltx_fits_s3 x (i : Int)) (fun j=>(j : Int)) x.2.2 (fun s=>520 < s.length) (some (.inr false)) (some (.inl ((i + 1 : Nat) : Int))) (fun j hj hb=>?_) (fun j hj hb=>?_) ?_ rfl
 ·simp only [Ltx_fits_s3]
  rw [if_pos (by omega),idx_bind hj,if_neg (by omega),wi_succ hj (by omega)]
 ·simp only [Ltx_fits_s3]
  rw [if_pos (by omega),idx_bind hj,if_pos (by omega)];rfl
 ·simp only [Ltx_fits_s3]
  rw [if_neg (by omega)];simp only [Ltx_fits_k3,wi_succ hi (by omega)]
theorem tx_fits (t : Tapi_Tx) : Ltx_fits t = some (fitsS t):=by
 classical
 unfold Ltx_fits fitsS;by_cases h0 : 64 < t.2.1.length∨64 < t.2.2.1.length
 ·rw [if_pos (by omega)]
  have : ¬ limS t:=fun h=>by have:=h.1; have:=h.2.1; omega
  simp [this]
 ·rw [if_neg (by omega)]
  have h1:=scan_dec (step:=Ltx_fits_s1 t) (fun i=>(i : Int)) t.2.2.1 (fun o=>o.1 < 0∨520 < o.2.length) (some false) (Ltx_fits_k1 t) (fun i hi hb=>by
   simp only [Ltx_fits_s1];rw [if_pos (by omega),idx_bind hi,if_neg (by omega),wi_succ hi (by omega)]) (fun i hi hb=>by
   simp only [Ltx_fits_s1];rw [if_pos (by omega),idx_bind hi,if_pos (by omega)];rfl) (by
   simp only [Ltx_fits_s1]
   rw [if_neg (by omega)]) (s:=0) rfl
  rw [h1];by_cases hb1 : ∃ o∈t.2.2.1,o.1 < 0∨520 < o.2.length
  ·rw [if_pos hb1]
   obtain ⟨o,ho,hb⟩:=hb1;have : ¬ limS t:=fun h=>by have:=h.2.2.1 o ho; omega
   simp [this]
  ·rw [if_neg hb1]
   unfold Ltx_fits_k1
   have h2:=scan_dec (step:=Ltx_fits_s2 t) (fun i=>(i : Int)) t.2.1 (fun x=>32 < x.2.2.length∨∃ s∈x.2.2,520 < s.length) (some false) (Ltx_fits_k2 t) (fun i hi hb=>by
    have h3 : ¬ 32 < (t.2.1[i]).2.2.length:=fun h=>hb (.inl h)
    have h4 : ¬ ∃ s∈(t.2.1[i]).2.2,520 < s.length:=fun h=>hb (.inr h)
    simp only [Ltx_fits_s2];rw [if_pos (by omega),idx_bind hi,if_neg (by omega),tx_fits3 hi (by omega) (by omega),if_neg h4]) (fun i hi hb=>by
    simp only [Ltx_fits_s2];rw [if_pos (by omega),idx_bind hi];by_cases h3 : 32 < (t.2.1[i]).2.2.length
    ·rw [if_pos (by omega)]
     rfl
    ·rw [if_neg (by omega),tx_fits3 hi (by omega) (by omega),if_pos (hb.resolve_left h3)]
     rfl) (by
    simp only [Ltx_fits_s2]
    rw [if_neg (by omega)]) (s:=0) rfl
   rw [h2];by_cases hb2 : ∃ x∈t.2.1,32 < x.2.2.length∨∃ s∈x.2.2,520 < s.length
   ·rw [if_pos hb2]
    obtain ⟨x,hx,hb⟩:=hb2
    have : ¬ limS t:=fun h=>by
     obtain ⟨g1,g2⟩:=h.2.2.2 x hx;rcases hb with hb | ⟨s,hs,hb⟩
     ·omega
     ·have:=g2 s hs; omega
    simp [this]
   ·rw [if_neg hb2]
    have hlim : limS t:=by
     refine ⟨by omega,by omega,fun o ho=>?_,fun x hx=>⟨?_,fun s hs=>?_⟩⟩
     ·have : ¬ (o.1 < 0∨520 < o.2.length):=fun h=>hb1 ⟨o,ho,h⟩
      omega
     ·have : ¬ 32 < x.2.2.length:=fun h=>hb2 ⟨x,hx,.inl h⟩
      omega
     ·have : ¬ 520 < s.length:=fun h=>hb2 ⟨x,hx,.inr ⟨s,hs,h⟩⟩
      omega
    unfold Ltx_fits_k2;rw [tx_encode (by have:=lim_M hlim; omega),bind_some'];have e : (((encS t true).length : Int)≤20000)↔((encS t true).length≤20000):=by omega
    simp [hlim,e]
theorem tx_weight (t : Tapi_Tx) : Ltx_Weight t = some (weightS t):=by
 unfold Ltx_Weight weightS;rw [tx_fits,bind_some'];by_cases h : fitsS t = true
 ·rw [if_neg (by simp [h]),tx_encode (fits_enc h),bind_some',tx_encode (fits_enc h),bind_some',if_pos h]
  have h1:=fits_enc h;rw [wi (3 * ((encS t false).length : Int)) (by have:=enc_len (t:=t) (w:=false); omega),wi _ (by have:=enc_len (t:=t) (w:=false); have:=enc_len (t:=t) (w:=true); omega)]
 ·rw [if_pos h,if_neg h]

theorem rtx_fits3 {x : Tapi_Input} {i n : Nat} (hi : i < n) (hn : n≤64) (hw : x.2.2.length≤32) : runLoop (Lref09_Fits_s3 x (i : Int)) 0 = (if ∃ s∈x.2.2,520 < s.length then some (.inr false) else some (.inl ((i + 1 : Nat) : Int))):=by
 refine scan_dec (step:=Lref09_Fits_s3 x (i : Int)) (fun j=>(j : Int)) x.2.2 (fun s=>520 < s.length) (some (.inr false)) (some (.inl ((i + 1 : Nat) : Int))) (fun j hj hb=>?_) (fun j hj hb=>?_) ?_ rfl
 ·simp only [Lref09_Fits_s3]
  rw [if_pos (by omega),idx_bind hj,if_neg (by omega),wi_succ hj (by omega)]
 ·simp only [Lref09_Fits_s3]
  rw [if_pos (by omega),idx_bind hj,if_pos (by omega)];rfl
 ·simp only [Lref09_Fits_s3]
  rw [if_neg (by omega)];simp only [Lref09_Fits_k3,wi_succ hi (by omega)]
theorem rtx_fits (t : Tapi_Tx) : Lref09_Fits t = some (fitsS t):=by
 classical
 unfold Lref09_Fits fitsS;by_cases h0 : 64 < t.2.1.length∨64 < t.2.2.1.length
 ·rw [if_pos (by omega)]
  have : ¬ limS t:=fun h=>by have:=h.1; have:=h.2.1; omega
  simp [this]
 ·rw [if_neg (by omega)]
  have h1:=scan_dec (step:=Lref09_Fits_s1 t) (fun i=>(i : Int)) t.2.2.1 (fun o=>o.1 < 0∨520 < o.2.length) (some false) (Lref09_Fits_k1 t) (fun i hi hb=>by
   simp only [Lref09_Fits_s1];rw [if_pos (by omega),idx_bind hi,if_neg (by omega),wi_succ hi (by omega)]) (fun i hi hb=>by
   simp only [Lref09_Fits_s1];rw [if_pos (by omega),idx_bind hi,if_pos (by omega)];rfl) (by
   simp only [Lref09_Fits_s1]
   rw [if_neg (by omega)]) (s:=0) rfl
  rw [h1];by_cases hb1 : ∃ o∈t.2.2.1,o.1 < 0∨520 < o.2.length
  ·rw [if_pos hb1]
   obtain ⟨o,ho,hb⟩:=hb1;have : ¬ limS t:=fun h=>by have:=h.2.2.1 o ho; omega
   simp [this]
  ·rw [if_neg hb1]
   unfold Lref09_Fits_k1
   have h2:=scan_dec (step:=Lref09_Fits_s2 t) (fun i=>(i : Int)) t.2.1 (fun x=>32 < x.2.2.length∨∃ s∈x.2.2,520 < s.length) (some false) (Lref09_Fits_k2 t) (fun i hi hb=>by
    have h3 : ¬ 32 < (t.2.1[i]).2.2.length:=fun h=>hb (.inl h)
    have h4 : ¬ ∃ s∈(t.2.1[i]).2.2,520 < s.length:=fun h=>hb (.inr h)
    simp only [Lref09_Fits_s2];rw [if_pos (by omega),idx_bind hi,if_neg (by omega),rtx_fits3 hi (by omega) (by omega),if_neg h4]) (fun i hi hb=>by
    simp only [Lref09_Fits_s2];rw [if_pos (by omega),idx_bind hi];by_cases h3 : 32 < (t.2.1[i]).2.2.length
    ·rw [if_pos (by omega)]
     rfl
    ·rw [if_neg (by omega),rtx_fits3 hi (by omega) (by omega),if_pos (hb.resolve_left h3)]
     rfl) (by
    simp only [Lref09_Fits_s2]
    rw [if_neg (by omega)]) (s:=0) rfl
   rw [h2];by_cases hb2 : ∃ x∈t.2.1,32 < x.2.2.length∨∃ s∈x.2.2,520 < s.length
   ·rw [if_pos hb2]
    obtain ⟨x,hx,hb⟩:=hb2
    have : ¬ limS t:=fun h=>by
     obtain ⟨g1,g2⟩:=h.2.2.2 x hx;rcases hb with hb | ⟨s,hs,hb⟩
     ·omega
     ·have:=g2 s hs; omega
    simp [this]
   ·rw [if_neg hb2]
    have hlim : limS t:=by
     refine ⟨by omega,by omega,fun o ho=>?_,fun x hx=>⟨?_,fun s hs=>?_⟩⟩
     ·have : ¬ (o.1 < 0∨520 < o.2.length):=fun h=>hb1 ⟨o,ho,h⟩
      omega
     ·have : ¬ 32 < x.2.2.length:=fun h=>hb2 ⟨x,hx,.inl h⟩
      omega
     ·have : ¬ 520 < s.length:=fun h=>hb2 ⟨x,hx,.inr ⟨s,hs,h⟩⟩
      omega
    unfold Lref09_Fits_k2;rw [rtx_encode (by have:=lim_M hlim; omega),bind_some'];have e : (((encS t true).length : Int)≤20000)↔((encS t true).length≤20000):=by omega
    simp [hlim,e]
end
end Go.Lc
end
