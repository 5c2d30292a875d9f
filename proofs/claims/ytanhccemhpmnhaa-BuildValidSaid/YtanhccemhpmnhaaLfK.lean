import Derived.Test.YtanhccemhpmnhaaLcQ1
import Derived.Test.YtanhccemhpmnhaaLcQ1
import Derived.Test.YtanhccemhpmnhaaTt
namespace Go.Proofs.Ytanhccemhpmnhaa
open Go.RowKit
open Go.Av
open Go.Lc
set_option maxRecDepth 100000
set_option linter.unusedSimpArgs false
set_option linter.unusedVariables false
attribute [simp] tt1 tt2 tt3 tt4 tt5 tt6 tt7 tt8 tt9 tt10 tt11 tt12 tt13 tt14 tt15 tt16 tt17 tt18 tt19 tt21 tt22 tt23 tt24 tt25 tt26 tt27 tt28 tt29 tt30 tt31 tt32 tt33 tt34 tt35 tt36 tt37 tt38 tt39 tt40 tt41 tt42 tt43 tt44 tt45 tt46 tt47 tt48 tt49 tt50 tt51 tt52 tt53 tt54 tt55 tt56 tt57 tt58 tt59 tt60 tt61 tt62 tt63 tt64 tt65 tt67 tt68 tt70 tt71 tt72 tt73 tt74 tt75 tt76 tt77 tt78 tt79 tt80 tt81 tt82 tt83 tt84 tt86 tt87 tt88 tt89 tt90 tt91 tt92 tt94 tt95 tt96 tt97 tt98 tt100 tt101 tt102 tt103 tt104 tt105 tt106 tt107 tt108 tt109 tt110 tt111 tt112 tt113 tt114 tt115 tt116 tt117 tt118 tt119 tt120 tt121 tt122 tt123 tt124 tt125 tt126 tt127 tt128 tt129 tt130 tt131 tt132 tt133 tt134 tt135 tt136 tt137 tt138 ti1 ti2 ti3 ti4 ti5 ti6 ti7 ti8 ti9 ti10 ti11 ti12 ti13 ti14 ti15 ti16 ti17 ti18 ti19 ti21 ti22 ti23 ti24 ti25 ti26 ti27 ti28 ti29 ti30 ti31 ti32 ti33 ti34 ti35 ti36 ti37 ti38 ti39 ti40 ti41 ti42 ti43 ti44 ti45 ti46 ti47 ti48 ti49 ti50 ti51 ti52 ti53 ti54 ti55 ti56 ti57 ti58 ti59 ti60 ti61 ti62 ti63 ti64 ti65 ti67 ti68 ti70 ti71 ti72 ti73 ti74 ti75 ti76 ti77 ti78 ti79 ti80 ti81 ti82 ti83 ti84 ti86 ti87 ti88 ti89 ti90 ti91 ti92 ti94 ti95 ti96 ti97 ti98 ti100 ti101 ti102 ti103 ti104 ti105 ti106 ti107 ti108 ti109 ti110 ti111 ti112 ti113 ti114 ti115 ti116 ti117 ti118 ti119 ti120 ti121 ti122 ti123 ti124 ti125 ti126 ti127 ti128 ti129 ti130 ti131 ti132 ti133 ti134 ti135 ti136 ti137 ti138
@[simp] def eS_I_u8 (x : (List Int)) : List Cell := [.slice .no (intsR .u8 x)]
theorem eS_I_u8_inj : ∀ a b, eS_I_u8 a = eS_I_u8 b → a = b := by
  rintro a b h
  simpa [and_assoc] using h
@[simp↓] theorem eS_I_u8_all (m : List (List Int)) : (∀ l, l ∈ List.map eS_I_u8 m → l.length = 1) = True := all_map_len (fun a => by simp) m
@[simp] theorem eS_I_u8_map {l m : List (List Int)} : List.map eS_I_u8 l = List.map eS_I_u8 m ↔ l = m := map_iff eS_I_u8_inj
@[simp] def eapi_Input (x : Tapi_Input) : List Cell := (arC .u8 x.1.1) ++ ((.v (.int .u32 x.1.2)) :: ((.v (.int .u32 x.2.1)) :: ((.slice .no (List.map eS_I_u8 x.2.2)) :: [])))
theorem eapi_Input_inj : ∀ a b, eapi_Input a = eapi_Input b → a = b := by
  rintro ⟨⟨a_0_0, a_0_1⟩, a_1, a_2⟩ ⟨⟨b_0_0, b_0_1⟩, b_1, b_2⟩ h
  simpa [and_assoc] using h
@[simp↓] theorem eapi_Input_all (m : List Tapi_Input) : (∀ l, l ∈ List.map eapi_Input m → l.length = 35) = True := all_map_len (fun a => by simp) m
@[simp] theorem eapi_Input_map {l m : List Tapi_Input} : List.map eapi_Input l = List.map eapi_Input m ↔ l = m := map_iff eapi_Input_inj
@[simp] def eapi_Output (x : Tapi_Output) : List Cell := [.v (.int .i64 x.1), .slice .no (intsR .u8 x.2)]
theorem eapi_Output_inj : ∀ a b, eapi_Output a = eapi_Output b → a = b := by
  rintro ⟨a_0, a_1⟩ ⟨b_0, b_1⟩ h
  simpa [and_assoc] using h
@[simp↓] theorem eapi_Output_all (m : List Tapi_Output) : (∀ l, l ∈ List.map eapi_Output m → l.length = 2) = True := all_map_len (fun a => by simp) m
@[simp] theorem eapi_Output_map {l m : List Tapi_Output} : List.map eapi_Output l = List.map eapi_Output m ↔ l = m := map_iff eapi_Output_inj
@[simp] def eapi_Spendable (x : Tapi_Spendable) : List Cell := (arC .u8 x.1.1.1) ++ ((.v (.int .u32 x.1.1.2)) :: ((.v (.int .i64 x.1.2.1.1)) :: ((.slice .no (intsR .u8 x.1.2.1.2)) :: ((.v (.int .i64 x.1.2.2.1)) :: ((.v (.bool x.1.2.2.2)) :: ((.v (.int .i64 x.2)) :: []))))))
theorem eapi_Spendable_inj : ∀ a b, eapi_Spendable a = eapi_Spendable b → a = b := by
  rintro ⟨⟨⟨a_0_0_0, a_0_0_1⟩, ⟨a_0_1_0, a_0_1_1⟩, a_0_2, a_0_3⟩, a_1⟩ ⟨⟨⟨b_0_0_0, b_0_0_1⟩, ⟨b_0_1_0, b_0_1_1⟩, b_0_2, b_0_3⟩, b_1⟩ h
  simpa [and_assoc] using h
@[simp↓] theorem eapi_Spendable_all (m : List Tapi_Spendable) : (∀ l, l ∈ List.map eapi_Spendable m → l.length = 38) = True := all_map_len (fun a => by simp) m
@[simp] theorem eapi_Spendable_map {l m : List Tapi_Spendable} : List.map eapi_Spendable l = List.map eapi_Spendable m ↔ l = m := map_iff eapi_Spendable_inj
@[simp] def eapi_Coin (x : Tapi_Coin) : List Cell := (arC .u8 x.1.1) ++ ((.v (.int .u32 x.1.2)) :: ((.v (.int .i64 x.2.1.1)) :: ((.slice .no (intsR .u8 x.2.1.2)) :: ((.v (.int .i64 x.2.2.1)) :: ((.v (.bool x.2.2.2)) :: [])))))
theorem eapi_Coin_inj : ∀ a b, eapi_Coin a = eapi_Coin b → a = b := by
  rintro ⟨⟨a_0_0, a_0_1⟩, ⟨a_1_0, a_1_1⟩, a_2, a_3⟩ ⟨⟨b_0_0, b_0_1⟩, ⟨b_1_0, b_1_1⟩, b_2, b_3⟩ h
  simpa [and_assoc] using h
@[simp↓] theorem eapi_Coin_all (m : List Tapi_Coin) : (∀ l, l ∈ List.map eapi_Coin m → l.length = 37) = True := all_map_len (fun a => by simp) m
@[simp] theorem eapi_Coin_map {l m : List Tapi_Coin} : List.map eapi_Coin l = List.map eapi_Coin m ↔ l = m := map_iff eapi_Coin_inj
@[simp] def eM_api_OutPoint_B (x : Tapi_OutPoint × Bool) : List Cell := ((arC .u8 x.1.1) ++ ((.v (.int .u32 x.1.2)) :: [])) ++ ([.v (.bool x.2)])
theorem eM_api_OutPoint_B_he : ∀ a b : Tapi_OutPoint, kEq ((arC .u8 a.1) ++ ((.v (.int .u32 a.2)) :: [])) ((arC .u8 b.1) ++ ((.v (.int .u32 b.2)) :: [])) = decide (a = b) := by
  rintro ⟨a_0, a_1⟩ ⟨b_0, b_1⟩
  rw [Bool.eq_iff_iff]
  simp [kEq, kEq1]
@[simp] theorem eM_api_OutPoint_B_get {k0 : (Arr 32)} {k1 : Int} {l : List (Tapi_OutPoint × Bool)} : getM 33 ((arC .u8 k0) ++ ((.v (.int .u32 k1)) :: [])) (List.map eM_api_OutPoint_B l) = Option.map (fun v : Bool => ([.v (.bool v)] : List Cell)) (mget (k0, k1) l) := getM_map (eK := (fun k : Tapi_OutPoint => ((arC .u8 k.1) ++ ((.v (.int .u32 k.2)) :: []) : List Cell))) (eV := (fun v : Bool => ([.v (.bool v)] : List Cell))) (fun k => by simp) eM_api_OutPoint_B_he (k0, k1) l
@[simp] theorem eM_api_OutPoint_B_put {k0 : (Arr 32)} {k1 : Int} {v0 : Bool} {l : List (Tapi_OutPoint × Bool)} : putM 33 ((arC .u8 k0) ++ ((.v (.int .u32 k1)) :: [])) ([.v (.bool v0)]) (List.map eM_api_OutPoint_B l) = List.map eM_api_OutPoint_B (mput (k0, k1) v0 l) := putM_map (eK := (fun k : Tapi_OutPoint => ((arC .u8 k.1) ++ ((.v (.int .u32 k.2)) :: []) : List Cell))) (eV := (fun v : Bool => ([.v (.bool v)] : List Cell))) (fun k => by simp) eM_api_OutPoint_B_he (k0, k1) v0 l
@[simp] theorem eM_api_OutPoint_B_gd (o : Option Bool) : (Option.map (fun v : Bool => ([.v (.bool v)] : List Cell)) o).getD ([.v (.bool false)]) = [.v (.bool (o.getD false))] := by cases o <;> rfl
@[simp] theorem eM_api_OutPoint_B_put0 {k0 : (Arr 32)} {k1 : Int} {v0 : Bool} : putM 33 ((arC .u8 k0) ++ ((.v (.int .u32 k1)) :: [])) ([.v (.bool v0)]) [] = List.map eM_api_OutPoint_B (mput (k0, k1) v0 []) := rfl
variable {G : Glob}
def E_Lbuild_Fee (x : Int × Int) : List PV := [.one (.v (.int .i64 x.1)), .one (.v (.int .i64 x.2))]
theorem E_Lbuild_Fee_inj : ∀ a b, E_Lbuild_Fee a = E_Lbuild_Fee b → a = b := by
  rintro ⟨a0, a1⟩ ⟨b0, b1⟩ h
  simpa [E_Lbuild_Fee, and_assoc] using h
noncomputable def G_Lbuild_Fee : List PV → Option (PV × List (List Cell)) := lift E_Lbuild_Fee fun x => (Lbuild_Fee x.1 x.2).map fun y => (.one (.v (.int .i64 y)), [])
theorem G_Lbuild_Fee_eq {a0 : Int} {a1 : Int} {y : Int} (h : Lbuild_Fee a0 a1 = some y) : G_Lbuild_Fee [.one (.v (.int .i64 a0)), .one (.v (.int .i64 a1))] = some (.one (.v (.int .i64 y)), []) := by
  have := lift_eq (g := fun x => (Lbuild_Fee x.1 x.2).map fun y => (.one (.v (.int .i64 y)), [])) E_Lbuild_Fee_inj (a0, a1)
  unfold G_Lbuild_Fee
  rw [show [.one (.v (.int .i64 a0)), .one (.v (.int .i64 a1))] = E_Lbuild_Fee (a0, a1) from rfl, this]
  simp [h]
def E_Lbuild_InputWeight (x : Tapi_Spendable) : List PV := [.agg ((arC .u8 x.1.1.1) ++ ((.v (.int .u32 x.1.1.2)) :: ((.v (.int .i64 x.1.2.1.1)) :: ((.slice .no (intsR .u8 x.1.2.1.2)) :: ((.v (.int .i64 x.1.2.2.1)) :: ((.v (.bool x.1.2.2.2)) :: ((.v (.int .i64 x.2)) :: [])))))))]
theorem E_Lbuild_InputWeight_inj : ∀ a b, E_Lbuild_InputWeight a = E_Lbuild_InputWeight b → a = b := by
  rintro ⟨⟨⟨a0_0_0_0, a0_0_0_1⟩, ⟨a0_0_1_0, a0_0_1_1⟩, a0_0_2, a0_0_3⟩, a0_1⟩ ⟨⟨⟨b0_0_0_0, b0_0_0_1⟩, ⟨b0_0_1_0, b0_0_1_1⟩, b0_0_2, b0_0_3⟩, b0_1⟩ h
  simpa [E_Lbuild_InputWeight, and_assoc] using h
noncomputable def G_Lbuild_InputWeight : List PV → Option (PV × List (List Cell)) := lift E_Lbuild_InputWeight fun x => (Lbuild_InputWeight x).map fun y => (.one (.v (.int .i64 y)), [])
theorem G_Lbuild_InputWeight_eq {a0 : Tapi_Spendable} {y : Int} (h : Lbuild_InputWeight a0 = some y) : G_Lbuild_InputWeight [.agg ((arC .u8 a0.1.1.1) ++ ((.v (.int .u32 a0.1.1.2)) :: ((.v (.int .i64 a0.1.2.1.1)) :: ((.slice .no (intsR .u8 a0.1.2.1.2)) :: ((.v (.int .i64 a0.1.2.2.1)) :: ((.v (.bool a0.1.2.2.2)) :: ((.v (.int .i64 a0.2)) :: [])))))))] = some (.one (.v (.int .i64 y)), []) := by
  have := lift_eq (g := fun x => (Lbuild_InputWeight x).map fun y => (.one (.v (.int .i64 y)), [])) E_Lbuild_InputWeight_inj a0
  unfold G_Lbuild_InputWeight
  rw [show [.agg ((arC .u8 a0.1.1.1) ++ ((.v (.int .u32 a0.1.1.2)) :: ((.v (.int .i64 a0.1.2.1.1)) :: ((.slice .no (intsR .u8 a0.1.2.1.2)) :: ((.v (.int .i64 a0.1.2.2.1)) :: ((.v (.bool a0.1.2.2.2)) :: ((.v (.int .i64 a0.2)) :: [])))))))] = E_Lbuild_InputWeight a0 from rfl, this]
  simp [h]
def E_Llaw34_sane (x : Unit) : List PV := []
theorem E_Llaw34_sane_inj : ∀ a b, E_Llaw34_sane a = E_Llaw34_sane b → a = b := fun _ _ _ => rfl
noncomputable def G_Llaw34_sane : List PV → Option (PV × List (List Cell)) := lift E_Llaw34_sane fun x => (Llaw34_sane).map fun y => (.one (.v (.bool y)), [])
theorem G_Llaw34_sane_eq {y : Bool} (h : Llaw34_sane  = some y) : G_Llaw34_sane [] = some (.one (.v (.bool y)), []) := by
  have := lift_eq (g := fun x => (Llaw34_sane).map fun y => (.one (.v (.bool y)), [])) E_Llaw34_sane_inj ()
  unfold G_Llaw34_sane
  rw [show [] = E_Llaw34_sane () from rfl, this]
  simp [h]
def E_Lmill_New (x : (List Int)) : List PV := [.one (.slice .no (intsR .i64 x))]
theorem E_Lmill_New_inj : ∀ a b, E_Lmill_New a = E_Lmill_New b → a = b := by
  rintro a0 b0 h
  simpa [E_Lmill_New, and_assoc] using h
noncomputable def G_Lmill_New : List PV → Option (PV × List (List Cell)) := lift E_Lmill_New fun x => (Lmill_New x).map fun y => (.io ([.slice .no (intsR .i64 y.1), .v (.int .i64 y.2)]), [])
theorem G_Lmill_New_eq {a0 : (List Int)} {y : Tlightclientmill_Deck} (h : Lmill_New a0 = some y) : G_Lmill_New [.one (.slice .no (intsR .i64 a0))] = some (.io ([.slice .no (intsR .i64 y.1), .v (.int .i64 y.2)]), []) := by
  have := lift_eq (g := fun x => (Lmill_New x).map fun y => (.io ([.slice .no (intsR .i64 y.1), .v (.int .i64 y.2)]), [])) E_Lmill_New_inj a0
  unfold G_Lmill_New
  rw [show [.one (.slice .no (intsR .i64 a0))] = E_Lmill_New a0 from rfl, this]
  simp [h]
def E_Lmade_Script (x : Int) : List PV := [.one (.v (.int .u8 x))]
theorem E_Lmade_Script_inj : ∀ a b, E_Lmade_Script a = E_Lmade_Script b → a = b := by
  rintro a0 b0 h
  simpa [E_Lmade_Script, and_assoc] using h
noncomputable def G_Lmade_Script : List PV → Option (PV × List (List Cell)) := lift E_Lmade_Script fun x => (Lmade_Script x).map fun y => (.one (.own 1 (intsR .u8 y)), [])
theorem G_Lmade_Script_eq {a0 : Int} {y : (List Int)} (h : Lmade_Script a0 = some y) : G_Lmade_Script [.one (.v (.int .u8 a0))] = some (.one (.own 1 (intsR .u8 y)), []) := by
  have := lift_eq (g := fun x => (Lmade_Script x).map fun y => (.one (.own 1 (intsR .u8 y)), [])) E_Lmade_Script_inj a0
  unfold G_Lmade_Script
  rw [show [.one (.v (.int .u8 a0))] = E_Lmade_Script a0 from rfl, this]
  simp [h]
def E_Lmill_Mod (x : Int × Int) : List PV := [.one (.v (.int .i64 x.1)), .one (.v (.int .i64 x.2))]
theorem E_Lmill_Mod_inj : ∀ a b, E_Lmill_Mod a = E_Lmill_Mod b → a = b := by
  rintro ⟨a0, a1⟩ ⟨b0, b1⟩ h
  simpa [E_Lmill_Mod, and_assoc] using h
noncomputable def G_Lmill_Mod : List PV → Option (PV × List (List Cell)) := lift E_Lmill_Mod fun x => (Lmill_Mod x.1 x.2).map fun y => (.one (.v (.int .i64 y)), [])
theorem G_Lmill_Mod_eq {a0 : Int} {a1 : Int} {y : Int} (h : Lmill_Mod a0 a1 = some y) : G_Lmill_Mod [.one (.v (.int .i64 a0)), .one (.v (.int .i64 a1))] = some (.one (.v (.int .i64 y)), []) := by
  have := lift_eq (g := fun x => (Lmill_Mod x.1 x.2).map fun y => (.one (.v (.int .i64 y)), [])) E_Lmill_Mod_inj (a0, a1)
  unfold G_Lmill_Mod
  rw [show [.one (.v (.int .i64 a0)), .one (.v (.int .i64 a1))] = E_Lmill_Mod (a0, a1) from rfl, this]
  simp [h]
def E_Lmill_Deck_Left (x : Tlightclientmill_Deck) : List PV := [.io ([.slice .no (intsR .i64 x.1), .v (.int .i64 x.2)])]
theorem E_Lmill_Deck_Left_inj : ∀ a b, E_Lmill_Deck_Left a = E_Lmill_Deck_Left b → a = b := by
  rintro ⟨a0_0, a0_1⟩ ⟨b0_0, b0_1⟩ h
  simpa [E_Lmill_Deck_Left, and_assoc] using h
noncomputable def G_Lmill_Deck_Left : List PV → Option (PV × List (List Cell)) := lift E_Lmill_Deck_Left fun x => (Lmill_Deck_Left x).map fun y => (.one (.v (.bool y.1)), [[.slice .no (intsR .i64 y.2.1), .v (.int .i64 y.2.2)]])
theorem G_Lmill_Deck_Left_eq {a0 : Tlightclientmill_Deck} {y : Bool × Tlightclientmill_Deck} (h : Lmill_Deck_Left a0 = some y) : G_Lmill_Deck_Left [.io ([.slice .no (intsR .i64 a0.1), .v (.int .i64 a0.2)])] = some (.one (.v (.bool y.1)), [[.slice .no (intsR .i64 y.2.1), .v (.int .i64 y.2.2)]]) := by
  have := lift_eq (g := fun x => (Lmill_Deck_Left x).map fun y => (.one (.v (.bool y.1)), [[.slice .no (intsR .i64 y.2.1), .v (.int .i64 y.2.2)]])) E_Lmill_Deck_Left_inj a0
  unfold G_Lmill_Deck_Left
  rw [show [.io ([.slice .no (intsR .i64 a0.1), .v (.int .i64 a0.2)])] = E_Lmill_Deck_Left a0 from rfl, this]
  simp [h]
def E_Lmill_Deck_Next (x : Tlightclientmill_Deck × Int) : List PV := [.io ([.slice .no (intsR .i64 x.1.1), .v (.int .i64 x.1.2)]), .one (.v (.int .i64 x.2))]
theorem E_Lmill_Deck_Next_inj : ∀ a b, E_Lmill_Deck_Next a = E_Lmill_Deck_Next b → a = b := by
  rintro ⟨⟨a0_0, a0_1⟩, a1⟩ ⟨⟨b0_0, b0_1⟩, b1⟩ h
  simpa [E_Lmill_Deck_Next, and_assoc] using h
noncomputable def G_Lmill_Deck_Next : List PV → Option (PV × List (List Cell)) := lift E_Lmill_Deck_Next fun x => (Lmill_Deck_Next x.1 x.2).map fun y => (.one (.v (.int .i64 y.1)), [[.slice .no (intsR .i64 y.2.1), .v (.int .i64 y.2.2)]])
theorem G_Lmill_Deck_Next_eq {a0 : Tlightclientmill_Deck} {a1 : Int} {y : Int × Tlightclientmill_Deck} (h : Lmill_Deck_Next a0 a1 = some y) : G_Lmill_Deck_Next [.io ([.slice .no (intsR .i64 a0.1), .v (.int .i64 a0.2)]), .one (.v (.int .i64 a1))] = some (.one (.v (.int .i64 y.1)), [[.slice .no (intsR .i64 y.2.1), .v (.int .i64 y.2.2)]]) := by
  have := lift_eq (g := fun x => (Lmill_Deck_Next x.1 x.2).map fun y => (.one (.v (.int .i64 y.1)), [[.slice .no (intsR .i64 y.2.1), .v (.int .i64 y.2.2)]])) E_Lmill_Deck_Next_inj (a0, a1)
  unfold G_Lmill_Deck_Next
  rw [show [.io ([.slice .no (intsR .i64 a0.1), .v (.int .i64 a0.2)]), .one (.v (.int .i64 a1))] = E_Lmill_Deck_Next (a0, a1) from rfl, this]
  simp [h]
def E_Lmill_Deck_Range (x : Tlightclientmill_Deck × Int × Int) : List PV := [.io ([.slice .no (intsR .i64 x.1.1), .v (.int .i64 x.1.2)]), .one (.v (.int .i64 x.2.1)), .one (.v (.int .i64 x.2.2))]
theorem E_Lmill_Deck_Range_inj : ∀ a b, E_Lmill_Deck_Range a = E_Lmill_Deck_Range b → a = b := by
  rintro ⟨⟨a0_0, a0_1⟩, a1, a2⟩ ⟨⟨b0_0, b0_1⟩, b1, b2⟩ h
  simpa [E_Lmill_Deck_Range, and_assoc] using h
noncomputable def G_Lmill_Deck_Range : List PV → Option (PV × List (List Cell)) := lift E_Lmill_Deck_Range fun x => (Lmill_Deck_Range x.1 x.2.1 x.2.2).map fun y => (.one (.v (.int .i64 y.1)), [[.slice .no (intsR .i64 y.2.1), .v (.int .i64 y.2.2)]])
theorem G_Lmill_Deck_Range_eq {a0 : Tlightclientmill_Deck} {a1 : Int} {a2 : Int} {y : Int × Tlightclientmill_Deck} (h : Lmill_Deck_Range a0 a1 a2 = some y) : G_Lmill_Deck_Range [.io ([.slice .no (intsR .i64 a0.1), .v (.int .i64 a0.2)]), .one (.v (.int .i64 a1)), .one (.v (.int .i64 a2))] = some (.one (.v (.int .i64 y.1)), [[.slice .no (intsR .i64 y.2.1), .v (.int .i64 y.2.2)]]) := by
  have := lift_eq (g := fun x => (Lmill_Deck_Range x.1 x.2.1 x.2.2).map fun y => (.one (.v (.int .i64 y.1)), [[.slice .no (intsR .i64 y.2.1), .v (.int .i64 y.2.2)]])) E_Lmill_Deck_Range_inj (a0, a1, a2)
  unfold G_Lmill_Deck_Range
  rw [show [.io ([.slice .no (intsR .i64 a0.1), .v (.int .i64 a0.2)]), .one (.v (.int .i64 a1)), .one (.v (.int .i64 a2))] = E_Lmill_Deck_Range (a0, a1, a2) from rfl, this]
  simp [h]
def E_Lmill_Hash (x : Tlightclientmill_Deck) : List PV := [.io ([.slice .no (intsR .i64 x.1), .v (.int .i64 x.2)])]
theorem E_Lmill_Hash_inj : ∀ a b, E_Lmill_Hash a = E_Lmill_Hash b → a = b := by
  rintro ⟨a0_0, a0_1⟩ ⟨b0_0, b0_1⟩ h
  simpa [E_Lmill_Hash, and_assoc] using h
noncomputable def G_Lmill_Hash : List PV → Option (PV × List (List Cell)) := lift E_Lmill_Hash fun x => (Lmill_Hash x).map fun y => (.agg (arC .u8 y.1), [[.slice .no (intsR .i64 y.2.1), .v (.int .i64 y.2.2)]])
theorem G_Lmill_Hash_eq {a0 : Tlightclientmill_Deck} {y : (Arr 32) × Tlightclientmill_Deck} (h : Lmill_Hash a0 = some y) : G_Lmill_Hash [.io ([.slice .no (intsR .i64 a0.1), .v (.int .i64 a0.2)])] = some (.agg (arC .u8 y.1), [[.slice .no (intsR .i64 y.2.1), .v (.int .i64 y.2.2)]]) := by
  have := lift_eq (g := fun x => (Lmill_Hash x).map fun y => (.agg (arC .u8 y.1), [[.slice .no (intsR .i64 y.2.1), .v (.int .i64 y.2.2)]])) E_Lmill_Hash_inj a0
  unfold G_Lmill_Hash
  rw [show [.io ([.slice .no (intsR .i64 a0.1), .v (.int .i64 a0.2)])] = E_Lmill_Hash a0 from rfl, this]
  simp [h]
def E_Lmill_Tx (x : Tlightclientmill_Deck) : List PV := [.io ([.slice .no (intsR .i64 x.1), .v (.int .i64 x.2)])]
theorem E_Lmill_Tx_inj : ∀ a b, E_Lmill_Tx a = E_Lmill_Tx b → a = b := by
  rintro ⟨a0_0, a0_1⟩ ⟨b0_0, b0_1⟩ h
  simpa [E_Lmill_Tx, and_assoc] using h
noncomputable def G_Lmill_Tx : List PV → Option (PV × List (List Cell)) := lift E_Lmill_Tx fun x => (Lmill_Tx x).map fun y => (.agg ([.v (.int .u32 y.1.1), .own 35 (List.map eapi_Input y.1.2.1), .own 2 (List.map eapi_Output y.1.2.2.1), .v (.int .u32 y.1.2.2.2)]), [[.slice .no (intsR .i64 y.2.1), .v (.int .i64 y.2.2)]])
theorem G_Lmill_Tx_eq {a0 : Tlightclientmill_Deck} {y : Tapi_Tx × Tlightclientmill_Deck} (h : Lmill_Tx a0 = some y) : G_Lmill_Tx [.io ([.slice .no (intsR .i64 a0.1), .v (.int .i64 a0.2)])] = some (.agg ([.v (.int .u32 y.1.1), .own 35 (List.map eapi_Input y.1.2.1), .own 2 (List.map eapi_Output y.1.2.2.1), .v (.int .u32 y.1.2.2.2)]), [[.slice .no (intsR .i64 y.2.1), .v (.int .i64 y.2.2)]]) := by
  have := lift_eq (g := fun x => (Lmill_Tx x).map fun y => (.agg ([.v (.int .u32 y.1.1), .own 35 (List.map eapi_Input y.1.2.1), .own 2 (List.map eapi_Output y.1.2.2.1), .v (.int .u32 y.1.2.2.2)]), [[.slice .no (intsR .i64 y.2.1), .v (.int .i64 y.2.2)]])) E_Lmill_Tx_inj a0
  unfold G_Lmill_Tx
  rw [show [.io ([.slice .no (intsR .i64 a0.1), .v (.int .i64 a0.2)])] = E_Lmill_Tx a0 from rfl, this]
  simp [h]
def E_Lmill_Spendables (x : Tlightclientmill_Deck × Int) : List PV := [.io ([.slice .no (intsR .i64 x.1.1), .v (.int .i64 x.1.2)]), .one (.v (.int .i64 x.2))]
theorem E_Lmill_Spendables_inj : ∀ a b, E_Lmill_Spendables a = E_Lmill_Spendables b → a = b := by
  rintro ⟨⟨a0_0, a0_1⟩, a1⟩ ⟨⟨b0_0, b0_1⟩, b1⟩ h
  simpa [E_Lmill_Spendables, and_assoc] using h
noncomputable def G_Lmill_Spendables : List PV → Option (PV × List (List Cell)) := lift E_Lmill_Spendables fun x => (Lmill_Spendables x.1 x.2).map fun y => (.one (.own 38 (List.map eapi_Spendable y.1)), [[.slice .no (intsR .i64 y.2.1), .v (.int .i64 y.2.2)]])
theorem G_Lmill_Spendables_eq {a0 : Tlightclientmill_Deck} {a1 : Int} {y : (List Tapi_Spendable) × Tlightclientmill_Deck} (h : Lmill_Spendables a0 a1 = some y) : G_Lmill_Spendables [.io ([.slice .no (intsR .i64 a0.1), .v (.int .i64 a0.2)]), .one (.v (.int .i64 a1))] = some (.one (.own 38 (List.map eapi_Spendable y.1)), [[.slice .no (intsR .i64 y.2.1), .v (.int .i64 y.2.2)]]) := by
  have := lift_eq (g := fun x => (Lmill_Spendables x.1 x.2).map fun y => (.one (.own 38 (List.map eapi_Spendable y.1)), [[.slice .no (intsR .i64 y.2.1), .v (.int .i64 y.2.2)]])) E_Lmill_Spendables_inj (a0, a1)
  unfold G_Lmill_Spendables
  rw [show [.io ([.slice .no (intsR .i64 a0.1), .v (.int .i64 a0.2)]), .one (.v (.int .i64 a1))] = E_Lmill_Spendables (a0, a1) from rfl, this]
  simp [h]
def E_Lref34_in (x : Int × Int × Int) : List PV := [.one (.v (.int .i64 x.1)), .one (.v (.int .i64 x.2.1)), .one (.v (.int .i64 x.2.2))]
theorem E_Lref34_in_inj : ∀ a b, E_Lref34_in a = E_Lref34_in b → a = b := by
  rintro ⟨a0, a1, a2⟩ ⟨b0, b1, b2⟩ h
  simpa [E_Lref34_in, and_assoc] using h
noncomputable def G_Lref34_in : List PV → Option (PV × List (List Cell)) := lift E_Lref34_in fun x => (Lref34_in x.1 x.2.1 x.2.2).map fun y => (.one (.v (.bool y)), [])
theorem G_Lref34_in_eq {a0 : Int} {a1 : Int} {a2 : Int} {y : Bool} (h : Lref34_in a0 a1 a2 = some y) : G_Lref34_in [.one (.v (.int .i64 a0)), .one (.v (.int .i64 a1)), .one (.v (.int .i64 a2))] = some (.one (.v (.bool y)), []) := by
  have := lift_eq (g := fun x => (Lref34_in x.1 x.2.1 x.2.2).map fun y => (.one (.v (.bool y)), [])) E_Lref34_in_inj (a0, a1, a2)
  unfold G_Lref34_in
  rw [show [.one (.v (.int .i64 a0)), .one (.v (.int .i64 a1)), .one (.v (.int .i64 a2))] = E_Lref34_in (a0, a1, a2) from rfl, this]
  simp [h]
def E_Lref34_Fee (x : Int × Int) : List PV := [.one (.v (.int .i64 x.1)), .one (.v (.int .i64 x.2))]
theorem E_Lref34_Fee_inj : ∀ a b, E_Lref34_Fee a = E_Lref34_Fee b → a = b := by
  rintro ⟨a0, a1⟩ ⟨b0, b1⟩ h
  simpa [E_Lref34_Fee, and_assoc] using h
noncomputable def G_Lref34_Fee : List PV → Option (PV × List (List Cell)) := lift E_Lref34_Fee fun x => (Lref34_Fee x.1 x.2).map fun y => (.one (.v (.int .i64 y)), [])
theorem G_Lref34_Fee_eq {a0 : Int} {a1 : Int} {y : Int} (h : Lref34_Fee a0 a1 = some y) : G_Lref34_Fee [.one (.v (.int .i64 a0)), .one (.v (.int .i64 a1))] = some (.one (.v (.int .i64 y)), []) := by
  have := lift_eq (g := fun x => (Lref34_Fee x.1 x.2).map fun y => (.one (.v (.int .i64 y)), [])) E_Lref34_Fee_inj (a0, a1)
  unfold G_Lref34_Fee
  rw [show [.one (.v (.int .i64 a0)), .one (.v (.int .i64 a1))] = E_Lref34_Fee (a0, a1) from rfl, this]
  simp [h]
def E_Lref34_InputWeight (x : Tapi_Spendable) : List PV := [.agg ((arC .u8 x.1.1.1) ++ ((.v (.int .u32 x.1.1.2)) :: ((.v (.int .i64 x.1.2.1.1)) :: ((.slice .no (intsR .u8 x.1.2.1.2)) :: ((.v (.int .i64 x.1.2.2.1)) :: ((.v (.bool x.1.2.2.2)) :: ((.v (.int .i64 x.2)) :: [])))))))]
theorem E_Lref34_InputWeight_inj : ∀ a b, E_Lref34_InputWeight a = E_Lref34_InputWeight b → a = b := by
  rintro ⟨⟨⟨a0_0_0_0, a0_0_0_1⟩, ⟨a0_0_1_0, a0_0_1_1⟩, a0_0_2, a0_0_3⟩, a0_1⟩ ⟨⟨⟨b0_0_0_0, b0_0_0_1⟩, ⟨b0_0_1_0, b0_0_1_1⟩, b0_0_2, b0_0_3⟩, b0_1⟩ h
  simpa [E_Lref34_InputWeight, and_assoc] using h
noncomputable def G_Lref34_InputWeight : List PV → Option (PV × List (List Cell)) := lift E_Lref34_InputWeight fun x => (Lref34_InputWeight x).map fun y => (.one (.v (.int .i64 y)), [])
theorem G_Lref34_InputWeight_eq {a0 : Tapi_Spendable} {y : Int} (h : Lref34_InputWeight a0 = some y) : G_Lref34_InputWeight [.agg ((arC .u8 a0.1.1.1) ++ ((.v (.int .u32 a0.1.1.2)) :: ((.v (.int .i64 a0.1.2.1.1)) :: ((.slice .no (intsR .u8 a0.1.2.1.2)) :: ((.v (.int .i64 a0.1.2.2.1)) :: ((.v (.bool a0.1.2.2.2)) :: ((.v (.int .i64 a0.2)) :: [])))))))] = some (.one (.v (.int .i64 y)), []) := by
  have := lift_eq (g := fun x => (Lref34_InputWeight x).map fun y => (.one (.v (.int .i64 y)), [])) E_Lref34_InputWeight_inj a0
  unfold G_Lref34_InputWeight
  rw [show [.agg ((arC .u8 a0.1.1.1) ++ ((.v (.int .u32 a0.1.1.2)) :: ((.v (.int .i64 a0.1.2.1.1)) :: ((.slice .no (intsR .u8 a0.1.2.1.2)) :: ((.v (.int .i64 a0.1.2.2.1)) :: ((.v (.bool a0.1.2.2.2)) :: ((.v (.int .i64 a0.2)) :: [])))))))] = E_Lref34_InputWeight a0 from rfl, this]
  simp [h]
def E_Lslices_Clone_of__api_Input_api_Input (x : (List Tapi_Input)) : List PV := [.one (.slice .no (List.map eapi_Input x))]
theorem E_Lslices_Clone_of__api_Input_api_Input_inj : ∀ a b, E_Lslices_Clone_of__api_Input_api_Input a = E_Lslices_Clone_of__api_Input_api_Input b → a = b := by
  rintro a0 b0 h
  simpa [E_Lslices_Clone_of__api_Input_api_Input, and_assoc] using h
noncomputable def G_Lslices_Clone_of__api_Input_api_Input : List PV → Option (PV × List (List Cell)) := lift E_Lslices_Clone_of__api_Input_api_Input fun x => (Lslices_Clone_of__api_Input_api_Input x).map fun y => (.one (.own 35 (List.map eapi_Input y)), [])
theorem G_Lslices_Clone_of__api_Input_api_Input_eq {a0 : (List Tapi_Input)} {y : (List Tapi_Input)} (h : Lslices_Clone_of__api_Input_api_Input a0 = some y) : G_Lslices_Clone_of__api_Input_api_Input [.one (.slice .no (List.map eapi_Input a0))] = some (.one (.own 35 (List.map eapi_Input y)), []) := by
  have := lift_eq (g := fun x => (Lslices_Clone_of__api_Input_api_Input x).map fun y => (.one (.own 35 (List.map eapi_Input y)), [])) E_Lslices_Clone_of__api_Input_api_Input_inj a0
  unfold G_Lslices_Clone_of__api_Input_api_Input
  rw [show [.one (.slice .no (List.map eapi_Input a0))] = E_Lslices_Clone_of__api_Input_api_Input a0 from rfl, this]
  simp [h]
def E_Lcodec_extend (x : (List Int) × (List Int)) : List PV := [.one (.slice .no (intsR .u8 x.1)), .one (.slice .no (intsR .u8 x.2))]
theorem E_Lcodec_extend_inj : ∀ a b, E_Lcodec_extend a = E_Lcodec_extend b → a = b := by
  rintro ⟨a0, a1⟩ ⟨b0, b1⟩ h
  simpa [E_Lcodec_extend, and_assoc] using h
noncomputable def G_Lcodec_extend : List PV → Option (PV × List (List Cell)) := lift E_Lcodec_extend fun x => (Lcodec_extend x.1 x.2).map fun y => (.one (.own 1 (intsR .u8 y)), [])
theorem G_Lcodec_extend_eq {a0 : (List Int)} {a1 : (List Int)} {y : (List Int)} (h : Lcodec_extend a0 a1 = some y) : G_Lcodec_extend [.one (.slice .no (intsR .u8 a0)), .one (.slice .no (intsR .u8 a1))] = some (.one (.own 1 (intsR .u8 y)), []) := by
  have := lift_eq (g := fun x => (Lcodec_extend x.1 x.2).map fun y => (.one (.own 1 (intsR .u8 y)), [])) E_Lcodec_extend_inj (a0, a1)
  unfold G_Lcodec_extend
  rw [show [.one (.slice .no (intsR .u8 a0)), .one (.slice .no (intsR .u8 a1))] = E_Lcodec_extend (a0, a1) from rfl, this]
  simp [h]
def E_Lcodec_lowest (x : Int × Int) : List PV := [.one (.v (.int .u64 x.1)), .one (.v (.int .i64 x.2))]
theorem E_Lcodec_lowest_inj : ∀ a b, E_Lcodec_lowest a = E_Lcodec_lowest b → a = b := by
  rintro ⟨a0, a1⟩ ⟨b0, b1⟩ h
  simpa [E_Lcodec_lowest, and_assoc] using h
noncomputable def G_Lcodec_lowest : List PV → Option (PV × List (List Cell)) := lift E_Lcodec_lowest fun x => (Lcodec_lowest x.1 x.2).map fun y => (.one (.own 1 (intsR .u8 y)), [])
theorem G_Lcodec_lowest_eq {a0 : Int} {a1 : Int} {y : (List Int)} (h : Lcodec_lowest a0 a1 = some y) : G_Lcodec_lowest [.one (.v (.int .u64 a0)), .one (.v (.int .i64 a1))] = some (.one (.own 1 (intsR .u8 y)), []) := by
  have := lift_eq (g := fun x => (Lcodec_lowest x.1 x.2).map fun y => (.one (.own 1 (intsR .u8 y)), [])) E_Lcodec_lowest_inj (a0, a1)
  unfold G_Lcodec_lowest
  rw [show [.one (.v (.int .u64 a0)), .one (.v (.int .i64 a1))] = E_Lcodec_lowest (a0, a1) from rfl, this]
  simp [h]
def E_Lcodec_AppendU32 (x : (List Int) × Int) : List PV := [.one (.slice .no (intsR .u8 x.1)), .one (.v (.int .u32 x.2))]
theorem E_Lcodec_AppendU32_inj : ∀ a b, E_Lcodec_AppendU32 a = E_Lcodec_AppendU32 b → a = b := by
  rintro ⟨a0, a1⟩ ⟨b0, b1⟩ h
  simpa [E_Lcodec_AppendU32, and_assoc] using h
noncomputable def G_Lcodec_AppendU32 : List PV → Option (PV × List (List Cell)) := lift E_Lcodec_AppendU32 fun x => (Lcodec_AppendU32 x.1 x.2).map fun y => (.one (.own 1 (intsR .u8 y)), [])
theorem G_Lcodec_AppendU32_eq {a0 : (List Int)} {a1 : Int} {y : (List Int)} (h : Lcodec_AppendU32 a0 a1 = some y) : G_Lcodec_AppendU32 [.one (.slice .no (intsR .u8 a0)), .one (.v (.int .u32 a1))] = some (.one (.own 1 (intsR .u8 y)), []) := by
  have := lift_eq (g := fun x => (Lcodec_AppendU32 x.1 x.2).map fun y => (.one (.own 1 (intsR .u8 y)), [])) E_Lcodec_AppendU32_inj (a0, a1)
  unfold G_Lcodec_AppendU32
  rw [show [.one (.slice .no (intsR .u8 a0)), .one (.v (.int .u32 a1))] = E_Lcodec_AppendU32 (a0, a1) from rfl, this]
  simp [h]
def E_Lcodec_AppendU64 (x : (List Int) × Int) : List PV := [.one (.slice .no (intsR .u8 x.1)), .one (.v (.int .u64 x.2))]
theorem E_Lcodec_AppendU64_inj : ∀ a b, E_Lcodec_AppendU64 a = E_Lcodec_AppendU64 b → a = b := by
  rintro ⟨a0, a1⟩ ⟨b0, b1⟩ h
  simpa [E_Lcodec_AppendU64, and_assoc] using h
noncomputable def G_Lcodec_AppendU64 : List PV → Option (PV × List (List Cell)) := lift E_Lcodec_AppendU64 fun x => (Lcodec_AppendU64 x.1 x.2).map fun y => (.one (.own 1 (intsR .u8 y)), [])
theorem G_Lcodec_AppendU64_eq {a0 : (List Int)} {a1 : Int} {y : (List Int)} (h : Lcodec_AppendU64 a0 a1 = some y) : G_Lcodec_AppendU64 [.one (.slice .no (intsR .u8 a0)), .one (.v (.int .u64 a1))] = some (.one (.own 1 (intsR .u8 y)), []) := by
  have := lift_eq (g := fun x => (Lcodec_AppendU64 x.1 x.2).map fun y => (.one (.own 1 (intsR .u8 y)), [])) E_Lcodec_AppendU64_inj (a0, a1)
  unfold G_Lcodec_AppendU64
  rw [show [.one (.slice .no (intsR .u8 a0)), .one (.v (.int .u64 a1))] = E_Lcodec_AppendU64 (a0, a1) from rfl, this]
  simp [h]
def E_Lcodec_AppendU16 (x : (List Int) × Int) : List PV := [.one (.slice .no (intsR .u8 x.1)), .one (.v (.int .u16 x.2))]
theorem E_Lcodec_AppendU16_inj : ∀ a b, E_Lcodec_AppendU16 a = E_Lcodec_AppendU16 b → a = b := by
  rintro ⟨a0, a1⟩ ⟨b0, b1⟩ h
  simpa [E_Lcodec_AppendU16, and_assoc] using h
noncomputable def G_Lcodec_AppendU16 : List PV → Option (PV × List (List Cell)) := lift E_Lcodec_AppendU16 fun x => (Lcodec_AppendU16 x.1 x.2).map fun y => (.one (.own 1 (intsR .u8 y)), [])
theorem G_Lcodec_AppendU16_eq {a0 : (List Int)} {a1 : Int} {y : (List Int)} (h : Lcodec_AppendU16 a0 a1 = some y) : G_Lcodec_AppendU16 [.one (.slice .no (intsR .u8 a0)), .one (.v (.int .u16 a1))] = some (.one (.own 1 (intsR .u8 y)), []) := by
  have := lift_eq (g := fun x => (Lcodec_AppendU16 x.1 x.2).map fun y => (.one (.own 1 (intsR .u8 y)), [])) E_Lcodec_AppendU16_inj (a0, a1)
  unfold G_Lcodec_AppendU16
  rw [show [.one (.slice .no (intsR .u8 a0)), .one (.v (.int .u16 a1))] = E_Lcodec_AppendU16 (a0, a1) from rfl, this]
  simp [h]
def E_Lcodec_AppendSize (x : (List Int) × Int) : List PV := [.one (.slice .no (intsR .u8 x.1)), .one (.v (.int .u64 x.2))]
theorem E_Lcodec_AppendSize_inj : ∀ a b, E_Lcodec_AppendSize a = E_Lcodec_AppendSize b → a = b := by
  rintro ⟨a0, a1⟩ ⟨b0, b1⟩ h
  simpa [E_Lcodec_AppendSize, and_assoc] using h
noncomputable def G_Lcodec_AppendSize : List PV → Option (PV × List (List Cell)) := lift E_Lcodec_AppendSize fun x => (Lcodec_AppendSize x.1 x.2).map fun y => (.one (.own 1 (intsR .u8 y)), [])
theorem G_Lcodec_AppendSize_eq {a0 : (List Int)} {a1 : Int} {y : (List Int)} (h : Lcodec_AppendSize a0 a1 = some y) : G_Lcodec_AppendSize [.one (.slice .no (intsR .u8 a0)), .one (.v (.int .u64 a1))] = some (.one (.own 1 (intsR .u8 y)), []) := by
  have := lift_eq (g := fun x => (Lcodec_AppendSize x.1 x.2).map fun y => (.one (.own 1 (intsR .u8 y)), [])) E_Lcodec_AppendSize_inj (a0, a1)
  unfold G_Lcodec_AppendSize
  rw [show [.one (.slice .no (intsR .u8 a0)), .one (.v (.int .u64 a1))] = E_Lcodec_AppendSize (a0, a1) from rfl, this]
  simp [h]
def E_Lcodec_AppendHash (x : (List Int) × (Arr 32)) : List PV := [.one (.slice .no (intsR .u8 x.1)), .agg (arC .u8 x.2)]
theorem E_Lcodec_AppendHash_inj : ∀ a b, E_Lcodec_AppendHash a = E_Lcodec_AppendHash b → a = b := by
  rintro ⟨a0, a1⟩ ⟨b0, b1⟩ h
  simpa [E_Lcodec_AppendHash, and_assoc] using h
noncomputable def G_Lcodec_AppendHash : List PV → Option (PV × List (List Cell)) := lift E_Lcodec_AppendHash fun x => (Lcodec_AppendHash x.1 x.2).map fun y => (.one (.own 1 (intsR .u8 y)), [])
theorem G_Lcodec_AppendHash_eq {a0 : (List Int)} {a1 : (Arr 32)} {y : (List Int)} (h : Lcodec_AppendHash a0 a1 = some y) : G_Lcodec_AppendHash [.one (.slice .no (intsR .u8 a0)), .agg (arC .u8 a1)] = some (.one (.own 1 (intsR .u8 y)), []) := by
  have := lift_eq (g := fun x => (Lcodec_AppendHash x.1 x.2).map fun y => (.one (.own 1 (intsR .u8 y)), [])) E_Lcodec_AppendHash_inj (a0, a1)
  unfold G_Lcodec_AppendHash
  rw [show [.one (.slice .no (intsR .u8 a0)), .agg (arC .u8 a1)] = E_Lcodec_AppendHash (a0, a1) from rfl, this]
  simp [h]
def E_Ltx_Point (x : Tapi_OutPoint) : List PV := [.agg ((arC .u8 x.1) ++ ((.v (.int .u32 x.2)) :: []))]
theorem E_Ltx_Point_inj : ∀ a b, E_Ltx_Point a = E_Ltx_Point b → a = b := by
  rintro ⟨a0_0, a0_1⟩ ⟨b0_0, b0_1⟩ h
  simpa [E_Ltx_Point, and_assoc] using h
noncomputable def G_Ltx_Point : List PV → Option (PV × List (List Cell)) := lift E_Ltx_Point fun x => (Ltx_Point x).map fun y => (.one (.own 1 (intsR .u8 y)), [])
theorem G_Ltx_Point_eq {a0 : Tapi_OutPoint} {y : (List Int)} (h : Ltx_Point a0 = some y) : G_Ltx_Point [.agg ((arC .u8 a0.1) ++ ((.v (.int .u32 a0.2)) :: []))] = some (.one (.own 1 (intsR .u8 y)), []) := by
  have := lift_eq (g := fun x => (Ltx_Point x).map fun y => (.one (.own 1 (intsR .u8 y)), [])) E_Ltx_Point_inj a0
  unfold G_Ltx_Point
  rw [show [.agg ((arC .u8 a0.1) ++ ((.v (.int .u32 a0.2)) :: []))] = E_Ltx_Point a0 from rfl, this]
  simp [h]
def E_Lcodec_AppendBytes (x : (List Int) × (List Int)) : List PV := [.one (.slice .no (intsR .u8 x.1)), .one (.slice .no (intsR .u8 x.2))]
theorem E_Lcodec_AppendBytes_inj : ∀ a b, E_Lcodec_AppendBytes a = E_Lcodec_AppendBytes b → a = b := by
  rintro ⟨a0, a1⟩ ⟨b0, b1⟩ h
  simpa [E_Lcodec_AppendBytes, and_assoc] using h
noncomputable def G_Lcodec_AppendBytes : List PV → Option (PV × List (List Cell)) := lift E_Lcodec_AppendBytes fun x => (Lcodec_AppendBytes x.1 x.2).map fun y => (.one (.own 1 (intsR .u8 y)), [])
theorem G_Lcodec_AppendBytes_eq {a0 : (List Int)} {a1 : (List Int)} {y : (List Int)} (h : Lcodec_AppendBytes a0 a1 = some y) : G_Lcodec_AppendBytes [.one (.slice .no (intsR .u8 a0)), .one (.slice .no (intsR .u8 a1))] = some (.one (.own 1 (intsR .u8 y)), []) := by
  have := lift_eq (g := fun x => (Lcodec_AppendBytes x.1 x.2).map fun y => (.one (.own 1 (intsR .u8 y)), [])) E_Lcodec_AppendBytes_inj (a0, a1)
  unfold G_Lcodec_AppendBytes
  rw [show [.one (.slice .no (intsR .u8 a0)), .one (.slice .no (intsR .u8 a1))] = E_Lcodec_AppendBytes (a0, a1) from rfl, this]
  simp [h]
def E_Ltx_encode (x : Tapi_Tx × Bool) : List PV := [.agg ([.v (.int .u32 x.1.1), .slice .no (List.map eapi_Input x.1.2.1), .slice .no (List.map eapi_Output x.1.2.2.1), .v (.int .u32 x.1.2.2.2)]), .one (.v (.bool x.2))]
theorem E_Ltx_encode_inj : ∀ a b, E_Ltx_encode a = E_Ltx_encode b → a = b := by
  rintro ⟨⟨a0_0, a0_1, a0_2, a0_3⟩, a1⟩ ⟨⟨b0_0, b0_1, b0_2, b0_3⟩, b1⟩ h
  simpa [E_Ltx_encode, and_assoc] using h
noncomputable def G_Ltx_encode : List PV → Option (PV × List (List Cell)) := lift E_Ltx_encode fun x => (Ltx_encode x.1 x.2).map fun y => (.one (.own 1 (intsR .u8 y)), [])
theorem G_Ltx_encode_eq {a0 : Tapi_Tx} {a1 : Bool} {y : (List Int)} (h : Ltx_encode a0 a1 = some y) : G_Ltx_encode [.agg ([.v (.int .u32 a0.1), .slice .no (List.map eapi_Input a0.2.1), .slice .no (List.map eapi_Output a0.2.2.1), .v (.int .u32 a0.2.2.2)]), .one (.v (.bool a1))] = some (.one (.own 1 (intsR .u8 y)), []) := by
  have := lift_eq (g := fun x => (Ltx_encode x.1 x.2).map fun y => (.one (.own 1 (intsR .u8 y)), [])) E_Ltx_encode_inj (a0, a1)
  unfold G_Ltx_encode
  rw [show [.agg ([.v (.int .u32 a0.1), .slice .no (List.map eapi_Input a0.2.1), .slice .no (List.map eapi_Output a0.2.2.1), .v (.int .u32 a0.2.2.2)]), .one (.v (.bool a1))] = E_Ltx_encode (a0, a1) from rfl, this]
  simp [h]
def E_Ltx_fits (x : Tapi_Tx) : List PV := [.agg ([.v (.int .u32 x.1), .slice .no (List.map eapi_Input x.2.1), .slice .no (List.map eapi_Output x.2.2.1), .v (.int .u32 x.2.2.2)])]
theorem E_Ltx_fits_inj : ∀ a b, E_Ltx_fits a = E_Ltx_fits b → a = b := by
  rintro ⟨a0_0, a0_1, a0_2, a0_3⟩ ⟨b0_0, b0_1, b0_2, b0_3⟩ h
  simpa [E_Ltx_fits, and_assoc] using h
noncomputable def G_Ltx_fits : List PV → Option (PV × List (List Cell)) := lift E_Ltx_fits fun x => (Ltx_fits x).map fun y => (.one (.v (.bool y)), [])
theorem G_Ltx_fits_eq {a0 : Tapi_Tx} {y : Bool} (h : Ltx_fits a0 = some y) : G_Ltx_fits [.agg ([.v (.int .u32 a0.1), .slice .no (List.map eapi_Input a0.2.1), .slice .no (List.map eapi_Output a0.2.2.1), .v (.int .u32 a0.2.2.2)])] = some (.one (.v (.bool y)), []) := by
  have := lift_eq (g := fun x => (Ltx_fits x).map fun y => (.one (.v (.bool y)), [])) E_Ltx_fits_inj a0
  unfold G_Ltx_fits
  rw [show [.agg ([.v (.int .u32 a0.1), .slice .no (List.map eapi_Input a0.2.1), .slice .no (List.map eapi_Output a0.2.2.1), .v (.int .u32 a0.2.2.2)])] = E_Ltx_fits a0 from rfl, this]
  simp [h]
def E_Ltx_Weight (x : Tapi_Tx) : List PV := [.agg ([.v (.int .u32 x.1), .slice .no (List.map eapi_Input x.2.1), .slice .no (List.map eapi_Output x.2.2.1), .v (.int .u32 x.2.2.2)])]
theorem E_Ltx_Weight_inj : ∀ a b, E_Ltx_Weight a = E_Ltx_Weight b → a = b := by
  rintro ⟨a0_0, a0_1, a0_2, a0_3⟩ ⟨b0_0, b0_1, b0_2, b0_3⟩ h
  simpa [E_Ltx_Weight, and_assoc] using h
noncomputable def G_Ltx_Weight : List PV → Option (PV × List (List Cell)) := lift E_Ltx_Weight fun x => (Ltx_Weight x).map fun y => (.one (.v (.int .i64 y)), [])
theorem G_Ltx_Weight_eq {a0 : Tapi_Tx} {y : Int} (h : Ltx_Weight a0 = some y) : G_Ltx_Weight [.agg ([.v (.int .u32 a0.1), .slice .no (List.map eapi_Input a0.2.1), .slice .no (List.map eapi_Output a0.2.2.1), .v (.int .u32 a0.2.2.2)])] = some (.one (.v (.int .i64 y)), []) := by
  have := lift_eq (g := fun x => (Ltx_Weight x).map fun y => (.one (.v (.int .i64 y)), [])) E_Ltx_Weight_inj a0
  unfold G_Ltx_Weight
  rw [show [.agg ([.v (.int .u32 a0.1), .slice .no (List.map eapi_Input a0.2.1), .slice .no (List.map eapi_Output a0.2.2.1), .v (.int .u32 a0.2.2.2)])] = E_Ltx_Weight a0 from rfl, this]
  simp [h]
def E_Lbuild_Weight (x : Tapi_Tx × (List Tapi_Spendable)) : List PV := [.agg ([.v (.int .u32 x.1.1), .slice .no (List.map eapi_Input x.1.2.1), .slice .no (List.map eapi_Output x.1.2.2.1), .v (.int .u32 x.1.2.2.2)]), .one (.slice .no (List.map eapi_Spendable x.2))]
theorem E_Lbuild_Weight_inj : ∀ a b, E_Lbuild_Weight a = E_Lbuild_Weight b → a = b := by
  rintro ⟨⟨a0_0, a0_1, a0_2, a0_3⟩, a1⟩ ⟨⟨b0_0, b0_1, b0_2, b0_3⟩, b1⟩ h
  simpa [E_Lbuild_Weight, and_assoc] using h
noncomputable def G_Lbuild_Weight : List PV → Option (PV × List (List Cell)) := lift E_Lbuild_Weight fun x => (Lbuild_Weight x.1 x.2).map fun y => (.one (.v (.int .i64 y)), [])
theorem G_Lbuild_Weight_eq {a0 : Tapi_Tx} {a1 : (List Tapi_Spendable)} {y : Int} (h : Lbuild_Weight a0 a1 = some y) : G_Lbuild_Weight [.agg ([.v (.int .u32 a0.1), .slice .no (List.map eapi_Input a0.2.1), .slice .no (List.map eapi_Output a0.2.2.1), .v (.int .u32 a0.2.2.2)]), .one (.slice .no (List.map eapi_Spendable a1))] = some (.one (.v (.int .i64 y)), []) := by
  have := lift_eq (g := fun x => (Lbuild_Weight x.1 x.2).map fun y => (.one (.v (.int .i64 y)), [])) E_Lbuild_Weight_inj (a0, a1)
  unfold G_Lbuild_Weight
  rw [show [.agg ([.v (.int .u32 a0.1), .slice .no (List.map eapi_Input a0.2.1), .slice .no (List.map eapi_Output a0.2.2.1), .v (.int .u32 a0.2.2.2)]), .one (.slice .no (List.map eapi_Spendable a1))] = E_Lbuild_Weight (a0, a1) from rfl, this]
  simp [h]
def E_Lref01_joined (x : (List Int) × (List Int)) : List PV := [.one (.slice .no (intsR .u8 x.1)), .one (.slice .no (intsR .u8 x.2))]
theorem E_Lref01_joined_inj : ∀ a b, E_Lref01_joined a = E_Lref01_joined b → a = b := by
  rintro ⟨a0, a1⟩ ⟨b0, b1⟩ h
  simpa [E_Lref01_joined, and_assoc] using h
noncomputable def G_Lref01_joined : List PV → Option (PV × List (List Cell)) := lift E_Lref01_joined fun x => (Lref01_joined x.1 x.2).map fun y => (.one (.own 1 (intsR .u8 y)), [])
theorem G_Lref01_joined_eq {a0 : (List Int)} {a1 : (List Int)} {y : (List Int)} (h : Lref01_joined a0 a1 = some y) : G_Lref01_joined [.one (.slice .no (intsR .u8 a0)), .one (.slice .no (intsR .u8 a1))] = some (.one (.own 1 (intsR .u8 y)), []) := by
  have := lift_eq (g := fun x => (Lref01_joined x.1 x.2).map fun y => (.one (.own 1 (intsR .u8 y)), [])) E_Lref01_joined_inj (a0, a1)
  unfold G_Lref01_joined
  rw [show [.one (.slice .no (intsR .u8 a0)), .one (.slice .no (intsR .u8 a1))] = E_Lref01_joined (a0, a1) from rfl, this]
  simp [h]
def E_Lref01_little (x : Int × Int) : List PV := [.one (.v (.int .u64 x.1)), .one (.v (.int .i64 x.2))]
theorem E_Lref01_little_inj : ∀ a b, E_Lref01_little a = E_Lref01_little b → a = b := by
  rintro ⟨a0, a1⟩ ⟨b0, b1⟩ h
  simpa [E_Lref01_little, and_assoc] using h
noncomputable def G_Lref01_little : List PV → Option (PV × List (List Cell)) := lift E_Lref01_little fun x => (Lref01_little x.1 x.2).map fun y => (.one (.own 1 (intsR .u8 y)), [])
theorem G_Lref01_little_eq {a0 : Int} {a1 : Int} {y : (List Int)} (h : Lref01_little a0 a1 = some y) : G_Lref01_little [.one (.v (.int .u64 a0)), .one (.v (.int .i64 a1))] = some (.one (.own 1 (intsR .u8 y)), []) := by
  have := lift_eq (g := fun x => (Lref01_little x.1 x.2).map fun y => (.one (.own 1 (intsR .u8 y)), [])) E_Lref01_little_inj (a0, a1)
  unfold G_Lref01_little
  rw [show [.one (.v (.int .u64 a0)), .one (.v (.int .i64 a1))] = E_Lref01_little (a0, a1) from rfl, this]
  simp [h]
def E_Lref01_AppendU32 (x : (List Int) × Int) : List PV := [.one (.slice .no (intsR .u8 x.1)), .one (.v (.int .u32 x.2))]
theorem E_Lref01_AppendU32_inj : ∀ a b, E_Lref01_AppendU32 a = E_Lref01_AppendU32 b → a = b := by
  rintro ⟨a0, a1⟩ ⟨b0, b1⟩ h
  simpa [E_Lref01_AppendU32, and_assoc] using h
noncomputable def G_Lref01_AppendU32 : List PV → Option (PV × List (List Cell)) := lift E_Lref01_AppendU32 fun x => (Lref01_AppendU32 x.1 x.2).map fun y => (.one (.own 1 (intsR .u8 y)), [])
theorem G_Lref01_AppendU32_eq {a0 : (List Int)} {a1 : Int} {y : (List Int)} (h : Lref01_AppendU32 a0 a1 = some y) : G_Lref01_AppendU32 [.one (.slice .no (intsR .u8 a0)), .one (.v (.int .u32 a1))] = some (.one (.own 1 (intsR .u8 y)), []) := by
  have := lift_eq (g := fun x => (Lref01_AppendU32 x.1 x.2).map fun y => (.one (.own 1 (intsR .u8 y)), [])) E_Lref01_AppendU32_inj (a0, a1)
  unfold G_Lref01_AppendU32
  rw [show [.one (.slice .no (intsR .u8 a0)), .one (.v (.int .u32 a1))] = E_Lref01_AppendU32 (a0, a1) from rfl, this]
  simp [h]
def E_Lref01_AppendSize (x : (List Int) × Int) : List PV := [.one (.slice .no (intsR .u8 x.1)), .one (.v (.int .u64 x.2))]
theorem E_Lref01_AppendSize_inj : ∀ a b, E_Lref01_AppendSize a = E_Lref01_AppendSize b → a = b := by
  rintro ⟨a0, a1⟩ ⟨b0, b1⟩ h
  simpa [E_Lref01_AppendSize, and_assoc] using h
noncomputable def G_Lref01_AppendSize : List PV → Option (PV × List (List Cell)) := lift E_Lref01_AppendSize fun x => (Lref01_AppendSize x.1 x.2).map fun y => (.one (.own 1 (intsR .u8 y)), [])
theorem G_Lref01_AppendSize_eq {a0 : (List Int)} {a1 : Int} {y : (List Int)} (h : Lref01_AppendSize a0 a1 = some y) : G_Lref01_AppendSize [.one (.slice .no (intsR .u8 a0)), .one (.v (.int .u64 a1))] = some (.one (.own 1 (intsR .u8 y)), []) := by
  have := lift_eq (g := fun x => (Lref01_AppendSize x.1 x.2).map fun y => (.one (.own 1 (intsR .u8 y)), [])) E_Lref01_AppendSize_inj (a0, a1)
  unfold G_Lref01_AppendSize
  rw [show [.one (.slice .no (intsR .u8 a0)), .one (.v (.int .u64 a1))] = E_Lref01_AppendSize (a0, a1) from rfl, this]
  simp [h]
def E_Lref01_AppendHash (x : (List Int) × (Arr 32)) : List PV := [.one (.slice .no (intsR .u8 x.1)), .agg (arC .u8 x.2)]
theorem E_Lref01_AppendHash_inj : ∀ a b, E_Lref01_AppendHash a = E_Lref01_AppendHash b → a = b := by
  rintro ⟨a0, a1⟩ ⟨b0, b1⟩ h
  simpa [E_Lref01_AppendHash, and_assoc] using h
noncomputable def G_Lref01_AppendHash : List PV → Option (PV × List (List Cell)) := lift E_Lref01_AppendHash fun x => (Lref01_AppendHash x.1 x.2).map fun y => (.one (.own 1 (intsR .u8 y)), [])
theorem G_Lref01_AppendHash_eq {a0 : (List Int)} {a1 : (Arr 32)} {y : (List Int)} (h : Lref01_AppendHash a0 a1 = some y) : G_Lref01_AppendHash [.one (.slice .no (intsR .u8 a0)), .agg (arC .u8 a1)] = some (.one (.own 1 (intsR .u8 y)), []) := by
  have := lift_eq (g := fun x => (Lref01_AppendHash x.1 x.2).map fun y => (.one (.own 1 (intsR .u8 y)), [])) E_Lref01_AppendHash_inj (a0, a1)
  unfold G_Lref01_AppendHash
  rw [show [.one (.slice .no (intsR .u8 a0)), .agg (arC .u8 a1)] = E_Lref01_AppendHash (a0, a1) from rfl, this]
  simp [h]
def E_Lref09_Point (x : Tapi_OutPoint) : List PV := [.agg ((arC .u8 x.1) ++ ((.v (.int .u32 x.2)) :: []))]
theorem E_Lref09_Point_inj : ∀ a b, E_Lref09_Point a = E_Lref09_Point b → a = b := by
  rintro ⟨a0_0, a0_1⟩ ⟨b0_0, b0_1⟩ h
  simpa [E_Lref09_Point, and_assoc] using h
noncomputable def G_Lref09_Point : List PV → Option (PV × List (List Cell)) := lift E_Lref09_Point fun x => (Lref09_Point x).map fun y => (.one (.own 1 (intsR .u8 y)), [])
theorem G_Lref09_Point_eq {a0 : Tapi_OutPoint} {y : (List Int)} (h : Lref09_Point a0 = some y) : G_Lref09_Point [.agg ((arC .u8 a0.1) ++ ((.v (.int .u32 a0.2)) :: []))] = some (.one (.own 1 (intsR .u8 y)), []) := by
  have := lift_eq (g := fun x => (Lref09_Point x).map fun y => (.one (.own 1 (intsR .u8 y)), [])) E_Lref09_Point_inj a0
  unfold G_Lref09_Point
  rw [show [.agg ((arC .u8 a0.1) ++ ((.v (.int .u32 a0.2)) :: []))] = E_Lref09_Point a0 from rfl, this]
  simp [h]
def E_Lref01_AppendBytes (x : (List Int) × (List Int)) : List PV := [.one (.slice .no (intsR .u8 x.1)), .one (.slice .no (intsR .u8 x.2))]
theorem E_Lref01_AppendBytes_inj : ∀ a b, E_Lref01_AppendBytes a = E_Lref01_AppendBytes b → a = b := by
  rintro ⟨a0, a1⟩ ⟨b0, b1⟩ h
  simpa [E_Lref01_AppendBytes, and_assoc] using h
noncomputable def G_Lref01_AppendBytes : List PV → Option (PV × List (List Cell)) := lift E_Lref01_AppendBytes fun x => (Lref01_AppendBytes x.1 x.2).map fun y => (.one (.own 1 (intsR .u8 y)), [])
theorem G_Lref01_AppendBytes_eq {a0 : (List Int)} {a1 : (List Int)} {y : (List Int)} (h : Lref01_AppendBytes a0 a1 = some y) : G_Lref01_AppendBytes [.one (.slice .no (intsR .u8 a0)), .one (.slice .no (intsR .u8 a1))] = some (.one (.own 1 (intsR .u8 y)), []) := by
  have := lift_eq (g := fun x => (Lref01_AppendBytes x.1 x.2).map fun y => (.one (.own 1 (intsR .u8 y)), [])) E_Lref01_AppendBytes_inj (a0, a1)
  unfold G_Lref01_AppendBytes
  rw [show [.one (.slice .no (intsR .u8 a0)), .one (.slice .no (intsR .u8 a1))] = E_Lref01_AppendBytes (a0, a1) from rfl, this]
  simp [h]
def E_Lref01_AppendU64 (x : (List Int) × Int) : List PV := [.one (.slice .no (intsR .u8 x.1)), .one (.v (.int .u64 x.2))]
theorem E_Lref01_AppendU64_inj : ∀ a b, E_Lref01_AppendU64 a = E_Lref01_AppendU64 b → a = b := by
  rintro ⟨a0, a1⟩ ⟨b0, b1⟩ h
  simpa [E_Lref01_AppendU64, and_assoc] using h
noncomputable def G_Lref01_AppendU64 : List PV → Option (PV × List (List Cell)) := lift E_Lref01_AppendU64 fun x => (Lref01_AppendU64 x.1 x.2).map fun y => (.one (.own 1 (intsR .u8 y)), [])
theorem G_Lref01_AppendU64_eq {a0 : (List Int)} {a1 : Int} {y : (List Int)} (h : Lref01_AppendU64 a0 a1 = some y) : G_Lref01_AppendU64 [.one (.slice .no (intsR .u8 a0)), .one (.v (.int .u64 a1))] = some (.one (.own 1 (intsR .u8 y)), []) := by
  have := lift_eq (g := fun x => (Lref01_AppendU64 x.1 x.2).map fun y => (.one (.own 1 (intsR .u8 y)), [])) E_Lref01_AppendU64_inj (a0, a1)
  unfold G_Lref01_AppendU64
  rw [show [.one (.slice .no (intsR .u8 a0)), .one (.v (.int .u64 a1))] = E_Lref01_AppendU64 (a0, a1) from rfl, this]
  simp [h]
def E_Lref09_Out (x : Tapi_Output) : List PV := [.agg ([.v (.int .i64 x.1), .slice .no (intsR .u8 x.2)])]
theorem E_Lref09_Out_inj : ∀ a b, E_Lref09_Out a = E_Lref09_Out b → a = b := by
  rintro ⟨a0_0, a0_1⟩ ⟨b0_0, b0_1⟩ h
  simpa [E_Lref09_Out, and_assoc] using h
noncomputable def G_Lref09_Out : List PV → Option (PV × List (List Cell)) := lift E_Lref09_Out fun x => (Lref09_Out x).map fun y => (.one (.own 1 (intsR .u8 y)), [])
theorem G_Lref09_Out_eq {a0 : Tapi_Output} {y : (List Int)} (h : Lref09_Out a0 = some y) : G_Lref09_Out [.agg ([.v (.int .i64 a0.1), .slice .no (intsR .u8 a0.2)])] = some (.one (.own 1 (intsR .u8 y)), []) := by
  have := lift_eq (g := fun x => (Lref09_Out x).map fun y => (.one (.own 1 (intsR .u8 y)), [])) E_Lref09_Out_inj a0
  unfold G_Lref09_Out
  rw [show [.agg ([.v (.int .i64 a0.1), .slice .no (intsR .u8 a0.2)])] = E_Lref09_Out a0 from rfl, this]
  simp [h]
def E_Lref09_encode (x : Tapi_Tx × Bool) : List PV := [.agg ([.v (.int .u32 x.1.1), .slice .no (List.map eapi_Input x.1.2.1), .slice .no (List.map eapi_Output x.1.2.2.1), .v (.int .u32 x.1.2.2.2)]), .one (.v (.bool x.2))]
theorem E_Lref09_encode_inj : ∀ a b, E_Lref09_encode a = E_Lref09_encode b → a = b := by
  rintro ⟨⟨a0_0, a0_1, a0_2, a0_3⟩, a1⟩ ⟨⟨b0_0, b0_1, b0_2, b0_3⟩, b1⟩ h
  simpa [E_Lref09_encode, and_assoc] using h
noncomputable def G_Lref09_encode : List PV → Option (PV × List (List Cell)) := lift E_Lref09_encode fun x => (Lref09_encode x.1 x.2).map fun y => (.one (.own 1 (intsR .u8 y)), [])
theorem G_Lref09_encode_eq {a0 : Tapi_Tx} {a1 : Bool} {y : (List Int)} (h : Lref09_encode a0 a1 = some y) : G_Lref09_encode [.agg ([.v (.int .u32 a0.1), .slice .no (List.map eapi_Input a0.2.1), .slice .no (List.map eapi_Output a0.2.2.1), .v (.int .u32 a0.2.2.2)]), .one (.v (.bool a1))] = some (.one (.own 1 (intsR .u8 y)), []) := by
  have := lift_eq (g := fun x => (Lref09_encode x.1 x.2).map fun y => (.one (.own 1 (intsR .u8 y)), [])) E_Lref09_encode_inj (a0, a1)
  unfold G_Lref09_encode
  rw [show [.agg ([.v (.int .u32 a0.1), .slice .no (List.map eapi_Input a0.2.1), .slice .no (List.map eapi_Output a0.2.2.1), .v (.int .u32 a0.2.2.2)]), .one (.v (.bool a1))] = E_Lref09_encode (a0, a1) from rfl, this]
  simp [h]
def E_Lref09_Fits (x : Tapi_Tx) : List PV := [.agg ([.v (.int .u32 x.1), .slice .no (List.map eapi_Input x.2.1), .slice .no (List.map eapi_Output x.2.2.1), .v (.int .u32 x.2.2.2)])]
theorem E_Lref09_Fits_inj : ∀ a b, E_Lref09_Fits a = E_Lref09_Fits b → a = b := by
  rintro ⟨a0_0, a0_1, a0_2, a0_3⟩ ⟨b0_0, b0_1, b0_2, b0_3⟩ h
  simpa [E_Lref09_Fits, and_assoc] using h
noncomputable def G_Lref09_Fits : List PV → Option (PV × List (List Cell)) := lift E_Lref09_Fits fun x => (Lref09_Fits x).map fun y => (.one (.v (.bool y)), [])
theorem G_Lref09_Fits_eq {a0 : Tapi_Tx} {y : Bool} (h : Lref09_Fits a0 = some y) : G_Lref09_Fits [.agg ([.v (.int .u32 a0.1), .slice .no (List.map eapi_Input a0.2.1), .slice .no (List.map eapi_Output a0.2.2.1), .v (.int .u32 a0.2.2.2)])] = some (.one (.v (.bool y)), []) := by
  have := lift_eq (g := fun x => (Lref09_Fits x).map fun y => (.one (.v (.bool y)), [])) E_Lref09_Fits_inj a0
  unfold G_Lref09_Fits
  rw [show [.agg ([.v (.int .u32 a0.1), .slice .no (List.map eapi_Input a0.2.1), .slice .no (List.map eapi_Output a0.2.2.1), .v (.int .u32 a0.2.2.2)])] = E_Lref09_Fits a0 from rfl, this]
  simp [h]
def E_Lref09_Weight (x : Tapi_Tx) : List PV := [.agg ([.v (.int .u32 x.1), .slice .no (List.map eapi_Input x.2.1), .slice .no (List.map eapi_Output x.2.2.1), .v (.int .u32 x.2.2.2)])]
theorem E_Lref09_Weight_inj : ∀ a b, E_Lref09_Weight a = E_Lref09_Weight b → a = b := by
  rintro ⟨a0_0, a0_1, a0_2, a0_3⟩ ⟨b0_0, b0_1, b0_2, b0_3⟩ h
  simpa [E_Lref09_Weight, and_assoc] using h
noncomputable def G_Lref09_Weight : List PV → Option (PV × List (List Cell)) := lift E_Lref09_Weight fun x => (Lref09_Weight x).map fun y => (.one (.v (.int .i64 y)), [])
theorem G_Lref09_Weight_eq {a0 : Tapi_Tx} {y : Int} (h : Lref09_Weight a0 = some y) : G_Lref09_Weight [.agg ([.v (.int .u32 a0.1), .slice .no (List.map eapi_Input a0.2.1), .slice .no (List.map eapi_Output a0.2.2.1), .v (.int .u32 a0.2.2.2)])] = some (.one (.v (.int .i64 y)), []) := by
  have := lift_eq (g := fun x => (Lref09_Weight x).map fun y => (.one (.v (.int .i64 y)), [])) E_Lref09_Weight_inj a0
  unfold G_Lref09_Weight
  rw [show [.agg ([.v (.int .u32 a0.1), .slice .no (List.map eapi_Input a0.2.1), .slice .no (List.map eapi_Output a0.2.2.1), .v (.int .u32 a0.2.2.2)])] = E_Lref09_Weight a0 from rfl, this]
  simp [h]
def E_Lref34_bare (x : Tapi_Tx) : List PV := [.agg ([.v (.int .u32 x.1), .slice .no (List.map eapi_Input x.2.1), .slice .no (List.map eapi_Output x.2.2.1), .v (.int .u32 x.2.2.2)])]
theorem E_Lref34_bare_inj : ∀ a b, E_Lref34_bare a = E_Lref34_bare b → a = b := by
  rintro ⟨a0_0, a0_1, a0_2, a0_3⟩ ⟨b0_0, b0_1, b0_2, b0_3⟩ h
  simpa [E_Lref34_bare, and_assoc] using h
noncomputable def G_Lref34_bare : List PV → Option (PV × List (List Cell)) := lift E_Lref34_bare fun x => (Lref34_bare x).map fun y => (.agg ([.v (.int .u32 y.1), .own 35 (List.map eapi_Input y.2.1), .slice .no (List.map eapi_Output y.2.2.1), .v (.int .u32 y.2.2.2)]), [])
theorem G_Lref34_bare_eq {a0 : Tapi_Tx} {y : Tapi_Tx} (h : Lref34_bare a0 = some y) : G_Lref34_bare [.agg ([.v (.int .u32 a0.1), .slice .no (List.map eapi_Input a0.2.1), .slice .no (List.map eapi_Output a0.2.2.1), .v (.int .u32 a0.2.2.2)])] = some (.agg ([.v (.int .u32 y.1), .own 35 (List.map eapi_Input y.2.1), .slice .no (List.map eapi_Output y.2.2.1), .v (.int .u32 y.2.2.2)]), []) := by
  have := lift_eq (g := fun x => (Lref34_bare x).map fun y => (.agg ([.v (.int .u32 y.1), .own 35 (List.map eapi_Input y.2.1), .slice .no (List.map eapi_Output y.2.2.1), .v (.int .u32 y.2.2.2)]), [])) E_Lref34_bare_inj a0
  unfold G_Lref34_bare
  rw [show [.agg ([.v (.int .u32 a0.1), .slice .no (List.map eapi_Input a0.2.1), .slice .no (List.map eapi_Output a0.2.2.1), .v (.int .u32 a0.2.2.2)])] = E_Lref34_bare a0 from rfl, this]
  simp [h]
def E_Lref34_Weight (x : Tapi_Tx × (List Tapi_Spendable)) : List PV := [.agg ([.v (.int .u32 x.1.1), .slice .no (List.map eapi_Input x.1.2.1), .slice .no (List.map eapi_Output x.1.2.2.1), .v (.int .u32 x.1.2.2.2)]), .one (.slice .no (List.map eapi_Spendable x.2))]
theorem E_Lref34_Weight_inj : ∀ a b, E_Lref34_Weight a = E_Lref34_Weight b → a = b := by
  rintro ⟨⟨a0_0, a0_1, a0_2, a0_3⟩, a1⟩ ⟨⟨b0_0, b0_1, b0_2, b0_3⟩, b1⟩ h
  simpa [E_Lref34_Weight, and_assoc] using h
noncomputable def G_Lref34_Weight : List PV → Option (PV × List (List Cell)) := lift E_Lref34_Weight fun x => (Lref34_Weight x.1 x.2).map fun y => (.one (.v (.int .i64 y)), [])
theorem G_Lref34_Weight_eq {a0 : Tapi_Tx} {a1 : (List Tapi_Spendable)} {y : Int} (h : Lref34_Weight a0 a1 = some y) : G_Lref34_Weight [.agg ([.v (.int .u32 a0.1), .slice .no (List.map eapi_Input a0.2.1), .slice .no (List.map eapi_Output a0.2.2.1), .v (.int .u32 a0.2.2.2)]), .one (.slice .no (List.map eapi_Spendable a1))] = some (.one (.v (.int .i64 y)), []) := by
  have := lift_eq (g := fun x => (Lref34_Weight x.1 x.2).map fun y => (.one (.v (.int .i64 y)), [])) E_Lref34_Weight_inj (a0, a1)
  unfold G_Lref34_Weight
  rw [show [.agg ([.v (.int .u32 a0.1), .slice .no (List.map eapi_Input a0.2.1), .slice .no (List.map eapi_Output a0.2.2.1), .v (.int .u32 a0.2.2.2)]), .one (.slice .no (List.map eapi_Spendable a1))] = E_Lref34_Weight (a0, a1) from rfl, this]
  simp [h]
def E_Llaw34_BuildWeights (x : Int × Int × (List Int) × Tapi_Spendable) : List PV := [.one (.v (.int .i64 x.1)), .one (.v (.int .i64 x.2.1)), .one (.slice .no (intsR .i64 x.2.2.1)), .agg ((arC .u8 x.2.2.2.1.1.1) ++ ((.v (.int .u32 x.2.2.2.1.1.2)) :: ((.v (.int .i64 x.2.2.2.1.2.1.1)) :: ((.slice .no (intsR .u8 x.2.2.2.1.2.1.2)) :: ((.v (.int .i64 x.2.2.2.1.2.2.1)) :: ((.v (.bool x.2.2.2.1.2.2.2)) :: ((.v (.int .i64 x.2.2.2.2)) :: [])))))))]
theorem E_Llaw34_BuildWeights_inj : ∀ a b, E_Llaw34_BuildWeights a = E_Llaw34_BuildWeights b → a = b := by
  rintro ⟨a0, a1, a2, ⟨⟨⟨a3_0_0_0, a3_0_0_1⟩, ⟨a3_0_1_0, a3_0_1_1⟩, a3_0_2, a3_0_3⟩, a3_1⟩⟩ ⟨b0, b1, b2, ⟨⟨⟨b3_0_0_0, b3_0_0_1⟩, ⟨b3_0_1_0, b3_0_1_1⟩, b3_0_2, b3_0_3⟩, b3_1⟩⟩ h
  simpa [E_Llaw34_BuildWeights, and_assoc] using h
noncomputable def G_Llaw34_BuildWeights : List PV → Option (PV × List (List Cell)) := lift E_Llaw34_BuildWeights fun x => (Llaw34_BuildWeights x.1 x.2.1 x.2.2.1 x.2.2.2).map fun y => (.one (.v (.bool y)), [])
theorem G_Llaw34_BuildWeights_eq {a0 : Int} {a1 : Int} {a2 : (List Int)} {a3 : Tapi_Spendable} {y : Bool} (h : Llaw34_BuildWeights a0 a1 a2 a3 = some y) : G_Llaw34_BuildWeights [.one (.v (.int .i64 a0)), .one (.v (.int .i64 a1)), .one (.slice .no (intsR .i64 a2)), .agg ((arC .u8 a3.1.1.1) ++ ((.v (.int .u32 a3.1.1.2)) :: ((.v (.int .i64 a3.1.2.1.1)) :: ((.slice .no (intsR .u8 a3.1.2.1.2)) :: ((.v (.int .i64 a3.1.2.2.1)) :: ((.v (.bool a3.1.2.2.2)) :: ((.v (.int .i64 a3.2)) :: [])))))))] = some (.one (.v (.bool y)), []) := by
  have := lift_eq (g := fun x => (Llaw34_BuildWeights x.1 x.2.1 x.2.2.1 x.2.2.2).map fun y => (.one (.v (.bool y)), [])) E_Llaw34_BuildWeights_inj (a0, a1, a2, a3)
  unfold G_Llaw34_BuildWeights
  rw [show [.one (.v (.int .i64 a0)), .one (.v (.int .i64 a1)), .one (.slice .no (intsR .i64 a2)), .agg ((arC .u8 a3.1.1.1) ++ ((.v (.int .u32 a3.1.1.2)) :: ((.v (.int .i64 a3.1.2.1.1)) :: ((.slice .no (intsR .u8 a3.1.2.1.2)) :: ((.v (.int .i64 a3.1.2.2.1)) :: ((.v (.bool a3.1.2.2.2)) :: ((.v (.int .i64 a3.2)) :: [])))))))] = E_Llaw34_BuildWeights (a0, a1, a2, a3) from rfl, this]
  simp [h]
def E_Lmill_Plan (x : Tlightclientmill_Deck × (List (List Int))) : List PV := [.io ([.slice .no (intsR .i64 x.1.1), .v (.int .i64 x.1.2)]), .one (.slice .no (List.map eS_I_u8 x.2))]
theorem E_Lmill_Plan_inj : ∀ a b, E_Lmill_Plan a = E_Lmill_Plan b → a = b := by
  rintro ⟨⟨a0_0, a0_1⟩, a1⟩ ⟨⟨b0_0, b0_1⟩, b1⟩ h
  simpa [E_Lmill_Plan, and_assoc] using h
noncomputable def G_Lmill_Plan : List PV → Option (PV × List (List Cell)) := lift E_Lmill_Plan fun x => (Lmill_Plan x.1 x.2).map fun y => (.agg ([.v (.int .u32 y.1.1.1), .own 35 (List.map eapi_Input y.1.1.2.1), .own 2 (List.map eapi_Output y.1.1.2.2.1), .v (.int .u32 y.1.1.2.2.2), .own 37 (List.map eapi_Coin y.1.2.1), .v (.int .i64 y.1.2.2.1), .v (.int .i64 y.1.2.2.2)]), [[.slice .no (intsR .i64 y.2.1), .v (.int .i64 y.2.2)]])
theorem G_Lmill_Plan_eq {a0 : Tlightclientmill_Deck} {a1 : (List (List Int))} {y : Tapi_Plan × Tlightclientmill_Deck} (h : Lmill_Plan a0 a1 = some y) : G_Lmill_Plan [.io ([.slice .no (intsR .i64 a0.1), .v (.int .i64 a0.2)]), .one (.slice .no (List.map eS_I_u8 a1))] = some (.agg ([.v (.int .u32 y.1.1.1), .own 35 (List.map eapi_Input y.1.1.2.1), .own 2 (List.map eapi_Output y.1.1.2.2.1), .v (.int .u32 y.1.1.2.2.2), .own 37 (List.map eapi_Coin y.1.2.1), .v (.int .i64 y.1.2.2.1), .v (.int .i64 y.1.2.2.2)]), [[.slice .no (intsR .i64 y.2.1), .v (.int .i64 y.2.2)]]) := by
  have := lift_eq (g := fun x => (Lmill_Plan x.1 x.2).map fun y => (.agg ([.v (.int .u32 y.1.1.1), .own 35 (List.map eapi_Input y.1.1.2.1), .own 2 (List.map eapi_Output y.1.1.2.2.1), .v (.int .u32 y.1.1.2.2.2), .own 37 (List.map eapi_Coin y.1.2.1), .v (.int .i64 y.1.2.2.1), .v (.int .i64 y.1.2.2.2)]), [[.slice .no (intsR .i64 y.2.1), .v (.int .i64 y.2.2)]])) E_Lmill_Plan_inj (a0, a1)
  unfold G_Lmill_Plan
  rw [show [.io ([.slice .no (intsR .i64 a0.1), .v (.int .i64 a0.2)]), .one (.slice .no (List.map eS_I_u8 a1))] = E_Lmill_Plan (a0, a1) from rfl, this]
  simp [h]
def E_Lmade_Null (x : Unit) : List PV := []
theorem E_Lmade_Null_inj : ∀ a b, E_Lmade_Null a = E_Lmade_Null b → a = b := fun _ _ _ => rfl
noncomputable def G_Lmade_Null : List PV → Option (PV × List (List Cell)) := lift E_Lmade_Null fun x => (Lmade_Null).map fun y => (.agg ((arC .u8 y.1) ++ ((.v (.int .u32 y.2)) :: [])), [])
theorem G_Lmade_Null_eq {y : Tapi_OutPoint} (h : Lmade_Null  = some y) : G_Lmade_Null [] = some (.agg ((arC .u8 y.1) ++ ((.v (.int .u32 y.2)) :: [])), []) := by
  have := lift_eq (g := fun x => (Lmade_Null).map fun y => (.agg ((arC .u8 y.1) ++ ((.v (.int .u32 y.2)) :: [])), [])) E_Lmade_Null_inj ()
  unfold G_Lmade_Null
  rw [show [] = E_Lmade_Null () from rfl, this]
  simp [h]
def E_Ltx_null (x : Tapi_OutPoint) : List PV := [.agg ((arC .u8 x.1) ++ ((.v (.int .u32 x.2)) :: []))]
theorem E_Ltx_null_inj : ∀ a b, E_Ltx_null a = E_Ltx_null b → a = b := by
  rintro ⟨a0_0, a0_1⟩ ⟨b0_0, b0_1⟩ h
  simpa [E_Ltx_null, and_assoc] using h
noncomputable def G_Ltx_null : List PV → Option (PV × List (List Cell)) := lift E_Ltx_null fun x => (Ltx_null x).map fun y => (.one (.v (.bool y)), [])
theorem G_Ltx_null_eq {a0 : Tapi_OutPoint} {y : Bool} (h : Ltx_null a0 = some y) : G_Ltx_null [.agg ((arC .u8 a0.1) ++ ((.v (.int .u32 a0.2)) :: []))] = some (.one (.v (.bool y)), []) := by
  have := lift_eq (g := fun x => (Ltx_null x).map fun y => (.one (.v (.bool y)), [])) E_Ltx_null_inj a0
  unfold G_Ltx_null
  rw [show [.agg ((arC .u8 a0.1) ++ ((.v (.int .u32 a0.2)) :: []))] = E_Ltx_null a0 from rfl, this]
  simp [h]
def E_Ltx_Coinbase (x : Tapi_Tx) : List PV := [.agg ([.v (.int .u32 x.1), .slice .no (List.map eapi_Input x.2.1), .slice .no (List.map eapi_Output x.2.2.1), .v (.int .u32 x.2.2.2)])]
theorem E_Ltx_Coinbase_inj : ∀ a b, E_Ltx_Coinbase a = E_Ltx_Coinbase b → a = b := by
  rintro ⟨a0_0, a0_1, a0_2, a0_3⟩ ⟨b0_0, b0_1, b0_2, b0_3⟩ h
  simpa [E_Ltx_Coinbase, and_assoc] using h
noncomputable def G_Ltx_Coinbase : List PV → Option (PV × List (List Cell)) := lift E_Ltx_Coinbase fun x => (Ltx_Coinbase x).map fun y => (.one (.v (.bool y)), [])
theorem G_Ltx_Coinbase_eq {a0 : Tapi_Tx} {y : Bool} (h : Ltx_Coinbase a0 = some y) : G_Ltx_Coinbase [.agg ([.v (.int .u32 a0.1), .slice .no (List.map eapi_Input a0.2.1), .slice .no (List.map eapi_Output a0.2.2.1), .v (.int .u32 a0.2.2.2)])] = some (.one (.v (.bool y)), []) := by
  have := lift_eq (g := fun x => (Ltx_Coinbase x).map fun y => (.one (.v (.bool y)), [])) E_Ltx_Coinbase_inj a0
  unfold G_Ltx_Coinbase
  rw [show [.agg ([.v (.int .u32 a0.1), .slice .no (List.map eapi_Input a0.2.1), .slice .no (List.map eapi_Output a0.2.2.1), .v (.int .u32 a0.2.2.2)])] = E_Ltx_Coinbase a0 from rfl, this]
  simp [h]
def E_Ltx_money (x : (List Tapi_Output)) : List PV := [.one (.slice .no (List.map eapi_Output x))]
theorem E_Ltx_money_inj : ∀ a b, E_Ltx_money a = E_Ltx_money b → a = b := by
  rintro a0 b0 h
  simpa [E_Ltx_money, and_assoc] using h
noncomputable def G_Ltx_money : List PV → Option (PV × List (List Cell)) := lift E_Ltx_money fun x => (Ltx_money x).map fun y => (.one (.v (.bool y)), [])
theorem G_Ltx_money_eq {a0 : (List Tapi_Output)} {y : Bool} (h : Ltx_money a0 = some y) : G_Ltx_money [.one (.slice .no (List.map eapi_Output a0))] = some (.one (.v (.bool y)), []) := by
  have := lift_eq (g := fun x => (Ltx_money x).map fun y => (.one (.v (.bool y)), [])) E_Ltx_money_inj a0
  unfold G_Ltx_money
  rw [show [.one (.slice .no (List.map eapi_Output a0))] = E_Ltx_money a0 from rfl, this]
  simp [h]
def E_Ltx_Check (x : Tapi_Tx) : List PV := [.agg ([.v (.int .u32 x.1), .slice .no (List.map eapi_Input x.2.1), .slice .no (List.map eapi_Output x.2.2.1), .v (.int .u32 x.2.2.2)])]
theorem E_Ltx_Check_inj : ∀ a b, E_Ltx_Check a = E_Ltx_Check b → a = b := by
  rintro ⟨a0_0, a0_1, a0_2, a0_3⟩ ⟨b0_0, b0_1, b0_2, b0_3⟩ h
  simpa [E_Ltx_Check, and_assoc] using h
noncomputable def G_Ltx_Check : List PV → Option (PV × List (List Cell)) := lift E_Ltx_Check fun x => (Ltx_Check x).map fun y => (.one (.v (.int .i64 y)), [])
theorem G_Ltx_Check_eq {a0 : Tapi_Tx} {y : Int} (h : Ltx_Check a0 = some y) : G_Ltx_Check [.agg ([.v (.int .u32 a0.1), .slice .no (List.map eapi_Input a0.2.1), .slice .no (List.map eapi_Output a0.2.2.1), .v (.int .u32 a0.2.2.2)])] = some (.one (.v (.int .i64 y)), []) := by
  have := lift_eq (g := fun x => (Ltx_Check x).map fun y => (.one (.v (.int .i64 y)), [])) E_Ltx_Check_inj a0
  unfold G_Ltx_Check
  rw [show [.agg ([.v (.int .u32 a0.1), .slice .no (List.map eapi_Input a0.2.1), .slice .no (List.map eapi_Output a0.2.2.1), .v (.int .u32 a0.2.2.2)])] = E_Ltx_Check a0 from rfl, this]
  simp [h]
def E_Lspend_sum (x : (List Tapi_Coin)) : List PV := [.one (.slice .no (List.map eapi_Coin x))]
theorem E_Lspend_sum_inj : ∀ a b, E_Lspend_sum a = E_Lspend_sum b → a = b := by
  rintro a0 b0 h
  simpa [E_Lspend_sum, and_assoc] using h
noncomputable def G_Lspend_sum : List PV → Option (PV × List (List Cell)) := lift E_Lspend_sum fun x => (Lspend_sum x).map fun y => (.tup [.one (.v (.int .i64 y.1)), .one (.v (.bool y.2))], [])
theorem G_Lspend_sum_eq {a0 : (List Tapi_Coin)} {y : Int × Bool} (h : Lspend_sum a0 = some y) : G_Lspend_sum [.one (.slice .no (List.map eapi_Coin a0))] = some (.tup [.one (.v (.int .i64 y.1)), .one (.v (.bool y.2))], []) := by
  have := lift_eq (g := fun x => (Lspend_sum x).map fun y => (.tup [.one (.v (.int .i64 y.1)), .one (.v (.bool y.2))], [])) E_Lspend_sum_inj a0
  unfold G_Lspend_sum
  rw [show [.one (.slice .no (List.map eapi_Coin a0))] = E_Lspend_sum a0 from rfl, this]
  simp [h]
def E_Lspend_Fee (x : Tapi_Tx × (List Tapi_Coin)) : List PV := [.agg ([.v (.int .u32 x.1.1), .slice .no (List.map eapi_Input x.1.2.1), .slice .no (List.map eapi_Output x.1.2.2.1), .v (.int .u32 x.1.2.2.2)]), .one (.slice .no (List.map eapi_Coin x.2))]
theorem E_Lspend_Fee_inj : ∀ a b, E_Lspend_Fee a = E_Lspend_Fee b → a = b := by
  rintro ⟨⟨a0_0, a0_1, a0_2, a0_3⟩, a1⟩ ⟨⟨b0_0, b0_1, b0_2, b0_3⟩, b1⟩ h
  simpa [E_Lspend_Fee, and_assoc] using h
noncomputable def G_Lspend_Fee : List PV → Option (PV × List (List Cell)) := lift E_Lspend_Fee fun x => (Lspend_Fee x.1 x.2).map fun y => (.tup [.one (.v (.int .i64 y.1)), .one (.v (.int .i64 y.2))], [])
theorem G_Lspend_Fee_eq {a0 : Tapi_Tx} {a1 : (List Tapi_Coin)} {y : Int × Int} (h : Lspend_Fee a0 a1 = some y) : G_Lspend_Fee [.agg ([.v (.int .u32 a0.1), .slice .no (List.map eapi_Input a0.2.1), .slice .no (List.map eapi_Output a0.2.2.1), .v (.int .u32 a0.2.2.2)]), .one (.slice .no (List.map eapi_Coin a1))] = some (.tup [.one (.v (.int .i64 y.1)), .one (.v (.int .i64 y.2))], []) := by
  have := lift_eq (g := fun x => (Lspend_Fee x.1 x.2).map fun y => (.tup [.one (.v (.int .i64 y.1)), .one (.v (.int .i64 y.2))], [])) E_Lspend_Fee_inj (a0, a1)
  unfold G_Lspend_Fee
  rw [show [.agg ([.v (.int .u32 a0.1), .slice .no (List.map eapi_Input a0.2.1), .slice .no (List.map eapi_Output a0.2.2.1), .v (.int .u32 a0.2.2.2)]), .one (.slice .no (List.map eapi_Coin a1))] = E_Lspend_Fee (a0, a1) from rfl, this]
  simp [h]
def E_Lbuild_Valid (x : Tapi_Plan) : List PV := [.agg ([.v (.int .u32 x.1.1), .slice .no (List.map eapi_Input x.1.2.1), .slice .no (List.map eapi_Output x.1.2.2.1), .v (.int .u32 x.1.2.2.2), .slice .no (List.map eapi_Coin x.2.1), .v (.int .i64 x.2.2.1), .v (.int .i64 x.2.2.2)])]
theorem E_Lbuild_Valid_inj : ∀ a b, E_Lbuild_Valid a = E_Lbuild_Valid b → a = b := by
  rintro ⟨⟨a0_0_0, a0_0_1, a0_0_2, a0_0_3⟩, a0_1, a0_2, a0_3⟩ ⟨⟨b0_0_0, b0_0_1, b0_0_2, b0_0_3⟩, b0_1, b0_2, b0_3⟩ h
  simpa [E_Lbuild_Valid, and_assoc] using h
noncomputable def G_Lbuild_Valid : List PV → Option (PV × List (List Cell)) := lift E_Lbuild_Valid fun x => (Lbuild_Valid x).map fun y => (.one (.v (.bool y)), [])
theorem G_Lbuild_Valid_eq {a0 : Tapi_Plan} {y : Bool} (h : Lbuild_Valid a0 = some y) : G_Lbuild_Valid [.agg ([.v (.int .u32 a0.1.1), .slice .no (List.map eapi_Input a0.1.2.1), .slice .no (List.map eapi_Output a0.1.2.2.1), .v (.int .u32 a0.1.2.2.2), .slice .no (List.map eapi_Coin a0.2.1), .v (.int .i64 a0.2.2.1), .v (.int .i64 a0.2.2.2)])] = some (.one (.v (.bool y)), []) := by
  have := lift_eq (g := fun x => (Lbuild_Valid x).map fun y => (.one (.v (.bool y)), [])) E_Lbuild_Valid_inj a0
  unfold G_Lbuild_Valid
  rw [show [.agg ([.v (.int .u32 a0.1.1), .slice .no (List.map eapi_Input a0.1.2.1), .slice .no (List.map eapi_Output a0.1.2.2.1), .v (.int .u32 a0.1.2.2.2), .slice .no (List.map eapi_Coin a0.2.1), .v (.int .i64 a0.2.2.1), .v (.int .i64 a0.2.2.2)])] = E_Lbuild_Valid a0 from rfl, this]
  simp [h]
def E_Lref09_Null (x : Tapi_OutPoint) : List PV := [.agg ((arC .u8 x.1) ++ ((.v (.int .u32 x.2)) :: []))]
theorem E_Lref09_Null_inj : ∀ a b, E_Lref09_Null a = E_Lref09_Null b → a = b := by
  rintro ⟨a0_0, a0_1⟩ ⟨b0_0, b0_1⟩ h
  simpa [E_Lref09_Null, and_assoc] using h
noncomputable def G_Lref09_Null : List PV → Option (PV × List (List Cell)) := lift E_Lref09_Null fun x => (Lref09_Null x).map fun y => (.one (.v (.bool y)), [])
theorem G_Lref09_Null_eq {a0 : Tapi_OutPoint} {y : Bool} (h : Lref09_Null a0 = some y) : G_Lref09_Null [.agg ((arC .u8 a0.1) ++ ((.v (.int .u32 a0.2)) :: []))] = some (.one (.v (.bool y)), []) := by
  have := lift_eq (g := fun x => (Lref09_Null x).map fun y => (.one (.v (.bool y)), [])) E_Lref09_Null_inj a0
  unfold G_Lref09_Null
  rw [show [.agg ((arC .u8 a0.1) ++ ((.v (.int .u32 a0.2)) :: []))] = E_Lref09_Null a0 from rfl, this]
  simp [h]
def E_Lref09_Coinbase (x : Tapi_Tx) : List PV := [.agg ([.v (.int .u32 x.1), .slice .no (List.map eapi_Input x.2.1), .slice .no (List.map eapi_Output x.2.2.1), .v (.int .u32 x.2.2.2)])]
theorem E_Lref09_Coinbase_inj : ∀ a b, E_Lref09_Coinbase a = E_Lref09_Coinbase b → a = b := by
  rintro ⟨a0_0, a0_1, a0_2, a0_3⟩ ⟨b0_0, b0_1, b0_2, b0_3⟩ h
  simpa [E_Lref09_Coinbase, and_assoc] using h
noncomputable def G_Lref09_Coinbase : List PV → Option (PV × List (List Cell)) := lift E_Lref09_Coinbase fun x => (Lref09_Coinbase x).map fun y => (.one (.v (.bool y)), [])
theorem G_Lref09_Coinbase_eq {a0 : Tapi_Tx} {y : Bool} (h : Lref09_Coinbase a0 = some y) : G_Lref09_Coinbase [.agg ([.v (.int .u32 a0.1), .slice .no (List.map eapi_Input a0.2.1), .slice .no (List.map eapi_Output a0.2.2.1), .v (.int .u32 a0.2.2.2)])] = some (.one (.v (.bool y)), []) := by
  have := lift_eq (g := fun x => (Lref09_Coinbase x).map fun y => (.one (.v (.bool y)), [])) E_Lref09_Coinbase_inj a0
  unfold G_Lref09_Coinbase
  rw [show [.agg ([.v (.int .u32 a0.1), .slice .no (List.map eapi_Input a0.2.1), .slice .no (List.map eapi_Output a0.2.2.1), .v (.int .u32 a0.2.2.2)])] = E_Lref09_Coinbase a0 from rfl, this]
  simp [h]
def E_Lref09_Check (x : Tapi_Tx) : List PV := [.agg ([.v (.int .u32 x.1), .slice .no (List.map eapi_Input x.2.1), .slice .no (List.map eapi_Output x.2.2.1), .v (.int .u32 x.2.2.2)])]
theorem E_Lref09_Check_inj : ∀ a b, E_Lref09_Check a = E_Lref09_Check b → a = b := by
  rintro ⟨a0_0, a0_1, a0_2, a0_3⟩ ⟨b0_0, b0_1, b0_2, b0_3⟩ h
  simpa [E_Lref09_Check, and_assoc] using h
noncomputable def G_Lref09_Check : List PV → Option (PV × List (List Cell)) := lift E_Lref09_Check fun x => (Lref09_Check x).map fun y => (.one (.v (.int .i64 y)), [])
theorem G_Lref09_Check_eq {a0 : Tapi_Tx} {y : Int} (h : Lref09_Check a0 = some y) : G_Lref09_Check [.agg ([.v (.int .u32 a0.1), .slice .no (List.map eapi_Input a0.2.1), .slice .no (List.map eapi_Output a0.2.2.1), .v (.int .u32 a0.2.2.2)])] = some (.one (.v (.int .i64 y)), []) := by
  have := lift_eq (g := fun x => (Lref09_Check x).map fun y => (.one (.v (.int .i64 y)), [])) E_Lref09_Check_inj a0
  unfold G_Lref09_Check
  rw [show [.agg ([.v (.int .u32 a0.1), .slice .no (List.map eapi_Input a0.2.1), .slice .no (List.map eapi_Output a0.2.2.1), .v (.int .u32 a0.2.2.2)])] = E_Lref09_Check a0 from rfl, this]
  simp [h]
def E_Lref10_Fee (x : Tapi_Tx × (List Tapi_Coin)) : List PV := [.agg ([.v (.int .u32 x.1.1), .slice .no (List.map eapi_Input x.1.2.1), .slice .no (List.map eapi_Output x.1.2.2.1), .v (.int .u32 x.1.2.2.2)]), .one (.slice .no (List.map eapi_Coin x.2))]
theorem E_Lref10_Fee_inj : ∀ a b, E_Lref10_Fee a = E_Lref10_Fee b → a = b := by
  rintro ⟨⟨a0_0, a0_1, a0_2, a0_3⟩, a1⟩ ⟨⟨b0_0, b0_1, b0_2, b0_3⟩, b1⟩ h
  simpa [E_Lref10_Fee, and_assoc] using h
noncomputable def G_Lref10_Fee : List PV → Option (PV × List (List Cell)) := lift E_Lref10_Fee fun x => (Lref10_Fee x.1 x.2).map fun y => (.tup [.one (.v (.int .i64 y.1)), .one (.v (.int .i64 y.2))], [])
theorem G_Lref10_Fee_eq {a0 : Tapi_Tx} {a1 : (List Tapi_Coin)} {y : Int × Int} (h : Lref10_Fee a0 a1 = some y) : G_Lref10_Fee [.agg ([.v (.int .u32 a0.1), .slice .no (List.map eapi_Input a0.2.1), .slice .no (List.map eapi_Output a0.2.2.1), .v (.int .u32 a0.2.2.2)]), .one (.slice .no (List.map eapi_Coin a1))] = some (.tup [.one (.v (.int .i64 y.1)), .one (.v (.int .i64 y.2))], []) := by
  have := lift_eq (g := fun x => (Lref10_Fee x.1 x.2).map fun y => (.tup [.one (.v (.int .i64 y.1)), .one (.v (.int .i64 y.2))], [])) E_Lref10_Fee_inj (a0, a1)
  unfold G_Lref10_Fee
  rw [show [.agg ([.v (.int .u32 a0.1), .slice .no (List.map eapi_Input a0.2.1), .slice .no (List.map eapi_Output a0.2.2.1), .v (.int .u32 a0.2.2.2)]), .one (.slice .no (List.map eapi_Coin a1))] = E_Lref10_Fee (a0, a1) from rfl, this]
  simp [h]
def E_Lref34_Valid (x : Tapi_Plan) : List PV := [.agg ([.v (.int .u32 x.1.1), .slice .no (List.map eapi_Input x.1.2.1), .slice .no (List.map eapi_Output x.1.2.2.1), .v (.int .u32 x.1.2.2.2), .slice .no (List.map eapi_Coin x.2.1), .v (.int .i64 x.2.2.1), .v (.int .i64 x.2.2.2)])]
theorem E_Lref34_Valid_inj : ∀ a b, E_Lref34_Valid a = E_Lref34_Valid b → a = b := by
  rintro ⟨⟨a0_0_0, a0_0_1, a0_0_2, a0_0_3⟩, a0_1, a0_2, a0_3⟩ ⟨⟨b0_0_0, b0_0_1, b0_0_2, b0_0_3⟩, b0_1, b0_2, b0_3⟩ h
  simpa [E_Lref34_Valid, and_assoc] using h
noncomputable def G_Lref34_Valid : List PV → Option (PV × List (List Cell)) := lift E_Lref34_Valid fun x => (Lref34_Valid x).map fun y => (.one (.v (.bool y)), [])
theorem G_Lref34_Valid_eq {a0 : Tapi_Plan} {y : Bool} (h : Lref34_Valid a0 = some y) : G_Lref34_Valid [.agg ([.v (.int .u32 a0.1.1), .slice .no (List.map eapi_Input a0.1.2.1), .slice .no (List.map eapi_Output a0.1.2.2.1), .v (.int .u32 a0.1.2.2.2), .slice .no (List.map eapi_Coin a0.2.1), .v (.int .i64 a0.2.2.1), .v (.int .i64 a0.2.2.2)])] = some (.one (.v (.bool y)), []) := by
  have := lift_eq (g := fun x => (Lref34_Valid x).map fun y => (.one (.v (.bool y)), [])) E_Lref34_Valid_inj a0
  unfold G_Lref34_Valid
  rw [show [.agg ([.v (.int .u32 a0.1.1), .slice .no (List.map eapi_Input a0.1.2.1), .slice .no (List.map eapi_Output a0.1.2.2.1), .v (.int .u32 a0.1.2.2.2), .slice .no (List.map eapi_Coin a0.2.1), .v (.int .i64 a0.2.2.1), .v (.int .i64 a0.2.2.2)])] = E_Lref34_Valid a0 from rfl, this]
  simp [h]
def E_Llaw34_BuildValid (x : (List Int) × Int × Int) : List PV := [.one (.slice .no (intsR .i64 x.1)), .one (.v (.int .i64 x.2.1)), .one (.v (.int .i64 x.2.2))]
theorem E_Llaw34_BuildValid_inj : ∀ a b, E_Llaw34_BuildValid a = E_Llaw34_BuildValid b → a = b := by
  rintro ⟨a0, a1, a2⟩ ⟨b0, b1, b2⟩ h
  simpa [E_Llaw34_BuildValid, and_assoc] using h
noncomputable def G_Llaw34_BuildValid : List PV → Option (PV × List (List Cell)) := lift E_Llaw34_BuildValid fun x => (Llaw34_BuildValid x.1 x.2.1 x.2.2).map fun y => (.one (.v (.bool y)), [])
theorem G_Llaw34_BuildValid_eq {a0 : (List Int)} {a1 : Int} {a2 : Int} {y : Bool} (h : Llaw34_BuildValid a0 a1 a2 = some y) : G_Llaw34_BuildValid [.one (.slice .no (intsR .i64 a0)), .one (.v (.int .i64 a1)), .one (.v (.int .i64 a2))] = some (.one (.v (.bool y)), []) := by
  have := lift_eq (g := fun x => (Llaw34_BuildValid x.1 x.2.1 x.2.2).map fun y => (.one (.v (.bool y)), [])) E_Llaw34_BuildValid_inj (a0, a1, a2)
  unfold G_Llaw34_BuildValid
  rw [show [.one (.slice .no (intsR .i64 a0)), .one (.v (.int .i64 a1)), .one (.v (.int .i64 a2))] = E_Llaw34_BuildValid (a0, a1, a2) from rfl, this]
  simp [h]
end Go.Proofs.Ytanhccemhpmnhaa
