import Derived.Test.YtconfbgcjkjnkaaDoorLcQ1
import Derived.Test.YtconfbgcjkjnkaaDoorLcQ1
import Derived.Test.YtconfbgcjkjnkaaDoorLcQ1
import Derived.Test.YtconfbgcjkjnkaaDoorTt
namespace Go.Proofs.YtconfbgcjkjnkaaDoor
open Go.RowKit
open Go.Av
open Go.Lc
set_option maxRecDepth 100000
set_option linter.unusedSimpArgs false
set_option linter.unusedVariables false
attribute [simp] tt1 tt2 tt3 tt4 tt5 tt6 tt7 tt8 tt9 tt10 tt11 tt12 tt13 tt14 tt15 tt16 tt17 tt18 tt19 tt21 tt22 tt23 tt24 tt25 tt26 tt27 tt28 tt29 tt30 tt31 tt32 tt33 tt34 tt35 tt36 tt37 tt38 tt39 tt40 tt41 tt42 tt43 tt44 tt45 tt46 tt47 tt48 tt49 tt50 tt51 tt52 tt53 tt55 tt56 tt57 tt58 tt59 tt60 tt61 tt62 tt63 tt64 tt65 tt67 tt68 tt69 tt70 tt71 tt72 tt73 tt74 tt75 tt76 tt77 tt78 tt79 tt80 tt81 tt82 tt83 tt84 tt85 tt86 tt87 tt88 tt89 tt90 tt91 tt92 tt93 tt94 tt95 tt96 tt97 tt98 tt99 tt100 tt101 tt102 tt104 tt105 tt106 tt107 tt108 tt109 tt110 tt111 tt112 tt113 tt114 tt115 tt116 tt117 tt118 tt119 tt120 tt121 tt122 tt123 tt125 tt126 tt127 tt129 tt130 tt131 tt132 tt133 tt134 tt135 tt136 tt137 tt138 tt139 tt140 tt141 tt142 tt143 tt144 tt145 tt146 tt147 tt148 tt149 tt150 tt151 tt152 tt153 tt154 tt155 tt156 tt157 tt158 tt159 ti1 ti2 ti3 ti4 ti5 ti6 ti7 ti8 ti9 ti10 ti11 ti12 ti13 ti14 ti15 ti16 ti17 ti18 ti19 ti21 ti22 ti23 ti24 ti25 ti26 ti27 ti28 ti29 ti30 ti31 ti32 ti33 ti34 ti35 ti36 ti37 ti38 ti39 ti40 ti41 ti42 ti43 ti44 ti45 ti46 ti47 ti48 ti49 ti50 ti51 ti52 ti53 ti55 ti56 ti57 ti58 ti59 ti60 ti61 ti62 ti63 ti64 ti65 ti67 ti68 ti69 ti70 ti71 ti72 ti73 ti74 ti75 ti76 ti77 ti78 ti79 ti80 ti81 ti82 ti83 ti84 ti85 ti86 ti87 ti88 ti89 ti90 ti91 ti92 ti93 ti94 ti95 ti96 ti97 ti98 ti99 ti100 ti101 ti102 ti104 ti105 ti106 ti107 ti108 ti109 ti110 ti111 ti112 ti113 ti114 ti115 ti116 ti117 ti118 ti119 ti120 ti121 ti122 ti123 ti125 ti126 ti127 ti129 ti130 ti131 ti132 ti133 ti134 ti135 ti136 ti137 ti138 ti139 ti140 ti141 ti142 ti143 ti144 ti145 ti146 ti147 ti148 ti149 ti150 ti151 ti152 ti153 ti154 ti155 ti156 ti157 ti158 ti159
@[simp] def eS_I_u8 (x : (List Int)) : List Cell := [.slice .no (intsR .u8 x)]
theorem eS_I_u8_inj : ∀ a b, eS_I_u8 a = eS_I_u8 b → a = b := by
  rintro a b h
  simpa [and_assoc] using h
@[simp↓] theorem eS_I_u8_all (m : List (List Int)) : (∀ l, l ∈ List.map eS_I_u8 m → l.length = 1) = True := all_map_len (fun a => by simp) m
@[simp] theorem eS_I_u8_map {l m : List (List Int)} : List.map eS_I_u8 l = List.map eS_I_u8 m ↔ l = m := map_iff eS_I_u8_inj
@[simp] def eapi_Input (x : Tapi_Input) : List Cell := (arC .u8 x.1.1) ++ ((.v (.int .u32 x.1.2)) :: ((.v (.int .u32 x.2.1)) :: ((.slice .no (List.map eS_I_u8 x.2.2)) :: [])))
theorem eapi_Input_inj : ∀ a b, eapi_Input a = eapi_Input b → a = b := by
  rintro ⟨⟨a_0_0, a_0_1⟩, a_1, a_2⟩ ⟨⟨b_0_0, b_0_1⟩, b_1, b_2⟩ h
  simpa [and_assoc] using h
@[simp↓] theorem eapi_Input_all (m : List Tapi_Input) : (∀ l, l ∈ List.map eapi_Input m → l.length = 35) = True := all_map_len (fun a => by simp) m
@[simp] theorem eapi_Input_map {l m : List Tapi_Input} : List.map eapi_Input l = List.map eapi_Input m ↔ l = m := map_iff eapi_Input_inj
@[simp] def eapi_Output (x : Tapi_Output) : List Cell := [.v (.int .i64 x.1), .slice .no (intsR .u8 x.2)]
theorem eapi_Output_inj : ∀ a b, eapi_Output a = eapi_Output b → a = b := by
  rintro ⟨a_0, a_1⟩ ⟨b_0, b_1⟩ h
  simpa [and_assoc] using h
@[simp↓] theorem eapi_Output_all (m : List Tapi_Output) : (∀ l, l ∈ List.map eapi_Output m → l.length = 2) = True := all_map_len (fun a => by simp) m
@[simp] theorem eapi_Output_map {l m : List Tapi_Output} : List.map eapi_Output l = List.map eapi_Output m ↔ l = m := map_iff eapi_Output_inj
@[simp] def eapi_Entry (x : Tapi_Entry) : List Cell := [.v (.int .u32 x.1.1), .slice .no (List.map eapi_Input x.1.2.1), .slice .no (List.map eapi_Output x.1.2.2.1), .v (.int .u32 x.1.2.2.2), .v (.int .i64 x.2)]
theorem eapi_Entry_inj : ∀ a b, eapi_Entry a = eapi_Entry b → a = b := by
  rintro ⟨⟨a_0_0, a_0_1, a_0_2, a_0_3⟩, a_1⟩ ⟨⟨b_0_0, b_0_1, b_0_2, b_0_3⟩, b_1⟩ h
  simpa [and_assoc] using h
@[simp↓] theorem eapi_Entry_all (m : List Tapi_Entry) : (∀ l, l ∈ List.map eapi_Entry m → l.length = 5) = True := all_map_len (fun a => by simp) m
@[simp] theorem eapi_Entry_map {l m : List Tapi_Entry} : List.map eapi_Entry l = List.map eapi_Entry m ↔ l = m := map_iff eapi_Entry_inj
@[simp] def eS_api_Entry (x : (List Tapi_Entry)) : List Cell := [.slice .no (List.map eapi_Entry x)]
theorem eS_api_Entry_inj : ∀ a b, eS_api_Entry a = eS_api_Entry b → a = b := by
  rintro a b h
  simpa [and_assoc] using h
@[simp↓] theorem eS_api_Entry_all (m : List (List Tapi_Entry)) : (∀ l, l ∈ List.map eS_api_Entry m → l.length = 1) = True := all_map_len (fun a => by simp) m
@[simp] theorem eS_api_Entry_map {l m : List (List Tapi_Entry)} : List.map eS_api_Entry l = List.map eS_api_Entry m ↔ l = m := map_iff eS_api_Entry_inj
theorem nfs : (∀ x : (List Int), eS_I_u8 x = [.slice .no (intsR .u8 x)]) ∧ (∀ x : Tapi_Input, eapi_Input x = (arC .u8 x.1.1) ++ ((.v (.int .u32 x.1.2)) :: ((.v (.int .u32 x.2.1)) :: ((.slice .no (List.map eS_I_u8 x.2.2)) :: [])))) ∧ (∀ x : Tapi_Output, eapi_Output x = [.v (.int .i64 x.1), .slice .no (intsR .u8 x.2)]) ∧ (∀ x : Tapi_Entry, eapi_Entry x = [.v (.int .u32 x.1.1), .slice .no (List.map eapi_Input x.1.2.1), .slice .no (List.map eapi_Output x.1.2.2.1), .v (.int .u32 x.1.2.2.2), .v (.int .i64 x.2)]) ∧ (∀ x : (List Tapi_Entry), eS_api_Entry x = [.slice .no (List.map eapi_Entry x)]) := ⟨fun _ => rfl, fun _ => rfl, fun _ => rfl, fun _ => rfl, fun _ => rfl⟩
@[simp] def eM_api_OutPoint_B (x : Tapi_OutPoint × Bool) : List Cell := ((arC .u8 x.1.1) ++ ((.v (.int .u32 x.1.2)) :: [])) ++ ([.v (.bool x.2)])
theorem eM_api_OutPoint_B_he : ∀ a b : Tapi_OutPoint, kEq ((arC .u8 a.1) ++ ((.v (.int .u32 a.2)) :: [])) ((arC .u8 b.1) ++ ((.v (.int .u32 b.2)) :: [])) = decide (a = b) := by
  rintro ⟨a_0, a_1⟩ ⟨b_0, b_1⟩
  rw [Bool.eq_iff_iff]
  simp [kEq, kEq1]
@[simp] theorem eM_api_OutPoint_B_get {k0 : (Arr 32)} {k1 : Int} {l : List (Tapi_OutPoint × Bool)} : getM 33 ((arC .u8 k0) ++ ((.v (.int .u32 k1)) :: [])) (List.map eM_api_OutPoint_B l) = Option.map (fun v : Bool => ([.v (.bool v)] : List Cell)) (mget (k0, k1) l) := getM_map (eK := (fun k : Tapi_OutPoint => ((arC .u8 k.1) ++ ((.v (.int .u32 k.2)) :: []) : List Cell))) (eV := (fun v : Bool => ([.v (.bool v)] : List Cell))) (fun k => by simp) eM_api_OutPoint_B_he (k0, k1) l
@[simp] theorem eM_api_OutPoint_B_put {k0 : (Arr 32)} {k1 : Int} {v0 : Bool} {l : List (Tapi_OutPoint × Bool)} : putM 33 ((arC .u8 k0) ++ ((.v (.int .u32 k1)) :: [])) ([.v (.bool v0)]) (List.map eM_api_OutPoint_B l) = List.map eM_api_OutPoint_B (mput (k0, k1) v0 l) := putM_map (eK := (fun k : Tapi_OutPoint => ((arC .u8 k.1) ++ ((.v (.int .u32 k.2)) :: []) : List Cell))) (eV := (fun v : Bool => ([.v (.bool v)] : List Cell))) (fun k => by simp) eM_api_OutPoint_B_he (k0, k1) v0 l
@[simp] theorem eM_api_OutPoint_B_gd (o : Option Bool) : (Option.map (fun v : Bool => ([.v (.bool v)] : List Cell)) o).getD ([.v (.bool false)]) = [.v (.bool (o.getD false))] := by cases o <;> rfl
@[simp] theorem eM_api_OutPoint_B_put0 {k0 : (Arr 32)} {k1 : Int} {v0 : Bool} : putM 33 ((arC .u8 k0) ++ ((.v (.int .u32 k1)) :: [])) ([.v (.bool v0)]) [] = List.map eM_api_OutPoint_B (mput (k0, k1) v0 []) := rfl
def G : Glob := fun g => if g = 0 then some (arC .u32 shaInitial) else if g = 1 then some (arC .u32 shaK) else none
@[simp] theorem G_at0 : G 0 = some (arC .u32 shaInitial) := rfl
@[simp] theorem G_at1 : G 1 = some (arC .u32 shaK) := rfl
def E34 (x : Tapi_Input) : List PV := [.agg ((arC .u8 x.1.1) ++ ((.v (.int .u32 x.1.2)) :: ((.v (.int .u32 x.2.1)) :: ((.slice .no (List.map eS_I_u8 x.2.2)) :: []))))]
theorem E34i : ∀ a b, E34 a = E34 b → a = b := by
  rintro ⟨⟨a0_0_0, a0_0_1⟩, a0_1, a0_2⟩ ⟨⟨b0_0_0, b0_0_1⟩, b0_1, b0_2⟩ h
  simpa [E34, and_assoc] using h
def R34 (x : Tapi_Input) (y : Bool) : PV × List (List Cell) := (.one (.v (.bool y)), [])
noncomputable def G34 := lift E34 fun x => (Lreplace_Signals_1 x).map (R34 x)
theorem G34_eq {a0 : Tapi_Input} {y : Bool} (h : Lreplace_Signals_1 a0 = some y) : G34 (E34 a0) = some (R34 a0 y) := lift_som E34i h
def E73_1 (x : (List Tapi_Input)) : List PV := [.one (.slice .no (List.map eapi_Input x)), .fn 34]
theorem E73_1i : ∀ a b, E73_1 a = E73_1 b → a = b := by
  rintro a0 b0 h
  simpa [E73_1, and_assoc] using h
def R73_1 (x : (List Tapi_Input)) (y : Int) : PV × List (List Cell) := (.one (.v (.int .i64 y)), [])
noncomputable def G73_1 := lift E73_1 fun x => (Lslices_IndexFunc_of__api_Input_api_Input__replace_Signals_1 x).map (R73_1 x)
theorem G73_1_eq {a0 : (List Tapi_Input)} {y : Int} (h : Lslices_IndexFunc_of__api_Input_api_Input__replace_Signals_1 a0 = some y) : G73_1 (E73_1 a0) = some (R73_1 a0 y) := lift_som E73_1i h
def E33_2 (x : (List Tapi_Input)) : List PV := [.one (.slice .no (List.map eapi_Input x)), .fn 34]
theorem E33_2i : ∀ a b, E33_2 a = E33_2 b → a = b := by
  rintro a0 b0 h
  simpa [E33_2, and_assoc] using h
def R33_2 (x : (List Tapi_Input)) (y : Bool) : PV × List (List Cell) := (.one (.v (.bool y)), [])
noncomputable def G33_2 := lift E33_2 fun x => (Lslices_ContainsFunc_of__api_Input_api_Input__replace_Signals_1 x).map (R33_2 x)
theorem G33_2_eq {a0 : (List Tapi_Input)} {y : Bool} (h : Lslices_ContainsFunc_of__api_Input_api_Input__replace_Signals_1 a0 = some y) : G33_2 (E33_2 a0) = some (R33_2 a0 y) := lift_som E33_2i h
def E11 (x : Tapi_Tx) : List PV := [.agg ([.v (.int .u32 x.1), .slice .no (List.map eapi_Input x.2.1), .slice .no (List.map eapi_Output x.2.2.1), .v (.int .u32 x.2.2.2)])]
theorem E11i : ∀ a b, E11 a = E11 b → a = b := by
  rintro ⟨a0_0, a0_1, a0_2, a0_3⟩ ⟨b0_0, b0_1, b0_2, b0_3⟩ h
  simpa [E11, and_assoc] using h
def R11 (x : Tapi_Tx) (y : Bool) : PV × List (List Cell) := (.one (.v (.bool y)), [])
noncomputable def G11 := lift E11 fun x => (Lreplace_Signals x).map (R11 x)
theorem G11_eq {a0 : Tapi_Tx} {y : Bool} (h : Lreplace_Signals a0 = some y) : G11 (E11 a0) = some (R11 a0 y) := lift_som E11i h
def E36_3 (x : Tapi_Input × Tapi_Input) : List PV := [.agg ((arC .u8 x.1.1.1) ++ ((.v (.int .u32 x.1.1.2)) :: ((.v (.int .u32 x.1.2.1)) :: ((.slice .no (List.map eS_I_u8 x.1.2.2)) :: [])))), .ref ((arC .u8 x.2.1.1) ++ ((.v (.int .u32 x.2.1.2)) :: ((.v (.int .u32 x.2.2.1)) :: ((.slice .no (List.map eS_I_u8 x.2.2.2)) :: []))))]
theorem E36_3i : ∀ a b, E36_3 a = E36_3 b → a = b := by
  rintro ⟨⟨⟨a0_0_0, a0_0_1⟩, a0_1, a0_2⟩, ⟨⟨a1_0_0, a1_0_1⟩, a1_1, a1_2⟩⟩ ⟨⟨⟨b0_0_0, b0_0_1⟩, b0_1, b0_2⟩, ⟨⟨b1_0_0, b1_0_1⟩, b1_1, b1_2⟩⟩ h
  simpa [E36_3, and_assoc] using h
def R36_3 (x : Tapi_Input × Tapi_Input) (y : Bool) : PV × List (List Cell) := (.one (.v (.bool y)), [])
noncomputable def G36_3 := lift E36_3 fun x => (Lreplace_Conflict_1_1__r x.1 x.2).map (R36_3 x)
theorem G36_3_eq {a0 : Tapi_Input} {a1 : Tapi_Input} {y : Bool} (h : Lreplace_Conflict_1_1__r a0 a1 = some y) : G36_3 (E36_3 (a0, a1)) = some (R36_3 (a0, a1) y) := lift_som E36_3i h
def E73_4 (x : (List Tapi_Input) × Tapi_Input) : List PV := [.one (.slice .no (List.map eapi_Input x.1)), .clo 36 [.ref ((arC .u8 x.2.1.1) ++ ((.v (.int .u32 x.2.1.2)) :: ((.v (.int .u32 x.2.2.1)) :: ((.slice .no (List.map eS_I_u8 x.2.2.2)) :: []))))]]
theorem E73_4i : ∀ a b, E73_4 a = E73_4 b → a = b := by
  rintro ⟨a0, ⟨⟨a1_0_0, a1_0_1⟩, a1_1, a1_2⟩⟩ ⟨b0, ⟨⟨b1_0_0, b1_0_1⟩, b1_1, b1_2⟩⟩ h
  simpa [E73_4, and_assoc] using h
def R73_4 (x : (List Tapi_Input) × Tapi_Input) (y : Int) : PV × List (List Cell) := (.one (.v (.int .i64 y)), [])
noncomputable def G73_4 := lift E73_4 fun x => (Lslices_IndexFunc_of__api_Input_api_Input__replace_Conflict_1_1 x.1 x.2).map (R73_4 x)
theorem G73_4_eq {a0 : (List Tapi_Input)} {a1 : Tapi_Input} {y : Int} (h : Lslices_IndexFunc_of__api_Input_api_Input__replace_Conflict_1_1 a0 a1 = some y) : G73_4 (E73_4 (a0, a1)) = some (R73_4 (a0, a1) y) := lift_som E73_4i h
def E33_5 (x : (List Tapi_Input) × Tapi_Input) : List PV := [.one (.slice .no (List.map eapi_Input x.1)), .clo 36 [.ref ((arC .u8 x.2.1.1) ++ ((.v (.int .u32 x.2.1.2)) :: ((.v (.int .u32 x.2.2.1)) :: ((.slice .no (List.map eS_I_u8 x.2.2.2)) :: []))))]]
theorem E33_5i : ∀ a b, E33_5 a = E33_5 b → a = b := by
  rintro ⟨a0, ⟨⟨a1_0_0, a1_0_1⟩, a1_1, a1_2⟩⟩ ⟨b0, ⟨⟨b1_0_0, b1_0_1⟩, b1_1, b1_2⟩⟩ h
  simpa [E33_5, and_assoc] using h
def R33_5 (x : (List Tapi_Input) × Tapi_Input) (y : Bool) : PV × List (List Cell) := (.one (.v (.bool y)), [])
noncomputable def G33_5 := lift E33_5 fun x => (Lslices_ContainsFunc_of__api_Input_api_Input__replace_Conflict_1_1 x.1 x.2).map (R33_5 x)
theorem G33_5_eq {a0 : (List Tapi_Input)} {a1 : Tapi_Input} {y : Bool} (h : Lslices_ContainsFunc_of__api_Input_api_Input__replace_Conflict_1_1 a0 a1 = some y) : G33_5 (E33_5 (a0, a1)) = some (R33_5 (a0, a1) y) := lift_som E33_5i h
def E35_6 (x : Tapi_Input × Tapi_Tx) : List PV := [.agg ((arC .u8 x.1.1.1) ++ ((.v (.int .u32 x.1.1.2)) :: ((.v (.int .u32 x.1.2.1)) :: ((.slice .no (List.map eS_I_u8 x.1.2.2)) :: [])))), .ref ([.v (.int .u32 x.2.1), .slice .no (List.map eapi_Input x.2.2.1), .slice .no (List.map eapi_Output x.2.2.2.1), .v (.int .u32 x.2.2.2.2)])]
theorem E35_6i : ∀ a b, E35_6 a = E35_6 b → a = b := by
  rintro ⟨⟨⟨a0_0_0, a0_0_1⟩, a0_1, a0_2⟩, ⟨a1_0, a1_1, a1_2, a1_3⟩⟩ ⟨⟨⟨b0_0_0, b0_0_1⟩, b0_1, b0_2⟩, ⟨b1_0, b1_1, b1_2, b1_3⟩⟩ h
  simpa [E35_6, and_assoc] using h
def R35_6 (x : Tapi_Input × Tapi_Tx) (y : Bool) : PV × List (List Cell) := (.one (.v (.bool y)), [])
noncomputable def G35_6 := lift E35_6 fun x => (Lreplace_Conflict_1__r x.1 x.2).map (R35_6 x)
theorem G35_6_eq {a0 : Tapi_Input} {a1 : Tapi_Tx} {y : Bool} (h : Lreplace_Conflict_1__r a0 a1 = some y) : G35_6 (E35_6 (a0, a1)) = some (R35_6 (a0, a1) y) := lift_som E35_6i h
def E73_7 (x : (List Tapi_Input) × Tapi_Tx) : List PV := [.one (.slice .no (List.map eapi_Input x.1)), .clo 35 [.ref ([.v (.int .u32 x.2.1), .slice .no (List.map eapi_Input x.2.2.1), .slice .no (List.map eapi_Output x.2.2.2.1), .v (.int .u32 x.2.2.2.2)])]]
theorem E73_7i : ∀ a b, E73_7 a = E73_7 b → a = b := by
  rintro ⟨a0, ⟨a1_0, a1_1, a1_2, a1_3⟩⟩ ⟨b0, ⟨b1_0, b1_1, b1_2, b1_3⟩⟩ h
  simpa [E73_7, and_assoc] using h
def R73_7 (x : (List Tapi_Input) × Tapi_Tx) (y : Int) : PV × List (List Cell) := (.one (.v (.int .i64 y)), [])
noncomputable def G73_7 := lift E73_7 fun x => (Lslices_IndexFunc_of__api_Input_api_Input__replace_Conflict_1 x.1 x.2).map (R73_7 x)
theorem G73_7_eq {a0 : (List Tapi_Input)} {a1 : Tapi_Tx} {y : Int} (h : Lslices_IndexFunc_of__api_Input_api_Input__replace_Conflict_1 a0 a1 = some y) : G73_7 (E73_7 (a0, a1)) = some (R73_7 (a0, a1) y) := lift_som E73_7i h
def E33_8 (x : (List Tapi_Input) × Tapi_Tx) : List PV := [.one (.slice .no (List.map eapi_Input x.1)), .clo 35 [.ref ([.v (.int .u32 x.2.1), .slice .no (List.map eapi_Input x.2.2.1), .slice .no (List.map eapi_Output x.2.2.2.1), .v (.int .u32 x.2.2.2.2)])]]
theorem E33_8i : ∀ a b, E33_8 a = E33_8 b → a = b := by
  rintro ⟨a0, ⟨a1_0, a1_1, a1_2, a1_3⟩⟩ ⟨b0, ⟨b1_0, b1_1, b1_2, b1_3⟩⟩ h
  simpa [E33_8, and_assoc] using h
def R33_8 (x : (List Tapi_Input) × Tapi_Tx) (y : Bool) : PV × List (List Cell) := (.one (.v (.bool y)), [])
noncomputable def G33_8 := lift E33_8 fun x => (Lslices_ContainsFunc_of__api_Input_api_Input__replace_Conflict_1 x.1 x.2).map (R33_8 x)
theorem G33_8_eq {a0 : (List Tapi_Input)} {a1 : Tapi_Tx} {y : Bool} (h : Lslices_ContainsFunc_of__api_Input_api_Input__replace_Conflict_1 a0 a1 = some y) : G33_8 (E33_8 (a0, a1)) = some (R33_8 (a0, a1) y) := lift_som E33_8i h
def E13 (x : Tapi_Tx × Tapi_Tx) : List PV := [.agg ([.v (.int .u32 x.1.1), .slice .no (List.map eapi_Input x.1.2.1), .slice .no (List.map eapi_Output x.1.2.2.1), .v (.int .u32 x.1.2.2.2)]), .agg ([.v (.int .u32 x.2.1), .slice .no (List.map eapi_Input x.2.2.1), .slice .no (List.map eapi_Output x.2.2.2.1), .v (.int .u32 x.2.2.2.2)])]
theorem E13i : ∀ a b, E13 a = E13 b → a = b := by
  rintro ⟨⟨a0_0, a0_1, a0_2, a0_3⟩, ⟨a1_0, a1_1, a1_2, a1_3⟩⟩ ⟨⟨b0_0, b0_1, b0_2, b0_3⟩, ⟨b1_0, b1_1, b1_2, b1_3⟩⟩ h
  simpa [E13, and_assoc] using h
def R13 (x : Tapi_Tx × Tapi_Tx) (y : Bool) : PV × List (List Cell) := (.one (.v (.bool y)), [])
noncomputable def G13 := lift E13 fun x => (Lreplace_Conflict x.1 x.2).map (R13 x)
theorem G13_eq {a0 : Tapi_Tx} {a1 : Tapi_Tx} {y : Bool} (h : Lreplace_Conflict a0 a1 = some y) : G13 (E13 (a0, a1)) = some (R13 (a0, a1) y) := lift_som E13i h
def E79 (x : Tapi_OutPoint) : List PV := [.agg ((arC .u8 x.1) ++ ((.v (.int .u32 x.2)) :: []))]
theorem E79i : ∀ a b, E79 a = E79 b → a = b := by
  rintro ⟨a0_0, a0_1⟩ ⟨b0_0, b0_1⟩ h
  simpa [E79, and_assoc] using h
def R79 (x : Tapi_OutPoint) (y : Bool) : PV × List (List Cell) := (.one (.v (.bool y)), [])
noncomputable def G79 := lift E79 fun x => (Ltx_null x).map (R79 x)
theorem G79_eq {a0 : Tapi_OutPoint} {y : Bool} (h : Ltx_null a0 = some y) : G79 (E79 a0) = some (R79 a0 y) := lift_som E79i h
def E45 (x : Tapi_Tx) : List PV := [.agg ([.v (.int .u32 x.1), .slice .no (List.map eapi_Input x.2.1), .slice .no (List.map eapi_Output x.2.2.1), .v (.int .u32 x.2.2.2)])]
theorem E45i : ∀ a b, E45 a = E45 b → a = b := by
  rintro ⟨a0_0, a0_1, a0_2, a0_3⟩ ⟨b0_0, b0_1, b0_2, b0_3⟩ h
  simpa [E45, and_assoc] using h
def R45 (x : Tapi_Tx) (y : Bool) : PV × List (List Cell) := (.one (.v (.bool y)), [])
noncomputable def G45 := lift E45 fun x => (Ltx_Coinbase x).map (R45 x)
theorem G45_eq {a0 : Tapi_Tx} {y : Bool} (h : Ltx_Coinbase a0 = some y) : G45 (E45 a0) = some (R45 a0 y) := lift_som E45i h
def E115 (x : (List Int) × (List Int)) : List PV := [.one (.slice .no (intsR .u8 x.1)), .one (.slice .no (intsR .u8 x.2))]
theorem E115i : ∀ a b, E115 a = E115 b → a = b := by
  rintro ⟨a0, a1⟩ ⟨b0, b1⟩ h
  simpa [E115, and_assoc] using h
def R115 (x : (List Int) × (List Int)) (y : (List Int)) : PV × List (List Cell) := (.one (.own 1 (intsR .u8 y)), [])
noncomputable def G115 := lift E115 fun x => (Lcodec_extend x.1 x.2).map (R115 x)
theorem G115_eq {a0 : (List Int)} {a1 : (List Int)} {y : (List Int)} (h : Lcodec_extend a0 a1 = some y) : G115 (E115 (a0, a1)) = some (R115 (a0, a1) y) := lift_som E115i h
def E116 (x : Int × Int) : List PV := [.one (.v (.int .u64 x.1)), .one (.v (.int .i64 x.2))]
theorem E116i : ∀ a b, E116 a = E116 b → a = b := by
  rintro ⟨a0, a1⟩ ⟨b0, b1⟩ h
  simpa [E116, and_assoc] using h
def R116 (x : Int × Int) (y : (List Int)) : PV × List (List Cell) := (.one (.own 1 (intsR .u8 y)), [])
noncomputable def G116 := lift E116 fun x => (Lcodec_lowest x.1 x.2).map (R116 x)
theorem G116_eq {a0 : Int} {a1 : Int} {y : (List Int)} (h : Lcodec_lowest a0 a1 = some y) : G116 (E116 (a0, a1)) = some (R116 (a0, a1) y) := lift_som E116i h
def E106 (x : (List Int) × Int) : List PV := [.one (.slice .no (intsR .u8 x.1)), .one (.v (.int .u32 x.2))]
theorem E106i : ∀ a b, E106 a = E106 b → a = b := by
  rintro ⟨a0, a1⟩ ⟨b0, b1⟩ h
  simpa [E106, and_assoc] using h
def R106 (x : (List Int) × Int) (y : (List Int)) : PV × List (List Cell) := (.one (.own 1 (intsR .u8 y)), [])
noncomputable def G106 := lift E106 fun x => (Lcodec_AppendU32 x.1 x.2).map (R106 x)
theorem G106_eq {a0 : (List Int)} {a1 : Int} {y : (List Int)} (h : Lcodec_AppendU32 a0 a1 = some y) : G106 (E106 (a0, a1)) = some (R106 (a0, a1) y) := lift_som E106i h
def E109 (x : (List Int) × Int) : List PV := [.one (.slice .no (intsR .u8 x.1)), .one (.v (.int .u64 x.2))]
theorem E109i : ∀ a b, E109 a = E109 b → a = b := by
  rintro ⟨a0, a1⟩ ⟨b0, b1⟩ h
  simpa [E109, and_assoc] using h
def R109 (x : (List Int) × Int) (y : (List Int)) : PV × List (List Cell) := (.one (.own 1 (intsR .u8 y)), [])
noncomputable def G109 := lift E109 fun x => (Lcodec_AppendU64 x.1 x.2).map (R109 x)
theorem G109_eq {a0 : (List Int)} {a1 : Int} {y : (List Int)} (h : Lcodec_AppendU64 a0 a1 = some y) : G109 (E109 (a0, a1)) = some (R109 (a0, a1) y) := lift_som E109i h
def E117 (x : (List Int) × Int) : List PV := [.one (.slice .no (intsR .u8 x.1)), .one (.v (.int .u16 x.2))]
theorem E117i : ∀ a b, E117 a = E117 b → a = b := by
  rintro ⟨a0, a1⟩ ⟨b0, b1⟩ h
  simpa [E117, and_assoc] using h
def R117 (x : (List Int) × Int) (y : (List Int)) : PV × List (List Cell) := (.one (.own 1 (intsR .u8 y)), [])
noncomputable def G117 := lift E117 fun x => (Lcodec_AppendU16 x.1 x.2).map (R117 x)
theorem G117_eq {a0 : (List Int)} {a1 : Int} {y : (List Int)} (h : Lcodec_AppendU16 a0 a1 = some y) : G117 (E117 (a0, a1)) = some (R117 (a0, a1) y) := lift_som E117i h
def E107 (x : (List Int) × Int) : List PV := [.one (.slice .no (intsR .u8 x.1)), .one (.v (.int .u64 x.2))]
theorem E107i : ∀ a b, E107 a = E107 b → a = b := by
  rintro ⟨a0, a1⟩ ⟨b0, b1⟩ h
  simpa [E107, and_assoc] using h
def R107 (x : (List Int) × Int) (y : (List Int)) : PV × List (List Cell) := (.one (.own 1 (intsR .u8 y)), [])
noncomputable def G107 := lift E107 fun x => (Lcodec_AppendSize x.1 x.2).map (R107 x)
theorem G107_eq {a0 : (List Int)} {a1 : Int} {y : (List Int)} (h : Lcodec_AppendSize a0 a1 = some y) : G107 (E107 (a0, a1)) = some (R107 (a0, a1) y) := lift_som E107i h
def E118 (x : (List Int) × (Arr 32)) : List PV := [.one (.slice .no (intsR .u8 x.1)), .agg (arC .u8 x.2)]
theorem E118i : ∀ a b, E118 a = E118 b → a = b := by
  rintro ⟨a0, a1⟩ ⟨b0, b1⟩ h
  simpa [E118, and_assoc] using h
def R118 (x : (List Int) × (Arr 32)) (y : (List Int)) : PV × List (List Cell) := (.one (.own 1 (intsR .u8 y)), [])
noncomputable def G118 := lift E118 fun x => (Lcodec_AppendHash x.1 x.2).map (R118 x)
theorem G118_eq {a0 : (List Int)} {a1 : (Arr 32)} {y : (List Int)} (h : Lcodec_AppendHash a0 a1 = some y) : G118 (E118 (a0, a1)) = some (R118 (a0, a1) y) := lift_som E118i h
def E108 (x : Tapi_OutPoint) : List PV := [.agg ((arC .u8 x.1) ++ ((.v (.int .u32 x.2)) :: []))]
theorem E108i : ∀ a b, E108 a = E108 b → a = b := by
  rintro ⟨a0_0, a0_1⟩ ⟨b0_0, b0_1⟩ h
  simpa [E108, and_assoc] using h
def R108 (x : Tapi_OutPoint) (y : (List Int)) : PV × List (List Cell) := (.one (.own 1 (intsR .u8 y)), [])
noncomputable def G108 := lift E108 fun x => (Ltx_Point x).map (R108 x)
theorem G108_eq {a0 : Tapi_OutPoint} {y : (List Int)} (h : Ltx_Point a0 = some y) : G108 (E108 a0) = some (R108 a0 y) := lift_som E108i h
def E110 (x : (List Int) × (List Int)) : List PV := [.one (.slice .no (intsR .u8 x.1)), .one (.slice .no (intsR .u8 x.2))]
theorem E110i : ∀ a b, E110 a = E110 b → a = b := by
  rintro ⟨a0, a1⟩ ⟨b0, b1⟩ h
  simpa [E110, and_assoc] using h
def R110 (x : (List Int) × (List Int)) (y : (List Int)) : PV × List (List Cell) := (.one (.own 1 (intsR .u8 y)), [])
noncomputable def G110 := lift E110 fun x => (Lcodec_AppendBytes x.1 x.2).map (R110 x)
theorem G110_eq {a0 : (List Int)} {a1 : (List Int)} {y : (List Int)} (h : Lcodec_AppendBytes a0 a1 = some y) : G110 (E110 (a0, a1)) = some (R110 (a0, a1) y) := lift_som E110i h
def E95 (x : Tapi_Tx × Bool) : List PV := [.agg ([.v (.int .u32 x.1.1), .slice .no (List.map eapi_Input x.1.2.1), .slice .no (List.map eapi_Output x.1.2.2.1), .v (.int .u32 x.1.2.2.2)]), .one (.v (.bool x.2))]
theorem E95i : ∀ a b, E95 a = E95 b → a = b := by
  rintro ⟨⟨a0_0, a0_1, a0_2, a0_3⟩, a1⟩ ⟨⟨b0_0, b0_1, b0_2, b0_3⟩, b1⟩ h
  simpa [E95, and_assoc] using h
def R95 (x : Tapi_Tx × Bool) (y : (List Int)) : PV × List (List Cell) := (.one (.own 1 (intsR .u8 y)), [])
noncomputable def G95 := lift E95 fun x => (Ltx_encode x.1 x.2).map (R95 x)
theorem G95_eq {a0 : Tapi_Tx} {a1 : Bool} {y : (List Int)} (h : Ltx_encode a0 a1 = some y) : G95 (E95 (a0, a1)) = some (R95 (a0, a1) y) := lift_som E95i h
def E75 (x : Tapi_Tx) : List PV := [.agg ([.v (.int .u32 x.1), .slice .no (List.map eapi_Input x.2.1), .slice .no (List.map eapi_Output x.2.2.1), .v (.int .u32 x.2.2.2)])]
theorem E75i : ∀ a b, E75 a = E75 b → a = b := by
  rintro ⟨a0_0, a0_1, a0_2, a0_3⟩ ⟨b0_0, b0_1, b0_2, b0_3⟩ h
  simpa [E75, and_assoc] using h
def R75 (x : Tapi_Tx) (y : Bool) : PV × List (List Cell) := (.one (.v (.bool y)), [])
noncomputable def G75 := lift E75 fun x => (Ltx_fits x).map (R75 x)
theorem G75_eq {a0 : Tapi_Tx} {y : Bool} (h : Ltx_fits a0 = some y) : G75 (E75 a0) = some (R75 a0 y) := lift_som E75i h
def E76 (x : (List Tapi_Output)) : List PV := [.one (.slice .no (List.map eapi_Output x))]
theorem E76i : ∀ a b, E76 a = E76 b → a = b := by
  rintro a0 b0 h
  simpa [E76, and_assoc] using h
def R76 (x : (List Tapi_Output)) (y : Bool) : PV × List (List Cell) := (.one (.v (.bool y)), [])
noncomputable def G76 := lift E76 fun x => (Ltx_money x).map (R76 x)
theorem G76_eq {a0 : (List Tapi_Output)} {y : Bool} (h : Ltx_money a0 = some y) : G76 (E76 a0) = some (R76 a0 y) := lift_som E76i h
def E39 (x : Tapi_Tx) : List PV := [.agg ([.v (.int .u32 x.1), .slice .no (List.map eapi_Input x.2.1), .slice .no (List.map eapi_Output x.2.2.1), .v (.int .u32 x.2.2.2)])]
theorem E39i : ∀ a b, E39 a = E39 b → a = b := by
  rintro ⟨a0_0, a0_1, a0_2, a0_3⟩ ⟨b0_0, b0_1, b0_2, b0_3⟩ h
  simpa [E39, and_assoc] using h
def R39 (x : Tapi_Tx) (y : Int) : PV × List (List Cell) := (.one (.v (.int .i64 y)), [])
noncomputable def G39 := lift E39 fun x => (Ltx_Check x).map (R39 x)
theorem G39_eq {a0 : Tapi_Tx} {y : Int} (h : Ltx_Check a0 = some y) : G39 (E39 a0) = some (R39 a0 y) := lift_som E39i h
def E98 (x : Tapi_Tx × Bool) : List PV := [.agg ([.v (.int .u32 x.1.1), .slice .no (List.map eapi_Input x.1.2.1), .slice .no (List.map eapi_Output x.1.2.2.1), .v (.int .u32 x.1.2.2.2)]), .one (.v (.bool x.2))]
theorem E98i : ∀ a b, E98 a = E98 b → a = b := by
  rintro ⟨⟨a0_0, a0_1, a0_2, a0_3⟩, a1⟩ ⟨⟨b0_0, b0_1, b0_2, b0_3⟩, b1⟩ h
  simpa [E98, and_assoc] using h
def R98 (x : Tapi_Tx × Bool) (y : (List Int) × Int) : PV × List (List Cell) := (.tup [.one (.slice .no (intsR .u8 y.1)), .one (.v (.int .i64 y.2))], [])
noncomputable def G98 := lift E98 fun x => (Ltx_Encode x.1 x.2).map (R98 x)
theorem G98_eq {a0 : Tapi_Tx} {a1 : Bool} {y : (List Int) × Int} (h : Ltx_Encode a0 a1 = some y) : G98 (E98 (a0, a1)) = some (R98 (a0, a1) y) := lift_som E98i h
def E122 (x : (List (List Int))) : List PV := [.one (.slice .no (List.map eS_I_u8 x))]
theorem E122i : ∀ a b, E122 a = E122 b → a = b := by
  rintro a0 b0 h
  simpa [E122, and_assoc] using h
def R122 (x : (List (List Int))) (y : (List Int)) : PV × List (List Cell) := (.one (.own 1 (intsR .u8 y)), [])
noncomputable def G122 := lift E122 fun x => (Lsha_row x).map (R122 x)
theorem G122_eq {a0 : (List (List Int))} {y : (List Int)} (h : Lsha_row a0 = some y) : G122 (E122 a0) = some (R122 a0 y) := lift_som E122i h
def E123 (x : Int) : List PV := [.one (.v (.int .u64 x))]
theorem E123i : ∀ a b, E123 a = E123 b → a = b := by
  rintro a0 b0 h
  simpa [E123, and_assoc] using h
def R123 (x : Int) (y : (List Int)) : PV × List (List Cell) := (.one (.own 1 (intsR .u8 y)), [])
noncomputable def G123 := lift E123 fun x => (Lsha_Pad x).map (R123 x)
theorem G123_eq {a0 : Int} {y : (List Int)} (h : Lsha_Pad a0 = some y) : G123 (E123 a0) = some (R123 a0 y) := lift_som E123i h
def E125 (x : Int × Int) : List PV := [.one (.v (.int .u32 x.1)), .one (.v (.int .i64 x.2))]
theorem E125i : ∀ a b, E125 a = E125 b → a = b := by
  rintro ⟨a0, a1⟩ ⟨b0, b1⟩ h
  simpa [E125, and_assoc] using h
def R125 (x : Int × Int) (y : Int) : PV × List (List Cell) := (.one (.v (.int .u32 y)), [])
noncomputable def G125 := lift E125 fun x => (Lmath_bits_RotateLeft32 x.1 x.2).map (R125 x)
theorem G125_eq {a0 : Int} {a1 : Int} {y : Int} (h : Lmath_bits_RotateLeft32 a0 a1 = some y) : G125 (E125 (a0, a1)) = some (R125 (a0, a1) y) := lift_som E125i h
def E127 (x : Int × Int) : List PV := [.one (.v (.int .u32 x.1)), .one (.v (.int .i64 x.2))]
theorem E127i : ∀ a b, E127 a = E127 b → a = b := by
  rintro ⟨a0, a1⟩ ⟨b0, b1⟩ h
  simpa [E127, and_assoc] using h
def R127 (x : Int × Int) (y : Int) : PV × List (List Cell) := (.one (.v (.int .u32 y)), [])
noncomputable def G127 := lift E127 fun x => (Lsha_rotr x.1 x.2).map (R127 x)
theorem G127_eq {a0 : Int} {a1 : Int} {y : Int} (h : Lsha_rotr a0 a1 = some y) : G127 (E127 (a0, a1)) = some (R127 (a0, a1) y) := lift_som E127i h
def E126 (x : (Arr 64)) : List PV := [.agg (arC .u8 x)]
theorem E126i : ∀ a b, E126 a = E126 b → a = b := by
  rintro a0 b0 h
  simpa [E126, and_assoc] using h
def R126 (x : (Arr 64)) (y : (Arr 64)) : PV × List (List Cell) := (.agg (arC .u32 y), [])
noncomputable def G126 := lift E126 fun x => (Lsha_schedule x).map (R126 x)
theorem G126_eq {a0 : (Arr 64)} {y : (Arr 64)} (h : Lsha_schedule a0 = some y) : G126 (E126 a0) = some (R126 a0 y) := lift_som E126i h
def E124 (x : (Arr 8) × (Arr 64)) : List PV := [.agg (arC .u32 x.1), .agg (arC .u8 x.2)]
theorem E124i : ∀ a b, E124 a = E124 b → a = b := by
  rintro ⟨a0, a1⟩ ⟨b0, b1⟩ h
  simpa [E124, and_assoc] using h
def R124 (x : (Arr 8) × (Arr 64)) (y : (Arr 8)) : PV × List (List Cell) := (.agg (arC .u32 y), [])
noncomputable def G124 := lift E124 fun x => (Lsha_Compress x.1 x.2).map (R124 x)
theorem G124_eq {a0 : (Arr 8)} {a1 : (Arr 64)} {y : (Arr 8)} (h : Lsha_Compress a0 a1 = some y) : G124 (E124 (a0, a1)) = some (R124 (a0, a1) y) := lift_som E124i h
def E114 (x : (List Int)) : List PV := [.one (.slice .no (intsR .u8 x))]
theorem E114i : ∀ a b, E114 a = E114 b → a = b := by
  rintro a0 b0 h
  simpa [E114, and_assoc] using h
def R114 (x : (List Int)) (y : (Arr 32)) : PV × List (List Cell) := (.agg (arC .u8 y), [])
noncomputable def G114 := lift E114 fun x => (Lsha_Sum x).map (R114 x)
theorem G114_eq {a0 : (List Int)} {y : (Arr 32)} (h : Lsha_Sum a0 = some y) : G114 (E114 a0) = some (R114 a0 y) := lift_som E114i h
def E99 (x : (List Int)) : List PV := [.one (.slice .no (intsR .u8 x))]
theorem E99i : ∀ a b, E99 a = E99 b → a = b := by
  rintro a0 b0 h
  simpa [E99, and_assoc] using h
def R99 (x : (List Int)) (y : (Arr 32)) : PV × List (List Cell) := (.agg (arC .u8 y), [])
noncomputable def G99 := lift E99 fun x => (Lsha_Double x).map (R99 x)
theorem G99_eq {a0 : (List Int)} {y : (Arr 32)} (h : Lsha_Double a0 = some y) : G99 (E99 a0) = some (R99 a0 y) := lift_som E99i h
def E78 (x : Tapi_Tx × Bool) : List PV := [.agg ([.v (.int .u32 x.1.1), .slice .no (List.map eapi_Input x.1.2.1), .slice .no (List.map eapi_Output x.1.2.2.1), .v (.int .u32 x.1.2.2.2)]), .one (.v (.bool x.2))]
theorem E78i : ∀ a b, E78 a = E78 b → a = b := by
  rintro ⟨⟨a0_0, a0_1, a0_2, a0_3⟩, a1⟩ ⟨⟨b0_0, b0_1, b0_2, b0_3⟩, b1⟩ h
  simpa [E78, and_assoc] using h
def R78 (x : Tapi_Tx × Bool) (y : (Arr 32)) : PV × List (List Cell) := (.agg (arC .u8 y), [])
noncomputable def G78 := lift E78 fun x => (Ltx_digest x.1 x.2).map (R78 x)
theorem G78_eq {a0 : Tapi_Tx} {a1 : Bool} {y : (Arr 32)} (h : Ltx_digest a0 a1 = some y) : G78 (E78 (a0, a1)) = some (R78 (a0, a1) y) := lift_som E78i h
def E43 (x : Tapi_Tx) : List PV := [.agg ([.v (.int .u32 x.1), .slice .no (List.map eapi_Input x.2.1), .slice .no (List.map eapi_Output x.2.2.1), .v (.int .u32 x.2.2.2)])]
theorem E43i : ∀ a b, E43 a = E43 b → a = b := by
  rintro ⟨a0_0, a0_1, a0_2, a0_3⟩ ⟨b0_0, b0_1, b0_2, b0_3⟩ h
  simpa [E43, and_assoc] using h
def R43 (x : Tapi_Tx) (y : (Arr 32)) : PV × List (List Cell) := (.agg (arC .u8 y), [])
noncomputable def G43 := lift E43 fun x => (Ltx_ID x).map (R43 x)
theorem G43_eq {a0 : Tapi_Tx} {y : (Arr 32)} (h : Ltx_ID a0 = some y) : G43 (E43 a0) = some (R43 a0 y) := lift_som E43i h
def E46 (x : Int) : List PV := [.one (.v (.int .i64 x))]
theorem E46i : ∀ a b, E46 a = E46 b → a = b := by
  rintro a0 b0 h
  simpa [E46, and_assoc] using h
def R46 (x : Int) (y : Bool) : PV × List (List Cell) := (.one (.v (.bool y)), [])
noncomputable def G46 := lift E46 fun x => (Lreplace_money x).map (R46 x)
theorem G46_eq {a0 : Int} {y : Bool} (h : Lreplace_money a0 = some y) : G46 (E46 a0) = some (R46 a0 y) := lift_som E46i h
def E47 (x : Tapi_Entry) : List PV := [.agg ([.v (.int .u32 x.1.1), .slice .no (List.map eapi_Input x.1.2.1), .slice .no (List.map eapi_Output x.1.2.2.1), .v (.int .u32 x.1.2.2.2), .v (.int .i64 x.2)])]
theorem E47i : ∀ a b, E47 a = E47 b → a = b := by
  rintro ⟨⟨a0_0_0, a0_0_1, a0_0_2, a0_0_3⟩, a0_1⟩ ⟨⟨b0_0_0, b0_0_1, b0_0_2, b0_0_3⟩, b0_1⟩ h
  simpa [E47, and_assoc] using h
def R47 (x : Tapi_Entry) (y : Bool) : PV × List (List Cell) := (.one (.v (.bool y)), [])
noncomputable def G47 := lift E47 fun x => (Lreplace_Accept_3 x).map (R47 x)
theorem G47_eq {a0 : Tapi_Entry} {y : Bool} (h : Lreplace_Accept_3 a0 = some y) : G47 (E47 a0) = some (R47 a0 y) := lift_som E47i h
def E49 (x : Tapi_Entry) : List PV := [.agg ([.v (.int .u32 x.1.1), .slice .no (List.map eapi_Input x.1.2.1), .slice .no (List.map eapi_Output x.1.2.2.1), .v (.int .u32 x.1.2.2.2), .v (.int .i64 x.2)])]
theorem E49i : ∀ a b, E49 a = E49 b → a = b := by
  rintro ⟨⟨a0_0_0, a0_0_1, a0_0_2, a0_0_3⟩, a0_1⟩ ⟨⟨b0_0_0, b0_0_1, b0_0_2, b0_0_3⟩, b0_1⟩ h
  simpa [E49, and_assoc] using h
def R49 (x : Tapi_Entry) (y : Bool) : PV × List (List Cell) := (.one (.v (.bool y)), [])
noncomputable def G49 := lift E49 fun x => (Lreplace_Accept_5 x).map (R49 x)
theorem G49_eq {a0 : Tapi_Entry} {y : Bool} (h : Lreplace_Accept_5 a0 = some y) : G49 (E49 a0) = some (R49 a0 y) := lift_som E49i h
def E66 (x : Tapi_Tx) : List PV := [.agg ([.v (.int .u32 x.1), .slice .no (List.map eapi_Input x.2.1), .slice .no (List.map eapi_Output x.2.2.1), .v (.int .u32 x.2.2.2)])]
theorem E66i : ∀ a b, E66 a = E66 b → a = b := by
  rintro ⟨a0_0, a0_1, a0_2, a0_3⟩ ⟨b0_0, b0_1, b0_2, b0_3⟩ h
  simpa [E66, and_assoc] using h
def R66 (x : Tapi_Tx) (y : Int) : PV × List (List Cell) := (.one (.v (.int .i64 y)), [])
noncomputable def G66 := lift E66 fun x => (Ltx_Weight x).map (R66 x)
theorem G66_eq {a0 : Tapi_Tx} {y : Int} (h : Ltx_Weight a0 = some y) : G66 (E66 a0) = some (R66 a0 y) := lift_som E66i h
def E67 (x : Int × Int) : List PV := [.one (.v (.int .i64 x.1)), .one (.v (.int .i64 x.2))]
theorem E67i : ∀ a b, E67 a = E67 b → a = b := by
  rintro ⟨a0, a1⟩ ⟨b0, b1⟩ h
  simpa [E67, and_assoc] using h
def R67 (x : Int × Int) (y : Int) : PV × List (List Cell) := (.one (.v (.int .i64 y)), [])
noncomputable def G67 := lift E67 fun x => (Lbuild_Fee x.1 x.2).map (R67 x)
theorem G67_eq {a0 : Int} {a1 : Int} {y : Int} (h : Lbuild_Fee a0 a1 = some y) : G67 (E67 (a0, a1)) = some (R67 (a0, a1) y) := lift_som E67i h
def E80 (x : Int × Int) : List PV := [.one (.v (.int .i64 x.1)), .one (.v (.int .i64 x.2))]
theorem E80i : ∀ a b, E80 a = E80 b → a = b := by
  rintro ⟨a0, a1⟩ ⟨b0, b1⟩ h
  simpa [E80, and_assoc] using h
def R80 (x : Int × Int) (y : Int) : PV × List (List Cell) := (.one (.v (.int .i64 y)), [])
noncomputable def G80 := lift E80 fun x => (Lfees_Rate x.1 x.2).map (R80 x)
theorem G80_eq {a0 : Int} {a1 : Int} {y : Int} (h : Lfees_Rate a0 a1 = some y) : G80 (E80 (a0, a1)) = some (R80 (a0, a1) y) := lift_som E80i h
def E82 (x : Tapi_Entry) : List PV := [.agg ([.v (.int .u32 x.1.1), .slice .no (List.map eapi_Input x.1.2.1), .slice .no (List.map eapi_Output x.1.2.2.1), .v (.int .u32 x.1.2.2.2), .v (.int .i64 x.2)])]
theorem E82i : ∀ a b, E82 a = E82 b → a = b := by
  rintro ⟨⟨a0_0_0, a0_0_1, a0_0_2, a0_0_3⟩, a0_1⟩ ⟨⟨b0_0_0, b0_0_1, b0_0_2, b0_0_3⟩, b0_1⟩ h
  simpa [E82, and_assoc] using h
def R82 (x : Tapi_Entry) (y : Int) : PV × List (List Cell) := (.one (.v (.int .i64 y)), [])
noncomputable def G82 := lift E82 fun x => (Lreplace_rateOf x).map (R82 x)
theorem G82_eq {a0 : Tapi_Entry} {y : Int} (h : Lreplace_rateOf a0 = some y) : G82 (E82 a0) = some (R82 a0 y) := lift_som E82i h
def E81_9 (x : Tapi_Entry × Int) : List PV := [.agg ([.v (.int .u32 x.1.1.1), .slice .no (List.map eapi_Input x.1.1.2.1), .slice .no (List.map eapi_Output x.1.1.2.2.1), .v (.int .u32 x.1.1.2.2.2), .v (.int .i64 x.1.2)]), .ref ([.v (.int .i64 x.2)])]
theorem E81_9i : ∀ a b, E81_9 a = E81_9 b → a = b := by
  rintro ⟨⟨⟨a0_0_0, a0_0_1, a0_0_2, a0_0_3⟩, a0_1⟩, a1⟩ ⟨⟨⟨b0_0_0, b0_0_1, b0_0_2, b0_0_3⟩, b0_1⟩, b1⟩ h
  simpa [E81_9, and_assoc] using h
def R81_9 (x : Tapi_Entry × Int) (y : Bool) : PV × List (List Cell) := (.one (.v (.bool y)), [])
noncomputable def G81_9 := lift E81_9 fun x => (Lreplace_enough_1__r x.1 x.2).map (R81_9 x)
theorem G81_9_eq {a0 : Tapi_Entry} {a1 : Int} {y : Bool} (h : Lreplace_enough_1__r a0 a1 = some y) : G81_9 (E81_9 (a0, a1)) = some (R81_9 (a0, a1) y) := lift_som E81_9i h
def E77_10 (x : (List Tapi_Entry) × Int) : List PV := [.one (.slice .no (List.map eapi_Entry x.1)), .clo 81 [.ref ([.v (.int .i64 x.2)])]]
theorem E77_10i : ∀ a b, E77_10 a = E77_10 b → a = b := by
  rintro ⟨a0, a1⟩ ⟨b0, b1⟩ h
  simpa [E77_10, and_assoc] using h
def R77_10 (x : (List Tapi_Entry) × Int) (y : Int) : PV × List (List Cell) := (.one (.v (.int .i64 y)), [])
noncomputable def G77_10 := lift E77_10 fun x => (Lslices_IndexFunc_of__api_Entry_api_Entry__replace_enough_1 x.1 x.2).map (R77_10 x)
theorem G77_10_eq {a0 : (List Tapi_Entry)} {a1 : Int} {y : Int} (h : Lslices_IndexFunc_of__api_Entry_api_Entry__replace_enough_1 a0 a1 = some y) : G77_10 (E77_10 (a0, a1)) = some (R77_10 (a0, a1) y) := lift_som E77_10i h
def E41_11 (x : (List Tapi_Entry) × Int) : List PV := [.one (.slice .no (List.map eapi_Entry x.1)), .clo 81 [.ref ([.v (.int .i64 x.2)])]]
theorem E41_11i : ∀ a b, E41_11 a = E41_11 b → a = b := by
  rintro ⟨a0, a1⟩ ⟨b0, b1⟩ h
  simpa [E41_11, and_assoc] using h
def R41_11 (x : (List Tapi_Entry) × Int) (y : Bool) : PV × List (List Cell) := (.one (.v (.bool y)), [])
noncomputable def G41_11 := lift E41_11 fun x => (Lslices_ContainsFunc_of__api_Entry_api_Entry__replace_enough_1 x.1 x.2).map (R41_11 x)
theorem G41_11_eq {a0 : (List Tapi_Entry)} {a1 : Int} {y : Bool} (h : Lslices_ContainsFunc_of__api_Entry_api_Entry__replace_enough_1 a0 a1 = some y) : G41_11 (E41_11 (a0, a1)) = some (R41_11 (a0, a1) y) := lift_som E41_11i h
def E50 (x : (List Tapi_Entry) × Tapi_Tx × Int) : List PV := [.one (.slice .no (List.map eapi_Entry x.1)), .agg ([.v (.int .u32 x.2.1.1), .slice .no (List.map eapi_Input x.2.1.2.1), .slice .no (List.map eapi_Output x.2.1.2.2.1), .v (.int .u32 x.2.1.2.2.2)]), .one (.v (.int .i64 x.2.2))]
theorem E50i : ∀ a b, E50 a = E50 b → a = b := by
  rintro ⟨a0, ⟨a1_0, a1_1, a1_2, a1_3⟩, a2⟩ ⟨b0, ⟨b1_0, b1_1, b1_2, b1_3⟩, b2⟩ h
  simpa [E50, and_assoc] using h
def R50 (x : (List Tapi_Entry) × Tapi_Tx × Int) (y : Bool) : PV × List (List Cell) := (.one (.v (.bool y)), [])
noncomputable def G50 := lift E50 fun x => (Lreplace_enough x.1 x.2.1 x.2.2).map (R50 x)
theorem G50_eq {a0 : (List Tapi_Entry)} {a1 : Tapi_Tx} {a2 : Int} {y : Bool} (h : Lreplace_enough a0 a1 a2 = some y) : G50 (E50 (a0, a1, a2)) = some (R50 (a0, a1, a2) y) := lift_som E50i h
def E77_12 (x : (List Tapi_Entry)) : List PV := [.one (.slice .no (List.map eapi_Entry x)), .fn 47]
theorem E77_12i : ∀ a b, E77_12 a = E77_12 b → a = b := by
  rintro a0 b0 h
  simpa [E77_12, and_assoc] using h
def R77_12 (x : (List Tapi_Entry)) (y : Int) : PV × List (List Cell) := (.one (.v (.int .i64 y)), [])
noncomputable def G77_12 := lift E77_12 fun x => (Lslices_IndexFunc_of__api_Entry_api_Entry__replace_Accept_3 x).map (R77_12 x)
theorem G77_12_eq {a0 : (List Tapi_Entry)} {y : Int} (h : Lslices_IndexFunc_of__api_Entry_api_Entry__replace_Accept_3 a0 = some y) : G77_12 (E77_12 a0) = some (R77_12 a0 y) := lift_som E77_12i h
def E41_13 (x : (List Tapi_Entry)) : List PV := [.one (.slice .no (List.map eapi_Entry x)), .fn 47]
theorem E41_13i : ∀ a b, E41_13 a = E41_13 b → a = b := by
  rintro a0 b0 h
  simpa [E41_13, and_assoc] using h
def R41_13 (x : (List Tapi_Entry)) (y : Bool) : PV × List (List Cell) := (.one (.v (.bool y)), [])
noncomputable def G41_13 := lift E41_13 fun x => (Lslices_ContainsFunc_of__api_Entry_api_Entry__replace_Accept_3 x).map (R41_13 x)
theorem G41_13_eq {a0 : (List Tapi_Entry)} {y : Bool} (h : Lslices_ContainsFunc_of__api_Entry_api_Entry__replace_Accept_3 a0 = some y) : G41_13 (E41_13 a0) = some (R41_13 a0 y) := lift_som E41_13i h
def E40_14 (x : (List Tapi_Entry)) : List PV := [.fn 47, .io ([.slice .no (List.map eapi_Entry x)])]
theorem E40_14i : ∀ a b, E40_14 a = E40_14 b → a = b := by
  rintro a0 b0 h
  simpa [E40_14, and_assoc] using h
def R40_14 (x : (List Tapi_Entry)) (y : Bool) : PV × List (List Cell) := (.one (.v (.bool y)), [[.slice .no (List.map eapi_Entry x)]])
noncomputable def G40_14 := lift E40_14 fun x => (Lreplace_Accept_1__replace_Accept_3_p x).map (R40_14 x)
theorem G40_14_eq {a0 : (List Tapi_Entry)} {y : Bool} (h : Lreplace_Accept_1__replace_Accept_3_p a0 = some y) : G40_14 (E40_14 a0) = some (R40_14 a0 y) := lift_som E40_14i h
def E48_15 (x : Tapi_Entry × Tapi_Tx) : List PV := [.agg ([.v (.int .u32 x.1.1.1), .slice .no (List.map eapi_Input x.1.1.2.1), .slice .no (List.map eapi_Output x.1.1.2.2.1), .v (.int .u32 x.1.1.2.2.2), .v (.int .i64 x.1.2)]), .ref ([.v (.int .u32 x.2.1), .slice .no (List.map eapi_Input x.2.2.1), .slice .no (List.map eapi_Output x.2.2.2.1), .v (.int .u32 x.2.2.2.2)])]
theorem E48_15i : ∀ a b, E48_15 a = E48_15 b → a = b := by
  rintro ⟨⟨⟨a0_0_0, a0_0_1, a0_0_2, a0_0_3⟩, a0_1⟩, ⟨a1_0, a1_1, a1_2, a1_3⟩⟩ ⟨⟨⟨b0_0_0, b0_0_1, b0_0_2, b0_0_3⟩, b0_1⟩, ⟨b1_0, b1_1, b1_2, b1_3⟩⟩ h
  simpa [E48_15, and_assoc] using h
def R48_15 (x : Tapi_Entry × Tapi_Tx) (y : Bool) : PV × List (List Cell) := (.one (.v (.bool y)), [])
noncomputable def G48_15 := lift E48_15 fun x => (Lreplace_Accept_4__r x.1 x.2).map (R48_15 x)
theorem G48_15_eq {a0 : Tapi_Entry} {a1 : Tapi_Tx} {y : Bool} (h : Lreplace_Accept_4__r a0 a1 = some y) : G48_15 (E48_15 (a0, a1)) = some (R48_15 (a0, a1) y) := lift_som E48_15i h
def E77_16 (x : (List Tapi_Entry) × Tapi_Tx) : List PV := [.one (.slice .no (List.map eapi_Entry x.1)), .clo 48 [.ref ([.v (.int .u32 x.2.1), .slice .no (List.map eapi_Input x.2.2.1), .slice .no (List.map eapi_Output x.2.2.2.1), .v (.int .u32 x.2.2.2.2)])]]
theorem E77_16i : ∀ a b, E77_16 a = E77_16 b → a = b := by
  rintro ⟨a0, ⟨a1_0, a1_1, a1_2, a1_3⟩⟩ ⟨b0, ⟨b1_0, b1_1, b1_2, b1_3⟩⟩ h
  simpa [E77_16, and_assoc] using h
def R77_16 (x : (List Tapi_Entry) × Tapi_Tx) (y : Int) : PV × List (List Cell) := (.one (.v (.int .i64 y)), [])
noncomputable def G77_16 := lift E77_16 fun x => (Lslices_IndexFunc_of__api_Entry_api_Entry__replace_Accept_4 x.1 x.2).map (R77_16 x)
theorem G77_16_eq {a0 : (List Tapi_Entry)} {a1 : Tapi_Tx} {y : Int} (h : Lslices_IndexFunc_of__api_Entry_api_Entry__replace_Accept_4 a0 a1 = some y) : G77_16 (E77_16 (a0, a1)) = some (R77_16 (a0, a1) y) := lift_som E77_16i h
def E41_17 (x : (List Tapi_Entry) × Tapi_Tx) : List PV := [.one (.slice .no (List.map eapi_Entry x.1)), .clo 48 [.ref ([.v (.int .u32 x.2.1), .slice .no (List.map eapi_Input x.2.2.1), .slice .no (List.map eapi_Output x.2.2.2.1), .v (.int .u32 x.2.2.2.2)])]]
theorem E41_17i : ∀ a b, E41_17 a = E41_17 b → a = b := by
  rintro ⟨a0, ⟨a1_0, a1_1, a1_2, a1_3⟩⟩ ⟨b0, ⟨b1_0, b1_1, b1_2, b1_3⟩⟩ h
  simpa [E41_17, and_assoc] using h
def R41_17 (x : (List Tapi_Entry) × Tapi_Tx) (y : Bool) : PV × List (List Cell) := (.one (.v (.bool y)), [])
noncomputable def G41_17 := lift E41_17 fun x => (Lslices_ContainsFunc_of__api_Entry_api_Entry__replace_Accept_4 x.1 x.2).map (R41_17 x)
theorem G41_17_eq {a0 : (List Tapi_Entry)} {a1 : Tapi_Tx} {y : Bool} (h : Lslices_ContainsFunc_of__api_Entry_api_Entry__replace_Accept_4 a0 a1 = some y) : G41_17 (E41_17 (a0, a1)) = some (R41_17 (a0, a1) y) := lift_som E41_17i h
def E40_18 (x : Tapi_Tx × (List Tapi_Entry)) : List PV := [.clo 48 [.ref ([.v (.int .u32 x.1.1), .slice .no (List.map eapi_Input x.1.2.1), .slice .no (List.map eapi_Output x.1.2.2.1), .v (.int .u32 x.1.2.2.2)])], .io ([.slice .no (List.map eapi_Entry x.2)])]
theorem E40_18i : ∀ a b, E40_18 a = E40_18 b → a = b := by
  rintro ⟨⟨a0_0, a0_1, a0_2, a0_3⟩, a1⟩ ⟨⟨b0_0, b0_1, b0_2, b0_3⟩, b1⟩ h
  simpa [E40_18, and_assoc] using h
def R40_18 (x : Tapi_Tx × (List Tapi_Entry)) (y : Bool) : PV × List (List Cell) := (.one (.v (.bool y)), [[.slice .no (List.map eapi_Entry x.2)]])
noncomputable def G40_18 := lift E40_18 fun x => (Lreplace_Accept_1__replace_Accept_4_p x.1 x.2).map (R40_18 x)
theorem G40_18_eq {a0 : Tapi_Tx} {a1 : (List Tapi_Entry)} {y : Bool} (h : Lreplace_Accept_1__replace_Accept_4_p a0 a1 = some y) : G40_18 (E40_18 (a0, a1)) = some (R40_18 (a0, a1) y) := lift_som E40_18i h
def E77_19 (x : (List Tapi_Entry)) : List PV := [.one (.slice .no (List.map eapi_Entry x)), .fn 49]
theorem E77_19i : ∀ a b, E77_19 a = E77_19 b → a = b := by
  rintro a0 b0 h
  simpa [E77_19, and_assoc] using h
def R77_19 (x : (List Tapi_Entry)) (y : Int) : PV × List (List Cell) := (.one (.v (.int .i64 y)), [])
noncomputable def G77_19 := lift E77_19 fun x => (Lslices_IndexFunc_of__api_Entry_api_Entry__replace_Accept_5 x).map (R77_19 x)
theorem G77_19_eq {a0 : (List Tapi_Entry)} {y : Int} (h : Lslices_IndexFunc_of__api_Entry_api_Entry__replace_Accept_5 a0 = some y) : G77_19 (E77_19 a0) = some (R77_19 a0 y) := lift_som E77_19i h
def E41_20 (x : (List Tapi_Entry)) : List PV := [.one (.slice .no (List.map eapi_Entry x)), .fn 49]
theorem E41_20i : ∀ a b, E41_20 a = E41_20 b → a = b := by
  rintro a0 b0 h
  simpa [E41_20, and_assoc] using h
def R41_20 (x : (List Tapi_Entry)) (y : Bool) : PV × List (List Cell) := (.one (.v (.bool y)), [])
noncomputable def G41_20 := lift E41_20 fun x => (Lslices_ContainsFunc_of__api_Entry_api_Entry__replace_Accept_5 x).map (R41_20 x)
theorem G41_20_eq {a0 : (List Tapi_Entry)} {y : Bool} (h : Lslices_ContainsFunc_of__api_Entry_api_Entry__replace_Accept_5 a0 = some y) : G41_20 (E41_20 a0) = some (R41_20 a0 y) := lift_som E41_20i h
def E40_21 (x : (List Tapi_Entry)) : List PV := [.fn 49, .io ([.slice .no (List.map eapi_Entry x)])]
theorem E40_21i : ∀ a b, E40_21 a = E40_21 b → a = b := by
  rintro a0 b0 h
  simpa [E40_21, and_assoc] using h
def R40_21 (x : (List Tapi_Entry)) (y : Bool) : PV × List (List Cell) := (.one (.v (.bool y)), [[.slice .no (List.map eapi_Entry x)]])
noncomputable def G40_21 := lift E40_21 fun x => (Lreplace_Accept_1__replace_Accept_5_p x).map (R40_21 x)
theorem G40_21_eq {a0 : (List Tapi_Entry)} {y : Bool} (h : Lreplace_Accept_1__replace_Accept_5_p a0 = some y) : G40_21 (E40_21 a0) = some (R40_21 a0 y) := lift_som E40_21i h
def E44_22 (x : Tapi_Input × (Arr 32)) : List PV := [.agg ((arC .u8 x.1.1.1) ++ ((.v (.int .u32 x.1.1.2)) :: ((.v (.int .u32 x.1.2.1)) :: ((.slice .no (List.map eS_I_u8 x.1.2.2)) :: [])))), .ref (arC .u8 x.2)]
theorem E44_22i : ∀ a b, E44_22 a = E44_22 b → a = b := by
  rintro ⟨⟨⟨a0_0_0, a0_0_1⟩, a0_1, a0_2⟩, a1⟩ ⟨⟨⟨b0_0_0, b0_0_1⟩, b0_1, b0_2⟩, b1⟩ h
  simpa [E44_22, and_assoc] using h
def R44_22 (x : Tapi_Input × (Arr 32)) (y : Bool) : PV × List (List Cell) := (.one (.v (.bool y)), [])
noncomputable def G44_22 := lift E44_22 fun x => (Lreplace_Accept_2_1__r x.1 x.2).map (R44_22 x)
theorem G44_22_eq {a0 : Tapi_Input} {a1 : (Arr 32)} {y : Bool} (h : Lreplace_Accept_2_1__r a0 a1 = some y) : G44_22 (E44_22 (a0, a1)) = some (R44_22 (a0, a1) y) := lift_som E44_22i h
def E73_23 (x : (List Tapi_Input) × (Arr 32)) : List PV := [.one (.slice .no (List.map eapi_Input x.1)), .clo 44 [.ref (arC .u8 x.2)]]
theorem E73_23i : ∀ a b, E73_23 a = E73_23 b → a = b := by
  rintro ⟨a0, a1⟩ ⟨b0, b1⟩ h
  simpa [E73_23, and_assoc] using h
def R73_23 (x : (List Tapi_Input) × (Arr 32)) (y : Int) : PV × List (List Cell) := (.one (.v (.int .i64 y)), [])
noncomputable def G73_23 := lift E73_23 fun x => (Lslices_IndexFunc_of__api_Input_api_Input__replace_Accept_2_1 x.1 x.2).map (R73_23 x)
theorem G73_23_eq {a0 : (List Tapi_Input)} {a1 : (Arr 32)} {y : Int} (h : Lslices_IndexFunc_of__api_Input_api_Input__replace_Accept_2_1 a0 a1 = some y) : G73_23 (E73_23 (a0, a1)) = some (R73_23 (a0, a1) y) := lift_som E73_23i h
def E33_24 (x : (List Tapi_Input) × (Arr 32)) : List PV := [.one (.slice .no (List.map eapi_Input x.1)), .clo 44 [.ref (arC .u8 x.2)]]
theorem E33_24i : ∀ a b, E33_24 a = E33_24 b → a = b := by
  rintro ⟨a0, a1⟩ ⟨b0, b1⟩ h
  simpa [E33_24, and_assoc] using h
def R33_24 (x : (List Tapi_Input) × (Arr 32)) (y : Bool) : PV × List (List Cell) := (.one (.v (.bool y)), [])
noncomputable def G33_24 := lift E33_24 fun x => (Lslices_ContainsFunc_of__api_Input_api_Input__replace_Accept_2_1 x.1 x.2).map (R33_24 x)
theorem G33_24_eq {a0 : (List Tapi_Input)} {a1 : (Arr 32)} {y : Bool} (h : Lslices_ContainsFunc_of__api_Input_api_Input__replace_Accept_2_1 a0 a1 = some y) : G33_24 (E33_24 (a0, a1)) = some (R33_24 (a0, a1) y) := lift_som E33_24i h
def E42_25 (x : Tapi_Entry × Tapi_Tx) : List PV := [.agg ([.v (.int .u32 x.1.1.1), .slice .no (List.map eapi_Input x.1.1.2.1), .slice .no (List.map eapi_Output x.1.1.2.2.1), .v (.int .u32 x.1.1.2.2.2), .v (.int .i64 x.1.2)]), .ref ([.v (.int .u32 x.2.1), .slice .no (List.map eapi_Input x.2.2.1), .slice .no (List.map eapi_Output x.2.2.2.1), .v (.int .u32 x.2.2.2.2)])]
theorem E42_25i : ∀ a b, E42_25 a = E42_25 b → a = b := by
  rintro ⟨⟨⟨a0_0_0, a0_0_1, a0_0_2, a0_0_3⟩, a0_1⟩, ⟨a1_0, a1_1, a1_2, a1_3⟩⟩ ⟨⟨⟨b0_0_0, b0_0_1, b0_0_2, b0_0_3⟩, b0_1⟩, ⟨b1_0, b1_1, b1_2, b1_3⟩⟩ h
  simpa [E42_25, and_assoc] using h
def R42_25 (x : Tapi_Entry × Tapi_Tx) (y : Bool) : PV × List (List Cell) := (.one (.v (.bool y)), [])
noncomputable def G42_25 := lift E42_25 fun x => (Lreplace_Accept_2__r x.1 x.2).map (R42_25 x)
theorem G42_25_eq {a0 : Tapi_Entry} {a1 : Tapi_Tx} {y : Bool} (h : Lreplace_Accept_2__r a0 a1 = some y) : G42_25 (E42_25 (a0, a1)) = some (R42_25 (a0, a1) y) := lift_som E42_25i h
def E77_26 (x : (List Tapi_Entry) × Tapi_Tx) : List PV := [.one (.slice .no (List.map eapi_Entry x.1)), .clo 42 [.ref ([.v (.int .u32 x.2.1), .slice .no (List.map eapi_Input x.2.2.1), .slice .no (List.map eapi_Output x.2.2.2.1), .v (.int .u32 x.2.2.2.2)])]]
theorem E77_26i : ∀ a b, E77_26 a = E77_26 b → a = b := by
  rintro ⟨a0, ⟨a1_0, a1_1, a1_2, a1_3⟩⟩ ⟨b0, ⟨b1_0, b1_1, b1_2, b1_3⟩⟩ h
  simpa [E77_26, and_assoc] using h
def R77_26 (x : (List Tapi_Entry) × Tapi_Tx) (y : Int) : PV × List (List Cell) := (.one (.v (.int .i64 y)), [])
noncomputable def G77_26 := lift E77_26 fun x => (Lslices_IndexFunc_of__api_Entry_api_Entry__replace_Accept_2 x.1 x.2).map (R77_26 x)
theorem G77_26_eq {a0 : (List Tapi_Entry)} {a1 : Tapi_Tx} {y : Int} (h : Lslices_IndexFunc_of__api_Entry_api_Entry__replace_Accept_2 a0 a1 = some y) : G77_26 (E77_26 (a0, a1)) = some (R77_26 (a0, a1) y) := lift_som E77_26i h
def E41_27 (x : (List Tapi_Entry) × Tapi_Tx) : List PV := [.one (.slice .no (List.map eapi_Entry x.1)), .clo 42 [.ref ([.v (.int .u32 x.2.1), .slice .no (List.map eapi_Input x.2.2.1), .slice .no (List.map eapi_Output x.2.2.2.1), .v (.int .u32 x.2.2.2.2)])]]
theorem E41_27i : ∀ a b, E41_27 a = E41_27 b → a = b := by
  rintro ⟨a0, ⟨a1_0, a1_1, a1_2, a1_3⟩⟩ ⟨b0, ⟨b1_0, b1_1, b1_2, b1_3⟩⟩ h
  simpa [E41_27, and_assoc] using h
def R41_27 (x : (List Tapi_Entry) × Tapi_Tx) (y : Bool) : PV × List (List Cell) := (.one (.v (.bool y)), [])
noncomputable def G41_27 := lift E41_27 fun x => (Lslices_ContainsFunc_of__api_Entry_api_Entry__replace_Accept_2 x.1 x.2).map (R41_27 x)
theorem G41_27_eq {a0 : (List Tapi_Entry)} {a1 : Tapi_Tx} {y : Bool} (h : Lslices_ContainsFunc_of__api_Entry_api_Entry__replace_Accept_2 a0 a1 = some y) : G41_27 (E41_27 (a0, a1)) = some (R41_27 (a0, a1) y) := lift_som E41_27i h
def E40_28 (x : Tapi_Tx × (List Tapi_Entry)) : List PV := [.clo 42 [.ref ([.v (.int .u32 x.1.1), .slice .no (List.map eapi_Input x.1.2.1), .slice .no (List.map eapi_Output x.1.2.2.1), .v (.int .u32 x.1.2.2.2)])], .io ([.slice .no (List.map eapi_Entry x.2)])]
theorem E40_28i : ∀ a b, E40_28 a = E40_28 b → a = b := by
  rintro ⟨⟨a0_0, a0_1, a0_2, a0_3⟩, a1⟩ ⟨⟨b0_0, b0_1, b0_2, b0_3⟩, b1⟩ h
  simpa [E40_28, and_assoc] using h
def R40_28 (x : Tapi_Tx × (List Tapi_Entry)) (y : Bool) : PV × List (List Cell) := (.one (.v (.bool y)), [[.slice .no (List.map eapi_Entry x.2)]])
noncomputable def G40_28 := lift E40_28 fun x => (Lreplace_Accept_1__replace_Accept_2_p x.1 x.2).map (R40_28 x)
theorem G40_28_eq {a0 : Tapi_Tx} {a1 : (List Tapi_Entry)} {y : Bool} (h : Lreplace_Accept_1__replace_Accept_2_p a0 a1 = some y) : G40_28 (E40_28 (a0, a1)) = some (R40_28 (a0, a1) y) := lift_som E40_28i h
def E18 (x : (List Tapi_Entry) × Tapi_Tx × Int) : List PV := [.one (.slice .no (List.map eapi_Entry x.1)), .agg ([.v (.int .u32 x.2.1.1), .slice .no (List.map eapi_Input x.2.1.2.1), .slice .no (List.map eapi_Output x.2.1.2.2.1), .v (.int .u32 x.2.1.2.2.2)]), .one (.v (.int .i64 x.2.2))]
theorem E18i : ∀ a b, E18 a = E18 b → a = b := by
  rintro ⟨a0, ⟨a1_0, a1_1, a1_2, a1_3⟩, a2⟩ ⟨b0, ⟨b1_0, b1_1, b1_2, b1_3⟩, b2⟩ h
  simpa [E18, and_assoc] using h
def R18 (x : (List Tapi_Entry) × Tapi_Tx × Int) (y : Int) : PV × List (List Cell) := (.one (.v (.int .i64 y)), [])
noncomputable def G18 := lift E18 fun x => (Lreplace_Accept x.1 x.2.1 x.2.2).map (R18 x)
theorem G18_eq {a0 : (List Tapi_Entry)} {a1 : Tapi_Tx} {a2 : Int} {y : Int} (h : Lreplace_Accept a0 a1 a2 = some y) : G18 (E18 (a0, a1, a2)) = some (R18 (a0, a1, a2) y) := lift_som E18i h
def E8 (x : Unit) : List PV := []
theorem E8i : ∀ a b, E8 a = E8 b → a = b := fun _ _ _ => rfl
def R8 (x : Unit) (y : Bool) : PV × List (List Cell) := (.one (.v (.bool y)), [])
noncomputable def G8 := lift E8 fun x => (Llaw36_sane).map (R8 x)
theorem G8_eq {y : Bool} (h : Llaw36_sane  = some y) : G8 (E8 ()) = some (R8 () y) := lift_som E8i h
def E9 (x : (List Int)) : List PV := [.one (.slice .no (intsR .i64 x))]
theorem E9i : ∀ a b, E9 a = E9 b → a = b := by
  rintro a0 b0 h
  simpa [E9, and_assoc] using h
def R9 (x : (List Int)) (y : Tlightclientmill_Deck) : PV × List (List Cell) := (.io ([.slice .no (intsR .i64 y.1), .v (.int .i64 y.2)]), [])
noncomputable def G9 := lift E9 fun x => (Lmill_New x).map (R9 x)
theorem G9_eq {a0 : (List Int)} {y : Tlightclientmill_Deck} (h : Lmill_New a0 = some y) : G9 (E9 a0) = some (R9 a0 y) := lift_som E9i h
def E25 (x : Int × Int) : List PV := [.one (.v (.int .i64 x.1)), .one (.v (.int .i64 x.2))]
theorem E25i : ∀ a b, E25 a = E25 b → a = b := by
  rintro ⟨a0, a1⟩ ⟨b0, b1⟩ h
  simpa [E25, and_assoc] using h
def R25 (x : Int × Int) (y : Int) : PV × List (List Cell) := (.one (.v (.int .i64 y)), [])
noncomputable def G25 := lift E25 fun x => (Lmill_Mod x.1 x.2).map (R25 x)
theorem G25_eq {a0 : Int} {a1 : Int} {y : Int} (h : Lmill_Mod a0 a1 = some y) : G25 (E25 (a0, a1)) = some (R25 (a0, a1) y) := lift_som E25i h
def E38 (x : Tlightclientmill_Deck) : List PV := [.io ([.slice .no (intsR .i64 x.1), .v (.int .i64 x.2)])]
theorem E38i : ∀ a b, E38 a = E38 b → a = b := by
  rintro ⟨a0_0, a0_1⟩ ⟨b0_0, b0_1⟩ h
  simpa [E38, and_assoc] using h
def R38 (x : Tlightclientmill_Deck) (y : Bool × Tlightclientmill_Deck) : PV × List (List Cell) := (.one (.v (.bool y.1)), [[.slice .no (intsR .i64 y.2.1), .v (.int .i64 y.2.2)]])
noncomputable def G38 := lift E38 fun x => (Lmill_Deck_Left x).map (R38 x)
theorem G38_eq {a0 : Tlightclientmill_Deck} {y : Bool × Tlightclientmill_Deck} (h : Lmill_Deck_Left a0 = some y) : G38 (E38 a0) = some (R38 a0 y) := lift_som E38i h
def E17 (x : Tlightclientmill_Deck × Int) : List PV := [.io ([.slice .no (intsR .i64 x.1.1), .v (.int .i64 x.1.2)]), .one (.v (.int .i64 x.2))]
theorem E17i : ∀ a b, E17 a = E17 b → a = b := by
  rintro ⟨⟨a0_0, a0_1⟩, a1⟩ ⟨⟨b0_0, b0_1⟩, b1⟩ h
  simpa [E17, and_assoc] using h
def R17 (x : Tlightclientmill_Deck × Int) (y : Int × Tlightclientmill_Deck) : PV × List (List Cell) := (.one (.v (.int .i64 y.1)), [[.slice .no (intsR .i64 y.2.1), .v (.int .i64 y.2.2)]])
noncomputable def G17 := lift E17 fun x => (Lmill_Deck_Next x.1 x.2).map (R17 x)
theorem G17_eq {a0 : Tlightclientmill_Deck} {a1 : Int} {y : Int × Tlightclientmill_Deck} (h : Lmill_Deck_Next a0 a1 = some y) : G17 (E17 (a0, a1)) = some (R17 (a0, a1) y) := lift_som E17i h
def E23 (x : Int) : List PV := [.one (.v (.int .u8 x))]
theorem E23i : ∀ a b, E23 a = E23 b → a = b := by
  rintro a0 b0 h
  simpa [E23, and_assoc] using h
def R23 (x : Int) (y : (List Int)) : PV × List (List Cell) := (.one (.own 1 (intsR .u8 y)), [])
noncomputable def G23 := lift E23 fun x => (Lmade_Script x).map (R23 x)
theorem G23_eq {a0 : Int} {y : (List Int)} (h : Lmade_Script a0 = some y) : G23 (E23 a0) = some (R23 a0 y) := lift_som E23i h
def E31 (x : Tlightclientmill_Deck × Int × Int) : List PV := [.io ([.slice .no (intsR .i64 x.1.1), .v (.int .i64 x.1.2)]), .one (.v (.int .i64 x.2.1)), .one (.v (.int .i64 x.2.2))]
theorem E31i : ∀ a b, E31 a = E31 b → a = b := by
  rintro ⟨⟨a0_0, a0_1⟩, a1, a2⟩ ⟨⟨b0_0, b0_1⟩, b1, b2⟩ h
  simpa [E31, and_assoc] using h
def R31 (x : Tlightclientmill_Deck × Int × Int) (y : Int × Tlightclientmill_Deck) : PV × List (List Cell) := (.one (.v (.int .i64 y.1)), [[.slice .no (intsR .i64 y.2.1), .v (.int .i64 y.2.2)]])
noncomputable def G31 := lift E31 fun x => (Lmill_Deck_Range x.1 x.2.1 x.2.2).map (R31 x)
theorem G31_eq {a0 : Tlightclientmill_Deck} {a1 : Int} {a2 : Int} {y : Int × Tlightclientmill_Deck} (h : Lmill_Deck_Range a0 a1 a2 = some y) : G31 (E31 (a0, a1, a2)) = some (R31 (a0, a1, a2) y) := lift_som E31i h
def E32 (x : Tlightclientmill_Deck) : List PV := [.io ([.slice .no (intsR .i64 x.1), .v (.int .i64 x.2)])]
theorem E32i : ∀ a b, E32 a = E32 b → a = b := by
  rintro ⟨a0_0, a0_1⟩ ⟨b0_0, b0_1⟩ h
  simpa [E32, and_assoc] using h
def R32 (x : Tlightclientmill_Deck) (y : (Arr 32) × Tlightclientmill_Deck) : PV × List (List Cell) := (.agg (arC .u8 y.1), [[.slice .no (intsR .i64 y.2.1), .v (.int .i64 y.2.2)]])
noncomputable def G32 := lift E32 fun x => (Lmill_Hash x).map (R32 x)
theorem G32_eq {a0 : Tlightclientmill_Deck} {y : (Arr 32) × Tlightclientmill_Deck} (h : Lmill_Hash a0 = some y) : G32 (E32 a0) = some (R32 a0 y) := lift_som E32i h
def E10 (x : Tlightclientmill_Deck) : List PV := [.io ([.slice .no (intsR .i64 x.1), .v (.int .i64 x.2)])]
theorem E10i : ∀ a b, E10 a = E10 b → a = b := by
  rintro ⟨a0_0, a0_1⟩ ⟨b0_0, b0_1⟩ h
  simpa [E10, and_assoc] using h
def R10 (x : Tlightclientmill_Deck) (y : Tapi_Tx × Tlightclientmill_Deck) : PV × List (List Cell) := (.agg ([.v (.int .u32 y.1.1), .own 35 (List.map eapi_Input y.1.2.1), .own 2 (List.map eapi_Output y.1.2.2.1), .v (.int .u32 y.1.2.2.2)]), [[.slice .no (intsR .i64 y.2.1), .v (.int .i64 y.2.2)]])
noncomputable def G10 := lift E10 fun x => (Lmill_Tx x).map (R10 x)
theorem G10_eq {a0 : Tlightclientmill_Deck} {y : Tapi_Tx × Tlightclientmill_Deck} (h : Lmill_Tx a0 = some y) : G10 (E10 a0) = some (R10 a0 y) := lift_som E10i h
def E12 (x : Tapi_Tx) : List PV := [.agg ([.v (.int .u32 x.1), .slice .no (List.map eapi_Input x.2.1), .slice .no (List.map eapi_Output x.2.2.1), .v (.int .u32 x.2.2.2)])]
theorem E12i : ∀ a b, E12 a = E12 b → a = b := by
  rintro ⟨a0_0, a0_1, a0_2, a0_3⟩ ⟨b0_0, b0_1, b0_2, b0_3⟩ h
  simpa [E12, and_assoc] using h
def R12 (x : Tapi_Tx) (y : Bool) : PV × List (List Cell) := (.one (.v (.bool y)), [])
noncomputable def G12 := lift E12 fun x => (Lref36_Signals x).map (R12 x)
theorem G12_eq {a0 : Tapi_Tx} {y : Bool} (h : Lref36_Signals a0 = some y) : G12 (E12 a0) = some (R12 a0 y) := lift_som E12i h
def E14 (x : Tapi_Tx × Tapi_Tx) : List PV := [.agg ([.v (.int .u32 x.1.1), .slice .no (List.map eapi_Input x.1.2.1), .slice .no (List.map eapi_Output x.1.2.2.1), .v (.int .u32 x.1.2.2.2)]), .agg ([.v (.int .u32 x.2.1), .slice .no (List.map eapi_Input x.2.2.1), .slice .no (List.map eapi_Output x.2.2.2.1), .v (.int .u32 x.2.2.2.2)])]
theorem E14i : ∀ a b, E14 a = E14 b → a = b := by
  rintro ⟨⟨a0_0, a0_1, a0_2, a0_3⟩, ⟨a1_0, a1_1, a1_2, a1_3⟩⟩ ⟨⟨b0_0, b0_1, b0_2, b0_3⟩, ⟨b1_0, b1_1, b1_2, b1_3⟩⟩ h
  simpa [E14, and_assoc] using h
def R14 (x : Tapi_Tx × Tapi_Tx) (y : Bool) : PV × List (List Cell) := (.one (.v (.bool y)), [])
noncomputable def G14 := lift E14 fun x => (Lref36_Conflict x.1 x.2).map (R14 x)
theorem G14_eq {a0 : Tapi_Tx} {a1 : Tapi_Tx} {y : Bool} (h : Lref36_Conflict a0 a1 = some y) : G14 (E14 (a0, a1)) = some (R14 (a0, a1) y) := lift_som E14i h
def E3 (x : (List Int) × Int × Int) : List PV := [.one (.slice .no (intsR .i64 x.1)), .one (.v (.int .u32 x.2.1)), .one (.v (.int .u32 x.2.2))]
theorem E3i : ∀ a b, E3 a = E3 b → a = b := by
  rintro ⟨a0, a1, a2⟩ ⟨b0, b1, b2⟩ h
  simpa [E3, and_assoc] using h
def R3 (x : (List Int) × Int × Int) (y : Bool) : PV × List (List Cell) := (.one (.v (.bool y)), [])
noncomputable def G3 := lift E3 fun x => (Llaw36_ReplaceSignals x.1 x.2.1 x.2.2).map (R3 x)
theorem G3_eq {a0 : (List Int)} {a1 : Int} {a2 : Int} {y : Bool} (h : Llaw36_ReplaceSignals a0 a1 a2 = some y) : G3 (E3 (a0, a1, a2)) = some (R3 (a0, a1, a2) y) := lift_som E3i h
def E15 (x : Tlightclientmill_Deck × Int) : List PV := [.io ([.slice .no (intsR .i64 x.1.1), .v (.int .i64 x.1.2)]), .one (.v (.int .i64 x.2))]
theorem E15i : ∀ a b, E15 a = E15 b → a = b := by
  rintro ⟨⟨a0_0, a0_1⟩, a1⟩ ⟨⟨b0_0, b0_1⟩, b1⟩ h
  simpa [E15, and_assoc] using h
def R15 (x : Tlightclientmill_Deck × Int) (y : (List Tapi_Entry) × Tlightclientmill_Deck) : PV × List (List Cell) := (.one (.own 5 (List.map eapi_Entry y.1)), [[.slice .no (intsR .i64 y.2.1), .v (.int .i64 y.2.2)]])
noncomputable def G15 := lift E15 fun x => (Lmill_Pool x.1 x.2).map (R15 x)
theorem G15_eq {a0 : Tlightclientmill_Deck} {a1 : Int} {y : (List Tapi_Entry) × Tlightclientmill_Deck} (h : Lmill_Pool a0 a1 = some y) : G15 (E15 (a0, a1)) = some (R15 (a0, a1) y) := lift_som E15i h
def E101 (x : (List Int) × (List Int)) : List PV := [.one (.slice .no (intsR .u8 x.1)), .one (.slice .no (intsR .u8 x.2))]
theorem E101i : ∀ a b, E101 a = E101 b → a = b := by
  rintro ⟨a0, a1⟩ ⟨b0, b1⟩ h
  simpa [E101, and_assoc] using h
def R101 (x : (List Int) × (List Int)) (y : (List Int)) : PV × List (List Cell) := (.one (.own 1 (intsR .u8 y)), [])
noncomputable def G101 := lift E101 fun x => (Lref01_joined x.1 x.2).map (R101 x)
theorem G101_eq {a0 : (List Int)} {a1 : (List Int)} {y : (List Int)} (h : Lref01_joined a0 a1 = some y) : G101 (E101 (a0, a1)) = some (R101 (a0, a1) y) := lift_som E101i h
def E102 (x : Int × Int) : List PV := [.one (.v (.int .u64 x.1)), .one (.v (.int .i64 x.2))]
theorem E102i : ∀ a b, E102 a = E102 b → a = b := by
  rintro ⟨a0, a1⟩ ⟨b0, b1⟩ h
  simpa [E102, and_assoc] using h
def R102 (x : Int × Int) (y : (List Int)) : PV × List (List Cell) := (.one (.own 1 (intsR .u8 y)), [])
noncomputable def G102 := lift E102 fun x => (Lref01_little x.1 x.2).map (R102 x)
theorem G102_eq {a0 : Int} {a1 : Int} {y : (List Int)} (h : Lref01_little a0 a1 = some y) : G102 (E102 (a0, a1)) = some (R102 (a0, a1) y) := lift_som E102i h
def E89 (x : (List Int) × Int) : List PV := [.one (.slice .no (intsR .u8 x.1)), .one (.v (.int .u32 x.2))]
theorem E89i : ∀ a b, E89 a = E89 b → a = b := by
  rintro ⟨a0, a1⟩ ⟨b0, b1⟩ h
  simpa [E89, and_assoc] using h
def R89 (x : (List Int) × Int) (y : (List Int)) : PV × List (List Cell) := (.one (.own 1 (intsR .u8 y)), [])
noncomputable def G89 := lift E89 fun x => (Lref01_AppendU32 x.1 x.2).map (R89 x)
theorem G89_eq {a0 : (List Int)} {a1 : Int} {y : (List Int)} (h : Lref01_AppendU32 a0 a1 = some y) : G89 (E89 (a0, a1)) = some (R89 (a0, a1) y) := lift_som E89i h
def E90 (x : (List Int) × Int) : List PV := [.one (.slice .no (intsR .u8 x.1)), .one (.v (.int .u64 x.2))]
theorem E90i : ∀ a b, E90 a = E90 b → a = b := by
  rintro ⟨a0, a1⟩ ⟨b0, b1⟩ h
  simpa [E90, and_assoc] using h
def R90 (x : (List Int) × Int) (y : (List Int)) : PV × List (List Cell) := (.one (.own 1 (intsR .u8 y)), [])
noncomputable def G90 := lift E90 fun x => (Lref01_AppendSize x.1 x.2).map (R90 x)
theorem G90_eq {a0 : (List Int)} {a1 : Int} {y : (List Int)} (h : Lref01_AppendSize a0 a1 = some y) : G90 (E90 (a0, a1)) = some (R90 (a0, a1) y) := lift_som E90i h
def E103 (x : (List Int) × (Arr 32)) : List PV := [.one (.slice .no (intsR .u8 x.1)), .agg (arC .u8 x.2)]
theorem E103i : ∀ a b, E103 a = E103 b → a = b := by
  rintro ⟨a0, a1⟩ ⟨b0, b1⟩ h
  simpa [E103, and_assoc] using h
def R103 (x : (List Int) × (Arr 32)) (y : (List Int)) : PV × List (List Cell) := (.one (.own 1 (intsR .u8 y)), [])
noncomputable def G103 := lift E103 fun x => (Lref01_AppendHash x.1 x.2).map (R103 x)
theorem G103_eq {a0 : (List Int)} {a1 : (Arr 32)} {y : (List Int)} (h : Lref01_AppendHash a0 a1 = some y) : G103 (E103 (a0, a1)) = some (R103 (a0, a1) y) := lift_som E103i h
def E91 (x : Tapi_OutPoint) : List PV := [.agg ((arC .u8 x.1) ++ ((.v (.int .u32 x.2)) :: []))]
theorem E91i : ∀ a b, E91 a = E91 b → a = b := by
  rintro ⟨a0_0, a0_1⟩ ⟨b0_0, b0_1⟩ h
  simpa [E91, and_assoc] using h
def R91 (x : Tapi_OutPoint) (y : (List Int)) : PV × List (List Cell) := (.one (.own 1 (intsR .u8 y)), [])
noncomputable def G91 := lift E91 fun x => (Lref09_Point x).map (R91 x)
theorem G91_eq {a0 : Tapi_OutPoint} {y : (List Int)} (h : Lref09_Point a0 = some y) : G91 (E91 a0) = some (R91 a0 y) := lift_som E91i h
def E93 (x : (List Int) × (List Int)) : List PV := [.one (.slice .no (intsR .u8 x.1)), .one (.slice .no (intsR .u8 x.2))]
theorem E93i : ∀ a b, E93 a = E93 b → a = b := by
  rintro ⟨a0, a1⟩ ⟨b0, b1⟩ h
  simpa [E93, and_assoc] using h
def R93 (x : (List Int) × (List Int)) (y : (List Int)) : PV × List (List Cell) := (.one (.own 1 (intsR .u8 y)), [])
noncomputable def G93 := lift E93 fun x => (Lref01_AppendBytes x.1 x.2).map (R93 x)
theorem G93_eq {a0 : (List Int)} {a1 : (List Int)} {y : (List Int)} (h : Lref01_AppendBytes a0 a1 = some y) : G93 (E93 (a0, a1)) = some (R93 (a0, a1) y) := lift_som E93i h
def E104 (x : (List Int) × Int) : List PV := [.one (.slice .no (intsR .u8 x.1)), .one (.v (.int .u64 x.2))]
theorem E104i : ∀ a b, E104 a = E104 b → a = b := by
  rintro ⟨a0, a1⟩ ⟨b0, b1⟩ h
  simpa [E104, and_assoc] using h
def R104 (x : (List Int) × Int) (y : (List Int)) : PV × List (List Cell) := (.one (.own 1 (intsR .u8 y)), [])
noncomputable def G104 := lift E104 fun x => (Lref01_AppendU64 x.1 x.2).map (R104 x)
theorem G104_eq {a0 : (List Int)} {a1 : Int} {y : (List Int)} (h : Lref01_AppendU64 a0 a1 = some y) : G104 (E104 (a0, a1)) = some (R104 (a0, a1) y) := lift_som E104i h
def E92 (x : Tapi_Output) : List PV := [.agg ([.v (.int .i64 x.1), .slice .no (intsR .u8 x.2)])]
theorem E92i : ∀ a b, E92 a = E92 b → a = b := by
  rintro ⟨a0_0, a0_1⟩ ⟨b0_0, b0_1⟩ h
  simpa [E92, and_assoc] using h
def R92 (x : Tapi_Output) (y : (List Int)) : PV × List (List Cell) := (.one (.own 1 (intsR .u8 y)), [])
noncomputable def G92 := lift E92 fun x => (Lref09_Out x).map (R92 x)
theorem G92_eq {a0 : Tapi_Output} {y : (List Int)} (h : Lref09_Out a0 = some y) : G92 (E92 a0) = some (R92 a0 y) := lift_som E92i h
def E64 (x : Tapi_Tx × Bool) : List PV := [.agg ([.v (.int .u32 x.1.1), .slice .no (List.map eapi_Input x.1.2.1), .slice .no (List.map eapi_Output x.1.2.2.1), .v (.int .u32 x.1.2.2.2)]), .one (.v (.bool x.2))]
theorem E64i : ∀ a b, E64 a = E64 b → a = b := by
  rintro ⟨⟨a0_0, a0_1, a0_2, a0_3⟩, a1⟩ ⟨⟨b0_0, b0_1, b0_2, b0_3⟩, b1⟩ h
  simpa [E64, and_assoc] using h
def R64 (x : Tapi_Tx × Bool) (y : (List Int)) : PV × List (List Cell) := (.one (.own 1 (intsR .u8 y)), [])
noncomputable def G64 := lift E64 fun x => (Lref09_encode x.1 x.2).map (R64 x)
theorem G64_eq {a0 : Tapi_Tx} {a1 : Bool} {y : (List Int)} (h : Lref09_encode a0 a1 = some y) : G64 (E64 (a0, a1)) = some (R64 (a0, a1) y) := lift_som E64i h
def E63 (x : Tapi_Tx) : List PV := [.agg ([.v (.int .u32 x.1), .slice .no (List.map eapi_Input x.2.1), .slice .no (List.map eapi_Output x.2.2.1), .v (.int .u32 x.2.2.2)])]
theorem E63i : ∀ a b, E63 a = E63 b → a = b := by
  rintro ⟨a0_0, a0_1, a0_2, a0_3⟩ ⟨b0_0, b0_1, b0_2, b0_3⟩ h
  simpa [E63, and_assoc] using h
def R63 (x : Tapi_Tx) (y : Bool) : PV × List (List Cell) := (.one (.v (.bool y)), [])
noncomputable def G63 := lift E63 fun x => (Lref09_Fits x).map (R63 x)
theorem G63_eq {a0 : Tapi_Tx} {y : Bool} (h : Lref09_Fits a0 = some y) : G63 (E63 a0) = some (R63 a0 y) := lift_som E63i h
def E111 (x : Int) : List PV := [.one (.v (.int .u64 x))]
theorem E111i : ∀ a b, E111 a = E111 b → a = b := by
  rintro a0 b0 h
  simpa [E111, and_assoc] using h
def R111 (x : Int) (y : (List Int)) : PV × List (List Cell) := (.one (.own 1 (intsR .u8 y)), [])
noncomputable def G111 := lift E111 fun x => (Lref03_Pad x).map (R111 x)
theorem G111_eq {a0 : Int} {y : (List Int)} (h : Lref03_Pad a0 = some y) : G111 (E111 a0) = some (R111 a0 y) := lift_som E111i h
def E112 (x : Unit) : List PV := []
theorem E112i : ∀ a b, E112 a = E112 b → a = b := fun _ _ _ => rfl
def R112 (x : Unit) (y : (Arr 8)) : PV × List (List Cell) := (.agg (arC .u32 y), [])
noncomputable def G112 := lift E112 fun x => (Lref03_Initial).map (R112 x)
theorem G112_eq {y : (Arr 8)} (h : Lref03_Initial  = some y) : G112 (E112 ()) = some (R112 () y) := lift_som E112i h
def E121 (x : Int × Int) : List PV := [.one (.v (.int .u32 x.1)), .one (.v (.int .i64 x.2))]
theorem E121i : ∀ a b, E121 a = E121 b → a = b := by
  rintro ⟨a0, a1⟩ ⟨b0, b1⟩ h
  simpa [E121, and_assoc] using h
def R121 (x : Int × Int) (y : Int) : PV × List (List Cell) := (.one (.v (.int .u32 y)), [])
noncomputable def G121 := lift E121 fun x => (Lref03_rotr x.1 x.2).map (R121 x)
theorem G121_eq {a0 : Int} {a1 : Int} {y : Int} (h : Lref03_rotr a0 a1 = some y) : G121 (E121 (a0, a1)) = some (R121 (a0, a1) y) := lift_som E121i h
def E119 (x : (Arr 64)) : List PV := [.agg (arC .u8 x)]
theorem E119i : ∀ a b, E119 a = E119 b → a = b := by
  rintro a0 b0 h
  simpa [E119, and_assoc] using h
def R119 (x : (Arr 64)) (y : (Arr 64)) : PV × List (List Cell) := (.agg (arC .u32 y), [])
noncomputable def G119 := lift E119 fun x => (Lref03_schedule x).map (R119 x)
theorem G119_eq {a0 : (Arr 64)} {y : (Arr 64)} (h : Lref03_schedule a0 = some y) : G119 (E119 a0) = some (R119 a0 y) := lift_som E119i h
def E120 (x : Unit) : List PV := []
theorem E120i : ∀ a b, E120 a = E120 b → a = b := fun _ _ _ => rfl
def R120 (x : Unit) (y : (Arr 64)) : PV × List (List Cell) := (.agg (arC .u32 y), [])
noncomputable def G120 := lift E120 fun x => (Lref03_constants).map (R120 x)
theorem G120_eq {y : (Arr 64)} (h : Lref03_constants  = some y) : G120 (E120 ()) = some (R120 () y) := lift_som E120i h
def E113 (x : (Arr 8) × (Arr 64)) : List PV := [.agg (arC .u32 x.1), .agg (arC .u8 x.2)]
theorem E113i : ∀ a b, E113 a = E113 b → a = b := by
  rintro ⟨a0, a1⟩ ⟨b0, b1⟩ h
  simpa [E113, and_assoc] using h
def R113 (x : (Arr 8) × (Arr 64)) (y : (Arr 8)) : PV × List (List Cell) := (.agg (arC .u32 y), [])
noncomputable def G113 := lift E113 fun x => (Lref03_Compress x.1 x.2).map (R113 x)
theorem G113_eq {a0 : (Arr 8)} {a1 : (Arr 64)} {y : (Arr 8)} (h : Lref03_Compress a0 a1 = some y) : G113 (E113 (a0, a1)) = some (R113 (a0, a1) y) := lift_som E113i h
def E97 (x : (List Int)) : List PV := [.one (.slice .no (intsR .u8 x))]
theorem E97i : ∀ a b, E97 a = E97 b → a = b := by
  rintro a0 b0 h
  simpa [E97, and_assoc] using h
def R97 (x : (List Int)) (y : (Arr 32)) : PV × List (List Cell) := (.agg (arC .u8 y), [])
noncomputable def G97 := lift E97 fun x => (Lref03_Sum x).map (R97 x)
theorem G97_eq {a0 : (List Int)} {y : (Arr 32)} (h : Lref03_Sum a0 = some y) : G97 (E97 a0) = some (R97 a0 y) := lift_som E97i h
def E74 (x : (List Int)) : List PV := [.one (.slice .no (intsR .u8 x))]
theorem E74i : ∀ a b, E74 a = E74 b → a = b := by
  rintro a0 b0 h
  simpa [E74, and_assoc] using h
def R74 (x : (List Int)) (y : (Arr 32)) : PV × List (List Cell) := (.agg (arC .u8 y), [])
noncomputable def G74 := lift E74 fun x => (Lref03_Double x).map (R74 x)
theorem G74_eq {a0 : (List Int)} {y : (Arr 32)} (h : Lref03_Double a0 = some y) : G74 (E74 a0) = some (R74 a0 y) := lift_som E74i h
def E37 (x : Tapi_Tx) : List PV := [.agg ([.v (.int .u32 x.1), .slice .no (List.map eapi_Input x.2.1), .slice .no (List.map eapi_Output x.2.2.1), .v (.int .u32 x.2.2.2)])]
theorem E37i : ∀ a b, E37 a = E37 b → a = b := by
  rintro ⟨a0_0, a0_1, a0_2, a0_3⟩ ⟨b0_0, b0_1, b0_2, b0_3⟩ h
  simpa [E37, and_assoc] using h
def R37 (x : Tapi_Tx) (y : (Arr 32)) : PV × List (List Cell) := (.agg (arC .u8 y), [])
noncomputable def G37 := lift E37 fun x => (Lref09_ID x).map (R37 x)
theorem G37_eq {a0 : Tapi_Tx} {y : (Arr 32)} (h : Lref09_ID a0 = some y) : G37 (E37 a0) = some (R37 a0 y) := lift_som E37i h
def E16 (x : Tlightclientmill_Deck × Tapi_Tx) : List PV := [.io ([.slice .no (intsR .i64 x.1.1), .v (.int .i64 x.1.2)]), .agg ([.v (.int .u32 x.2.1), .slice .no (List.map eapi_Input x.2.2.1), .slice .no (List.map eapi_Output x.2.2.2.1), .v (.int .u32 x.2.2.2.2)])]
theorem E16i : ∀ a b, E16 a = E16 b → a = b := by
  rintro ⟨⟨a0_0, a0_1⟩, ⟨a1_0, a1_1, a1_2, a1_3⟩⟩ ⟨⟨b0_0, b0_1⟩, ⟨b1_0, b1_1, b1_2, b1_3⟩⟩ h
  simpa [E16, and_assoc] using h
def R16 (x : Tlightclientmill_Deck × Tapi_Tx) (y : Tapi_Tx × Tlightclientmill_Deck) : PV × List (List Cell) := (.agg ([.v (.int .u32 y.1.1), .own 35 (List.map eapi_Input y.1.2.1), .own 2 (List.map eapi_Output y.1.2.2.1), .v (.int .u32 y.1.2.2.2)]), [[.slice .no (intsR .i64 y.2.1), .v (.int .i64 y.2.2)]])
noncomputable def G16 := lift E16 fun x => (Llaw36_heir x.1 x.2).map (R16 x)
theorem G16_eq {a0 : Tlightclientmill_Deck} {a1 : Tapi_Tx} {y : Tapi_Tx × Tlightclientmill_Deck} (h : Llaw36_heir a0 a1 = some y) : G16 (E16 (a0, a1)) = some (R16 (a0, a1) y) := lift_som E16i h
def E24 (x : Tapi_Tx) : List PV := [.agg ([.v (.int .u32 x.1), .slice .no (List.map eapi_Input x.2.1), .slice .no (List.map eapi_Output x.2.2.1), .v (.int .u32 x.2.2.2)])]
theorem E24i : ∀ a b, E24 a = E24 b → a = b := by
  rintro ⟨a0_0, a0_1, a0_2, a0_3⟩ ⟨b0_0, b0_1, b0_2, b0_3⟩ h
  simpa [E24, and_assoc] using h
def R24 (x : Tapi_Tx) (y : Int) : PV × List (List Cell) := (.one (.v (.int .i64 y)), [])
noncomputable def G24 := lift E24 fun x => (Lref09_Weight x).map (R24 x)
theorem G24_eq {a0 : Tapi_Tx} {y : Int} (h : Lref09_Weight a0 = some y) : G24 (E24 a0) = some (R24 a0 y) := lift_som E24i h
def E83 (x : Tapi_OutPoint) : List PV := [.agg ((arC .u8 x.1) ++ ((.v (.int .u32 x.2)) :: []))]
theorem E83i : ∀ a b, E83 a = E83 b → a = b := by
  rintro ⟨a0_0, a0_1⟩ ⟨b0_0, b0_1⟩ h
  simpa [E83, and_assoc] using h
def R83 (x : Tapi_OutPoint) (y : Bool) : PV × List (List Cell) := (.one (.v (.bool y)), [])
noncomputable def G83 := lift E83 fun x => (Lref09_Null x).map (R83 x)
theorem G83_eq {a0 : Tapi_OutPoint} {y : Bool} (h : Lref09_Null a0 = some y) : G83 (E83 a0) = some (R83 a0 y) := lift_som E83i h
def E52 (x : Tapi_Tx) : List PV := [.agg ([.v (.int .u32 x.1), .slice .no (List.map eapi_Input x.2.1), .slice .no (List.map eapi_Output x.2.2.1), .v (.int .u32 x.2.2.2)])]
theorem E52i : ∀ a b, E52 a = E52 b → a = b := by
  rintro ⟨a0_0, a0_1, a0_2, a0_3⟩ ⟨b0_0, b0_1, b0_2, b0_3⟩ h
  simpa [E52, and_assoc] using h
def R52 (x : Tapi_Tx) (y : Bool) : PV × List (List Cell) := (.one (.v (.bool y)), [])
noncomputable def G52 := lift E52 fun x => (Lref09_Coinbase x).map (R52 x)
theorem G52_eq {a0 : Tapi_Tx} {y : Bool} (h : Lref09_Coinbase a0 = some y) : G52 (E52 a0) = some (R52 a0 y) := lift_som E52i h
def E51 (x : Tapi_Tx) : List PV := [.agg ([.v (.int .u32 x.1), .slice .no (List.map eapi_Input x.2.1), .slice .no (List.map eapi_Output x.2.2.1), .v (.int .u32 x.2.2.2)])]
theorem E51i : ∀ a b, E51 a = E51 b → a = b := by
  rintro ⟨a0_0, a0_1, a0_2, a0_3⟩ ⟨b0_0, b0_1, b0_2, b0_3⟩ h
  simpa [E51, and_assoc] using h
def R51 (x : Tapi_Tx) (y : Int) : PV × List (List Cell) := (.one (.v (.int .i64 y)), [])
noncomputable def G51 := lift E51 fun x => (Lref09_Check x).map (R51 x)
theorem G51_eq {a0 : Tapi_Tx} {y : Int} (h : Lref09_Check a0 = some y) : G51 (E51 a0) = some (R51 a0 y) := lift_som E51i h
def E53 (x : Int) : List PV := [.one (.v (.int .i64 x))]
theorem E53i : ∀ a b, E53 a = E53 b → a = b := by
  rintro a0 b0 h
  simpa [E53, and_assoc] using h
def R53 (x : Int) (y : Bool) : PV × List (List Cell) := (.one (.v (.bool y)), [])
noncomputable def G53 := lift E53 fun x => (Lref36_money x).map (R53 x)
theorem G53_eq {a0 : Int} {y : Bool} (h : Lref36_money a0 = some y) : G53 (E53 a0) = some (R53 a0 y) := lift_som E53i h
def E54 (x : Tapi_Tx × Tapi_Tx) : List PV := [.agg ([.v (.int .u32 x.1.1), .slice .no (List.map eapi_Input x.1.2.1), .slice .no (List.map eapi_Output x.1.2.2.1), .v (.int .u32 x.1.2.2.2)]), .agg ([.v (.int .u32 x.2.1), .slice .no (List.map eapi_Input x.2.2.1), .slice .no (List.map eapi_Output x.2.2.2.1), .v (.int .u32 x.2.2.2.2)])]
theorem E54i : ∀ a b, E54 a = E54 b → a = b := by
  rintro ⟨⟨a0_0, a0_1, a0_2, a0_3⟩, ⟨a1_0, a1_1, a1_2, a1_3⟩⟩ ⟨⟨b0_0, b0_1, b0_2, b0_3⟩, ⟨b1_0, b1_1, b1_2, b1_3⟩⟩ h
  simpa [E54, and_assoc] using h
def R54 (x : Tapi_Tx × Tapi_Tx) (y : Bool) : PV × List (List Cell) := (.one (.v (.bool y)), [])
noncomputable def G54 := lift E54 fun x => (Lref36_spends x.1 x.2).map (R54 x)
theorem G54_eq {a0 : Tapi_Tx} {a1 : Tapi_Tx} {y : Bool} (h : Lref36_spends a0 a1 = some y) : G54 (E54 (a0, a1)) = some (R54 (a0, a1) y) := lift_som E54i h
def E71 (x : Int × Int × Int) : List PV := [.one (.v (.int .i64 x.1)), .one (.v (.int .i64 x.2.1)), .one (.v (.int .i64 x.2.2))]
theorem E71i : ∀ a b, E71 a = E71 b → a = b := by
  rintro ⟨a0, a1, a2⟩ ⟨b0, b1, b2⟩ h
  simpa [E71, and_assoc] using h
def R71 (x : Int × Int × Int) (y : Bool) : PV × List (List Cell) := (.one (.v (.bool y)), [])
noncomputable def G71 := lift E71 fun x => (Lref34_in x.1 x.2.1 x.2.2).map (R71 x)
theorem G71_eq {a0 : Int} {a1 : Int} {a2 : Int} {y : Bool} (h : Lref34_in a0 a1 a2 = some y) : G71 (E71 (a0, a1, a2)) = some (R71 (a0, a1, a2) y) := lift_som E71i h
def E55 (x : Int × Int) : List PV := [.one (.v (.int .i64 x.1)), .one (.v (.int .i64 x.2))]
theorem E55i : ∀ a b, E55 a = E55 b → a = b := by
  rintro ⟨a0, a1⟩ ⟨b0, b1⟩ h
  simpa [E55, and_assoc] using h
def R55 (x : Int × Int) (y : Int) : PV × List (List Cell) := (.one (.v (.int .i64 y)), [])
noncomputable def G55 := lift E55 fun x => (Lref34_Fee x.1 x.2).map (R55 x)
theorem G55_eq {a0 : Int} {a1 : Int} {y : Int} (h : Lref34_Fee a0 a1 = some y) : G55 (E55 (a0, a1)) = some (R55 (a0, a1) y) := lift_som E55i h
def E84 (x : Int × Int × Int) : List PV := [.one (.v (.int .i64 x.1)), .one (.v (.int .i64 x.2.1)), .one (.v (.int .i64 x.2.2))]
theorem E84i : ∀ a b, E84 a = E84 b → a = b := by
  rintro ⟨a0, a1, a2⟩ ⟨b0, b1, b2⟩ h
  simpa [E84, and_assoc] using h
def R84 (x : Int × Int × Int) (y : Bool) : PV × List (List Cell) := (.one (.v (.bool y)), [])
noncomputable def G84 := lift E84 fun x => (Lref33_in x.1 x.2.1 x.2.2).map (R84 x)
theorem G84_eq {a0 : Int} {a1 : Int} {a2 : Int} {y : Bool} (h : Lref33_in a0 a1 a2 = some y) : G84 (E84 (a0, a1, a2)) = some (R84 (a0, a1, a2) y) := lift_som E84i h
def E56 (x : Int × Int) : List PV := [.one (.v (.int .i64 x.1)), .one (.v (.int .i64 x.2))]
theorem E56i : ∀ a b, E56 a = E56 b → a = b := by
  rintro ⟨a0, a1⟩ ⟨b0, b1⟩ h
  simpa [E56, and_assoc] using h
def R56 (x : Int × Int) (y : Int) : PV × List (List Cell) := (.one (.v (.int .i64 y)), [])
noncomputable def G56 := lift E56 fun x => (Lref33_Rate x.1 x.2).map (R56 x)
theorem G56_eq {a0 : Int} {a1 : Int} {y : Int} (h : Lref33_Rate a0 a1 = some y) : G56 (E56 (a0, a1)) = some (R56 (a0, a1) y) := lift_som E56i h
def E19 (x : (List Tapi_Entry) × Tapi_Tx × Int) : List PV := [.one (.slice .no (List.map eapi_Entry x.1)), .agg ([.v (.int .u32 x.2.1.1), .slice .no (List.map eapi_Input x.2.1.2.1), .slice .no (List.map eapi_Output x.2.1.2.2.1), .v (.int .u32 x.2.1.2.2.2)]), .one (.v (.int .i64 x.2.2))]
theorem E19i : ∀ a b, E19 a = E19 b → a = b := by
  rintro ⟨a0, ⟨a1_0, a1_1, a1_2, a1_3⟩, a2⟩ ⟨b0, ⟨b1_0, b1_1, b1_2, b1_3⟩, b2⟩ h
  simpa [E19, and_assoc] using h
def R19 (x : (List Tapi_Entry) × Tapi_Tx × Int) (y : Int) : PV × List (List Cell) := (.one (.v (.int .i64 y)), [])
noncomputable def G19 := lift E19 fun x => (Lref36_Accept x.1 x.2.1 x.2.2).map (R19 x)
theorem G19_eq {a0 : (List Tapi_Entry)} {a1 : Tapi_Tx} {a2 : Int} {y : Int} (h : Lref36_Accept a0 a1 a2 = some y) : G19 (E19 (a0, a1, a2)) = some (R19 (a0, a1, a2) y) := lift_som E19i h
def E4 (x : (List Int) × Int) : List PV := [.one (.slice .no (intsR .i64 x.1)), .one (.v (.int .i64 x.2))]
theorem E4i : ∀ a b, E4 a = E4 b → a = b := by
  rintro ⟨a0, a1⟩ ⟨b0, b1⟩ h
  simpa [E4, and_assoc] using h
def R4 (x : (List Int) × Int) (y : Bool) : PV × List (List Cell) := (.one (.v (.bool y)), [])
noncomputable def G4 := lift E4 fun x => (Llaw36_ReplaceAccepts x.1 x.2).map (R4 x)
theorem G4_eq {a0 : (List Int)} {a1 : Int} {y : Bool} (h : Llaw36_ReplaceAccepts a0 a1 = some y) : G4 (E4 (a0, a1)) = some (R4 (a0, a1) y) := lift_som E4i h
end Go.Proofs.YtconfbgcjkjnkaaDoor
