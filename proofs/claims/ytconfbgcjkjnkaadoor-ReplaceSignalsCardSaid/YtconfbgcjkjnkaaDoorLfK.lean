import Derived.Test.YtconfbgcjkjnkaaDoorLcQ1
import Derived.Test.YtconfbgcjkjnkaaDoorLcQ1
import Derived.Test.YtconfbgcjkjnkaaDoorLcQ1
import Derived.Test.YtconfbgcjkjnkaaDoorTt
namespace Go.Proofs.YtconfbgcjkjnkaaDoor
open Go.RowKit
open Go.Av
open Go.Lc
set_option maxRecDepth 100000
set_option linter.unusedSimpArgs false
set_option linter.unusedVariables false
attribute [simp] tt1 tt2 tt3 tt4 tt5 tt6 tt7 tt8 tt9 tt10 tt11 tt12 tt13 tt14 tt15 tt16 tt17 tt18 tt19 tt21 tt22 tt23 tt24 tt25 tt26 tt27 tt28 tt29 tt30 tt31 tt32 tt33 tt34 tt35 tt36 tt37 tt38 tt39 tt40 tt41 tt42 tt43 tt44 tt45 tt46 tt47 tt48 tt49 tt50 tt51 tt52 tt53 tt55 tt56 tt57 tt58 tt59 tt60 tt61 tt62 tt63 tt64 tt65 tt67 tt68 tt69 tt70 tt71 tt72 tt73 tt74 tt75 tt76 tt77 tt78 tt79 tt80 tt81 tt82 tt83 tt84 tt85 tt86 tt87 tt88 tt89 tt90 tt91 tt92 tt93 tt94 tt95 tt96 tt97 tt98 tt99 tt100 tt101 tt102 tt104 tt105 tt106 tt107 tt108 tt109 tt110 tt111 tt112 tt113 tt114 tt115 tt116 tt117 tt118 tt119 tt120 tt121 tt122 tt123 tt125 tt126 tt127 tt129 tt130 tt131 tt132 tt133 tt134 tt135 tt136 tt137 tt138 tt139 tt140 tt141 tt142 tt143 tt144 tt145 tt146 tt147 tt148 tt149 tt150 tt151 tt152 tt153 tt154 tt155 tt156 tt157 tt158 tt159 ti1 ti2 ti3 ti4 ti5 ti6 ti7 ti8 ti9 ti10 ti11 ti12 ti13 ti14 ti15 ti16 ti17 ti18 ti19 ti21 ti22 ti23 ti24 ti25 ti26 ti27 ti28 ti29 ti30 ti31 ti32 ti33 ti34 ti35 ti36 ti37 ti38 ti39 ti40 ti41 ti42 ti43 ti44 ti45 ti46 ti47 ti48 ti49 ti50 ti51 ti52 ti53 ti55 ti56 ti57 ti58 ti59 ti60 ti61 ti62 ti63 ti64 ti65 ti67 ti68 ti69 ti70 ti71 ti72 ti73 ti74 ti75 ti76 ti77 ti78 ti79 ti80 ti81 ti82 ti83 ti84 ti85 ti86 ti87 ti88 ti89 ti90 ti91 ti92 ti93 ti94 ti95 ti96 ti97 ti98 ti99 ti100 ti101 ti102 ti104 ti105 ti106 ti107 ti108 ti109 ti110 ti111 ti112 ti113 ti114 ti115 ti116 ti117 ti118 ti119 ti120 ti121 ti122 ti123 ti125 ti126 ti127 ti129 ti130 ti131 ti132 ti133 ti134 ti135 ti136 ti137 ti138 ti139 ti140 ti141 ti142 ti143 ti144 ti145 ti146 ti147 ti148 ti149 ti150 ti151 ti152 ti153 ti154 ti155 ti156 ti157 ti158 ti159
@[simp] def eS_I_u8 (x : (List Int)) : List Cell := [.slice .no (intsR .u8 x)]
theorem eS_I_u8_inj : ∀ a b, eS_I_u8 a = eS_I_u8 b → a = b := by
  rintro a b h
  simpa [and_assoc] using h
@[simp↓] theorem eS_I_u8_all (m : List (List Int)) : (∀ l, l ∈ List.map eS_I_u8 m → l.length = 1) = True := all_map_len (fun a => by simp) m
@[simp] theorem eS_I_u8_map {l m : List (List Int)} : List.map eS_I_u8 l = List.map eS_I_u8 m ↔ l = m := map_iff eS_I_u8_inj
@[simp] def eapi_Input (x : Tapi_Input) : List Cell := (arC .u8 x.1.1) ++ ((.v (.int .u32 x.1.2)) :: ((.v (.int .u32 x.2.1)) :: ((.slice .no (List.map eS_I_u8 x.2.2)) :: [])))
theorem eapi_Input_inj : ∀ a b, eapi_Input a = eapi_Input b → a = b := by
  rintro ⟨⟨a_0_0, a_0_1⟩, a_1, a_2⟩ ⟨⟨b_0_0, b_0_1⟩, b_1, b_2⟩ h
  simpa [and_assoc] using h
@[simp↓] theorem eapi_Input_all (m : List Tapi_Input) : (∀ l, l ∈ List.map eapi_Input m → l.length = 35) = True := all_map_len (fun a => by simp) m
@[simp] theorem eapi_Input_map {l m : List Tapi_Input} : List.map eapi_Input l = List.map eapi_Input m ↔ l = m := map_iff eapi_Input_inj
@[simp] def eapi_Output (x : Tapi_Output) : List Cell := [.v (.int .i64 x.1), .slice .no (intsR .u8 x.2)]
theorem eapi_Output_inj : ∀ a b, eapi_Output a = eapi_Output b → a = b := by
  rintro ⟨a_0, a_1⟩ ⟨b_0, b_1⟩ h
  simpa [and_assoc] using h
@[simp↓] theorem eapi_Output_all (m : List Tapi_Output) : (∀ l, l ∈ List.map eapi_Output m → l.length = 2) = True := all_map_len (fun a => by simp) m
@[simp] theorem eapi_Output_map {l m : List Tapi_Output} : List.map eapi_Output l = List.map eapi_Output m ↔ l = m := map_iff eapi_Output_inj
@[simp] def eapi_Entry (x : Tapi_Entry) : List Cell := [.v (.int .u32 x.1.1), .slice .no (List.map eapi_Input x.1.2.1), .slice .no (List.map eapi_Output x.1.2.2.1), .v (.int .u32 x.1.2.2.2), .v (.int .i64 x.2)]
theorem eapi_Entry_inj : ∀ a b, eapi_Entry a = eapi_Entry b → a = b := by
  rintro ⟨⟨a_0_0, a_0_1, a_0_2, a_0_3⟩, a_1⟩ ⟨⟨b_0_0, b_0_1, b_0_2, b_0_3⟩, b_1⟩ h
  simpa [and_assoc] using h
@[simp↓] theorem eapi_Entry_all (m : List Tapi_Entry) : (∀ l, l ∈ List.map eapi_Entry m → l.length = 5) = True := all_map_len (fun a => by simp) m
@[simp] theorem eapi_Entry_map {l m : List Tapi_Entry} : List.map eapi_Entry l = List.map eapi_Entry m ↔ l = m := map_iff eapi_Entry_inj
@[simp] def eM_api_OutPoint_B (x : Tapi_OutPoint × Bool) : List Cell := ((arC .u8 x.1.1) ++ ((.v (.int .u32 x.1.2)) :: [])) ++ ([.v (.bool x.2)])
theorem eM_api_OutPoint_B_he : ∀ a b : Tapi_OutPoint, kEq ((arC .u8 a.1) ++ ((.v (.int .u32 a.2)) :: [])) ((arC .u8 b.1) ++ ((.v (.int .u32 b.2)) :: [])) = decide (a = b) := by
  rintro ⟨a_0, a_1⟩ ⟨b_0, b_1⟩
  rw [Bool.eq_iff_iff]
  simp [kEq, kEq1]
@[simp] theorem eM_api_OutPoint_B_get {k0 : (Arr 32)} {k1 : Int} {l : List (Tapi_OutPoint × Bool)} : getM 33 ((arC .u8 k0) ++ ((.v (.int .u32 k1)) :: [])) (List.map eM_api_OutPoint_B l) = Option.map (fun v : Bool => ([.v (.bool v)] : List Cell)) (mget (k0, k1) l) := getM_map (eK := (fun k : Tapi_OutPoint => ((arC .u8 k.1) ++ ((.v (.int .u32 k.2)) :: []) : List Cell))) (eV := (fun v : Bool => ([.v (.bool v)] : List Cell))) (fun k => by simp) eM_api_OutPoint_B_he (k0, k1) l
@[simp] theorem eM_api_OutPoint_B_put {k0 : (Arr 32)} {k1 : Int} {v0 : Bool} {l : List (Tapi_OutPoint × Bool)} : putM 33 ((arC .u8 k0) ++ ((.v (.int .u32 k1)) :: [])) ([.v (.bool v0)]) (List.map eM_api_OutPoint_B l) = List.map eM_api_OutPoint_B (mput (k0, k1) v0 l) := putM_map (eK := (fun k : Tapi_OutPoint => ((arC .u8 k.1) ++ ((.v (.int .u32 k.2)) :: []) : List Cell))) (eV := (fun v : Bool => ([.v (.bool v)] : List Cell))) (fun k => by simp) eM_api_OutPoint_B_he (k0, k1) v0 l
@[simp] theorem eM_api_OutPoint_B_gd (o : Option Bool) : (Option.map (fun v : Bool => ([.v (.bool v)] : List Cell)) o).getD ([.v (.bool false)]) = [.v (.bool (o.getD false))] := by cases o <;> rfl
@[simp] theorem eM_api_OutPoint_B_put0 {k0 : (Arr 32)} {k1 : Int} {v0 : Bool} : putM 33 ((arC .u8 k0) ++ ((.v (.int .u32 k1)) :: [])) ([.v (.bool v0)]) [] = List.map eM_api_OutPoint_B (mput (k0, k1) v0 []) := rfl
def G : Glob := fun g => if g = 0 then some (arC .u32 shaInitial) else if g = 1 then some (arC .u32 shaK) else none
@[simp] theorem G_at0 : G 0 = some (arC .u32 shaInitial) := rfl
@[simp] theorem G_at1 : G 1 = some (arC .u32 shaK) := rfl
def E_Lreplace_Signals_1 (x : Tapi_Input) : List PV := [.agg ((arC .u8 x.1.1) ++ ((.v (.int .u32 x.1.2)) :: ((.v (.int .u32 x.2.1)) :: ((.slice .no (List.map eS_I_u8 x.2.2)) :: []))))]
theorem E_Lreplace_Signals_1_inj : ∀ a b, E_Lreplace_Signals_1 a = E_Lreplace_Signals_1 b → a = b := by
  rintro ⟨⟨a0_0_0, a0_0_1⟩, a0_1, a0_2⟩ ⟨⟨b0_0_0, b0_0_1⟩, b0_1, b0_2⟩ h
  simpa [E_Lreplace_Signals_1, and_assoc] using h
noncomputable def G_Lreplace_Signals_1 : List PV → Option (PV × List (List Cell)) := lift E_Lreplace_Signals_1 fun x => (Lreplace_Signals_1 x).map fun y => (.one (.v (.bool y)), [])
theorem G_Lreplace_Signals_1_eq {a0 : Tapi_Input} {y : Bool} (h : Lreplace_Signals_1 a0 = some y) : G_Lreplace_Signals_1 [.agg ((arC .u8 a0.1.1) ++ ((.v (.int .u32 a0.1.2)) :: ((.v (.int .u32 a0.2.1)) :: ((.slice .no (List.map eS_I_u8 a0.2.2)) :: []))))] = some (.one (.v (.bool y)), []) := by
  have := lift_eq (g := fun x => (Lreplace_Signals_1 x).map fun y => (.one (.v (.bool y)), [])) E_Lreplace_Signals_1_inj a0
  unfold G_Lreplace_Signals_1
  rw [show [.agg ((arC .u8 a0.1.1) ++ ((.v (.int .u32 a0.1.2)) :: ((.v (.int .u32 a0.2.1)) :: ((.slice .no (List.map eS_I_u8 a0.2.2)) :: []))))] = E_Lreplace_Signals_1 a0 from rfl, this]
  simp [h]
def E_Lslices_IndexFunc_of__api_Input_api_Input__replace_Signals_1 (x : (List Tapi_Input)) : List PV := [.one (.slice .no (List.map eapi_Input x)), .fn 34]
theorem E_Lslices_IndexFunc_of__api_Input_api_Input__replace_Signals_1_inj : ∀ a b, E_Lslices_IndexFunc_of__api_Input_api_Input__replace_Signals_1 a = E_Lslices_IndexFunc_of__api_Input_api_Input__replace_Signals_1 b → a = b := by
  rintro a0 b0 h
  simpa [E_Lslices_IndexFunc_of__api_Input_api_Input__replace_Signals_1, and_assoc] using h
noncomputable def G_Lslices_IndexFunc_of__api_Input_api_Input__replace_Signals_1 : List PV → Option (PV × List (List Cell)) := lift E_Lslices_IndexFunc_of__api_Input_api_Input__replace_Signals_1 fun x => (Lslices_IndexFunc_of__api_Input_api_Input__replace_Signals_1 x).map fun y => (.one (.v (.int .i64 y)), [])
theorem G_Lslices_IndexFunc_of__api_Input_api_Input__replace_Signals_1_eq {a0 : (List Tapi_Input)} {y : Int} (h : Lslices_IndexFunc_of__api_Input_api_Input__replace_Signals_1 a0 = some y) : G_Lslices_IndexFunc_of__api_Input_api_Input__replace_Signals_1 [.one (.slice .no (List.map eapi_Input a0)), .fn 34] = some (.one (.v (.int .i64 y)), []) := by
  have := lift_eq (g := fun x => (Lslices_IndexFunc_of__api_Input_api_Input__replace_Signals_1 x).map fun y => (.one (.v (.int .i64 y)), [])) E_Lslices_IndexFunc_of__api_Input_api_Input__replace_Signals_1_inj a0
  unfold G_Lslices_IndexFunc_of__api_Input_api_Input__replace_Signals_1
  rw [show [.one (.slice .no (List.map eapi_Input a0)), .fn 34] = E_Lslices_IndexFunc_of__api_Input_api_Input__replace_Signals_1 a0 from rfl, this]
  simp [h]
def E_Lslices_ContainsFunc_of__api_Input_api_Input__replace_Signals_1 (x : (List Tapi_Input)) : List PV := [.one (.slice .no (List.map eapi_Input x)), .fn 34]
theorem E_Lslices_ContainsFunc_of__api_Input_api_Input__replace_Signals_1_inj : ∀ a b, E_Lslices_ContainsFunc_of__api_Input_api_Input__replace_Signals_1 a = E_Lslices_ContainsFunc_of__api_Input_api_Input__replace_Signals_1 b → a = b := by
  rintro a0 b0 h
  simpa [E_Lslices_ContainsFunc_of__api_Input_api_Input__replace_Signals_1, and_assoc] using h
noncomputable def G_Lslices_ContainsFunc_of__api_Input_api_Input__replace_Signals_1 : List PV → Option (PV × List (List Cell)) := lift E_Lslices_ContainsFunc_of__api_Input_api_Input__replace_Signals_1 fun x => (Lslices_ContainsFunc_of__api_Input_api_Input__replace_Signals_1 x).map fun y => (.one (.v (.bool y)), [])
theorem G_Lslices_ContainsFunc_of__api_Input_api_Input__replace_Signals_1_eq {a0 : (List Tapi_Input)} {y : Bool} (h : Lslices_ContainsFunc_of__api_Input_api_Input__replace_Signals_1 a0 = some y) : G_Lslices_ContainsFunc_of__api_Input_api_Input__replace_Signals_1 [.one (.slice .no (List.map eapi_Input a0)), .fn 34] = some (.one (.v (.bool y)), []) := by
  have := lift_eq (g := fun x => (Lslices_ContainsFunc_of__api_Input_api_Input__replace_Signals_1 x).map fun y => (.one (.v (.bool y)), [])) E_Lslices_ContainsFunc_of__api_Input_api_Input__replace_Signals_1_inj a0
  unfold G_Lslices_ContainsFunc_of__api_Input_api_Input__replace_Signals_1
  rw [show [.one (.slice .no (List.map eapi_Input a0)), .fn 34] = E_Lslices_ContainsFunc_of__api_Input_api_Input__replace_Signals_1 a0 from rfl, this]
  simp [h]
def E_Lreplace_Signals (x : Tapi_Tx) : List PV := [.agg ([.v (.int .u32 x.1), .slice .no (List.map eapi_Input x.2.1), .slice .no (List.map eapi_Output x.2.2.1), .v (.int .u32 x.2.2.2)])]
theorem E_Lreplace_Signals_inj : ∀ a b, E_Lreplace_Signals a = E_Lreplace_Signals b → a = b := by
  rintro ⟨a0_0, a0_1, a0_2, a0_3⟩ ⟨b0_0, b0_1, b0_2, b0_3⟩ h
  simpa [E_Lreplace_Signals, and_assoc] using h
noncomputable def G_Lreplace_Signals : List PV → Option (PV × List (List Cell)) := lift E_Lreplace_Signals fun x => (Lreplace_Signals x).map fun y => (.one (.v (.bool y)), [])
theorem G_Lreplace_Signals_eq {a0 : Tapi_Tx} {y : Bool} (h : Lreplace_Signals a0 = some y) : G_Lreplace_Signals [.agg ([.v (.int .u32 a0.1), .slice .no (List.map eapi_Input a0.2.1), .slice .no (List.map eapi_Output a0.2.2.1), .v (.int .u32 a0.2.2.2)])] = some (.one (.v (.bool y)), []) := by
  have := lift_eq (g := fun x => (Lreplace_Signals x).map fun y => (.one (.v (.bool y)), [])) E_Lreplace_Signals_inj a0
  unfold G_Lreplace_Signals
  rw [show [.agg ([.v (.int .u32 a0.1), .slice .no (List.map eapi_Input a0.2.1), .slice .no (List.map eapi_Output a0.2.2.1), .v (.int .u32 a0.2.2.2)])] = E_Lreplace_Signals a0 from rfl, this]
  simp [h]
def E_Lreplace_Conflict_1_1__r (x : Tapi_Input × Tapi_Input) : List PV := [.agg ((arC .u8 x.1.1.1) ++ ((.v (.int .u32 x.1.1.2)) :: ((.v (.int .u32 x.1.2.1)) :: ((.slice .no (List.map eS_I_u8 x.1.2.2)) :: [])))), .ref ((arC .u8 x.2.1.1) ++ ((.v (.int .u32 x.2.1.2)) :: ((.v (.int .u32 x.2.2.1)) :: ((.slice .no (List.map eS_I_u8 x.2.2.2)) :: []))))]
theorem E_Lreplace_Conflict_1_1__r_inj : ∀ a b, E_Lreplace_Conflict_1_1__r a = E_Lreplace_Conflict_1_1__r b → a = b := by
  rintro ⟨⟨⟨a0_0_0, a0_0_1⟩, a0_1, a0_2⟩, ⟨⟨a1_0_0, a1_0_1⟩, a1_1, a1_2⟩⟩ ⟨⟨⟨b0_0_0, b0_0_1⟩, b0_1, b0_2⟩, ⟨⟨b1_0_0, b1_0_1⟩, b1_1, b1_2⟩⟩ h
  simpa [E_Lreplace_Conflict_1_1__r, and_assoc] using h
noncomputable def G_Lreplace_Conflict_1_1__r : List PV → Option (PV × List (List Cell)) := lift E_Lreplace_Conflict_1_1__r fun x => (Lreplace_Conflict_1_1__r x.1 x.2).map fun y => (.one (.v (.bool y)), [])
theorem G_Lreplace_Conflict_1_1__r_eq {a0 : Tapi_Input} {a1 : Tapi_Input} {y : Bool} (h : Lreplace_Conflict_1_1__r a0 a1 = some y) : G_Lreplace_Conflict_1_1__r [.agg ((arC .u8 a0.1.1) ++ ((.v (.int .u32 a0.1.2)) :: ((.v (.int .u32 a0.2.1)) :: ((.slice .no (List.map eS_I_u8 a0.2.2)) :: [])))), .ref ((arC .u8 a1.1.1) ++ ((.v (.int .u32 a1.1.2)) :: ((.v (.int .u32 a1.2.1)) :: ((.slice .no (List.map eS_I_u8 a1.2.2)) :: []))))] = some (.one (.v (.bool y)), []) := by
  have := lift_eq (g := fun x => (Lreplace_Conflict_1_1__r x.1 x.2).map fun y => (.one (.v (.bool y)), [])) E_Lreplace_Conflict_1_1__r_inj (a0, a1)
  unfold G_Lreplace_Conflict_1_1__r
  rw [show [.agg ((arC .u8 a0.1.1) ++ ((.v (.int .u32 a0.1.2)) :: ((.v (.int .u32 a0.2.1)) :: ((.slice .no (List.map eS_I_u8 a0.2.2)) :: [])))), .ref ((arC .u8 a1.1.1) ++ ((.v (.int .u32 a1.1.2)) :: ((.v (.int .u32 a1.2.1)) :: ((.slice .no (List.map eS_I_u8 a1.2.2)) :: []))))] = E_Lreplace_Conflict_1_1__r (a0, a1) from rfl, this]
  simp [h]
def E_Lslices_IndexFunc_of__api_Input_api_Input__replace_Conflict_1_1 (x : (List Tapi_Input) × Tapi_Input) : List PV := [.one (.slice .no (List.map eapi_Input x.1)), .clo 36 [.ref ((arC .u8 x.2.1.1) ++ ((.v (.int .u32 x.2.1.2)) :: ((.v (.int .u32 x.2.2.1)) :: ((.slice .no (List.map eS_I_u8 x.2.2.2)) :: []))))]]
theorem E_Lslices_IndexFunc_of__api_Input_api_Input__replace_Conflict_1_1_inj : ∀ a b, E_Lslices_IndexFunc_of__api_Input_api_Input__replace_Conflict_1_1 a = E_Lslices_IndexFunc_of__api_Input_api_Input__replace_Conflict_1_1 b → a = b := by
  rintro ⟨a0, ⟨⟨a1_0_0, a1_0_1⟩, a1_1, a1_2⟩⟩ ⟨b0, ⟨⟨b1_0_0, b1_0_1⟩, b1_1, b1_2⟩⟩ h
  simpa [E_Lslices_IndexFunc_of__api_Input_api_Input__replace_Conflict_1_1, and_assoc] using h
noncomputable def G_Lslices_IndexFunc_of__api_Input_api_Input__replace_Conflict_1_1 : List PV → Option (PV × List (List Cell)) := lift E_Lslices_IndexFunc_of__api_Input_api_Input__replace_Conflict_1_1 fun x => (Lslices_IndexFunc_of__api_Input_api_Input__replace_Conflict_1_1 x.1 x.2).map fun y => (.one (.v (.int .i64 y)), [])
theorem G_Lslices_IndexFunc_of__api_Input_api_Input__replace_Conflict_1_1_eq {a0 : (List Tapi_Input)} {a1 : Tapi_Input} {y : Int} (h : Lslices_IndexFunc_of__api_Input_api_Input__replace_Conflict_1_1 a0 a1 = some y) : G_Lslices_IndexFunc_of__api_Input_api_Input__replace_Conflict_1_1 [.one (.slice .no (List.map eapi_Input a0)), .clo 36 [.ref ((arC .u8 a1.1.1) ++ ((.v (.int .u32 a1.1.2)) :: ((.v (.int .u32 a1.2.1)) :: ((.slice .no (List.map eS_I_u8 a1.2.2)) :: []))))]] = some (.one (.v (.int .i64 y)), []) := by
  have := lift_eq (g := fun x => (Lslices_IndexFunc_of__api_Input_api_Input__replace_Conflict_1_1 x.1 x.2).map fun y => (.one (.v (.int .i64 y)), [])) E_Lslices_IndexFunc_of__api_Input_api_Input__replace_Conflict_1_1_inj (a0, a1)
  unfold G_Lslices_IndexFunc_of__api_Input_api_Input__replace_Conflict_1_1
  rw [show [.one (.slice .no (List.map eapi_Input a0)), .clo 36 [.ref ((arC .u8 a1.1.1) ++ ((.v (.int .u32 a1.1.2)) :: ((.v (.int .u32 a1.2.1)) :: ((.slice .no (List.map eS_I_u8 a1.2.2)) :: []))))]] = E_Lslices_IndexFunc_of__api_Input_api_Input__replace_Conflict_1_1 (a0, a1) from rfl, this]
  simp [h]
def E_Lslices_ContainsFunc_of__api_Input_api_Input__replace_Conflict_1_1 (x : (List Tapi_Input) × Tapi_Input) : List PV := [.one (.slice .no (List.map eapi_Input x.1)), .clo 36 [.ref ((arC .u8 x.2.1.1) ++ ((.v (.int .u32 x.2.1.2)) :: ((.v (.int .u32 x.2.2.1)) :: ((.slice .no (List.map eS_I_u8 x.2.2.2)) :: []))))]]
theorem E_Lslices_ContainsFunc_of__api_Input_api_Input__replace_Conflict_1_1_inj : ∀ a b, E_Lslices_ContainsFunc_of__api_Input_api_Input__replace_Conflict_1_1 a = E_Lslices_ContainsFunc_of__api_Input_api_Input__replace_Conflict_1_1 b → a = b := by
  rintro ⟨a0, ⟨⟨a1_0_0, a1_0_1⟩, a1_1, a1_2⟩⟩ ⟨b0, ⟨⟨b1_0_0, b1_0_1⟩, b1_1, b1_2⟩⟩ h
  simpa [E_Lslices_ContainsFunc_of__api_Input_api_Input__replace_Conflict_1_1, and_assoc] using h
noncomputable def G_Lslices_ContainsFunc_of__api_Input_api_Input__replace_Conflict_1_1 : List PV → Option (PV × List (List Cell)) := lift E_Lslices_ContainsFunc_of__api_Input_api_Input__replace_Conflict_1_1 fun x => (Lslices_ContainsFunc_of__api_Input_api_Input__replace_Conflict_1_1 x.1 x.2).map fun y => (.one (.v (.bool y)), [])
theorem G_Lslices_ContainsFunc_of__api_Input_api_Input__replace_Conflict_1_1_eq {a0 : (List Tapi_Input)} {a1 : Tapi_Input} {y : Bool} (h : Lslices_ContainsFunc_of__api_Input_api_Input__replace_Conflict_1_1 a0 a1 = some y) : G_Lslices_ContainsFunc_of__api_Input_api_Input__replace_Conflict_1_1 [.one (.slice .no (List.map eapi_Input a0)), .clo 36 [.ref ((arC .u8 a1.1.1) ++ ((.v (.int .u32 a1.1.2)) :: ((.v (.int .u32 a1.2.1)) :: ((.slice .no (List.map eS_I_u8 a1.2.2)) :: []))))]] = some (.one (.v (.bool y)), []) := by
  have := lift_eq (g := fun x => (Lslices_ContainsFunc_of__api_Input_api_Input__replace_Conflict_1_1 x.1 x.2).map fun y => (.one (.v (.bool y)), [])) E_Lslices_ContainsFunc_of__api_Input_api_Input__replace_Conflict_1_1_inj (a0, a1)
  unfold G_Lslices_ContainsFunc_of__api_Input_api_Input__replace_Conflict_1_1
  rw [show [.one (.slice .no (List.map eapi_Input a0)), .clo 36 [.ref ((arC .u8 a1.1.1) ++ ((.v (.int .u32 a1.1.2)) :: ((.v (.int .u32 a1.2.1)) :: ((.slice .no (List.map eS_I_u8 a1.2.2)) :: []))))]] = E_Lslices_ContainsFunc_of__api_Input_api_Input__replace_Conflict_1_1 (a0, a1) from rfl, this]
  simp [h]
def E_Lreplace_Conflict_1__r (x : Tapi_Input × Tapi_Tx) : List PV := [.agg ((arC .u8 x.1.1.1) ++ ((.v (.int .u32 x.1.1.2)) :: ((.v (.int .u32 x.1.2.1)) :: ((.slice .no (List.map eS_I_u8 x.1.2.2)) :: [])))), .ref ([.v (.int .u32 x.2.1), .slice .no (List.map eapi_Input x.2.2.1), .slice .no (List.map eapi_Output x.2.2.2.1), .v (.int .u32 x.2.2.2.2)])]
theorem E_Lreplace_Conflict_1__r_inj : ∀ a b, E_Lreplace_Conflict_1__r a = E_Lreplace_Conflict_1__r b → a = b := by
  rintro ⟨⟨⟨a0_0_0, a0_0_1⟩, a0_1, a0_2⟩, ⟨a1_0, a1_1, a1_2, a1_3⟩⟩ ⟨⟨⟨b0_0_0, b0_0_1⟩, b0_1, b0_2⟩, ⟨b1_0, b1_1, b1_2, b1_3⟩⟩ h
  simpa [E_Lreplace_Conflict_1__r, and_assoc] using h
noncomputable def G_Lreplace_Conflict_1__r : List PV → Option (PV × List (List Cell)) := lift E_Lreplace_Conflict_1__r fun x => (Lreplace_Conflict_1__r x.1 x.2).map fun y => (.one (.v (.bool y)), [])
theorem G_Lreplace_Conflict_1__r_eq {a0 : Tapi_Input} {a1 : Tapi_Tx} {y : Bool} (h : Lreplace_Conflict_1__r a0 a1 = some y) : G_Lreplace_Conflict_1__r [.agg ((arC .u8 a0.1.1) ++ ((.v (.int .u32 a0.1.2)) :: ((.v (.int .u32 a0.2.1)) :: ((.slice .no (List.map eS_I_u8 a0.2.2)) :: [])))), .ref ([.v (.int .u32 a1.1), .slice .no (List.map eapi_Input a1.2.1), .slice .no (List.map eapi_Output a1.2.2.1), .v (.int .u32 a1.2.2.2)])] = some (.one (.v (.bool y)), []) := by
  have := lift_eq (g := fun x => (Lreplace_Conflict_1__r x.1 x.2).map fun y => (.one (.v (.bool y)), [])) E_Lreplace_Conflict_1__r_inj (a0, a1)
  unfold G_Lreplace_Conflict_1__r
  rw [show [.agg ((arC .u8 a0.1.1) ++ ((.v (.int .u32 a0.1.2)) :: ((.v (.int .u32 a0.2.1)) :: ((.slice .no (List.map eS_I_u8 a0.2.2)) :: [])))), .ref ([.v (.int .u32 a1.1), .slice .no (List.map eapi_Input a1.2.1), .slice .no (List.map eapi_Output a1.2.2.1), .v (.int .u32 a1.2.2.2)])] = E_Lreplace_Conflict_1__r (a0, a1) from rfl, this]
  simp [h]
def E_Lslices_IndexFunc_of__api_Input_api_Input__replace_Conflict_1 (x : (List Tapi_Input) × Tapi_Tx) : List PV := [.one (.slice .no (List.map eapi_Input x.1)), .clo 35 [.ref ([.v (.int .u32 x.2.1), .slice .no (List.map eapi_Input x.2.2.1), .slice .no (List.map eapi_Output x.2.2.2.1), .v (.int .u32 x.2.2.2.2)])]]
theorem E_Lslices_IndexFunc_of__api_Input_api_Input__replace_Conflict_1_inj : ∀ a b, E_Lslices_IndexFunc_of__api_Input_api_Input__replace_Conflict_1 a = E_Lslices_IndexFunc_of__api_Input_api_Input__replace_Conflict_1 b → a = b := by
  rintro ⟨a0, ⟨a1_0, a1_1, a1_2, a1_3⟩⟩ ⟨b0, ⟨b1_0, b1_1, b1_2, b1_3⟩⟩ h
  simpa [E_Lslices_IndexFunc_of__api_Input_api_Input__replace_Conflict_1, and_assoc] using h
noncomputable def G_Lslices_IndexFunc_of__api_Input_api_Input__replace_Conflict_1 : List PV → Option (PV × List (List Cell)) := lift E_Lslices_IndexFunc_of__api_Input_api_Input__replace_Conflict_1 fun x => (Lslices_IndexFunc_of__api_Input_api_Input__replace_Conflict_1 x.1 x.2).map fun y => (.one (.v (.int .i64 y)), [])
theorem G_Lslices_IndexFunc_of__api_Input_api_Input__replace_Conflict_1_eq {a0 : (List Tapi_Input)} {a1 : Tapi_Tx} {y : Int} (h : Lslices_IndexFunc_of__api_Input_api_Input__replace_Conflict_1 a0 a1 = some y) : G_Lslices_IndexFunc_of__api_Input_api_Input__replace_Conflict_1 [.one (.slice .no (List.map eapi_Input a0)), .clo 35 [.ref ([.v (.int .u32 a1.1), .slice .no (List.map eapi_Input a1.2.1), .slice .no (List.map eapi_Output a1.2.2.1), .v (.int .u32 a1.2.2.2)])]] = some (.one (.v (.int .i64 y)), []) := by
  have := lift_eq (g := fun x => (Lslices_IndexFunc_of__api_Input_api_Input__replace_Conflict_1 x.1 x.2).map fun y => (.one (.v (.int .i64 y)), [])) E_Lslices_IndexFunc_of__api_Input_api_Input__replace_Conflict_1_inj (a0, a1)
  unfold G_Lslices_IndexFunc_of__api_Input_api_Input__replace_Conflict_1
  rw [show [.one (.slice .no (List.map eapi_Input a0)), .clo 35 [.ref ([.v (.int .u32 a1.1), .slice .no (List.map eapi_Input a1.2.1), .slice .no (List.map eapi_Output a1.2.2.1), .v (.int .u32 a1.2.2.2)])]] = E_Lslices_IndexFunc_of__api_Input_api_Input__replace_Conflict_1 (a0, a1) from rfl, this]
  simp [h]
def E_Lslices_ContainsFunc_of__api_Input_api_Input__replace_Conflict_1 (x : (List Tapi_Input) × Tapi_Tx) : List PV := [.one (.slice .no (List.map eapi_Input x.1)), .clo 35 [.ref ([.v (.int .u32 x.2.1), .slice .no (List.map eapi_Input x.2.2.1), .slice .no (List.map eapi_Output x.2.2.2.1), .v (.int .u32 x.2.2.2.2)])]]
theorem E_Lslices_ContainsFunc_of__api_Input_api_Input__replace_Conflict_1_inj : ∀ a b, E_Lslices_ContainsFunc_of__api_Input_api_Input__replace_Conflict_1 a = E_Lslices_ContainsFunc_of__api_Input_api_Input__replace_Conflict_1 b → a = b := by
  rintro ⟨a0, ⟨a1_0, a1_1, a1_2, a1_3⟩⟩ ⟨b0, ⟨b1_0, b1_1, b1_2, b1_3⟩⟩ h
  simpa [E_Lslices_ContainsFunc_of__api_Input_api_Input__replace_Conflict_1, and_assoc] using h
noncomputable def G_Lslices_ContainsFunc_of__api_Input_api_Input__replace_Conflict_1 : List PV → Option (PV × List (List Cell)) := lift E_Lslices_ContainsFunc_of__api_Input_api_Input__replace_Conflict_1 fun x => (Lslices_ContainsFunc_of__api_Input_api_Input__replace_Conflict_1 x.1 x.2).map fun y => (.one (.v (.bool y)), [])
theorem G_Lslices_ContainsFunc_of__api_Input_api_Input__replace_Conflict_1_eq {a0 : (List Tapi_Input)} {a1 : Tapi_Tx} {y : Bool} (h : Lslices_ContainsFunc_of__api_Input_api_Input__replace_Conflict_1 a0 a1 = some y) : G_Lslices_ContainsFunc_of__api_Input_api_Input__replace_Conflict_1 [.one (.slice .no (List.map eapi_Input a0)), .clo 35 [.ref ([.v (.int .u32 a1.1), .slice .no (List.map eapi_Input a1.2.1), .slice .no (List.map eapi_Output a1.2.2.1), .v (.int .u32 a1.2.2.2)])]] = some (.one (.v (.bool y)), []) := by
  have := lift_eq (g := fun x => (Lslices_ContainsFunc_of__api_Input_api_Input__replace_Conflict_1 x.1 x.2).map fun y => (.one (.v (.bool y)), [])) E_Lslices_ContainsFunc_of__api_Input_api_Input__replace_Conflict_1_inj (a0, a1)
  unfold G_Lslices_ContainsFunc_of__api_Input_api_Input__replace_Conflict_1
  rw [show [.one (.slice .no (List.map eapi_Input a0)), .clo 35 [.ref ([.v (.int .u32 a1.1), .slice .no (List.map eapi_Input a1.2.1), .slice .no (List.map eapi_Output a1.2.2.1), .v (.int .u32 a1.2.2.2)])]] = E_Lslices_ContainsFunc_of__api_Input_api_Input__replace_Conflict_1 (a0, a1) from rfl, this]
  simp [h]
def E_Lreplace_Conflict (x : Tapi_Tx × Tapi_Tx) : List PV := [.agg ([.v (.int .u32 x.1.1), .slice .no (List.map eapi_Input x.1.2.1), .slice .no (List.map eapi_Output x.1.2.2.1), .v (.int .u32 x.1.2.2.2)]), .agg ([.v (.int .u32 x.2.1), .slice .no (List.map eapi_Input x.2.2.1), .slice .no (List.map eapi_Output x.2.2.2.1), .v (.int .u32 x.2.2.2.2)])]
theorem E_Lreplace_Conflict_inj : ∀ a b, E_Lreplace_Conflict a = E_Lreplace_Conflict b → a = b := by
  rintro ⟨⟨a0_0, a0_1, a0_2, a0_3⟩, ⟨a1_0, a1_1, a1_2, a1_3⟩⟩ ⟨⟨b0_0, b0_1, b0_2, b0_3⟩, ⟨b1_0, b1_1, b1_2, b1_3⟩⟩ h
  simpa [E_Lreplace_Conflict, and_assoc] using h
noncomputable def G_Lreplace_Conflict : List PV → Option (PV × List (List Cell)) := lift E_Lreplace_Conflict fun x => (Lreplace_Conflict x.1 x.2).map fun y => (.one (.v (.bool y)), [])
theorem G_Lreplace_Conflict_eq {a0 : Tapi_Tx} {a1 : Tapi_Tx} {y : Bool} (h : Lreplace_Conflict a0 a1 = some y) : G_Lreplace_Conflict [.agg ([.v (.int .u32 a0.1), .slice .no (List.map eapi_Input a0.2.1), .slice .no (List.map eapi_Output a0.2.2.1), .v (.int .u32 a0.2.2.2)]), .agg ([.v (.int .u32 a1.1), .slice .no (List.map eapi_Input a1.2.1), .slice .no (List.map eapi_Output a1.2.2.1), .v (.int .u32 a1.2.2.2)])] = some (.one (.v (.bool y)), []) := by
  have := lift_eq (g := fun x => (Lreplace_Conflict x.1 x.2).map fun y => (.one (.v (.bool y)), [])) E_Lreplace_Conflict_inj (a0, a1)
  unfold G_Lreplace_Conflict
  rw [show [.agg ([.v (.int .u32 a0.1), .slice .no (List.map eapi_Input a0.2.1), .slice .no (List.map eapi_Output a0.2.2.1), .v (.int .u32 a0.2.2.2)]), .agg ([.v (.int .u32 a1.1), .slice .no (List.map eapi_Input a1.2.1), .slice .no (List.map eapi_Output a1.2.2.1), .v (.int .u32 a1.2.2.2)])] = E_Lreplace_Conflict (a0, a1) from rfl, this]
  simp [h]
def E_Ltx_null (x : Tapi_OutPoint) : List PV := [.agg ((arC .u8 x.1) ++ ((.v (.int .u32 x.2)) :: []))]
theorem E_Ltx_null_inj : ∀ a b, E_Ltx_null a = E_Ltx_null b → a = b := by
  rintro ⟨a0_0, a0_1⟩ ⟨b0_0, b0_1⟩ h
  simpa [E_Ltx_null, and_assoc] using h
noncomputable def G_Ltx_null : List PV → Option (PV × List (List Cell)) := lift E_Ltx_null fun x => (Ltx_null x).map fun y => (.one (.v (.bool y)), [])
theorem G_Ltx_null_eq {a0 : Tapi_OutPoint} {y : Bool} (h : Ltx_null a0 = some y) : G_Ltx_null [.agg ((arC .u8 a0.1) ++ ((.v (.int .u32 a0.2)) :: []))] = some (.one (.v (.bool y)), []) := by
  have := lift_eq (g := fun x => (Ltx_null x).map fun y => (.one (.v (.bool y)), [])) E_Ltx_null_inj a0
  unfold G_Ltx_null
  rw [show [.agg ((arC .u8 a0.1) ++ ((.v (.int .u32 a0.2)) :: []))] = E_Ltx_null a0 from rfl, this]
  simp [h]
def E_Ltx_Coinbase (x : Tapi_Tx) : List PV := [.agg ([.v (.int .u32 x.1), .slice .no (List.map eapi_Input x.2.1), .slice .no (List.map eapi_Output x.2.2.1), .v (.int .u32 x.2.2.2)])]
theorem E_Ltx_Coinbase_inj : ∀ a b, E_Ltx_Coinbase a = E_Ltx_Coinbase b → a = b := by
  rintro ⟨a0_0, a0_1, a0_2, a0_3⟩ ⟨b0_0, b0_1, b0_2, b0_3⟩ h
  simpa [E_Ltx_Coinbase, and_assoc] using h
noncomputable def G_Ltx_Coinbase : List PV → Option (PV × List (List Cell)) := lift E_Ltx_Coinbase fun x => (Ltx_Coinbase x).map fun y => (.one (.v (.bool y)), [])
theorem G_Ltx_Coinbase_eq {a0 : Tapi_Tx} {y : Bool} (h : Ltx_Coinbase a0 = some y) : G_Ltx_Coinbase [.agg ([.v (.int .u32 a0.1), .slice .no (List.map eapi_Input a0.2.1), .slice .no (List.map eapi_Output a0.2.2.1), .v (.int .u32 a0.2.2.2)])] = some (.one (.v (.bool y)), []) := by
  have := lift_eq (g := fun x => (Ltx_Coinbase x).map fun y => (.one (.v (.bool y)), [])) E_Ltx_Coinbase_inj a0
  unfold G_Ltx_Coinbase
  rw [show [.agg ([.v (.int .u32 a0.1), .slice .no (List.map eapi_Input a0.2.1), .slice .no (List.map eapi_Output a0.2.2.1), .v (.int .u32 a0.2.2.2)])] = E_Ltx_Coinbase a0 from rfl, this]
  simp [h]
def E_Lcodec_extend (x : (List Int) × (List Int)) : List PV := [.one (.slice .no (intsR .u8 x.1)), .one (.slice .no (intsR .u8 x.2))]
theorem E_Lcodec_extend_inj : ∀ a b, E_Lcodec_extend a = E_Lcodec_extend b → a = b := by
  rintro ⟨a0, a1⟩ ⟨b0, b1⟩ h
  simpa [E_Lcodec_extend, and_assoc] using h
noncomputable def G_Lcodec_extend : List PV → Option (PV × List (List Cell)) := lift E_Lcodec_extend fun x => (Lcodec_extend x.1 x.2).map fun y => (.one (.own 1 (intsR .u8 y)), [])
theorem G_Lcodec_extend_eq {a0 : (List Int)} {a1 : (List Int)} {y : (List Int)} (h : Lcodec_extend a0 a1 = some y) : G_Lcodec_extend [.one (.slice .no (intsR .u8 a0)), .one (.slice .no (intsR .u8 a1))] = some (.one (.own 1 (intsR .u8 y)), []) := by
  have := lift_eq (g := fun x => (Lcodec_extend x.1 x.2).map fun y => (.one (.own 1 (intsR .u8 y)), [])) E_Lcodec_extend_inj (a0, a1)
  unfold G_Lcodec_extend
  rw [show [.one (.slice .no (intsR .u8 a0)), .one (.slice .no (intsR .u8 a1))] = E_Lcodec_extend (a0, a1) from rfl, this]
  simp [h]
def E_Lcodec_lowest (x : Int × Int) : List PV := [.one (.v (.int .u64 x.1)), .one (.v (.int .i64 x.2))]
theorem E_Lcodec_lowest_inj : ∀ a b, E_Lcodec_lowest a = E_Lcodec_lowest b → a = b := by
  rintro ⟨a0, a1⟩ ⟨b0, b1⟩ h
  simpa [E_Lcodec_lowest, and_assoc] using h
noncomputable def G_Lcodec_lowest : List PV → Option (PV × List (List Cell)) := lift E_Lcodec_lowest fun x => (Lcodec_lowest x.1 x.2).map fun y => (.one (.own 1 (intsR .u8 y)), [])
theorem G_Lcodec_lowest_eq {a0 : Int} {a1 : Int} {y : (List Int)} (h : Lcodec_lowest a0 a1 = some y) : G_Lcodec_lowest [.one (.v (.int .u64 a0)), .one (.v (.int .i64 a1))] = some (.one (.own 1 (intsR .u8 y)), []) := by
  have := lift_eq (g := fun x => (Lcodec_lowest x.1 x.2).map fun y => (.one (.own 1 (intsR .u8 y)), [])) E_Lcodec_lowest_inj (a0, a1)
  unfold G_Lcodec_lowest
  rw [show [.one (.v (.int .u64 a0)), .one (.v (.int .i64 a1))] = E_Lcodec_lowest (a0, a1) from rfl, this]
  simp [h]
def E_Lcodec_AppendU32 (x : (List Int) × Int) : List PV := [.one (.slice .no (intsR .u8 x.1)), .one (.v (.int .u32 x.2))]
theorem E_Lcodec_AppendU32_inj : ∀ a b, E_Lcodec_AppendU32 a = E_Lcodec_AppendU32 b → a = b := by
  rintro ⟨a0, a1⟩ ⟨b0, b1⟩ h
  simpa [E_Lcodec_AppendU32, and_assoc] using h
noncomputable def G_Lcodec_AppendU32 : List PV → Option (PV × List (List Cell)) := lift E_Lcodec_AppendU32 fun x => (Lcodec_AppendU32 x.1 x.2).map fun y => (.one (.own 1 (intsR .u8 y)), [])
theorem G_Lcodec_AppendU32_eq {a0 : (List Int)} {a1 : Int} {y : (List Int)} (h : Lcodec_AppendU32 a0 a1 = some y) : G_Lcodec_AppendU32 [.one (.slice .no (intsR .u8 a0)), .one (.v (.int .u32 a1))] = some (.one (.own 1 (intsR .u8 y)), []) := by
  have := lift_eq (g := fun x => (Lcodec_AppendU32 x.1 x.2).map fun y => (.one (.own 1 (intsR .u8 y)), [])) E_Lcodec_AppendU32_inj (a0, a1)
  unfold G_Lcodec_AppendU32
  rw [show [.one (.slice .no (intsR .u8 a0)), .one (.v (.int .u32 a1))] = E_Lcodec_AppendU32 (a0, a1) from rfl, this]
  simp [h]
def E_Lcodec_AppendU64 (x : (List Int) × Int) : List PV := [.one (.slice .no (intsR .u8 x.1)), .one (.v (.int .u64 x.2))]
theorem E_Lcodec_AppendU64_inj : ∀ a b, E_Lcodec_AppendU64 a = E_Lcodec_AppendU64 b → a = b := by
  rintro ⟨a0, a1⟩ ⟨b0, b1⟩ h
  simpa [E_Lcodec_AppendU64, and_assoc] using h
noncomputable def G_Lcodec_AppendU64 : List PV → Option (PV × List (List Cell)) := lift E_Lcodec_AppendU64 fun x => (Lcodec_AppendU64 x.1 x.2).map fun y => (.one (.own 1 (intsR .u8 y)), [])
theorem G_Lcodec_AppendU64_eq {a0 : (List Int)} {a1 : Int} {y : (List Int)} (h : Lcodec_AppendU64 a0 a1 = some y) : G_Lcodec_AppendU64 [.one (.slice .no (intsR .u8 a0)), .one (.v (.int .u64 a1))] = some (.one (.own 1 (intsR .u8 y)), []) := by
  have := lift_eq (g := fun x => (Lcodec_AppendU64 x.1 x.2).map fun y => (.one (.own 1 (intsR .u8 y)), [])) E_Lcodec_AppendU64_inj (a0, a1)
  unfold G_Lcodec_AppendU64
  rw [show [.one (.slice .no (intsR .u8 a0)), .one (.v (.int .u64 a1))] = E_Lcodec_AppendU64 (a0, a1) from rfl, this]
  simp [h]
def E_Lcodec_AppendU16 (x : (List Int) × Int) : List PV := [.one (.slice .no (intsR .u8 x.1)), .one (.v (.int .u16 x.2))]
theorem E_Lcodec_AppendU16_inj : ∀ a b, E_Lcodec_AppendU16 a = E_Lcodec_AppendU16 b → a = b := by
  rintro ⟨a0, a1⟩ ⟨b0, b1⟩ h
  simpa [E_Lcodec_AppendU16, and_assoc] using h
noncomputable def G_Lcodec_AppendU16 : List PV → Option (PV × List (List Cell)) := lift E_Lcodec_AppendU16 fun x => (Lcodec_AppendU16 x.1 x.2).map fun y => (.one (.own 1 (intsR .u8 y)), [])
theorem G_Lcodec_AppendU16_eq {a0 : (List Int)} {a1 : Int} {y : (List Int)} (h : Lcodec_AppendU16 a0 a1 = some y) : G_Lcodec_AppendU16 [.one (.slice .no (intsR .u8 a0)), .one (.v (.int .u16 a1))] = some (.one (.own 1 (intsR .u8 y)), []) := by
  have := lift_eq (g := fun x => (Lcodec_AppendU16 x.1 x.2).map fun y => (.one (.own 1 (intsR .u8 y)), [])) E_Lcodec_AppendU16_inj (a0, a1)
  unfold G_Lcodec_AppendU16
  rw [show [.one (.slice .no (intsR .u8 a0)), .one (.v (.int .u16 a1))] = E_Lcodec_AppendU16 (a0, a1) from rfl, this]
  simp [h]
def E_Lcodec_AppendSize (x : (List Int) × Int) : List PV := [.one (.slice .no (intsR .u8 x.1)), .one (.v (.int .u64 x.2))]
theorem E_Lcodec_AppendSize_inj : ∀ a b, E_Lcodec_AppendSize a = E_Lcodec_AppendSize b → a = b := by
  rintro ⟨a0, a1⟩ ⟨b0, b1⟩ h
  simpa [E_Lcodec_AppendSize, and_assoc] using h
noncomputable def G_Lcodec_AppendSize : List PV → Option (PV × List (List Cell)) := lift E_Lcodec_AppendSize fun x => (Lcodec_AppendSize x.1 x.2).map fun y => (.one (.own 1 (intsR .u8 y)), [])
theorem G_Lcodec_AppendSize_eq {a0 : (List Int)} {a1 : Int} {y : (List Int)} (h : Lcodec_AppendSize a0 a1 = some y) : G_Lcodec_AppendSize [.one (.slice .no (intsR .u8 a0)), .one (.v (.int .u64 a1))] = some (.one (.own 1 (intsR .u8 y)), []) := by
  have := lift_eq (g := fun x => (Lcodec_AppendSize x.1 x.2).map fun y => (.one (.own 1 (intsR .u8 y)), [])) E_Lcodec_AppendSize_inj (a0, a1)
  unfold G_Lcodec_AppendSize
  rw [show [.one (.slice .no (intsR .u8 a0)), .one (.v (.int .u64 a1))] = E_Lcodec_AppendSize (a0, a1) from rfl, this]
  simp [h]
def E_Lcodec_AppendHash (x : (List Int) × (Arr 32)) : List PV := [.one (.slice .no (intsR .u8 x.1)), .agg (arC .u8 x.2)]
theorem E_Lcodec_AppendHash_inj : ∀ a b, E_Lcodec_AppendHash a = E_Lcodec_AppendHash b → a = b := by
  rintro ⟨a0, a1⟩ ⟨b0, b1⟩ h
  simpa [E_Lcodec_AppendHash, and_assoc] using h
noncomputable def G_Lcodec_AppendHash : List PV → Option (PV × List (List Cell)) := lift E_Lcodec_AppendHash fun x => (Lcodec_AppendHash x.1 x.2).map fun y => (.one (.own 1 (intsR .u8 y)), [])
theorem G_Lcodec_AppendHash_eq {a0 : (List Int)} {a1 : (Arr 32)} {y : (List Int)} (h : Lcodec_AppendHash a0 a1 = some y) : G_Lcodec_AppendHash [.one (.slice .no (intsR .u8 a0)), .agg (arC .u8 a1)] = some (.one (.own 1 (intsR .u8 y)), []) := by
  have := lift_eq (g := fun x => (Lcodec_AppendHash x.1 x.2).map fun y => (.one (.own 1 (intsR .u8 y)), [])) E_Lcodec_AppendHash_inj (a0, a1)
  unfold G_Lcodec_AppendHash
  rw [show [.one (.slice .no (intsR .u8 a0)), .agg (arC .u8 a1)] = E_Lcodec_AppendHash (a0, a1) from rfl, this]
  simp [h]
def E_Ltx_Point (x : Tapi_OutPoint) : List PV := [.agg ((arC .u8 x.1) ++ ((.v (.int .u32 x.2)) :: []))]
theorem E_Ltx_Point_inj : ∀ a b, E_Ltx_Point a = E_Ltx_Point b → a = b := by
  rintro ⟨a0_0, a0_1⟩ ⟨b0_0, b0_1⟩ h
  simpa [E_Ltx_Point, and_assoc] using h
noncomputable def G_Ltx_Point : List PV → Option (PV × List (List Cell)) := lift E_Ltx_Point fun x => (Ltx_Point x).map fun y => (.one (.own 1 (intsR .u8 y)), [])
theorem G_Ltx_Point_eq {a0 : Tapi_OutPoint} {y : (List Int)} (h : Ltx_Point a0 = some y) : G_Ltx_Point [.agg ((arC .u8 a0.1) ++ ((.v (.int .u32 a0.2)) :: []))] = some (.one (.own 1 (intsR .u8 y)), []) := by
  have := lift_eq (g := fun x => (Ltx_Point x).map fun y => (.one (.own 1 (intsR .u8 y)), [])) E_Ltx_Point_inj a0
  unfold G_Ltx_Point
  rw [show [.agg ((arC .u8 a0.1) ++ ((.v (.int .u32 a0.2)) :: []))] = E_Ltx_Point a0 from rfl, this]
  simp [h]
def E_Lcodec_AppendBytes (x : (List Int) × (List Int)) : List PV := [.one (.slice .no (intsR .u8 x.1)), .one (.slice .no (intsR .u8 x.2))]
theorem E_Lcodec_AppendBytes_inj : ∀ a b, E_Lcodec_AppendBytes a = E_Lcodec_AppendBytes b → a = b := by
  rintro ⟨a0, a1⟩ ⟨b0, b1⟩ h
  simpa [E_Lcodec_AppendBytes, and_assoc] using h
noncomputable def G_Lcodec_AppendBytes : List PV → Option (PV × List (List Cell)) := lift E_Lcodec_AppendBytes fun x => (Lcodec_AppendBytes x.1 x.2).map fun y => (.one (.own 1 (intsR .u8 y)), [])
theorem G_Lcodec_AppendBytes_eq {a0 : (List Int)} {a1 : (List Int)} {y : (List Int)} (h : Lcodec_AppendBytes a0 a1 = some y) : G_Lcodec_AppendBytes [.one (.slice .no (intsR .u8 a0)), .one (.slice .no (intsR .u8 a1))] = some (.one (.own 1 (intsR .u8 y)), []) := by
  have := lift_eq (g := fun x => (Lcodec_AppendBytes x.1 x.2).map fun y => (.one (.own 1 (intsR .u8 y)), [])) E_Lcodec_AppendBytes_inj (a0, a1)
  unfold G_Lcodec_AppendBytes
  rw [show [.one (.slice .no (intsR .u8 a0)), .one (.slice .no (intsR .u8 a1))] = E_Lcodec_AppendBytes (a0, a1) from rfl, this]
  simp [h]
def E_Ltx_encode (x : Tapi_Tx × Bool) : List PV := [.agg ([.v (.int .u32 x.1.1), .slice .no (List.map eapi_Input x.1.2.1), .slice .no (List.map eapi_Output x.1.2.2.1), .v (.int .u32 x.1.2.2.2)]), .one (.v (.bool x.2))]
theorem E_Ltx_encode_inj : ∀ a b, E_Ltx_encode a = E_Ltx_encode b → a = b := by
  rintro ⟨⟨a0_0, a0_1, a0_2, a0_3⟩, a1⟩ ⟨⟨b0_0, b0_1, b0_2, b0_3⟩, b1⟩ h
  simpa [E_Ltx_encode, and_assoc] using h
noncomputable def G_Ltx_encode : List PV → Option (PV × List (List Cell)) := lift E_Ltx_encode fun x => (Ltx_encode x.1 x.2).map fun y => (.one (.own 1 (intsR .u8 y)), [])
theorem G_Ltx_encode_eq {a0 : Tapi_Tx} {a1 : Bool} {y : (List Int)} (h : Ltx_encode a0 a1 = some y) : G_Ltx_encode [.agg ([.v (.int .u32 a0.1), .slice .no (List.map eapi_Input a0.2.1), .slice .no (List.map eapi_Output a0.2.2.1), .v (.int .u32 a0.2.2.2)]), .one (.v (.bool a1))] = some (.one (.own 1 (intsR .u8 y)), []) := by
  have := lift_eq (g := fun x => (Ltx_encode x.1 x.2).map fun y => (.one (.own 1 (intsR .u8 y)), [])) E_Ltx_encode_inj (a0, a1)
  unfold G_Ltx_encode
  rw [show [.agg ([.v (.int .u32 a0.1), .slice .no (List.map eapi_Input a0.2.1), .slice .no (List.map eapi_Output a0.2.2.1), .v (.int .u32 a0.2.2.2)]), .one (.v (.bool a1))] = E_Ltx_encode (a0, a1) from rfl, this]
  simp [h]
def E_Ltx_fits (x : Tapi_Tx) : List PV := [.agg ([.v (.int .u32 x.1), .slice .no (List.map eapi_Input x.2.1), .slice .no (List.map eapi_Output x.2.2.1), .v (.int .u32 x.2.2.2)])]
theorem E_Ltx_fits_inj : ∀ a b, E_Ltx_fits a = E_Ltx_fits b → a = b := by
  rintro ⟨a0_0, a0_1, a0_2, a0_3⟩ ⟨b0_0, b0_1, b0_2, b0_3⟩ h
  simpa [E_Ltx_fits, and_assoc] using h
noncomputable def G_Ltx_fits : List PV → Option (PV × List (List Cell)) := lift E_Ltx_fits fun x => (Ltx_fits x).map fun y => (.one (.v (.bool y)), [])
theorem G_Ltx_fits_eq {a0 : Tapi_Tx} {y : Bool} (h : Ltx_fits a0 = some y) : G_Ltx_fits [.agg ([.v (.int .u32 a0.1), .slice .no (List.map eapi_Input a0.2.1), .slice .no (List.map eapi_Output a0.2.2.1), .v (.int .u32 a0.2.2.2)])] = some (.one (.v (.bool y)), []) := by
  have := lift_eq (g := fun x => (Ltx_fits x).map fun y => (.one (.v (.bool y)), [])) E_Ltx_fits_inj a0
  unfold G_Ltx_fits
  rw [show [.agg ([.v (.int .u32 a0.1), .slice .no (List.map eapi_Input a0.2.1), .slice .no (List.map eapi_Output a0.2.2.1), .v (.int .u32 a0.2.2.2)])] = E_Ltx_fits a0 from rfl, this]
  simp [h]
def E_Ltx_money (x : (List Tapi_Output)) : List PV := [.one (.slice .no (List.map eapi_Output x))]
theorem E_Ltx_money_inj : ∀ a b, E_Ltx_money a = E_Ltx_money b → a = b := by
  rintro a0 b0 h
  simpa [E_Ltx_money, and_assoc] using h
noncomputable def G_Ltx_money : List PV → Option (PV × List (List Cell)) := lift E_Ltx_money fun x => (Ltx_money x).map fun y => (.one (.v (.bool y)), [])
theorem G_Ltx_money_eq {a0 : (List Tapi_Output)} {y : Bool} (h : Ltx_money a0 = some y) : G_Ltx_money [.one (.slice .no (List.map eapi_Output a0))] = some (.one (.v (.bool y)), []) := by
  have := lift_eq (g := fun x => (Ltx_money x).map fun y => (.one (.v (.bool y)), [])) E_Ltx_money_inj a0
  unfold G_Ltx_money
  rw [show [.one (.slice .no (List.map eapi_Output a0))] = E_Ltx_money a0 from rfl, this]
  simp [h]
def E_Ltx_Check (x : Tapi_Tx) : List PV := [.agg ([.v (.int .u32 x.1), .slice .no (List.map eapi_Input x.2.1), .slice .no (List.map eapi_Output x.2.2.1), .v (.int .u32 x.2.2.2)])]
theorem E_Ltx_Check_inj : ∀ a b, E_Ltx_Check a = E_Ltx_Check b → a = b := by
  rintro ⟨a0_0, a0_1, a0_2, a0_3⟩ ⟨b0_0, b0_1, b0_2, b0_3⟩ h
  simpa [E_Ltx_Check, and_assoc] using h
noncomputable def G_Ltx_Check : List PV → Option (PV × List (List Cell)) := lift E_Ltx_Check fun x => (Ltx_Check x).map fun y => (.one (.v (.int .i64 y)), [])
theorem G_Ltx_Check_eq {a0 : Tapi_Tx} {y : Int} (h : Ltx_Check a0 = some y) : G_Ltx_Check [.agg ([.v (.int .u32 a0.1), .slice .no (List.map eapi_Input a0.2.1), .slice .no (List.map eapi_Output a0.2.2.1), .v (.int .u32 a0.2.2.2)])] = some (.one (.v (.int .i64 y)), []) := by
  have := lift_eq (g := fun x => (Ltx_Check x).map fun y => (.one (.v (.int .i64 y)), [])) E_Ltx_Check_inj a0
  unfold G_Ltx_Check
  rw [show [.agg ([.v (.int .u32 a0.1), .slice .no (List.map eapi_Input a0.2.1), .slice .no (List.map eapi_Output a0.2.2.1), .v (.int .u32 a0.2.2.2)])] = E_Ltx_Check a0 from rfl, this]
  simp [h]
def E_Ltx_Encode (x : Tapi_Tx × Bool) : List PV := [.agg ([.v (.int .u32 x.1.1), .slice .no (List.map eapi_Input x.1.2.1), .slice .no (List.map eapi_Output x.1.2.2.1), .v (.int .u32 x.1.2.2.2)]), .one (.v (.bool x.2))]
theorem E_Ltx_Encode_inj : ∀ a b, E_Ltx_Encode a = E_Ltx_Encode b → a = b := by
  rintro ⟨⟨a0_0, a0_1, a0_2, a0_3⟩, a1⟩ ⟨⟨b0_0, b0_1, b0_2, b0_3⟩, b1⟩ h
  simpa [E_Ltx_Encode, and_assoc] using h
noncomputable def G_Ltx_Encode : List PV → Option (PV × List (List Cell)) := lift E_Ltx_Encode fun x => (Ltx_Encode x.1 x.2).map fun y => (.tup [.one (.slice .no (intsR .u8 y.1)), .one (.v (.int .i64 y.2))], [])
theorem G_Ltx_Encode_eq {a0 : Tapi_Tx} {a1 : Bool} {y : (List Int) × Int} (h : Ltx_Encode a0 a1 = some y) : G_Ltx_Encode [.agg ([.v (.int .u32 a0.1), .slice .no (List.map eapi_Input a0.2.1), .slice .no (List.map eapi_Output a0.2.2.1), .v (.int .u32 a0.2.2.2)]), .one (.v (.bool a1))] = some (.tup [.one (.slice .no (intsR .u8 y.1)), .one (.v (.int .i64 y.2))], []) := by
  have := lift_eq (g := fun x => (Ltx_Encode x.1 x.2).map fun y => (.tup [.one (.slice .no (intsR .u8 y.1)), .one (.v (.int .i64 y.2))], [])) E_Ltx_Encode_inj (a0, a1)
  unfold G_Ltx_Encode
  rw [show [.agg ([.v (.int .u32 a0.1), .slice .no (List.map eapi_Input a0.2.1), .slice .no (List.map eapi_Output a0.2.2.1), .v (.int .u32 a0.2.2.2)]), .one (.v (.bool a1))] = E_Ltx_Encode (a0, a1) from rfl, this]
  simp [h]
def E_Lsha_row (x : (List (List Int))) : List PV := [.one (.slice .no (List.map eS_I_u8 x))]
theorem E_Lsha_row_inj : ∀ a b, E_Lsha_row a = E_Lsha_row b → a = b := by
  rintro a0 b0 h
  simpa [E_Lsha_row, and_assoc] using h
noncomputable def G_Lsha_row : List PV → Option (PV × List (List Cell)) := lift E_Lsha_row fun x => (Lsha_row x).map fun y => (.one (.own 1 (intsR .u8 y)), [])
theorem G_Lsha_row_eq {a0 : (List (List Int))} {y : (List Int)} (h : Lsha_row a0 = some y) : G_Lsha_row [.one (.slice .no (List.map eS_I_u8 a0))] = some (.one (.own 1 (intsR .u8 y)), []) := by
  have := lift_eq (g := fun x => (Lsha_row x).map fun y => (.one (.own 1 (intsR .u8 y)), [])) E_Lsha_row_inj a0
  unfold G_Lsha_row
  rw [show [.one (.slice .no (List.map eS_I_u8 a0))] = E_Lsha_row a0 from rfl, this]
  simp [h]
def E_Lsha_Pad (x : Int) : List PV := [.one (.v (.int .u64 x))]
theorem E_Lsha_Pad_inj : ∀ a b, E_Lsha_Pad a = E_Lsha_Pad b → a = b := by
  rintro a0 b0 h
  simpa [E_Lsha_Pad, and_assoc] using h
noncomputable def G_Lsha_Pad : List PV → Option (PV × List (List Cell)) := lift E_Lsha_Pad fun x => (Lsha_Pad x).map fun y => (.one (.own 1 (intsR .u8 y)), [])
theorem G_Lsha_Pad_eq {a0 : Int} {y : (List Int)} (h : Lsha_Pad a0 = some y) : G_Lsha_Pad [.one (.v (.int .u64 a0))] = some (.one (.own 1 (intsR .u8 y)), []) := by
  have := lift_eq (g := fun x => (Lsha_Pad x).map fun y => (.one (.own 1 (intsR .u8 y)), [])) E_Lsha_Pad_inj a0
  unfold G_Lsha_Pad
  rw [show [.one (.v (.int .u64 a0))] = E_Lsha_Pad a0 from rfl, this]
  simp [h]
def E_Lmath_bits_RotateLeft32 (x : Int × Int) : List PV := [.one (.v (.int .u32 x.1)), .one (.v (.int .i64 x.2))]
theorem E_Lmath_bits_RotateLeft32_inj : ∀ a b, E_Lmath_bits_RotateLeft32 a = E_Lmath_bits_RotateLeft32 b → a = b := by
  rintro ⟨a0, a1⟩ ⟨b0, b1⟩ h
  simpa [E_Lmath_bits_RotateLeft32, and_assoc] using h
noncomputable def G_Lmath_bits_RotateLeft32 : List PV → Option (PV × List (List Cell)) := lift E_Lmath_bits_RotateLeft32 fun x => (Lmath_bits_RotateLeft32 x.1 x.2).map fun y => (.one (.v (.int .u32 y)), [])
theorem G_Lmath_bits_RotateLeft32_eq {a0 : Int} {a1 : Int} {y : Int} (h : Lmath_bits_RotateLeft32 a0 a1 = some y) : G_Lmath_bits_RotateLeft32 [.one (.v (.int .u32 a0)), .one (.v (.int .i64 a1))] = some (.one (.v (.int .u32 y)), []) := by
  have := lift_eq (g := fun x => (Lmath_bits_RotateLeft32 x.1 x.2).map fun y => (.one (.v (.int .u32 y)), [])) E_Lmath_bits_RotateLeft32_inj (a0, a1)
  unfold G_Lmath_bits_RotateLeft32
  rw [show [.one (.v (.int .u32 a0)), .one (.v (.int .i64 a1))] = E_Lmath_bits_RotateLeft32 (a0, a1) from rfl, this]
  simp [h]
def E_Lsha_rotr (x : Int × Int) : List PV := [.one (.v (.int .u32 x.1)), .one (.v (.int .i64 x.2))]
theorem E_Lsha_rotr_inj : ∀ a b, E_Lsha_rotr a = E_Lsha_rotr b → a = b := by
  rintro ⟨a0, a1⟩ ⟨b0, b1⟩ h
  simpa [E_Lsha_rotr, and_assoc] using h
noncomputable def G_Lsha_rotr : List PV → Option (PV × List (List Cell)) := lift E_Lsha_rotr fun x => (Lsha_rotr x.1 x.2).map fun y => (.one (.v (.int .u32 y)), [])
theorem G_Lsha_rotr_eq {a0 : Int} {a1 : Int} {y : Int} (h : Lsha_rotr a0 a1 = some y) : G_Lsha_rotr [.one (.v (.int .u32 a0)), .one (.v (.int .i64 a1))] = some (.one (.v (.int .u32 y)), []) := by
  have := lift_eq (g := fun x => (Lsha_rotr x.1 x.2).map fun y => (.one (.v (.int .u32 y)), [])) E_Lsha_rotr_inj (a0, a1)
  unfold G_Lsha_rotr
  rw [show [.one (.v (.int .u32 a0)), .one (.v (.int .i64 a1))] = E_Lsha_rotr (a0, a1) from rfl, this]
  simp [h]
def E_Lsha_schedule (x : (Arr 64)) : List PV := [.agg (arC .u8 x)]
theorem E_Lsha_schedule_inj : ∀ a b, E_Lsha_schedule a = E_Lsha_schedule b → a = b := by
  rintro a0 b0 h
  simpa [E_Lsha_schedule, and_assoc] using h
noncomputable def G_Lsha_schedule : List PV → Option (PV × List (List Cell)) := lift E_Lsha_schedule fun x => (Lsha_schedule x).map fun y => (.agg (arC .u32 y), [])
theorem G_Lsha_schedule_eq {a0 : (Arr 64)} {y : (Arr 64)} (h : Lsha_schedule a0 = some y) : G_Lsha_schedule [.agg (arC .u8 a0)] = some (.agg (arC .u32 y), []) := by
  have := lift_eq (g := fun x => (Lsha_schedule x).map fun y => (.agg (arC .u32 y), [])) E_Lsha_schedule_inj a0
  unfold G_Lsha_schedule
  rw [show [.agg (arC .u8 a0)] = E_Lsha_schedule a0 from rfl, this]
  simp [h]
def E_Lsha_Compress (x : (Arr 8) × (Arr 64)) : List PV := [.agg (arC .u32 x.1), .agg (arC .u8 x.2)]
theorem E_Lsha_Compress_inj : ∀ a b, E_Lsha_Compress a = E_Lsha_Compress b → a = b := by
  rintro ⟨a0, a1⟩ ⟨b0, b1⟩ h
  simpa [E_Lsha_Compress, and_assoc] using h
noncomputable def G_Lsha_Compress : List PV → Option (PV × List (List Cell)) := lift E_Lsha_Compress fun x => (Lsha_Compress x.1 x.2).map fun y => (.agg (arC .u32 y), [])
theorem G_Lsha_Compress_eq {a0 : (Arr 8)} {a1 : (Arr 64)} {y : (Arr 8)} (h : Lsha_Compress a0 a1 = some y) : G_Lsha_Compress [.agg (arC .u32 a0), .agg (arC .u8 a1)] = some (.agg (arC .u32 y), []) := by
  have := lift_eq (g := fun x => (Lsha_Compress x.1 x.2).map fun y => (.agg (arC .u32 y), [])) E_Lsha_Compress_inj (a0, a1)
  unfold G_Lsha_Compress
  rw [show [.agg (arC .u32 a0), .agg (arC .u8 a1)] = E_Lsha_Compress (a0, a1) from rfl, this]
  simp [h]
def E_Lsha_Sum (x : (List Int)) : List PV := [.one (.slice .no (intsR .u8 x))]
theorem E_Lsha_Sum_inj : ∀ a b, E_Lsha_Sum a = E_Lsha_Sum b → a = b := by
  rintro a0 b0 h
  simpa [E_Lsha_Sum, and_assoc] using h
noncomputable def G_Lsha_Sum : List PV → Option (PV × List (List Cell)) := lift E_Lsha_Sum fun x => (Lsha_Sum x).map fun y => (.agg (arC .u8 y), [])
theorem G_Lsha_Sum_eq {a0 : (List Int)} {y : (Arr 32)} (h : Lsha_Sum a0 = some y) : G_Lsha_Sum [.one (.slice .no (intsR .u8 a0))] = some (.agg (arC .u8 y), []) := by
  have := lift_eq (g := fun x => (Lsha_Sum x).map fun y => (.agg (arC .u8 y), [])) E_Lsha_Sum_inj a0
  unfold G_Lsha_Sum
  rw [show [.one (.slice .no (intsR .u8 a0))] = E_Lsha_Sum a0 from rfl, this]
  simp [h]
def E_Lsha_Double (x : (List Int)) : List PV := [.one (.slice .no (intsR .u8 x))]
theorem E_Lsha_Double_inj : ∀ a b, E_Lsha_Double a = E_Lsha_Double b → a = b := by
  rintro a0 b0 h
  simpa [E_Lsha_Double, and_assoc] using h
noncomputable def G_Lsha_Double : List PV → Option (PV × List (List Cell)) := lift E_Lsha_Double fun x => (Lsha_Double x).map fun y => (.agg (arC .u8 y), [])
theorem G_Lsha_Double_eq {a0 : (List Int)} {y : (Arr 32)} (h : Lsha_Double a0 = some y) : G_Lsha_Double [.one (.slice .no (intsR .u8 a0))] = some (.agg (arC .u8 y), []) := by
  have := lift_eq (g := fun x => (Lsha_Double x).map fun y => (.agg (arC .u8 y), [])) E_Lsha_Double_inj a0
  unfold G_Lsha_Double
  rw [show [.one (.slice .no (intsR .u8 a0))] = E_Lsha_Double a0 from rfl, this]
  simp [h]
def E_Ltx_digest (x : Tapi_Tx × Bool) : List PV := [.agg ([.v (.int .u32 x.1.1), .slice .no (List.map eapi_Input x.1.2.1), .slice .no (List.map eapi_Output x.1.2.2.1), .v (.int .u32 x.1.2.2.2)]), .one (.v (.bool x.2))]
theorem E_Ltx_digest_inj : ∀ a b, E_Ltx_digest a = E_Ltx_digest b → a = b := by
  rintro ⟨⟨a0_0, a0_1, a0_2, a0_3⟩, a1⟩ ⟨⟨b0_0, b0_1, b0_2, b0_3⟩, b1⟩ h
  simpa [E_Ltx_digest, and_assoc] using h
noncomputable def G_Ltx_digest : List PV → Option (PV × List (List Cell)) := lift E_Ltx_digest fun x => (Ltx_digest x.1 x.2).map fun y => (.agg (arC .u8 y), [])
theorem G_Ltx_digest_eq {a0 : Tapi_Tx} {a1 : Bool} {y : (Arr 32)} (h : Ltx_digest a0 a1 = some y) : G_Ltx_digest [.agg ([.v (.int .u32 a0.1), .slice .no (List.map eapi_Input a0.2.1), .slice .no (List.map eapi_Output a0.2.2.1), .v (.int .u32 a0.2.2.2)]), .one (.v (.bool a1))] = some (.agg (arC .u8 y), []) := by
  have := lift_eq (g := fun x => (Ltx_digest x.1 x.2).map fun y => (.agg (arC .u8 y), [])) E_Ltx_digest_inj (a0, a1)
  unfold G_Ltx_digest
  rw [show [.agg ([.v (.int .u32 a0.1), .slice .no (List.map eapi_Input a0.2.1), .slice .no (List.map eapi_Output a0.2.2.1), .v (.int .u32 a0.2.2.2)]), .one (.v (.bool a1))] = E_Ltx_digest (a0, a1) from rfl, this]
  simp [h]
def E_Ltx_ID (x : Tapi_Tx) : List PV := [.agg ([.v (.int .u32 x.1), .slice .no (List.map eapi_Input x.2.1), .slice .no (List.map eapi_Output x.2.2.1), .v (.int .u32 x.2.2.2)])]
theorem E_Ltx_ID_inj : ∀ a b, E_Ltx_ID a = E_Ltx_ID b → a = b := by
  rintro ⟨a0_0, a0_1, a0_2, a0_3⟩ ⟨b0_0, b0_1, b0_2, b0_3⟩ h
  simpa [E_Ltx_ID, and_assoc] using h
noncomputable def G_Ltx_ID : List PV → Option (PV × List (List Cell)) := lift E_Ltx_ID fun x => (Ltx_ID x).map fun y => (.agg (arC .u8 y), [])
theorem G_Ltx_ID_eq {a0 : Tapi_Tx} {y : (Arr 32)} (h : Ltx_ID a0 = some y) : G_Ltx_ID [.agg ([.v (.int .u32 a0.1), .slice .no (List.map eapi_Input a0.2.1), .slice .no (List.map eapi_Output a0.2.2.1), .v (.int .u32 a0.2.2.2)])] = some (.agg (arC .u8 y), []) := by
  have := lift_eq (g := fun x => (Ltx_ID x).map fun y => (.agg (arC .u8 y), [])) E_Ltx_ID_inj a0
  unfold G_Ltx_ID
  rw [show [.agg ([.v (.int .u32 a0.1), .slice .no (List.map eapi_Input a0.2.1), .slice .no (List.map eapi_Output a0.2.2.1), .v (.int .u32 a0.2.2.2)])] = E_Ltx_ID a0 from rfl, this]
  simp [h]
def E_Lreplace_money (x : Int) : List PV := [.one (.v (.int .i64 x))]
theorem E_Lreplace_money_inj : ∀ a b, E_Lreplace_money a = E_Lreplace_money b → a = b := by
  rintro a0 b0 h
  simpa [E_Lreplace_money, and_assoc] using h
noncomputable def G_Lreplace_money : List PV → Option (PV × List (List Cell)) := lift E_Lreplace_money fun x => (Lreplace_money x).map fun y => (.one (.v (.bool y)), [])
theorem G_Lreplace_money_eq {a0 : Int} {y : Bool} (h : Lreplace_money a0 = some y) : G_Lreplace_money [.one (.v (.int .i64 a0))] = some (.one (.v (.bool y)), []) := by
  have := lift_eq (g := fun x => (Lreplace_money x).map fun y => (.one (.v (.bool y)), [])) E_Lreplace_money_inj a0
  unfold G_Lreplace_money
  rw [show [.one (.v (.int .i64 a0))] = E_Lreplace_money a0 from rfl, this]
  simp [h]
def E_Lreplace_Accept_3 (x : Tapi_Entry) : List PV := [.agg ([.v (.int .u32 x.1.1), .slice .no (List.map eapi_Input x.1.2.1), .slice .no (List.map eapi_Output x.1.2.2.1), .v (.int .u32 x.1.2.2.2), .v (.int .i64 x.2)])]
theorem E_Lreplace_Accept_3_inj : ∀ a b, E_Lreplace_Accept_3 a = E_Lreplace_Accept_3 b → a = b := by
  rintro ⟨⟨a0_0_0, a0_0_1, a0_0_2, a0_0_3⟩, a0_1⟩ ⟨⟨b0_0_0, b0_0_1, b0_0_2, b0_0_3⟩, b0_1⟩ h
  simpa [E_Lreplace_Accept_3, and_assoc] using h
noncomputable def G_Lreplace_Accept_3 : List PV → Option (PV × List (List Cell)) := lift E_Lreplace_Accept_3 fun x => (Lreplace_Accept_3 x).map fun y => (.one (.v (.bool y)), [])
theorem G_Lreplace_Accept_3_eq {a0 : Tapi_Entry} {y : Bool} (h : Lreplace_Accept_3 a0 = some y) : G_Lreplace_Accept_3 [.agg ([.v (.int .u32 a0.1.1), .slice .no (List.map eapi_Input a0.1.2.1), .slice .no (List.map eapi_Output a0.1.2.2.1), .v (.int .u32 a0.1.2.2.2), .v (.int .i64 a0.2)])] = some (.one (.v (.bool y)), []) := by
  have := lift_eq (g := fun x => (Lreplace_Accept_3 x).map fun y => (.one (.v (.bool y)), [])) E_Lreplace_Accept_3_inj a0
  unfold G_Lreplace_Accept_3
  rw [show [.agg ([.v (.int .u32 a0.1.1), .slice .no (List.map eapi_Input a0.1.2.1), .slice .no (List.map eapi_Output a0.1.2.2.1), .v (.int .u32 a0.1.2.2.2), .v (.int .i64 a0.2)])] = E_Lreplace_Accept_3 a0 from rfl, this]
  simp [h]
def E_Lreplace_Accept_5 (x : Tapi_Entry) : List PV := [.agg ([.v (.int .u32 x.1.1), .slice .no (List.map eapi_Input x.1.2.1), .slice .no (List.map eapi_Output x.1.2.2.1), .v (.int .u32 x.1.2.2.2), .v (.int .i64 x.2)])]
theorem E_Lreplace_Accept_5_inj : ∀ a b, E_Lreplace_Accept_5 a = E_Lreplace_Accept_5 b → a = b := by
  rintro ⟨⟨a0_0_0, a0_0_1, a0_0_2, a0_0_3⟩, a0_1⟩ ⟨⟨b0_0_0, b0_0_1, b0_0_2, b0_0_3⟩, b0_1⟩ h
  simpa [E_Lreplace_Accept_5, and_assoc] using h
noncomputable def G_Lreplace_Accept_5 : List PV → Option (PV × List (List Cell)) := lift E_Lreplace_Accept_5 fun x => (Lreplace_Accept_5 x).map fun y => (.one (.v (.bool y)), [])
theorem G_Lreplace_Accept_5_eq {a0 : Tapi_Entry} {y : Bool} (h : Lreplace_Accept_5 a0 = some y) : G_Lreplace_Accept_5 [.agg ([.v (.int .u32 a0.1.1), .slice .no (List.map eapi_Input a0.1.2.1), .slice .no (List.map eapi_Output a0.1.2.2.1), .v (.int .u32 a0.1.2.2.2), .v (.int .i64 a0.2)])] = some (.one (.v (.bool y)), []) := by
  have := lift_eq (g := fun x => (Lreplace_Accept_5 x).map fun y => (.one (.v (.bool y)), [])) E_Lreplace_Accept_5_inj a0
  unfold G_Lreplace_Accept_5
  rw [show [.agg ([.v (.int .u32 a0.1.1), .slice .no (List.map eapi_Input a0.1.2.1), .slice .no (List.map eapi_Output a0.1.2.2.1), .v (.int .u32 a0.1.2.2.2), .v (.int .i64 a0.2)])] = E_Lreplace_Accept_5 a0 from rfl, this]
  simp [h]
def E_Ltx_Weight (x : Tapi_Tx) : List PV := [.agg ([.v (.int .u32 x.1), .slice .no (List.map eapi_Input x.2.1), .slice .no (List.map eapi_Output x.2.2.1), .v (.int .u32 x.2.2.2)])]
theorem E_Ltx_Weight_inj : ∀ a b, E_Ltx_Weight a = E_Ltx_Weight b → a = b := by
  rintro ⟨a0_0, a0_1, a0_2, a0_3⟩ ⟨b0_0, b0_1, b0_2, b0_3⟩ h
  simpa [E_Ltx_Weight, and_assoc] using h
noncomputable def G_Ltx_Weight : List PV → Option (PV × List (List Cell)) := lift E_Ltx_Weight fun x => (Ltx_Weight x).map fun y => (.one (.v (.int .i64 y)), [])
theorem G_Ltx_Weight_eq {a0 : Tapi_Tx} {y : Int} (h : Ltx_Weight a0 = some y) : G_Ltx_Weight [.agg ([.v (.int .u32 a0.1), .slice .no (List.map eapi_Input a0.2.1), .slice .no (List.map eapi_Output a0.2.2.1), .v (.int .u32 a0.2.2.2)])] = some (.one (.v (.int .i64 y)), []) := by
  have := lift_eq (g := fun x => (Ltx_Weight x).map fun y => (.one (.v (.int .i64 y)), [])) E_Ltx_Weight_inj a0
  unfold G_Ltx_Weight
  rw [show [.agg ([.v (.int .u32 a0.1), .slice .no (List.map eapi_Input a0.2.1), .slice .no (List.map eapi_Output a0.2.2.1), .v (.int .u32 a0.2.2.2)])] = E_Ltx_Weight a0 from rfl, this]
  simp [h]
def E_Lbuild_Fee (x : Int × Int) : List PV := [.one (.v (.int .i64 x.1)), .one (.v (.int .i64 x.2))]
theorem E_Lbuild_Fee_inj : ∀ a b, E_Lbuild_Fee a = E_Lbuild_Fee b → a = b := by
  rintro ⟨a0, a1⟩ ⟨b0, b1⟩ h
  simpa [E_Lbuild_Fee, and_assoc] using h
noncomputable def G_Lbuild_Fee : List PV → Option (PV × List (List Cell)) := lift E_Lbuild_Fee fun x => (Lbuild_Fee x.1 x.2).map fun y => (.one (.v (.int .i64 y)), [])
theorem G_Lbuild_Fee_eq {a0 : Int} {a1 : Int} {y : Int} (h : Lbuild_Fee a0 a1 = some y) : G_Lbuild_Fee [.one (.v (.int .i64 a0)), .one (.v (.int .i64 a1))] = some (.one (.v (.int .i64 y)), []) := by
  have := lift_eq (g := fun x => (Lbuild_Fee x.1 x.2).map fun y => (.one (.v (.int .i64 y)), [])) E_Lbuild_Fee_inj (a0, a1)
  unfold G_Lbuild_Fee
  rw [show [.one (.v (.int .i64 a0)), .one (.v (.int .i64 a1))] = E_Lbuild_Fee (a0, a1) from rfl, this]
  simp [h]
def E_Lfees_Rate (x : Int × Int) : List PV := [.one (.v (.int .i64 x.1)), .one (.v (.int .i64 x.2))]
theorem E_Lfees_Rate_inj : ∀ a b, E_Lfees_Rate a = E_Lfees_Rate b → a = b := by
  rintro ⟨a0, a1⟩ ⟨b0, b1⟩ h
  simpa [E_Lfees_Rate, and_assoc] using h
noncomputable def G_Lfees_Rate : List PV → Option (PV × List (List Cell)) := lift E_Lfees_Rate fun x => (Lfees_Rate x.1 x.2).map fun y => (.one (.v (.int .i64 y)), [])
theorem G_Lfees_Rate_eq {a0 : Int} {a1 : Int} {y : Int} (h : Lfees_Rate a0 a1 = some y) : G_Lfees_Rate [.one (.v (.int .i64 a0)), .one (.v (.int .i64 a1))] = some (.one (.v (.int .i64 y)), []) := by
  have := lift_eq (g := fun x => (Lfees_Rate x.1 x.2).map fun y => (.one (.v (.int .i64 y)), [])) E_Lfees_Rate_inj (a0, a1)
  unfold G_Lfees_Rate
  rw [show [.one (.v (.int .i64 a0)), .one (.v (.int .i64 a1))] = E_Lfees_Rate (a0, a1) from rfl, this]
  simp [h]
def E_Lreplace_rateOf (x : Tapi_Entry) : List PV := [.agg ([.v (.int .u32 x.1.1), .slice .no (List.map eapi_Input x.1.2.1), .slice .no (List.map eapi_Output x.1.2.2.1), .v (.int .u32 x.1.2.2.2), .v (.int .i64 x.2)])]
theorem E_Lreplace_rateOf_inj : ∀ a b, E_Lreplace_rateOf a = E_Lreplace_rateOf b → a = b := by
  rintro ⟨⟨a0_0_0, a0_0_1, a0_0_2, a0_0_3⟩, a0_1⟩ ⟨⟨b0_0_0, b0_0_1, b0_0_2, b0_0_3⟩, b0_1⟩ h
  simpa [E_Lreplace_rateOf, and_assoc] using h
noncomputable def G_Lreplace_rateOf : List PV → Option (PV × List (List Cell)) := lift E_Lreplace_rateOf fun x => (Lreplace_rateOf x).map fun y => (.one (.v (.int .i64 y)), [])
theorem G_Lreplace_rateOf_eq {a0 : Tapi_Entry} {y : Int} (h : Lreplace_rateOf a0 = some y) : G_Lreplace_rateOf [.agg ([.v (.int .u32 a0.1.1), .slice .no (List.map eapi_Input a0.1.2.1), .slice .no (List.map eapi_Output a0.1.2.2.1), .v (.int .u32 a0.1.2.2.2), .v (.int .i64 a0.2)])] = some (.one (.v (.int .i64 y)), []) := by
  have := lift_eq (g := fun x => (Lreplace_rateOf x).map fun y => (.one (.v (.int .i64 y)), [])) E_Lreplace_rateOf_inj a0
  unfold G_Lreplace_rateOf
  rw [show [.agg ([.v (.int .u32 a0.1.1), .slice .no (List.map eapi_Input a0.1.2.1), .slice .no (List.map eapi_Output a0.1.2.2.1), .v (.int .u32 a0.1.2.2.2), .v (.int .i64 a0.2)])] = E_Lreplace_rateOf a0 from rfl, this]
  simp [h]
def E_Lreplace_enough_1__r (x : Tapi_Entry × Int) : List PV := [.agg ([.v (.int .u32 x.1.1.1), .slice .no (List.map eapi_Input x.1.1.2.1), .slice .no (List.map eapi_Output x.1.1.2.2.1), .v (.int .u32 x.1.1.2.2.2), .v (.int .i64 x.1.2)]), .ref ([.v (.int .i64 x.2)])]
theorem E_Lreplace_enough_1__r_inj : ∀ a b, E_Lreplace_enough_1__r a = E_Lreplace_enough_1__r b → a = b := by
  rintro ⟨⟨⟨a0_0_0, a0_0_1, a0_0_2, a0_0_3⟩, a0_1⟩, a1⟩ ⟨⟨⟨b0_0_0, b0_0_1, b0_0_2, b0_0_3⟩, b0_1⟩, b1⟩ h
  simpa [E_Lreplace_enough_1__r, and_assoc] using h
noncomputable def G_Lreplace_enough_1__r : List PV → Option (PV × List (List Cell)) := lift E_Lreplace_enough_1__r fun x => (Lreplace_enough_1__r x.1 x.2).map fun y => (.one (.v (.bool y)), [])
theorem G_Lreplace_enough_1__r_eq {a0 : Tapi_Entry} {a1 : Int} {y : Bool} (h : Lreplace_enough_1__r a0 a1 = some y) : G_Lreplace_enough_1__r [.agg ([.v (.int .u32 a0.1.1), .slice .no (List.map eapi_Input a0.1.2.1), .slice .no (List.map eapi_Output a0.1.2.2.1), .v (.int .u32 a0.1.2.2.2), .v (.int .i64 a0.2)]), .ref ([.v (.int .i64 a1)])] = some (.one (.v (.bool y)), []) := by
  have := lift_eq (g := fun x => (Lreplace_enough_1__r x.1 x.2).map fun y => (.one (.v (.bool y)), [])) E_Lreplace_enough_1__r_inj (a0, a1)
  unfold G_Lreplace_enough_1__r
  rw [show [.agg ([.v (.int .u32 a0.1.1), .slice .no (List.map eapi_Input a0.1.2.1), .slice .no (List.map eapi_Output a0.1.2.2.1), .v (.int .u32 a0.1.2.2.2), .v (.int .i64 a0.2)]), .ref ([.v (.int .i64 a1)])] = E_Lreplace_enough_1__r (a0, a1) from rfl, this]
  simp [h]
def E_Lslices_IndexFunc_of__api_Entry_api_Entry__replace_enough_1 (x : (List Tapi_Entry) × Int) : List PV := [.one (.slice .no (List.map eapi_Entry x.1)), .clo 81 [.ref ([.v (.int .i64 x.2)])]]
theorem E_Lslices_IndexFunc_of__api_Entry_api_Entry__replace_enough_1_inj : ∀ a b, E_Lslices_IndexFunc_of__api_Entry_api_Entry__replace_enough_1 a = E_Lslices_IndexFunc_of__api_Entry_api_Entry__replace_enough_1 b → a = b := by
  rintro ⟨a0, a1⟩ ⟨b0, b1⟩ h
  simpa [E_Lslices_IndexFunc_of__api_Entry_api_Entry__replace_enough_1, and_assoc] using h
noncomputable def G_Lslices_IndexFunc_of__api_Entry_api_Entry__replace_enough_1 : List PV → Option (PV × List (List Cell)) := lift E_Lslices_IndexFunc_of__api_Entry_api_Entry__replace_enough_1 fun x => (Lslices_IndexFunc_of__api_Entry_api_Entry__replace_enough_1 x.1 x.2).map fun y => (.one (.v (.int .i64 y)), [])
theorem G_Lslices_IndexFunc_of__api_Entry_api_Entry__replace_enough_1_eq {a0 : (List Tapi_Entry)} {a1 : Int} {y : Int} (h : Lslices_IndexFunc_of__api_Entry_api_Entry__replace_enough_1 a0 a1 = some y) : G_Lslices_IndexFunc_of__api_Entry_api_Entry__replace_enough_1 [.one (.slice .no (List.map eapi_Entry a0)), .clo 81 [.ref ([.v (.int .i64 a1)])]] = some (.one (.v (.int .i64 y)), []) := by
  have := lift_eq (g := fun x => (Lslices_IndexFunc_of__api_Entry_api_Entry__replace_enough_1 x.1 x.2).map fun y => (.one (.v (.int .i64 y)), [])) E_Lslices_IndexFunc_of__api_Entry_api_Entry__replace_enough_1_inj (a0, a1)
  unfold G_Lslices_IndexFunc_of__api_Entry_api_Entry__replace_enough_1
  rw [show [.one (.slice .no (List.map eapi_Entry a0)), .clo 81 [.ref ([.v (.int .i64 a1)])]] = E_Lslices_IndexFunc_of__api_Entry_api_Entry__replace_enough_1 (a0, a1) from rfl, this]
  simp [h]
def E_Lslices_ContainsFunc_of__api_Entry_api_Entry__replace_enough_1 (x : (List Tapi_Entry) × Int) : List PV := [.one (.slice .no (List.map eapi_Entry x.1)), .clo 81 [.ref ([.v (.int .i64 x.2)])]]
theorem E_Lslices_ContainsFunc_of__api_Entry_api_Entry__replace_enough_1_inj : ∀ a b, E_Lslices_ContainsFunc_of__api_Entry_api_Entry__replace_enough_1 a = E_Lslices_ContainsFunc_of__api_Entry_api_Entry__replace_enough_1 b → a = b := by
  rintro ⟨a0, a1⟩ ⟨b0, b1⟩ h
  simpa [E_Lslices_ContainsFunc_of__api_Entry_api_Entry__replace_enough_1, and_assoc] using h
noncomputable def G_Lslices_ContainsFunc_of__api_Entry_api_Entry__replace_enough_1 : List PV → Option (PV × List (List Cell)) := lift E_Lslices_ContainsFunc_of__api_Entry_api_Entry__replace_enough_1 fun x => (Lslices_ContainsFunc_of__api_Entry_api_Entry__replace_enough_1 x.1 x.2).map fun y => (.one (.v (.bool y)), [])
theorem G_Lslices_ContainsFunc_of__api_Entry_api_Entry__replace_enough_1_eq {a0 : (List Tapi_Entry)} {a1 : Int} {y : Bool} (h : Lslices_ContainsFunc_of__api_Entry_api_Entry__replace_enough_1 a0 a1 = some y) : G_Lslices_ContainsFunc_of__api_Entry_api_Entry__replace_enough_1 [.one (.slice .no (List.map eapi_Entry a0)), .clo 81 [.ref ([.v (.int .i64 a1)])]] = some (.one (.v (.bool y)), []) := by
  have := lift_eq (g := fun x => (Lslices_ContainsFunc_of__api_Entry_api_Entry__replace_enough_1 x.1 x.2).map fun y => (.one (.v (.bool y)), [])) E_Lslices_ContainsFunc_of__api_Entry_api_Entry__replace_enough_1_inj (a0, a1)
  unfold G_Lslices_ContainsFunc_of__api_Entry_api_Entry__replace_enough_1
  rw [show [.one (.slice .no (List.map eapi_Entry a0)), .clo 81 [.ref ([.v (.int .i64 a1)])]] = E_Lslices_ContainsFunc_of__api_Entry_api_Entry__replace_enough_1 (a0, a1) from rfl, this]
  simp [h]
def E_Lreplace_enough (x : (List Tapi_Entry) × Tapi_Tx × Int) : List PV := [.one (.slice .no (List.map eapi_Entry x.1)), .agg ([.v (.int .u32 x.2.1.1), .slice .no (List.map eapi_Input x.2.1.2.1), .slice .no (List.map eapi_Output x.2.1.2.2.1), .v (.int .u32 x.2.1.2.2.2)]), .one (.v (.int .i64 x.2.2))]
theorem E_Lreplace_enough_inj : ∀ a b, E_Lreplace_enough a = E_Lreplace_enough b → a = b := by
  rintro ⟨a0, ⟨a1_0, a1_1, a1_2, a1_3⟩, a2⟩ ⟨b0, ⟨b1_0, b1_1, b1_2, b1_3⟩, b2⟩ h
  simpa [E_Lreplace_enough, and_assoc] using h
noncomputable def G_Lreplace_enough : List PV → Option (PV × List (List Cell)) := lift E_Lreplace_enough fun x => (Lreplace_enough x.1 x.2.1 x.2.2).map fun y => (.one (.v (.bool y)), [])
theorem G_Lreplace_enough_eq {a0 : (List Tapi_Entry)} {a1 : Tapi_Tx} {a2 : Int} {y : Bool} (h : Lreplace_enough a0 a1 a2 = some y) : G_Lreplace_enough [.one (.slice .no (List.map eapi_Entry a0)), .agg ([.v (.int .u32 a1.1), .slice .no (List.map eapi_Input a1.2.1), .slice .no (List.map eapi_Output a1.2.2.1), .v (.int .u32 a1.2.2.2)]), .one (.v (.int .i64 a2))] = some (.one (.v (.bool y)), []) := by
  have := lift_eq (g := fun x => (Lreplace_enough x.1 x.2.1 x.2.2).map fun y => (.one (.v (.bool y)), [])) E_Lreplace_enough_inj (a0, a1, a2)
  unfold G_Lreplace_enough
  rw [show [.one (.slice .no (List.map eapi_Entry a0)), .agg ([.v (.int .u32 a1.1), .slice .no (List.map eapi_Input a1.2.1), .slice .no (List.map eapi_Output a1.2.2.1), .v (.int .u32 a1.2.2.2)]), .one (.v (.int .i64 a2))] = E_Lreplace_enough (a0, a1, a2) from rfl, this]
  simp [h]
def E_Lslices_IndexFunc_of__api_Entry_api_Entry__replace_Accept_3 (x : (List Tapi_Entry)) : List PV := [.one (.slice .no (List.map eapi_Entry x)), .fn 47]
theorem E_Lslices_IndexFunc_of__api_Entry_api_Entry__replace_Accept_3_inj : ∀ a b, E_Lslices_IndexFunc_of__api_Entry_api_Entry__replace_Accept_3 a = E_Lslices_IndexFunc_of__api_Entry_api_Entry__replace_Accept_3 b → a = b := by
  rintro a0 b0 h
  simpa [E_Lslices_IndexFunc_of__api_Entry_api_Entry__replace_Accept_3, and_assoc] using h
noncomputable def G_Lslices_IndexFunc_of__api_Entry_api_Entry__replace_Accept_3 : List PV → Option (PV × List (List Cell)) := lift E_Lslices_IndexFunc_of__api_Entry_api_Entry__replace_Accept_3 fun x => (Lslices_IndexFunc_of__api_Entry_api_Entry__replace_Accept_3 x).map fun y => (.one (.v (.int .i64 y)), [])
theorem G_Lslices_IndexFunc_of__api_Entry_api_Entry__replace_Accept_3_eq {a0 : (List Tapi_Entry)} {y : Int} (h : Lslices_IndexFunc_of__api_Entry_api_Entry__replace_Accept_3 a0 = some y) : G_Lslices_IndexFunc_of__api_Entry_api_Entry__replace_Accept_3 [.one (.slice .no (List.map eapi_Entry a0)), .fn 47] = some (.one (.v (.int .i64 y)), []) := by
  have := lift_eq (g := fun x => (Lslices_IndexFunc_of__api_Entry_api_Entry__replace_Accept_3 x).map fun y => (.one (.v (.int .i64 y)), [])) E_Lslices_IndexFunc_of__api_Entry_api_Entry__replace_Accept_3_inj a0
  unfold G_Lslices_IndexFunc_of__api_Entry_api_Entry__replace_Accept_3
  rw [show [.one (.slice .no (List.map eapi_Entry a0)), .fn 47] = E_Lslices_IndexFunc_of__api_Entry_api_Entry__replace_Accept_3 a0 from rfl, this]
  simp [h]
def E_Lslices_ContainsFunc_of__api_Entry_api_Entry__replace_Accept_3 (x : (List Tapi_Entry)) : List PV := [.one (.slice .no (List.map eapi_Entry x)), .fn 47]
theorem E_Lslices_ContainsFunc_of__api_Entry_api_Entry__replace_Accept_3_inj : ∀ a b, E_Lslices_ContainsFunc_of__api_Entry_api_Entry__replace_Accept_3 a = E_Lslices_ContainsFunc_of__api_Entry_api_Entry__replace_Accept_3 b → a = b := by
  rintro a0 b0 h
  simpa [E_Lslices_ContainsFunc_of__api_Entry_api_Entry__replace_Accept_3, and_assoc] using h
noncomputable def G_Lslices_ContainsFunc_of__api_Entry_api_Entry__replace_Accept_3 : List PV → Option (PV × List (List Cell)) := lift E_Lslices_ContainsFunc_of__api_Entry_api_Entry__replace_Accept_3 fun x => (Lslices_ContainsFunc_of__api_Entry_api_Entry__replace_Accept_3 x).map fun y => (.one (.v (.bool y)), [])
theorem G_Lslices_ContainsFunc_of__api_Entry_api_Entry__replace_Accept_3_eq {a0 : (List Tapi_Entry)} {y : Bool} (h : Lslices_ContainsFunc_of__api_Entry_api_Entry__replace_Accept_3 a0 = some y) : G_Lslices_ContainsFunc_of__api_Entry_api_Entry__replace_Accept_3 [.one (.slice .no (List.map eapi_Entry a0)), .fn 47] = some (.one (.v (.bool y)), []) := by
  have := lift_eq (g := fun x => (Lslices_ContainsFunc_of__api_Entry_api_Entry__replace_Accept_3 x).map fun y => (.one (.v (.bool y)), [])) E_Lslices_ContainsFunc_of__api_Entry_api_Entry__replace_Accept_3_inj a0
  unfold G_Lslices_ContainsFunc_of__api_Entry_api_Entry__replace_Accept_3
  rw [show [.one (.slice .no (List.map eapi_Entry a0)), .fn 47] = E_Lslices_ContainsFunc_of__api_Entry_api_Entry__replace_Accept_3 a0 from rfl, this]
  simp [h]
def E_Lreplace_Accept_1__replace_Accept_3_p (x : (List Tapi_Entry)) : List PV := [.fn 47, .io ([.slice .no (List.map eapi_Entry x)])]
theorem E_Lreplace_Accept_1__replace_Accept_3_p_inj : ∀ a b, E_Lreplace_Accept_1__replace_Accept_3_p a = E_Lreplace_Accept_1__replace_Accept_3_p b → a = b := by
  rintro a0 b0 h
  simpa [E_Lreplace_Accept_1__replace_Accept_3_p, and_assoc] using h
noncomputable def G_Lreplace_Accept_1__replace_Accept_3_p : List PV → Option (PV × List (List Cell)) := lift E_Lreplace_Accept_1__replace_Accept_3_p fun x => (Lreplace_Accept_1__replace_Accept_3_p x).map fun y => (.one (.v (.bool y)), [[.slice .no (List.map eapi_Entry x)]])
theorem G_Lreplace_Accept_1__replace_Accept_3_p_eq {a0 : (List Tapi_Entry)} {y : Bool} (h : Lreplace_Accept_1__replace_Accept_3_p a0 = some y) : G_Lreplace_Accept_1__replace_Accept_3_p [.fn 47, .io ([.slice .no (List.map eapi_Entry a0)])] = some (.one (.v (.bool y)), [[.slice .no (List.map eapi_Entry a0)]]) := by
  have := lift_eq (g := fun x => (Lreplace_Accept_1__replace_Accept_3_p x).map fun y => (.one (.v (.bool y)), [[.slice .no (List.map eapi_Entry x)]])) E_Lreplace_Accept_1__replace_Accept_3_p_inj a0
  unfold G_Lreplace_Accept_1__replace_Accept_3_p
  rw [show [.fn 47, .io ([.slice .no (List.map eapi_Entry a0)])] = E_Lreplace_Accept_1__replace_Accept_3_p a0 from rfl, this]
  simp [h]
def E_Lreplace_Accept_4__r (x : Tapi_Entry × Tapi_Tx) : List PV := [.agg ([.v (.int .u32 x.1.1.1), .slice .no (List.map eapi_Input x.1.1.2.1), .slice .no (List.map eapi_Output x.1.1.2.2.1), .v (.int .u32 x.1.1.2.2.2), .v (.int .i64 x.1.2)]), .ref ([.v (.int .u32 x.2.1), .slice .no (List.map eapi_Input x.2.2.1), .slice .no (List.map eapi_Output x.2.2.2.1), .v (.int .u32 x.2.2.2.2)])]
theorem E_Lreplace_Accept_4__r_inj : ∀ a b, E_Lreplace_Accept_4__r a = E_Lreplace_Accept_4__r b → a = b := by
  rintro ⟨⟨⟨a0_0_0, a0_0_1, a0_0_2, a0_0_3⟩, a0_1⟩, ⟨a1_0, a1_1, a1_2, a1_3⟩⟩ ⟨⟨⟨b0_0_0, b0_0_1, b0_0_2, b0_0_3⟩, b0_1⟩, ⟨b1_0, b1_1, b1_2, b1_3⟩⟩ h
  simpa [E_Lreplace_Accept_4__r, and_assoc] using h
noncomputable def G_Lreplace_Accept_4__r : List PV → Option (PV × List (List Cell)) := lift E_Lreplace_Accept_4__r fun x => (Lreplace_Accept_4__r x.1 x.2).map fun y => (.one (.v (.bool y)), [])
theorem G_Lreplace_Accept_4__r_eq {a0 : Tapi_Entry} {a1 : Tapi_Tx} {y : Bool} (h : Lreplace_Accept_4__r a0 a1 = some y) : G_Lreplace_Accept_4__r [.agg ([.v (.int .u32 a0.1.1), .slice .no (List.map eapi_Input a0.1.2.1), .slice .no (List.map eapi_Output a0.1.2.2.1), .v (.int .u32 a0.1.2.2.2), .v (.int .i64 a0.2)]), .ref ([.v (.int .u32 a1.1), .slice .no (List.map eapi_Input a1.2.1), .slice .no (List.map eapi_Output a1.2.2.1), .v (.int .u32 a1.2.2.2)])] = some (.one (.v (.bool y)), []) := by
  have := lift_eq (g := fun x => (Lreplace_Accept_4__r x.1 x.2).map fun y => (.one (.v (.bool y)), [])) E_Lreplace_Accept_4__r_inj (a0, a1)
  unfold G_Lreplace_Accept_4__r
  rw [show [.agg ([.v (.int .u32 a0.1.1), .slice .no (List.map eapi_Input a0.1.2.1), .slice .no (List.map eapi_Output a0.1.2.2.1), .v (.int .u32 a0.1.2.2.2), .v (.int .i64 a0.2)]), .ref ([.v (.int .u32 a1.1), .slice .no (List.map eapi_Input a1.2.1), .slice .no (List.map eapi_Output a1.2.2.1), .v (.int .u32 a1.2.2.2)])] = E_Lreplace_Accept_4__r (a0, a1) from rfl, this]
  simp [h]
def E_Lslices_IndexFunc_of__api_Entry_api_Entry__replace_Accept_4 (x : (List Tapi_Entry) × Tapi_Tx) : List PV := [.one (.slice .no (List.map eapi_Entry x.1)), .clo 48 [.ref ([.v (.int .u32 x.2.1), .slice .no (List.map eapi_Input x.2.2.1), .slice .no (List.map eapi_Output x.2.2.2.1), .v (.int .u32 x.2.2.2.2)])]]
theorem E_Lslices_IndexFunc_of__api_Entry_api_Entry__replace_Accept_4_inj : ∀ a b, E_Lslices_IndexFunc_of__api_Entry_api_Entry__replace_Accept_4 a = E_Lslices_IndexFunc_of__api_Entry_api_Entry__replace_Accept_4 b → a = b := by
  rintro ⟨a0, ⟨a1_0, a1_1, a1_2, a1_3⟩⟩ ⟨b0, ⟨b1_0, b1_1, b1_2, b1_3⟩⟩ h
  simpa [E_Lslices_IndexFunc_of__api_Entry_api_Entry__replace_Accept_4, and_assoc] using h
noncomputable def G_Lslices_IndexFunc_of__api_Entry_api_Entry__replace_Accept_4 : List PV → Option (PV × List (List Cell)) := lift E_Lslices_IndexFunc_of__api_Entry_api_Entry__replace_Accept_4 fun x => (Lslices_IndexFunc_of__api_Entry_api_Entry__replace_Accept_4 x.1 x.2).map fun y => (.one (.v (.int .i64 y)), [])
theorem G_Lslices_IndexFunc_of__api_Entry_api_Entry__replace_Accept_4_eq {a0 : (List Tapi_Entry)} {a1 : Tapi_Tx} {y : Int} (h : Lslices_IndexFunc_of__api_Entry_api_Entry__replace_Accept_4 a0 a1 = some y) : G_Lslices_IndexFunc_of__api_Entry_api_Entry__replace_Accept_4 [.one (.slice .no (List.map eapi_Entry a0)), .clo 48 [.ref ([.v (.int .u32 a1.1), .slice .no (List.map eapi_Input a1.2.1), .slice .no (List.map eapi_Output a1.2.2.1), .v (.int .u32 a1.2.2.2)])]] = some (.one (.v (.int .i64 y)), []) := by
  have := lift_eq (g := fun x => (Lslices_IndexFunc_of__api_Entry_api_Entry__replace_Accept_4 x.1 x.2).map fun y => (.one (.v (.int .i64 y)), [])) E_Lslices_IndexFunc_of__api_Entry_api_Entry__replace_Accept_4_inj (a0, a1)
  unfold G_Lslices_IndexFunc_of__api_Entry_api_Entry__replace_Accept_4
  rw [show [.one (.slice .no (List.map eapi_Entry a0)), .clo 48 [.ref ([.v (.int .u32 a1.1), .slice .no (List.map eapi_Input a1.2.1), .slice .no (List.map eapi_Output a1.2.2.1), .v (.int .u32 a1.2.2.2)])]] = E_Lslices_IndexFunc_of__api_Entry_api_Entry__replace_Accept_4 (a0, a1) from rfl, this]
  simp [h]
def E_Lslices_ContainsFunc_of__api_Entry_api_Entry__replace_Accept_4 (x : (List Tapi_Entry) × Tapi_Tx) : List PV := [.one (.slice .no (List.map eapi_Entry x.1)), .clo 48 [.ref ([.v (.int .u32 x.2.1), .slice .no (List.map eapi_Input x.2.2.1), .slice .no (List.map eapi_Output x.2.2.2.1), .v (.int .u32 x.2.2.2.2)])]]
theorem E_Lslices_ContainsFunc_of__api_Entry_api_Entry__replace_Accept_4_inj : ∀ a b, E_Lslices_ContainsFunc_of__api_Entry_api_Entry__replace_Accept_4 a = E_Lslices_ContainsFunc_of__api_Entry_api_Entry__replace_Accept_4 b → a = b := by
  rintro ⟨a0, ⟨a1_0, a1_1, a1_2, a1_3⟩⟩ ⟨b0, ⟨b1_0, b1_1, b1_2, b1_3⟩⟩ h
  simpa [E_Lslices_ContainsFunc_of__api_Entry_api_Entry__replace_Accept_4, and_assoc] using h
noncomputable def G_Lslices_ContainsFunc_of__api_Entry_api_Entry__replace_Accept_4 : List PV → Option (PV × List (List Cell)) := lift E_Lslices_ContainsFunc_of__api_Entry_api_Entry__replace_Accept_4 fun x => (Lslices_ContainsFunc_of__api_Entry_api_Entry__replace_Accept_4 x.1 x.2).map fun y => (.one (.v (.bool y)), [])
theorem G_Lslices_ContainsFunc_of__api_Entry_api_Entry__replace_Accept_4_eq {a0 : (List Tapi_Entry)} {a1 : Tapi_Tx} {y : Bool} (h : Lslices_ContainsFunc_of__api_Entry_api_Entry__replace_Accept_4 a0 a1 = some y) : G_Lslices_ContainsFunc_of__api_Entry_api_Entry__replace_Accept_4 [.one (.slice .no (List.map eapi_Entry a0)), .clo 48 [.ref ([.v (.int .u32 a1.1), .slice .no (List.map eapi_Input a1.2.1), .slice .no (List.map eapi_Output a1.2.2.1), .v (.int .u32 a1.2.2.2)])]] = some (.one (.v (.bool y)), []) := by
  have := lift_eq (g := fun x => (Lslices_ContainsFunc_of__api_Entry_api_Entry__replace_Accept_4 x.1 x.2).map fun y => (.one (.v (.bool y)), [])) E_Lslices_ContainsFunc_of__api_Entry_api_Entry__replace_Accept_4_inj (a0, a1)
  unfold G_Lslices_ContainsFunc_of__api_Entry_api_Entry__replace_Accept_4
  rw [show [.one (.slice .no (List.map eapi_Entry a0)), .clo 48 [.ref ([.v (.int .u32 a1.1), .slice .no (List.map eapi_Input a1.2.1), .slice .no (List.map eapi_Output a1.2.2.1), .v (.int .u32 a1.2.2.2)])]] = E_Lslices_ContainsFunc_of__api_Entry_api_Entry__replace_Accept_4 (a0, a1) from rfl, this]
  simp [h]
def E_Lreplace_Accept_1__replace_Accept_4_p (x : Tapi_Tx × (List Tapi_Entry)) : List PV := [.clo 48 [.ref ([.v (.int .u32 x.1.1), .slice .no (List.map eapi_Input x.1.2.1), .slice .no (List.map eapi_Output x.1.2.2.1), .v (.int .u32 x.1.2.2.2)])], .io ([.slice .no (List.map eapi_Entry x.2)])]
theorem E_Lreplace_Accept_1__replace_Accept_4_p_inj : ∀ a b, E_Lreplace_Accept_1__replace_Accept_4_p a = E_Lreplace_Accept_1__replace_Accept_4_p b → a = b := by
  rintro ⟨⟨a0_0, a0_1, a0_2, a0_3⟩, a1⟩ ⟨⟨b0_0, b0_1, b0_2, b0_3⟩, b1⟩ h
  simpa [E_Lreplace_Accept_1__replace_Accept_4_p, and_assoc] using h
noncomputable def G_Lreplace_Accept_1__replace_Accept_4_p : List PV → Option (PV × List (List Cell)) := lift E_Lreplace_Accept_1__replace_Accept_4_p fun x => (Lreplace_Accept_1__replace_Accept_4_p x.1 x.2).map fun y => (.one (.v (.bool y)), [[.slice .no (List.map eapi_Entry x.2)]])
theorem G_Lreplace_Accept_1__replace_Accept_4_p_eq {a0 : Tapi_Tx} {a1 : (List Tapi_Entry)} {y : Bool} (h : Lreplace_Accept_1__replace_Accept_4_p a0 a1 = some y) : G_Lreplace_Accept_1__replace_Accept_4_p [.clo 48 [.ref ([.v (.int .u32 a0.1), .slice .no (List.map eapi_Input a0.2.1), .slice .no (List.map eapi_Output a0.2.2.1), .v (.int .u32 a0.2.2.2)])], .io ([.slice .no (List.map eapi_Entry a1)])] = some (.one (.v (.bool y)), [[.slice .no (List.map eapi_Entry a1)]]) := by
  have := lift_eq (g := fun x => (Lreplace_Accept_1__replace_Accept_4_p x.1 x.2).map fun y => (.one (.v (.bool y)), [[.slice .no (List.map eapi_Entry x.2)]])) E_Lreplace_Accept_1__replace_Accept_4_p_inj (a0, a1)
  unfold G_Lreplace_Accept_1__replace_Accept_4_p
  rw [show [.clo 48 [.ref ([.v (.int .u32 a0.1), .slice .no (List.map eapi_Input a0.2.1), .slice .no (List.map eapi_Output a0.2.2.1), .v (.int .u32 a0.2.2.2)])], .io ([.slice .no (List.map eapi_Entry a1)])] = E_Lreplace_Accept_1__replace_Accept_4_p (a0, a1) from rfl, this]
  simp [h]
def E_Lslices_IndexFunc_of__api_Entry_api_Entry__replace_Accept_5 (x : (List Tapi_Entry)) : List PV := [.one (.slice .no (List.map eapi_Entry x)), .fn 49]
theorem E_Lslices_IndexFunc_of__api_Entry_api_Entry__replace_Accept_5_inj : ∀ a b, E_Lslices_IndexFunc_of__api_Entry_api_Entry__replace_Accept_5 a = E_Lslices_IndexFunc_of__api_Entry_api_Entry__replace_Accept_5 b → a = b := by
  rintro a0 b0 h
  simpa [E_Lslices_IndexFunc_of__api_Entry_api_Entry__replace_Accept_5, and_assoc] using h
noncomputable def G_Lslices_IndexFunc_of__api_Entry_api_Entry__replace_Accept_5 : List PV → Option (PV × List (List Cell)) := lift E_Lslices_IndexFunc_of__api_Entry_api_Entry__replace_Accept_5 fun x => (Lslices_IndexFunc_of__api_Entry_api_Entry__replace_Accept_5 x).map fun y => (.one (.v (.int .i64 y)), [])
theorem G_Lslices_IndexFunc_of__api_Entry_api_Entry__replace_Accept_5_eq {a0 : (List Tapi_Entry)} {y : Int} (h : Lslices_IndexFunc_of__api_Entry_api_Entry__replace_Accept_5 a0 = some y) : G_Lslices_IndexFunc_of__api_Entry_api_Entry__replace_Accept_5 [.one (.slice .no (List.map eapi_Entry a0)), .fn 49] = some (.one (.v (.int .i64 y)), []) := by
  have := lift_eq (g := fun x => (Lslices_IndexFunc_of__api_Entry_api_Entry__replace_Accept_5 x).map fun y => (.one (.v (.int .i64 y)), [])) E_Lslices_IndexFunc_of__api_Entry_api_Entry__replace_Accept_5_inj a0
  unfold G_Lslices_IndexFunc_of__api_Entry_api_Entry__replace_Accept_5
  rw [show [.one (.slice .no (List.map eapi_Entry a0)), .fn 49] = E_Lslices_IndexFunc_of__api_Entry_api_Entry__replace_Accept_5 a0 from rfl, this]
  simp [h]
def E_Lslices_ContainsFunc_of__api_Entry_api_Entry__replace_Accept_5 (x : (List Tapi_Entry)) : List PV := [.one (.slice .no (List.map eapi_Entry x)), .fn 49]
theorem E_Lslices_ContainsFunc_of__api_Entry_api_Entry__replace_Accept_5_inj : ∀ a b, E_Lslices_ContainsFunc_of__api_Entry_api_Entry__replace_Accept_5 a = E_Lslices_ContainsFunc_of__api_Entry_api_Entry__replace_Accept_5 b → a = b := by
  rintro a0 b0 h
  simpa [E_Lslices_ContainsFunc_of__api_Entry_api_Entry__replace_Accept_5, and_assoc] using h
noncomputable def G_Lslices_ContainsFunc_of__api_Entry_api_Entry__replace_Accept_5 : List PV → Option (PV × List (List Cell)) := lift E_Lslices_ContainsFunc_of__api_Entry_api_Entry__replace_Accept_5 fun x => (Lslices_ContainsFunc_of__api_Entry_api_Entry__replace_Accept_5 x).map fun y => (.one (.v (.bool y)), [])
theorem G_Lslices_ContainsFunc_of__api_Entry_api_Entry__replace_Accept_5_eq {a0 : (List Tapi_Entry)} {y : Bool} (h : Lslices_ContainsFunc_of__api_Entry_api_Entry__replace_Accept_5 a0 = some y) : G_Lslices_ContainsFunc_of__api_Entry_api_Entry__replace_Accept_5 [.one (.slice .no (List.map eapi_Entry a0)), .fn 49] = some (.one (.v (.bool y)), []) := by
  have := lift_eq (g := fun x => (Lslices_ContainsFunc_of__api_Entry_api_Entry__replace_Accept_5 x).map fun y => (.one (.v (.bool y)), [])) E_Lslices_ContainsFunc_of__api_Entry_api_Entry__replace_Accept_5_inj a0
  unfold G_Lslices_ContainsFunc_of__api_Entry_api_Entry__replace_Accept_5
  rw [show [.one (.slice .no (List.map eapi_Entry a0)), .fn 49] = E_Lslices_ContainsFunc_of__api_Entry_api_Entry__replace_Accept_5 a0 from rfl, this]
  simp [h]
def E_Lreplace_Accept_1__replace_Accept_5_p (x : (List Tapi_Entry)) : List PV := [.fn 49, .io ([.slice .no (List.map eapi_Entry x)])]
theorem E_Lreplace_Accept_1__replace_Accept_5_p_inj : ∀ a b, E_Lreplace_Accept_1__replace_Accept_5_p a = E_Lreplace_Accept_1__replace_Accept_5_p b → a = b := by
  rintro a0 b0 h
  simpa [E_Lreplace_Accept_1__replace_Accept_5_p, and_assoc] using h
noncomputable def G_Lreplace_Accept_1__replace_Accept_5_p : List PV → Option (PV × List (List Cell)) := lift E_Lreplace_Accept_1__replace_Accept_5_p fun x => (Lreplace_Accept_1__replace_Accept_5_p x).map fun y => (.one (.v (.bool y)), [[.slice .no (List.map eapi_Entry x)]])
theorem G_Lreplace_Accept_1__replace_Accept_5_p_eq {a0 : (List Tapi_Entry)} {y : Bool} (h : Lreplace_Accept_1__replace_Accept_5_p a0 = some y) : G_Lreplace_Accept_1__replace_Accept_5_p [.fn 49, .io ([.slice .no (List.map eapi_Entry a0)])] = some (.one (.v (.bool y)), [[.slice .no (List.map eapi_Entry a0)]]) := by
  have := lift_eq (g := fun x => (Lreplace_Accept_1__replace_Accept_5_p x).map fun y => (.one (.v (.bool y)), [[.slice .no (List.map eapi_Entry x)]])) E_Lreplace_Accept_1__replace_Accept_5_p_inj a0
  unfold G_Lreplace_Accept_1__replace_Accept_5_p
  rw [show [.fn 49, .io ([.slice .no (List.map eapi_Entry a0)])] = E_Lreplace_Accept_1__replace_Accept_5_p a0 from rfl, this]
  simp [h]
def E_Lreplace_Accept_2_1__r (x : Tapi_Input × (Arr 32)) : List PV := [.agg ((arC .u8 x.1.1.1) ++ ((.v (.int .u32 x.1.1.2)) :: ((.v (.int .u32 x.1.2.1)) :: ((.slice .no (List.map eS_I_u8 x.1.2.2)) :: [])))), .ref (arC .u8 x.2)]
theorem E_Lreplace_Accept_2_1__r_inj : ∀ a b, E_Lreplace_Accept_2_1__r a = E_Lreplace_Accept_2_1__r b → a = b := by
  rintro ⟨⟨⟨a0_0_0, a0_0_1⟩, a0_1, a0_2⟩, a1⟩ ⟨⟨⟨b0_0_0, b0_0_1⟩, b0_1, b0_2⟩, b1⟩ h
  simpa [E_Lreplace_Accept_2_1__r, and_assoc] using h
noncomputable def G_Lreplace_Accept_2_1__r : List PV → Option (PV × List (List Cell)) := lift E_Lreplace_Accept_2_1__r fun x => (Lreplace_Accept_2_1__r x.1 x.2).map fun y => (.one (.v (.bool y)), [])
theorem G_Lreplace_Accept_2_1__r_eq {a0 : Tapi_Input} {a1 : (Arr 32)} {y : Bool} (h : Lreplace_Accept_2_1__r a0 a1 = some y) : G_Lreplace_Accept_2_1__r [.agg ((arC .u8 a0.1.1) ++ ((.v (.int .u32 a0.1.2)) :: ((.v (.int .u32 a0.2.1)) :: ((.slice .no (List.map eS_I_u8 a0.2.2)) :: [])))), .ref (arC .u8 a1)] = some (.one (.v (.bool y)), []) := by
  have := lift_eq (g := fun x => (Lreplace_Accept_2_1__r x.1 x.2).map fun y => (.one (.v (.bool y)), [])) E_Lreplace_Accept_2_1__r_inj (a0, a1)
  unfold G_Lreplace_Accept_2_1__r
  rw [show [.agg ((arC .u8 a0.1.1) ++ ((.v (.int .u32 a0.1.2)) :: ((.v (.int .u32 a0.2.1)) :: ((.slice .no (List.map eS_I_u8 a0.2.2)) :: [])))), .ref (arC .u8 a1)] = E_Lreplace_Accept_2_1__r (a0, a1) from rfl, this]
  simp [h]
def E_Lslices_IndexFunc_of__api_Input_api_Input__replace_Accept_2_1 (x : (List Tapi_Input) × (Arr 32)) : List PV := [.one (.slice .no (List.map eapi_Input x.1)), .clo 44 [.ref (arC .u8 x.2)]]
theorem E_Lslices_IndexFunc_of__api_Input_api_Input__replace_Accept_2_1_inj : ∀ a b, E_Lslices_IndexFunc_of__api_Input_api_Input__replace_Accept_2_1 a = E_Lslices_IndexFunc_of__api_Input_api_Input__replace_Accept_2_1 b → a = b := by
  rintro ⟨a0, a1⟩ ⟨b0, b1⟩ h
  simpa [E_Lslices_IndexFunc_of__api_Input_api_Input__replace_Accept_2_1, and_assoc] using h
noncomputable def G_Lslices_IndexFunc_of__api_Input_api_Input__replace_Accept_2_1 : List PV → Option (PV × List (List Cell)) := lift E_Lslices_IndexFunc_of__api_Input_api_Input__replace_Accept_2_1 fun x => (Lslices_IndexFunc_of__api_Input_api_Input__replace_Accept_2_1 x.1 x.2).map fun y => (.one (.v (.int .i64 y)), [])
theorem G_Lslices_IndexFunc_of__api_Input_api_Input__replace_Accept_2_1_eq {a0 : (List Tapi_Input)} {a1 : (Arr 32)} {y : Int} (h : Lslices_IndexFunc_of__api_Input_api_Input__replace_Accept_2_1 a0 a1 = some y) : G_Lslices_IndexFunc_of__api_Input_api_Input__replace_Accept_2_1 [.one (.slice .no (List.map eapi_Input a0)), .clo 44 [.ref (arC .u8 a1)]] = some (.one (.v (.int .i64 y)), []) := by
  have := lift_eq (g := fun x => (Lslices_IndexFunc_of__api_Input_api_Input__replace_Accept_2_1 x.1 x.2).map fun y => (.one (.v (.int .i64 y)), [])) E_Lslices_IndexFunc_of__api_Input_api_Input__replace_Accept_2_1_inj (a0, a1)
  unfold G_Lslices_IndexFunc_of__api_Input_api_Input__replace_Accept_2_1
  rw [show [.one (.slice .no (List.map eapi_Input a0)), .clo 44 [.ref (arC .u8 a1)]] = E_Lslices_IndexFunc_of__api_Input_api_Input__replace_Accept_2_1 (a0, a1) from rfl, this]
  simp [h]
def E_Lslices_ContainsFunc_of__api_Input_api_Input__replace_Accept_2_1 (x : (List Tapi_Input) × (Arr 32)) : List PV := [.one (.slice .no (List.map eapi_Input x.1)), .clo 44 [.ref (arC .u8 x.2)]]
theorem E_Lslices_ContainsFunc_of__api_Input_api_Input__replace_Accept_2_1_inj : ∀ a b, E_Lslices_ContainsFunc_of__api_Input_api_Input__replace_Accept_2_1 a = E_Lslices_ContainsFunc_of__api_Input_api_Input__replace_Accept_2_1 b → a = b := by
  rintro ⟨a0, a1⟩ ⟨b0, b1⟩ h
  simpa [E_Lslices_ContainsFunc_of__api_Input_api_Input__replace_Accept_2_1, and_assoc] using h
noncomputable def G_Lslices_ContainsFunc_of__api_Input_api_Input__replace_Accept_2_1 : List PV → Option (PV × List (List Cell)) := lift E_Lslices_ContainsFunc_of__api_Input_api_Input__replace_Accept_2_1 fun x => (Lslices_ContainsFunc_of__api_Input_api_Input__replace_Accept_2_1 x.1 x.2).map fun y => (.one (.v (.bool y)), [])
theorem G_Lslices_ContainsFunc_of__api_Input_api_Input__replace_Accept_2_1_eq {a0 : (List Tapi_Input)} {a1 : (Arr 32)} {y : Bool} (h : Lslices_ContainsFunc_of__api_Input_api_Input__replace_Accept_2_1 a0 a1 = some y) : G_Lslices_ContainsFunc_of__api_Input_api_Input__replace_Accept_2_1 [.one (.slice .no (List.map eapi_Input a0)), .clo 44 [.ref (arC .u8 a1)]] = some (.one (.v (.bool y)), []) := by
  have := lift_eq (g := fun x => (Lslices_ContainsFunc_of__api_Input_api_Input__replace_Accept_2_1 x.1 x.2).map fun y => (.one (.v (.bool y)), [])) E_Lslices_ContainsFunc_of__api_Input_api_Input__replace_Accept_2_1_inj (a0, a1)
  unfold G_Lslices_ContainsFunc_of__api_Input_api_Input__replace_Accept_2_1
  rw [show [.one (.slice .no (List.map eapi_Input a0)), .clo 44 [.ref (arC .u8 a1)]] = E_Lslices_ContainsFunc_of__api_Input_api_Input__replace_Accept_2_1 (a0, a1) from rfl, this]
  simp [h]
def E_Lreplace_Accept_2__r (x : Tapi_Entry × Tapi_Tx) : List PV := [.agg ([.v (.int .u32 x.1.1.1), .slice .no (List.map eapi_Input x.1.1.2.1), .slice .no (List.map eapi_Output x.1.1.2.2.1), .v (.int .u32 x.1.1.2.2.2), .v (.int .i64 x.1.2)]), .ref ([.v (.int .u32 x.2.1), .slice .no (List.map eapi_Input x.2.2.1), .slice .no (List.map eapi_Output x.2.2.2.1), .v (.int .u32 x.2.2.2.2)])]
theorem E_Lreplace_Accept_2__r_inj : ∀ a b, E_Lreplace_Accept_2__r a = E_Lreplace_Accept_2__r b → a = b := by
  rintro ⟨⟨⟨a0_0_0, a0_0_1, a0_0_2, a0_0_3⟩, a0_1⟩, ⟨a1_0, a1_1, a1_2, a1_3⟩⟩ ⟨⟨⟨b0_0_0, b0_0_1, b0_0_2, b0_0_3⟩, b0_1⟩, ⟨b1_0, b1_1, b1_2, b1_3⟩⟩ h
  simpa [E_Lreplace_Accept_2__r, and_assoc] using h
noncomputable def G_Lreplace_Accept_2__r : List PV → Option (PV × List (List Cell)) := lift E_Lreplace_Accept_2__r fun x => (Lreplace_Accept_2__r x.1 x.2).map fun y => (.one (.v (.bool y)), [])
theorem G_Lreplace_Accept_2__r_eq {a0 : Tapi_Entry} {a1 : Tapi_Tx} {y : Bool} (h : Lreplace_Accept_2__r a0 a1 = some y) : G_Lreplace_Accept_2__r [.agg ([.v (.int .u32 a0.1.1), .slice .no (List.map eapi_Input a0.1.2.1), .slice .no (List.map eapi_Output a0.1.2.2.1), .v (.int .u32 a0.1.2.2.2), .v (.int .i64 a0.2)]), .ref ([.v (.int .u32 a1.1), .slice .no (List.map eapi_Input a1.2.1), .slice .no (List.map eapi_Output a1.2.2.1), .v (.int .u32 a1.2.2.2)])] = some (.one (.v (.bool y)), []) := by
  have := lift_eq (g := fun x => (Lreplace_Accept_2__r x.1 x.2).map fun y => (.one (.v (.bool y)), [])) E_Lreplace_Accept_2__r_inj (a0, a1)
  unfold G_Lreplace_Accept_2__r
  rw [show [.agg ([.v (.int .u32 a0.1.1), .slice .no (List.map eapi_Input a0.1.2.1), .slice .no (List.map eapi_Output a0.1.2.2.1), .v (.int .u32 a0.1.2.2.2), .v (.int .i64 a0.2)]), .ref ([.v (.int .u32 a1.1), .slice .no (List.map eapi_Input a1.2.1), .slice .no (List.map eapi_Output a1.2.2.1), .v (.int .u32 a1.2.2.2)])] = E_Lreplace_Accept_2__r (a0, a1) from rfl, this]
  simp [h]
def E_Lslices_IndexFunc_of__api_Entry_api_Entry__replace_Accept_2 (x : (List Tapi_Entry) × Tapi_Tx) : List PV := [.one (.slice .no (List.map eapi_Entry x.1)), .clo 42 [.ref ([.v (.int .u32 x.2.1), .slice .no (List.map eapi_Input x.2.2.1), .slice .no (List.map eapi_Output x.2.2.2.1), .v (.int .u32 x.2.2.2.2)])]]
theorem E_Lslices_IndexFunc_of__api_Entry_api_Entry__replace_Accept_2_inj : ∀ a b, E_Lslices_IndexFunc_of__api_Entry_api_Entry__replace_Accept_2 a = E_Lslices_IndexFunc_of__api_Entry_api_Entry__replace_Accept_2 b → a = b := by
  rintro ⟨a0, ⟨a1_0, a1_1, a1_2, a1_3⟩⟩ ⟨b0, ⟨b1_0, b1_1, b1_2, b1_3⟩⟩ h
  simpa [E_Lslices_IndexFunc_of__api_Entry_api_Entry__replace_Accept_2, and_assoc] using h
noncomputable def G_Lslices_IndexFunc_of__api_Entry_api_Entry__replace_Accept_2 : List PV → Option (PV × List (List Cell)) := lift E_Lslices_IndexFunc_of__api_Entry_api_Entry__replace_Accept_2 fun x => (Lslices_IndexFunc_of__api_Entry_api_Entry__replace_Accept_2 x.1 x.2).map fun y => (.one (.v (.int .i64 y)), [])
theorem G_Lslices_IndexFunc_of__api_Entry_api_Entry__replace_Accept_2_eq {a0 : (List Tapi_Entry)} {a1 : Tapi_Tx} {y : Int} (h : Lslices_IndexFunc_of__api_Entry_api_Entry__replace_Accept_2 a0 a1 = some y) : G_Lslices_IndexFunc_of__api_Entry_api_Entry__replace_Accept_2 [.one (.slice .no (List.map eapi_Entry a0)), .clo 42 [.ref ([.v (.int .u32 a1.1), .slice .no (List.map eapi_Input a1.2.1), .slice .no (List.map eapi_Output a1.2.2.1), .v (.int .u32 a1.2.2.2)])]] = some (.one (.v (.int .i64 y)), []) := by
  have := lift_eq (g := fun x => (Lslices_IndexFunc_of__api_Entry_api_Entry__replace_Accept_2 x.1 x.2).map fun y => (.one (.v (.int .i64 y)), [])) E_Lslices_IndexFunc_of__api_Entry_api_Entry__replace_Accept_2_inj (a0, a1)
  unfold G_Lslices_IndexFunc_of__api_Entry_api_Entry__replace_Accept_2
  rw [show [.one (.slice .no (List.map eapi_Entry a0)), .clo 42 [.ref ([.v (.int .u32 a1.1), .slice .no (List.map eapi_Input a1.2.1), .slice .no (List.map eapi_Output a1.2.2.1), .v (.int .u32 a1.2.2.2)])]] = E_Lslices_IndexFunc_of__api_Entry_api_Entry__replace_Accept_2 (a0, a1) from rfl, this]
  simp [h]
def E_Lslices_ContainsFunc_of__api_Entry_api_Entry__replace_Accept_2 (x : (List Tapi_Entry) × Tapi_Tx) : List PV := [.one (.slice .no (List.map eapi_Entry x.1)), .clo 42 [.ref ([.v (.int .u32 x.2.1), .slice .no (List.map eapi_Input x.2.2.1), .slice .no (List.map eapi_Output x.2.2.2.1), .v (.int .u32 x.2.2.2.2)])]]
theorem E_Lslices_ContainsFunc_of__api_Entry_api_Entry__replace_Accept_2_inj : ∀ a b, E_Lslices_ContainsFunc_of__api_Entry_api_Entry__replace_Accept_2 a = E_Lslices_ContainsFunc_of__api_Entry_api_Entry__replace_Accept_2 b → a = b := by
  rintro ⟨a0, ⟨a1_0, a1_1, a1_2, a1_3⟩⟩ ⟨b0, ⟨b1_0, b1_1, b1_2, b1_3⟩⟩ h
  simpa [E_Lslices_ContainsFunc_of__api_Entry_api_Entry__replace_Accept_2, and_assoc] using h
noncomputable def G_Lslices_ContainsFunc_of__api_Entry_api_Entry__replace_Accept_2 : List PV → Option (PV × List (List Cell)) := lift E_Lslices_ContainsFunc_of__api_Entry_api_Entry__replace_Accept_2 fun x => (Lslices_ContainsFunc_of__api_Entry_api_Entry__replace_Accept_2 x.1 x.2).map fun y => (.one (.v (.bool y)), [])
theorem G_Lslices_ContainsFunc_of__api_Entry_api_Entry__replace_Accept_2_eq {a0 : (List Tapi_Entry)} {a1 : Tapi_Tx} {y : Bool} (h : Lslices_ContainsFunc_of__api_Entry_api_Entry__replace_Accept_2 a0 a1 = some y) : G_Lslices_ContainsFunc_of__api_Entry_api_Entry__replace_Accept_2 [.one (.slice .no (List.map eapi_Entry a0)), .clo 42 [.ref ([.v (.int .u32 a1.1), .slice .no (List.map eapi_Input a1.2.1), .slice .no (List.map eapi_Output a1.2.2.1), .v (.int .u32 a1.2.2.2)])]] = some (.one (.v (.bool y)), []) := by
  have := lift_eq (g := fun x => (Lslices_ContainsFunc_of__api_Entry_api_Entry__replace_Accept_2 x.1 x.2).map fun y => (.one (.v (.bool y)), [])) E_Lslices_ContainsFunc_of__api_Entry_api_Entry__replace_Accept_2_inj (a0, a1)
  unfold G_Lslices_ContainsFunc_of__api_Entry_api_Entry__replace_Accept_2
  rw [show [.one (.slice .no (List.map eapi_Entry a0)), .clo 42 [.ref ([.v (.int .u32 a1.1), .slice .no (List.map eapi_Input a1.2.1), .slice .no (List.map eapi_Output a1.2.2.1), .v (.int .u32 a1.2.2.2)])]] = E_Lslices_ContainsFunc_of__api_Entry_api_Entry__replace_Accept_2 (a0, a1) from rfl, this]
  simp [h]
def E_Lreplace_Accept_1__replace_Accept_2_p (x : Tapi_Tx × (List Tapi_Entry)) : List PV := [.clo 42 [.ref ([.v (.int .u32 x.1.1), .slice .no (List.map eapi_Input x.1.2.1), .slice .no (List.map eapi_Output x.1.2.2.1), .v (.int .u32 x.1.2.2.2)])], .io ([.slice .no (List.map eapi_Entry x.2)])]
theorem E_Lreplace_Accept_1__replace_Accept_2_p_inj : ∀ a b, E_Lreplace_Accept_1__replace_Accept_2_p a = E_Lreplace_Accept_1__replace_Accept_2_p b → a = b := by
  rintro ⟨⟨a0_0, a0_1, a0_2, a0_3⟩, a1⟩ ⟨⟨b0_0, b0_1, b0_2, b0_3⟩, b1⟩ h
  simpa [E_Lreplace_Accept_1__replace_Accept_2_p, and_assoc] using h
noncomputable def G_Lreplace_Accept_1__replace_Accept_2_p : List PV → Option (PV × List (List Cell)) := lift E_Lreplace_Accept_1__replace_Accept_2_p fun x => (Lreplace_Accept_1__replace_Accept_2_p x.1 x.2).map fun y => (.one (.v (.bool y)), [[.slice .no (List.map eapi_Entry x.2)]])
theorem G_Lreplace_Accept_1__replace_Accept_2_p_eq {a0 : Tapi_Tx} {a1 : (List Tapi_Entry)} {y : Bool} (h : Lreplace_Accept_1__replace_Accept_2_p a0 a1 = some y) : G_Lreplace_Accept_1__replace_Accept_2_p [.clo 42 [.ref ([.v (.int .u32 a0.1), .slice .no (List.map eapi_Input a0.2.1), .slice .no (List.map eapi_Output a0.2.2.1), .v (.int .u32 a0.2.2.2)])], .io ([.slice .no (List.map eapi_Entry a1)])] = some (.one (.v (.bool y)), [[.slice .no (List.map eapi_Entry a1)]]) := by
  have := lift_eq (g := fun x => (Lreplace_Accept_1__replace_Accept_2_p x.1 x.2).map fun y => (.one (.v (.bool y)), [[.slice .no (List.map eapi_Entry x.2)]])) E_Lreplace_Accept_1__replace_Accept_2_p_inj (a0, a1)
  unfold G_Lreplace_Accept_1__replace_Accept_2_p
  rw [show [.clo 42 [.ref ([.v (.int .u32 a0.1), .slice .no (List.map eapi_Input a0.2.1), .slice .no (List.map eapi_Output a0.2.2.1), .v (.int .u32 a0.2.2.2)])], .io ([.slice .no (List.map eapi_Entry a1)])] = E_Lreplace_Accept_1__replace_Accept_2_p (a0, a1) from rfl, this]
  simp [h]
def E_Lreplace_Accept (x : (List Tapi_Entry) × Tapi_Tx × Int) : List PV := [.one (.slice .no (List.map eapi_Entry x.1)), .agg ([.v (.int .u32 x.2.1.1), .slice .no (List.map eapi_Input x.2.1.2.1), .slice .no (List.map eapi_Output x.2.1.2.2.1), .v (.int .u32 x.2.1.2.2.2)]), .one (.v (.int .i64 x.2.2))]
theorem E_Lreplace_Accept_inj : ∀ a b, E_Lreplace_Accept a = E_Lreplace_Accept b → a = b := by
  rintro ⟨a0, ⟨a1_0, a1_1, a1_2, a1_3⟩, a2⟩ ⟨b0, ⟨b1_0, b1_1, b1_2, b1_3⟩, b2⟩ h
  simpa [E_Lreplace_Accept, and_assoc] using h
noncomputable def G_Lreplace_Accept : List PV → Option (PV × List (List Cell)) := lift E_Lreplace_Accept fun x => (Lreplace_Accept x.1 x.2.1 x.2.2).map fun y => (.one (.v (.int .i64 y)), [])
theorem G_Lreplace_Accept_eq {a0 : (List Tapi_Entry)} {a1 : Tapi_Tx} {a2 : Int} {y : Int} (h : Lreplace_Accept a0 a1 a2 = some y) : G_Lreplace_Accept [.one (.slice .no (List.map eapi_Entry a0)), .agg ([.v (.int .u32 a1.1), .slice .no (List.map eapi_Input a1.2.1), .slice .no (List.map eapi_Output a1.2.2.1), .v (.int .u32 a1.2.2.2)]), .one (.v (.int .i64 a2))] = some (.one (.v (.int .i64 y)), []) := by
  have := lift_eq (g := fun x => (Lreplace_Accept x.1 x.2.1 x.2.2).map fun y => (.one (.v (.int .i64 y)), [])) E_Lreplace_Accept_inj (a0, a1, a2)
  unfold G_Lreplace_Accept
  rw [show [.one (.slice .no (List.map eapi_Entry a0)), .agg ([.v (.int .u32 a1.1), .slice .no (List.map eapi_Input a1.2.1), .slice .no (List.map eapi_Output a1.2.2.1), .v (.int .u32 a1.2.2.2)]), .one (.v (.int .i64 a2))] = E_Lreplace_Accept (a0, a1, a2) from rfl, this]
  simp [h]
def E_Llaw36_sane (x : Unit) : List PV := []
theorem E_Llaw36_sane_inj : ∀ a b, E_Llaw36_sane a = E_Llaw36_sane b → a = b := fun _ _ _ => rfl
noncomputable def G_Llaw36_sane : List PV → Option (PV × List (List Cell)) := lift E_Llaw36_sane fun x => (Llaw36_sane).map fun y => (.one (.v (.bool y)), [])
theorem G_Llaw36_sane_eq {y : Bool} (h : Llaw36_sane  = some y) : G_Llaw36_sane [] = some (.one (.v (.bool y)), []) := by
  have := lift_eq (g := fun x => (Llaw36_sane).map fun y => (.one (.v (.bool y)), [])) E_Llaw36_sane_inj ()
  unfold G_Llaw36_sane
  rw [show [] = E_Llaw36_sane () from rfl, this]
  simp [h]
def E_Lmill_New (x : (List Int)) : List PV := [.one (.slice .no (intsR .i64 x))]
theorem E_Lmill_New_inj : ∀ a b, E_Lmill_New a = E_Lmill_New b → a = b := by
  rintro a0 b0 h
  simpa [E_Lmill_New, and_assoc] using h
noncomputable def G_Lmill_New : List PV → Option (PV × List (List Cell)) := lift E_Lmill_New fun x => (Lmill_New x).map fun y => (.io ([.slice .no (intsR .i64 y.1), .v (.int .i64 y.2)]), [])
theorem G_Lmill_New_eq {a0 : (List Int)} {y : Tlightclientmill_Deck} (h : Lmill_New a0 = some y) : G_Lmill_New [.one (.slice .no (intsR .i64 a0))] = some (.io ([.slice .no (intsR .i64 y.1), .v (.int .i64 y.2)]), []) := by
  have := lift_eq (g := fun x => (Lmill_New x).map fun y => (.io ([.slice .no (intsR .i64 y.1), .v (.int .i64 y.2)]), [])) E_Lmill_New_inj a0
  unfold G_Lmill_New
  rw [show [.one (.slice .no (intsR .i64 a0))] = E_Lmill_New a0 from rfl, this]
  simp [h]
def E_Lmill_Mod (x : Int × Int) : List PV := [.one (.v (.int .i64 x.1)), .one (.v (.int .i64 x.2))]
theorem E_Lmill_Mod_inj : ∀ a b, E_Lmill_Mod a = E_Lmill_Mod b → a = b := by
  rintro ⟨a0, a1⟩ ⟨b0, b1⟩ h
  simpa [E_Lmill_Mod, and_assoc] using h
noncomputable def G_Lmill_Mod : List PV → Option (PV × List (List Cell)) := lift E_Lmill_Mod fun x => (Lmill_Mod x.1 x.2).map fun y => (.one (.v (.int .i64 y)), [])
theorem G_Lmill_Mod_eq {a0 : Int} {a1 : Int} {y : Int} (h : Lmill_Mod a0 a1 = some y) : G_Lmill_Mod [.one (.v (.int .i64 a0)), .one (.v (.int .i64 a1))] = some (.one (.v (.int .i64 y)), []) := by
  have := lift_eq (g := fun x => (Lmill_Mod x.1 x.2).map fun y => (.one (.v (.int .i64 y)), [])) E_Lmill_Mod_inj (a0, a1)
  unfold G_Lmill_Mod
  rw [show [.one (.v (.int .i64 a0)), .one (.v (.int .i64 a1))] = E_Lmill_Mod (a0, a1) from rfl, this]
  simp [h]
def E_Lmill_Deck_Left (x : Tlightclientmill_Deck) : List PV := [.io ([.slice .no (intsR .i64 x.1), .v (.int .i64 x.2)])]
theorem E_Lmill_Deck_Left_inj : ∀ a b, E_Lmill_Deck_Left a = E_Lmill_Deck_Left b → a = b := by
  rintro ⟨a0_0, a0_1⟩ ⟨b0_0, b0_1⟩ h
  simpa [E_Lmill_Deck_Left, and_assoc] using h
noncomputable def G_Lmill_Deck_Left : List PV → Option (PV × List (List Cell)) := lift E_Lmill_Deck_Left fun x => (Lmill_Deck_Left x).map fun y => (.one (.v (.bool y.1)), [[.slice .no (intsR .i64 y.2.1), .v (.int .i64 y.2.2)]])
theorem G_Lmill_Deck_Left_eq {a0 : Tlightclientmill_Deck} {y : Bool × Tlightclientmill_Deck} (h : Lmill_Deck_Left a0 = some y) : G_Lmill_Deck_Left [.io ([.slice .no (intsR .i64 a0.1), .v (.int .i64 a0.2)])] = some (.one (.v (.bool y.1)), [[.slice .no (intsR .i64 y.2.1), .v (.int .i64 y.2.2)]]) := by
  have := lift_eq (g := fun x => (Lmill_Deck_Left x).map fun y => (.one (.v (.bool y.1)), [[.slice .no (intsR .i64 y.2.1), .v (.int .i64 y.2.2)]])) E_Lmill_Deck_Left_inj a0
  unfold G_Lmill_Deck_Left
  rw [show [.io ([.slice .no (intsR .i64 a0.1), .v (.int .i64 a0.2)])] = E_Lmill_Deck_Left a0 from rfl, this]
  simp [h]
def E_Lmill_Deck_Next (x : Tlightclientmill_Deck × Int) : List PV := [.io ([.slice .no (intsR .i64 x.1.1), .v (.int .i64 x.1.2)]), .one (.v (.int .i64 x.2))]
theorem E_Lmill_Deck_Next_inj : ∀ a b, E_Lmill_Deck_Next a = E_Lmill_Deck_Next b → a = b := by
  rintro ⟨⟨a0_0, a0_1⟩, a1⟩ ⟨⟨b0_0, b0_1⟩, b1⟩ h
  simpa [E_Lmill_Deck_Next, and_assoc] using h
noncomputable def G_Lmill_Deck_Next : List PV → Option (PV × List (List Cell)) := lift E_Lmill_Deck_Next fun x => (Lmill_Deck_Next x.1 x.2).map fun y => (.one (.v (.int .i64 y.1)), [[.slice .no (intsR .i64 y.2.1), .v (.int .i64 y.2.2)]])
theorem G_Lmill_Deck_Next_eq {a0 : Tlightclientmill_Deck} {a1 : Int} {y : Int × Tlightclientmill_Deck} (h : Lmill_Deck_Next a0 a1 = some y) : G_Lmill_Deck_Next [.io ([.slice .no (intsR .i64 a0.1), .v (.int .i64 a0.2)]), .one (.v (.int .i64 a1))] = some (.one (.v (.int .i64 y.1)), [[.slice .no (intsR .i64 y.2.1), .v (.int .i64 y.2.2)]]) := by
  have := lift_eq (g := fun x => (Lmill_Deck_Next x.1 x.2).map fun y => (.one (.v (.int .i64 y.1)), [[.slice .no (intsR .i64 y.2.1), .v (.int .i64 y.2.2)]])) E_Lmill_Deck_Next_inj (a0, a1)
  unfold G_Lmill_Deck_Next
  rw [show [.io ([.slice .no (intsR .i64 a0.1), .v (.int .i64 a0.2)]), .one (.v (.int .i64 a1))] = E_Lmill_Deck_Next (a0, a1) from rfl, this]
  simp [h]
def E_Lmade_Script (x : Int) : List PV := [.one (.v (.int .u8 x))]
theorem E_Lmade_Script_inj : ∀ a b, E_Lmade_Script a = E_Lmade_Script b → a = b := by
  rintro a0 b0 h
  simpa [E_Lmade_Script, and_assoc] using h
noncomputable def G_Lmade_Script : List PV → Option (PV × List (List Cell)) := lift E_Lmade_Script fun x => (Lmade_Script x).map fun y => (.one (.own 1 (intsR .u8 y)), [])
theorem G_Lmade_Script_eq {a0 : Int} {y : (List Int)} (h : Lmade_Script a0 = some y) : G_Lmade_Script [.one (.v (.int .u8 a0))] = some (.one (.own 1 (intsR .u8 y)), []) := by
  have := lift_eq (g := fun x => (Lmade_Script x).map fun y => (.one (.own 1 (intsR .u8 y)), [])) E_Lmade_Script_inj a0
  unfold G_Lmade_Script
  rw [show [.one (.v (.int .u8 a0))] = E_Lmade_Script a0 from rfl, this]
  simp [h]
def E_Lmill_Deck_Range (x : Tlightclientmill_Deck × Int × Int) : List PV := [.io ([.slice .no (intsR .i64 x.1.1), .v (.int .i64 x.1.2)]), .one (.v (.int .i64 x.2.1)), .one (.v (.int .i64 x.2.2))]
theorem E_Lmill_Deck_Range_inj : ∀ a b, E_Lmill_Deck_Range a = E_Lmill_Deck_Range b → a = b := by
  rintro ⟨⟨a0_0, a0_1⟩, a1, a2⟩ ⟨⟨b0_0, b0_1⟩, b1, b2⟩ h
  simpa [E_Lmill_Deck_Range, and_assoc] using h
noncomputable def G_Lmill_Deck_Range : List PV → Option (PV × List (List Cell)) := lift E_Lmill_Deck_Range fun x => (Lmill_Deck_Range x.1 x.2.1 x.2.2).map fun y => (.one (.v (.int .i64 y.1)), [[.slice .no (intsR .i64 y.2.1), .v (.int .i64 y.2.2)]])
theorem G_Lmill_Deck_Range_eq {a0 : Tlightclientmill_Deck} {a1 : Int} {a2 : Int} {y : Int × Tlightclientmill_Deck} (h : Lmill_Deck_Range a0 a1 a2 = some y) : G_Lmill_Deck_Range [.io ([.slice .no (intsR .i64 a0.1), .v (.int .i64 a0.2)]), .one (.v (.int .i64 a1)), .one (.v (.int .i64 a2))] = some (.one (.v (.int .i64 y.1)), [[.slice .no (intsR .i64 y.2.1), .v (.int .i64 y.2.2)]]) := by
  have := lift_eq (g := fun x => (Lmill_Deck_Range x.1 x.2.1 x.2.2).map fun y => (.one (.v (.int .i64 y.1)), [[.slice .no (intsR .i64 y.2.1), .v (.int .i64 y.2.2)]])) E_Lmill_Deck_Range_inj (a0, a1, a2)
  unfold G_Lmill_Deck_Range
  rw [show [.io ([.slice .no (intsR .i64 a0.1), .v (.int .i64 a0.2)]), .one (.v (.int .i64 a1)), .one (.v (.int .i64 a2))] = E_Lmill_Deck_Range (a0, a1, a2) from rfl, this]
  simp [h]
def E_Lmill_Hash (x : Tlightclientmill_Deck) : List PV := [.io ([.slice .no (intsR .i64 x.1), .v (.int .i64 x.2)])]
theorem E_Lmill_Hash_inj : ∀ a b, E_Lmill_Hash a = E_Lmill_Hash b → a = b := by
  rintro ⟨a0_0, a0_1⟩ ⟨b0_0, b0_1⟩ h
  simpa [E_Lmill_Hash, and_assoc] using h
noncomputable def G_Lmill_Hash : List PV → Option (PV × List (List Cell)) := lift E_Lmill_Hash fun x => (Lmill_Hash x).map fun y => (.agg (arC .u8 y.1), [[.slice .no (intsR .i64 y.2.1), .v (.int .i64 y.2.2)]])
theorem G_Lmill_Hash_eq {a0 : Tlightclientmill_Deck} {y : (Arr 32) × Tlightclientmill_Deck} (h : Lmill_Hash a0 = some y) : G_Lmill_Hash [.io ([.slice .no (intsR .i64 a0.1), .v (.int .i64 a0.2)])] = some (.agg (arC .u8 y.1), [[.slice .no (intsR .i64 y.2.1), .v (.int .i64 y.2.2)]]) := by
  have := lift_eq (g := fun x => (Lmill_Hash x).map fun y => (.agg (arC .u8 y.1), [[.slice .no (intsR .i64 y.2.1), .v (.int .i64 y.2.2)]])) E_Lmill_Hash_inj a0
  unfold G_Lmill_Hash
  rw [show [.io ([.slice .no (intsR .i64 a0.1), .v (.int .i64 a0.2)])] = E_Lmill_Hash a0 from rfl, this]
  simp [h]
def E_Lmill_Tx (x : Tlightclientmill_Deck) : List PV := [.io ([.slice .no (intsR .i64 x.1), .v (.int .i64 x.2)])]
theorem E_Lmill_Tx_inj : ∀ a b, E_Lmill_Tx a = E_Lmill_Tx b → a = b := by
  rintro ⟨a0_0, a0_1⟩ ⟨b0_0, b0_1⟩ h
  simpa [E_Lmill_Tx, and_assoc] using h
noncomputable def G_Lmill_Tx : List PV → Option (PV × List (List Cell)) := lift E_Lmill_Tx fun x => (Lmill_Tx x).map fun y => (.agg ([.v (.int .u32 y.1.1), .own 35 (List.map eapi_Input y.1.2.1), .own 2 (List.map eapi_Output y.1.2.2.1), .v (.int .u32 y.1.2.2.2)]), [[.slice .no (intsR .i64 y.2.1), .v (.int .i64 y.2.2)]])
theorem G_Lmill_Tx_eq {a0 : Tlightclientmill_Deck} {y : Tapi_Tx × Tlightclientmill_Deck} (h : Lmill_Tx a0 = some y) : G_Lmill_Tx [.io ([.slice .no (intsR .i64 a0.1), .v (.int .i64 a0.2)])] = some (.agg ([.v (.int .u32 y.1.1), .own 35 (List.map eapi_Input y.1.2.1), .own 2 (List.map eapi_Output y.1.2.2.1), .v (.int .u32 y.1.2.2.2)]), [[.slice .no (intsR .i64 y.2.1), .v (.int .i64 y.2.2)]]) := by
  have := lift_eq (g := fun x => (Lmill_Tx x).map fun y => (.agg ([.v (.int .u32 y.1.1), .own 35 (List.map eapi_Input y.1.2.1), .own 2 (List.map eapi_Output y.1.2.2.1), .v (.int .u32 y.1.2.2.2)]), [[.slice .no (intsR .i64 y.2.1), .v (.int .i64 y.2.2)]])) E_Lmill_Tx_inj a0
  unfold G_Lmill_Tx
  rw [show [.io ([.slice .no (intsR .i64 a0.1), .v (.int .i64 a0.2)])] = E_Lmill_Tx a0 from rfl, this]
  simp [h]
def E_Lref36_Signals (x : Tapi_Tx) : List PV := [.agg ([.v (.int .u32 x.1), .slice .no (List.map eapi_Input x.2.1), .slice .no (List.map eapi_Output x.2.2.1), .v (.int .u32 x.2.2.2)])]
theorem E_Lref36_Signals_inj : ∀ a b, E_Lref36_Signals a = E_Lref36_Signals b → a = b := by
  rintro ⟨a0_0, a0_1, a0_2, a0_3⟩ ⟨b0_0, b0_1, b0_2, b0_3⟩ h
  simpa [E_Lref36_Signals, and_assoc] using h
noncomputable def G_Lref36_Signals : List PV → Option (PV × List (List Cell)) := lift E_Lref36_Signals fun x => (Lref36_Signals x).map fun y => (.one (.v (.bool y)), [])
theorem G_Lref36_Signals_eq {a0 : Tapi_Tx} {y : Bool} (h : Lref36_Signals a0 = some y) : G_Lref36_Signals [.agg ([.v (.int .u32 a0.1), .slice .no (List.map eapi_Input a0.2.1), .slice .no (List.map eapi_Output a0.2.2.1), .v (.int .u32 a0.2.2.2)])] = some (.one (.v (.bool y)), []) := by
  have := lift_eq (g := fun x => (Lref36_Signals x).map fun y => (.one (.v (.bool y)), [])) E_Lref36_Signals_inj a0
  unfold G_Lref36_Signals
  rw [show [.agg ([.v (.int .u32 a0.1), .slice .no (List.map eapi_Input a0.2.1), .slice .no (List.map eapi_Output a0.2.2.1), .v (.int .u32 a0.2.2.2)])] = E_Lref36_Signals a0 from rfl, this]
  simp [h]
def E_Lref36_Conflict (x : Tapi_Tx × Tapi_Tx) : List PV := [.agg ([.v (.int .u32 x.1.1), .slice .no (List.map eapi_Input x.1.2.1), .slice .no (List.map eapi_Output x.1.2.2.1), .v (.int .u32 x.1.2.2.2)]), .agg ([.v (.int .u32 x.2.1), .slice .no (List.map eapi_Input x.2.2.1), .slice .no (List.map eapi_Output x.2.2.2.1), .v (.int .u32 x.2.2.2.2)])]
theorem E_Lref36_Conflict_inj : ∀ a b, E_Lref36_Conflict a = E_Lref36_Conflict b → a = b := by
  rintro ⟨⟨a0_0, a0_1, a0_2, a0_3⟩, ⟨a1_0, a1_1, a1_2, a1_3⟩⟩ ⟨⟨b0_0, b0_1, b0_2, b0_3⟩, ⟨b1_0, b1_1, b1_2, b1_3⟩⟩ h
  simpa [E_Lref36_Conflict, and_assoc] using h
noncomputable def G_Lref36_Conflict : List PV → Option (PV × List (List Cell)) := lift E_Lref36_Conflict fun x => (Lref36_Conflict x.1 x.2).map fun y => (.one (.v (.bool y)), [])
theorem G_Lref36_Conflict_eq {a0 : Tapi_Tx} {a1 : Tapi_Tx} {y : Bool} (h : Lref36_Conflict a0 a1 = some y) : G_Lref36_Conflict [.agg ([.v (.int .u32 a0.1), .slice .no (List.map eapi_Input a0.2.1), .slice .no (List.map eapi_Output a0.2.2.1), .v (.int .u32 a0.2.2.2)]), .agg ([.v (.int .u32 a1.1), .slice .no (List.map eapi_Input a1.2.1), .slice .no (List.map eapi_Output a1.2.2.1), .v (.int .u32 a1.2.2.2)])] = some (.one (.v (.bool y)), []) := by
  have := lift_eq (g := fun x => (Lref36_Conflict x.1 x.2).map fun y => (.one (.v (.bool y)), [])) E_Lref36_Conflict_inj (a0, a1)
  unfold G_Lref36_Conflict
  rw [show [.agg ([.v (.int .u32 a0.1), .slice .no (List.map eapi_Input a0.2.1), .slice .no (List.map eapi_Output a0.2.2.1), .v (.int .u32 a0.2.2.2)]), .agg ([.v (.int .u32 a1.1), .slice .no (List.map eapi_Input a1.2.1), .slice .no (List.map eapi_Output a1.2.2.1), .v (.int .u32 a1.2.2.2)])] = E_Lref36_Conflict (a0, a1) from rfl, this]
  simp [h]
def E_Llaw36_ReplaceSignals (x : (List Int) × Int × Int) : List PV := [.one (.slice .no (intsR .i64 x.1)), .one (.v (.int .u32 x.2.1)), .one (.v (.int .u32 x.2.2))]
theorem E_Llaw36_ReplaceSignals_inj : ∀ a b, E_Llaw36_ReplaceSignals a = E_Llaw36_ReplaceSignals b → a = b := by
  rintro ⟨a0, a1, a2⟩ ⟨b0, b1, b2⟩ h
  simpa [E_Llaw36_ReplaceSignals, and_assoc] using h
noncomputable def G_Llaw36_ReplaceSignals : List PV → Option (PV × List (List Cell)) := lift E_Llaw36_ReplaceSignals fun x => (Llaw36_ReplaceSignals x.1 x.2.1 x.2.2).map fun y => (.one (.v (.bool y)), [])
theorem G_Llaw36_ReplaceSignals_eq {a0 : (List Int)} {a1 : Int} {a2 : Int} {y : Bool} (h : Llaw36_ReplaceSignals a0 a1 a2 = some y) : G_Llaw36_ReplaceSignals [.one (.slice .no (intsR .i64 a0)), .one (.v (.int .u32 a1)), .one (.v (.int .u32 a2))] = some (.one (.v (.bool y)), []) := by
  have := lift_eq (g := fun x => (Llaw36_ReplaceSignals x.1 x.2.1 x.2.2).map fun y => (.one (.v (.bool y)), [])) E_Llaw36_ReplaceSignals_inj (a0, a1, a2)
  unfold G_Llaw36_ReplaceSignals
  rw [show [.one (.slice .no (intsR .i64 a0)), .one (.v (.int .u32 a1)), .one (.v (.int .u32 a2))] = E_Llaw36_ReplaceSignals (a0, a1, a2) from rfl, this]
  simp [h]
end Go.Proofs.YtconfbgcjkjnkaaDoor
