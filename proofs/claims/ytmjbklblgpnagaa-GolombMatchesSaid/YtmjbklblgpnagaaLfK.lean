import Derived.Test.YtmjbklblgpnagaaLcG2
import Derived.Test.YtmjbklblgpnagaaLcG1
import Derived.Test.YtmjbklblgpnagaaLcG1
import Derived.Test.YtmjbklblgpnagaaTt
namespace Go.Proofs.Ytmjbklblgpnagaa
open Go.RowKit
open Go.Av
open Go.Lc
set_option maxRecDepth 100000
set_option linter.unusedSimpArgs false
set_option linter.unusedVariables false
attribute [simp] tt1 tt2 tt3 tt4 tt5 tt6 tt7 tt8 tt9 tt10 tt11 tt12 tt13 tt14 tt15 tt16 tt17 tt18 tt19 tt21 tt22 tt23 tt24 tt25 tt26 tt27 tt29 tt30 tt31 tt32 tt33 tt34 tt35 tt36 tt37 tt38 tt39 tt40 tt42 tt43 tt44 tt45 tt46 tt47 tt49 tt50 tt51 tt52 tt53 tt54 tt55 tt57 tt58 tt59 tt60 tt61 tt62 tt63 tt65 tt66 tt67 tt68 tt69 tt70 tt71 tt72 tt73 tt74 tt75 tt76 tt77 tt78 tt79 tt80 tt81 tt82 tt84 tt85 tt86 tt87 tt88 tt89 tt90 tt91 tt92 tt93 tt94 tt95 tt96 tt97 tt99 tt100 tt101 tt103 tt104 tt105 tt106 tt107 tt108 tt109 tt110 tt111 tt112 tt113 tt115 tt116 tt117 tt118 tt119 tt120 tt121 tt122 tt123 tt124 tt125 tt126 tt127 tt128 tt129 tt130 tt131 ti1 ti2 ti3 ti4 ti5 ti6 ti7 ti8 ti9 ti10 ti11 ti12 ti13 ti14 ti15 ti16 ti17 ti18 ti19 ti21 ti22 ti23 ti24 ti25 ti26 ti27 ti29 ti30 ti31 ti32 ti33 ti34 ti35 ti36 ti37 ti38 ti39 ti40 ti42 ti43 ti44 ti45 ti46 ti47 ti49 ti50 ti51 ti52 ti53 ti54 ti55 ti57 ti58 ti59 ti60 ti61 ti62 ti63 ti65 ti66 ti67 ti68 ti69 ti70 ti71 ti72 ti73 ti74 ti75 ti76 ti77 ti78 ti79 ti80 ti81 ti82 ti84 ti85 ti86 ti87 ti88 ti89 ti90 ti91 ti92 ti93 ti94 ti95 ti96 ti97 ti99 ti100 ti101 ti103 ti104 ti105 ti106 ti107 ti108 ti109 ti110 ti111 ti112 ti113 ti115 ti116 ti117 ti118 ti119 ti120 ti121 ti122 ti123 ti124 ti125 ti126 ti127 ti128 ti129 ti130 ti131
@[simp] def Ym (x : (List Int)) : List Cell := [.slice .no (Zi .u8 x)]
theorem eS_I_u8_inj : ∀ a b, Ym a = Ym b → a = b := by
  rintro a b h
  simpa [and_assoc] using h
@[simp↓] theorem Zgh (m : List (List Int)) : (∀ l, l ∈ List.map Ym m → l.length = 1) = True := Zgg (fun a => by simp) m
@[simp↓] theorem ZnU (m : List (List Int)) (k : Nat) : (∀ l, l ∈ List.drop k (List.map Ym m) → l.length = 1) = True := eq_true fun l h => of_eq_true (Zgh m) l (List.mem_of_mem_drop h)
@[simp↓] theorem ZnV (m : List (List Int)) (k : Nat) : (∀ l, l ∈ List.take k (List.map Ym m) → l.length = 1) = True := eq_true fun l h => of_eq_true (Zgh m) l (List.mem_of_mem_take h)
@[simp] theorem ZoG {l m : List (List Int)} : List.map Ym l = List.map Ym m ↔ l = m := Zjq eS_I_u8_inj
theorem nfs : (∀ x : (List Int), Ym x = [.slice .no (Zi .u8 x)]) := fun _ => rfl
@[simp] def Zdy (x : ByteArray × Bool) : List Cell := ([.v (.string x.1)]) ++ ([.v (.bool x.2)])
theorem eM_Str_B_he : ∀ a b : ByteArray, kEq ([.v (.string a)]) ([.v (.string b)]) = decide (a = b) := by
  rintro a b
  rw [Bool.eq_iff_iff]
  simp [kEq, kEq1]
@[simp] theorem ZnW {k0 : ByteArray} {l : List (ByteArray × Bool)} : ZcR 1 ([.v (.string k0)]) (List.map Zdy l) = Option.map (fun v : Bool => ([.v (.bool v)] : List Cell)) (Zde k0 l) := Ziu (eK := (fun k : ByteArray => ([.v (.string k)] : List Cell))) (eV := (fun v : Bool => ([.v (.bool v)] : List Cell))) (fun k => by simp) eM_Str_B_he k0 l
@[simp] theorem ZnX {k0 : ByteArray} {v0 : Bool} {l : List (ByteArray × Bool)} : Zdp 1 ([.v (.string k0)]) ([.v (.bool v0)]) (List.map Zdy l) = List.map Zdy (Zdv k0 v0 l) := Ziv (eK := (fun k : ByteArray => ([.v (.string k)] : List Cell))) (eV := (fun v : Bool => ([.v (.bool v)] : List Cell))) (fun k => by simp) eM_Str_B_he k0 v0 l
@[simp] theorem ZoH (o : Option Bool) : (Option.map (fun v : Bool => ([.v (.bool v)] : List Cell)) o).getD ([.v (.bool false)]) = [.v (.bool (o.getD false))] := by cases o <;> rfl
@[simp] theorem Znr {k0 : ByteArray} {v0 : Bool} : Zdp 1 ([.v (.string k0)]) ([.v (.bool v0)]) [] = List.map Zdy (Zdv k0 v0 []) := rfl
variable {G : Glob}
def E56 (x : Int) : List PV := [.one (.v (.int .u64 x))]
theorem E56i : ∀ a b, E56 a = E56 b → a = b := by
  rintro a0 b0 h
  simpa [E56, and_assoc] using h
def R56 (x : Int) (y : Bool) : PV × List (List Cell) := (.one (.v (.bool y)), [])
noncomputable def G56 := Z7 E56 fun x => (Xk x).map (R56 x)
theorem Zlk {a0 : Int} {y : Bool} (h : Xk a0 = some y) : G56 (E56 a0) = some (R56 a0 y) := Zv E56i h
def E39 (x : Int × Int) : List PV := [.one (.v (.int .u64 x.1)), .one (.v (.int .u64 x.2))]
theorem E39i : ∀ a b, E39 a = E39 b → a = b := by
  rintro ⟨a0, a1⟩ ⟨b0, b1⟩ h
  simpa [E39, and_assoc] using h
def R39 (x : Int × Int) (y : Bool) : PV × List (List Cell) := (.one (.v (.bool y)), [])
noncomputable def G39 := Z7 E39 fun x => (ZN x.1 x.2).map (R39 x)
theorem ZaE {a0 : Int} {a1 : Int} {y : Bool} (h : ZN a0 a1 = some y) : G39 (E39 (a0, a1)) = some (R39 (a0, a1) y) := Zv E39i h
def E26 (x : (List Int)) : List PV := [.one (.slice .no (Zi .u64 x))]
theorem E26i : ∀ a b, E26 a = E26 b → a = b := by
  rintro a0 b0 h
  simpa [E26, and_assoc] using h
def R26 (x : (List Int)) (y : Bool) : PV × List (List Cell) := (.one (.v (.bool y)), [])
noncomputable def G26 := Z7 E26 fun x => (Yt x).map (R26 x)
theorem ZnY {a0 : (List Int)} {y : Bool} (h : Yt a0 = some y) : G26 (E26 a0) = some (R26 a0 y) := Zv E26i h
def E40 (x : Tapi_Bits) : List PV := [.agg ([.slice .no (Zi .u8 x.1), .v (.int .i64 x.2)])]
theorem E40i : ∀ a b, E40 a = E40 b → a = b := by
  rintro ⟨a0_0, a0_1⟩ ⟨b0_0, b0_1⟩ h
  simpa [E40, and_assoc] using h
def R40 (x : Tapi_Bits) (y : Bool) : PV × List (List Cell) := (.one (.v (.bool y)), [])
noncomputable def G40 := Z7 E40 fun x => (Zan x).map (R40 x)
theorem ZiO {a0 : Tapi_Bits} {y : Bool} (h : Zan a0 = some y) : G40 (E40 a0) = some (R40 a0 y) := Zv E40i h
def E41 (x : Tapi_Bits) : List PV := [.agg ([.slice .no (Zi .u8 x.1), .v (.int .i64 x.2)])]
theorem E41i : ∀ a b, E41 a = E41 b → a = b := by
  rintro ⟨a0_0, a0_1⟩ ⟨b0_0, b0_1⟩ h
  simpa [E41, and_assoc] using h
def R41 (x : Tapi_Bits) (y : Tapi_Bits) : PV × List (List Cell) := (.io ([.own 1 (Zi .u8 y.1), .v (.int .i64 y.2)]), [])
noncomputable def G41 := Z7 E41 fun x => (Zbf x).map (R41 x)
theorem ZnZ {a0 : Tapi_Bits} {y : Tapi_Bits} (h : Zbf a0 = some y) : G41 (E41 a0) = some (R41 a0 y) := Zv E41i h
def Zdj (x : Tapi_Bits × Bool) : List PV := [.io ([.own 1 (Zi .u8 x.1.1), .v (.int .i64 x.1.2)]), .one (.v (.bool x.2))]
theorem E42_1i : ∀ a b, Zdj a = Zdj b → a = b := by
  rintro ⟨⟨a0_0, a0_1⟩, a1⟩ ⟨⟨b0_0, b0_1⟩, b1⟩ h
  simpa [Zdj, and_assoc] using h
def Zev (x : Tapi_Bits × Bool) (y : Tapi_Bits) : PV × List (List Cell) := (.tup [], [[.own 1 (Zi .u8 y.1), .v (.int .i64 y.2)]])
noncomputable def G42_1 := Z7 Zdj fun x => (Xl x.1 x.2).map (Zev x)
theorem Zgy {a0 : Tapi_Bits} {a1 : Bool} {y : Tapi_Bits} (h : Xl a0 a1 = some y) : G42_1 (Zdj (a0, a1)) = some (Zev (a0, a1) y) := Zv E42_1i h
def Zd5 (x : Tapi_Bits × Int × Int) : List PV := [.io ([.own 1 (Zi .u8 x.1.1), .v (.int .i64 x.1.2)]), .one (.v (.int .u64 x.2.1)), .one (.v (.int .i64 x.2.2))]
theorem E43_2i : ∀ a b, Zd5 a = Zd5 b → a = b := by
  rintro ⟨⟨a0_0, a0_1⟩, a1, a2⟩ ⟨⟨b0_0, b0_1⟩, b1, b2⟩ h
  simpa [Zd5, and_assoc] using h
def Zf1 (x : Tapi_Bits × Int × Int) (y : Tapi_Bits) : PV × List (List Cell) := (.tup [], [[.own 1 (Zi .u8 y.1), .v (.int .i64 y.2)]])
noncomputable def G43_2 := Z7 Zd5 fun x => (Xo x.1 x.2.1 x.2.2).map (Zf1 x)
theorem Zmt {a0 : Tapi_Bits} {a1 : Int} {a2 : Int} {y : Tapi_Bits} (h : Xo a0 a1 a2 = some y) : G43_2 (Zd5 (a0, a1, a2)) = some (Zf1 (a0, a1, a2) y) := Zv E43_2i h
def E27 (x : Tapi_Bits × Int × Int) : List PV := [.agg ([.slice .no (Zi .u8 x.1.1), .v (.int .i64 x.1.2)]), .one (.v (.int .u64 x.2.1)), .one (.v (.int .i64 x.2.2))]
theorem E27i : ∀ a b, E27 a = E27 b → a = b := by
  rintro ⟨⟨a0_0, a0_1⟩, a1, a2⟩ ⟨⟨b0_0, b0_1⟩, b1, b2⟩ h
  simpa [E27, and_assoc] using h
def R27 (x : Tapi_Bits × Int × Int) (y : Tapi_Bits × Int) : PV × List (List Cell) := (.tup [.agg ([.slice .no (Zi .u8 y.1.1), .v (.int .i64 y.1.2)]), .one (.v (.int .i64 y.2))], [])
noncomputable def G27 := Z7 E27 fun x => (Xw x.1 x.2.1 x.2.2).map (R27 x)
theorem Zn0 {a0 : Tapi_Bits} {a1 : Int} {a2 : Int} {y : Tapi_Bits × Int} (h : Xw a0 a1 a2 = some y) : G27 (E27 (a0, a1, a2)) = some (R27 (a0, a1, a2) y) := Zv E27i h
def E13 (x : (List Int) × Int) : List PV := [.one (.slice .no (Zi .u64 x.1)), .one (.v (.int .i64 x.2))]
theorem E13i : ∀ a b, E13 a = E13 b → a = b := by
  rintro ⟨a0, a1⟩ ⟨b0, b1⟩ h
  simpa [E13, and_assoc] using h
def R13 (x : (List Int) × Int) (y : Tapi_Filter × Int) : PV × List (List Cell) := (.tup [.agg ([.v (.int .i64 y.1.1), .slice .no (Zi .u8 y.1.2)]), .one (.v (.int .i64 y.2))], [])
noncomputable def G13 := Z7 E13 fun x => (XB x.1 x.2).map (R13 x)
theorem Zll {a0 : (List Int)} {a1 : Int} {y : Tapi_Filter × Int} (h : XB a0 a1 = some y) : G13 (E13 (a0, a1)) = some (R13 (a0, a1) y) := Zv E13i h
def E58 (x : Int × Int) : List PV := [.one (.v (.int .u64 x.1)), .one (.v (.int .u64 x.2))]
theorem E58i : ∀ a b, E58 a = E58 b → a = b := by
  rintro ⟨a0, a1⟩ ⟨b0, b1⟩ h
  simpa [E58, and_assoc] using h
def R58 (x : Int × Int) (y : Int × Int) : PV × List (List Cell) := (.tup [.one (.v (.int .u64 y.1)), .one (.v (.int .u64 y.2))], [])
noncomputable def G58 := Z7 E58 fun x => (XK x.1 x.2).map (R58 x)
theorem Zlm {a0 : Int} {a1 : Int} {y : Int × Int} (h : XK a0 a1 = some y) : G58 (E58 (a0, a1)) = some (R58 (a0, a1) y) := Zv E58i h
def E47 (x : Int × Int) : List PV := [.one (.v (.int .u64 x.1)), .one (.v (.int .u64 x.2))]
theorem E47i : ∀ a b, E47 a = E47 b → a = b := by
  rintro ⟨a0, a1⟩ ⟨b0, b1⟩ h
  simpa [E47, and_assoc] using h
def R47 (x : Int × Int) (y : Int) : PV × List (List Cell) := (.one (.v (.int .u64 y)), [])
noncomputable def G47 := Z7 E47 fun x => (ZbU x.1 x.2).map (R47 x)
theorem Zn1 {a0 : Int} {a1 : Int} {y : Int} (h : ZbU a0 a1 = some y) : G47 (E47 (a0, a1)) = some (R47 (a0, a1) y) := Zv E47i h
def E67 (x : Int × Int) : List PV := [.one (.v (.int .u64 x.1)), .one (.v (.int .i64 x.2))]
theorem E67i : ∀ a b, E67 a = E67 b → a = b := by
  rintro ⟨a0, a1⟩ ⟨b0, b1⟩ h
  simpa [E67, and_assoc] using h
def R67 (x : Int × Int) (y : Int) : PV × List (List Cell) := (.one (.v (.int .u64 y)), [])
noncomputable def G67 := Z7 E67 fun x => (ZH x.1 x.2).map (R67 x)
theorem Zb3 {a0 : Int} {a1 : Int} {y : Int} (h : ZH a0 a1 = some y) : G67 (E67 (a0, a1)) = some (R67 (a0, a1) y) := Zv E67i h
def E61 (x : (Arr 4) × Int) : List PV := [.agg (arC .u64 x.1), .one (.v (.int .i64 x.2))]
theorem E61i : ∀ a b, E61 a = E61 b → a = b := by
  rintro ⟨a0, a1⟩ ⟨b0, b1⟩ h
  simpa [E61, and_assoc] using h
def R61 (x : (Arr 4) × Int) (y : (Arr 4)) : PV × List (List Cell) := (.agg (arC .u64 y), [])
noncomputable def G61 := Z7 E61 fun x => (Zbg x.1 x.2).map (R61 x)
theorem Zln {a0 : (Arr 4)} {a1 : Int} {y : (Arr 4)} (h : Zbg a0 a1 = some y) : G61 (E61 (a0, a1)) = some (R61 (a0, a1) y) := Zv E61i h
def E59 (x : (Arr 4) × Int) : List PV := [.agg (arC .u64 x.1), .one (.v (.int .u64 x.2))]
theorem E59i : ∀ a b, E59 a = E59 b → a = b := by
  rintro ⟨a0, a1⟩ ⟨b0, b1⟩ h
  simpa [E59, and_assoc] using h
def R59 (x : (Arr 4) × Int) (y : (Arr 4)) : PV × List (List Cell) := (.agg (arC .u64 y), [])
noncomputable def G59 := Z7 E59 fun x => (ZaO x.1 x.2).map (R59 x)
theorem Zlo {a0 : (Arr 4)} {a1 : Int} {y : (Arr 4)} (h : ZaO a0 a1 = some y) : G59 (E59 (a0, a1)) = some (R59 (a0, a1) y) := Zv E59i h
def E60 (x : (List Int)) : List PV := [.one (.slice .no (Zi .u8 x))]
theorem E60i : ∀ a b, E60 a = E60 b → a = b := by
  rintro a0 b0 h
  simpa [E60, and_assoc] using h
def R60 (x : (List Int)) (y : Int) : PV × List (List Cell) := (.one (.v (.int .u64 y)), [])
noncomputable def G60 := Z7 E60 fun x => (Zax x).map (R60 x)
theorem Zlp {a0 : (List Int)} {y : Int} (h : Zax a0 = some y) : G60 (E60 a0) = some (R60 a0 y) := Zv E60i h
def E48 (x : (Arr 2) × (List Int)) : List PV := [.agg (arC .u64 x.1), .one (.slice .no (Zi .u8 x.2))]
theorem E48i : ∀ a b, E48 a = E48 b → a = b := by
  rintro ⟨a0, a1⟩ ⟨b0, b1⟩ h
  simpa [E48, and_assoc] using h
def R48 (x : (Arr 2) × (List Int)) (y : Int) : PV × List (List Cell) := (.one (.v (.int .u64 y)), [])
noncomputable def G48 := Z7 E48 fun x => (Zck x.1 x.2).map (R48 x)
theorem Zn2 {a0 : (Arr 2)} {a1 : (List Int)} {y : Int} (h : Zck a0 a1 = some y) : G48 (E48 (a0, a1)) = some (R48 (a0, a1) y) := Zv E48i h
def E76 (x : Int) : List PV := [.one (.v (.int .u32 x))]
theorem E76i : ∀ a b, E76 a = E76 b → a = b := by
  rintro a0 b0 h
  simpa [E76, and_assoc] using h
def R76 (x : Int) (y : Int) : PV × List (List Cell) := (.one (.v (.int .i64 y)), [])
noncomputable def G76 := Z7 E76 fun x => (ZcU x).map (R76 x)
theorem G76_eq {a0 : Int} {y : Int} (h : ZcU a0 = some y) : G76 (E76 a0) = some (R76 a0 y) := Zv E76i h
def E77 (x : Int) : List PV := [.one (.v (.int .u64 x))]
theorem E77i : ∀ a b, E77 a = E77 b → a = b := by
  rintro a0 b0 h
  simpa [E77, and_assoc] using h
def R77 (x : Int) (y : Int) : PV × List (List Cell) := (.one (.v (.int .i64 y)), [])
noncomputable def G77 := Z7 E77 fun x => (Zbo x).map (R77 x)
theorem Zn3 {a0 : Int} {y : Int} (h : Zbo a0 = some y) : G77 (E77 a0) = some (R77 a0 y) := Zv E77i h
def E63 (x : Int) : List PV := [.one (.v (.int .u64 x))]
theorem E63i : ∀ a b, E63 a = E63 b → a = b := by
  rintro a0 b0 h
  simpa [E63, and_assoc] using h
def R63 (x : Int) (y : Int) : PV × List (List Cell) := (.one (.v (.int .i64 y)), [])
noncomputable def G63 := Z7 E63 fun x => (XV x).map (R63 x)
theorem Zlq {a0 : Int} {y : Int} (h : XV a0 = some y) : G63 (E63 a0) = some (R63 a0 y) := Zv E63i h
def E79 (x : Int) : List PV := [.one (.v (.int .i64 x))]
theorem E79i : ∀ a b, E79 a = E79 b → a = b := by
  rintro a0 b0 h
  simpa [E79, and_assoc] using h
def R79 (x : Int) (y : Int) : PV × List (List Cell) := (.one (.v (.int .u64 y)), [])
noncomputable def G79 := Z7 E79 fun x => (Xg x).map (R79 x)
theorem Zn4 {a0 : Int} {y : Int} (h : Xg a0 = some y) : G79 (E79 a0) = some (R79 a0 y) := Zv E79i h
def E80 (x : Int) : List PV := [.io ([.v (.int .u64 x)])]
theorem E80i : ∀ a b, E80 a = E80 b → a = b := by
  rintro a0 b0 h
  simpa [E80, and_assoc] using h
def R80 (x : Int) (y : Int × Int) : PV × List (List Cell) := (.one (.v (.int .u64 y.1)), [[.v (.int .u64 y.2)]])
noncomputable def G80 := Z7 E80 fun x => (Xs x).map (R80 x)
theorem Zn5 {a0 : Int} {y : Int × Int} (h : Xs a0 = some y) : G80 (E80 a0) = some (R80 a0 y) := Zv E80i h
def E83 (x : (List Int) × Int × Int × Int) : List PV := [.one (.slice .no (Zi .u64 x.1)), .one (.v (.int .i64 x.2.1)), .one (.v (.int .i64 x.2.2.1)), .io ([.v (.int .i64 x.2.2.2)])]
theorem E83i : ∀ a b, E83 a = E83 b → a = b := by
  rintro ⟨a0, a1, a2, a3⟩ ⟨b0, b1, b2, b3⟩ h
  simpa [E83, and_assoc] using h
def R83 (x : (List Int) × Int × Int × Int) (y : Int × Int × Int) : PV × List (List Cell) := (.tup [.one (.v (.int .i64 y.1)), .one (.v (.int .i64 y.2.1))], [[.v (.int .i64 y.2.2)]])
noncomputable def G83 := Z7 E83 fun x => (Yb x.1 x.2.1 x.2.2.1 x.2.2.2).map (R83 x)
theorem ZiP {a0 : (List Int)} {a1 : Int} {a2 : Int} {a3 : Int} {y : Int × Int × Int} (h : Yb a0 a1 a2 a3 = some y) : G83 (E83 (a0, a1, a2, a3)) = some (R83 (a0, a1, a2, a3) y) := Zv E83i h
def E82 (x : (List Int) × Int × Int × Int × Int) : List PV := [.one (.slice .no (Zi .u64 x.1)), .one (.v (.int .i64 x.2.1)), .one (.v (.int .i64 x.2.2.1)), .one (.v (.int .i64 x.2.2.2.1)), .io ([.v (.int .i64 x.2.2.2.2)])]
theorem E82i : ∀ a b, E82 a = E82 b → a = b := by
  rintro ⟨a0, a1, a2, a3, a4⟩ ⟨b0, b1, b2, b3, b4⟩ h
  simpa [E82, and_assoc] using h
def R82 (x : (List Int) × Int × Int × Int × Int) (y : Int × Int) : PV × List (List Cell) := (.one (.v (.int .i64 y.1)), [[.v (.int .i64 y.2)]])
noncomputable def G82 := Z7 E82 fun x => (Yr x.1 x.2.1 x.2.2.1 x.2.2.2.1 x.2.2.2.2).map (R82 x)
theorem Zlr {a0 : (List Int)} {a1 : Int} {a2 : Int} {a3 : Int} {a4 : Int} {y : Int × Int} (h : Yr a0 a1 a2 a3 a4 = some y) : G82 (E82 (a0, a1, a2, a3, a4)) = some (R82 (a0, a1, a2, a3, a4) y) := Zv E82i h
def E81 (x : (List Int) × Int × Int) : List PV := [.one (.slice .no (Zi .u64 x.1)), .one (.v (.int .i64 x.2.1)), .io ([.v (.int .i64 x.2.2)])]
theorem E81i : ∀ a b, E81 a = E81 b → a = b := by
  rintro ⟨a0, a1, a2⟩ ⟨b0, b1, b2⟩ h
  simpa [E81, and_assoc] using h
def R81 (x : (List Int) × Int × Int) (y : Int × Int) : PV × List (List Cell) := (.one (.v (.int .i64 y.1)), [[.v (.int .i64 y.2)]])
noncomputable def G81 := Z7 E81 fun x => (ZO x.1 x.2.1 x.2.2).map (R81 x)
theorem ZiQ {a0 : (List Int)} {a1 : Int} {a2 : Int} {y : Int × Int} (h : ZO a0 a1 a2 = some y) : G81 (E81 (a0, a1, a2)) = some (R81 (a0, a1, a2) y) := Zv E81i h
def E71 (x : (List Int) × Int × Int) : List PV := [.one (.slice .no (Zi .u64 x.1)), .one (.v (.int .i64 x.2.1)), .one (.v (.int .i64 x.2.2))]
theorem E71i : ∀ a b, E71 a = E71 b → a = b := by
  rintro ⟨a0, a1, a2⟩ ⟨b0, b1, b2⟩ h
  simpa [E71, and_assoc] using h
def R71 (x : (List Int) × Int × Int) (y : Int × Int) : PV × List (List Cell) := (.tup [.one (.v (.int .i64 y.1)), .one (.v (.int .i64 y.2))], [])
noncomputable def G71 := Z7 E71 fun x => (Yl x.1 x.2.1 x.2.2).map (R71 x)
theorem Zn6 {a0 : (List Int)} {a1 : Int} {a2 : Int} {y : Int × Int} (h : Yl a0 a1 a2 = some y) : G71 (E71 (a0, a1, a2)) = some (R71 (a0, a1, a2) y) := Zv E71i h
def Zd6 (x : (List Int) × Int × Int) : List PV := [.rio 1 (Zi .u64 x.1), .one (.v (.int .i64 x.2.1)), .one (.v (.int .i64 x.2.2))]
theorem E68_3i : ∀ a b, Zd6 a = Zd6 b → a = b := by
  rintro ⟨a0, a1, a2⟩ ⟨b0, b1, b2⟩ h
  simpa [Zd6, and_assoc] using h
def Zf2 (x : (List Int) × Int × Int) (y : (List Int)) : PV × List (List Cell) := (.tup [], [(Zi .u64 y).flatten])
noncomputable def G68_3 := Z7 Zd6 fun x => (Z8 x.1 x.2.1 x.2.2).map (Zf2 x)
theorem Zmu {a0 : (List Int)} {a1 : Int} {a2 : Int} {y : (List Int)} (h : Z8 a0 a1 a2 = some y) : G68_3 (Zd6 (a0, a1, a2)) = some (Zf2 (a0, a1, a2) y) := Zv E68_3i h
def ZdI (x : (List Int) × Int × Int × Int) : List PV := [.rio 1 (Zi .u64 x.1), .one (.v (.int .i64 x.2.1)), .one (.v (.int .i64 x.2.2.1)), .one (.v (.int .i64 x.2.2.2))]
theorem E78_4i : ∀ a b, ZdI a = ZdI b → a = b := by
  rintro ⟨a0, a1, a2, a3⟩ ⟨b0, b1, b2, b3⟩ h
  simpa [ZdI, and_assoc] using h
def Zfm (x : (List Int) × Int × Int × Int) (y : (List Int)) : PV × List (List Cell) := (.tup [], [(Zi .u64 y).flatten])
noncomputable def G78_4 := Z7 ZdI fun x => (Yu x.1 x.2.1 x.2.2.1 x.2.2.2).map (Zfm x)
theorem ZiR {a0 : (List Int)} {a1 : Int} {a2 : Int} {a3 : Int} {y : (List Int)} (h : Yu a0 a1 a2 a3 = some y) : G78_4 (ZdI (a0, a1, a2, a3)) = some (Zfm (a0, a1, a2, a3) y) := Zv E78_4i h
def Zd7 (x : (List Int) × Int × Int) : List PV := [.rio 1 (Zi .u64 x.1), .one (.v (.int .i64 x.2.1)), .one (.v (.int .i64 x.2.2))]
theorem E69_5i : ∀ a b, Zd7 a = Zd7 b → a = b := by
  rintro ⟨a0, a1, a2⟩ ⟨b0, b1, b2⟩ h
  simpa [Zd7, and_assoc] using h
def Zf3 (x : (List Int) × Int × Int) (y : (List Int)) : PV × List (List Cell) := (.tup [], [(Zi .u64 y).flatten])
noncomputable def G69_5 := Z7 Zd7 fun x => (Yv x.1 x.2.1 x.2.2).map (Zf3 x)
theorem Zmv {a0 : (List Int)} {a1 : Int} {a2 : Int} {y : (List Int)} (h : Yv a0 a1 a2 = some y) : G69_5 (Zd7 (a0, a1, a2)) = some (Zf3 (a0, a1, a2) y) := Zv E69_5i h
def Zd8 (x : (List Int) × Int × Int) : List PV := [.rio 1 (Zi .u64 x.1), .one (.v (.int .i64 x.2.1)), .one (.v (.int .i64 x.2.2))]
theorem E72_6i : ∀ a b, Zd8 a = Zd8 b → a = b := by
  rintro ⟨a0, a1, a2⟩ ⟨b0, b1, b2⟩ h
  simpa [Zd8, and_assoc] using h
def Zf4 (x : (List Int) × Int × Int) (y : (List Int)) : PV × List (List Cell) := (.tup [], [(Zi .u64 y).flatten])
noncomputable def G72_6 := Z7 Zd8 fun x => (Yi x.1 x.2.1 x.2.2).map (Zf4 x)
theorem Zmw {a0 : (List Int)} {a1 : Int} {a2 : Int} {y : (List Int)} (h : Yi a0 a1 a2 = some y) : G72_6 (Zd8 (a0, a1, a2)) = some (Zf4 (a0, a1, a2) y) := Zv E72_6i h
def Zd9 (x : (List Int) × Int × Int) : List PV := [.rio 1 (Zi .u64 x.1), .one (.v (.int .i64 x.2.1)), .one (.v (.int .i64 x.2.2))]
theorem E73_7i : ∀ a b, Zd9 a = Zd9 b → a = b := by
  rintro ⟨a0, a1, a2⟩ ⟨b0, b1, b2⟩ h
  simpa [Zd9, and_assoc] using h
def Zf5 (x : (List Int) × Int × Int) (y : Bool × (List Int)) : PV × List (List Cell) := (.one (.v (.bool y.1)), [(Zi .u64 y.2).flatten])
noncomputable def G73_7 := Z7 Zd9 fun x => (ZT x.1 x.2.1 x.2.2).map (Zf5 x)
theorem Zmx {a0 : (List Int)} {a1 : Int} {a2 : Int} {y : Bool × (List Int)} (h : ZT a0 a1 a2 = some y) : G73_7 (Zd9 (a0, a1, a2)) = some (Zf5 (a0, a1, a2) y) := Zv E73_7i h
def Zdk (x : (List Int) × Int × Int × Int) : List PV := [.rio 1 (Zi .u64 x.1), .one (.v (.int .i64 x.2.1)), .one (.v (.int .i64 x.2.2.1)), .one (.v (.int .i64 x.2.2.2))]
theorem E74_8i : ∀ a b, Zdk a = Zdk b → a = b := by
  rintro ⟨a0, a1, a2, a3⟩ ⟨b0, b1, b2, b3⟩ h
  simpa [Zdk, and_assoc] using h
def Zew (x : (List Int) × Int × Int × Int) (y : Int × (List Int)) : PV × List (List Cell) := (.one (.v (.int .i64 y.1)), [(Zi .u64 y.2).flatten])
noncomputable def G74_8 := Z7 Zdk fun x => (ZW x.1 x.2.1 x.2.2.1 x.2.2.2).map (Zew x)
theorem Zgz {a0 : (List Int)} {a1 : Int} {a2 : Int} {a3 : Int} {y : Int × (List Int)} (h : ZW a0 a1 a2 a3 = some y) : G74_8 (Zdk (a0, a1, a2, a3)) = some (Zew (a0, a1, a2, a3) y) := Zv E74_8i h
def Zcf (x : (List Int) × Int × Int × Int) : List PV := [.rio 1 (Zi .u64 x.1), .one (.v (.int .i64 x.2.1)), .one (.v (.int .i64 x.2.2.1)), .one (.v (.int .i64 x.2.2.2))]
theorem E75_9i : ∀ a b, Zcf a = Zcf b → a = b := by
  rintro ⟨a0, a1, a2, a3⟩ ⟨b0, b1, b2, b3⟩ h
  simpa [Zcf, and_assoc] using h
def Zdl (x : (List Int) × Int × Int × Int) (y : Int × Bool × (List Int)) : PV × List (List Cell) := (.tup [.one (.v (.int .i64 y.1)), .one (.v (.bool y.2.1))], [(Zi .u64 y.2.2).flatten])
noncomputable def G75_9 := Z7 Zcf fun x => (Yc x.1 x.2.1 x.2.2.1 x.2.2.2).map (Zdl x)
theorem Zdz {a0 : (List Int)} {a1 : Int} {a2 : Int} {a3 : Int} {y : Int × Bool × (List Int)} (h : Yc a0 a1 a2 a3 = some y) : G75_9 (Zcf (a0, a1, a2, a3)) = some (Zdl (a0, a1, a2, a3) y) := Zv E75_9i h
def Zdm (x : (List Int) × Int × Int) : List PV := [.rio 1 (Zi .u64 x.1), .one (.v (.int .i64 x.2.1)), .one (.v (.int .i64 x.2.2))]
theorem E70_11i : ∀ a b, Zdm a = Zdm b → a = b := by
  rintro ⟨a0, a1, a2⟩ ⟨b0, b1, b2⟩ h
  simpa [Zdm, and_assoc] using h
def ZeP (x : (List Int) × Int × Int) (y : (List Int)) : PV × List (List Cell) := (.tup [], [(Zi .u64 y).flatten])
noncomputable def G70_11 := Z7 Zdm fun x => (Z9 x.1 x.2.1 x.2.2).map (ZeP x)
theorem Zls {a0 : (List Int)} {a1 : Int} {a2 : Int} {y : (List Int)} (h : Z9 a0 a1 a2 = some y) : G70_11 (Zdm (a0, a1, a2)) = some (ZeP (a0, a1, a2) y) := Zv E70_11i h
def XT (x : (List Int) × Int × Int × Int) : List PV := [.rio 1 (Zi .u64 x.1), .one (.v (.int .i64 x.2.1)), .one (.v (.int .i64 x.2.2.1)), .one (.v (.int .i64 x.2.2.2))]
theorem E62_10i : ∀ a b, XT a = XT b → a = b := by
  rintro ⟨a0, a1, a2, a3⟩ ⟨b0, b1, b2, b3⟩ h
  simpa [XT, and_assoc] using h
def Zal (x : (List Int) × Int × Int × Int) (y : (List Int)) : PV × List (List Cell) := (.tup [], [(Zi .u64 y).flatten])
noncomputable def G62_10 := Z7 XT fun x => (Xx x.1 x.2.1 x.2.2.1 x.2.2.2).map (Zal x)
theorem Zlt {a0 : (List Int)} {a1 : Int} {a2 : Int} {a3 : Int} {y : (List Int)} (h : Xx a0 a1 a2 a3 = some y) : G62_10 (XT (a0, a1, a2, a3)) = some (Zal (a0, a1, a2, a3) y) := Zv E62_10i h
noncomputable def Zf6 (n : Nat) := Z7 XT fun x => (Lslices_pdqsortOrdered_of_uint64_n n x.1 x.2.1 x.2.2.1 x.2.2.2).map (Zal x)
theorem Zab {n : Nat} {a0 : (List Int)} {a1 : Int} {a2 : Int} {a3 : Int} {y : (List Int)} (h : Lslices_pdqsortOrdered_of_uint64_n n a0 a1 a2 a3 = some y) : Zf6 n (XT (a0, a1, a2, a3)) = some (Zal (a0, a1, a2, a3) y) := Zv E62_10i h
def Zdn (x : (List Int)) : List PV := [.rio 1 (Zi .u64 x)]
theorem E49_12i : ∀ a b, Zdn a = Zdn b → a = b := by
  rintro a0 b0 h
  simpa [Zdn, and_assoc] using h
def ZeQ (x : (List Int)) (y : (List Int)) : PV × List (List Cell) := (.tup [], [(Zi .u64 y).flatten])
noncomputable def G49_12 := Z7 Zdn fun x => (YK x).map (ZeQ x)
theorem Zlu {a0 : (List Int)} {y : (List Int)} (h : YK a0 = some y) : G49_12 (Zdn a0) = some (ZeQ a0 y) := Zv E49_12i h
def E30 (x : (Arr 2) × (List (List Int)) × Int × Int) : List PV := [.agg (arC .u64 x.1), .one (.slice .no (List.map Ym x.2.1)), .one (.v (.int .i64 x.2.2.1)), .one (.v (.int .u64 x.2.2.2))]
theorem E30i : ∀ a b, E30 a = E30 b → a = b := by
  rintro ⟨a0, a1, a2, a3⟩ ⟨b0, b1, b2, b3⟩ h
  simpa [E30, and_assoc] using h
def R30 (x : (Arr 2) × (List (List Int)) × Int × Int) (y : (List Int)) : PV × List (List Cell) := (.one (.own 1 (Zi .u64 y)), [])
noncomputable def G30 := Z7 E30 fun x => (XW x.1 x.2.1 x.2.2.1 x.2.2.2).map (R30 x)
theorem Zlv {a0 : (Arr 2)} {a1 : (List (List Int))} {a2 : Int} {a3 : Int} {y : (List Int)} (h : XW a0 a1 a2 a3 = some y) : G30 (E30 (a0, a1, a2, a3)) = some (R30 (a0, a1, a2, a3) y) := Zv E30i h
def E17 (x : (Arr 2) × (List (List Int)) × Int × Int) : List PV := [.agg (arC .u64 x.1), .one (.slice .no (List.map Ym x.2.1)), .one (.v (.int .i64 x.2.2.1)), .one (.v (.int .u64 x.2.2.2))]
theorem E17i : ∀ a b, E17 a = E17 b → a = b := by
  rintro ⟨a0, a1, a2, a3⟩ ⟨b0, b1, b2, b3⟩ h
  simpa [E17, and_assoc] using h
def R17 (x : (Arr 2) × (List (List Int)) × Int × Int) (y : Tapi_Filter × Int) : PV × List (List Cell) := (.tup [.agg ([.v (.int .i64 y.1.1), .slice .no (Zi .u8 y.1.2)]), .one (.v (.int .i64 y.2))], [])
noncomputable def G17 := Z7 E17 fun x => (X6 x.1 x.2.1 x.2.2.1 x.2.2.2).map (R17 x)
theorem Zn7 {a0 : (Arr 2)} {a1 : (List (List Int))} {a2 : Int} {a3 : Int} {y : Tapi_Filter × Int} (h : X6 a0 a1 a2 a3 = some y) : G17 (E17 (a0, a1, a2, a3)) = some (R17 (a0, a1, a2, a3) y) := Zv E17i h
def E12 (x : Unit) : List PV := []
theorem E12i : ∀ a b, E12 a = E12 b → a = b := fun _ _ _ => rfl
def R12 (x : Unit) (y : Bool) : PV × List (List Cell) := (.one (.v (.bool y)), [])
noncomputable def G12 := Z7 E12 fun x => (Llaw19_sane).map (R12 x)
theorem Zn8 {y : Bool} (h : Llaw19_sane  = some y) : G12 (E12 ()) = some (R12 () y) := Zv E12i h
def E16 (x : (List (List Int)) × Int × Int) : List PV := [.one (.slice .no (List.map Ym x.1)), .one (.v (.int .i64 x.2.1)), .one (.v (.int .i64 x.2.2))]
theorem E16i : ∀ a b, E16 a = E16 b → a = b := by
  rintro ⟨a0, a1, a2⟩ ⟨b0, b1, b2⟩ h
  simpa [E16, and_assoc] using h
def R16 (x : (List (List Int)) × Int × Int) (y : Bool) : PV × List (List Cell) := (.one (.v (.bool y)), [])
noncomputable def G16 := Z7 E16 fun x => (ZaR x.1 x.2.1 x.2.2).map (R16 x)
theorem Zlw {a0 : (List (List Int))} {a1 : Int} {a2 : Int} {y : Bool} (h : ZaR a0 a1 a2 = some y) : G16 (E16 (a0, a1, a2)) = some (R16 (a0, a1, a2) y) := Zv E16i h
def E54 (x : Tapi_Bits × Int) : List PV := [.agg ([.slice .no (Zi .u8 x.1.1), .v (.int .i64 x.1.2)]), .one (.v (.int .i64 x.2))]
theorem E54i : ∀ a b, E54 a = E54 b → a = b := by
  rintro ⟨⟨a0_0, a0_1⟩, a1⟩ ⟨⟨b0_0, b0_1⟩, b1⟩ h
  simpa [E54, and_assoc] using h
def R54 (x : Tapi_Bits × Int) (y : Bool) : PV × List (List Cell) := (.one (.v (.bool y)), [])
noncomputable def G54 := Z7 E54 fun x => (ZaP x.1 x.2).map (R54 x)
theorem ZiS {a0 : Tapi_Bits} {a1 : Int} {y : Bool} (h : ZaP a0 a1 = some y) : G54 (E54 (a0, a1)) = some (R54 (a0, a1) y) := Zv E54i h
def E44 (x : Tapi_Bits) : List PV := [.agg ([.slice .no (Zi .u8 x.1), .v (.int .i64 x.2)])]
theorem E44i : ∀ a b, E44 a = E44 b → a = b := by
  rintro ⟨a0_0, a0_1⟩ ⟨b0_0, b0_1⟩ h
  simpa [E44, and_assoc] using h
def R44 (x : Tapi_Bits) (y : Bool) : PV × List (List Cell) := (.one (.v (.bool y)), [])
noncomputable def G44 := Z7 E44 fun x => (X5 x).map (R44 x)
theorem ZiT {a0 : Tapi_Bits} {y : Bool} (h : X5 a0 = some y) : G44 (E44 a0) = some (R44 a0 y) := Zv E44i h
def E57 (x : (List Int) × (List Int)) : List PV := [.one (.slice .no (Zi .u8 x.1)), .one (.slice .no (Zi .u8 x.2))]
theorem E57i : ∀ a b, E57 a = E57 b → a = b := by
  rintro ⟨a0, a1⟩ ⟨b0, b1⟩ h
  simpa [E57, and_assoc] using h
def R57 (x : (List Int) × (List Int)) (y : (List Int)) : PV × List (List Cell) := (.one (.own 1 (Zi .u8 y)), [])
noncomputable def G57 := Z7 E57 fun x => (Zaw x.1 x.2).map (R57 x)
theorem Zn9 {a0 : (List Int)} {a1 : (List Int)} {y : (List Int)} (h : Zaw a0 a1 = some y) : G57 (E57 (a0, a1)) = some (R57 (a0, a1) y) := Zv E57i h
def E45 (x : (List (List Int))) : List PV := [.one (.slice .no (List.map Ym x))]
theorem E45i : ∀ a b, E45 a = E45 b → a = b := by
  rintro a0 b0 h
  simpa [E45, and_assoc] using h
def R45 (x : (List (List Int))) (y : (List Int)) : PV × List (List Cell) := (.one (.own 1 (Zi .u8 y)), [])
noncomputable def G45 := Z7 E45 fun x => (Zbh x).map (R45 x)
theorem Zoa {a0 : (List (List Int))} {y : (List Int)} (h : Zbh a0 = some y) : G45 (E45 a0) = some (R45 a0 y) := Zv E45i h
def Zcm (x : Tapi_Bits × Bool) : List PV := [.agg ([.own 1 (Zi .u8 x.1.1), .v (.int .i64 x.1.2)]), .one (.v (.bool x.2))]
theorem E46_13i : ∀ a b, Zcm a = Zcm b → a = b := by
  rintro ⟨⟨a0_0, a0_1⟩, a1⟩ ⟨⟨b0_0, b0_1⟩, b1⟩ h
  simpa [Zcm, and_assoc] using h
def ZdR (x : Tapi_Bits × Bool) (y : Tapi_Bits) : PV × List (List Cell) := (.agg ([.own 1 (Zi .u8 y.1), .v (.int .i64 y.2)]), [])
noncomputable def G46_13 := Z7 Zcm fun x => (ZaQ x.1 x.2).map (ZdR x)
theorem ZfN {a0 : Tapi_Bits} {a1 : Bool} {y : Tapi_Bits} (h : ZaQ a0 a1 = some y) : G46_13 (Zcm (a0, a1)) = some (ZdR (a0, a1) y) := Zv E46_13i h
def E28 (x : Tapi_Bits × Int × Int) : List PV := [.agg ([.slice .no (Zi .u8 x.1.1), .v (.int .i64 x.1.2)]), .one (.v (.int .u64 x.2.1)), .one (.v (.int .i64 x.2.2))]
theorem E28i : ∀ a b, E28 a = E28 b → a = b := by
  rintro ⟨⟨a0_0, a0_1⟩, a1, a2⟩ ⟨⟨b0_0, b0_1⟩, b1, b2⟩ h
  simpa [E28, and_assoc] using h
def R28 (x : Tapi_Bits × Int × Int) (y : Tapi_Bits × Int) : PV × List (List Cell) := (.tup [.agg ([.slice .no (Zi .u8 y.1.1), .v (.int .i64 y.1.2)]), .one (.v (.int .i64 y.2))], [])
noncomputable def G28 := Z7 E28 fun x => (Xq x.1 x.2.1 x.2.2).map (R28 x)
theorem Zob {a0 : Tapi_Bits} {a1 : Int} {a2 : Int} {y : Tapi_Bits × Int} (h : Xq a0 a1 a2 = some y) : G28 (E28 (a0, a1, a2)) = some (R28 (a0, a1, a2) y) := Zv E28i h
def E14 (x : (List Int) × Int) : List PV := [.one (.slice .no (Zi .u64 x.1)), .one (.v (.int .i64 x.2))]
theorem E14i : ∀ a b, E14 a = E14 b → a = b := by
  rintro ⟨a0, a1⟩ ⟨b0, b1⟩ h
  simpa [E14, and_assoc] using h
def R14 (x : (List Int) × Int) (y : Tapi_Filter × Int) : PV × List (List Cell) := (.tup [.agg ([.v (.int .i64 y.1.1), .slice .no (Zi .u8 y.1.2)]), .one (.v (.int .i64 y.2))], [])
noncomputable def G14 := Z7 E14 fun x => (X7 x.1 x.2).map (R14 x)
theorem Zoc {a0 : (List Int)} {a1 : Int} {y : Tapi_Filter × Int} (h : X7 a0 a1 = some y) : G14 (E14 (a0, a1)) = some (R14 (a0, a1) y) := Zv E14i h
def E29 (x : (List Int) × (List Int)) : List PV := [.one (.slice .no (Zi .u8 x.1)), .one (.slice .no (Zi .u8 x.2))]
theorem E29i : ∀ a b, E29 a = E29 b → a = b := by
  rintro ⟨a0, a1⟩ ⟨b0, b1⟩ h
  simpa [E29, and_assoc] using h
def R29 (x : (List Int) × (List Int)) (y : Bool) : PV × List (List Cell) := (.one (.v (.bool y)), [])
noncomputable def G29 := Z7 E29 fun x => (Zbi x.1 x.2).map (R29 x)
theorem Zod {a0 : (List Int)} {a1 : (List Int)} {y : Bool} (h : Zbi a0 a1 = some y) : G29 (E29 (a0, a1)) = some (R29 (a0, a1) y) := Zv E29i h
def E31 (x : (List (List Int))) : List PV := [.one (.slice .no (List.map Ym x))]
theorem E31i : ∀ a b, E31 a = E31 b → a = b := by
  rintro a0 b0 h
  simpa [E31, and_assoc] using h
def R31 (x : (List (List Int))) (y : (List (List Int))) : PV × List (List Cell) := (.one (.own 1 (List.map Ym y)), [])
noncomputable def G31 := Z7 E31 fun x => (XM x).map (R31 x)
theorem Zoe {a0 : (List (List Int))} {y : (List (List Int))} (h : XM a0 = some y) : G31 (E31 a0) = some (R31 a0 y) := Zv E31i h
def E50 (x : Int × Int) : List PV := [.one (.v (.int .u64 x.1)), .one (.v (.int .u64 x.2))]
theorem E50i : ∀ a b, E50 a = E50 b → a = b := by
  rintro ⟨a0, a1⟩ ⟨b0, b1⟩ h
  simpa [E50, and_assoc] using h
def R50 (x : Int × Int) (y : Int) : PV × List (List Cell) := (.one (.v (.int .u64 y)), [])
noncomputable def G50 := Z7 E50 fun x => (Zbp x.1 x.2).map (R50 x)
theorem Zof {a0 : Int} {a1 : Int} {y : Int} (h : Zbp a0 a1 = some y) : G50 (E50 (a0, a1)) = some (R50 (a0, a1) y) := Zv E50i h
def E66 (x : (Arr 4)) : List PV := [.agg (arC .u64 x)]
theorem E66i : ∀ a b, E66 a = E66 b → a = b := by
  rintro a0 b0 h
  simpa [E66, and_assoc] using h
def R66 (x : (Arr 4)) (y : (Arr 4)) : PV × List (List Cell) := (.agg (arC .u64 y), [])
noncomputable def G66 := Z7 E66 fun x => (Xu x).map (R66 x)
theorem ZeR {a0 : (Arr 4)} {y : (Arr 4)} (h : Xu a0 = some y) : G66 (E66 a0) = some (R66 a0 y) := Zv E66i h
def E64 (x : (Arr 4) × Int) : List PV := [.agg (arC .u64 x.1), .one (.v (.int .u64 x.2))]
theorem E64i : ∀ a b, E64 a = E64 b → a = b := by
  rintro ⟨a0, a1⟩ ⟨b0, b1⟩ h
  simpa [E64, and_assoc] using h
def R64 (x : (Arr 4) × Int) (y : (Arr 4)) : PV × List (List Cell) := (.agg (arC .u64 y), [])
noncomputable def G64 := Z7 E64 fun x => (X8 x.1 x.2).map (R64 x)
theorem Zlx {a0 : (Arr 4)} {a1 : Int} {y : (Arr 4)} (h : X8 a0 a1 = some y) : G64 (E64 (a0, a1)) = some (R64 (a0, a1) y) := Zv E64i h
def E65 (x : (List Int)) : List PV := [.one (.slice .no (Zi .u8 x))]
theorem E65i : ∀ a b, E65 a = E65 b → a = b := by
  rintro a0 b0 h
  simpa [E65, and_assoc] using h
def R65 (x : (List Int)) (y : Int) : PV × List (List Cell) := (.one (.v (.int .u64 y)), [])
noncomputable def G65 := Z7 E65 fun x => (Zbj x).map (R65 x)
theorem Zly {a0 : (List Int)} {y : Int} (h : Zbj a0 = some y) : G65 (E65 a0) = some (R65 a0 y) := Zv E65i h
def E51 (x : (Arr 2) × (List Int)) : List PV := [.agg (arC .u64 x.1), .one (.slice .no (Zi .u8 x.2))]
theorem E51i : ∀ a b, E51 a = E51 b → a = b := by
  rintro ⟨a0, a1⟩ ⟨b0, b1⟩ h
  simpa [E51, and_assoc] using h
def R51 (x : (Arr 2) × (List Int)) (y : Int) : PV × List (List Cell) := (.one (.v (.int .u64 y)), [])
noncomputable def G51 := Z7 E51 fun x => (ZbY x.1 x.2).map (R51 x)
theorem Zog {a0 : (Arr 2)} {a1 : (List Int)} {y : Int} (h : ZbY a0 a1 = some y) : G51 (E51 (a0, a1)) = some (R51 (a0, a1) y) := Zv E51i h
def E32 (x : (Arr 2) × (List Int) × Int × Int) : List PV := [.agg (arC .u64 x.1), .one (.slice .no (Zi .u8 x.2.1)), .one (.v (.int .i64 x.2.2.1)), .one (.v (.int .u64 x.2.2.2))]
theorem E32i : ∀ a b, E32 a = E32 b → a = b := by
  rintro ⟨a0, a1, a2, a3⟩ ⟨b0, b1, b2, b3⟩ h
  simpa [E32, and_assoc] using h
def R32 (x : (Arr 2) × (List Int) × Int × Int) (y : Int) : PV × List (List Cell) := (.one (.v (.int .u64 y)), [])
noncomputable def G32 := Z7 E32 fun x => (Zaq x.1 x.2.1 x.2.2.1 x.2.2.2).map (R32 x)
theorem Zlz {a0 : (Arr 2)} {a1 : (List Int)} {a2 : Int} {a3 : Int} {y : Int} (h : Zaq a0 a1 a2 a3 = some y) : G32 (E32 (a0, a1, a2, a3)) = some (R32 (a0, a1, a2, a3) y) := Zv E32i h
def E33 (x : (List Int)) : List PV := [.one (.slice .no (Zi .u64 x))]
theorem E33i : ∀ a b, E33 a = E33 b → a = b := by
  rintro a0 b0 h
  simpa [E33, and_assoc] using h
def R33 (x : (List Int)) (y : (List Int)) : PV × List (List Cell) := (.one (.slice .no (Zi .u64 y)), [])
noncomputable def G33 := Z7 E33 fun x => (Zb2 x).map (R33 x)
theorem ZlA {a0 : (List Int)} {y : (List Int)} (h : Zb2 a0 = some y) : G33 (E33 a0) = some (R33 a0 y) := Zv E33i h
noncomputable def Zkm (n : Nat) := Z7 E33 fun x => (Lref19_sorted_n n x).map (R33 x)
theorem Zjz {n : Nat} {a0 : (List Int)} {y : (List Int)} (h : Lref19_sorted_n n a0 = some y) : Zkm n (E33 a0) = some (R33 a0 y) := Zv E33i h
def E18 (x : (Arr 2) × (List (List Int)) × Int × Int) : List PV := [.agg (arC .u64 x.1), .one (.slice .no (List.map Ym x.2.1)), .one (.v (.int .i64 x.2.2.1)), .one (.v (.int .u64 x.2.2.2))]
theorem E18i : ∀ a b, E18 a = E18 b → a = b := by
  rintro ⟨a0, a1, a2, a3⟩ ⟨b0, b1, b2, b3⟩ h
  simpa [E18, and_assoc] using h
def R18 (x : (Arr 2) × (List (List Int)) × Int × Int) (y : Tapi_Filter × Int) : PV × List (List Cell) := (.tup [.agg ([.v (.int .i64 y.1.1), .slice .no (Zi .u8 y.1.2)]), .one (.v (.int .i64 y.2))], [])
noncomputable def G18 := Z7 E18 fun x => (Zar x.1 x.2.1 x.2.2.1 x.2.2.2).map (R18 x)
theorem Zoh {a0 : (Arr 2)} {a1 : (List (List Int))} {a2 : Int} {a3 : Int} {y : Tapi_Filter × Int} (h : Zar a0 a1 a2 a3 = some y) : G18 (E18 (a0, a1, a2, a3)) = some (R18 (a0, a1, a2, a3) y) := Zv E18i h
def Zdo (x : (List Int)) : List PV := [.one (.own 1 (Zi .u64 x))]
theorem E34_14i : ∀ a b, Zdo a = Zdo b → a = b := by
  rintro a0 b0 h
  simpa [Zdo, and_assoc] using h
def ZeS (x : (List Int)) (y : (List Int)) : PV × List (List Cell) := (.one (.own 1 (Zi .u64 y)), [])
noncomputable def G34_14 := Z7 Zdo fun x => (Yw x).map (ZeS x)
theorem ZlB {a0 : (List Int)} {y : (List Int)} (h : Yw a0 = some y) : G34_14 (Zdo a0) = some (ZeS a0 y) := Zv E34_14i h
def E19 (x : (Arr 2) × (List (List Int)) × Int × Int) : List PV := [.agg (arC .u64 x.1), .one (.slice .no (List.map Ym x.2.1)), .one (.v (.int .i64 x.2.2.1)), .one (.v (.int .u64 x.2.2.2))]
theorem E19i : ∀ a b, E19 a = E19 b → a = b := by
  rintro ⟨a0, a1, a2, a3⟩ ⟨b0, b1, b2, b3⟩ h
  simpa [E19, and_assoc] using h
def R19 (x : (Arr 2) × (List (List Int)) × Int × Int) (y : (List Int) × Int) : PV × List (List Cell) := (.tup [.one (.slice .no (Zi .u64 y.1)), .one (.v (.int .i64 y.2))], [])
noncomputable def G19 := Z7 E19 fun x => (Zah x.1 x.2.1 x.2.2.1 x.2.2.2).map (R19 x)
theorem Zoi {a0 : (Arr 2)} {a1 : (List (List Int))} {a2 : Int} {a3 : Int} {y : (List Int) × Int} (h : Zah a0 a1 a2 a3 = some y) : G19 (E19 (a0, a1, a2, a3)) = some (R19 (a0, a1, a2, a3) y) := Zv E19i h
def E52 (x : Tapi_Bits × Int) : List PV := [.agg ([.slice .no (Zi .u8 x.1.1), .v (.int .i64 x.1.2)]), .one (.v (.int .i64 x.2))]
theorem E52i : ∀ a b, E52 a = E52 b → a = b := by
  rintro ⟨⟨a0_0, a0_1⟩, a1⟩ ⟨⟨b0_0, b0_1⟩, b1⟩ h
  simpa [E52, and_assoc] using h
def R52 (x : Tapi_Bits × Int) (y : Bool) : PV × List (List Cell) := (.one (.v (.bool y)), [])
noncomputable def G52 := Z7 E52 fun x => (ZbA x.1 x.2).map (R52 x)
theorem ZlC {a0 : Tapi_Bits} {a1 : Int} {y : Bool} (h : ZbA a0 a1 = some y) : G52 (E52 (a0, a1)) = some (R52 (a0, a1) y) := Zv E52i h
def E53 (x : Tapi_Bits × Int × Int) : List PV := [.agg ([.slice .no (Zi .u8 x.1.1), .v (.int .i64 x.1.2)]), .one (.v (.int .i64 x.2.1)), .one (.v (.int .i64 x.2.2))]
theorem E53i : ∀ a b, E53 a = E53 b → a = b := by
  rintro ⟨⟨a0_0, a0_1⟩, a1, a2⟩ ⟨⟨b0_0, b0_1⟩, b1, b2⟩ h
  simpa [E53, and_assoc] using h
def R53 (x : Tapi_Bits × Int × Int) (y : Int) : PV × List (List Cell) := (.one (.v (.int .u64 y)), [])
noncomputable def G53 := Z7 E53 fun x => (Zas x.1 x.2.1 x.2.2).map (R53 x)
theorem ZlD {a0 : Tapi_Bits} {a1 : Int} {a2 : Int} {y : Int} (h : Zas a0 a1 a2 = some y) : G53 (E53 (a0, a1, a2)) = some (R53 (a0, a1, a2) y) := Zv E53i h
def E35 (x : Tapi_Bits × Int × Int) : List PV := [.agg ([.slice .no (Zi .u8 x.1.1), .v (.int .i64 x.1.2)]), .one (.v (.int .i64 x.2.1)), .one (.v (.int .i64 x.2.2))]
theorem E35i : ∀ a b, E35 a = E35 b → a = b := by
  rintro ⟨⟨a0_0, a0_1⟩, a1, a2⟩ ⟨⟨b0_0, b0_1⟩, b1, b2⟩ h
  simpa [E35, and_assoc] using h
def R35 (x : Tapi_Bits × Int × Int) (y : Int × Int × Int) : PV × List (List Cell) := (.tup [.one (.v (.int .u64 y.1)), .one (.v (.int .i64 y.2.1)), .one (.v (.int .i64 y.2.2))], [])
noncomputable def G35 := Z7 E35 fun x => (Zai x.1 x.2.1 x.2.2).map (R35 x)
theorem Zoj {a0 : Tapi_Bits} {a1 : Int} {a2 : Int} {y : Int × Int × Int} (h : Zai a0 a1 a2 = some y) : G35 (E35 (a0, a1, a2)) = some (R35 (a0, a1, a2) y) := Zv E35i h
def E36 (x : Tapi_Bits × Int × Int) : List PV := [.agg ([.slice .no (Zi .u8 x.1.1), .v (.int .i64 x.1.2)]), .one (.v (.int .i64 x.2.1)), .one (.v (.int .i64 x.2.2))]
theorem E36i : ∀ a b, E36 a = E36 b → a = b := by
  rintro ⟨⟨a0_0, a0_1⟩, a1, a2⟩ ⟨⟨b0_0, b0_1⟩, b1, b2⟩ h
  simpa [E36, and_assoc] using h
def R36 (x : Tapi_Bits × Int × Int) (y : Int × Int × Int) : PV × List (List Cell) := (.tup [.one (.v (.int .u64 y.1)), .one (.v (.int .i64 y.2.1)), .one (.v (.int .i64 y.2.2))], [])
noncomputable def G36 := Z7 E36 fun x => (ZbZ x.1 x.2.1 x.2.2).map (R36 x)
theorem Zok {a0 : Tapi_Bits} {a1 : Int} {a2 : Int} {y : Int × Int × Int} (h : ZbZ a0 a1 a2 = some y) : G36 (E36 (a0, a1, a2)) = some (R36 (a0, a1, a2) y) := Zv E36i h
def E22 (x : Tapi_Filter × Int) : List PV := [.agg ([.v (.int .i64 x.1.1), .slice .no (Zi .u8 x.1.2)]), .one (.v (.int .i64 x.2))]
theorem E22i : ∀ a b, E22 a = E22 b → a = b := by
  rintro ⟨⟨a0_0, a0_1⟩, a1⟩ ⟨⟨b0_0, b0_1⟩, b1⟩ h
  simpa [E22, and_assoc] using h
def R22 (x : Tapi_Filter × Int) (y : (List Int) × Int) : PV × List (List Cell) := (.tup [.one (.slice .no (Zi .u64 y.1)), .one (.v (.int .i64 y.2))], [])
noncomputable def G22 := Z7 E22 fun x => (Zaj x.1 x.2).map (R22 x)
theorem Zol {a0 : Tapi_Filter} {a1 : Int} {y : (List Int) × Int} (h : Zaj a0 a1 = some y) : G22 (E22 (a0, a1)) = some (R22 (a0, a1) y) := Zv E22i h
def E24 (x : (Arr 2) × Tapi_Filter × (List (List Int)) × Int × Int) : List PV := [.agg (arC .u64 x.1), .agg ([.v (.int .i64 x.2.1.1), .slice .no (Zi .u8 x.2.1.2)]), .one (.slice .no (List.map Ym x.2.2.1)), .one (.v (.int .i64 x.2.2.2.1)), .one (.v (.int .u64 x.2.2.2.2))]
theorem E24i : ∀ a b, E24 a = E24 b → a = b := by
  rintro ⟨a0, ⟨a1_0, a1_1⟩, a2, a3, a4⟩ ⟨b0, ⟨b1_0, b1_1⟩, b2, b3, b4⟩ h
  simpa [E24, and_assoc] using h
def R24 (x : (Arr 2) × Tapi_Filter × (List (List Int)) × Int × Int) (y : Bool × Int) : PV × List (List Cell) := (.tup [.one (.v (.bool y.1)), .one (.v (.int .i64 y.2))], [])
noncomputable def G24 := Z7 E24 fun x => (Zaa x.1 x.2.1 x.2.2.1 x.2.2.2.1 x.2.2.2.2).map (R24 x)
theorem ZlE {a0 : (Arr 2)} {a1 : Tapi_Filter} {a2 : (List (List Int))} {a3 : Int} {a4 : Int} {y : Bool × Int} (h : Zaa a0 a1 a2 a3 a4 = some y) : G24 (E24 (a0, a1, a2, a3, a4)) = some (R24 (a0, a1, a2, a3, a4) y) := Zv E24i h
def E20 (x : (Arr 2) × (List (List Int)) × Int × Int) : List PV := [.agg (arC .u64 x.1), .one (.slice .no (List.map Ym x.2.1)), .one (.v (.int .i64 x.2.2.1)), .one (.v (.int .u64 x.2.2.2))]
theorem E20i : ∀ a b, E20 a = E20 b → a = b := by
  rintro ⟨a0, a1, a2, a3⟩ ⟨b0, b1, b2, b3⟩ h
  simpa [E20, and_assoc] using h
def R20 (x : (Arr 2) × (List (List Int)) × Int × Int) (y : (List Int) × Int) : PV × List (List Cell) := (.tup [.one (.slice .no (Zi .u64 y.1)), .one (.v (.int .i64 y.2))], [])
noncomputable def G20 := Z7 E20 fun x => (Zaz x.1 x.2.1 x.2.2.1 x.2.2.2).map (R20 x)
theorem Zom {a0 : (Arr 2)} {a1 : (List (List Int))} {a2 : Int} {a3 : Int} {y : (List Int) × Int} (h : Zaz a0 a1 a2 a3 = some y) : G20 (E20 (a0, a1, a2, a3)) = some (R20 (a0, a1, a2, a3) y) := Zv E20i h
def E55 (x : Tapi_Bits × Int × Int) : List PV := [.agg ([.slice .no (Zi .u8 x.1.1), .v (.int .i64 x.1.2)]), .one (.v (.int .i64 x.2.1)), .one (.v (.int .i64 x.2.2))]
theorem E55i : ∀ a b, E55 a = E55 b → a = b := by
  rintro ⟨⟨a0_0, a0_1⟩, a1, a2⟩ ⟨⟨b0_0, b0_1⟩, b1, b2⟩ h
  simpa [E55, and_assoc] using h
def R55 (x : Tapi_Bits × Int × Int) (y : Int) : PV × List (List Cell) := (.one (.v (.int .u64 y)), [])
noncomputable def G55 := Z7 E55 fun x => (X9 x.1 x.2.1 x.2.2).map (R55 x)
theorem ZlF {a0 : Tapi_Bits} {a1 : Int} {a2 : Int} {y : Int} (h : X9 a0 a1 a2 = some y) : G55 (E55 (a0, a1, a2)) = some (R55 (a0, a1, a2) y) := Zv E55i h
def E37 (x : Tapi_Bits × Int × Int) : List PV := [.agg ([.slice .no (Zi .u8 x.1.1), .v (.int .i64 x.1.2)]), .one (.v (.int .i64 x.2.1)), .one (.v (.int .i64 x.2.2))]
theorem E37i : ∀ a b, E37 a = E37 b → a = b := by
  rintro ⟨⟨a0_0, a0_1⟩, a1, a2⟩ ⟨⟨b0_0, b0_1⟩, b1, b2⟩ h
  simpa [E37, and_assoc] using h
def R37 (x : Tapi_Bits × Int × Int) (y : Int × Int × Int) : PV × List (List Cell) := (.tup [.one (.v (.int .u64 y.1)), .one (.v (.int .i64 y.2.1)), .one (.v (.int .i64 y.2.2))], [])
noncomputable def G37 := Z7 E37 fun x => (X1 x.1 x.2.1 x.2.2).map (R37 x)
theorem Zon {a0 : Tapi_Bits} {a1 : Int} {a2 : Int} {y : Int × Int × Int} (h : X1 a0 a1 a2 = some y) : G37 (E37 (a0, a1, a2)) = some (R37 (a0, a1, a2) y) := Zv E37i h
def E38 (x : Tapi_Bits × Int × Int) : List PV := [.agg ([.slice .no (Zi .u8 x.1.1), .v (.int .i64 x.1.2)]), .one (.v (.int .i64 x.2.1)), .one (.v (.int .i64 x.2.2))]
theorem E38i : ∀ a b, E38 a = E38 b → a = b := by
  rintro ⟨⟨a0_0, a0_1⟩, a1, a2⟩ ⟨⟨b0_0, b0_1⟩, b1, b2⟩ h
  simpa [E38, and_assoc] using h
def R38 (x : Tapi_Bits × Int × Int) (y : Int × Int × Int) : PV × List (List Cell) := (.tup [.one (.v (.int .u64 y.1)), .one (.v (.int .i64 y.2.1)), .one (.v (.int .i64 y.2.2))], [])
noncomputable def G38 := Z7 E38 fun x => (ZbC x.1 x.2.1 x.2.2).map (R38 x)
theorem Zoo {a0 : Tapi_Bits} {a1 : Int} {a2 : Int} {y : Int × Int × Int} (h : ZbC a0 a1 a2 = some y) : G38 (E38 (a0, a1, a2)) = some (R38 (a0, a1, a2) y) := Zv E38i h
def E23 (x : Tapi_Filter × Int) : List PV := [.agg ([.v (.int .i64 x.1.1), .slice .no (Zi .u8 x.1.2)]), .one (.v (.int .i64 x.2))]
theorem E23i : ∀ a b, E23 a = E23 b → a = b := by
  rintro ⟨⟨a0_0, a0_1⟩, a1⟩ ⟨⟨b0_0, b0_1⟩, b1⟩ h
  simpa [E23, and_assoc] using h
def R23 (x : Tapi_Filter × Int) (y : (List Int) × Int) : PV × List (List Cell) := (.tup [.one (.slice .no (Zi .u64 y.1)), .one (.v (.int .i64 y.2))], [])
noncomputable def G23 := Z7 E23 fun x => (ZaA x.1 x.2).map (R23 x)
theorem Zop {a0 : Tapi_Filter} {a1 : Int} {y : (List Int) × Int} (h : ZaA a0 a1 = some y) : G23 (E23 (a0, a1)) = some (R23 (a0, a1) y) := Zv E23i h
def E25 (x : (Arr 2) × Tapi_Filter × (List (List Int)) × Int × Int) : List PV := [.agg (arC .u64 x.1), .agg ([.v (.int .i64 x.2.1.1), .slice .no (Zi .u8 x.2.1.2)]), .one (.slice .no (List.map Ym x.2.2.1)), .one (.v (.int .i64 x.2.2.2.1)), .one (.v (.int .u64 x.2.2.2.2))]
theorem E25i : ∀ a b, E25 a = E25 b → a = b := by
  rintro ⟨a0, ⟨a1_0, a1_1⟩, a2, a3, a4⟩ ⟨b0, ⟨b1_0, b1_1⟩, b2, b3, b4⟩ h
  simpa [E25, and_assoc] using h
def R25 (x : (Arr 2) × Tapi_Filter × (List (List Int)) × Int × Int) (y : Bool × Int) : PV × List (List Cell) := (.tup [.one (.v (.bool y.1)), .one (.v (.int .i64 y.2))], [])
noncomputable def G25 := Z7 E25 fun x => (Zat x.1 x.2.1 x.2.2.1 x.2.2.2.1 x.2.2.2.2).map (R25 x)
theorem ZlG {a0 : (Arr 2)} {a1 : Tapi_Filter} {a2 : (List (List Int))} {a3 : Int} {a4 : Int} {y : Bool × Int} (h : Zat a0 a1 a2 a3 a4 = some y) : G25 (E25 (a0, a1, a2, a3, a4)) = some (R25 (a0, a1, a2, a3, a4) y) := Zv E25i h
def E9 (x : (Arr 2) × Tapi_Filter × (List (List Int)) × (List (List Int)) × Int × Int) : List PV := [.agg (arC .u64 x.1), .agg ([.v (.int .i64 x.2.1.1), .slice .no (Zi .u8 x.2.1.2)]), .one (.slice .no (List.map Ym x.2.2.1)), .one (.slice .no (List.map Ym x.2.2.2.1)), .one (.v (.int .i64 x.2.2.2.2.1)), .one (.v (.int .u64 x.2.2.2.2.2))]
theorem E9i : ∀ a b, E9 a = E9 b → a = b := by
  rintro ⟨a0, ⟨a1_0, a1_1⟩, a2, a3, a4, a5⟩ ⟨b0, ⟨b1_0, b1_1⟩, b2, b3, b4, b5⟩ h
  simpa [E9, and_assoc] using h
def R9 (x : (Arr 2) × Tapi_Filter × (List (List Int)) × (List (List Int)) × Int × Int) (y : Bool) : PV × List (List Cell) := (.one (.v (.bool y)), [])
noncomputable def G9 := Z7 E9 fun x => (Xz x.1 x.2.1 x.2.2.1 x.2.2.2.1 x.2.2.2.2.1 x.2.2.2.2.2).map (R9 x)
theorem Zo5 {a0 : (Arr 2)} {a1 : Tapi_Filter} {a2 : (List (List Int))} {a3 : (List (List Int))} {a4 : Int} {a5 : Int} {y : Bool} (h : Xz a0 a1 a2 a3 a4 a5 = some y) : G9 (E9 (a0, a1, a2, a3, a4, a5)) = some (R9 (a0, a1, a2, a3, a4, a5) y) := Zv E9i h
end Go.Proofs.Ytmjbklblgpnagaa
