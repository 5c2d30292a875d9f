import Derived.Test.YtmjbklblgpnagaaLcG2
import Derived.Test.YtmjbklblgpnagaaLcG1
import Derived.Test.YtmjbklblgpnagaaLcG1
import Derived.Test.YtmjbklblgpnagaaTt
namespace Go.Proofs.Ytmjbklblgpnagaa
open Go.RowKit
open Go.Av
open Go.Lc
set_option maxRecDepth 100000
set_option linter.unusedSimpArgs false
set_option linter.unusedVariables false
attribute [simp] tt1 tt2 tt3 tt4 tt5 tt6 tt7 tt8 tt9 tt10 tt11 tt12 tt13 tt14 tt15 tt16 tt17 tt18 tt19 tt21 tt22 tt23 tt24 tt25 tt26 tt27 tt29 tt30 tt31 tt32 tt33 tt34 tt35 tt36 tt37 tt38 tt39 tt40 tt42 tt43 tt44 tt45 tt46 tt47 tt49 tt50 tt51 tt52 tt53 tt54 tt55 tt57 tt58 tt59 tt60 tt61 tt62 tt63 tt65 tt66 tt67 tt68 tt69 tt70 tt71 tt72 tt73 tt74 tt75 tt76 tt77 tt78 tt79 tt80 tt81 tt82 tt84 tt85 tt86 tt87 tt88 tt89 tt90 tt91 tt92 tt93 tt94 tt95 tt96 tt97 tt99 tt100 tt101 tt103 tt104 tt105 tt106 tt107 tt108 tt109 tt110 tt111 tt112 tt113 tt115 tt116 tt117 tt118 tt119 tt120 tt121 tt122 tt123 tt124 tt125 tt126 tt127 tt128 tt129 tt130 tt131 ti1 ti2 ti3 ti4 ti5 ti6 ti7 ti8 ti9 ti10 ti11 ti12 ti13 ti14 ti15 ti16 ti17 ti18 ti19 ti21 ti22 ti23 ti24 ti25 ti26 ti27 ti29 ti30 ti31 ti32 ti33 ti34 ti35 ti36 ti37 ti38 ti39 ti40 ti42 ti43 ti44 ti45 ti46 ti47 ti49 ti50 ti51 ti52 ti53 ti54 ti55 ti57 ti58 ti59 ti60 ti61 ti62 ti63 ti65 ti66 ti67 ti68 ti69 ti70 ti71 ti72 ti73 ti74 ti75 ti76 ti77 ti78 ti79 ti80 ti81 ti82 ti84 ti85 ti86 ti87 ti88 ti89 ti90 ti91 ti92 ti93 ti94 ti95 ti96 ti97 ti99 ti100 ti101 ti103 ti104 ti105 ti106 ti107 ti108 ti109 ti110 ti111 ti112 ti113 ti115 ti116 ti117 ti118 ti119 ti120 ti121 ti122 ti123 ti124 ti125 ti126 ti127 ti128 ti129 ti130 ti131
def OeS_I_u16 (x : (List Int)) : Prop := x.length ≤ maxLen ∧ ∀ a ∈ x, (0 ≤ a ∧ a ≤ 65535)
@[simp] def eS_I_u8 (x : (List Int)) : List Cell := [.slice .no (intsR .u8 x)]
theorem eS_I_u8_inj : ∀ a b, eS_I_u8 a = eS_I_u8 b → a = b := by
  rintro a b h
  simpa [and_assoc] using h
@[simp↓] theorem eS_I_u8_all (m : List (List Int)) : (∀ l, l ∈ List.map eS_I_u8 m → l.length = 1) = True := all_map_len (fun a => by simp) m
@[simp↓] theorem eS_I_u8_alld (m : List (List Int)) (k : Nat) : (∀ l, l ∈ List.drop k (List.map eS_I_u8 m) → l.length = 1) = True := eq_true fun l h => of_eq_true (eS_I_u8_all m) l (List.mem_of_mem_drop h)
@[simp↓] theorem eS_I_u8_allt (m : List (List Int)) (k : Nat) : (∀ l, l ∈ List.take k (List.map eS_I_u8 m) → l.length = 1) = True := eq_true fun l h => of_eq_true (eS_I_u8_all m) l (List.mem_of_mem_take h)
@[simp] theorem eS_I_u8_map {l m : List (List Int)} : List.map eS_I_u8 l = List.map eS_I_u8 m ↔ l = m := map_iff eS_I_u8_inj
theorem nfs : (∀ x : (List Int), eS_I_u8 x = [.slice .no (intsR .u8 x)]) := fun _ => rfl
@[simp] def eM_Str_B (x : ByteArray × Bool) : List Cell := ([.v (.string x.1)]) ++ ([.v (.bool x.2)])
theorem eM_Str_B_he : ∀ a b : ByteArray, kEq ([.v (.string a)]) ([.v (.string b)]) = decide (a = b) := by
  rintro a b
  rw [Bool.eq_iff_iff]
  simp [kEq, kEq1]
@[simp] theorem eM_Str_B_get {k0 : ByteArray} {l : List (ByteArray × Bool)} : getM 1 ([.v (.string k0)]) (List.map eM_Str_B l) = Option.map (fun v : Bool => ([.v (.bool v)] : List Cell)) (mget k0 l) := getM_map (eK := (fun k : ByteArray => ([.v (.string k)] : List Cell))) (eV := (fun v : Bool => ([.v (.bool v)] : List Cell))) (fun k => by simp) eM_Str_B_he k0 l
@[simp] theorem eM_Str_B_put {k0 : ByteArray} {v0 : Bool} {l : List (ByteArray × Bool)} : putM 1 ([.v (.string k0)]) ([.v (.bool v0)]) (List.map eM_Str_B l) = List.map eM_Str_B (mput k0 v0 l) := putM_map (eK := (fun k : ByteArray => ([.v (.string k)] : List Cell))) (eV := (fun v : Bool => ([.v (.bool v)] : List Cell))) (fun k => by simp) eM_Str_B_he k0 v0 l
@[simp] theorem eM_Str_B_gd (o : Option Bool) : (Option.map (fun v : Bool => ([.v (.bool v)] : List Cell)) o).getD ([.v (.bool false)]) = [.v (.bool (o.getD false))] := by cases o <;> rfl
@[simp] theorem eM_Str_B_put0 {k0 : ByteArray} {v0 : Bool} : putM 1 ([.v (.string k0)]) ([.v (.bool v0)]) [] = List.map eM_Str_B (mput k0 v0 []) := rfl
variable {G : Glob}
def E56 (x : Int) : List PV := [.one (.v (.int .u64 x))]
theorem E56i : ∀ a b, E56 a = E56 b → a = b := by
  rintro a0 b0 h
  simpa [E56, and_assoc] using h
def R56 (x : Int) (y : Bool) : PV × List (List Cell) := (.one (.v (.bool y)), [])
noncomputable def G56 := lift E56 fun x => (Lcmp_isNaN_of_uint64 x).map (R56 x)
theorem G56_eq {a0 : Int} {y : Bool} (h : Lcmp_isNaN_of_uint64 a0 = some y) : G56 (E56 a0) = some (R56 a0 y) := lift_som E56i h
def E39 (x : Int × Int) : List PV := [.one (.v (.int .u64 x.1)), .one (.v (.int .u64 x.2))]
theorem E39i : ∀ a b, E39 a = E39 b → a = b := by
  rintro ⟨a0, a1⟩ ⟨b0, b1⟩ h
  simpa [E39, and_assoc] using h
def R39 (x : Int × Int) (y : Bool) : PV × List (List Cell) := (.one (.v (.bool y)), [])
noncomputable def G39 := lift E39 fun x => (Lcmp_Less_of_uint64 x.1 x.2).map (R39 x)
theorem G39_eq {a0 : Int} {a1 : Int} {y : Bool} (h : Lcmp_Less_of_uint64 a0 a1 = some y) : G39 (E39 (a0, a1)) = some (R39 (a0, a1) y) := lift_som E39i h
def E26 (x : (List Int)) : List PV := [.one (.slice .no (intsR .u64 x))]
theorem E26i : ∀ a b, E26 a = E26 b → a = b := by
  rintro a0 b0 h
  simpa [E26, and_assoc] using h
def R26 (x : (List Int)) (y : Bool) : PV × List (List Cell) := (.one (.v (.bool y)), [])
noncomputable def G26 := lift E26 fun x => (Lslices_IsSorted_of__uint64_uint64 x).map (R26 x)
theorem G26_eq {a0 : (List Int)} {y : Bool} (h : Lslices_IsSorted_of__uint64_uint64 a0 = some y) : G26 (E26 a0) = some (R26 a0 y) := lift_som E26i h
def E40 (x : Tapi_Bits) : List PV := [.agg ([.slice .no (intsR .u8 x.1), .v (.int .i64 x.2)])]
theorem E40i : ∀ a b, E40 a = E40 b → a = b := by
  rintro ⟨a0_0, a0_1⟩ ⟨b0_0, b0_1⟩ h
  simpa [E40, and_assoc] using h
def R40 (x : Tapi_Bits) (y : Bool) : PV × List (List Cell) := (.one (.v (.bool y)), [])
noncomputable def G40 := lift E40 fun x => (Lbits_Valid x).map (R40 x)
theorem G40_eq {a0 : Tapi_Bits} {y : Bool} (h : Lbits_Valid a0 = some y) : G40 (E40 a0) = some (R40 a0 y) := lift_som E40i h
def E41 (x : Tapi_Bits) : List PV := [.agg ([.slice .no (intsR .u8 x.1), .v (.int .i64 x.2)])]
theorem E41i : ∀ a b, E41 a = E41 b → a = b := by
  rintro ⟨a0_0, a0_1⟩ ⟨b0_0, b0_1⟩ h
  simpa [E41, and_assoc] using h
def R41 (x : Tapi_Bits) (y : Tapi_Bits) : PV × List (List Cell) := (.io ([.own 1 (intsR .u8 y.1), .v (.int .i64 y.2)]), [])
noncomputable def G41 := lift E41 fun x => (Lbits_begin x).map (R41 x)
theorem G41_eq {a0 : Tapi_Bits} {y : Tapi_Bits} (h : Lbits_begin a0 = some y) : G41 (E41 a0) = some (R41 a0 y) := lift_som E41i h
def E42_1 (x : Tapi_Bits × Bool) : List PV := [.io ([.own 1 (intsR .u8 x.1.1), .v (.int .i64 x.1.2)]), .one (.v (.bool x.2))]
theorem E42_1i : ∀ a b, E42_1 a = E42_1 b → a = b := by
  rintro ⟨⟨a0_0, a0_1⟩, a1⟩ ⟨⟨b0_0, b0_1⟩, b1⟩ h
  simpa [E42_1, and_assoc] using h
def R42_1 (x : Tapi_Bits × Bool) (y : Tapi_Bits) : PV × List (List Cell) := (.tup [], [[.own 1 (intsR .u8 y.1), .v (.int .i64 y.2)]])
noncomputable def G42_1 := lift E42_1 fun x => (Lbits_writer_put x.1 x.2).map (R42_1 x)
theorem G42_1_eq {a0 : Tapi_Bits} {a1 : Bool} {y : Tapi_Bits} (h : Lbits_writer_put a0 a1 = some y) : G42_1 (E42_1 (a0, a1)) = some (R42_1 (a0, a1) y) := lift_som E42_1i h
def E43_2 (x : Tapi_Bits × Int × Int) : List PV := [.io ([.own 1 (intsR .u8 x.1.1), .v (.int .i64 x.1.2)]), .one (.v (.int .u64 x.2.1)), .one (.v (.int .i64 x.2.2))]
theorem E43_2i : ∀ a b, E43_2 a = E43_2 b → a = b := by
  rintro ⟨⟨a0_0, a0_1⟩, a1, a2⟩ ⟨⟨b0_0, b0_1⟩, b1, b2⟩ h
  simpa [E43_2, and_assoc] using h
def R43_2 (x : Tapi_Bits × Int × Int) (y : Tapi_Bits) : PV × List (List Cell) := (.tup [], [[.own 1 (intsR .u8 y.1), .v (.int .i64 y.2)]])
noncomputable def G43_2 := lift E43_2 fun x => (Lbits_writer_number x.1 x.2.1 x.2.2).map (R43_2 x)
theorem G43_2_eq {a0 : Tapi_Bits} {a1 : Int} {a2 : Int} {y : Tapi_Bits} (h : Lbits_writer_number a0 a1 a2 = some y) : G43_2 (E43_2 (a0, a1, a2)) = some (R43_2 (a0, a1, a2) y) := lift_som E43_2i h
def E27 (x : Tapi_Bits × Int × Int) : List PV := [.agg ([.slice .no (intsR .u8 x.1.1), .v (.int .i64 x.1.2)]), .one (.v (.int .u64 x.2.1)), .one (.v (.int .i64 x.2.2))]
theorem E27i : ∀ a b, E27 a = E27 b → a = b := by
  rintro ⟨⟨a0_0, a0_1⟩, a1, a2⟩ ⟨⟨b0_0, b0_1⟩, b1, b2⟩ h
  simpa [E27, and_assoc] using h
def R27 (x : Tapi_Bits × Int × Int) (y : Tapi_Bits × Int) : PV × List (List Cell) := (.tup [.agg ([.slice .no (intsR .u8 y.1.1), .v (.int .i64 y.1.2)]), .one (.v (.int .i64 y.2))], [])
noncomputable def G27 := lift E27 fun x => (Lbits_AppendRice x.1 x.2.1 x.2.2).map (R27 x)
theorem G27_eq {a0 : Tapi_Bits} {a1 : Int} {a2 : Int} {y : Tapi_Bits × Int} (h : Lbits_AppendRice a0 a1 a2 = some y) : G27 (E27 (a0, a1, a2)) = some (R27 (a0, a1, a2) y) := lift_som E27i h
def E13 (x : (List Int) × Int) : List PV := [.one (.slice .no (intsR .u64 x.1)), .one (.v (.int .i64 x.2))]
theorem E13i : ∀ a b, E13 a = E13 b → a = b := by
  rintro ⟨a0, a1⟩ ⟨b0, b1⟩ h
  simpa [E13, and_assoc] using h
def R13 (x : (List Int) × Int) (y : Tapi_Filter × Int) : PV × List (List Cell) := (.tup [.agg ([.v (.int .i64 y.1.1), .slice .no (intsR .u8 y.1.2)]), .one (.v (.int .i64 y.2))], [])
noncomputable def G13 := lift E13 fun x => (Lgolomb_Encode x.1 x.2).map (R13 x)
theorem G13_eq {a0 : (List Int)} {a1 : Int} {y : Tapi_Filter × Int} (h : Lgolomb_Encode a0 a1 = some y) : G13 (E13 (a0, a1)) = some (R13 (a0, a1) y) := lift_som E13i h
def E58 (x : Int × Int) : List PV := [.one (.v (.int .u64 x.1)), .one (.v (.int .u64 x.2))]
theorem E58i : ∀ a b, E58 a = E58 b → a = b := by
  rintro ⟨a0, a1⟩ ⟨b0, b1⟩ h
  simpa [E58, and_assoc] using h
def R58 (x : Int × Int) (y : Int × Int) : PV × List (List Cell) := (.tup [.one (.v (.int .u64 y.1)), .one (.v (.int .u64 y.2))], [])
noncomputable def G58 := lift E58 fun x => (Lmath_bits_Mul64 x.1 x.2).map (R58 x)
theorem G58_eq {a0 : Int} {a1 : Int} {y : Int × Int} (h : Lmath_bits_Mul64 a0 a1 = some y) : G58 (E58 (a0, a1)) = some (R58 (a0, a1) y) := lift_som E58i h
def E47 (x : Int × Int) : List PV := [.one (.v (.int .u64 x.1)), .one (.v (.int .u64 x.2))]
theorem E47i : ∀ a b, E47 a = E47 b → a = b := by
  rintro ⟨a0, a1⟩ ⟨b0, b1⟩ h
  simpa [E47, and_assoc] using h
def R47 (x : Int × Int) (y : Int) : PV × List (List Cell) := (.one (.v (.int .u64 y)), [])
noncomputable def G47 := lift E47 fun x => (Lsip_Scale x.1 x.2).map (R47 x)
theorem G47_eq {a0 : Int} {a1 : Int} {y : Int} (h : Lsip_Scale a0 a1 = some y) : G47 (E47 (a0, a1)) = some (R47 (a0, a1) y) := lift_som E47i h
def E67 (x : Int × Int) : List PV := [.one (.v (.int .u64 x.1)), .one (.v (.int .i64 x.2))]
theorem E67i : ∀ a b, E67 a = E67 b → a = b := by
  rintro ⟨a0, a1⟩ ⟨b0, b1⟩ h
  simpa [E67, and_assoc] using h
def R67 (x : Int × Int) (y : Int) : PV × List (List Cell) := (.one (.v (.int .u64 y)), [])
noncomputable def G67 := lift E67 fun x => (Lmath_bits_RotateLeft64 x.1 x.2).map (R67 x)
theorem G67_eq {a0 : Int} {a1 : Int} {y : Int} (h : Lmath_bits_RotateLeft64 a0 a1 = some y) : G67 (E67 (a0, a1)) = some (R67 (a0, a1) y) := lift_som E67i h
def E61 (x : (Arr 4) × Int) : List PV := [.agg (arC .u64 x.1), .one (.v (.int .i64 x.2))]
theorem E61i : ∀ a b, E61 a = E61 b → a = b := by
  rintro ⟨a0, a1⟩ ⟨b0, b1⟩ h
  simpa [E61, and_assoc] using h
def R61 (x : (Arr 4) × Int) (y : (Arr 4)) : PV × List (List Cell) := (.agg (arC .u64 y), [])
noncomputable def G61 := lift E61 fun x => (Lsip_rounds x.1 x.2).map (R61 x)
theorem G61_eq {a0 : (Arr 4)} {a1 : Int} {y : (Arr 4)} (h : Lsip_rounds a0 a1 = some y) : G61 (E61 (a0, a1)) = some (R61 (a0, a1) y) := lift_som E61i h
def E59 (x : (Arr 4) × Int) : List PV := [.agg (arC .u64 x.1), .one (.v (.int .u64 x.2))]
theorem E59i : ∀ a b, E59 a = E59 b → a = b := by
  rintro ⟨a0, a1⟩ ⟨b0, b1⟩ h
  simpa [E59, and_assoc] using h
def R59 (x : (Arr 4) × Int) (y : (Arr 4)) : PV × List (List Cell) := (.agg (arC .u64 y), [])
noncomputable def G59 := lift E59 fun x => (Lsip_absorb x.1 x.2).map (R59 x)
theorem G59_eq {a0 : (Arr 4)} {a1 : Int} {y : (Arr 4)} (h : Lsip_absorb a0 a1 = some y) : G59 (E59 (a0, a1)) = some (R59 (a0, a1) y) := lift_som E59i h
def E60 (x : (List Int)) : List PV := [.one (.slice .no (intsR .u8 x))]
theorem E60i : ∀ a b, E60 a = E60 b → a = b := by
  rintro a0 b0 h
  simpa [E60, and_assoc] using h
def R60 (x : (List Int)) (y : Int) : PV × List (List Cell) := (.one (.v (.int .u64 y)), [])
noncomputable def G60 := lift E60 fun x => (Lsip_word x).map (R60 x)
theorem G60_eq {a0 : (List Int)} {y : Int} (h : Lsip_word a0 = some y) : G60 (E60 a0) = some (R60 a0 y) := lift_som E60i h
def E48 (x : (Arr 2) × (List Int)) : List PV := [.agg (arC .u64 x.1), .one (.slice .no (intsR .u8 x.2))]
theorem E48i : ∀ a b, E48 a = E48 b → a = b := by
  rintro ⟨a0, a1⟩ ⟨b0, b1⟩ h
  simpa [E48, and_assoc] using h
def R48 (x : (Arr 2) × (List Int)) (y : Int) : PV × List (List Cell) := (.one (.v (.int .u64 y)), [])
noncomputable def G48 := lift E48 fun x => (Lsip_Sum x.1 x.2).map (R48 x)
theorem G48_eq {a0 : (Arr 2)} {a1 : (List Int)} {y : Int} (h : Lsip_Sum a0 a1 = some y) : G48 (E48 (a0, a1)) = some (R48 (a0, a1) y) := lift_som E48i h
def E76 (x : Int) : List PV := [.one (.v (.int .u32 x))]
theorem E76i : ∀ a b, E76 a = E76 b → a = b := by
  rintro a0 b0 h
  simpa [E76, and_assoc] using h
def R76 (x : Int) (y : Int) : PV × List (List Cell) := (.one (.v (.int .i64 y)), [])
noncomputable def G76 := lift E76 fun x => (Lmath_bits_Len32 x).map (R76 x)
theorem G76_eq {a0 : Int} {y : Int} (h : Lmath_bits_Len32 a0 = some y) : G76 (E76 a0) = some (R76 a0 y) := lift_som E76i h
def E77 (x : Int) : List PV := [.one (.v (.int .u64 x))]
theorem E77i : ∀ a b, E77 a = E77 b → a = b := by
  rintro a0 b0 h
  simpa [E77, and_assoc] using h
def R77 (x : Int) (y : Int) : PV × List (List Cell) := (.one (.v (.int .i64 y)), [])
noncomputable def G77 := lift E77 fun x => (Lmath_bits_Len64 x).map (R77 x)
theorem G77_eq {a0 : Int} {y : Int} (h : Lmath_bits_Len64 a0 = some y) : G77 (E77 a0) = some (R77 a0 y) := lift_som E77i h
def E63 (x : Int) : List PV := [.one (.v (.int .u64 x))]
theorem E63i : ∀ a b, E63 a = E63 b → a = b := by
  rintro a0 b0 h
  simpa [E63, and_assoc] using h
def R63 (x : Int) (y : Int) : PV × List (List Cell) := (.one (.v (.int .i64 y)), [])
noncomputable def G63 := lift E63 fun x => (Lmath_bits_Len x).map (R63 x)
theorem G63_eq {a0 : Int} {y : Int} (h : Lmath_bits_Len a0 = some y) : G63 (E63 a0) = some (R63 a0 y) := lift_som E63i h
def E79 (x : Int) : List PV := [.one (.v (.int .i64 x))]
theorem E79i : ∀ a b, E79 a = E79 b → a = b := by
  rintro a0 b0 h
  simpa [E79, and_assoc] using h
def R79 (x : Int) (y : Int) : PV × List (List Cell) := (.one (.v (.int .u64 y)), [])
noncomputable def G79 := lift E79 fun x => (Lslices_nextPowerOfTwo x).map (R79 x)
theorem G79_eq {a0 : Int} {y : Int} (h : Lslices_nextPowerOfTwo a0 = some y) : G79 (E79 a0) = some (R79 a0 y) := lift_som E79i h
def E80 (x : Int) : List PV := [.io ([.v (.int .u64 x)])]
theorem E80i : ∀ a b, E80 a = E80 b → a = b := by
  rintro a0 b0 h
  simpa [E80, and_assoc] using h
def R80 (x : Int) (y : Int × Int) : PV × List (List Cell) := (.one (.v (.int .u64 y.1)), [[.v (.int .u64 y.2)]])
noncomputable def G80 := lift E80 fun x => (Lslices_xorshift_Next x).map (R80 x)
theorem G80_eq {a0 : Int} {y : Int × Int} (h : Lslices_xorshift_Next a0 = some y) : G80 (E80 a0) = some (R80 a0 y) := lift_som E80i h
def E83 (x : (List Int) × Int × Int × Int) : List PV := [.one (.slice .no (intsR .u64 x.1)), .one (.v (.int .i64 x.2.1)), .one (.v (.int .i64 x.2.2.1)), .io ([.v (.int .i64 x.2.2.2)])]
theorem E83i : ∀ a b, E83 a = E83 b → a = b := by
  rintro ⟨a0, a1, a2, a3⟩ ⟨b0, b1, b2, b3⟩ h
  simpa [E83, and_assoc] using h
def R83 (x : (List Int) × Int × Int × Int) (y : Int × Int × Int) : PV × List (List Cell) := (.tup [.one (.v (.int .i64 y.1)), .one (.v (.int .i64 y.2.1))], [[.v (.int .i64 y.2.2)]])
noncomputable def G83 := lift E83 fun x => (Lslices_order2Ordered_of_uint64 x.1 x.2.1 x.2.2.1 x.2.2.2).map (R83 x)
theorem G83_eq {a0 : (List Int)} {a1 : Int} {a2 : Int} {a3 : Int} {y : Int × Int × Int} (h : Lslices_order2Ordered_of_uint64 a0 a1 a2 a3 = some y) : G83 (E83 (a0, a1, a2, a3)) = some (R83 (a0, a1, a2, a3) y) := lift_som E83i h
def E82 (x : (List Int) × Int × Int × Int × Int) : List PV := [.one (.slice .no (intsR .u64 x.1)), .one (.v (.int .i64 x.2.1)), .one (.v (.int .i64 x.2.2.1)), .one (.v (.int .i64 x.2.2.2.1)), .io ([.v (.int .i64 x.2.2.2.2)])]
theorem E82i : ∀ a b, E82 a = E82 b → a = b := by
  rintro ⟨a0, a1, a2, a3, a4⟩ ⟨b0, b1, b2, b3, b4⟩ h
  simpa [E82, and_assoc] using h
def R82 (x : (List Int) × Int × Int × Int × Int) (y : Int × Int) : PV × List (List Cell) := (.one (.v (.int .i64 y.1)), [[.v (.int .i64 y.2)]])
noncomputable def G82 := lift E82 fun x => (Lslices_medianOrdered_of_uint64 x.1 x.2.1 x.2.2.1 x.2.2.2.1 x.2.2.2.2).map (R82 x)
theorem G82_eq {a0 : (List Int)} {a1 : Int} {a2 : Int} {a3 : Int} {a4 : Int} {y : Int × Int} (h : Lslices_medianOrdered_of_uint64 a0 a1 a2 a3 a4 = some y) : G82 (E82 (a0, a1, a2, a3, a4)) = some (R82 (a0, a1, a2, a3, a4) y) := lift_som E82i h
def E81 (x : (List Int) × Int × Int) : List PV := [.one (.slice .no (intsR .u64 x.1)), .one (.v (.int .i64 x.2.1)), .io ([.v (.int .i64 x.2.2)])]
theorem E81i : ∀ a b, E81 a = E81 b → a = b := by
  rintro ⟨a0, a1, a2⟩ ⟨b0, b1, b2⟩ h
  simpa [E81, and_assoc] using h
def R81 (x : (List Int) × Int × Int) (y : Int × Int) : PV × List (List Cell) := (.one (.v (.int .i64 y.1)), [[.v (.int .i64 y.2)]])
noncomputable def G81 := lift E81 fun x => (Lslices_medianAdjacentOrdered_of_uint64 x.1 x.2.1 x.2.2).map (R81 x)
theorem G81_eq {a0 : (List Int)} {a1 : Int} {a2 : Int} {y : Int × Int} (h : Lslices_medianAdjacentOrdered_of_uint64 a0 a1 a2 = some y) : G81 (E81 (a0, a1, a2)) = some (R81 (a0, a1, a2) y) := lift_som E81i h
def E71 (x : (List Int) × Int × Int) : List PV := [.one (.slice .no (intsR .u64 x.1)), .one (.v (.int .i64 x.2.1)), .one (.v (.int .i64 x.2.2))]
theorem E71i : ∀ a b, E71 a = E71 b → a = b := by
  rintro ⟨a0, a1, a2⟩ ⟨b0, b1, b2⟩ h
  simpa [E71, and_assoc] using h
def R71 (x : (List Int) × Int × Int) (y : Int × Int) : PV × List (List Cell) := (.tup [.one (.v (.int .i64 y.1)), .one (.v (.int .i64 y.2))], [])
noncomputable def G71 := lift E71 fun x => (Lslices_choosePivotOrdered_of_uint64 x.1 x.2.1 x.2.2).map (R71 x)
theorem G71_eq {a0 : (List Int)} {a1 : Int} {a2 : Int} {y : Int × Int} (h : Lslices_choosePivotOrdered_of_uint64 a0 a1 a2 = some y) : G71 (E71 (a0, a1, a2)) = some (R71 (a0, a1, a2) y) := lift_som E71i h
def E68_3 (x : (List Int) × Int × Int) : List PV := [.rio 1 (intsR .u64 x.1), .one (.v (.int .i64 x.2.1)), .one (.v (.int .i64 x.2.2))]
theorem E68_3i : ∀ a b, E68_3 a = E68_3 b → a = b := by
  rintro ⟨a0, a1, a2⟩ ⟨b0, b1, b2⟩ h
  simpa [E68_3, and_assoc] using h
def R68_3 (x : (List Int) × Int × Int) (y : (List Int)) : PV × List (List Cell) := (.tup [], [(intsR .u64 y).flatten])
noncomputable def G68_3 := lift E68_3 fun x => (Lslices_insertionSortOrdered_of_uint64 x.1 x.2.1 x.2.2).map (R68_3 x)
theorem G68_3_eq {a0 : (List Int)} {a1 : Int} {a2 : Int} {y : (List Int)} (h : Lslices_insertionSortOrdered_of_uint64 a0 a1 a2 = some y) : G68_3 (E68_3 (a0, a1, a2)) = some (R68_3 (a0, a1, a2) y) := lift_som E68_3i h
def E78_4 (x : (List Int) × Int × Int × Int) : List PV := [.rio 1 (intsR .u64 x.1), .one (.v (.int .i64 x.2.1)), .one (.v (.int .i64 x.2.2.1)), .one (.v (.int .i64 x.2.2.2))]
theorem E78_4i : ∀ a b, E78_4 a = E78_4 b → a = b := by
  rintro ⟨a0, a1, a2, a3⟩ ⟨b0, b1, b2, b3⟩ h
  simpa [E78_4, and_assoc] using h
def R78_4 (x : (List Int) × Int × Int × Int) (y : (List Int)) : PV × List (List Cell) := (.tup [], [(intsR .u64 y).flatten])
noncomputable def G78_4 := lift E78_4 fun x => (Lslices_siftDownOrdered_of_uint64 x.1 x.2.1 x.2.2.1 x.2.2.2).map (R78_4 x)
theorem G78_4_eq {a0 : (List Int)} {a1 : Int} {a2 : Int} {a3 : Int} {y : (List Int)} (h : Lslices_siftDownOrdered_of_uint64 a0 a1 a2 a3 = some y) : G78_4 (E78_4 (a0, a1, a2, a3)) = some (R78_4 (a0, a1, a2, a3) y) := lift_som E78_4i h
def E69_5 (x : (List Int) × Int × Int) : List PV := [.rio 1 (intsR .u64 x.1), .one (.v (.int .i64 x.2.1)), .one (.v (.int .i64 x.2.2))]
theorem E69_5i : ∀ a b, E69_5 a = E69_5 b → a = b := by
  rintro ⟨a0, a1, a2⟩ ⟨b0, b1, b2⟩ h
  simpa [E69_5, and_assoc] using h
def R69_5 (x : (List Int) × Int × Int) (y : (List Int)) : PV × List (List Cell) := (.tup [], [(intsR .u64 y).flatten])
noncomputable def G69_5 := lift E69_5 fun x => (Lslices_heapSortOrdered_of_uint64 x.1 x.2.1 x.2.2).map (R69_5 x)
theorem G69_5_eq {a0 : (List Int)} {a1 : Int} {a2 : Int} {y : (List Int)} (h : Lslices_heapSortOrdered_of_uint64 a0 a1 a2 = some y) : G69_5 (E69_5 (a0, a1, a2)) = some (R69_5 (a0, a1, a2) y) := lift_som E69_5i h
def E72_6 (x : (List Int) × Int × Int) : List PV := [.rio 1 (intsR .u64 x.1), .one (.v (.int .i64 x.2.1)), .one (.v (.int .i64 x.2.2))]
theorem E72_6i : ∀ a b, E72_6 a = E72_6 b → a = b := by
  rintro ⟨a0, a1, a2⟩ ⟨b0, b1, b2⟩ h
  simpa [E72_6, and_assoc] using h
def R72_6 (x : (List Int) × Int × Int) (y : (List Int)) : PV × List (List Cell) := (.tup [], [(intsR .u64 y).flatten])
noncomputable def G72_6 := lift E72_6 fun x => (Lslices_reverseRangeOrdered_of_uint64 x.1 x.2.1 x.2.2).map (R72_6 x)
theorem G72_6_eq {a0 : (List Int)} {a1 : Int} {a2 : Int} {y : (List Int)} (h : Lslices_reverseRangeOrdered_of_uint64 a0 a1 a2 = some y) : G72_6 (E72_6 (a0, a1, a2)) = some (R72_6 (a0, a1, a2) y) := lift_som E72_6i h
def E73_7 (x : (List Int) × Int × Int) : List PV := [.rio 1 (intsR .u64 x.1), .one (.v (.int .i64 x.2.1)), .one (.v (.int .i64 x.2.2))]
theorem E73_7i : ∀ a b, E73_7 a = E73_7 b → a = b := by
  rintro ⟨a0, a1, a2⟩ ⟨b0, b1, b2⟩ h
  simpa [E73_7, and_assoc] using h
def R73_7 (x : (List Int) × Int × Int) (y : Bool × (List Int)) : PV × List (List Cell) := (.one (.v (.bool y.1)), [(intsR .u64 y.2).flatten])
noncomputable def G73_7 := lift E73_7 fun x => (Lslices_partialInsertionSortOrdered_of_uint64 x.1 x.2.1 x.2.2).map (R73_7 x)
theorem G73_7_eq {a0 : (List Int)} {a1 : Int} {a2 : Int} {y : Bool × (List Int)} (h : Lslices_partialInsertionSortOrdered_of_uint64 a0 a1 a2 = some y) : G73_7 (E73_7 (a0, a1, a2)) = some (R73_7 (a0, a1, a2) y) := lift_som E73_7i h
def E74_8 (x : (List Int) × Int × Int × Int) : List PV := [.rio 1 (intsR .u64 x.1), .one (.v (.int .i64 x.2.1)), .one (.v (.int .i64 x.2.2.1)), .one (.v (.int .i64 x.2.2.2))]
theorem E74_8i : ∀ a b, E74_8 a = E74_8 b → a = b := by
  rintro ⟨a0, a1, a2, a3⟩ ⟨b0, b1, b2, b3⟩ h
  simpa [E74_8, and_assoc] using h
def R74_8 (x : (List Int) × Int × Int × Int) (y : Int × (List Int)) : PV × List (List Cell) := (.one (.v (.int .i64 y.1)), [(intsR .u64 y.2).flatten])
noncomputable def G74_8 := lift E74_8 fun x => (Lslices_partitionEqualOrdered_of_uint64 x.1 x.2.1 x.2.2.1 x.2.2.2).map (R74_8 x)
theorem G74_8_eq {a0 : (List Int)} {a1 : Int} {a2 : Int} {a3 : Int} {y : Int × (List Int)} (h : Lslices_partitionEqualOrdered_of_uint64 a0 a1 a2 a3 = some y) : G74_8 (E74_8 (a0, a1, a2, a3)) = some (R74_8 (a0, a1, a2, a3) y) := lift_som E74_8i h
def E75_9 (x : (List Int) × Int × Int × Int) : List PV := [.rio 1 (intsR .u64 x.1), .one (.v (.int .i64 x.2.1)), .one (.v (.int .i64 x.2.2.1)), .one (.v (.int .i64 x.2.2.2))]
theorem E75_9i : ∀ a b, E75_9 a = E75_9 b → a = b := by
  rintro ⟨a0, a1, a2, a3⟩ ⟨b0, b1, b2, b3⟩ h
  simpa [E75_9, and_assoc] using h
def R75_9 (x : (List Int) × Int × Int × Int) (y : Int × Bool × (List Int)) : PV × List (List Cell) := (.tup [.one (.v (.int .i64 y.1)), .one (.v (.bool y.2.1))], [(intsR .u64 y.2.2).flatten])
noncomputable def G75_9 := lift E75_9 fun x => (Lslices_partitionOrdered_of_uint64 x.1 x.2.1 x.2.2.1 x.2.2.2).map (R75_9 x)
theorem G75_9_eq {a0 : (List Int)} {a1 : Int} {a2 : Int} {a3 : Int} {y : Int × Bool × (List Int)} (h : Lslices_partitionOrdered_of_uint64 a0 a1 a2 a3 = some y) : G75_9 (E75_9 (a0, a1, a2, a3)) = some (R75_9 (a0, a1, a2, a3) y) := lift_som E75_9i h
def E70_11 (x : (List Int) × Int × Int) : List PV := [.rio 1 (intsR .u64 x.1), .one (.v (.int .i64 x.2.1)), .one (.v (.int .i64 x.2.2))]
theorem E70_11i : ∀ a b, E70_11 a = E70_11 b → a = b := by
  rintro ⟨a0, a1, a2⟩ ⟨b0, b1, b2⟩ h
  simpa [E70_11, and_assoc] using h
def R70_11 (x : (List Int) × Int × Int) (y : (List Int)) : PV × List (List Cell) := (.tup [], [(intsR .u64 y).flatten])
noncomputable def G70_11 := lift E70_11 fun x => (Lslices_breakPatternsOrdered_of_uint64 x.1 x.2.1 x.2.2).map (R70_11 x)
theorem G70_11_eq {a0 : (List Int)} {a1 : Int} {a2 : Int} {y : (List Int)} (h : Lslices_breakPatternsOrdered_of_uint64 a0 a1 a2 = some y) : G70_11 (E70_11 (a0, a1, a2)) = some (R70_11 (a0, a1, a2) y) := lift_som E70_11i h
def E62_10 (x : (List Int) × Int × Int × Int) : List PV := [.rio 1 (intsR .u64 x.1), .one (.v (.int .i64 x.2.1)), .one (.v (.int .i64 x.2.2.1)), .one (.v (.int .i64 x.2.2.2))]
theorem E62_10i : ∀ a b, E62_10 a = E62_10 b → a = b := by
  rintro ⟨a0, a1, a2, a3⟩ ⟨b0, b1, b2, b3⟩ h
  simpa [E62_10, and_assoc] using h
def R62_10 (x : (List Int) × Int × Int × Int) (y : (List Int)) : PV × List (List Cell) := (.tup [], [(intsR .u64 y).flatten])
noncomputable def G62_10 := lift E62_10 fun x => (Lslices_pdqsortOrdered_of_uint64 x.1 x.2.1 x.2.2.1 x.2.2.2).map (R62_10 x)
theorem G62_10_eq {a0 : (List Int)} {a1 : Int} {a2 : Int} {a3 : Int} {y : (List Int)} (h : Lslices_pdqsortOrdered_of_uint64 a0 a1 a2 a3 = some y) : G62_10 (E62_10 (a0, a1, a2, a3)) = some (R62_10 (a0, a1, a2, a3) y) := lift_som E62_10i h
noncomputable def G62_10n (n : Nat) := lift E62_10 fun x => (Lslices_pdqsortOrdered_of_uint64_n n x.1 x.2.1 x.2.2.1 x.2.2.2).map (R62_10 x)
theorem G62_10n_eq {n : Nat} {a0 : (List Int)} {a1 : Int} {a2 : Int} {a3 : Int} {y : (List Int)} (h : Lslices_pdqsortOrdered_of_uint64_n n a0 a1 a2 a3 = some y) : G62_10n n (E62_10 (a0, a1, a2, a3)) = some (R62_10 (a0, a1, a2, a3) y) := lift_som E62_10i h
def E49_12 (x : (List Int)) : List PV := [.rio 1 (intsR .u64 x)]
theorem E49_12i : ∀ a b, E49_12 a = E49_12 b → a = b := by
  rintro a0 b0 h
  simpa [E49_12, and_assoc] using h
def R49_12 (x : (List Int)) (y : (List Int)) : PV × List (List Cell) := (.tup [], [(intsR .u64 y).flatten])
noncomputable def G49_12 := lift E49_12 fun x => (Lslices_Sort_of__uint64_uint64 x).map (R49_12 x)
theorem G49_12_eq {a0 : (List Int)} {y : (List Int)} (h : Lslices_Sort_of__uint64_uint64 a0 = some y) : G49_12 (E49_12 a0) = some (R49_12 a0 y) := lift_som E49_12i h
def E30 (x : (Arr 2) × (List (List Int)) × Int × Int) : List PV := [.agg (arC .u64 x.1), .one (.slice .no (List.map eS_I_u8 x.2.1)), .one (.v (.int .i64 x.2.2.1)), .one (.v (.int .u64 x.2.2.2))]
theorem E30i : ∀ a b, E30 a = E30 b → a = b := by
  rintro ⟨a0, a1, a2, a3⟩ ⟨b0, b1, b2, b3⟩ h
  simpa [E30, and_assoc] using h
def R30 (x : (Arr 2) × (List (List Int)) × Int × Int) (y : (List Int)) : PV × List (List Cell) := (.one (.own 1 (intsR .u64 y)), [])
noncomputable def G30 := lift E30 fun x => (Lgolomb_values x.1 x.2.1 x.2.2.1 x.2.2.2).map (R30 x)
theorem G30_eq {a0 : (Arr 2)} {a1 : (List (List Int))} {a2 : Int} {a3 : Int} {y : (List Int)} (h : Lgolomb_values a0 a1 a2 a3 = some y) : G30 (E30 (a0, a1, a2, a3)) = some (R30 (a0, a1, a2, a3) y) := lift_som E30i h
def E17 (x : (Arr 2) × (List (List Int)) × Int × Int) : List PV := [.agg (arC .u64 x.1), .one (.slice .no (List.map eS_I_u8 x.2.1)), .one (.v (.int .i64 x.2.2.1)), .one (.v (.int .u64 x.2.2.2))]
theorem E17i : ∀ a b, E17 a = E17 b → a = b := by
  rintro ⟨a0, a1, a2, a3⟩ ⟨b0, b1, b2, b3⟩ h
  simpa [E17, and_assoc] using h
def R17 (x : (Arr 2) × (List (List Int)) × Int × Int) (y : Tapi_Filter × Int) : PV × List (List Cell) := (.tup [.agg ([.v (.int .i64 y.1.1), .slice .no (intsR .u8 y.1.2)]), .one (.v (.int .i64 y.2))], [])
noncomputable def G17 := lift E17 fun x => (Lgolomb_Build x.1 x.2.1 x.2.2.1 x.2.2.2).map (R17 x)
theorem G17_eq {a0 : (Arr 2)} {a1 : (List (List Int))} {a2 : Int} {a3 : Int} {y : Tapi_Filter × Int} (h : Lgolomb_Build a0 a1 a2 a3 = some y) : G17 (E17 (a0, a1, a2, a3)) = some (R17 (a0, a1, a2, a3) y) := lift_som E17i h
def E12 (x : Unit) : List PV := []
theorem E12i : ∀ a b, E12 a = E12 b → a = b := fun _ _ _ => rfl
def R12 (x : Unit) (y : Bool) : PV × List (List Cell) := (.one (.v (.bool y)), [])
noncomputable def G12 := lift E12 fun x => (Llaw19_sane).map (R12 x)
theorem G12_eq {y : Bool} (h : Llaw19_sane  = some y) : G12 (E12 ()) = some (R12 () y) := lift_som E12i h
def E29 (x : (List Int) × (List Int)) : List PV := [.one (.slice .no (intsR .u8 x.1)), .one (.slice .no (intsR .u8 x.2))]
theorem E29i : ∀ a b, E29 a = E29 b → a = b := by
  rintro ⟨a0, a1⟩ ⟨b0, b1⟩ h
  simpa [E29, and_assoc] using h
def R29 (x : (List Int) × (List Int)) (y : Bool) : PV × List (List Cell) := (.one (.v (.bool y)), [])
noncomputable def G29 := lift E29 fun x => (Lref01_Same x.1 x.2).map (R29 x)
theorem G29_eq {a0 : (List Int)} {a1 : (List Int)} {y : Bool} (h : Lref01_Same a0 a1 = some y) : G29 (E29 (a0, a1)) = some (R29 (a0, a1) y) := lift_som E29i h
def E15 (x : Tapi_Filter × Tapi_Filter) : List PV := [.agg ([.v (.int .i64 x.1.1), .slice .no (intsR .u8 x.1.2)]), .agg ([.v (.int .i64 x.2.1), .slice .no (intsR .u8 x.2.2)])]
theorem E15i : ∀ a b, E15 a = E15 b → a = b := by
  rintro ⟨⟨a0_0, a0_1⟩, ⟨a1_0, a1_1⟩⟩ ⟨⟨b0_0, b0_1⟩, ⟨b1_0, b1_1⟩⟩ h
  simpa [E15, and_assoc] using h
def R15 (x : Tapi_Filter × Tapi_Filter) (y : Bool) : PV × List (List Cell) := (.one (.v (.bool y)), [])
noncomputable def G15 := lift E15 fun x => (Lref19_Same x.1 x.2).map (R15 x)
theorem G15_eq {a0 : Tapi_Filter} {a1 : Tapi_Filter} {y : Bool} (h : Lref19_Same a0 a1 = some y) : G15 (E15 (a0, a1)) = some (R15 (a0, a1) y) := lift_som E15i h
def E21 (x : (List Int) × (List Int)) : List PV := [.one (.slice .no (intsR .u64 x.1)), .one (.slice .no (intsR .u64 x.2))]
theorem E21i : ∀ a b, E21 a = E21 b → a = b := by
  rintro ⟨a0, a1⟩ ⟨b0, b1⟩ h
  simpa [E21, and_assoc] using h
def R21 (x : (List Int) × (List Int)) (y : Bool) : PV × List (List Cell) := (.one (.v (.bool y)), [])
noncomputable def G21 := lift E21 fun x => (Llaw19_same x.1 x.2).map (R21 x)
theorem G21_eq {a0 : (List Int)} {a1 : (List Int)} {y : Bool} (h : Llaw19_same a0 a1 = some y) : G21 (E21 (a0, a1)) = some (R21 (a0, a1) y) := lift_som E21i h
def E52 (x : Tapi_Bits × Int) : List PV := [.agg ([.slice .no (intsR .u8 x.1.1), .v (.int .i64 x.1.2)]), .one (.v (.int .i64 x.2))]
theorem E52i : ∀ a b, E52 a = E52 b → a = b := by
  rintro ⟨⟨a0_0, a0_1⟩, a1⟩ ⟨⟨b0_0, b0_1⟩, b1⟩ h
  simpa [E52, and_assoc] using h
def R52 (x : Tapi_Bits × Int) (y : Bool) : PV × List (List Cell) := (.one (.v (.bool y)), [])
noncomputable def G52 := lift E52 fun x => (Lbits_bit x.1 x.2).map (R52 x)
theorem G52_eq {a0 : Tapi_Bits} {a1 : Int} {y : Bool} (h : Lbits_bit a0 a1 = some y) : G52 (E52 (a0, a1)) = some (R52 (a0, a1) y) := lift_som E52i h
def E53 (x : Tapi_Bits × Int × Int) : List PV := [.agg ([.slice .no (intsR .u8 x.1.1), .v (.int .i64 x.1.2)]), .one (.v (.int .i64 x.2.1)), .one (.v (.int .i64 x.2.2))]
theorem E53i : ∀ a b, E53 a = E53 b → a = b := by
  rintro ⟨⟨a0_0, a0_1⟩, a1, a2⟩ ⟨⟨b0_0, b0_1⟩, b1, b2⟩ h
  simpa [E53, and_assoc] using h
def R53 (x : Tapi_Bits × Int × Int) (y : Int) : PV × List (List Cell) := (.one (.v (.int .u64 y)), [])
noncomputable def G53 := lift E53 fun x => (Lbits_number x.1 x.2.1 x.2.2).map (R53 x)
theorem G53_eq {a0 : Tapi_Bits} {a1 : Int} {a2 : Int} {y : Int} (h : Lbits_number a0 a1 a2 = some y) : G53 (E53 (a0, a1, a2)) = some (R53 (a0, a1, a2) y) := lift_som E53i h
def E35 (x : Tapi_Bits × Int × Int) : List PV := [.agg ([.slice .no (intsR .u8 x.1.1), .v (.int .i64 x.1.2)]), .one (.v (.int .i64 x.2.1)), .one (.v (.int .i64 x.2.2))]
theorem E35i : ∀ a b, E35 a = E35 b → a = b := by
  rintro ⟨⟨a0_0, a0_1⟩, a1, a2⟩ ⟨⟨b0_0, b0_1⟩, b1, b2⟩ h
  simpa [E35, and_assoc] using h
def R35 (x : Tapi_Bits × Int × Int) (y : Int × Int × Int) : PV × List (List Cell) := (.tup [.one (.v (.int .u64 y.1)), .one (.v (.int .i64 y.2.1)), .one (.v (.int .i64 y.2.2))], [])
noncomputable def G35 := lift E35 fun x => (Lbits_ReadRice x.1 x.2.1 x.2.2).map (R35 x)
theorem G35_eq {a0 : Tapi_Bits} {a1 : Int} {a2 : Int} {y : Int × Int × Int} (h : Lbits_ReadRice a0 a1 a2 = some y) : G35 (E35 (a0, a1, a2)) = some (R35 (a0, a1, a2) y) := lift_som E35i h
def E36 (x : Tapi_Bits × Int × Int) : List PV := [.agg ([.slice .no (intsR .u8 x.1.1), .v (.int .i64 x.1.2)]), .one (.v (.int .i64 x.2.1)), .one (.v (.int .i64 x.2.2))]
theorem E36i : ∀ a b, E36 a = E36 b → a = b := by
  rintro ⟨⟨a0_0, a0_1⟩, a1, a2⟩ ⟨⟨b0_0, b0_1⟩, b1, b2⟩ h
  simpa [E36, and_assoc] using h
def R36 (x : Tapi_Bits × Int × Int) (y : Int × Int × Int) : PV × List (List Cell) := (.tup [.one (.v (.int .u64 y.1)), .one (.v (.int .i64 y.2.1)), .one (.v (.int .i64 y.2.2))], [])
noncomputable def G36 := lift E36 fun x => (Lbits_Read x.1 x.2.1 x.2.2).map (R36 x)
theorem G36_eq {a0 : Tapi_Bits} {a1 : Int} {a2 : Int} {y : Int × Int × Int} (h : Lbits_Read a0 a1 a2 = some y) : G36 (E36 (a0, a1, a2)) = some (R36 (a0, a1, a2) y) := lift_som E36i h
def E22 (x : Tapi_Filter × Int) : List PV := [.agg ([.v (.int .i64 x.1.1), .slice .no (intsR .u8 x.1.2)]), .one (.v (.int .i64 x.2))]
theorem E22i : ∀ a b, E22 a = E22 b → a = b := by
  rintro ⟨⟨a0_0, a0_1⟩, a1⟩ ⟨⟨b0_0, b0_1⟩, b1⟩ h
  simpa [E22, and_assoc] using h
def R22 (x : Tapi_Filter × Int) (y : (List Int) × Int) : PV × List (List Cell) := (.tup [.one (.slice .no (intsR .u64 y.1)), .one (.v (.int .i64 y.2))], [])
noncomputable def G22 := lift E22 fun x => (Lgolomb_Decode x.1 x.2).map (R22 x)
theorem G22_eq {a0 : Tapi_Filter} {a1 : Int} {y : (List Int) × Int} (h : Lgolomb_Decode a0 a1 = some y) : G22 (E22 (a0, a1)) = some (R22 (a0, a1) y) := lift_som E22i h
def E8 (x : (List Int) × Tapi_Filter × Int) : List PV := [.one (.slice .no (intsR .u16 x.1)), .agg ([.v (.int .i64 x.2.1.1), .slice .no (intsR .u8 x.2.1.2)]), .one (.v (.int .u8 x.2.2))]
theorem E8i : ∀ a b, E8 a = E8 b → a = b := by
  rintro ⟨a0, ⟨a1_0, a1_1⟩, a2⟩ ⟨b0, ⟨b1_0, b1_1⟩, b2⟩ h
  simpa [E8, and_assoc] using h
def R8 (x : (List Int) × Tapi_Filter × Int) (y : Bool) : PV × List (List Cell) := (.one (.v (.bool y)), [])
noncomputable def G8 := lift E8 fun x => (Llaw19_GolombBack x.1 x.2.1 x.2.2).map (R8 x)
theorem G8_eq {a0 : (List Int)} {a1 : Tapi_Filter} {a2 : Int} {y : Bool} (h : Llaw19_GolombBack a0 a1 a2 = some y) : G8 (E8 (a0, a1, a2)) = some (R8 (a0, a1, a2) y) := lift_som E8i h
end Go.Proofs.Ytmjbklblgpnagaa
