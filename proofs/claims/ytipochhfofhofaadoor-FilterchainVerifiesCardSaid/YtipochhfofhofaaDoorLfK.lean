import Derived.Test.YtipochhfofhofaaDoorLcG2
import Derived.Test.YtipochhfofhofaaDoorLcG1
import Derived.Test.YtipochhfofhofaaDoorLcG1
import Derived.Test.YtipochhfofhofaaDoorTt
namespace Go.Proofs.YtipochhfofhofaaDoor
open Go.RowKit
open Go.Av
open Go.Lc
set_option maxRecDepth 100000
set_option linter.unusedSimpArgs false
set_option linter.unusedVariables false
attribute [simp] tt1 tt2 tt3 tt4 tt5 tt6 tt7 tt8 tt9 tt10 tt11 tt12 tt13 tt14 tt15 tt16 tt17 tt18 tt19 tt21 tt22 tt23 tt24 tt25 tt26 tt27 tt28 tt29 tt30 tt32 tt33 tt34 tt35 tt36 tt37 tt38 tt39 tt40 tt41 tt42 tt43 tt44 tt45 tt46 tt47 tt48 tt49 tt50 tt51 tt53 tt54 tt55 tt56 tt57 tt58 tt59 tt60 tt61 tt62 tt63 tt64 tt65 tt66 tt67 tt68 tt69 tt70 tt71 tt72 tt73 tt74 tt75 tt76 tt77 tt78 tt79 tt80 tt81 tt82 tt83 tt84 tt85 tt86 tt87 tt88 tt89 tt90 tt91 tt92 tt93 tt94 ti1 ti2 ti3 ti4 ti5 ti6 ti7 ti8 ti9 ti10 ti11 ti12 ti13 ti14 ti15 ti16 ti17 ti18 ti19 ti21 ti22 ti23 ti24 ti25 ti26 ti27 ti28 ti29 ti30 ti32 ti33 ti34 ti35 ti36 ti37 ti38 ti39 ti40 ti41 ti42 ti43 ti44 ti45 ti46 ti47 ti48 ti49 ti50 ti51 ti53 ti54 ti55 ti56 ti57 ti58 ti59 ti60 ti61 ti62 ti63 ti64 ti65 ti66 ti67 ti68 ti69 ti70 ti71 ti72 ti73 ti74 ti75 ti76 ti77 ti78 ti79 ti80 ti81 ti82 ti83 ti84 ti85 ti86 ti87 ti88 ti89 ti90 ti91 ti92 ti93 ti94
@[simp] theorem arCs_any2 {n : Nat} {k : IntKind} {l : List (Arr n)} : l.any ((fun l => l.any Cell.isSl) ∘ arC k) = false := by simp [arC, ints]
@[simp] def eS_I_u8 (x : (List Int)) : List Cell := [.slice .no (intsR .u8 x)]
theorem eS_I_u8_inj : ∀ a b, eS_I_u8 a = eS_I_u8 b → a = b := by
  rintro a b h
  simpa [and_assoc] using h
@[simp↓] theorem eS_I_u8_all (m : List (List Int)) : (∀ l, l ∈ List.map eS_I_u8 m → l.length = 1) = True := all_map_len (fun a => by simp) m
@[simp↓] theorem eS_I_u8_alld (m : List (List Int)) (k : Nat) : (∀ l, l ∈ List.drop k (List.map eS_I_u8 m) → l.length = 1) = True := eq_true fun l h => of_eq_true (eS_I_u8_all m) l (List.mem_of_mem_drop h)
@[simp↓] theorem eS_I_u8_allt (m : List (List Int)) (k : Nat) : (∀ l, l ∈ List.take k (List.map eS_I_u8 m) → l.length = 1) = True := eq_true fun l h => of_eq_true (eS_I_u8_all m) l (List.mem_of_mem_take h)
@[simp] theorem eS_I_u8_map {l m : List (List Int)} : List.map eS_I_u8 l = List.map eS_I_u8 m ↔ l = m := map_iff eS_I_u8_inj
@[simp] def eS_A32_I_u8 (x : (List (Arr 32))) : List Cell := [.slice .no (List.map (arC .u8) x)]
theorem eS_A32_I_u8_inj : ∀ a b, eS_A32_I_u8 a = eS_A32_I_u8 b → a = b := by
  rintro a b h
  simpa [and_assoc] using h
@[simp↓] theorem eS_A32_I_u8_all (m : List (List (Arr 32))) : (∀ l, l ∈ List.map eS_A32_I_u8 m → l.length = 1) = True := all_map_len (fun a => by simp) m
@[simp↓] theorem eS_A32_I_u8_alld (m : List (List (Arr 32))) (k : Nat) : (∀ l, l ∈ List.drop k (List.map eS_A32_I_u8 m) → l.length = 1) = True := eq_true fun l h => of_eq_true (eS_A32_I_u8_all m) l (List.mem_of_mem_drop h)
@[simp↓] theorem eS_A32_I_u8_allt (m : List (List (Arr 32))) (k : Nat) : (∀ l, l ∈ List.take k (List.map eS_A32_I_u8 m) → l.length = 1) = True := eq_true fun l h => of_eq_true (eS_A32_I_u8_all m) l (List.mem_of_mem_take h)
@[simp] theorem eS_A32_I_u8_map {l m : List (List (Arr 32))} : List.map eS_A32_I_u8 l = List.map eS_A32_I_u8 m ↔ l = m := map_iff eS_A32_I_u8_inj
theorem nfs : (∀ x : (List Int), eS_I_u8 x = [.slice .no (intsR .u8 x)]) ∧ (∀ x : (List (Arr 32)), eS_A32_I_u8 x = [.slice .no (List.map (arC .u8) x)]) := ⟨fun _ => rfl, fun _ => rfl⟩
def G : Glob := fun g => if g = 0 then some (arC .u32 shaInitial) else if g = 1 then some (arC .u32 shaK) else none
@[simp] theorem G_at0 : G 0 = some (arC .u32 shaInitial) := rfl
@[simp] theorem G_at1 : G 1 = some (arC .u32 shaK) := rfl
def E13 (x : Tapi_FilterChain) : List PV := [.agg ([.slice .no (List.map (arC .u8) x.1), .slice .no (List.map (arC .u8) x.2)])]
theorem E13i : ∀ a b, E13 a = E13 b → a = b := by
  rintro ⟨a0_0, a0_1⟩ ⟨b0_0, b0_1⟩ h
  simpa [E13, and_assoc] using h
def R13 (x : Tapi_FilterChain) (y : Bool) : PV × List (List Cell) := (.one (.v (.bool y)), [])
noncomputable def G13 := lift E13 fun x => (Lfilterchain_Sound x).map (R13 x)
theorem G13_eq {a0 : Tapi_FilterChain} {y : Bool} (h : Lfilterchain_Sound a0 = some y) : G13 (E13 a0) = some (R13 a0 y) := lift_som E13i h
def E58 (x : (List (List Int))) : List PV := [.one (.slice .no (List.map eS_I_u8 x))]
theorem E58i : ∀ a b, E58 a = E58 b → a = b := by
  rintro a0 b0 h
  simpa [E58, and_assoc] using h
def R58 (x : (List (List Int))) (y : (List Int)) : PV × List (List Cell) := (.one (.own 1 (intsR .u8 y)), [])
noncomputable def G58 := lift E58 fun x => (Lsha_row x).map (R58 x)
theorem G58_eq {a0 : (List (List Int))} {y : (List Int)} (h : Lsha_row a0 = some y) : G58 (E58 a0) = some (R58 a0 y) := lift_som E58i h
def E59 (x : Int) : List PV := [.one (.v (.int .u64 x))]
theorem E59i : ∀ a b, E59 a = E59 b → a = b := by
  rintro a0 b0 h
  simpa [E59, and_assoc] using h
def R59 (x : Int) (y : (List Int)) : PV × List (List Cell) := (.one (.own 1 (intsR .u8 y)), [])
noncomputable def G59 := lift E59 fun x => (Lsha_Pad x).map (R59 x)
theorem G59_eq {a0 : Int} {y : (List Int)} (h : Lsha_Pad a0 = some y) : G59 (E59 a0) = some (R59 a0 y) := lift_som E59i h
def E70 (x : Int × Int) : List PV := [.one (.v (.int .u32 x.1)), .one (.v (.int .i64 x.2))]
theorem E70i : ∀ a b, E70 a = E70 b → a = b := by
  rintro ⟨a0, a1⟩ ⟨b0, b1⟩ h
  simpa [E70, and_assoc] using h
def R70 (x : Int × Int) (y : Int) : PV × List (List Cell) := (.one (.v (.int .u32 y)), [])
noncomputable def G70 := lift E70 fun x => (Lmath_bits_RotateLeft32 x.1 x.2).map (R70 x)
theorem G70_eq {a0 : Int} {a1 : Int} {y : Int} (h : Lmath_bits_RotateLeft32 a0 a1 = some y) : G70 (E70 (a0, a1)) = some (R70 (a0, a1) y) := lift_som E70i h
def E66 (x : Int × Int) : List PV := [.one (.v (.int .u32 x.1)), .one (.v (.int .i64 x.2))]
theorem E66i : ∀ a b, E66 a = E66 b → a = b := by
  rintro ⟨a0, a1⟩ ⟨b0, b1⟩ h
  simpa [E66, and_assoc] using h
def R66 (x : Int × Int) (y : Int) : PV × List (List Cell) := (.one (.v (.int .u32 y)), [])
noncomputable def G66 := lift E66 fun x => (Lsha_rotr x.1 x.2).map (R66 x)
theorem G66_eq {a0 : Int} {a1 : Int} {y : Int} (h : Lsha_rotr a0 a1 = some y) : G66 (E66 (a0, a1)) = some (R66 (a0, a1) y) := lift_som E66i h
def E65 (x : (Arr 64)) : List PV := [.agg (arC .u8 x)]
theorem E65i : ∀ a b, E65 a = E65 b → a = b := by
  rintro a0 b0 h
  simpa [E65, and_assoc] using h
def R65 (x : (Arr 64)) (y : (Arr 64)) : PV × List (List Cell) := (.agg (arC .u32 y), [])
noncomputable def G65 := lift E65 fun x => (Lsha_schedule x).map (R65 x)
theorem G65_eq {a0 : (Arr 64)} {y : (Arr 64)} (h : Lsha_schedule a0 = some y) : G65 (E65 a0) = some (R65 a0 y) := lift_som E65i h
def E60 (x : (Arr 8) × (Arr 64)) : List PV := [.agg (arC .u32 x.1), .agg (arC .u8 x.2)]
theorem E60i : ∀ a b, E60 a = E60 b → a = b := by
  rintro ⟨a0, a1⟩ ⟨b0, b1⟩ h
  simpa [E60, and_assoc] using h
def R60 (x : (Arr 8) × (Arr 64)) (y : (Arr 8)) : PV × List (List Cell) := (.agg (arC .u32 y), [])
noncomputable def G60 := lift E60 fun x => (Lsha_Compress x.1 x.2).map (R60 x)
theorem G60_eq {a0 : (Arr 8)} {a1 : (Arr 64)} {y : (Arr 8)} (h : Lsha_Compress a0 a1 = some y) : G60 (E60 (a0, a1)) = some (R60 (a0, a1) y) := lift_som E60i h
def E49 (x : (List Int)) : List PV := [.one (.slice .no (intsR .u8 x))]
theorem E49i : ∀ a b, E49 a = E49 b → a = b := by
  rintro a0 b0 h
  simpa [E49, and_assoc] using h
def R49 (x : (List Int)) (y : (Arr 32)) : PV × List (List Cell) := (.agg (arC .u8 y), [])
noncomputable def G49 := lift E49 fun x => (Lsha_Sum x).map (R49 x)
theorem G49_eq {a0 : (List Int)} {y : (Arr 32)} (h : Lsha_Sum a0 = some y) : G49 (E49 a0) = some (R49 a0 y) := lift_som E49i h
def E41 (x : (List Int)) : List PV := [.one (.slice .no (intsR .u8 x))]
theorem E41i : ∀ a b, E41 a = E41 b → a = b := by
  rintro a0 b0 h
  simpa [E41, and_assoc] using h
def R41 (x : (List Int)) (y : (Arr 32)) : PV × List (List Cell) := (.agg (arC .u8 y), [])
noncomputable def G41 := lift E41 fun x => (Lsha_Double x).map (R41 x)
theorem G41_eq {a0 : (List Int)} {y : (Arr 32)} (h : Lsha_Double a0 = some y) : G41 (E41 a0) = some (R41 a0 y) := lift_som E41i h
def G50 : List PV → Option (PV × List (List Cell))
  | [.one (.slice .nil []), .one (.v (.int .i64 n))] => if 0 ≤ n ∧ n ≤ 70368744177664 then some (.one (.own 1 []), []) else none
  | _ => none
theorem G50_eq {n : Int} (h : 0 ≤ n ∧ n ≤ 70368744177664) : G50 [.one (.slice .nil []), .one (.v (.int .i64 n))] = some (.one (.own 1 []), []) := by
  simp [G50, h]
def E42 (x : (List (List Int))) : List PV := [.one (.slice .no (List.map eS_I_u8 x))]
theorem E42i : ∀ a b, E42 a = E42 b → a = b := by
  rintro a0 b0 h
  simpa [E42, and_assoc] using h
def R42 (x : (List (List Int))) (y : (List Int)) : PV × List (List Cell) := (.one (.own 1 (intsR .u8 y)), [])
noncomputable def G42 := lift E42 fun x => (Lslices_Concat_of__byte_byte x).map (R42 x)
theorem G42_eq {a0 : (List (List Int))} {y : (List Int)} (h : Lslices_Concat_of__byte_byte a0 = some y) : G42 (E42 a0) = some (R42 a0 y) := lift_som E42i h
def E31 (x : (Arr 32) × (Arr 32)) : List PV := [.agg (arC .u8 x.1), .agg (arC .u8 x.2)]
theorem E31i : ∀ a b, E31 a = E31 b → a = b := by
  rintro ⟨a0, a1⟩ ⟨b0, b1⟩ h
  simpa [E31, and_assoc] using h
def R31 (x : (Arr 32) × (Arr 32)) (y : (Arr 32)) : PV × List (List Cell) := (.agg (arC .u8 y), [])
noncomputable def G31 := lift E31 fun x => (Lfilter_Header x.1 x.2).map (R31 x)
theorem G31_eq {a0 : (Arr 32)} {a1 : (Arr 32)} {y : (Arr 32)} (h : Lfilter_Header a0 a1 = some y) : G31 (E31 (a0, a1)) = some (R31 (a0, a1) y) := lift_som E31i h
def E16 (x : (Arr 32) × (List (Arr 32))) : List PV := [.agg (arC .u8 x.1), .one (.slice .no (List.map (arC .u8) x.2))]
theorem E16i : ∀ a b, E16 a = E16 b → a = b := by
  rintro ⟨a0, a1⟩ ⟨b0, b1⟩ h
  simpa [E16, and_assoc] using h
def R16 (x : (Arr 32) × (List (Arr 32))) (y : (List (Arr 32))) : PV × List (List Cell) := (.one (.own 32 (List.map (arC .u8) y)), [])
noncomputable def G16 := lift E16 fun x => (Lfilterchain_Batch x.1 x.2).map (R16 x)
theorem G16_eq {a0 : (Arr 32)} {a1 : (List (Arr 32))} {y : (List (Arr 32))} (h : Lfilterchain_Batch a0 a1 = some y) : G16 (E16 (a0, a1)) = some (R16 (a0, a1) y) := lift_som E16i h
def E32 (x : (List (List (Arr 32)))) : List PV := [.one (.slice .no (List.map eS_A32_I_u8 x))]
theorem E32i : ∀ a b, E32 a = E32 b → a = b := by
  rintro a0 b0 h
  simpa [E32, and_assoc] using h
def R32 (x : (List (List (Arr 32)))) (y : (List (Arr 32))) : PV × List (List Cell) := (.one (.own 32 (List.map (arC .u8) y)), [])
noncomputable def G32 := lift E32 fun x => (Lfilterchain_join x).map (R32 x)
theorem G32_eq {a0 : (List (List (Arr 32)))} {y : (List (Arr 32))} (h : Lfilterchain_join a0 = some y) : G32 (E32 a0) = some (R32 a0 y) := lift_som E32i h
def E33 (x : Tapi_FilterChain × Int) : List PV := [.agg ([.slice .no (List.map (arC .u8) x.1.1), .slice .no (List.map (arC .u8) x.1.2)]), .one (.v (.int .i64 x.2))]
theorem E33i : ∀ a b, E33 a = E33 b → a = b := by
  rintro ⟨⟨a0_0, a0_1⟩, a1⟩ ⟨⟨b0_0, b0_1⟩, b1⟩ h
  simpa [E33, and_assoc] using h
def R33 (x : Tapi_FilterChain × Int) (y : (Arr 32)) : PV × List (List Cell) := (.agg (arC .u8 y), [])
noncomputable def G33 := lift E33 fun x => (Lfilterchain_prev x.1 x.2).map (R33 x)
theorem G33_eq {a0 : Tapi_FilterChain} {a1 : Int} {y : (Arr 32)} (h : Lfilterchain_prev a0 a1 = some y) : G33 (E33 (a0, a1)) = some (R33 (a0, a1) y) := lift_som E33i h
def E11 (x : Tapi_FilterChain × (List (Arr 32)) × (List (Arr 32))) : List PV := [.agg ([.slice .no (List.map (arC .u8) x.1.1), .slice .no (List.map (arC .u8) x.1.2)]), .one (.slice .no (List.map (arC .u8) x.2.1)), .one (.slice .no (List.map (arC .u8) x.2.2))]
theorem E11i : ∀ a b, E11 a = E11 b → a = b := by
  rintro ⟨⟨a0_0, a0_1⟩, a1, a2⟩ ⟨⟨b0_0, b0_1⟩, b1, b2⟩ h
  simpa [E11, and_assoc] using h
def R11 (x : Tapi_FilterChain × (List (Arr 32)) × (List (Arr 32))) (y : Tapi_FilterChain × Int) : PV × List (List Cell) := (.tup [.agg ([.slice .no (List.map (arC .u8) y.1.1), .slice .no (List.map (arC .u8) y.1.2)]), .one (.v (.int .i64 y.2))], [])
noncomputable def G11 := lift E11 fun x => (Lfilterchain_Extend x.1 x.2.1 x.2.2).map (R11 x)
theorem G11_eq {a0 : Tapi_FilterChain} {a1 : (List (Arr 32))} {a2 : (List (Arr 32))} {y : Tapi_FilterChain × Int} (h : Lfilterchain_Extend a0 a1 a2 = some y) : G11 (E11 (a0, a1, a2)) = some (R11 (a0, a1, a2) y) := lift_som E11i h
def E36 (x : (List (Arr 32)) × (List (Arr 32))) : List PV := [.one (.slice .no (List.map (arC .u8) x.1)), .one (.slice .no (List.map (arC .u8) x.2))]
theorem E36i : ∀ a b, E36 a = E36 b → a = b := by
  rintro ⟨a0, a1⟩ ⟨b0, b1⟩ h
  simpa [E36, and_assoc] using h
def R36 (x : (List (Arr 32)) × (List (Arr 32))) (y : Int) : PV × List (List Cell) := (.one (.v (.int .i64 y)), [])
noncomputable def G36 := lift E36 fun x => (Lfilterchain_differ_of_api_Hash x.1 x.2).map (R36 x)
theorem G36_eq {a0 : (List (Arr 32))} {a1 : (List (Arr 32))} {y : Int} (h : Lfilterchain_differ_of_api_Hash a0 a1 = some y) : G36 (E36 (a0, a1)) = some (R36 (a0, a1) y) := lift_som E36i h
def E21 (x : (List (Arr 32)) × (List (Arr 32))) : List PV := [.one (.slice .no (List.map (arC .u8) x.1)), .one (.slice .no (List.map (arC .u8) x.2))]
theorem E21i : ∀ a b, E21 a = E21 b → a = b := by
  rintro ⟨a0, a1⟩ ⟨b0, b1⟩ h
  simpa [E21, and_assoc] using h
def R21 (x : (List (Arr 32)) × (List (Arr 32))) (y : Int) : PV × List (List Cell) := (.one (.v (.int .i64 y)), [])
noncomputable def G21 := lift E21 fun x => (Lfilterchain_Differ x.1 x.2).map (R21 x)
theorem G21_eq {a0 : (List (Arr 32))} {a1 : (List (Arr 32))} {y : Int} (h : Lfilterchain_Differ a0 a1 = some y) : G21 (E21 (a0, a1)) = some (R21 (a0, a1) y) := lift_som E21i h
def E8 (x : Unit) : List PV := []
theorem E8i : ∀ a b, E8 a = E8 b → a = b := fun _ _ _ => rfl
def R8 (x : Unit) (y : Bool) : PV × List (List Cell) := (.one (.v (.bool y)), [])
noncomputable def G8 := lift E8 fun x => (Llaw21_sane).map (R8 x)
theorem G8_eq {y : Bool} (h : Llaw21_sane  = some y) : G8 (E8 ()) = some (R8 () y) := lift_som E8i h
def E9 (x : Tapi_FilterChain) : List PV := [.agg ([.slice .no (List.map (arC .u8) x.1), .slice .no (List.map (arC .u8) x.2)])]
theorem E9i : ∀ a b, E9 a = E9 b → a = b := by
  rintro ⟨a0_0, a0_1⟩ ⟨b0_0, b0_1⟩ h
  simpa [E9, and_assoc] using h
def R9 (x : Tapi_FilterChain) (y : Bool) : PV × List (List Cell) := (.one (.v (.bool y)), [])
noncomputable def G9 := lift E9 fun x => (Llaw21_kept x).map (R9 x)
theorem G9_eq {a0 : Tapi_FilterChain} {y : Bool} (h : Llaw21_kept a0 = some y) : G9 (E9 a0) = some (R9 a0 y) := lift_som E9i h
def E53 (x : (List Int) × (List Int)) : List PV := [.one (.slice .no (intsR .u8 x.1)), .one (.slice .no (intsR .u8 x.2))]
theorem E53i : ∀ a b, E53 a = E53 b → a = b := by
  rintro ⟨a0, a1⟩ ⟨b0, b1⟩ h
  simpa [E53, and_assoc] using h
def R53 (x : (List Int) × (List Int)) (y : (List Int)) : PV × List (List Cell) := (.one (.own 1 (intsR .u8 y)), [])
noncomputable def G53 := lift E53 fun x => (Lcodec_extend x.1 x.2).map (R53 x)
theorem G53_eq {a0 : (List Int)} {a1 : (List Int)} {y : (List Int)} (h : Lcodec_extend a0 a1 = some y) : G53 (E53 (a0, a1)) = some (R53 (a0, a1) y) := lift_som E53i h
def E64 (x : Int × Int) : List PV := [.one (.v (.int .u64 x.1)), .one (.v (.int .i64 x.2))]
theorem E64i : ∀ a b, E64 a = E64 b → a = b := by
  rintro ⟨a0, a1⟩ ⟨b0, b1⟩ h
  simpa [E64, and_assoc] using h
def R64 (x : Int × Int) (y : (List Int)) : PV × List (List Cell) := (.one (.own 1 (intsR .u8 y)), [])
noncomputable def G64 := lift E64 fun x => (Lcodec_lowest x.1 x.2).map (R64 x)
theorem G64_eq {a0 : Int} {a1 : Int} {y : (List Int)} (h : Lcodec_lowest a0 a1 = some y) : G64 (E64 (a0, a1)) = some (R64 (a0, a1) y) := lift_som E64i h
def E54 (x : (List Int) × Int) : List PV := [.one (.slice .no (intsR .u8 x.1)), .one (.v (.int .u16 x.2))]
theorem E54i : ∀ a b, E54 a = E54 b → a = b := by
  rintro ⟨a0, a1⟩ ⟨b0, b1⟩ h
  simpa [E54, and_assoc] using h
def R54 (x : (List Int) × Int) (y : (List Int)) : PV × List (List Cell) := (.one (.own 1 (intsR .u8 y)), [])
noncomputable def G54 := lift E54 fun x => (Lcodec_AppendU16 x.1 x.2).map (R54 x)
theorem G54_eq {a0 : (List Int)} {a1 : Int} {y : (List Int)} (h : Lcodec_AppendU16 a0 a1 = some y) : G54 (E54 (a0, a1)) = some (R54 (a0, a1) y) := lift_som E54i h
def E55 (x : (List Int) × Int) : List PV := [.one (.slice .no (intsR .u8 x.1)), .one (.v (.int .u32 x.2))]
theorem E55i : ∀ a b, E55 a = E55 b → a = b := by
  rintro ⟨a0, a1⟩ ⟨b0, b1⟩ h
  simpa [E55, and_assoc] using h
def R55 (x : (List Int) × Int) (y : (List Int)) : PV × List (List Cell) := (.one (.own 1 (intsR .u8 y)), [])
noncomputable def G55 := lift E55 fun x => (Lcodec_AppendU32 x.1 x.2).map (R55 x)
theorem G55_eq {a0 : (List Int)} {a1 : Int} {y : (List Int)} (h : Lcodec_AppendU32 a0 a1 = some y) : G55 (E55 (a0, a1)) = some (R55 (a0, a1) y) := lift_som E55i h
def E56 (x : (List Int) × Int) : List PV := [.one (.slice .no (intsR .u8 x.1)), .one (.v (.int .u64 x.2))]
theorem E56i : ∀ a b, E56 a = E56 b → a = b := by
  rintro ⟨a0, a1⟩ ⟨b0, b1⟩ h
  simpa [E56, and_assoc] using h
def R56 (x : (List Int) × Int) (y : (List Int)) : PV × List (List Cell) := (.one (.own 1 (intsR .u8 y)), [])
noncomputable def G56 := lift E56 fun x => (Lcodec_AppendU64 x.1 x.2).map (R56 x)
theorem G56_eq {a0 : (List Int)} {a1 : Int} {y : (List Int)} (h : Lcodec_AppendU64 a0 a1 = some y) : G56 (E56 (a0, a1)) = some (R56 (a0, a1) y) := lift_som E56i h
def E46 (x : (List Int) × Int) : List PV := [.one (.slice .no (intsR .u8 x.1)), .one (.v (.int .u64 x.2))]
theorem E46i : ∀ a b, E46 a = E46 b → a = b := by
  rintro ⟨a0, a1⟩ ⟨b0, b1⟩ h
  simpa [E46, and_assoc] using h
def R46 (x : (List Int) × Int) (y : (List Int)) : PV × List (List Cell) := (.one (.own 1 (intsR .u8 y)), [])
noncomputable def G46 := lift E46 fun x => (Lcodec_AppendSize x.1 x.2).map (R46 x)
theorem G46_eq {a0 : (List Int)} {a1 : Int} {y : (List Int)} (h : Lcodec_AppendSize a0 a1 = some y) : G46 (E46 (a0, a1)) = some (R46 (a0, a1) y) := lift_som E46i h
def E45 (x : (List Int) × (List Int)) : List PV := [.one (.slice .no (intsR .u8 x.1)), .one (.slice .no (intsR .u8 x.2))]
theorem E45i : ∀ a b, E45 a = E45 b → a = b := by
  rintro ⟨a0, a1⟩ ⟨b0, b1⟩ h
  simpa [E45, and_assoc] using h
def R45 (x : (List Int) × (List Int)) (y : (List Int)) : PV × List (List Cell) := (.one (.own 1 (intsR .u8 y)), [])
noncomputable def G45 := lift E45 fun x => (Lcodec_AppendBytes x.1 x.2).map (R45 x)
theorem G45_eq {a0 : (List Int)} {a1 : (List Int)} {y : (List Int)} (h : Lcodec_AppendBytes a0 a1 = some y) : G45 (E45 (a0, a1)) = some (R45 (a0, a1) y) := lift_som E45i h
def E37 (x : Tapi_Filter) : List PV := [.agg ([.v (.int .i64 x.1), .slice .no (intsR .u8 x.2)])]
theorem E37i : ∀ a b, E37 a = E37 b → a = b := by
  rintro ⟨a0_0, a0_1⟩ ⟨b0_0, b0_1⟩ h
  simpa [E37, and_assoc] using h
def R37 (x : Tapi_Filter) (y : (List Int) × Int) : PV × List (List Cell) := (.tup [.one (.slice .no (intsR .u8 y.1)), .one (.v (.int .i64 y.2))], [])
noncomputable def G37 := lift E37 fun x => (Lfilter_Encode x).map (R37 x)
theorem G37_eq {a0 : Tapi_Filter} {y : (List Int) × Int} (h : Lfilter_Encode a0 = some y) : G37 (E37 a0) = some (R37 a0 y) := lift_som E37i h
def E38 (x : Tapi_Filter) : List PV := [.agg ([.v (.int .i64 x.1), .slice .no (intsR .u8 x.2)])]
theorem E38i : ∀ a b, E38 a = E38 b → a = b := by
  rintro ⟨a0_0, a0_1⟩ ⟨b0_0, b0_1⟩ h
  simpa [E38, and_assoc] using h
def R38 (x : Tapi_Filter) (y : (Arr 32)) : PV × List (List Cell) := (.agg (arC .u8 y), [])
noncomputable def G38 := lift E38 fun x => (Lfilter_Hash x).map (R38 x)
theorem G38_eq {a0 : Tapi_Filter} {y : (Arr 32)} (h : Lfilter_Hash a0 = some y) : G38 (E38 a0) = some (R38 a0 y) := lift_som E38i h
def E29 (x : Tapi_FilterChain × Int × Tapi_Filter) : List PV := [.agg ([.slice .no (List.map (arC .u8) x.1.1), .slice .no (List.map (arC .u8) x.1.2)]), .one (.v (.int .i64 x.2.1)), .agg ([.v (.int .i64 x.2.2.1), .slice .no (intsR .u8 x.2.2.2)])]
theorem E29i : ∀ a b, E29 a = E29 b → a = b := by
  rintro ⟨⟨a0_0, a0_1⟩, a1, ⟨a2_0, a2_1⟩⟩ ⟨⟨b0_0, b0_1⟩, b1, ⟨b2_0, b2_1⟩⟩ h
  simpa [E29, and_assoc] using h
def R29 (x : Tapi_FilterChain × Int × Tapi_Filter) (y : Int) : PV × List (List Cell) := (.one (.v (.int .i64 y)), [])
noncomputable def G29 := lift E29 fun x => (Lfilterchain_Verify x.1 x.2.1 x.2.2).map (R29 x)
theorem G29_eq {a0 : Tapi_FilterChain} {a1 : Int} {a2 : Tapi_Filter} {y : Int} (h : Lfilterchain_Verify a0 a1 a2 = some y) : G29 (E29 (a0, a1, a2)) = some (R29 (a0, a1, a2) y) := lift_som E29i h
def E14 (x : Tapi_FilterChain) : List PV := [.agg ([.slice .no (List.map (arC .u8) x.1), .slice .no (List.map (arC .u8) x.2)])]
theorem E14i : ∀ a b, E14 a = E14 b → a = b := by
  rintro ⟨a0_0, a0_1⟩ ⟨b0_0, b0_1⟩ h
  simpa [E14, and_assoc] using h
def R14 (x : Tapi_FilterChain) (y : Bool) : PV × List (List Cell) := (.one (.v (.bool y)), [])
noncomputable def G14 := lift E14 fun x => (Lref21_Sound x).map (R14 x)
theorem G14_eq {a0 : Tapi_FilterChain} {y : Bool} (h : Lref21_Sound a0 = some y) : G14 (E14 a0) = some (R14 a0 y) := lift_som E14i h
def E61 (x : Int) : List PV := [.one (.v (.int .u64 x))]
theorem E61i : ∀ a b, E61 a = E61 b → a = b := by
  rintro a0 b0 h
  simpa [E61, and_assoc] using h
def R61 (x : Int) (y : (List Int)) : PV × List (List Cell) := (.one (.own 1 (intsR .u8 y)), [])
noncomputable def G61 := lift E61 fun x => (Lref03_Pad x).map (R61 x)
theorem G61_eq {a0 : Int} {y : (List Int)} (h : Lref03_Pad a0 = some y) : G61 (E61 a0) = some (R61 a0 y) := lift_som E61i h
def E62 (x : Unit) : List PV := []
theorem E62i : ∀ a b, E62 a = E62 b → a = b := fun _ _ _ => rfl
def R62 (x : Unit) (y : (Arr 8)) : PV × List (List Cell) := (.agg (arC .u32 y), [])
noncomputable def G62 := lift E62 fun x => (Lref03_Initial).map (R62 x)
theorem G62_eq {y : (Arr 8)} (h : Lref03_Initial  = some y) : G62 (E62 ()) = some (R62 () y) := lift_som E62i h
def E69 (x : Int × Int) : List PV := [.one (.v (.int .u32 x.1)), .one (.v (.int .i64 x.2))]
theorem E69i : ∀ a b, E69 a = E69 b → a = b := by
  rintro ⟨a0, a1⟩ ⟨b0, b1⟩ h
  simpa [E69, and_assoc] using h
def R69 (x : Int × Int) (y : Int) : PV × List (List Cell) := (.one (.v (.int .u32 y)), [])
noncomputable def G69 := lift E69 fun x => (Lref03_rotr x.1 x.2).map (R69 x)
theorem G69_eq {a0 : Int} {a1 : Int} {y : Int} (h : Lref03_rotr a0 a1 = some y) : G69 (E69 (a0, a1)) = some (R69 (a0, a1) y) := lift_som E69i h
def E67 (x : (Arr 64)) : List PV := [.agg (arC .u8 x)]
theorem E67i : ∀ a b, E67 a = E67 b → a = b := by
  rintro a0 b0 h
  simpa [E67, and_assoc] using h
def R67 (x : (Arr 64)) (y : (Arr 64)) : PV × List (List Cell) := (.agg (arC .u32 y), [])
noncomputable def G67 := lift E67 fun x => (Lref03_schedule x).map (R67 x)
theorem G67_eq {a0 : (Arr 64)} {y : (Arr 64)} (h : Lref03_schedule a0 = some y) : G67 (E67 a0) = some (R67 a0 y) := lift_som E67i h
def E68 (x : Unit) : List PV := []
theorem E68i : ∀ a b, E68 a = E68 b → a = b := fun _ _ _ => rfl
def R68 (x : Unit) (y : (Arr 64)) : PV × List (List Cell) := (.agg (arC .u32 y), [])
noncomputable def G68 := lift E68 fun x => (Lref03_constants).map (R68 x)
theorem G68_eq {y : (Arr 64)} (h : Lref03_constants  = some y) : G68 (E68 ()) = some (R68 () y) := lift_som E68i h
def E63 (x : (Arr 8) × (Arr 64)) : List PV := [.agg (arC .u32 x.1), .agg (arC .u8 x.2)]
theorem E63i : ∀ a b, E63 a = E63 b → a = b := by
  rintro ⟨a0, a1⟩ ⟨b0, b1⟩ h
  simpa [E63, and_assoc] using h
def R63 (x : (Arr 8) × (Arr 64)) (y : (Arr 8)) : PV × List (List Cell) := (.agg (arC .u32 y), [])
noncomputable def G63 := lift E63 fun x => (Lref03_Compress x.1 x.2).map (R63 x)
theorem G63_eq {a0 : (Arr 8)} {a1 : (Arr 64)} {y : (Arr 8)} (h : Lref03_Compress a0 a1 = some y) : G63 (E63 (a0, a1)) = some (R63 (a0, a1) y) := lift_som E63i h
def E51 (x : (List Int)) : List PV := [.one (.slice .no (intsR .u8 x))]
theorem E51i : ∀ a b, E51 a = E51 b → a = b := by
  rintro a0 b0 h
  simpa [E51, and_assoc] using h
def R51 (x : (List Int)) (y : (Arr 32)) : PV × List (List Cell) := (.agg (arC .u8 y), [])
noncomputable def G51 := lift E51 fun x => (Lref03_Sum x).map (R51 x)
theorem G51_eq {a0 : (List Int)} {y : (Arr 32)} (h : Lref03_Sum a0 = some y) : G51 (E51 a0) = some (R51 a0 y) := lift_som E51i h
def E43 (x : (List Int)) : List PV := [.one (.slice .no (intsR .u8 x))]
theorem E43i : ∀ a b, E43 a = E43 b → a = b := by
  rintro a0 b0 h
  simpa [E43, and_assoc] using h
def R43 (x : (List Int)) (y : (Arr 32)) : PV × List (List Cell) := (.agg (arC .u8 y), [])
noncomputable def G43 := lift E43 fun x => (Lref03_Double x).map (R43 x)
theorem G43_eq {a0 : (List Int)} {y : (Arr 32)} (h : Lref03_Double a0 = some y) : G43 (E43 a0) = some (R43 a0 y) := lift_som E43i h
def E52 (x : (List Int) × (List Int)) : List PV := [.one (.slice .no (intsR .u8 x.1)), .one (.slice .no (intsR .u8 x.2))]
theorem E52i : ∀ a b, E52 a = E52 b → a = b := by
  rintro ⟨a0, a1⟩ ⟨b0, b1⟩ h
  simpa [E52, and_assoc] using h
def R52 (x : (List Int) × (List Int)) (y : (List Int)) : PV × List (List Cell) := (.one (.own 1 (intsR .u8 y)), [])
noncomputable def G52 := lift E52 fun x => (Lref01_joined x.1 x.2).map (R52 x)
theorem G52_eq {a0 : (List Int)} {a1 : (List Int)} {y : (List Int)} (h : Lref01_joined a0 a1 = some y) : G52 (E52 (a0, a1)) = some (R52 (a0, a1) y) := lift_som E52i h
def E44 (x : (List (List Int))) : List PV := [.one (.slice .no (List.map eS_I_u8 x))]
theorem E44i : ∀ a b, E44 a = E44 b → a = b := by
  rintro a0 b0 h
  simpa [E44, and_assoc] using h
def R44 (x : (List (List Int))) (y : (List Int)) : PV × List (List Cell) := (.one (.own 1 (intsR .u8 y)), [])
noncomputable def G44 := lift E44 fun x => (Lref01_Join x).map (R44 x)
theorem G44_eq {a0 : (List (List Int))} {y : (List Int)} (h : Lref01_Join a0 = some y) : G44 (E44 a0) = some (R44 a0 y) := lift_som E44i h
def E35 (x : (Arr 32) × (Arr 32)) : List PV := [.agg (arC .u8 x.1), .agg (arC .u8 x.2)]
theorem E35i : ∀ a b, E35 a = E35 b → a = b := by
  rintro ⟨a0, a1⟩ ⟨b0, b1⟩ h
  simpa [E35, and_assoc] using h
def R35 (x : (Arr 32) × (Arr 32)) (y : (Arr 32)) : PV × List (List Cell) := (.agg (arC .u8 y), [])
noncomputable def G35 := lift E35 fun x => (Lref20_Header x.1 x.2).map (R35 x)
theorem G35_eq {a0 : (Arr 32)} {a1 : (Arr 32)} {y : (Arr 32)} (h : Lref20_Header a0 a1 = some y) : G35 (E35 (a0, a1)) = some (R35 (a0, a1) y) := lift_som E35i h
def E57 (x : Int × Int) : List PV := [.one (.v (.int .u64 x.1)), .one (.v (.int .i64 x.2))]
theorem E57i : ∀ a b, E57 a = E57 b → a = b := by
  rintro ⟨a0, a1⟩ ⟨b0, b1⟩ h
  simpa [E57, and_assoc] using h
def R57 (x : Int × Int) (y : (List Int)) : PV × List (List Cell) := (.one (.own 1 (intsR .u8 y)), [])
noncomputable def G57 := lift E57 fun x => (Lref01_little x.1 x.2).map (R57 x)
theorem G57_eq {a0 : Int} {a1 : Int} {y : (List Int)} (h : Lref01_little a0 a1 = some y) : G57 (E57 (a0, a1)) = some (R57 (a0, a1) y) := lift_som E57i h
def E48 (x : (List Int) × Int) : List PV := [.one (.slice .no (intsR .u8 x.1)), .one (.v (.int .u64 x.2))]
theorem E48i : ∀ a b, E48 a = E48 b → a = b := by
  rintro ⟨a0, a1⟩ ⟨b0, b1⟩ h
  simpa [E48, and_assoc] using h
def R48 (x : (List Int) × Int) (y : (List Int)) : PV × List (List Cell) := (.one (.own 1 (intsR .u8 y)), [])
noncomputable def G48 := lift E48 fun x => (Lref01_AppendSize x.1 x.2).map (R48 x)
theorem G48_eq {a0 : (List Int)} {a1 : Int} {y : (List Int)} (h : Lref01_AppendSize a0 a1 = some y) : G48 (E48 (a0, a1)) = some (R48 (a0, a1) y) := lift_som E48i h
def E47 (x : (List Int) × (List Int)) : List PV := [.one (.slice .no (intsR .u8 x.1)), .one (.slice .no (intsR .u8 x.2))]
theorem E47i : ∀ a b, E47 a = E47 b → a = b := by
  rintro ⟨a0, a1⟩ ⟨b0, b1⟩ h
  simpa [E47, and_assoc] using h
def R47 (x : (List Int) × (List Int)) (y : (List Int)) : PV × List (List Cell) := (.one (.own 1 (intsR .u8 y)), [])
noncomputable def G47 := lift E47 fun x => (Lref01_AppendBytes x.1 x.2).map (R47 x)
theorem G47_eq {a0 : (List Int)} {a1 : (List Int)} {y : (List Int)} (h : Lref01_AppendBytes a0 a1 = some y) : G47 (E47 (a0, a1)) = some (R47 (a0, a1) y) := lift_som E47i h
def E39 (x : Tapi_Filter) : List PV := [.agg ([.v (.int .i64 x.1), .slice .no (intsR .u8 x.2)])]
theorem E39i : ∀ a b, E39 a = E39 b → a = b := by
  rintro ⟨a0_0, a0_1⟩ ⟨b0_0, b0_1⟩ h
  simpa [E39, and_assoc] using h
def R39 (x : Tapi_Filter) (y : (List Int) × Int) : PV × List (List Cell) := (.tup [.one (.slice .no (intsR .u8 y.1)), .one (.v (.int .i64 y.2))], [])
noncomputable def G39 := lift E39 fun x => (Lref20_Encode x).map (R39 x)
theorem G39_eq {a0 : Tapi_Filter} {y : (List Int) × Int} (h : Lref20_Encode a0 = some y) : G39 (E39 a0) = some (R39 a0 y) := lift_som E39i h
def E40 (x : Tapi_Filter) : List PV := [.agg ([.v (.int .i64 x.1), .slice .no (intsR .u8 x.2)])]
theorem E40i : ∀ a b, E40 a = E40 b → a = b := by
  rintro ⟨a0_0, a0_1⟩ ⟨b0_0, b0_1⟩ h
  simpa [E40, and_assoc] using h
def R40 (x : Tapi_Filter) (y : (Arr 32)) : PV × List (List Cell) := (.agg (arC .u8 y), [])
noncomputable def G40 := lift E40 fun x => (Lref20_Hash x).map (R40 x)
theorem G40_eq {a0 : Tapi_Filter} {y : (Arr 32)} (h : Lref20_Hash a0 = some y) : G40 (E40 a0) = some (R40 a0 y) := lift_som E40i h
def E30 (x : Tapi_FilterChain × Int × Tapi_Filter) : List PV := [.agg ([.slice .no (List.map (arC .u8) x.1.1), .slice .no (List.map (arC .u8) x.1.2)]), .one (.v (.int .i64 x.2.1)), .agg ([.v (.int .i64 x.2.2.1), .slice .no (intsR .u8 x.2.2.2)])]
theorem E30i : ∀ a b, E30 a = E30 b → a = b := by
  rintro ⟨⟨a0_0, a0_1⟩, a1, ⟨a2_0, a2_1⟩⟩ ⟨⟨b0_0, b0_1⟩, b1, ⟨b2_0, b2_1⟩⟩ h
  simpa [E30, and_assoc] using h
def R30 (x : Tapi_FilterChain × Int × Tapi_Filter) (y : Int) : PV × List (List Cell) := (.one (.v (.int .i64 y)), [])
noncomputable def G30 := lift E30 fun x => (Lref21_Verify x.1 x.2.1 x.2.2).map (R30 x)
theorem G30_eq {a0 : Tapi_FilterChain} {a1 : Int} {a2 : Tapi_Filter} {y : Int} (h : Lref21_Verify a0 a1 a2 = some y) : G30 (E30 (a0, a1, a2)) = some (R30 (a0, a1, a2) y) := lift_som E30i h
def E7 (x : Tapi_FilterChain × Int × Tapi_Filter) : List PV := [.agg ([.slice .no (List.map (arC .u8) x.1.1), .slice .no (List.map (arC .u8) x.1.2)]), .one (.v (.int .i64 x.2.1)), .agg ([.v (.int .i64 x.2.2.1), .slice .no (intsR .u8 x.2.2.2)])]
theorem E7i : ∀ a b, E7 a = E7 b → a = b := by
  rintro ⟨⟨a0_0, a0_1⟩, a1, ⟨a2_0, a2_1⟩⟩ ⟨⟨b0_0, b0_1⟩, b1, ⟨b2_0, b2_1⟩⟩ h
  simpa [E7, and_assoc] using h
def R7 (x : Tapi_FilterChain × Int × Tapi_Filter) (y : Bool) : PV × List (List Cell) := (.one (.v (.bool y)), [])
noncomputable def G7 := lift E7 fun x => (Llaw21_FilterchainVerifies x.1 x.2.1 x.2.2).map (R7 x)
theorem G7_eq {a0 : Tapi_FilterChain} {a1 : Int} {a2 : Tapi_Filter} {y : Bool} (h : Llaw21_FilterchainVerifies a0 a1 a2 = some y) : G7 (E7 (a0, a1, a2)) = some (R7 (a0, a1, a2) y) := lift_som E7i h
end Go.Proofs.YtipochhfofhofaaDoor
