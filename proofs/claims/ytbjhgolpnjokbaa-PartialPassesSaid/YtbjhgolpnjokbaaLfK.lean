import Derived.Test.YtbjhgolpnjokbaaLcG2
import Derived.Test.YtbjhgolpnjokbaaLcG1
import Derived.Test.YtbjhgolpnjokbaaLcG1
import Derived.Test.YtbjhgolpnjokbaaTt
namespace Go.Proofs.Ytbjhgolpnjokbaa
open Go.RowKit
open Go.Av
open Go.Lc
set_option maxRecDepth 100000
set_option linter.unusedSimpArgs false
set_option linter.unusedVariables false
attribute [simp] tt1 tt2 tt3 tt4 tt5 tt6 tt7 tt8 tt9 tt10 tt11 tt12 tt13 tt14 tt15 tt16 tt17 tt18 tt19 tt21 tt22 tt23 tt24 tt25 tt26 tt27 tt28 tt29 tt30 tt31 tt32 tt33 tt34 tt35 tt36 tt37 tt38 tt39 tt41 tt42 tt43 tt44 tt45 tt47 tt48 tt49 tt50 tt51 tt52 tt54 tt55 tt56 tt57 tt58 tt59 tt60 tt61 tt62 tt63 tt64 tt65 tt66 tt67 tt68 tt69 tt70 tt71 tt73 tt74 tt75 tt76 tt77 tt78 tt80 tt81 tt82 tt83 tt84 tt85 tt86 tt87 tt88 tt89 tt90 tt91 tt92 tt93 tt94 tt95 tt96 tt97 tt98 tt99 tt100 tt101 tt102 tt103 tt104 tt105 tt106 tt107 tt108 tt109 tt110 tt111 tt112 tt114 tt115 tt116 tt117 tt118 tt119 tt121 tt123 tt124 tt125 tt126 tt127 tt128 tt129 tt130 tt131 tt133 tt134 tt135 tt136 tt137 tt138 tt139 tt140 tt141 tt142 tt143 tt144 tt145 tt146 tt147 tt148 tt149 tt150 tt151 tt152 tt153 tt154 tt155 tt156 tt157 tt158 tt159 tt160 tt161 ti1 ti2 ti3 ti4 ti5 ti6 ti7 ti8 ti9 ti10 ti11 ti12 ti13 ti14 ti15 ti16 ti17 ti18 ti19 ti21 ti22 ti23 ti24 ti25 ti26 ti27 ti28 ti29 ti30 ti31 ti32 ti33 ti34 ti35 ti36 ti37 ti38 ti39 ti41 ti42 ti43 ti44 ti45 ti47 ti48 ti49 ti50 ti51 ti52 ti54 ti55 ti56 ti57 ti58 ti59 ti60 ti61 ti62 ti63 ti64 ti65 ti66 ti67 ti68 ti69 ti70 ti71 ti73 ti74 ti75 ti76 ti77 ti78 ti80 ti81 ti82 ti83 ti84 ti85 ti86 ti87 ti88 ti89 ti90 ti91 ti92 ti93 ti94 ti95 ti96 ti97 ti98 ti99 ti100 ti101 ti102 ti103 ti104 ti105 ti106 ti107 ti108 ti109 ti110 ti111 ti112 ti114 ti115 ti116 ti117 ti118 ti119 ti121 ti123 ti124 ti125 ti126 ti127 ti128 ti129 ti130 ti131 ti133 ti134 ti135 ti136 ti137 ti138 ti139 ti140 ti141 ti142 ti143 ti144 ti145 ti146 ti147 ti148 ti149 ti150 ti151 ti152 ti153 ti154 ti155 ti156 ti157 ti158 ti159 ti160 ti161
@[simp] theorem Zua {n : Nat} {k : IntKind} {l : List (Arr n)} : l.any ((fun l => l.any Cell.isSl) ∘ arC k) = false := by simp [arC, ints]
@[simp↓] theorem ZtN {k : IntKind} (m : List Int) (n : Nat) : (∀ l, l ∈ List.drop n (Zk k m) → l.length = 1) = True := eq_true fun l h => intsR_all l (List.mem_of_mem_drop h)
@[simp↓] theorem ZtO {k : IntKind} (m : List Int) (n : Nat) : (∀ l, l ∈ List.take n (Zk k m) → l.length = 1) = True := eq_true fun l h => intsR_all l (List.mem_of_mem_take h)
@[simp↓] theorem ZtP {k : IntKind} (m : List Int) : (∀ l, l ∈ (Zk k m).tail → l.length = 1) = True := eq_true fun l h => intsR_all l (List.mem_of_mem_tail h)
@[simp↓] theorem Ztr {k : IntKind} (m : List Int) (n : Nat) : (∀ l, l ∈ List.take n (Zk k m).tail → l.length = 1) = True := eq_true fun l h => intsR_all l (List.mem_of_mem_tail (List.mem_of_mem_take h))
@[simp↓] theorem Zts {k : IntKind} (m : List Int) (n : Nat) : (∀ l, l ∈ List.drop n (Zk k m).tail → l.length = 1) = True := eq_true fun l h => intsR_all l (List.mem_of_mem_tail (List.mem_of_mem_drop h))
@[simp] theorem arC_z8 : arC .u64 (zA 8) = arC .u64 (zA 4) ++ arC .u64 (zA 4) := rfl
@[simp] theorem arC_z12 : arC .u64 (zA 12) = arC .u64 (zA 4) ++ (arC .u64 (zA 4) ++ arC .u64 (zA 4)) := rfl
@[simp] theorem Ztt {a : Nat} : (1 + a ≤ a + 1) = True := eq_true (by omega)
@[simp] theorem Zuv {L : List (List Cell)} {x : List Cell} {i m : Nat} (h : i ≤ m) (hL : L.length = m) : Ze8 (i + (1 + (m - i))) (List.take i L ++ x :: List.drop i L) = List.take i L ++ x :: List.drop i L := by
  unfold Ze8
  rw [if_pos]
  simp
  omega
@[simp] theorem Zuw {L : List (List Cell)} {x : List Cell} {i m : Nat} (hL : L.length = m) : List.take (1 + (m - i)) (x :: List.drop i L) = x :: List.drop i L :=
  List.take_of_length_le (by simp; omega)
@[simp] def Yf (x : (List Int)) : List Cell := [.slice .no (Zk .u8 x)]
theorem eS_I_u8_inj : ∀ a b, Yf a = Yf b → a = b := by
  rintro a b h
  simpa [and_assoc] using h
@[simp↓] theorem Zkm (m : List (List Int)) : (∀ l, l ∈ List.map Yf m → l.length = 1) = True := ZbN (fun a => by simp) m
@[simp↓] theorem Zsp (m : List (List Int)) (k : Nat) : (∀ l, l ∈ List.drop k (List.map Yf m) → l.length = 1) = True := eq_true fun l h => of_eq_true (Zkm m) l (List.mem_of_mem_drop h)
@[simp↓] theorem Zsq (m : List (List Int)) (k : Nat) : (∀ l, l ∈ List.take k (List.map Yf m) → l.length = 1) = True := eq_true fun l h => of_eq_true (Zkm m) l (List.mem_of_mem_take h)
@[simp] theorem Ztu {l m : List (List Int)} : List.map Yf l = List.map Yf m ↔ l = m := Zfc eS_I_u8_inj
@[simp] def Zo (x : Tapi_Input) : List Cell := (arC .u8 x.1.1) ++ ((.v (.int .u32 x.1.2)) :: ((.v (.int .u32 x.2.1)) :: ((.slice .no (List.map Yf x.2.2)) :: [])))
theorem eapi_Input_inj : ∀ a b, Zo a = Zo b → a = b := by
  rintro ⟨⟨a_0_0, a_0_1⟩, a_1, a_2⟩ ⟨⟨b_0_0, b_0_1⟩, b_1, b_2⟩ h
  simpa [and_assoc] using h
@[simp↓] theorem ZhL (m : List Tapi_Input) : (∀ l, l ∈ List.map Zo m → l.length = 35) = True := ZbN (fun a => by simp) m
@[simp↓] theorem Zq8 (m : List Tapi_Input) (k : Nat) : (∀ l, l ∈ List.drop k (List.map Zo m) → l.length = 35) = True := eq_true fun l h => of_eq_true (ZhL m) l (List.mem_of_mem_drop h)
@[simp↓] theorem Zq9 (m : List Tapi_Input) (k : Nat) : (∀ l, l ∈ List.take k (List.map Zo m) → l.length = 35) = True := eq_true fun l h => of_eq_true (ZhL m) l (List.mem_of_mem_take h)
@[simp] theorem ZrU {l m : List Tapi_Input} : List.map Zo l = List.map Zo m ↔ l = m := Zfc eapi_Input_inj
@[simp] def Zm (x : Tapi_Output) : List Cell := [.v (.int .i64 x.1), .slice .no (Zk .u8 x.2)]
theorem eapi_Output_inj : ∀ a b, Zm a = Zm b → a = b := by
  rintro ⟨a_0, a_1⟩ ⟨b_0, b_1⟩ h
  simpa [and_assoc] using h
@[simp↓] theorem Zhe (m : List Tapi_Output) : (∀ l, l ∈ List.map Zm m → l.length = 2) = True := ZbN (fun a => by simp) m
@[simp↓] theorem ZqX (m : List Tapi_Output) (k : Nat) : (∀ l, l ∈ List.drop k (List.map Zm m) → l.length = 2) = True := eq_true fun l h => of_eq_true (Zhe m) l (List.mem_of_mem_drop h)
@[simp↓] theorem ZqY (m : List Tapi_Output) (k : Nat) : (∀ l, l ∈ List.take k (List.map Zm m) → l.length = 2) = True := eq_true fun l h => of_eq_true (Zhe m) l (List.mem_of_mem_take h)
@[simp] theorem Zra {l m : List Tapi_Output} : List.map Zm l = List.map Zm m ↔ l = m := Zfc eapi_Output_inj
@[simp] def ZL (x : Tapi_Coin) : List Cell := (arC .u8 x.1.1) ++ ((.v (.int .u32 x.1.2)) :: ((.v (.int .i64 x.2.1.1)) :: ((.slice .no (Zk .u8 x.2.1.2)) :: ((.v (.int .i64 x.2.2.1)) :: ((.v (.bool x.2.2.2)) :: [])))))
theorem eapi_Coin_inj : ∀ a b, ZL a = ZL b → a = b := by
  rintro ⟨⟨a_0_0, a_0_1⟩, ⟨a_1_0, a_1_1⟩, a_2, a_3⟩ ⟨⟨b_0_0, b_0_1⟩, ⟨b_1_0, b_1_1⟩, b_2, b_3⟩ h
  simpa [and_assoc] using h
@[simp↓] theorem Ziw (m : List Tapi_Coin) : (∀ l, l ∈ List.map ZL m → l.length = 37) = True := ZbN (fun a => by simp) m
@[simp↓] theorem ZrV (m : List Tapi_Coin) (k : Nat) : (∀ l, l ∈ List.drop k (List.map ZL m) → l.length = 37) = True := eq_true fun l h => of_eq_true (Ziw m) l (List.mem_of_mem_drop h)
@[simp↓] theorem ZrW (m : List Tapi_Coin) (k : Nat) : (∀ l, l ∈ List.take k (List.map ZL m) → l.length = 37) = True := eq_true fun l h => of_eq_true (Ziw m) l (List.mem_of_mem_take h)
@[simp] theorem Zr4 {l m : List Tapi_Coin} : List.map ZL l = List.map ZL m ↔ l = m := Zfc eapi_Coin_inj
@[simp] def XO (x : Tapi_Op) : List Cell := [.v (.int .i64 x.1), .slice .no (Zk .u8 x.2.1), .v (.int .i64 x.2.2.1), .v (.int .i64 x.2.2.2)]
theorem eapi_Op_inj : ∀ a b, XO a = XO b → a = b := by
  rintro ⟨a_0, a_1, a_2, a_3⟩ ⟨b_0, b_1, b_2, b_3⟩ h
  simpa [and_assoc] using h
@[simp↓] theorem Zkn (m : List Tapi_Op) : (∀ l, l ∈ List.map XO m → l.length = 4) = True := ZbN (fun a => by simp) m
@[simp↓] theorem Zsr (m : List Tapi_Op) (k : Nat) : (∀ l, l ∈ List.drop k (List.map XO m) → l.length = 4) = True := eq_true fun l h => of_eq_true (Zkn m) l (List.mem_of_mem_drop h)
@[simp↓] theorem Zss (m : List Tapi_Op) (k : Nat) : (∀ l, l ∈ List.take k (List.map XO m) → l.length = 4) = True := eq_true fun l h => of_eq_true (Zkn m) l (List.mem_of_mem_take h)
@[simp] theorem Ztv {l m : List Tapi_Op} : List.map XO l = List.map XO m ↔ l = m := Zfc eapi_Op_inj
@[simp] def ZX (x : Tapi_Signed) : List Cell := (.v (.int .i64 x.1)) :: ((arC .u64 x.2.1) ++ ((arC .u64 x.2.2.1) ++ (arC .u64 x.2.2.2)))
theorem eapi_Signed_inj : ∀ a b, ZX a = ZX b → a = b := by
  rintro ⟨a_0, a_1, ⟨a_2_0, a_2_1⟩⟩ ⟨b_0, b_1, ⟨b_2_0, b_2_1⟩⟩ h
  simpa [and_assoc] using h
@[simp↓] theorem Zhf (m : List Tapi_Signed) : (∀ l, l ∈ List.map ZX m → l.length = 13) = True := ZbN (fun a => by simp) m
@[simp↓] theorem ZqZ (m : List Tapi_Signed) (k : Nat) : (∀ l, l ∈ List.drop k (List.map ZX m) → l.length = 13) = True := eq_true fun l h => of_eq_true (Zhf m) l (List.mem_of_mem_drop h)
@[simp↓] theorem Zq0 (m : List Tapi_Signed) (k : Nat) : (∀ l, l ∈ List.take k (List.map ZX m) → l.length = 13) = True := eq_true fun l h => of_eq_true (Zhf m) l (List.mem_of_mem_take h)
@[simp] theorem Zq1 (m : List Tapi_Signed) : m.any ((fun l => l.any Cell.isSl) ∘ ZX) = false := List.any_eq_false.2 fun x _ => by simp
@[simp] theorem Zrb {l m : List Tapi_Signed} : List.map ZX l = List.map ZX m ↔ l = m := Zfc eapi_Signed_inj
theorem nfs : (∀ x : (List Int), Yf x = [.slice .no (Zk .u8 x)]) ∧ (∀ x : Tapi_Input, Zo x = (arC .u8 x.1.1) ++ ((.v (.int .u32 x.1.2)) :: ((.v (.int .u32 x.2.1)) :: ((.slice .no (List.map Yf x.2.2)) :: [])))) ∧ (∀ x : Tapi_Output, Zm x = [.v (.int .i64 x.1), .slice .no (Zk .u8 x.2)]) ∧ (∀ x : Tapi_Coin, ZL x = (arC .u8 x.1.1) ++ ((.v (.int .u32 x.1.2)) :: ((.v (.int .i64 x.2.1.1)) :: ((.slice .no (Zk .u8 x.2.1.2)) :: ((.v (.int .i64 x.2.2.1)) :: ((.v (.bool x.2.2.2)) :: [])))))) ∧ (∀ x : Tapi_Op, XO x = [.v (.int .i64 x.1), .slice .no (Zk .u8 x.2.1), .v (.int .i64 x.2.2.1), .v (.int .i64 x.2.2.2)]) ∧ (∀ x : Tapi_Signed, ZX x = (.v (.int .i64 x.1)) :: ((arC .u64 x.2.1) ++ ((arC .u64 x.2.2.1) ++ (arC .u64 x.2.2.2)))) := ⟨fun _ => rfl, fun _ => rfl, fun _ => rfl, fun _ => rfl, fun _ => rfl, fun _ => rfl⟩
@[simp] def ZaN (x : Tapi_OutPoint × Bool) : List Cell := ((arC .u8 x.1.1) ++ ((.v (.int .u32 x.1.2)) :: [])) ++ ([.v (.bool x.2)])
theorem eM_api_OutPoint_B_he : ∀ a b : Tapi_OutPoint, kEq ((arC .u8 a.1) ++ ((.v (.int .u32 a.2)) :: [])) ((arC .u8 b.1) ++ ((.v (.int .u32 b.2)) :: [])) = decide (a = b) := by
  rintro ⟨a_0, a_1⟩ ⟨b_0, b_1⟩
  rw [Bool.eq_iff_iff]
  simp [kEq, kEq1]
@[simp] theorem Zod {k0 : (Arr 32)} {k1 : Int} {l : List (Tapi_OutPoint × Bool)} : ZdZ 33 ((arC .u8 k0) ++ ((.v (.int .u32 k1)) :: [])) (List.map ZaN l) = Option.map (fun v : Bool => ([.v (.bool v)] : List Cell)) (ZcK (k0, k1) l) := Zm3 (eK := (fun k : Tapi_OutPoint => ((arC .u8 k.1) ++ ((.v (.int .u32 k.2)) :: []) : List Cell))) (eV := (fun v : Bool => ([.v (.bool v)] : List Cell))) (fun k => by simp) eM_api_OutPoint_B_he (k0, k1) l
@[simp] theorem Zoe {k0 : (Arr 32)} {k1 : Int} {v0 : Bool} {l : List (Tapi_OutPoint × Bool)} : Ze6 33 ((arC .u8 k0) ++ ((.v (.int .u32 k1)) :: [])) ([.v (.bool v0)]) (List.map ZaN l) = List.map ZaN (ZfT (k0, k1) v0 l) := Zm4 (eK := (fun k : Tapi_OutPoint => ((arC .u8 k.1) ++ ((.v (.int .u32 k.2)) :: []) : List Cell))) (eV := (fun v : Bool => ([.v (.bool v)] : List Cell))) (fun k => by simp) eM_api_OutPoint_B_he (k0, k1) v0 l
@[simp] theorem ZoY (o : Option Bool) : (Option.map (fun v : Bool => ([.v (.bool v)] : List Cell)) o).getD ([.v (.bool false)]) = [.v (.bool (o.getD false))] := by cases o <;> rfl
@[simp] theorem ZnM {k0 : (Arr 32)} {k1 : Int} {v0 : Bool} : Ze6 33 ((arC .u8 k0) ++ ((.v (.int .u32 k1)) :: [])) ([.v (.bool v0)]) [] = List.map ZaN (ZfT (k0, k1) v0 []) := rfl
variable {G : Glob}
def E60 (x : (Arr 4)) : List PV := [.agg (arC .u64 x)]
theorem E60i : ∀ a b, E60 a = E60 b → a = b := by
  rintro a0 b0 h
  simpa [E60, and_assoc] using h
def R60 (x : (Arr 4)) (y : (Arr 32)) : PV × List (List Cell) := (.agg (arC .u8 y), [])
noncomputable def G60 := ZW E60 fun x => (Zas x).map (R60 x)
theorem Zst {a0 : (Arr 4)} {y : (Arr 32)} (h : Zas a0 = some y) : G60 (E60 a0) = some (R60 a0 y) := Zr E60i h
def E28 (x : (Arr 4)) : List PV := [.agg (arC .u64 x)]
theorem E28i : ∀ a b, E28 a = E28 b → a = b := by
  rintro a0 b0 h
  simpa [E28, and_assoc] using h
def R28 (x : (Arr 4)) (y : (List Int)) : PV × List (List Cell) := (.one (.slice .no (Zk .u8 y)), [])
noncomputable def G28 := ZW E28 fun x => (ZaT x).map (R28 x)
theorem ZpU {a0 : (Arr 4)} {y : (List Int)} (h : ZaT a0 = some y) : G28 (E28 a0) = some (R28 a0 y) := Zr E28i h
def E61 (x : Tapi_Op) : List PV := [.agg ([.v (.int .i64 x.1), .slice .no (Zk .u8 x.2.1), .v (.int .i64 x.2.2.1), .v (.int .i64 x.2.2.2)])]
theorem E61i : ∀ a b, E61 a = E61 b → a = b := by
  rintro ⟨a0_0, a0_1, a0_2, a0_3⟩ ⟨b0_0, b0_1, b0_2, b0_3⟩ h
  simpa [E61, and_assoc] using h
def R61 (x : Tapi_Op) (y : Int) : PV × List (List Cell) := (.one (.v (.int .i64 y)), [])
noncomputable def G61 := ZW E61 fun x => (Zat x).map (R61 x)
theorem Zsu {a0 : Tapi_Op} {y : Int} (h : Zat a0 = some y) : G61 (E61 a0) = some (R61 a0 y) := Zr E61i h
def E65 (x : (List Int) × (List Int)) : List PV := [.one (.slice .no (Zk .u8 x.1)), .one (.slice .no (Zk .u8 x.2))]
theorem E65i : ∀ a b, E65 a = E65 b → a = b := by
  rintro ⟨a0, a1⟩ ⟨b0, b1⟩ h
  simpa [E65, and_assoc] using h
def R65 (x : (List Int) × (List Int)) (y : (List Int)) : PV × List (List Cell) := (.one (.own 1 (Zk .u8 y)), [])
noncomputable def G65 := ZW E65 fun x => (Z7 x.1 x.2).map (R65 x)
theorem Zsv {a0 : (List Int)} {a1 : (List Int)} {y : (List Int)} (h : Z7 a0 a1 = some y) : G65 (E65 (a0, a1)) = some (R65 (a0, a1) y) := Zr E65i h
def E33 (x : (List (List Int))) : List PV := [.one (.slice .no (List.map Yf x))]
theorem E33i : ∀ a b, E33 a = E33 b → a = b := by
  rintro a0 b0 h
  simpa [E33, and_assoc] using h
def R33 (x : (List (List Int))) (y : (List Int)) : PV × List (List Cell) := (.one (.own 1 (Zk .u8 y)), [])
noncomputable def G33 := ZW E33 fun x => (Xx x).map (R33 x)
theorem Zln {a0 : (List (List Int))} {y : (List Int)} (h : Xx a0 = some y) : G33 (E33 a0) = some (R33 a0 y) := Zr E33i h
def E62 (x : Tapi_Op) : List PV := [.agg ([.v (.int .i64 x.1), .slice .no (Zk .u8 x.2.1), .v (.int .i64 x.2.2.1), .v (.int .i64 x.2.2.2)])]
theorem E62i : ∀ a b, E62 a = E62 b → a = b := by
  rintro ⟨a0_0, a0_1, a0_2, a0_3⟩ ⟨b0_0, b0_1, b0_2, b0_3⟩ h
  simpa [E62, and_assoc] using h
def R62 (x : Tapi_Op) (y : (List Int)) : PV × List (List Cell) := (.one (.own 1 (Zk .u8 y)), [])
noncomputable def G62 := ZW E62 fun x => (XA x).map (R62 x)
theorem ZpV {a0 : Tapi_Op} {y : (List Int)} (h : XA a0 = some y) : G62 (E62 a0) = some (R62 a0 y) := Zr E62i h
def E29 (x : (List Tapi_Op)) : List PV := [.one (.slice .no (List.map XO x))]
theorem E29i : ∀ a b, E29 a = E29 b → a = b := by
  rintro a0 b0 h
  simpa [E29, and_assoc] using h
def R29 (x : (List Tapi_Op)) (y : (List Int) × Int) : PV × List (List Cell) := (.tup [.one (.slice .no (Zk .u8 y.1)), .one (.v (.int .i64 y.2))], [])
noncomputable def G29 := ZW E29 fun x => (Xt x).map (R29 x)
theorem Zsw {a0 : (List Tapi_Op)} {y : (List Int) × Int} (h : Xt a0 = some y) : G29 (E29 a0) = some (R29 a0 y) := Zr E29i h
def E11 (x : Int × (List (Arr 4))) : List PV := [.one (.v (.int .i64 x.1)), .one (.slice .no (List.map (arC .u64) x.2))]
theorem E11i : ∀ a b, E11 a = E11 b → a = b := by
  rintro ⟨a0, a1⟩ ⟨b0, b1⟩ h
  simpa [E11, and_assoc] using h
def R11 (x : Int × (List (Arr 4))) (y : (List Int) × Int) : PV × List (List Cell) := (.tup [.one (.slice .no (Zk .u8 y.1)), .one (.v (.int .i64 y.2))], [])
noncomputable def G11 := ZW E11 fun x => (Xy x.1 x.2).map (R11 x)
theorem ZpW {a0 : Int} {a1 : (List (Arr 4))} {y : (List Int) × Int} (h : Xy a0 a1 = some y) : G11 (E11 (a0, a1)) = some (R11 (a0, a1) y) := Zr E11i h
def E20 (x : Int) : List PV := [.one (.v (.int .u64 x))]
theorem E20i : ∀ a b, E20 a = E20 b → a = b := by
  rintro a0 b0 h
  simpa [E20, and_assoc] using h
def R20 (x : Int) (y : (Arr 4)) : PV × List (List Cell) := (.agg (arC .u64 y), [])
noncomputable def G20 := ZW E20 fun x => (Yw x).map (R20 x)
theorem Zlo {a0 : Int} {y : (Arr 4)} (h : Yw a0 = some y) : G20 (E20 a0) = some (R20 a0 y) := Zr E20i h
def E12 (x : Int) : List PV := [.one (.v (.int .u64 x))]
theorem E12i : ∀ a b, E12 a = E12 b → a = b := by
  rintro a0 b0 h
  simpa [E12, and_assoc] using h
def R12 (x : Int) (y : (Arr 4)) : PV × List (List Cell) := (.agg (arC .u64 y), [])
noncomputable def G12 := ZW E12 fun x => (YR x).map (R12 x)
theorem ZfQ {a0 : Int} {y : (Arr 4)} (h : YR a0 = some y) : G12 (E12 a0) = some (R12 a0 y) := Zr E12i h
def E77 (x : Int) : List PV := [.one (.v (.int .i64 x))]
theorem E77i : ∀ a b, E77 a = E77 b → a = b := by
  rintro a0 b0 h
  simpa [E77, and_assoc] using h
def R77 (x : Int) (y : Bool) : PV × List (List Cell) := (.one (.v (.bool y)), [])
noncomputable def G77 := ZW E77 fun x => (X8 x).map (R77 x)
theorem Zsx {a0 : Int} {y : Bool} (h : X8 a0 = some y) : G77 (E77 a0) = some (R77 a0 y) := Zr E77i h
def E78 (x : (List (List Int))) : List PV := [.one (.slice .no (List.map Yf x))]
theorem E78i : ∀ a b, E78 a = E78 b → a = b := by
  rintro a0 b0 h
  simpa [E78, and_assoc] using h
def R78 (x : (List (List Int))) (y : (List Int)) : PV × List (List Cell) := (.one (.own 1 (Zk .u8 y)), [])
noncomputable def G78 := ZW E78 fun x => (ZaW x).map (R78 x)
theorem Zsy {a0 : (List (List Int))} {y : (List Int)} (h : ZaW a0 = some y) : G78 (E78 a0) = some (R78 a0 y) := Zr E78i h
def E79 (x : Int × Int) : List PV := [.one (.v (.int .i64 x.1)), .one (.v (.int .i64 x.2))]
theorem E79i : ∀ a b, E79 a = E79 b → a = b := by
  rintro ⟨a0, a1⟩ ⟨b0, b1⟩ h
  simpa [E79, and_assoc] using h
def R79 (x : Int × Int) (y : Bool) : PV × List (List Cell) := (.one (.v (.bool y)), [])
noncomputable def G79 := ZW E79 fun x => (Xu x.1 x.2).map (R79 x)
theorem Zsz {a0 : Int} {a1 : Int} {y : Bool} (h : Xu a0 a1 = some y) : G79 (E79 (a0, a1)) = some (R79 (a0, a1) y) := Zr E79i h
def E63 (x : (List Int)) : List PV := [.one (.slice .no (Zk .u8 x))]
theorem E63i : ∀ a b, E63 a = E63 b → a = b := by
  rintro a0 b0 h
  simpa [E63, and_assoc] using h
def R63 (x : (List Int)) (y : Tapi_Op × (List Int) × Int) : PV × List (List Cell) := (.tup [.agg ([.v (.int .i64 y.1.1), .slice .no (Zk .u8 y.1.2.1), .v (.int .i64 y.1.2.2.1), .v (.int .i64 y.1.2.2.2)]), .one (.slice .no (Zk .u8 y.2.1)), .one (.v (.int .i64 y.2.2))], [])
noncomputable def G63 := ZW E63 fun x => (Zau x).map (R63 x)
theorem ZsA {a0 : (List Int)} {y : Tapi_Op × (List Int) × Int} (h : Zau a0 = some y) : G63 (E63 a0) = some (R63 a0 y) := Zr E63i h
def E30 (x : (List Int)) : List PV := [.one (.slice .no (Zk .u8 x))]
theorem E30i : ∀ a b, E30 a = E30 b → a = b := by
  rintro a0 b0 h
  simpa [E30, and_assoc] using h
def R30 (x : (List Int)) (y : (List Tapi_Op) × Int) : PV × List (List Cell) := (.tup [.one (.slice .no (List.map XO y.1)), .one (.v (.int .i64 y.2))], [])
noncomputable def G30 := ZW E30 fun x => (XB x).map (R30 x)
theorem ZpX {a0 : (List Int)} {y : (List Tapi_Op) × Int} (h : XB a0 = some y) : G30 (E30 a0) = some (R30 a0 y) := Zr E30i h
def E64 (x : (List Int)) : List PV := [.one (.slice .no (Zk .u8 x))]
theorem E64i : ∀ a b, E64 a = E64 b → a = b := by
  rintro a0 b0 h
  simpa [E64, and_assoc] using h
def R64 (x : (List Int)) (y : Int × Int) : PV × List (List Cell) := (.tup [.one (.v (.int .u32 y.1)), .one (.v (.int .i64 y.2))], [])
noncomputable def G64 := ZW E64 fun x => (XL x).map (R64 x)
theorem ZsB {a0 : (List Int)} {y : Int × Int} (h : XL a0 = some y) : G64 (E64 a0) = some (R64 a0 y) := Zr E64i h
def E31 (x : (List Int)) : List PV := [.one (.slice .no (Zk .u8 x))]
theorem E31i : ∀ a b, E31 a = E31 b → a = b := by
  rintro a0 b0 h
  simpa [E31, and_assoc] using h
def R31 (x : (List Int)) (y : Int) : PV × List (List Cell) := (.one (.v (.int .i64 y)), [])
noncomputable def G31 := ZW E31 fun x => (YK x).map (R31 x)
theorem ZpY {a0 : (List Int)} {y : Int} (h : YK a0 = some y) : G31 (E31 a0) = some (R31 a0 y) := Zr E31i h
def E32 (x : (Arr 32)) : List PV := [.agg (arC .u8 x)]
theorem E32i : ∀ a b, E32 a = E32 b → a = b := by
  rintro a0 b0 h
  simpa [E32, and_assoc] using h
def R32 (x : (Arr 32)) (y : (Arr 4)) : PV × List (List Cell) := (.agg (arC .u64 y), [])
noncomputable def G32 := ZW E32 fun x => (Yx x).map (R32 x)
theorem Znq {a0 : (Arr 32)} {y : (Arr 4)} (h : Yx a0 = some y) : G32 (E32 a0) = some (R32 a0 y) := Zr E32i h
def E13 (x : (List Int)) : List PV := [.one (.slice .no (Zk .u8 x))]
theorem E13i : ∀ a b, E13 a = E13 b → a = b := by
  rintro a0 b0 h
  simpa [E13, and_assoc] using h
def R13 (x : (List Int)) (y : (List (Arr 4)) × Int × Bool) : PV × List (List Cell) := (.tup [.one (.slice .no (List.map (arC .u64) y.1)), .one (.v (.int .i64 y.2.1)), .one (.v (.bool y.2.2))], [])
noncomputable def G13 := ZW E13 fun x => (XC x).map (R13 x)
theorem ZpZ {a0 : (List Int)} {y : (List (Arr 4)) × Int × Bool} (h : XC a0 = some y) : G13 (E13 a0) = some (R13 a0 y) := Zr E13i h
def E14 (x : (List Int) × (List Int)) : List PV := [.one (.slice .no (Zk .u8 x.1)), .one (.slice .no (Zk .u8 x.2))]
theorem E14i : ∀ a b, E14 a = E14 b → a = b := by
  rintro ⟨a0, a1⟩ ⟨b0, b1⟩ h
  simpa [E14, and_assoc] using h
def R14 (x : (List Int) × (List Int)) (y : (List Int)) : PV × List (List Cell) := (.one (.own 1 (Zk .u8 y)), [])
noncomputable def G14 := ZW E14 fun x => (X9 x.1 x.2).map (R14 x)
theorem ZsC {a0 : (List Int)} {a1 : (List Int)} {y : (List Int)} (h : X9 a0 a1 = some y) : G14 (E14 (a0, a1)) = some (R14 (a0, a1) y) := Zr E14i h
def E4 (x : Unit) : List PV := []
theorem E4i : ∀ a b, E4 a = E4 b → a = b := fun _ _ _ => rfl
def R4 (x : Unit) (y : Bool) : PV × List (List Cell) := (.one (.v (.bool y)), [])
noncomputable def G4 := ZW E4 fun x => (Llaw35_sane).map (R4 x)
theorem ZtQ {y : Bool} (h : Llaw35_sane  = some y) : G4 (E4 ()) = some (R4 () y) := Zr E4i h
def E36 (x : Tlightclientmill_Deck) : List PV := [.io ([.slice .no (Zk .i64 x.1), .v (.int .i64 x.2)])]
theorem E36i : ∀ a b, E36 a = E36 b → a = b := by
  rintro ⟨a0_0, a0_1⟩ ⟨b0_0, b0_1⟩ h
  simpa [E36, and_assoc] using h
def R36 (x : Tlightclientmill_Deck) (y : Bool × Tlightclientmill_Deck) : PV × List (List Cell) := (.one (.v (.bool y.1)), [[.slice .no (Zk .i64 y.2.1), .v (.int .i64 y.2.2)]])
noncomputable def G36 := ZW E36 fun x => (XT x).map (R36 x)
theorem ZsD {a0 : Tlightclientmill_Deck} {y : Bool × Tlightclientmill_Deck} (h : XT a0 = some y) : G36 (E36 a0) = some (R36 a0 y) := Zr E36i h
def E37 (x : Int × Int) : List PV := [.one (.v (.int .i64 x.1)), .one (.v (.int .i64 x.2))]
theorem E37i : ∀ a b, E37 a = E37 b → a = b := by
  rintro ⟨a0, a1⟩ ⟨b0, b1⟩ h
  simpa [E37, and_assoc] using h
def R37 (x : Int × Int) (y : Int) : PV × List (List Cell) := (.one (.v (.int .i64 y)), [])
noncomputable def G37 := ZW E37 fun x => (Zb6 x.1 x.2).map (R37 x)
theorem ZsE {a0 : Int} {a1 : Int} {y : Int} (h : Zb6 a0 a1 = some y) : G37 (E37 (a0, a1)) = some (R37 (a0, a1) y) := Zr E37i h
def E19 (x : Tlightclientmill_Deck × Int) : List PV := [.io ([.slice .no (Zk .i64 x.1.1), .v (.int .i64 x.1.2)]), .one (.v (.int .i64 x.2))]
theorem E19i : ∀ a b, E19 a = E19 b → a = b := by
  rintro ⟨⟨a0_0, a0_1⟩, a1⟩ ⟨⟨b0_0, b0_1⟩, b1⟩ h
  simpa [E19, and_assoc] using h
def R19 (x : Tlightclientmill_Deck × Int) (y : Int × Tlightclientmill_Deck) : PV × List (List Cell) := (.one (.v (.int .i64 y.1)), [[.slice .no (Zk .i64 y.2.1), .v (.int .i64 y.2.2)]])
noncomputable def G19 := ZW E19 fun x => (Ye x.1 x.2).map (R19 x)
theorem Ze3 {a0 : Tlightclientmill_Deck} {a1 : Int} {y : Int × Tlightclientmill_Deck} (h : Ye a0 a1 = some y) : G19 (E19 (a0, a1)) = some (R19 (a0, a1) y) := Zr E19i h
def E7 (x : Tlightclientmill_Deck × Tapi_Plan) : List PV := [.io ([.slice .no (Zk .i64 x.1.1), .v (.int .i64 x.1.2)]), .agg ([.v (.int .u32 x.2.1.1), .slice .no (List.map Zo x.2.1.2.1), .slice .no (List.map Zm x.2.1.2.2.1), .v (.int .u32 x.2.1.2.2.2), .slice .no (List.map ZL x.2.2.1), .v (.int .i64 x.2.2.2.1), .v (.int .i64 x.2.2.2.2)])]
theorem E7i : ∀ a b, E7 a = E7 b → a = b := by
  rintro ⟨⟨a0_0, a0_1⟩, ⟨⟨a1_0_0, a1_0_1, a1_0_2, a1_0_3⟩, a1_1, a1_2, a1_3⟩⟩ ⟨⟨b0_0, b0_1⟩, ⟨⟨b1_0_0, b1_0_1, b1_0_2, b1_0_3⟩, b1_1, b1_2, b1_3⟩⟩ h
  simpa [E7, and_assoc] using h
def R7 (x : Tlightclientmill_Deck × Tapi_Plan) (y : (List Tapi_Signed) × Tlightclientmill_Deck) : PV × List (List Cell) := (.one (.own 13 (List.map ZX y.1)), [[.slice .no (Zk .i64 y.2.1), .v (.int .i64 y.2.2)]])
noncomputable def G7 := ZW E7 fun x => (Xz x.1 x.2).map (R7 x)
theorem ZoZ {a0 : Tlightclientmill_Deck} {a1 : Tapi_Plan} {y : (List Tapi_Signed) × Tlightclientmill_Deck} (h : Xz a0 a1 = some y) : G7 (E7 (a0, a1)) = some (R7 (a0, a1) y) := Zr E7i h
def E34 (x : (List Int)) : List PV := [.one (.slice .no (Zk .u8 x))]
theorem E34i : ∀ a b, E34 a = E34 b → a = b := by
  rintro a0 b0 h
  simpa [E34, and_assoc] using h
def R34 (x : (List Int)) (y : (List Int)) : PV × List (List Cell) := (.one (.own 1 (Zk .u8 y)), [])
noncomputable def G34 := ZW E34 fun x => (Zap x).map (R34 x)
theorem Zp0 {a0 : (List Int)} {y : (List Int)} (h : Zap a0 = some y) : G34 (E34 a0) = some (R34 a0 y) := Zr E34i h
def E15 (x : (Arr 4)) : List PV := [.agg (arC .u64 x)]
theorem E15i : ∀ a b, E15 a = E15 b → a = b := by
  rintro a0 b0 h
  simpa [E15, and_assoc] using h
def R15 (x : (Arr 4)) (y : (List Int)) : PV × List (List Cell) := (.one (.own 1 (Zk .u8 y)), [])
noncomputable def G15 := ZW E15 fun x => (XD x).map (R15 x)
theorem ZsF {a0 : (Arr 4)} {y : (List Int)} (h : XD a0 = some y) : G15 (E15 a0) = some (R15 a0 y) := Zr E15i h
def E35 (x : Int) : List PV := [.one (.v (.int .u32 x))]
theorem E35i : ∀ a b, E35 a = E35 b → a = b := by
  rintro a0 b0 h
  simpa [E35, and_assoc] using h
def R35 (x : Int) (y : (List Int)) : PV × List (List Cell) := (.one (.own 1 (Zk .u8 y)), [])
noncomputable def G35 := ZW E35 fun x => (ZaX x).map (R35 x)
theorem ZsG {a0 : Int} {y : (List Int)} (h : ZaX a0 = some y) : G35 (E35 a0) = some (R35 a0 y) := Zr E35i h
def E16 (x : Int × (List Int)) : List PV := [.one (.v (.int .u32 x.1)), .one (.slice .no (Zk .u8 x.2))]
theorem E16i : ∀ a b, E16 a = E16 b → a = b := by
  rintro ⟨a0, a1⟩ ⟨b0, b1⟩ h
  simpa [E16, and_assoc] using h
def R16 (x : Int × (List Int)) (y : (List Int)) : PV × List (List Cell) := (.one (.own 1 (Zk .u8 y)), [])
noncomputable def G16 := ZW E16 fun x => (X0 x.1 x.2).map (R16 x)
theorem ZsH {a0 : Int} {a1 : (List Int)} {y : (List Int)} (h : X0 a0 a1 = some y) : G16 (E16 (a0, a1)) = some (R16 (a0, a1) y) := Zr E16i h
def E17 (x : Int) : List PV := [.one (.v (.int .u8 x))]
theorem E17i : ∀ a b, E17 a = E17 b → a = b := by
  rintro a0 b0 h
  simpa [E17, and_assoc] using h
def R17 (x : Int) (y : (List Int)) : PV × List (List Cell) := (.one (.own 1 (Zk .u8 y)), [])
noncomputable def G17 := ZW E17 fun x => (XS x).map (R17 x)
theorem Znr {a0 : Int} {y : (List Int)} (h : XS a0 = some y) : G17 (E17 a0) = some (R17 a0 y) := Zr E17i h
def E18 (x : Tlightclientmill_Deck × (List (List Int))) : List PV := [.io ([.slice .no (Zk .i64 x.1.1), .v (.int .i64 x.1.2)]), .one (.slice .no (List.map Yf x.2))]
theorem E18i : ∀ a b, E18 a = E18 b → a = b := by
  rintro ⟨⟨a0_0, a0_1⟩, a1⟩ ⟨⟨b0_0, b0_1⟩, b1⟩ h
  simpa [E18, and_assoc] using h
def R18 (x : Tlightclientmill_Deck × (List (List Int))) (y : Tapi_Plan × Tlightclientmill_Deck) : PV × List (List Cell) := (.agg ([.v (.int .u32 y.1.1.1), .own 35 (List.map Zo y.1.1.2.1), .own 2 (List.map Zm y.1.1.2.2.1), .v (.int .u32 y.1.1.2.2.2), .own 37 (List.map ZL y.1.2.1), .v (.int .i64 y.1.2.2.1), .v (.int .i64 y.1.2.2.2)]), [[.slice .no (Zk .i64 y.2.1), .v (.int .i64 y.2.2)]])
noncomputable def G18 := ZW E18 fun x => (Zbw x.1 x.2).map (R18 x)
theorem ZsI {a0 : Tlightclientmill_Deck} {a1 : (List (List Int))} {y : Tapi_Plan × Tlightclientmill_Deck} (h : Zbw a0 a1 = some y) : G18 (E18 (a0, a1)) = some (R18 (a0, a1) y) := Zr E18i h
def E5 (x : Tlightclientmill_Deck) : List PV := [.io ([.slice .no (Zk .i64 x.1), .v (.int .i64 x.2)])]
theorem E5i : ∀ a b, E5 a = E5 b → a = b := by
  rintro ⟨a0_0, a0_1⟩ ⟨b0_0, b0_1⟩ h
  simpa [E5, and_assoc] using h
def R5 (x : Tlightclientmill_Deck) (y : Tapi_PartialTx × Tlightclientmill_Deck) : PV × List (List Cell) := (.agg ([.v (.int .u32 y.1.1.1.1), .slice .no (List.map Zo y.1.1.1.2.1), .slice .no (List.map Zm y.1.1.1.2.2.1), .v (.int .u32 y.1.1.1.2.2.2), .slice .no (List.map ZL y.1.1.2.1), .v (.int .i64 y.1.1.2.2.1), .v (.int .i64 y.1.1.2.2.2), .slice .no (List.map ZX y.1.2)]), [[.slice .no (Zk .i64 y.2.1), .v (.int .i64 y.2.2)]])
noncomputable def G5 := ZW E5 fun x => (ZaY x).map (R5 x)
theorem ZtR {a0 : Tlightclientmill_Deck} {y : Tapi_PartialTx × Tlightclientmill_Deck} (h : ZaY a0 = some y) : G5 (E5 a0) = some (R5 a0 y) := Zr E5i h
def E6 (x : (List Int)) : List PV := [.one (.slice .no (Zk .i64 x))]
theorem E6i : ∀ a b, E6 a = E6 b → a = b := by
  rintro a0 b0 h
  simpa [E6, and_assoc] using h
def R6 (x : (List Int)) (y : Tlightclientmill_Deck) : PV × List (List Cell) := (.io ([.slice .no (Zk .i64 y.1), .v (.int .i64 y.2)]), [])
noncomputable def G6 := ZW E6 fun x => (Zbu x).map (R6 x)
theorem Zo0 {a0 : (List Int)} {y : Tlightclientmill_Deck} (h : Zbu a0 = some y) : G6 (E6 a0) = some (R6 a0 y) := Zr E6i h
def E46 (x : (List Int)) : List PV := [.one (.slice .no (Zk .i64 x))]
theorem E46i : ∀ a b, E46 a = E46 b → a = b := by
  rintro a0 b0 h
  simpa [E46, and_assoc] using h
def R46 (x : (List Int)) (y : Int) : PV × List (List Cell) := (.one (.v (.int .i64 y)), [])
noncomputable def G46 := ZW E46 fun x => (XM x).map (R46 x)
theorem ZsJ {a0 : (List Int)} {y : Int} (h : XM a0 = some y) : G46 (E46 a0) = some (R46 a0 y) := Zr E46i h
def E66 (x : Int) : List PV := [.one (.v (.int .i64 x))]
theorem E66i : ∀ a b, E66 a = E66 b → a = b := by
  rintro a0 b0 h
  simpa [E66, and_assoc] using h
def R66 (x : Int) (y : Bool) : PV × List (List Cell) := (.one (.v (.bool y)), [])
noncomputable def G66 := ZW E66 fun x => (Y2 x).map (R66 x)
theorem Zp1 {a0 : Int} {y : Bool} (h : Y2 a0 = some y) : G66 (E66 a0) = some (R66 a0 y) := Zr E66i h
def E47 (x : Int × Int) : List PV := [.one (.v (.int .i64 x.1)), .one (.v (.int .i64 x.2))]
theorem E47i : ∀ a b, E47 a = E47 b → a = b := by
  rintro ⟨a0, a1⟩ ⟨b0, b1⟩ h
  simpa [E47, and_assoc] using h
def R47 (x : Int × Int) (y : Int) : PV × List (List Cell) := (.one (.v (.int .i64 y)), [])
noncomputable def G47 := ZW E47 fun x => (YO x.1 x.2).map (R47 x)
theorem ZsK {a0 : Int} {a1 : Int} {y : Int} (h : YO a0 a1 = some y) : G47 (E47 (a0, a1)) = some (R47 (a0, a1) y) := Zr E47i h
def E48 (x : (Arr 4) × (Arr 4)) : List PV := [.agg (arC .u64 x.1), .agg (arC .u64 x.2)]
theorem E48i : ∀ a b, E48 a = E48 b → a = b := by
  rintro ⟨a0, a1⟩ ⟨b0, b1⟩ h
  simpa [E48, and_assoc] using h
def R48 (x : (Arr 4) × (Arr 4)) (y : Int) : PV × List (List Cell) := (.one (.v (.int .i64 y)), [])
noncomputable def G48 := ZW E48 fun x => (ZbH x.1 x.2).map (R48 x)
theorem Zp2 {a0 : (Arr 4)} {a1 : (Arr 4)} {y : Int} (h : ZbH a0 a1 = some y) : G48 (E48 (a0, a1)) = some (R48 (a0, a1) y) := Zr E48i h
def E22 (x : Tapi_Signed × Tapi_Signed) : List PV := [.agg ((.v (.int .i64 x.1.1)) :: ((arC .u64 x.1.2.1) ++ ((arC .u64 x.1.2.2.1) ++ (arC .u64 x.1.2.2.2)))), .agg ((.v (.int .i64 x.2.1)) :: ((arC .u64 x.2.2.1) ++ ((arC .u64 x.2.2.2.1) ++ (arC .u64 x.2.2.2.2))))]
theorem E22i : ∀ a b, E22 a = E22 b → a = b := by
  rintro ⟨⟨a0_0, a0_1, ⟨a0_2_0, a0_2_1⟩⟩, ⟨a1_0, a1_1, ⟨a1_2_0, a1_2_1⟩⟩⟩ ⟨⟨b0_0, b0_1, ⟨b0_2_0, b0_2_1⟩⟩, ⟨b1_0, b1_1, ⟨b1_2_0, b1_2_1⟩⟩⟩ h
  simpa [E22, and_assoc] using h
def R22 (x : Tapi_Signed × Tapi_Signed) (y : Int) : PV × List (List Cell) := (.one (.v (.int .i64 y)), [])
noncomputable def G22 := ZW E22 fun x => (YW x.1 x.2).map (R22 x)
theorem Zp3 {a0 : Tapi_Signed} {a1 : Tapi_Signed} {y : Int} (h : YW a0 a1 = some y) : G22 (E22 (a0, a1)) = some (R22 (a0, a1) y) := Zr E22i h
def E74 (x : Tapi_OutPoint) : List PV := [.agg ((arC .u8 x.1) ++ ((.v (.int .u32 x.2)) :: []))]
theorem E74i : ∀ a b, E74 a = E74 b → a = b := by
  rintro ⟨a0_0, a0_1⟩ ⟨b0_0, b0_1⟩ h
  simpa [E74, and_assoc] using h
def R74 (x : Tapi_OutPoint) (y : Bool) : PV × List (List Cell) := (.one (.v (.bool y)), [])
noncomputable def G74 := ZW E74 fun x => (Zd2 x).map (R74 x)
theorem ZsL {a0 : Tapi_OutPoint} {y : Bool} (h : Zd2 a0 = some y) : G74 (E74 a0) = some (R74 a0 y) := Zr E74i h
def E55 (x : Tapi_Tx) : List PV := [.agg ([.v (.int .u32 x.1), .slice .no (List.map Zo x.2.1), .slice .no (List.map Zm x.2.2.1), .v (.int .u32 x.2.2.2)])]
theorem E55i : ∀ a b, E55 a = E55 b → a = b := by
  rintro ⟨a0_0, a0_1, a0_2, a0_3⟩ ⟨b0_0, b0_1, b0_2, b0_3⟩ h
  simpa [E55, and_assoc] using h
def R55 (x : Tapi_Tx) (y : Bool) : PV × List (List Cell) := (.one (.v (.bool y)), [])
noncomputable def G55 := ZW E55 fun x => (XU x).map (R55 x)
theorem Zp4 {a0 : Tapi_Tx} {y : Bool} (h : XU a0 = some y) : G55 (E55 a0) = some (R55 a0 y) := Zr E55i h
def E87 (x : (List Int) × (List Int)) : List PV := [.one (.slice .no (Zk .u8 x.1)), .one (.slice .no (Zk .u8 x.2))]
theorem E87i : ∀ a b, E87 a = E87 b → a = b := by
  rintro ⟨a0, a1⟩ ⟨b0, b1⟩ h
  simpa [E87, and_assoc] using h
def R87 (x : (List Int) × (List Int)) (y : (List Int)) : PV × List (List Cell) := (.one (.own 1 (Zk .u8 y)), [])
noncomputable def G87 := ZW E87 fun x => (Yp x.1 x.2).map (R87 x)
theorem Ze4 {a0 : (List Int)} {a1 : (List Int)} {y : (List Int)} (h : Yp a0 a1 = some y) : G87 (E87 (a0, a1)) = some (R87 (a0, a1) y) := Zr E87i h
def E88 (x : Int × Int) : List PV := [.one (.v (.int .u64 x.1)), .one (.v (.int .i64 x.2))]
theorem E88i : ∀ a b, E88 a = E88 b → a = b := by
  rintro ⟨a0, a1⟩ ⟨b0, b1⟩ h
  simpa [E88, and_assoc] using h
def R88 (x : Int × Int) (y : (List Int)) : PV × List (List Cell) := (.one (.own 1 (Zk .u8 y)), [])
noncomputable def G88 := ZW E88 fun x => (YG x.1 x.2).map (R88 x)
theorem Zns {a0 : Int} {a1 : Int} {y : (List Int)} (h : YG a0 a1 = some y) : G88 (E88 (a0, a1)) = some (R88 (a0, a1) y) := Zr E88i h
def E82 (x : (List Int) × Int) : List PV := [.one (.slice .no (Zk .u8 x.1)), .one (.v (.int .u32 x.2))]
theorem E82i : ∀ a b, E82 a = E82 b → a = b := by
  rintro ⟨a0, a1⟩ ⟨b0, b1⟩ h
  simpa [E82, and_assoc] using h
def R82 (x : (List Int) × Int) (y : (List Int)) : PV × List (List Cell) := (.one (.own 1 (Zk .u8 y)), [])
noncomputable def G82 := ZW E82 fun x => (Yy x.1 x.2).map (R82 x)
theorem ZjF {a0 : (List Int)} {a1 : Int} {y : (List Int)} (h : Yy a0 a1 = some y) : G82 (E82 (a0, a1)) = some (R82 (a0, a1) y) := Zr E82i h
def E85 (x : (List Int) × Int) : List PV := [.one (.slice .no (Zk .u8 x.1)), .one (.v (.int .u64 x.2))]
theorem E85i : ∀ a b, E85 a = E85 b → a = b := by
  rintro ⟨a0, a1⟩ ⟨b0, b1⟩ h
  simpa [E85, and_assoc] using h
def R85 (x : (List Int) × Int) (y : (List Int)) : PV × List (List Cell) := (.one (.own 1 (Zk .u8 y)), [])
noncomputable def G85 := ZW E85 fun x => (YV x.1 x.2).map (R85 x)
theorem Zp5 {a0 : (List Int)} {a1 : Int} {y : (List Int)} (h : YV a0 a1 = some y) : G85 (E85 (a0, a1)) = some (R85 (a0, a1) y) := Zr E85i h
def E89 (x : (List Int) × Int) : List PV := [.one (.slice .no (Zk .u8 x.1)), .one (.v (.int .u16 x.2))]
theorem E89i : ∀ a b, E89 a = E89 b → a = b := by
  rintro ⟨a0, a1⟩ ⟨b0, b1⟩ h
  simpa [E89, and_assoc] using h
def R89 (x : (List Int) × Int) (y : (List Int)) : PV × List (List Cell) := (.one (.own 1 (Zk .u8 y)), [])
noncomputable def G89 := ZW E89 fun x => (Xe x.1 x.2).map (R89 x)
theorem ZsM {a0 : (List Int)} {a1 : Int} {y : (List Int)} (h : Xe a0 a1 = some y) : G89 (E89 (a0, a1)) = some (R89 (a0, a1) y) := Zr E89i h
def E83 (x : (List Int) × Int) : List PV := [.one (.slice .no (Zk .u8 x.1)), .one (.v (.int .u64 x.2))]
theorem E83i : ∀ a b, E83 a = E83 b → a = b := by
  rintro ⟨a0, a1⟩ ⟨b0, b1⟩ h
  simpa [E83, and_assoc] using h
def R83 (x : (List Int) × Int) (y : (List Int)) : PV × List (List Cell) := (.one (.own 1 (Zk .u8 y)), [])
noncomputable def G83 := ZW E83 fun x => (YC x.1 x.2).map (R83 x)
theorem Zlp {a0 : (List Int)} {a1 : Int} {y : (List Int)} (h : YC a0 a1 = some y) : G83 (E83 (a0, a1)) = some (R83 (a0, a1) y) := Zr E83i h
def E90 (x : (List Int) × (Arr 32)) : List PV := [.one (.slice .no (Zk .u8 x.1)), .agg (arC .u8 x.2)]
theorem E90i : ∀ a b, E90 a = E90 b → a = b := by
  rintro ⟨a0, a1⟩ ⟨b0, b1⟩ h
  simpa [E90, and_assoc] using h
def R90 (x : (List Int) × (Arr 32)) (y : (List Int)) : PV × List (List Cell) := (.one (.own 1 (Zk .u8 y)), [])
noncomputable def G90 := ZW E90 fun x => (Y0 x.1 x.2).map (R90 x)
theorem ZsN {a0 : (List Int)} {a1 : (Arr 32)} {y : (List Int)} (h : Y0 a0 a1 = some y) : G90 (E90 (a0, a1)) = some (R90 (a0, a1) y) := Zr E90i h
def E84 (x : Tapi_OutPoint) : List PV := [.agg ((arC .u8 x.1) ++ ((.v (.int .u32 x.2)) :: []))]
theorem E84i : ∀ a b, E84 a = E84 b → a = b := by
  rintro ⟨a0_0, a0_1⟩ ⟨b0_0, b0_1⟩ h
  simpa [E84, and_assoc] using h
def R84 (x : Tapi_OutPoint) (y : (List Int)) : PV × List (List Cell) := (.one (.own 1 (Zk .u8 y)), [])
noncomputable def G84 := ZW E84 fun x => (Zb7 x).map (R84 x)
theorem ZsO {a0 : Tapi_OutPoint} {y : (List Int)} (h : Zb7 a0 = some y) : G84 (E84 a0) = some (R84 a0 y) := Zr E84i h
def E86 (x : (List Int) × (List Int)) : List PV := [.one (.slice .no (Zk .u8 x.1)), .one (.slice .no (Zk .u8 x.2))]
theorem E86i : ∀ a b, E86 a = E86 b → a = b := by
  rintro ⟨a0, a1⟩ ⟨b0, b1⟩ h
  simpa [E86, and_assoc] using h
def R86 (x : (List Int) × (List Int)) (y : (List Int)) : PV × List (List Cell) := (.one (.own 1 (Zk .u8 y)), [])
noncomputable def G86 := ZW E86 fun x => (YI x.1 x.2).map (R86 x)
theorem Zp6 {a0 : (List Int)} {a1 : (List Int)} {y : (List Int)} (h : YI a0 a1 = some y) : G86 (E86 (a0, a1)) = some (R86 (a0, a1) y) := Zr E86i h
def E81 (x : Tapi_Tx × Bool) : List PV := [.agg ([.v (.int .u32 x.1.1), .slice .no (List.map Zo x.1.2.1), .slice .no (List.map Zm x.1.2.2.1), .v (.int .u32 x.1.2.2.2)]), .one (.v (.bool x.2))]
theorem E81i : ∀ a b, E81 a = E81 b → a = b := by
  rintro ⟨⟨a0_0, a0_1, a0_2, a0_3⟩, a1⟩ ⟨⟨b0_0, b0_1, b0_2, b0_3⟩, b1⟩ h
  simpa [E81, and_assoc] using h
def R81 (x : Tapi_Tx × Bool) (y : (List Int)) : PV × List (List Cell) := (.one (.own 1 (Zk .u8 y)), [])
noncomputable def G81 := ZW E81 fun x => (Zbv x.1 x.2).map (R81 x)
theorem ZsP {a0 : Tapi_Tx} {a1 : Bool} {y : (List Int)} (h : Zbv a0 a1 = some y) : G81 (E81 (a0, a1)) = some (R81 (a0, a1) y) := Zr E81i h
def E72 (x : Tapi_Tx) : List PV := [.agg ([.v (.int .u32 x.1), .slice .no (List.map Zo x.2.1), .slice .no (List.map Zm x.2.2.1), .v (.int .u32 x.2.2.2)])]
theorem E72i : ∀ a b, E72 a = E72 b → a = b := by
  rintro ⟨a0_0, a0_1, a0_2, a0_3⟩ ⟨b0_0, b0_1, b0_2, b0_3⟩ h
  simpa [E72, and_assoc] using h
def R72 (x : Tapi_Tx) (y : Bool) : PV × List (List Cell) := (.one (.v (.bool y)), [])
noncomputable def G72 := ZW E72 fun x => (Zc3 x).map (R72 x)
theorem ZsQ {a0 : Tapi_Tx} {y : Bool} (h : Zc3 a0 = some y) : G72 (E72 a0) = some (R72 a0 y) := Zr E72i h
def E73 (x : (List Tapi_Output)) : List PV := [.one (.slice .no (List.map Zm x))]
theorem E73i : ∀ a b, E73 a = E73 b → a = b := by
  rintro a0 b0 h
  simpa [E73, and_assoc] using h
def R73 (x : (List Tapi_Output)) (y : Bool) : PV × List (List Cell) := (.one (.v (.bool y)), [])
noncomputable def G73 := ZW E73 fun x => (Zb8 x).map (R73 x)
theorem ZsR {a0 : (List Tapi_Output)} {y : Bool} (h : Zb8 a0 = some y) : G73 (E73 a0) = some (R73 a0 y) := Zr E73i h
def E54 (x : Tapi_Tx) : List PV := [.agg ([.v (.int .u32 x.1), .slice .no (List.map Zo x.2.1), .slice .no (List.map Zm x.2.2.1), .v (.int .u32 x.2.2.2)])]
theorem E54i : ∀ a b, E54 a = E54 b → a = b := by
  rintro ⟨a0_0, a0_1, a0_2, a0_3⟩ ⟨b0_0, b0_1, b0_2, b0_3⟩ h
  simpa [E54, and_assoc] using h
def R54 (x : Tapi_Tx) (y : Int) : PV × List (List Cell) := (.one (.v (.int .i64 y)), [])
noncomputable def G54 := ZW E54 fun x => (Zbx x).map (R54 x)
theorem Zp7 {a0 : Tapi_Tx} {y : Int} (h : Zbx a0 = some y) : G54 (E54 a0) = some (R54 a0 y) := Zr E54i h
def E75 (x : (List Tapi_Coin)) : List PV := [.one (.slice .no (List.map ZL x))]
theorem E75i : ∀ a b, E75 a = E75 b → a = b := by
  rintro a0 b0 h
  simpa [E75, and_assoc] using h
def R75 (x : (List Tapi_Coin)) (y : Int × Bool) : PV × List (List Cell) := (.tup [.one (.v (.int .i64 y.1)), .one (.v (.bool y.2))], [])
noncomputable def G75 := ZW E75 fun x => (Zby x).map (R75 x)
theorem ZsS {a0 : (List Tapi_Coin)} {y : Int × Bool} (h : Zby a0 = some y) : G75 (E75 a0) = some (R75 a0 y) := Zr E75i h
def E56 (x : Tapi_Tx × (List Tapi_Coin)) : List PV := [.agg ([.v (.int .u32 x.1.1), .slice .no (List.map Zo x.1.2.1), .slice .no (List.map Zm x.1.2.2.1), .v (.int .u32 x.1.2.2.2)]), .one (.slice .no (List.map ZL x.2))]
theorem E56i : ∀ a b, E56 a = E56 b → a = b := by
  rintro ⟨⟨a0_0, a0_1, a0_2, a0_3⟩, a1⟩ ⟨⟨b0_0, b0_1, b0_2, b0_3⟩, b1⟩ h
  simpa [E56, and_assoc] using h
def R56 (x : Tapi_Tx × (List Tapi_Coin)) (y : Int × Int) : PV × List (List Cell) := (.tup [.one (.v (.int .i64 y.1)), .one (.v (.int .i64 y.2))], [])
noncomputable def G56 := ZW E56 fun x => (Zbz x.1 x.2).map (R56 x)
theorem ZsT {a0 : Tapi_Tx} {a1 : (List Tapi_Coin)} {y : Int × Int} (h : Zbz a0 a1 = some y) : G56 (E56 (a0, a1)) = some (R56 (a0, a1) y) := Zr E56i h
def E25 (x : Tapi_Plan) : List PV := [.agg ([.v (.int .u32 x.1.1), .slice .no (List.map Zo x.1.2.1), .slice .no (List.map Zm x.1.2.2.1), .v (.int .u32 x.1.2.2.2), .slice .no (List.map ZL x.2.1), .v (.int .i64 x.2.2.1), .v (.int .i64 x.2.2.2)])]
theorem E25i : ∀ a b, E25 a = E25 b → a = b := by
  rintro ⟨⟨a0_0_0, a0_0_1, a0_0_2, a0_0_3⟩, a0_1, a0_2, a0_3⟩ ⟨⟨b0_0_0, b0_0_1, b0_0_2, b0_0_3⟩, b0_1, b0_2, b0_3⟩ h
  simpa [E25, and_assoc] using h
def R25 (x : Tapi_Plan) (y : Bool) : PV × List (List Cell) := (.one (.v (.bool y)), [])
noncomputable def G25 := ZW E25 fun x => (Xw x).map (R25 x)
theorem ZsU {a0 : Tapi_Plan} {y : Bool} (h : Xw a0 = some y) : G25 (E25 a0) = some (R25 a0 y) := Zr E25i h
def E76 (x : Unit) : List PV := []
theorem E76i : ∀ a b, E76 a = E76 b → a = b := fun _ _ _ => rfl
def R76 (x : Unit) (y : (Arr 4)) : PV × List (List Cell) := (.agg (arC .u64 y), [])
noncomputable def G76 := ZW E76 fun x => (Lgroup_Order).map (R76 x)
theorem ZsV {y : (Arr 4)} (h : Lgroup_Order  = some y) : G76 (E76 ()) = some (R76 () y) := Zr E76i h
def E57 (x : (Arr 4)) : List PV := [.agg (arC .u64 x)]
theorem E57i : ∀ a b, E57 a = E57 b → a = b := by
  rintro a0 b0 h
  simpa [E57, and_assoc] using h
def R57 (x : (Arr 4)) (y : Bool) : PV × List (List Cell) := (.one (.v (.bool y)), [])
noncomputable def G57 := ZW E57 fun x => (X1 x).map (R57 x)
theorem Zp8 {a0 : (Arr 4)} {y : Bool} (h : X1 a0 = some y) : G57 (E57 a0) = some (R57 a0 y) := Zr E57i h
def E26 (x : (List Int)) : List PV := [.one (.slice .no (Zk .u8 x))]
theorem E26i : ∀ a b, E26 a = E26 b → a = b := by
  rintro a0 b0 h
  simpa [E26, and_assoc] using h
def R26 (x : (List Int)) (y : Tapi_Signature × Int) : PV × List (List Cell) := (.tup [.agg ((arC .u64 y.1.1) ++ (arC .u64 y.1.2)), .one (.v (.int .i64 y.2))], [])
noncomputable def G26 := ZW E26 fun x => (Zav x).map (R26 x)
theorem ZsW {a0 : (List Int)} {y : Tapi_Signature × Int} (h : Zav a0 = some y) : G26 (E26 a0) = some (R26 a0 y) := Zr E26i h
def E58 (x : (List (Arr 32))) : List PV := [.one (.slice .no (List.map (arC .u8) x))]
theorem E58i : ∀ a b, E58 a = E58 b → a = b := by
  rintro a0 b0 h
  simpa [E58, and_assoc] using h
def R58 (x : (List (Arr 32))) (y : (List Int)) : PV × List (List Cell) := (.one (.own 1 (Zk .u8 y)), [])
noncomputable def G58 := ZW E58 fun x => (Zb9 x).map (R58 x)
theorem ZsX {a0 : (List (Arr 32))} {y : (List Int)} (h : Zb9 a0 = some y) : G58 (E58 a0) = some (R58 a0 y) := Zr E58i h
def E59 (x : (Arr 4)) : List PV := [.agg (arC .u64 x)]
theorem E59i : ∀ a b, E59 a = E59 b → a = b := by
  rintro a0 b0 h
  simpa [E59, and_assoc] using h
def R59 (x : (Arr 4)) (y : (Arr 32)) : PV × List (List Cell) := (.agg (arC .u8 y), [])
noncomputable def G59 := ZW E59 fun x => (Zaq x).map (R59 x)
theorem Zp9 {a0 : (Arr 4)} {y : (Arr 32)} (h : Zaq a0 = some y) : G59 (E59 a0) = some (R59 a0 y) := Zr E59i h
def E27 (x : Tapi_Signature) : List PV := [.agg ((arC .u64 x.1) ++ (arC .u64 x.2))]
theorem E27i : ∀ a b, E27 a = E27 b → a = b := by
  rintro ⟨a0_0, a0_1⟩ ⟨b0_0, b0_1⟩ h
  simpa [E27, and_assoc] using h
def R27 (x : Tapi_Signature) (y : (List Int)) : PV × List (List Cell) := (.one (.own 1 (Zk .u8 y)), [])
noncomputable def G27 := ZW E27 fun x => (Zaw x).map (R27 x)
theorem ZsY {a0 : Tapi_Signature} {y : (List Int)} (h : Zaw a0 = some y) : G27 (E27 a0) = some (R27 a0 y) := Zr E27i h
def E10 (x : Tapi_PartialTx) : List PV := [.agg ([.v (.int .u32 x.1.1.1), .slice .no (List.map Zo x.1.1.2.1), .slice .no (List.map Zm x.1.1.2.2.1), .v (.int .u32 x.1.1.2.2.2), .slice .no (List.map ZL x.1.2.1), .v (.int .i64 x.1.2.2.1), .v (.int .i64 x.1.2.2.2), .slice .no (List.map ZX x.2)])]
theorem E10i : ∀ a b, E10 a = E10 b → a = b := by
  rintro ⟨⟨⟨a0_0_0_0, a0_0_0_1, a0_0_0_2, a0_0_0_3⟩, a0_0_1, a0_0_2, a0_0_3⟩, a0_1⟩ ⟨⟨⟨b0_0_0_0, b0_0_0_1, b0_0_0_2, b0_0_0_3⟩, b0_0_1, b0_0_2, b0_0_3⟩, b0_1⟩ h
  simpa [E10, and_assoc] using h
def R10 (x : Tapi_PartialTx) (y : Bool) : PV × List (List Cell) := (.one (.v (.bool y)), [])
noncomputable def G10 := ZW E10 fun x => (YZ x).map (R10 x)
theorem Znt {a0 : Tapi_PartialTx} {y : Bool} (h : YZ a0 = some y) : G10 (E10 a0) = some (R10 a0 y) := Zr E10i h
def E40 (x : (List Int) × (List Int)) : List PV := [.one (.slice .no (Zk .u8 x.1)), .one (.slice .no (Zk .u8 x.2))]
theorem E40i : ∀ a b, E40 a = E40 b → a = b := by
  rintro ⟨a0, a1⟩ ⟨b0, b1⟩ h
  simpa [E40, and_assoc] using h
def R40 (x : (List Int) × (List Int)) (y : Bool) : PV × List (List Cell) := (.one (.v (.bool y)), [])
noncomputable def G40 := ZW E40 fun x => (X2 x.1 x.2).map (R40 x)
theorem Zqa {a0 : (List Int)} {a1 : (List Int)} {y : Bool} (h : X2 a0 a1 = some y) : G40 (E40 (a0, a1)) = some (R40 (a0, a1) y) := Zr E40i h
def Zgv (x : (List (List Int)) × (List (List Int))) : List PV := [.one (.slice .no (List.map Yf x.1)), .one (.slice .no (List.map Yf x.2)), .fn 40]
theorem E39_1i : ∀ a b, Zgv a = Zgv b → a = b := by
  rintro ⟨a0, a1⟩ ⟨b0, b1⟩ h
  simpa [Zgv, and_assoc] using h
def ZjU (x : (List (List Int)) × (List (List Int))) (y : Bool) : PV × List (List Cell) := (.one (.v (.bool y)), [])
noncomputable def G39_1 := ZW Zgv fun x => (ZH x.1 x.2).map (ZjU x)
theorem Zq2 {a0 : (List (List Int))} {a1 : (List (List Int))} {y : Bool} (h : ZH a0 a1 = some y) : G39_1 (Zgv (a0, a1)) = some (ZjU (a0, a1) y) := Zr E39_1i h
def E38 (x : Tapi_Input × Tapi_Input) : List PV := [.agg ((arC .u8 x.1.1.1) ++ ((.v (.int .u32 x.1.1.2)) :: ((.v (.int .u32 x.1.2.1)) :: ((.slice .no (List.map Yf x.1.2.2)) :: [])))), .agg ((arC .u8 x.2.1.1) ++ ((.v (.int .u32 x.2.1.2)) :: ((.v (.int .u32 x.2.2.1)) :: ((.slice .no (List.map Yf x.2.2.2)) :: []))))]
theorem E38i : ∀ a b, E38 a = E38 b → a = b := by
  rintro ⟨⟨⟨a0_0_0, a0_0_1⟩, a0_1, a0_2⟩, ⟨⟨a1_0_0, a1_0_1⟩, a1_1, a1_2⟩⟩ ⟨⟨⟨b0_0_0, b0_0_1⟩, b0_1, b0_2⟩, ⟨⟨b1_0_0, b1_0_1⟩, b1_1, b1_2⟩⟩ h
  simpa [E38, and_assoc] using h
def R38 (x : Tapi_Input × Tapi_Input) (y : Bool) : PV × List (List Cell) := (.one (.v (.bool y)), [])
noncomputable def G38 := ZW E38 fun x => (Y4 x.1 x.2).map (R38 x)
theorem ZsZ {a0 : Tapi_Input} {a1 : Tapi_Input} {y : Bool} (h : Y4 a0 a1 = some y) : G38 (E38 (a0, a1)) = some (R38 (a0, a1) y) := Zr E38i h
def E42 (x : Tapi_Output × Tapi_Output) : List PV := [.agg ([.v (.int .i64 x.1.1), .slice .no (Zk .u8 x.1.2)]), .agg ([.v (.int .i64 x.2.1), .slice .no (Zk .u8 x.2.2)])]
theorem E42i : ∀ a b, E42 a = E42 b → a = b := by
  rintro ⟨⟨a0_0, a0_1⟩, ⟨a1_0, a1_1⟩⟩ ⟨⟨b0_0, b0_1⟩, ⟨b1_0, b1_1⟩⟩ h
  simpa [E42, and_assoc] using h
def R42 (x : Tapi_Output × Tapi_Output) (y : Bool) : PV × List (List Cell) := (.one (.v (.bool y)), [])
noncomputable def G42 := ZW E42 fun x => (YE x.1 x.2).map (R42 x)
theorem Zqb {a0 : Tapi_Output} {a1 : Tapi_Output} {y : Bool} (h : YE a0 a1 = some y) : G42 (E42 (a0, a1)) = some (R42 (a0, a1) y) := Zr E42i h
def E41 (x : Tapi_Coin × Tapi_Coin) : List PV := [.agg ((arC .u8 x.1.1.1) ++ ((.v (.int .u32 x.1.1.2)) :: ((.v (.int .i64 x.1.2.1.1)) :: ((.slice .no (Zk .u8 x.1.2.1.2)) :: ((.v (.int .i64 x.1.2.2.1)) :: ((.v (.bool x.1.2.2.2)) :: [])))))), .agg ((arC .u8 x.2.1.1) ++ ((.v (.int .u32 x.2.1.2)) :: ((.v (.int .i64 x.2.2.1.1)) :: ((.slice .no (Zk .u8 x.2.2.1.2)) :: ((.v (.int .i64 x.2.2.2.1)) :: ((.v (.bool x.2.2.2.2)) :: []))))))]
theorem E41i : ∀ a b, E41 a = E41 b → a = b := by
  rintro ⟨⟨⟨a0_0_0, a0_0_1⟩, ⟨a0_1_0, a0_1_1⟩, a0_2, a0_3⟩, ⟨⟨a1_0_0, a1_0_1⟩, ⟨a1_1_0, a1_1_1⟩, a1_2, a1_3⟩⟩ ⟨⟨⟨b0_0_0, b0_0_1⟩, ⟨b0_1_0, b0_1_1⟩, b0_2, b0_3⟩, ⟨⟨b1_0_0, b1_0_1⟩, ⟨b1_1_0, b1_1_1⟩, b1_2, b1_3⟩⟩ h
  simpa [E41, and_assoc] using h
def R41 (x : Tapi_Coin × Tapi_Coin) (y : Bool) : PV × List (List Cell) := (.one (.v (.bool y)), [])
noncomputable def G41 := ZW E41 fun x => (Y5 x.1 x.2).map (R41 x)
theorem Zs0 {a0 : Tapi_Coin} {a1 : Tapi_Coin} {y : Bool} (h : Y5 a0 a1 = some y) : G41 (E41 (a0, a1)) = some (R41 (a0, a1) y) := Zr E41i h
def Zgw (x : (List Tapi_Input) × (List Tapi_Input)) : List PV := [.one (.slice .no (List.map Zo x.1)), .one (.slice .no (List.map Zo x.2)), .fn 38]
theorem E43_2i : ∀ a b, Zgw a = Zgw b → a = b := by
  rintro ⟨a0, a1⟩ ⟨b0, b1⟩ h
  simpa [Zgw, and_assoc] using h
def ZjV (x : (List Tapi_Input) × (List Tapi_Input)) (y : Bool) : PV × List (List Cell) := (.one (.v (.bool y)), [])
noncomputable def G43_2 := ZW Zgw fun x => (Zq x.1 x.2).map (ZjV x)
theorem Zq3 {a0 : (List Tapi_Input)} {a1 : (List Tapi_Input)} {y : Bool} (h : Zq a0 a1 = some y) : G43_2 (Zgw (a0, a1)) = some (ZjV (a0, a1) y) := Zr E43_2i h
def Zgx (x : (List Tapi_Output) × (List Tapi_Output)) : List PV := [.one (.slice .no (List.map Zm x.1)), .one (.slice .no (List.map Zm x.2)), .fn 42]
theorem E44_3i : ∀ a b, Zgx a = Zgx b → a = b := by
  rintro ⟨a0, a1⟩ ⟨b0, b1⟩ h
  simpa [Zgx, and_assoc] using h
def ZjW (x : (List Tapi_Output) × (List Tapi_Output)) (y : Bool) : PV × List (List Cell) := (.one (.v (.bool y)), [])
noncomputable def G44_3 := ZW Zgx fun x => (Zp x.1 x.2).map (ZjW x)
theorem Zq4 {a0 : (List Tapi_Output)} {a1 : (List Tapi_Output)} {y : Bool} (h : Zp a0 a1 = some y) : G44_3 (Zgx (a0, a1)) = some (ZjW (a0, a1) y) := Zr E44_3i h
def Zgy (x : (List Tapi_Coin) × (List Tapi_Coin)) : List PV := [.one (.slice .no (List.map ZL x.1)), .one (.slice .no (List.map ZL x.2)), .fn 41]
theorem E45_4i : ∀ a b, Zgy a = Zgy b → a = b := by
  rintro ⟨a0, a1⟩ ⟨b0, b1⟩ h
  simpa [Zgy, and_assoc] using h
def ZjX (x : (List Tapi_Coin) × (List Tapi_Coin)) (y : Bool) : PV × List (List Cell) := (.one (.v (.bool y)), [])
noncomputable def G45_4 := ZW Zgy fun x => (Zt x.1 x.2).map (ZjX x)
theorem Zq5 {a0 : (List Tapi_Coin)} {a1 : (List Tapi_Coin)} {y : Bool} (h : Zt a0 a1 = some y) : G45_4 (Zgy (a0, a1)) = some (ZjX (a0, a1) y) := Zr E45_4i h
def E21 (x : Tapi_Plan × Tapi_Plan) : List PV := [.agg ([.v (.int .u32 x.1.1.1), .slice .no (List.map Zo x.1.1.2.1), .slice .no (List.map Zm x.1.1.2.2.1), .v (.int .u32 x.1.1.2.2.2), .slice .no (List.map ZL x.1.2.1), .v (.int .i64 x.1.2.2.1), .v (.int .i64 x.1.2.2.2)]), .agg ([.v (.int .u32 x.2.1.1), .slice .no (List.map Zo x.2.1.2.1), .slice .no (List.map Zm x.2.1.2.2.1), .v (.int .u32 x.2.1.2.2.2), .slice .no (List.map ZL x.2.2.1), .v (.int .i64 x.2.2.2.1), .v (.int .i64 x.2.2.2.2)])]
theorem E21i : ∀ a b, E21 a = E21 b → a = b := by
  rintro ⟨⟨⟨a0_0_0, a0_0_1, a0_0_2, a0_0_3⟩, a0_1, a0_2, a0_3⟩, ⟨⟨a1_0_0, a1_0_1, a1_0_2, a1_0_3⟩, a1_1, a1_2, a1_3⟩⟩ ⟨⟨⟨b0_0_0, b0_0_1, b0_0_2, b0_0_3⟩, b0_1, b0_2, b0_3⟩, ⟨⟨b1_0_0, b1_0_1, b1_0_2, b1_0_3⟩, b1_1, b1_2, b1_3⟩⟩ h
  simpa [E21, and_assoc] using h
def R21 (x : Tapi_Plan × Tapi_Plan) (y : Bool) : PV × List (List Cell) := (.one (.v (.bool y)), [])
noncomputable def G21 := ZW E21 fun x => (Y3 x.1 x.2).map (R21 x)
theorem Zs1 {a0 : Tapi_Plan} {a1 : Tapi_Plan} {y : Bool} (h : Y3 a0 a1 = some y) : G21 (E21 (a0, a1)) = some (R21 (a0, a1) y) := Zr E21i h
def E51 (x : (List Int)) : List PV := [.one (.slice .no (Zk .u8 x))]
theorem E51i : ∀ a b, E51 a = E51 b → a = b := by
  rintro a0 b0 h
  simpa [E51, and_assoc] using h
def R51 (x : (List Int)) (y : (List Int)) : PV × List (List Cell) := (.one (.own 1 (Zk .u8 y)), [])
noncomputable def G51 := ZW E51 fun x => (Xi x).map (R51 x)
theorem Znu {a0 : (List Int)} {y : (List Int)} (h : Xi a0 = some y) : G51 (E51 a0) = some (R51 a0 y) := Zr E51i h
def E67 (x : (List Tapi_Input)) : List PV := [.one (.slice .no (List.map Zo x))]
theorem E67i : ∀ a b, E67 a = E67 b → a = b := by
  rintro a0 b0 h
  simpa [E67, and_assoc] using h
def R67 (x : (List Tapi_Input)) (y : (List Tapi_Input)) : PV × List (List Cell) := (.one (.own 35 (List.map Zo y)), [])
noncomputable def G67 := ZW E67 fun x => (Z3 x).map (R67 x)
theorem Zs2 {a0 : (List Tapi_Input)} {y : (List Tapi_Input)} (h : Z3 a0 = some y) : G67 (E67 a0) = some (R67 a0 y) := Zr E67i h
def E68 (x : (List Tapi_Output)) : List PV := [.one (.slice .no (List.map Zm x))]
theorem E68i : ∀ a b, E68 a = E68 b → a = b := by
  rintro a0 b0 h
  simpa [E68, and_assoc] using h
def R68 (x : (List Tapi_Output)) (y : (List Tapi_Output)) : PV × List (List Cell) := (.one (.own 2 (List.map Zm y)), [])
noncomputable def G68 := ZW E68 fun x => (Z1 x).map (R68 x)
theorem Zs3 {a0 : (List Tapi_Output)} {y : (List Tapi_Output)} (h : Z1 a0 = some y) : G68 (E68 a0) = some (R68 a0 y) := Zr E68i h
def E80 (x : (List (List Int))) : List PV := [.one (.slice .no (List.map Yf x))]
theorem E80i : ∀ a b, E80 a = E80 b → a = b := by
  rintro a0 b0 h
  simpa [E80, and_assoc] using h
def R80 (x : (List (List Int))) (y : (List (List Int))) : PV × List (List Cell) := (.one (.own 1 (List.map Yf y)), [])
noncomputable def G80 := ZW E80 fun x => (Yj x).map (R80 x)
theorem Zs4 {a0 : (List (List Int))} {y : (List (List Int))} (h : Yj a0 = some y) : G80 (E80 a0) = some (R80 a0 y) := Zr E80i h
def E69 (x : (List (List Int))) : List PV := [.one (.slice .no (List.map Yf x))]
theorem E69i : ∀ a b, E69 a = E69 b → a = b := by
  rintro a0 b0 h
  simpa [E69, and_assoc] using h
def R69 (x : (List (List Int))) (y : (List (List Int))) : PV × List (List Cell) := (.one (.own 1 (List.map Yf y)), [])
noncomputable def G69 := ZW E69 fun x => (YP x).map (R69 x)
theorem Zs5 {a0 : (List (List Int))} {y : (List (List Int))} (h : YP a0 = some y) : G69 (E69 a0) = some (R69 a0 y) := Zr E69i h
def E49 (x : Tapi_Tx) : List PV := [.agg ([.v (.int .u32 x.1), .slice .no (List.map Zo x.2.1), .slice .no (List.map Zm x.2.2.1), .v (.int .u32 x.2.2.2)])]
theorem E49i : ∀ a b, E49 a = E49 b → a = b := by
  rintro ⟨a0_0, a0_1, a0_2, a0_3⟩ ⟨b0_0, b0_1, b0_2, b0_3⟩ h
  simpa [E49, and_assoc] using h
def R49 (x : Tapi_Tx) (y : Tapi_Tx) : PV × List (List Cell) := (.agg ([.v (.int .u32 y.1), .own 35 (List.map Zo y.2.1), .own 2 (List.map Zm y.2.2.1), .v (.int .u32 y.2.2.2)]), [])
noncomputable def G49 := ZW E49 fun x => (Xj x).map (R49 x)
theorem Zs6 {a0 : Tapi_Tx} {y : Tapi_Tx} (h : Xj a0 = some y) : G49 (E49 a0) = some (R49 a0 y) := Zr E49i h
def E50 (x : (List Tapi_Coin)) : List PV := [.one (.slice .no (List.map ZL x))]
theorem E50i : ∀ a b, E50 a = E50 b → a = b := by
  rintro a0 b0 h
  simpa [E50, and_assoc] using h
def R50 (x : (List Tapi_Coin)) (y : (List Tapi_Coin)) : PV × List (List Cell) := (.one (.own 37 (List.map ZL y)), [])
noncomputable def G50 := ZW E50 fun x => (Z4 x).map (R50 x)
theorem Zs7 {a0 : (List Tapi_Coin)} {y : (List Tapi_Coin)} (h : Z4 a0 = some y) : G50 (E50 a0) = some (R50 a0 y) := Zr E50i h
def E23 (x : Tapi_Plan) : List PV := [.agg ([.v (.int .u32 x.1.1), .slice .no (List.map Zo x.1.2.1), .slice .no (List.map Zm x.1.2.2.1), .v (.int .u32 x.1.2.2.2), .slice .no (List.map ZL x.2.1), .v (.int .i64 x.2.2.1), .v (.int .i64 x.2.2.2)])]
theorem E23i : ∀ a b, E23 a = E23 b → a = b := by
  rintro ⟨⟨a0_0_0, a0_0_1, a0_0_2, a0_0_3⟩, a0_1, a0_2, a0_3⟩ ⟨⟨b0_0_0, b0_0_1, b0_0_2, b0_0_3⟩, b0_1, b0_2, b0_3⟩ h
  simpa [E23, and_assoc] using h
def R23 (x : Tapi_Plan) (y : Tapi_Plan) : PV × List (List Cell) := (.agg ([.v (.int .u32 y.1.1), .own 35 (List.map Zo y.1.2.1), .own 2 (List.map Zm y.1.2.2.1), .v (.int .u32 y.1.2.2.2), .own 37 (List.map ZL y.2.1), .v (.int .i64 y.2.2.1), .v (.int .i64 y.2.2.2)]), [])
noncomputable def G23 := ZW E23 fun x => (YL x).map (R23 x)
theorem Zs8 {a0 : Tapi_Plan} {y : Tapi_Plan} (h : YL a0 = some y) : G23 (E23 a0) = some (R23 a0 y) := Zr E23i h
def E8 (x : Tapi_PartialTx × Tapi_PartialTx) : List PV := [.agg ([.v (.int .u32 x.1.1.1.1), .slice .no (List.map Zo x.1.1.1.2.1), .slice .no (List.map Zm x.1.1.1.2.2.1), .v (.int .u32 x.1.1.1.2.2.2), .slice .no (List.map ZL x.1.1.2.1), .v (.int .i64 x.1.1.2.2.1), .v (.int .i64 x.1.1.2.2.2), .slice .no (List.map ZX x.1.2)]), .agg ([.v (.int .u32 x.2.1.1.1), .slice .no (List.map Zo x.2.1.1.2.1), .slice .no (List.map Zm x.2.1.1.2.2.1), .v (.int .u32 x.2.1.1.2.2.2), .slice .no (List.map ZL x.2.1.2.1), .v (.int .i64 x.2.1.2.2.1), .v (.int .i64 x.2.1.2.2.2), .slice .no (List.map ZX x.2.2)])]
theorem E8i : ∀ a b, E8 a = E8 b → a = b := by
  rintro ⟨⟨⟨⟨a0_0_0_0, a0_0_0_1, a0_0_0_2, a0_0_0_3⟩, a0_0_1, a0_0_2, a0_0_3⟩, a0_1⟩, ⟨⟨⟨a1_0_0_0, a1_0_0_1, a1_0_0_2, a1_0_0_3⟩, a1_0_1, a1_0_2, a1_0_3⟩, a1_1⟩⟩ ⟨⟨⟨⟨b0_0_0_0, b0_0_0_1, b0_0_0_2, b0_0_0_3⟩, b0_0_1, b0_0_2, b0_0_3⟩, b0_1⟩, ⟨⟨⟨b1_0_0_0, b1_0_0_1, b1_0_0_2, b1_0_0_3⟩, b1_0_1, b1_0_2, b1_0_3⟩, b1_1⟩⟩ h
  simpa [E8, and_assoc] using h
def R8 (x : Tapi_PartialTx × Tapi_PartialTx) (y : Tapi_PartialTx × Int) : PV × List (List Cell) := (.tup [.agg ([.v (.int .u32 y.1.1.1.1), .slice .no (List.map Zo y.1.1.1.2.1), .slice .no (List.map Zm y.1.1.1.2.2.1), .v (.int .u32 y.1.1.1.2.2.2), .slice .no (List.map ZL y.1.1.2.1), .v (.int .i64 y.1.1.2.2.1), .v (.int .i64 y.1.1.2.2.2), .slice .no (List.map ZX y.1.2)]), .one (.v (.int .i64 y.2))], [])
noncomputable def G8 := ZW E8 fun x => (Yc x.1 x.2).map (R8 x)
theorem Zgz {a0 : Tapi_PartialTx} {a1 : Tapi_PartialTx} {y : Tapi_PartialTx × Int} (h : Yc a0 a1 = some y) : G8 (E8 (a0, a1)) = some (R8 (a0, a1) y) := Zr E8i h
def E70 (x : (List Int) × (List Int)) : List PV := [.one (.slice .no (Zk .u8 x.1)), .one (.slice .no (Zk .u8 x.2))]
theorem E70i : ∀ a b, E70 a = E70 b → a = b := by
  rintro ⟨a0, a1⟩ ⟨b0, b1⟩ h
  simpa [E70, and_assoc] using h
def R70 (x : (List Int) × (List Int)) (y : Bool) : PV × List (List Cell) := (.one (.v (.bool y)), [])
noncomputable def G70 := ZW E70 fun x => (ZaV x.1 x.2).map (R70 x)
theorem Zqc {a0 : (List Int)} {a1 : (List Int)} {y : Bool} (h : ZaV a0 a1 = some y) : G70 (E70 (a0, a1)) = some (R70 (a0, a1) y) := Zr E70i h
def E71 (x : Tapi_Output × Tapi_Output) : List PV := [.agg ([.v (.int .i64 x.1.1), .slice .no (Zk .u8 x.1.2)]), .agg ([.v (.int .i64 x.2.1), .slice .no (Zk .u8 x.2.2)])]
theorem E71i : ∀ a b, E71 a = E71 b → a = b := by
  rintro ⟨⟨a0_0, a0_1⟩, ⟨a1_0, a1_1⟩⟩ ⟨⟨b0_0, b0_1⟩, ⟨b1_0, b1_1⟩⟩ h
  simpa [E71, and_assoc] using h
def R71 (x : Tapi_Output × Tapi_Output) (y : Bool) : PV × List (List Cell) := (.one (.v (.bool y)), [])
noncomputable def G71 := ZW E71 fun x => (Xo x.1 x.2).map (R71 x)
theorem Zqd {a0 : Tapi_Output} {a1 : Tapi_Output} {y : Bool} (h : Xo a0 a1 = some y) : G71 (E71 (a0, a1)) = some (R71 (a0, a1) y) := Zr E71i h
def E52 (x : Tapi_Tx × Tapi_Tx) : List PV := [.agg ([.v (.int .u32 x.1.1), .slice .no (List.map Zo x.1.2.1), .slice .no (List.map Zm x.1.2.2.1), .v (.int .u32 x.1.2.2.2)]), .agg ([.v (.int .u32 x.2.1), .slice .no (List.map Zo x.2.2.1), .slice .no (List.map Zm x.2.2.2.1), .v (.int .u32 x.2.2.2.2)])]
theorem E52i : ∀ a b, E52 a = E52 b → a = b := by
  rintro ⟨⟨a0_0, a0_1, a0_2, a0_3⟩, ⟨a1_0, a1_1, a1_2, a1_3⟩⟩ ⟨⟨b0_0, b0_1, b0_2, b0_3⟩, ⟨b1_0, b1_1, b1_2, b1_3⟩⟩ h
  simpa [E52, and_assoc] using h
def R52 (x : Tapi_Tx × Tapi_Tx) (y : Bool) : PV × List (List Cell) := (.one (.v (.bool y)), [])
noncomputable def G52 := ZW E52 fun x => (Zaa x.1 x.2).map (R52 x)
theorem Zs9 {a0 : Tapi_Tx} {a1 : Tapi_Tx} {y : Bool} (h : Zaa a0 a1 = some y) : G52 (E52 (a0, a1)) = some (R52 (a0, a1) y) := Zr E52i h
def E53 (x : Tapi_Coin × Tapi_Coin) : List PV := [.agg ((arC .u8 x.1.1.1) ++ ((.v (.int .u32 x.1.1.2)) :: ((.v (.int .i64 x.1.2.1.1)) :: ((.slice .no (Zk .u8 x.1.2.1.2)) :: ((.v (.int .i64 x.1.2.2.1)) :: ((.v (.bool x.1.2.2.2)) :: [])))))), .agg ((arC .u8 x.2.1.1) ++ ((.v (.int .u32 x.2.1.2)) :: ((.v (.int .i64 x.2.2.1.1)) :: ((.slice .no (Zk .u8 x.2.2.1.2)) :: ((.v (.int .i64 x.2.2.2.1)) :: ((.v (.bool x.2.2.2.2)) :: []))))))]
theorem E53i : ∀ a b, E53 a = E53 b → a = b := by
  rintro ⟨⟨⟨a0_0_0, a0_0_1⟩, ⟨a0_1_0, a0_1_1⟩, a0_2, a0_3⟩, ⟨⟨a1_0_0, a1_0_1⟩, ⟨a1_1_0, a1_1_1⟩, a1_2, a1_3⟩⟩ ⟨⟨⟨b0_0_0, b0_0_1⟩, ⟨b0_1_0, b0_1_1⟩, b0_2, b0_3⟩, ⟨⟨b1_0_0, b1_0_1⟩, ⟨b1_1_0, b1_1_1⟩, b1_2, b1_3⟩⟩ h
  simpa [E53, and_assoc] using h
def R53 (x : Tapi_Coin × Tapi_Coin) (y : Bool) : PV × List (List Cell) := (.one (.v (.bool y)), [])
noncomputable def G53 := ZW E53 fun x => (X3 x.1 x.2).map (R53 x)
theorem Zta {a0 : Tapi_Coin} {a1 : Tapi_Coin} {y : Bool} (h : X3 a0 a1 = some y) : G53 (E53 (a0, a1)) = some (R53 (a0, a1) y) := Zr E53i h
def E24 (x : Tapi_Plan × Tapi_Plan) : List PV := [.agg ([.v (.int .u32 x.1.1.1), .slice .no (List.map Zo x.1.1.2.1), .slice .no (List.map Zm x.1.1.2.2.1), .v (.int .u32 x.1.1.2.2.2), .slice .no (List.map ZL x.1.2.1), .v (.int .i64 x.1.2.2.1), .v (.int .i64 x.1.2.2.2)]), .agg ([.v (.int .u32 x.2.1.1), .slice .no (List.map Zo x.2.1.2.1), .slice .no (List.map Zm x.2.1.2.2.1), .v (.int .u32 x.2.1.2.2.2), .slice .no (List.map ZL x.2.2.1), .v (.int .i64 x.2.2.2.1), .v (.int .i64 x.2.2.2.2)])]
theorem E24i : ∀ a b, E24 a = E24 b → a = b := by
  rintro ⟨⟨⟨a0_0_0, a0_0_1, a0_0_2, a0_0_3⟩, a0_1, a0_2, a0_3⟩, ⟨⟨a1_0_0, a1_0_1, a1_0_2, a1_0_3⟩, a1_1, a1_2, a1_3⟩⟩ ⟨⟨⟨b0_0_0, b0_0_1, b0_0_2, b0_0_3⟩, b0_1, b0_2, b0_3⟩, ⟨⟨b1_0_0, b1_0_1, b1_0_2, b1_0_3⟩, b1_1, b1_2, b1_3⟩⟩ h
  simpa [E24, and_assoc] using h
def R24 (x : Tapi_Plan × Tapi_Plan) (y : Bool) : PV × List (List Cell) := (.one (.v (.bool y)), [])
noncomputable def G24 := ZW E24 fun x => (ZaZ x.1 x.2).map (R24 x)
theorem Ztb {a0 : Tapi_Plan} {a1 : Tapi_Plan} {y : Bool} (h : ZaZ a0 a1 = some y) : G24 (E24 (a0, a1)) = some (R24 (a0, a1) y) := Zr E24i h
def E9 (x : Tapi_PartialTx × Tapi_PartialTx) : List PV := [.agg ([.v (.int .u32 x.1.1.1.1), .slice .no (List.map Zo x.1.1.1.2.1), .slice .no (List.map Zm x.1.1.1.2.2.1), .v (.int .u32 x.1.1.1.2.2.2), .slice .no (List.map ZL x.1.1.2.1), .v (.int .i64 x.1.1.2.2.1), .v (.int .i64 x.1.1.2.2.2), .slice .no (List.map ZX x.1.2)]), .agg ([.v (.int .u32 x.2.1.1.1), .slice .no (List.map Zo x.2.1.1.2.1), .slice .no (List.map Zm x.2.1.1.2.2.1), .v (.int .u32 x.2.1.1.2.2.2), .slice .no (List.map ZL x.2.1.2.1), .v (.int .i64 x.2.1.2.2.1), .v (.int .i64 x.2.1.2.2.2), .slice .no (List.map ZX x.2.2)])]
theorem E9i : ∀ a b, E9 a = E9 b → a = b := by
  rintro ⟨⟨⟨⟨a0_0_0_0, a0_0_0_1, a0_0_0_2, a0_0_0_3⟩, a0_0_1, a0_0_2, a0_0_3⟩, a0_1⟩, ⟨⟨⟨a1_0_0_0, a1_0_0_1, a1_0_0_2, a1_0_0_3⟩, a1_0_1, a1_0_2, a1_0_3⟩, a1_1⟩⟩ ⟨⟨⟨⟨b0_0_0_0, b0_0_0_1, b0_0_0_2, b0_0_0_3⟩, b0_0_1, b0_0_2, b0_0_3⟩, b0_1⟩, ⟨⟨⟨b1_0_0_0, b1_0_0_1, b1_0_0_2, b1_0_0_3⟩, b1_0_1, b1_0_2, b1_0_3⟩, b1_1⟩⟩ h
  simpa [E9, and_assoc] using h
def R9 (x : Tapi_PartialTx × Tapi_PartialTx) (y : Bool) : PV × List (List Cell) := (.one (.v (.bool y)), [])
noncomputable def G9 := ZW E9 fun x => (Xl x.1 x.2).map (R9 x)
theorem Zmw {a0 : Tapi_PartialTx} {a1 : Tapi_PartialTx} {y : Bool} (h : Xl a0 a1 = some y) : G9 (E9 (a0, a1)) = some (R9 (a0, a1) y) := Zr E9i h
def E3 (x : (List Int) × (List Int) × (List Int)) : List PV := [.one (.slice .no (Zk .i64 x.1)), .one (.slice .no (Zk .i64 x.2.1)), .one (.slice .no (Zk .i64 x.2.2))]
theorem E3i : ∀ a b, E3 a = E3 b → a = b := by
  rintro ⟨a0, a1, a2⟩ ⟨b0, b1, b2⟩ h
  simpa [E3, and_assoc] using h
def R3 (x : (List Int) × (List Int) × (List Int)) (y : Bool) : PV × List (List Cell) := (.one (.v (.bool y)), [])
noncomputable def G3 := ZW E3 fun x => (YX x.1 x.2.1 x.2.2).map (R3 x)
theorem ZtS {a0 : (List Int)} {a1 : (List Int)} {a2 : (List Int)} {y : Bool} (h : YX a0 a1 a2 = some y) : G3 (E3 (a0, a1, a2)) = some (R3 (a0, a1, a2) y) := Zr E3i h
end Go.Proofs.Ytbjhgolpnjokbaa
