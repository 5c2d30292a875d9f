import Derived.Test.YtbjhgolpnjokbaaGreatLcG2
import Derived.Test.YtbjhgolpnjokbaaGreatLcG1
import Derived.Test.YtbjhgolpnjokbaaGreatLcG1
import Derived.Test.YtbjhgolpnjokbaaGreatTt
namespace Go.Proofs.YtbjhgolpnjokbaaGreat
open Go.RowKit
open Go.Av
open Go.Lc
set_option maxRecDepth 100000
set_option linter.unusedSimpArgs false
set_option linter.unusedVariables false
attribute [simp] tt1 tt2 tt3 tt4 tt5 tt6 tt7 tt8 tt9 tt10 tt11 tt12 tt13 tt14 tt15 tt16 tt17 tt18 tt19 tt21 tt22 tt23 tt24 tt25 tt26 tt27 tt28 tt29 tt30 tt31 tt32 tt33 tt34 tt35 tt36 tt37 tt38 tt39 tt41 tt42 tt43 tt44 tt45 tt46 tt47 tt48 tt49 tt51 tt52 tt53 tt54 tt55 tt56 tt58 tt59 tt60 tt61 tt62 tt63 tt64 tt65 tt66 tt67 tt68 tt69 tt70 tt71 tt72 tt73 tt74 tt75 tt76 tt78 tt79 tt80 tt81 tt82 tt83 tt84 tt85 tt86 tt87 tt88 tt89 tt90 tt92 tt93 tt94 tt95 tt96 tt97 tt98 tt99 tt100 tt101 tt102 tt103 tt104 tt105 tt106 tt107 tt108 tt109 tt110 tt112 tt113 tt114 tt115 tt116 tt117 tt118 tt119 tt120 tt121 tt122 tt123 tt124 tt125 tt126 tt127 tt128 tt129 tt130 tt131 tt133 tt135 tt136 tt137 tt138 tt139 tt141 tt142 tt143 tt144 tt145 tt146 tt147 tt149 tt150 tt151 tt153 tt154 tt155 tt156 tt157 tt158 tt159 tt160 tt161 tt162 tt163 tt164 tt165 tt166 tt167 tt168 tt169 tt170 tt171 tt172 tt173 tt174 tt175 tt176 tt177 tt178 ti1 ti2 ti3 ti4 ti5 ti6 ti7 ti8 ti9 ti10 ti11 ti12 ti13 ti14 ti15 ti16 ti17 ti18 ti19 ti21 ti22 ti23 ti24 ti25 ti26 ti27 ti28 ti29 ti30 ti31 ti32 ti33 ti34 ti35 ti36 ti37 ti38 ti39 ti41 ti42 ti43 ti44 ti45 ti46 ti47 ti48 ti49 ti51 ti52 ti53 ti54 ti55 ti56 ti58 ti59 ti60 ti61 ti62 ti63 ti64 ti65 ti66 ti67 ti68 ti69 ti70 ti71 ti72 ti73 ti74 ti75 ti76 ti78 ti79 ti80 ti81 ti82 ti83 ti84 ti85 ti86 ti87 ti88 ti89 ti90 ti92 ti93 ti94 ti95 ti96 ti97 ti98 ti99 ti100 ti101 ti102 ti103 ti104 ti105 ti106 ti107 ti108 ti109 ti110 ti112 ti113 ti114 ti115 ti116 ti117 ti118 ti119 ti120 ti121 ti122 ti123 ti124 ti125 ti126 ti127 ti128 ti129 ti130 ti131 ti133 ti135 ti136 ti137 ti138 ti139 ti141 ti142 ti143 ti144 ti145 ti146 ti147 ti149 ti150 ti151 ti153 ti154 ti155 ti156 ti157 ti158 ti159 ti160 ti161 ti162 ti163 ti164 ti165 ti166 ti167 ti168 ti169 ti170 ti171 ti172 ti173 ti174 ti175 ti176 ti177 ti178
@[simp] theorem Zs5 {n : Nat} {k : IntKind} {l : List (Arr n)} : l.any ((fun l => l.any Cell.isSl) ∘ arC k) = false := by simp [arC, ints]
@[simp↓] theorem ZsI {k : IntKind} (m : List Int) (n : Nat) : (∀ l, l ∈ List.drop n (Zk k m) → l.length = 1) = True := eq_true fun l h => intsR_all l (List.mem_of_mem_drop h)
@[simp↓] theorem ZsJ {k : IntKind} (m : List Int) (n : Nat) : (∀ l, l ∈ List.take n (Zk k m) → l.length = 1) = True := eq_true fun l h => intsR_all l (List.mem_of_mem_take h)
@[simp↓] theorem ZsK {k : IntKind} (m : List Int) : (∀ l, l ∈ (Zk k m).tail → l.length = 1) = True := eq_true fun l h => intsR_all l (List.mem_of_mem_tail h)
@[simp↓] theorem Zsl {k : IntKind} (m : List Int) (n : Nat) : (∀ l, l ∈ List.take n (Zk k m).tail → l.length = 1) = True := eq_true fun l h => intsR_all l (List.mem_of_mem_tail (List.mem_of_mem_take h))
@[simp↓] theorem Zsm {k : IntKind} (m : List Int) (n : Nat) : (∀ l, l ∈ List.drop n (Zk k m).tail → l.length = 1) = True := eq_true fun l h => intsR_all l (List.mem_of_mem_tail (List.mem_of_mem_drop h))
@[simp] theorem arC_z8 : arC .u64 (zA 8) = arC .u64 (zA 4) ++ arC .u64 (zA 4) := rfl
@[simp] theorem arC_z12 : arC .u64 (zA 12) = arC .u64 (zA 4) ++ (arC .u64 (zA 4) ++ arC .u64 (zA 4)) := rfl
@[simp] theorem Zsn {a : Nat} : (1 + a ≤ a + 1) = True := eq_true (by omega)
@[simp] theorem Ztq {L : List (List Cell)} {x : List Cell} {i m : Nat} (h : i ≤ m) (hL : L.length = m) : ZeE (i + (1 + (m - i))) (List.take i L ++ x :: List.drop i L) = List.take i L ++ x :: List.drop i L := by
  unfold ZeE
  rw [if_pos]
  simp
  omega
@[simp] theorem Ztr {L : List (List Cell)} {x : List Cell} {i m : Nat} (hL : L.length = m) : List.take (1 + (m - i)) (x :: List.drop i L) = x :: List.drop i L :=
  List.take_of_length_le (by simp; omega)
@[simp] def Yi (x : (List Int)) : List Cell := [.slice .no (Zk .u8 x)]
theorem eS_I_u8_inj : ∀ a b, Yi a = Yi b → a = b := by
  rintro a b h
  simpa [and_assoc] using h
@[simp↓] theorem Zi6 (m : List (List Int)) : (∀ l, l ∈ List.map Yi m → l.length = 1) = True := ZbJ (fun a => by simp) m
@[simp↓] theorem Zrk (m : List (List Int)) (k : Nat) : (∀ l, l ∈ List.drop k (List.map Yi m) → l.length = 1) = True := eq_true fun l h => of_eq_true (Zi6 m) l (List.mem_of_mem_drop h)
@[simp↓] theorem Zrl (m : List (List Int)) (k : Nat) : (∀ l, l ∈ List.take k (List.map Yi m) → l.length = 1) = True := eq_true fun l h => of_eq_true (Zi6 m) l (List.mem_of_mem_take h)
@[simp] theorem Zso {l m : List (List Int)} : List.map Yi l = List.map Yi m ↔ l = m := ZeI eS_I_u8_inj
@[simp] def Zm (x : Tapi_Input) : List Cell := (arC .u8 x.1.1) ++ ((.v (.int .u32 x.1.2)) :: ((.v (.int .u32 x.2.1)) :: ((.slice .no (List.map Yi x.2.2)) :: [])))
theorem eapi_Input_inj : ∀ a b, Zm a = Zm b → a = b := by
  rintro ⟨⟨a_0_0, a_0_1⟩, a_1, a_2⟩ ⟨⟨b_0_0, b_0_1⟩, b_1, b_2⟩ h
  simpa [and_assoc] using h
@[simp↓] theorem ZgS (m : List Tapi_Input) : (∀ l, l ∈ List.map Zm m → l.length = 35) = True := ZbJ (fun a => by simp) m
@[simp↓] theorem ZpS (m : List Tapi_Input) (k : Nat) : (∀ l, l ∈ List.drop k (List.map Zm m) → l.length = 35) = True := eq_true fun l h => of_eq_true (ZgS m) l (List.mem_of_mem_drop h)
@[simp↓] theorem ZpT (m : List Tapi_Input) (k : Nat) : (∀ l, l ∈ List.take k (List.map Zm m) → l.length = 35) = True := eq_true fun l h => of_eq_true (ZgS m) l (List.mem_of_mem_take h)
@[simp] theorem ZqB {l m : List Tapi_Input} : List.map Zm l = List.map Zm m ↔ l = m := ZeI eapi_Input_inj
@[simp] def Zl (x : Tapi_Output) : List Cell := [.v (.int .i64 x.1), .slice .no (Zk .u8 x.2)]
theorem eapi_Output_inj : ∀ a b, Zl a = Zl b → a = b := by
  rintro ⟨a_0, a_1⟩ ⟨b_0, b_1⟩ h
  simpa [and_assoc] using h
@[simp↓] theorem Zgl (m : List Tapi_Output) : (∀ l, l ∈ List.map Zl m → l.length = 2) = True := ZbJ (fun a => by simp) m
@[simp↓] theorem ZpJ (m : List Tapi_Output) (k : Nat) : (∀ l, l ∈ List.drop k (List.map Zl m) → l.length = 2) = True := eq_true fun l h => of_eq_true (Zgl m) l (List.mem_of_mem_drop h)
@[simp↓] theorem ZpK (m : List Tapi_Output) (k : Nat) : (∀ l, l ∈ List.take k (List.map Zl m) → l.length = 2) = True := eq_true fun l h => of_eq_true (Zgl m) l (List.mem_of_mem_take h)
@[simp] theorem ZpU {l m : List Tapi_Output} : List.map Zl l = List.map Zl m ↔ l = m := ZeI eapi_Output_inj
@[simp] def ZD (x : Tapi_Coin) : List Cell := (arC .u8 x.1.1) ++ ((.v (.int .u32 x.1.2)) :: ((.v (.int .i64 x.2.1.1)) :: ((.slice .no (Zk .u8 x.2.1.2)) :: ((.v (.int .i64 x.2.2.1)) :: ((.v (.bool x.2.2.2)) :: [])))))
theorem eapi_Coin_inj : ∀ a b, ZD a = ZD b → a = b := by
  rintro ⟨⟨a_0_0, a_0_1⟩, ⟨a_1_0, a_1_1⟩, a_2, a_3⟩ ⟨⟨b_0_0, b_0_1⟩, ⟨b_1_0, b_1_1⟩, b_2, b_3⟩ h
  simpa [and_assoc] using h
@[simp↓] theorem ZhN (m : List Tapi_Coin) : (∀ l, l ∈ List.map ZD m → l.length = 37) = True := ZbJ (fun a => by simp) m
@[simp↓] theorem ZqC (m : List Tapi_Coin) (k : Nat) : (∀ l, l ∈ List.drop k (List.map ZD m) → l.length = 37) = True := eq_true fun l h => of_eq_true (ZhN m) l (List.mem_of_mem_drop h)
@[simp↓] theorem ZqD (m : List Tapi_Coin) (k : Nat) : (∀ l, l ∈ List.take k (List.map ZD m) → l.length = 37) = True := eq_true fun l h => of_eq_true (ZhN m) l (List.mem_of_mem_take h)
@[simp] theorem ZqZ {l m : List Tapi_Coin} : List.map ZD l = List.map ZD m ↔ l = m := ZeI eapi_Coin_inj
@[simp] def XB (x : Tapi_Op) : List Cell := [.v (.int .i64 x.1), .slice .no (Zk .u8 x.2.1), .v (.int .i64 x.2.2.1), .v (.int .i64 x.2.2.2)]
theorem eapi_Op_inj : ∀ a b, XB a = XB b → a = b := by
  rintro ⟨a_0, a_1, a_2, a_3⟩ ⟨b_0, b_1, b_2, b_3⟩ h
  simpa [and_assoc] using h
@[simp↓] theorem Zi7 (m : List Tapi_Op) : (∀ l, l ∈ List.map XB m → l.length = 4) = True := ZbJ (fun a => by simp) m
@[simp↓] theorem Zrm (m : List Tapi_Op) (k : Nat) : (∀ l, l ∈ List.drop k (List.map XB m) → l.length = 4) = True := eq_true fun l h => of_eq_true (Zi7 m) l (List.mem_of_mem_drop h)
@[simp↓] theorem Zrn (m : List Tapi_Op) (k : Nat) : (∀ l, l ∈ List.take k (List.map XB m) → l.length = 4) = True := eq_true fun l h => of_eq_true (Zi7 m) l (List.mem_of_mem_take h)
@[simp] theorem Zsp {l m : List Tapi_Op} : List.map XB l = List.map XB m ↔ l = m := ZeI eapi_Op_inj
@[simp] def ZW (x : Tapi_Signed) : List Cell := (.v (.int .i64 x.1)) :: ((arC .u64 x.2.1) ++ ((arC .u64 x.2.2.1) ++ (arC .u64 x.2.2.2)))
theorem eapi_Signed_inj : ∀ a b, ZW a = ZW b → a = b := by
  rintro ⟨a_0, a_1, ⟨a_2_0, a_2_1⟩⟩ ⟨b_0, b_1, ⟨b_2_0, b_2_1⟩⟩ h
  simpa [and_assoc] using h
@[simp↓] theorem Zgm (m : List Tapi_Signed) : (∀ l, l ∈ List.map ZW m → l.length = 13) = True := ZbJ (fun a => by simp) m
@[simp↓] theorem ZpL (m : List Tapi_Signed) (k : Nat) : (∀ l, l ∈ List.drop k (List.map ZW m) → l.length = 13) = True := eq_true fun l h => of_eq_true (Zgm m) l (List.mem_of_mem_drop h)
@[simp↓] theorem ZpM (m : List Tapi_Signed) (k : Nat) : (∀ l, l ∈ List.take k (List.map ZW m) → l.length = 13) = True := eq_true fun l h => of_eq_true (Zgm m) l (List.mem_of_mem_take h)
@[simp] theorem ZpN (m : List Tapi_Signed) : m.any ((fun l => l.any Cell.isSl) ∘ ZW) = false := List.any_eq_false.2 fun x _ => by simp
@[simp] theorem ZpV {l m : List Tapi_Signed} : List.map ZW l = List.map ZW m ↔ l = m := ZeI eapi_Signed_inj
theorem nfs : (∀ x : (List Int), Yi x = [.slice .no (Zk .u8 x)]) ∧ (∀ x : Tapi_Input, Zm x = (arC .u8 x.1.1) ++ ((.v (.int .u32 x.1.2)) :: ((.v (.int .u32 x.2.1)) :: ((.slice .no (List.map Yi x.2.2)) :: [])))) ∧ (∀ x : Tapi_Output, Zl x = [.v (.int .i64 x.1), .slice .no (Zk .u8 x.2)]) ∧ (∀ x : Tapi_Coin, ZD x = (arC .u8 x.1.1) ++ ((.v (.int .u32 x.1.2)) :: ((.v (.int .i64 x.2.1.1)) :: ((.slice .no (Zk .u8 x.2.1.2)) :: ((.v (.int .i64 x.2.2.1)) :: ((.v (.bool x.2.2.2)) :: [])))))) ∧ (∀ x : Tapi_Op, XB x = [.v (.int .i64 x.1), .slice .no (Zk .u8 x.2.1), .v (.int .i64 x.2.2.1), .v (.int .i64 x.2.2.2)]) ∧ (∀ x : Tapi_Signed, ZW x = (.v (.int .i64 x.1)) :: ((arC .u64 x.2.1) ++ ((arC .u64 x.2.2.1) ++ (arC .u64 x.2.2.2)))) := ⟨fun _ => rfl, fun _ => rfl, fun _ => rfl, fun _ => rfl, fun _ => rfl, fun _ => rfl⟩
@[simp] def ZaF (x : Tapi_OutPoint × Bool) : List Cell := ((arC .u8 x.1.1) ++ ((.v (.int .u32 x.1.2)) :: [])) ++ ([.v (.bool x.2)])
theorem eM_api_OutPoint_B_he : ∀ a b : Tapi_OutPoint, kEq ((arC .u8 a.1) ++ ((.v (.int .u32 a.2)) :: [])) ((arC .u8 b.1) ++ ((.v (.int .u32 b.2)) :: [])) = decide (a = b) := by
  rintro ⟨a_0, a_1⟩ ⟨b_0, b_1⟩
  rw [Bool.eq_iff_iff]
  simp [kEq, kEq1]
@[simp] theorem ZmZ {k0 : (Arr 32)} {k1 : Int} {l : List (Tapi_OutPoint × Bool)} : ZdS 33 ((arC .u8 k0) ++ ((.v (.int .u32 k1)) :: [])) (List.map ZaF l) = Option.map (fun v : Bool => ([.v (.bool v)] : List Cell)) (ZcA (k0, k1) l) := ZlU (eK := (fun k : Tapi_OutPoint => ((arC .u8 k.1) ++ ((.v (.int .u32 k.2)) :: []) : List Cell))) (eV := (fun v : Bool => ([.v (.bool v)] : List Cell))) (fun k => by simp) eM_api_OutPoint_B_he (k0, k1) l
@[simp] theorem Zm0 {k0 : (Arr 32)} {k1 : Int} {v0 : Bool} {l : List (Tapi_OutPoint × Bool)} : ZeC 33 ((arC .u8 k0) ++ ((.v (.int .u32 k1)) :: [])) ([.v (.bool v0)]) (List.map ZaF l) = List.map ZaF (Zfh (k0, k1) v0 l) := ZlV (eK := (fun k : Tapi_OutPoint => ((arC .u8 k.1) ++ ((.v (.int .u32 k.2)) :: []) : List Cell))) (eV := (fun v : Bool => ([.v (.bool v)] : List Cell))) (fun k => by simp) eM_api_OutPoint_B_he (k0, k1) v0 l
@[simp] theorem ZnK (o : Option Bool) : (Option.map (fun v : Bool => ([.v (.bool v)] : List Cell)) o).getD ([.v (.bool false)]) = [.v (.bool (o.getD false))] := by cases o <;> rfl
@[simp] theorem ZmB {k0 : (Arr 32)} {k1 : Int} {v0 : Bool} : ZeC 33 ((arC .u8 k0) ++ ((.v (.int .u32 k1)) :: [])) ([.v (.bool v0)]) [] = List.map ZaF (Zfh (k0, k1) v0 []) := rfl
variable {G : Glob}
def E79 (x : (Arr 4)) : List PV := [.agg (arC .u64 x)]
theorem E79i : ∀ a b, E79 a = E79 b → a = b := by
  rintro a0 b0 h
  simpa [E79, and_assoc] using h
def R79 (x : (Arr 4)) (y : (Arr 32)) : PV × List (List Cell) := (.agg (arC .u8 y), [])
noncomputable def G79 := ZI E79 fun x => (Zae x).map (R79 x)
theorem Zro {a0 : (Arr 4)} {y : (Arr 32)} (h : Zae a0 = some y) : G79 (E79 a0) = some (R79 a0 y) := Zo E79i h
def E42 (x : (Arr 4)) : List PV := [.agg (arC .u64 x)]
theorem E42i : ∀ a b, E42 a = E42 b → a = b := by
  rintro a0 b0 h
  simpa [E42, and_assoc] using h
def R42 (x : (Arr 4)) (y : (List Int)) : PV × List (List Cell) := (.one (.slice .no (Zk .u8 y)), [])
noncomputable def G42 := ZI E42 fun x => (ZaK x).map (R42 x)
theorem ZoE {a0 : (Arr 4)} {y : (List Int)} (h : ZaK a0 = some y) : G42 (E42 a0) = some (R42 a0 y) := Zo E42i h
def E80 (x : Tapi_Op) : List PV := [.agg ([.v (.int .i64 x.1), .slice .no (Zk .u8 x.2.1), .v (.int .i64 x.2.2.1), .v (.int .i64 x.2.2.2)])]
theorem E80i : ∀ a b, E80 a = E80 b → a = b := by
  rintro ⟨a0_0, a0_1, a0_2, a0_3⟩ ⟨b0_0, b0_1, b0_2, b0_3⟩ h
  simpa [E80, and_assoc] using h
def R80 (x : Tapi_Op) (y : Int) : PV × List (List Cell) := (.one (.v (.int .i64 y)), [])
noncomputable def G80 := ZI E80 fun x => (Zaf x).map (R80 x)
theorem Zrp {a0 : Tapi_Op} {y : Int} (h : Zaf a0 = some y) : G80 (E80 a0) = some (R80 a0 y) := Zo E80i h
def E84 (x : (List Int) × (List Int)) : List PV := [.one (.slice .no (Zk .u8 x.1)), .one (.slice .no (Zk .u8 x.2))]
theorem E84i : ∀ a b, E84 a = E84 b → a = b := by
  rintro ⟨a0, a1⟩ ⟨b0, b1⟩ h
  simpa [E84, and_assoc] using h
def R84 (x : (List Int) × (List Int)) (y : (List Int)) : PV × List (List Cell) := (.one (.own 1 (Zk .u8 y)), [])
noncomputable def G84 := ZI E84 fun x => (Z2 x.1 x.2).map (R84 x)
theorem Zcq {a0 : (List Int)} {a1 : (List Int)} {y : (List Int)} (h : Z2 a0 a1 = some y) : G84 (E84 (a0, a1)) = some (R84 (a0, a1) y) := Zo E84i h
def E47 (x : (List (List Int))) : List PV := [.one (.slice .no (List.map Yi x))]
theorem E47i : ∀ a b, E47 a = E47 b → a = b := by
  rintro a0 b0 h
  simpa [E47, and_assoc] using h
def R47 (x : (List (List Int))) (y : (List Int)) : PV × List (List Cell) := (.one (.own 1 (Zk .u8 y)), [])
noncomputable def G47 := ZI E47 fun x => (Xn x).map (R47 x)
theorem Zj4 {a0 : (List (List Int))} {y : (List Int)} (h : Xn a0 = some y) : G47 (E47 a0) = some (R47 a0 y) := Zo E47i h
def E81 (x : Tapi_Op) : List PV := [.agg ([.v (.int .i64 x.1), .slice .no (Zk .u8 x.2.1), .v (.int .i64 x.2.2.1), .v (.int .i64 x.2.2.2)])]
theorem E81i : ∀ a b, E81 a = E81 b → a = b := by
  rintro ⟨a0_0, a0_1, a0_2, a0_3⟩ ⟨b0_0, b0_1, b0_2, b0_3⟩ h
  simpa [E81, and_assoc] using h
def R81 (x : Tapi_Op) (y : (List Int)) : PV × List (List Cell) := (.one (.own 1 (Zk .u8 y)), [])
noncomputable def G81 := ZI E81 fun x => (Xq x).map (R81 x)
theorem ZoF {a0 : Tapi_Op} {y : (List Int)} (h : Xq a0 = some y) : G81 (E81 a0) = some (R81 a0 y) := Zo E81i h
def E43 (x : (List Tapi_Op)) : List PV := [.one (.slice .no (List.map XB x))]
theorem E43i : ∀ a b, E43 a = E43 b → a = b := by
  rintro a0 b0 h
  simpa [E43, and_assoc] using h
def R43 (x : (List Tapi_Op)) (y : (List Int) × Int) : PV × List (List Cell) := (.tup [.one (.slice .no (Zk .u8 y.1)), .one (.v (.int .i64 y.2))], [])
noncomputable def G43 := ZI E43 fun x => (Xj x).map (R43 x)
theorem Zrq {a0 : (List Tapi_Op)} {y : (List Int) × Int} (h : Xj a0 = some y) : G43 (E43 a0) = some (R43 a0 y) := Zo E43i h
def E17 (x : Int × (List (Arr 4))) : List PV := [.one (.v (.int .i64 x.1)), .one (.slice .no (List.map (arC .u64) x.2))]
theorem E17i : ∀ a b, E17 a = E17 b → a = b := by
  rintro ⟨a0, a1⟩ ⟨b0, b1⟩ h
  simpa [E17, and_assoc] using h
def R17 (x : Int × (List (Arr 4))) (y : (List Int) × Int) : PV × List (List Cell) := (.tup [.one (.slice .no (Zk .u8 y.1)), .one (.v (.int .i64 y.2))], [])
noncomputable def G17 := ZI E17 fun x => (Xo x.1 x.2).map (R17 x)
theorem ZoG {a0 : Int} {a1 : (List (Arr 4))} {y : (List Int) × Int} (h : Xo a0 a1 = some y) : G17 (E17 (a0, a1)) = some (R17 (a0, a1) y) := Zo E17i h
def E38 (x : Int) : List PV := [.one (.v (.int .u64 x))]
theorem E38i : ∀ a b, E38 a = E38 b → a = b := by
  rintro a0 b0 h
  simpa [E38, and_assoc] using h
def R38 (x : Int) (y : (Arr 4)) : PV × List (List Cell) := (.agg (arC .u64 y), [])
noncomputable def G38 := ZI E38 fun x => (Yp x).map (R38 x)
theorem Ziy {a0 : Int} {y : (Arr 4)} (h : Yp a0 = some y) : G38 (E38 a0) = some (R38 a0 y) := Zo E38i h
def E18 (x : Int) : List PV := [.one (.v (.int .u64 x))]
theorem E18i : ∀ a b, E18 a = E18 b → a = b := by
  rintro a0 b0 h
  simpa [E18, and_assoc] using h
def R18 (x : Int) (y : (Arr 4)) : PV × List (List Cell) := (.agg (arC .u64 y), [])
noncomputable def G18 := ZI E18 fun x => (Yy x).map (R18 x)
theorem ZdA {a0 : Int} {y : (Arr 4)} (h : Yy a0 = some y) : G18 (E18 a0) = some (R18 a0 y) := Zo E18i h
def Zhq (x : Int) : List PV := [.one (.v (.int .i64 x))]
theorem E100i : ∀ a b, Zhq a = Zhq b → a = b := by
  rintro a0 b0 h
  simpa [Zhq, and_assoc] using h
def Zkp (x : Int) (y : Bool) : PV × List (List Cell) := (.one (.v (.bool y)), [])
noncomputable def G100 := ZI Zhq fun x => (XT x).map (Zkp x)
theorem ZqE {a0 : Int} {y : Bool} (h : XT a0 = some y) : G100 (Zhq a0) = some (Zkp a0 y) := Zo E100i h
def Zhr (x : (List (List Int))) : List PV := [.one (.slice .no (List.map Yi x))]
theorem E101i : ∀ a b, Zhr a = Zhr b → a = b := by
  rintro a0 b0 h
  simpa [Zhr, and_assoc] using h
def Zkq (x : (List (List Int))) (y : (List Int)) : PV × List (List Cell) := (.one (.own 1 (Zk .u8 y)), [])
noncomputable def G101 := ZI Zhr fun x => (ZaO x).map (Zkq x)
theorem ZqF {a0 : (List (List Int))} {y : (List Int)} (h : ZaO a0 = some y) : G101 (Zhr a0) = some (Zkq a0 y) := Zo E101i h
def Zhs (x : Int × Int) : List PV := [.one (.v (.int .i64 x.1)), .one (.v (.int .i64 x.2))]
theorem E102i : ∀ a b, Zhs a = Zhs b → a = b := by
  rintro ⟨a0, a1⟩ ⟨b0, b1⟩ h
  simpa [Zhs, and_assoc] using h
def Zkr (x : Int × Int) (y : Bool) : PV × List (List Cell) := (.one (.v (.bool y)), [])
noncomputable def G102 := ZI Zhs fun x => (Xk x.1 x.2).map (Zkr x)
theorem ZqG {a0 : Int} {a1 : Int} {y : Bool} (h : Xk a0 a1 = some y) : G102 (Zhs (a0, a1)) = some (Zkr (a0, a1) y) := Zo E102i h
def E82 (x : (List Int)) : List PV := [.one (.slice .no (Zk .u8 x))]
theorem E82i : ∀ a b, E82 a = E82 b → a = b := by
  rintro a0 b0 h
  simpa [E82, and_assoc] using h
def R82 (x : (List Int)) (y : Tapi_Op × (List Int) × Int) : PV × List (List Cell) := (.tup [.agg ([.v (.int .i64 y.1.1), .slice .no (Zk .u8 y.1.2.1), .v (.int .i64 y.1.2.2.1), .v (.int .i64 y.1.2.2.2)]), .one (.slice .no (Zk .u8 y.2.1)), .one (.v (.int .i64 y.2.2))], [])
noncomputable def G82 := ZI E82 fun x => (Zag x).map (R82 x)
theorem Zrr {a0 : (List Int)} {y : Tapi_Op × (List Int) × Int} (h : Zag a0 = some y) : G82 (E82 a0) = some (R82 a0 y) := Zo E82i h
def E44 (x : (List Int)) : List PV := [.one (.slice .no (Zk .u8 x))]
theorem E44i : ∀ a b, E44 a = E44 b → a = b := by
  rintro a0 b0 h
  simpa [E44, and_assoc] using h
def R44 (x : (List Int)) (y : (List Tapi_Op) × Int) : PV × List (List Cell) := (.tup [.one (.slice .no (List.map XB y.1)), .one (.v (.int .i64 y.2))], [])
noncomputable def G44 := ZI E44 fun x => (Xr x).map (R44 x)
theorem ZoH {a0 : (List Int)} {y : (List Tapi_Op) × Int} (h : Xr a0 = some y) : G44 (E44 a0) = some (R44 a0 y) := Zo E44i h
def E83 (x : (List Int)) : List PV := [.one (.slice .no (Zk .u8 x))]
theorem E83i : ∀ a b, E83 a = E83 b → a = b := by
  rintro a0 b0 h
  simpa [E83, and_assoc] using h
def R83 (x : (List Int)) (y : Int × Int) : PV × List (List Cell) := (.tup [.one (.v (.int .u32 y.1)), .one (.v (.int .i64 y.2))], [])
noncomputable def G83 := ZI E83 fun x => (Xy x).map (R83 x)
theorem Zrs {a0 : (List Int)} {y : Int × Int} (h : Xy a0 = some y) : G83 (E83 a0) = some (R83 a0 y) := Zo E83i h
def E45 (x : (List Int)) : List PV := [.one (.slice .no (Zk .u8 x))]
theorem E45i : ∀ a b, E45 a = E45 b → a = b := by
  rintro a0 b0 h
  simpa [E45, and_assoc] using h
def R45 (x : (List Int)) (y : Int) : PV × List (List Cell) := (.one (.v (.int .i64 y)), [])
noncomputable def G45 := ZI E45 fun x => (YF x).map (R45 x)
theorem ZoI {a0 : (List Int)} {y : Int} (h : YF a0 = some y) : G45 (E45 a0) = some (R45 a0 y) := Zo E45i h
def E46 (x : (Arr 32)) : List PV := [.agg (arC .u8 x)]
theorem E46i : ∀ a b, E46 a = E46 b → a = b := by
  rintro a0 b0 h
  simpa [E46, and_assoc] using h
def R46 (x : (Arr 32)) (y : (Arr 4)) : PV × List (List Cell) := (.agg (arC .u64 y), [])
noncomputable def G46 := ZI E46 fun x => (Yq x).map (R46 x)
theorem Zmg {a0 : (Arr 32)} {y : (Arr 4)} (h : Yq a0 = some y) : G46 (E46 a0) = some (R46 a0 y) := Zo E46i h
def E19 (x : (List Int)) : List PV := [.one (.slice .no (Zk .u8 x))]
theorem E19i : ∀ a b, E19 a = E19 b → a = b := by
  rintro a0 b0 h
  simpa [E19, and_assoc] using h
def R19 (x : (List Int)) (y : (List (Arr 4)) × Int × Bool) : PV × List (List Cell) := (.tup [.one (.slice .no (List.map (arC .u64) y.1)), .one (.v (.int .i64 y.2.1)), .one (.v (.bool y.2.2))], [])
noncomputable def G19 := ZI E19 fun x => (Xs x).map (R19 x)
theorem ZoJ {a0 : (List Int)} {y : (List (Arr 4)) × Int × Bool} (h : Xs a0 = some y) : G19 (E19 a0) = some (R19 a0 y) := Zo E19i h
def E20 (x : (List Int) × (List Int)) : List PV := [.one (.slice .no (Zk .u8 x.1)), .one (.slice .no (Zk .u8 x.2))]
theorem E20i : ∀ a b, E20 a = E20 b → a = b := by
  rintro ⟨a0, a1⟩ ⟨b0, b1⟩ h
  simpa [E20, and_assoc] using h
def R20 (x : (List Int) × (List Int)) (y : (List Int)) : PV × List (List Cell) := (.one (.own 1 (Zk .u8 y)), [])
noncomputable def G20 := ZI E20 fun x => (XU x.1 x.2).map (R20 x)
theorem Zrt {a0 : (List Int)} {a1 : (List Int)} {y : (List Int)} (h : XU a0 a1 = some y) : G20 (E20 (a0, a1)) = some (R20 (a0, a1) y) := Zo E20i h
def E5 (x : Unit) : List PV := []
theorem E5i : ∀ a b, E5 a = E5 b → a = b := fun _ _ _ => rfl
def R5 (x : Unit) (y : Bool) : PV × List (List Cell) := (.one (.v (.bool y)), [])
noncomputable def G5 := ZI E5 fun x => (Llaw35_sane).map (R5 x)
theorem ZsL {y : Bool} (h : Llaw35_sane  = some y) : G5 (E5 ()) = some (R5 () y) := Zo E5i h
def E26 (x : Int × Int) : List PV := [.one (.v (.int .i64 x.1)), .one (.v (.int .i64 x.2))]
theorem E26i : ∀ a b, E26 a = E26 b → a = b := by
  rintro ⟨a0, a1⟩ ⟨b0, b1⟩ h
  simpa [E26, and_assoc] using h
def R26 (x : Int × Int) (y : Int) : PV × List (List Cell) := (.one (.v (.int .i64 y)), [])
noncomputable def G26 := ZI E26 fun x => (Xx x.1 x.2).map (R26 x)
theorem ZgT {a0 : Int} {a1 : Int} {y : Int} (h : Xx a0 a1 = some y) : G26 (E26 (a0, a1)) = some (R26 (a0, a1) y) := Zo E26i h
def E50 (x : Tlightclientmill_Deck) : List PV := [.io ([.slice .no (Zk .i64 x.1), .v (.int .i64 x.2)])]
theorem E50i : ∀ a b, E50 a = E50 b → a = b := by
  rintro ⟨a0_0, a0_1⟩ ⟨b0_0, b0_1⟩ h
  simpa [E50, and_assoc] using h
def R50 (x : Tlightclientmill_Deck) (y : Bool × Tlightclientmill_Deck) : PV × List (List Cell) := (.one (.v (.bool y.1)), [[.slice .no (Zk .i64 y.2.1), .v (.int .i64 y.2.2)]])
noncomputable def G50 := ZI E50 fun x => (XG x).map (R50 x)
theorem Zru {a0 : Tlightclientmill_Deck} {y : Bool × Tlightclientmill_Deck} (h : XG a0 = some y) : G50 (E50 a0) = some (R50 a0 y) := Zo E50i h
def E25 (x : Tlightclientmill_Deck × Int) : List PV := [.io ([.slice .no (Zk .i64 x.1.1), .v (.int .i64 x.1.2)]), .one (.v (.int .i64 x.2))]
theorem E25i : ∀ a b, E25 a = E25 b → a = b := by
  rintro ⟨⟨a0_0, a0_1⟩, a1⟩ ⟨⟨b0_0, b0_1⟩, b1⟩ h
  simpa [E25, and_assoc] using h
def R25 (x : Tlightclientmill_Deck × Int) (y : Int × Tlightclientmill_Deck) : PV × List (List Cell) := (.one (.v (.int .i64 y.1)), [[.slice .no (Zk .i64 y.2.1), .v (.int .i64 y.2.2)]])
noncomputable def G25 := ZI E25 fun x => (Z8 x.1 x.2).map (R25 x)
theorem Zey {a0 : Tlightclientmill_Deck} {a1 : Int} {y : Int × Tlightclientmill_Deck} (h : Z8 a0 a1 = some y) : G25 (E25 (a0, a1)) = some (R25 (a0, a1) y) := Zo E25i h
def E14 (x : Tlightclientmill_Deck × Tapi_Plan) : List PV := [.io ([.slice .no (Zk .i64 x.1.1), .v (.int .i64 x.1.2)]), .agg ([.v (.int .u32 x.2.1.1), .slice .no (List.map Zm x.2.1.2.1), .slice .no (List.map Zl x.2.1.2.2.1), .v (.int .u32 x.2.1.2.2.2), .slice .no (List.map ZD x.2.2.1), .v (.int .i64 x.2.2.2.1), .v (.int .i64 x.2.2.2.2)])]
theorem E14i : ∀ a b, E14 a = E14 b → a = b := by
  rintro ⟨⟨a0_0, a0_1⟩, ⟨⟨a1_0_0, a1_0_1, a1_0_2, a1_0_3⟩, a1_1, a1_2, a1_3⟩⟩ ⟨⟨b0_0, b0_1⟩, ⟨⟨b1_0_0, b1_0_1, b1_0_2, b1_0_3⟩, b1_1, b1_2, b1_3⟩⟩ h
  simpa [E14, and_assoc] using h
def R14 (x : Tlightclientmill_Deck × Tapi_Plan) (y : (List Tapi_Signed) × Tlightclientmill_Deck) : PV × List (List Cell) := (.one (.own 13 (List.map ZW y.1)), [[.slice .no (Zk .i64 y.2.1), .v (.int .i64 y.2.2)]])
noncomputable def G14 := ZI E14 fun x => (Zah x.1 x.2).map (R14 x)
theorem Zrv {a0 : Tlightclientmill_Deck} {a1 : Tapi_Plan} {y : (List Tapi_Signed) × Tlightclientmill_Deck} (h : Zah a0 a1 = some y) : G14 (E14 (a0, a1)) = some (R14 (a0, a1) y) := Zo E14i h
def E48 (x : (List Int)) : List PV := [.one (.slice .no (Zk .u8 x))]
theorem E48i : ∀ a b, E48 a = E48 b → a = b := by
  rintro a0 b0 h
  simpa [E48, and_assoc] using h
def R48 (x : (List Int)) (y : (List Int)) : PV × List (List Cell) := (.one (.own 1 (Zk .u8 y)), [])
noncomputable def G48 := ZI E48 fun x => (X7 x).map (R48 x)
theorem ZoK {a0 : (List Int)} {y : (List Int)} (h : X7 a0 = some y) : G48 (E48 a0) = some (R48 a0 y) := Zo E48i h
def E21 (x : (Arr 4)) : List PV := [.agg (arC .u64 x)]
theorem E21i : ∀ a b, E21 a = E21 b → a = b := by
  rintro a0 b0 h
  simpa [E21, and_assoc] using h
def R21 (x : (Arr 4)) (y : (List Int)) : PV × List (List Cell) := (.one (.own 1 (Zk .u8 y)), [])
noncomputable def G21 := ZI E21 fun x => (Xt x).map (R21 x)
theorem Zrw {a0 : (Arr 4)} {y : (List Int)} (h : Xt a0 = some y) : G21 (E21 a0) = some (R21 a0 y) := Zo E21i h
def E49 (x : Int) : List PV := [.one (.v (.int .u32 x))]
theorem E49i : ∀ a b, E49 a = E49 b → a = b := by
  rintro a0 b0 h
  simpa [E49, and_assoc] using h
def R49 (x : Int) (y : (List Int)) : PV × List (List Cell) := (.one (.own 1 (Zk .u8 y)), [])
noncomputable def G49 := ZI E49 fun x => (ZaP x).map (R49 x)
theorem Zrx {a0 : Int} {y : (List Int)} (h : ZaP a0 = some y) : G49 (E49 a0) = some (R49 a0 y) := Zo E49i h
def E22 (x : Int × (List Int)) : List PV := [.one (.v (.int .u32 x.1)), .one (.slice .no (Zk .u8 x.2))]
theorem E22i : ∀ a b, E22 a = E22 b → a = b := by
  rintro ⟨a0, a1⟩ ⟨b0, b1⟩ h
  simpa [E22, and_assoc] using h
def R22 (x : Int × (List Int)) (y : (List Int)) : PV × List (List Cell) := (.one (.own 1 (Zk .u8 y)), [])
noncomputable def G22 := ZI E22 fun x => (XL x.1 x.2).map (R22 x)
theorem Zry {a0 : Int} {a1 : (List Int)} {y : (List Int)} (h : XL a0 a1 = some y) : G22 (E22 (a0, a1)) = some (R22 (a0, a1) y) := Zo E22i h
def E23 (x : Int) : List PV := [.one (.v (.int .u8 x))]
theorem E23i : ∀ a b, E23 a = E23 b → a = b := by
  rintro a0 b0 h
  simpa [E23, and_assoc] using h
def R23 (x : Int) (y : (List Int)) : PV × List (List Cell) := (.one (.own 1 (Zk .u8 y)), [])
noncomputable def G23 := ZI E23 fun x => (XF x).map (R23 x)
theorem Zmh {a0 : Int} {y : (List Int)} (h : XF a0 = some y) : G23 (E23 a0) = some (R23 a0 y) := Zo E23i h
def E24 (x : Tlightclientmill_Deck × (List (List Int))) : List PV := [.io ([.slice .no (Zk .i64 x.1.1), .v (.int .i64 x.1.2)]), .one (.slice .no (List.map Yi x.2))]
theorem E24i : ∀ a b, E24 a = E24 b → a = b := by
  rintro ⟨⟨a0_0, a0_1⟩, a1⟩ ⟨⟨b0_0, b0_1⟩, b1⟩ h
  simpa [E24, and_assoc] using h
def R24 (x : Tlightclientmill_Deck × (List (List Int))) (y : Tapi_Plan × Tlightclientmill_Deck) : PV × List (List Cell) := (.agg ([.v (.int .u32 y.1.1.1), .own 35 (List.map Zm y.1.1.2.1), .own 2 (List.map Zl y.1.1.2.2.1), .v (.int .u32 y.1.1.2.2.2), .own 37 (List.map ZD y.1.2.1), .v (.int .i64 y.1.2.2.1), .v (.int .i64 y.1.2.2.2)]), [[.slice .no (Zk .i64 y.2.1), .v (.int .i64 y.2.2)]])
noncomputable def G24 := ZI E24 fun x => (Zbo x.1 x.2).map (R24 x)
theorem Zrz {a0 : Tlightclientmill_Deck} {a1 : (List (List Int))} {y : Tapi_Plan × Tlightclientmill_Deck} (h : Zbo a0 a1 = some y) : G24 (E24 (a0, a1)) = some (R24 (a0, a1) y) := Zo E24i h
def E6 (x : Tlightclientmill_Deck) : List PV := [.io ([.slice .no (Zk .i64 x.1), .v (.int .i64 x.2)])]
theorem E6i : ∀ a b, E6 a = E6 b → a = b := by
  rintro ⟨a0_0, a0_1⟩ ⟨b0_0, b0_1⟩ h
  simpa [E6, and_assoc] using h
def R6 (x : Tlightclientmill_Deck) (y : Tapi_PartialTx × Tlightclientmill_Deck) : PV × List (List Cell) := (.agg ([.v (.int .u32 y.1.1.1.1), .slice .no (List.map Zm y.1.1.1.2.1), .slice .no (List.map Zl y.1.1.1.2.2.1), .v (.int .u32 y.1.1.1.2.2.2), .slice .no (List.map ZD y.1.1.2.1), .v (.int .i64 y.1.1.2.2.1), .v (.int .i64 y.1.1.2.2.2), .slice .no (List.map ZW y.1.2)]), [[.slice .no (Zk .i64 y.2.1), .v (.int .i64 y.2.2)]])
noncomputable def G6 := ZI E6 fun x => (ZaQ x).map (R6 x)
theorem ZsM {a0 : Tlightclientmill_Deck} {y : Tapi_PartialTx × Tlightclientmill_Deck} (h : ZaQ a0 = some y) : G6 (E6 a0) = some (R6 a0 y) := Zo E6i h
def E7 (x : (List Int)) : List PV := [.one (.slice .no (Zk .i64 x))]
theorem E7i : ∀ a b, E7 a = E7 b → a = b := by
  rintro a0 b0 h
  simpa [E7, and_assoc] using h
def R7 (x : (List Int)) (y : Tlightclientmill_Deck) : PV × List (List Cell) := (.io ([.slice .no (Zk .i64 y.1), .v (.int .i64 y.2)]), [])
noncomputable def G7 := ZI E7 fun x => (ZcQ x).map (R7 x)
theorem ZsN {a0 : (List Int)} {y : Tlightclientmill_Deck} (h : ZcQ a0 = some y) : G7 (E7 a0) = some (R7 a0 y) := Zo E7i h
def E27 (x : (Arr 4)) : List PV := [.agg (arC .u64 x)]
theorem E27i : ∀ a b, E27 a = E27 b → a = b := by
  rintro a0 b0 h
  simpa [E27, and_assoc] using h
def R27 (x : (Arr 4)) (y : (Arr 4)) : PV × List (List Cell) := (.agg (arC .u64 y), [])
noncomputable def G27 := ZI E27 fun x => (Zci x).map (R27 x)
theorem ZrA {a0 : (Arr 4)} {y : (Arr 4)} (h : Zci a0 = some y) : G27 (E27 a0) = some (R27 a0 y) := Zo E27i h
def E8 (x : Tapi_PartialTx × Int × Int) : List PV := [.agg ([.v (.int .u32 x.1.1.1.1), .slice .no (List.map Zm x.1.1.1.2.1), .slice .no (List.map Zl x.1.1.1.2.2.1), .v (.int .u32 x.1.1.1.2.2.2), .slice .no (List.map ZD x.1.1.2.1), .v (.int .i64 x.1.1.2.2.1), .v (.int .i64 x.1.1.2.2.2), .slice .no (List.map ZW x.1.2)]), .one (.v (.int .i64 x.2.1)), .one (.v (.int .i64 x.2.2))]
theorem E8i : ∀ a b, E8 a = E8 b → a = b := by
  rintro ⟨⟨⟨⟨a0_0_0_0, a0_0_0_1, a0_0_0_2, a0_0_0_3⟩, a0_0_1, a0_0_2, a0_0_3⟩, a0_1⟩, a1, a2⟩ ⟨⟨⟨⟨b0_0_0_0, b0_0_0_1, b0_0_0_2, b0_0_0_3⟩, b0_0_1, b0_0_2, b0_0_3⟩, b0_1⟩, b1, b2⟩ h
  simpa [E8, and_assoc] using h
def R8 (x : Tapi_PartialTx × Int × Int) (y : Tapi_PartialTx) : PV × List (List Cell) := (.agg ([.v (.int .u32 y.1.1.1), .slice .no (List.map Zm y.1.1.2.1), .slice .no (List.map Zl y.1.1.2.2.1), .v (.int .u32 y.1.1.2.2.2), .slice .no (List.map ZD y.1.2.1), .v (.int .i64 y.1.2.2.1), .v (.int .i64 y.1.2.2.2), .own 13 (List.map ZW y.2)]), [])
noncomputable def G8 := ZI E8 fun x => (Zak x.1 x.2.1 x.2.2).map (R8 x)
theorem ZsO {a0 : Tapi_PartialTx} {a1 : Int} {a2 : Int} {y : Tapi_PartialTx} (h : Zak a0 a1 a2 = some y) : G8 (E8 (a0, a1, a2)) = some (R8 (a0, a1, a2) y) := Zo E8i h
def E87 (x : Tapi_OutPoint) : List PV := [.agg ((arC .u8 x.1) ++ ((.v (.int .u32 x.2)) :: []))]
theorem E87i : ∀ a b, E87 a = E87 b → a = b := by
  rintro ⟨a0_0, a0_1⟩ ⟨b0_0, b0_1⟩ h
  simpa [E87, and_assoc] using h
def R87 (x : Tapi_OutPoint) (y : Bool) : PV × List (List Cell) := (.one (.v (.bool y)), [])
noncomputable def G87 := ZI E87 fun x => (ZdX x).map (R87 x)
theorem ZrB {a0 : Tapi_OutPoint} {y : Bool} (h : ZdX a0 = some y) : G87 (E87 a0) = some (R87 a0 y) := Zo E87i h
def E52 (x : Tapi_Tx) : List PV := [.agg ([.v (.int .u32 x.1), .slice .no (List.map Zm x.2.1), .slice .no (List.map Zl x.2.2.1), .v (.int .u32 x.2.2.2)])]
theorem E52i : ∀ a b, E52 a = E52 b → a = b := by
  rintro ⟨a0_0, a0_1, a0_2, a0_3⟩ ⟨b0_0, b0_1, b0_2, b0_3⟩ h
  simpa [E52, and_assoc] using h
def R52 (x : Tapi_Tx) (y : Bool) : PV × List (List Cell) := (.one (.v (.bool y)), [])
noncomputable def G52 := ZI E52 fun x => (XH x).map (R52 x)
theorem ZoL {a0 : Tapi_Tx} {y : Bool} (h : XH a0 = some y) : G52 (E52 a0) = some (R52 a0 y) := Zo E52i h
def Zc4 (x : (List Int) × (List Int)) : List PV := [.one (.slice .no (Zk .u8 x.1)), .one (.slice .no (Zk .u8 x.2))]
theorem E117i : ∀ a b, Zc4 a = Zc4 b → a = b := by
  rintro ⟨a0, a1⟩ ⟨b0, b1⟩ h
  simpa [Zc4, and_assoc] using h
def Zez (x : (List Int) × (List Int)) (y : (List Int)) : PV × List (List Cell) := (.one (.own 1 (Zk .u8 y)), [])
noncomputable def G117 := ZI Zc4 fun x => (Yk x.1 x.2).map (Zez x)
theorem Zdn {a0 : (List Int)} {a1 : (List Int)} {y : (List Int)} (h : Yk a0 a1 = some y) : G117 (Zc4 (a0, a1)) = some (Zez (a0, a1) y) := Zo E117i h
def Zgb (x : Int × Int) : List PV := [.one (.v (.int .u64 x.1)), .one (.v (.int .i64 x.2))]
theorem E118i : ∀ a b, Zgb a = Zgb b → a = b := by
  rintro ⟨a0, a1⟩ ⟨b0, b1⟩ h
  simpa [Zgb, and_assoc] using h
def Ziz (x : Int × Int) (y : (List Int)) : PV × List (List Cell) := (.one (.own 1 (Zk .u8 y)), [])
noncomputable def G118 := ZI Zgb fun x => (YA x.1 x.2).map (Ziz x)
theorem Zks {a0 : Int} {a1 : Int} {y : (List Int)} (h : YA a0 a1 = some y) : G118 (Zgb (a0, a1)) = some (Ziz (a0, a1) y) := Zo E118i h
def ZeW (x : (List Int) × Int) : List PV := [.one (.slice .no (Zk .u8 x.1)), .one (.v (.int .u32 x.2))]
theorem E107i : ∀ a b, ZeW a = ZeW b → a = b := by
  rintro ⟨a0, a1⟩ ⟨b0, b1⟩ h
  simpa [ZeW, and_assoc] using h
def Zgx (x : (List Int) × Int) (y : (List Int)) : PV × List (List Cell) := (.one (.own 1 (Zk .u8 y)), [])
noncomputable def G107 := ZI ZeW fun x => (Ys x.1 x.2).map (Zgx x)
theorem ZgU {a0 : (List Int)} {a1 : Int} {y : (List Int)} (h : Ys a0 a1 = some y) : G107 (ZeW (a0, a1)) = some (Zgx (a0, a1) y) := Zo E107i h
def Zgy (x : (List Int) × Int) : List PV := [.one (.slice .no (Zk .u8 x.1)), .one (.v (.int .u64 x.2))]
theorem E110i : ∀ a b, Zgy a = Zgy b → a = b := by
  rintro ⟨a0, a1⟩ ⟨b0, b1⟩ h
  simpa [Zgy, and_assoc] using h
def Zjz (x : (List Int) × Int) (y : (List Int)) : PV × List (List Cell) := (.one (.own 1 (Zk .u8 y)), [])
noncomputable def G110 := ZI Zgy fun x => (YO x.1 x.2).map (Zjz x)
theorem Zm1 {a0 : (List Int)} {a1 : Int} {y : (List Int)} (h : YO a0 a1 = some y) : G110 (Zgy (a0, a1)) = some (Zjz (a0, a1) y) := Zo E110i h
def Zht (x : (List Int) × Int) : List PV := [.one (.slice .no (Zk .u8 x.1)), .one (.v (.int .u16 x.2))]
theorem E119i : ∀ a b, Zht a = Zht b → a = b := by
  rintro ⟨a0, a1⟩ ⟨b0, b1⟩ h
  simpa [Zht, and_assoc] using h
def Zkt (x : (List Int) × Int) (y : (List Int)) : PV × List (List Cell) := (.one (.own 1 (Zk .u8 y)), [])
noncomputable def G119 := ZI Zht fun x => (Y4 x.1 x.2).map (Zkt x)
theorem ZqH {a0 : (List Int)} {a1 : Int} {y : (List Int)} (h : Y4 a0 a1 = some y) : G119 (Zht (a0, a1)) = some (Zkt (a0, a1) y) := Zo E119i h
def Zfv (x : (List Int) × Int) : List PV := [.one (.slice .no (Zk .u8 x.1)), .one (.v (.int .u64 x.2))]
theorem E108i : ∀ a b, Zfv a = Zfv b → a = b := by
  rintro ⟨a0, a1⟩ ⟨b0, b1⟩ h
  simpa [Zfv, and_assoc] using h
def Zhu (x : (List Int) × Int) (y : (List Int)) : PV × List (List Cell) := (.one (.own 1 (Zk .u8 y)), [])
noncomputable def G108 := ZI Zfv fun x => (Yv x.1 x.2).map (Zhu x)
theorem ZiN {a0 : (List Int)} {a1 : Int} {y : (List Int)} (h : Yv a0 a1 = some y) : G108 (Zfv (a0, a1)) = some (Zhu (a0, a1) y) := Zo E108i h
def Zhv (x : (List Int) × (Arr 32)) : List PV := [.one (.slice .no (Zk .u8 x.1)), .agg (arC .u8 x.2)]
theorem E120i : ∀ a b, Zhv a = Zhv b → a = b := by
  rintro ⟨a0, a1⟩ ⟨b0, b1⟩ h
  simpa [Zhv, and_assoc] using h
def Zku (x : (List Int) × (Arr 32)) (y : (List Int)) : PV × List (List Cell) := (.one (.own 1 (Zk .u8 y)), [])
noncomputable def G120 := ZI Zhv fun x => (YQ x.1 x.2).map (Zku x)
theorem ZqI {a0 : (List Int)} {a1 : (Arr 32)} {y : (List Int)} (h : YQ a0 a1 = some y) : G120 (Zhv (a0, a1)) = some (Zku (a0, a1) y) := Zo E120i h
def Zhw (x : Tapi_OutPoint) : List PV := [.agg ((arC .u8 x.1) ++ ((.v (.int .u32 x.2)) :: []))]
theorem E109i : ∀ a b, Zhw a = Zhw b → a = b := by
  rintro ⟨a0_0, a0_1⟩ ⟨b0_0, b0_1⟩ h
  simpa [Zhw, and_assoc] using h
def Zkv (x : Tapi_OutPoint) (y : (List Int)) : PV × List (List Cell) := (.one (.own 1 (Zk .u8 y)), [])
noncomputable def G109 := ZI Zhw fun x => (ZbY x).map (Zkv x)
theorem ZqJ {a0 : Tapi_OutPoint} {y : (List Int)} (h : ZbY a0 = some y) : G109 (Zhw a0) = some (Zkv a0 y) := Zo E109i h
def Zgz (x : (List Int) × (List Int)) : List PV := [.one (.slice .no (Zk .u8 x.1)), .one (.slice .no (Zk .u8 x.2))]
theorem E111i : ∀ a b, Zgz a = Zgz b → a = b := by
  rintro ⟨a0, a1⟩ ⟨b0, b1⟩ h
  simpa [Zgz, and_assoc] using h
def ZjA (x : (List Int) × (List Int)) (y : (List Int)) : PV × List (List Cell) := (.one (.own 1 (Zk .u8 y)), [])
noncomputable def G111 := ZI Zgz fun x => (YC x.1 x.2).map (ZjA x)
theorem Zm2 {a0 : (List Int)} {a1 : (List Int)} {y : (List Int)} (h : YC a0 a1 = some y) : G111 (Zgz (a0, a1)) = some (ZjA (a0, a1) y) := Zo E111i h
def Zhx (x : Tapi_Tx × Bool) : List PV := [.agg ([.v (.int .u32 x.1.1), .slice .no (List.map Zm x.1.2.1), .slice .no (List.map Zl x.1.2.2.1), .v (.int .u32 x.1.2.2.2)]), .one (.v (.bool x.2))]
theorem E103i : ∀ a b, Zhx a = Zhx b → a = b := by
  rintro ⟨⟨a0_0, a0_1, a0_2, a0_3⟩, a1⟩ ⟨⟨b0_0, b0_1, b0_2, b0_3⟩, b1⟩ h
  simpa [Zhx, and_assoc] using h
def Zkw (x : Tapi_Tx × Bool) (y : (List Int)) : PV × List (List Cell) := (.one (.own 1 (Zk .u8 y)), [])
noncomputable def G103 := ZI Zhx fun x => (Zbm x.1 x.2).map (Zkw x)
theorem ZqK {a0 : Tapi_Tx} {a1 : Bool} {y : (List Int)} (h : Zbm a0 a1 = some y) : G103 (Zhx (a0, a1)) = some (Zkw (a0, a1) y) := Zo E103i h
def E85 (x : Tapi_Tx) : List PV := [.agg ([.v (.int .u32 x.1), .slice .no (List.map Zm x.2.1), .slice .no (List.map Zl x.2.2.1), .v (.int .u32 x.2.2.2)])]
theorem E85i : ∀ a b, E85 a = E85 b → a = b := by
  rintro ⟨a0_0, a0_1, a0_2, a0_3⟩ ⟨b0_0, b0_1, b0_2, b0_3⟩ h
  simpa [E85, and_assoc] using h
def R85 (x : Tapi_Tx) (y : Bool) : PV × List (List Cell) := (.one (.v (.bool y)), [])
noncomputable def G85 := ZI E85 fun x => (ZcS x).map (R85 x)
theorem ZrC {a0 : Tapi_Tx} {y : Bool} (h : ZcS a0 = some y) : G85 (E85 a0) = some (R85 a0 y) := Zo E85i h
def E86 (x : (List Tapi_Output)) : List PV := [.one (.slice .no (List.map Zl x))]
theorem E86i : ∀ a b, E86 a = E86 b → a = b := by
  rintro a0 b0 h
  simpa [E86, and_assoc] using h
def R86 (x : (List Tapi_Output)) (y : Bool) : PV × List (List Cell) := (.one (.v (.bool y)), [])
noncomputable def G86 := ZI E86 fun x => (ZbZ x).map (R86 x)
theorem ZrD {a0 : (List Tapi_Output)} {y : Bool} (h : ZbZ a0 = some y) : G86 (E86 a0) = some (R86 a0 y) := Zo E86i h
def E51 (x : Tapi_Tx) : List PV := [.agg ([.v (.int .u32 x.1), .slice .no (List.map Zm x.2.1), .slice .no (List.map Zl x.2.2.1), .v (.int .u32 x.2.2.2)])]
theorem E51i : ∀ a b, E51 a = E51 b → a = b := by
  rintro ⟨a0_0, a0_1, a0_2, a0_3⟩ ⟨b0_0, b0_1, b0_2, b0_3⟩ h
  simpa [E51, and_assoc] using h
def R51 (x : Tapi_Tx) (y : Int) : PV × List (List Cell) := (.one (.v (.int .i64 y)), [])
noncomputable def G51 := ZI E51 fun x => (Zbp x).map (R51 x)
theorem ZoM {a0 : Tapi_Tx} {y : Int} (h : Zbp a0 = some y) : G51 (E51 a0) = some (R51 a0 y) := Zo E51i h
def E88 (x : (List Tapi_Coin)) : List PV := [.one (.slice .no (List.map ZD x))]
theorem E88i : ∀ a b, E88 a = E88 b → a = b := by
  rintro a0 b0 h
  simpa [E88, and_assoc] using h
def R88 (x : (List Tapi_Coin)) (y : Int × Bool) : PV × List (List Cell) := (.tup [.one (.v (.int .i64 y.1)), .one (.v (.bool y.2))], [])
noncomputable def G88 := ZI E88 fun x => (Zbq x).map (R88 x)
theorem ZrE {a0 : (List Tapi_Coin)} {y : Int × Bool} (h : Zbq a0 = some y) : G88 (E88 a0) = some (R88 a0 y) := Zo E88i h
def E53 (x : Tapi_Tx × (List Tapi_Coin)) : List PV := [.agg ([.v (.int .u32 x.1.1), .slice .no (List.map Zm x.1.2.1), .slice .no (List.map Zl x.1.2.2.1), .v (.int .u32 x.1.2.2.2)]), .one (.slice .no (List.map ZD x.2))]
theorem E53i : ∀ a b, E53 a = E53 b → a = b := by
  rintro ⟨⟨a0_0, a0_1, a0_2, a0_3⟩, a1⟩ ⟨⟨b0_0, b0_1, b0_2, b0_3⟩, b1⟩ h
  simpa [E53, and_assoc] using h
def R53 (x : Tapi_Tx × (List Tapi_Coin)) (y : Int × Int) : PV × List (List Cell) := (.tup [.one (.v (.int .i64 y.1)), .one (.v (.int .i64 y.2))], [])
noncomputable def G53 := ZI E53 fun x => (Zbr x.1 x.2).map (R53 x)
theorem ZrF {a0 : Tapi_Tx} {a1 : (List Tapi_Coin)} {y : Int × Int} (h : Zbr a0 a1 = some y) : G53 (E53 (a0, a1)) = some (R53 (a0, a1) y) := Zo E53i h
def E28 (x : Tapi_Plan) : List PV := [.agg ([.v (.int .u32 x.1.1), .slice .no (List.map Zm x.1.2.1), .slice .no (List.map Zl x.1.2.2.1), .v (.int .u32 x.1.2.2.2), .slice .no (List.map ZD x.2.1), .v (.int .i64 x.2.2.1), .v (.int .i64 x.2.2.2)])]
theorem E28i : ∀ a b, E28 a = E28 b → a = b := by
  rintro ⟨⟨a0_0_0, a0_0_1, a0_0_2, a0_0_3⟩, a0_1, a0_2, a0_3⟩ ⟨⟨b0_0_0, b0_0_1, b0_0_2, b0_0_3⟩, b0_1, b0_2, b0_3⟩ h
  simpa [E28, and_assoc] using h
def R28 (x : Tapi_Plan) (y : Bool) : PV × List (List Cell) := (.one (.v (.bool y)), [])
noncomputable def G28 := ZI E28 fun x => (Y7 x).map (R28 x)
theorem ZoN {a0 : Tapi_Plan} {y : Bool} (h : Y7 a0 = some y) : G28 (E28 a0) = some (R28 a0 y) := Zo E28i h
def E56 (x : (List Int)) : List PV := [.one (.slice .no (Zk .u8 x))]
theorem E56i : ∀ a b, E56 a = E56 b → a = b := by
  rintro a0 b0 h
  simpa [E56, and_assoc] using h
def R56 (x : (List Int)) (y : (List Int)) : PV × List (List Cell) := (.one (.own 1 (Zk .u8 y)), [])
noncomputable def G56 := ZI E56 fun x => (Xa x).map (R56 x)
theorem Zmi {a0 : (List Int)} {y : (List Int)} (h : Xa a0 = some y) : G56 (E56 a0) = some (R56 a0 y) := Zo E56i h
def E89 (x : (List Tapi_Input)) : List PV := [.one (.slice .no (List.map Zm x))]
theorem E89i : ∀ a b, E89 a = E89 b → a = b := by
  rintro a0 b0 h
  simpa [E89, and_assoc] using h
def R89 (x : (List Tapi_Input)) (y : (List Tapi_Input)) : PV × List (List Cell) := (.one (.own 35 (List.map Zm y)), [])
noncomputable def G89 := ZI E89 fun x => (ZV x).map (R89 x)
theorem ZrG {a0 : (List Tapi_Input)} {y : (List Tapi_Input)} (h : ZV a0 = some y) : G89 (E89 a0) = some (R89 a0 y) := Zo E89i h
def E90 (x : (List Tapi_Output)) : List PV := [.one (.slice .no (List.map Zl x))]
theorem E90i : ∀ a b, E90 a = E90 b → a = b := by
  rintro a0 b0 h
  simpa [E90, and_assoc] using h
def R90 (x : (List Tapi_Output)) (y : (List Tapi_Output)) : PV × List (List Cell) := (.one (.own 2 (List.map Zl y)), [])
noncomputable def G90 := ZI E90 fun x => (ZT x).map (R90 x)
theorem ZrH {a0 : (List Tapi_Output)} {y : (List Tapi_Output)} (h : ZT a0 = some y) : G90 (E90 a0) = some (R90 a0 y) := Zo E90i h
def Zkx (x : (List (List Int))) : List PV := [.one (.slice .no (List.map Yi x))]
theorem E104i : ∀ a b, Zkx a = Zkx b → a = b := by
  rintro a0 b0 h
  simpa [Zkx, and_assoc] using h
def ZpO (x : (List (List Int))) (y : (List (List Int))) : PV × List (List Cell) := (.one (.own 1 (List.map Yi y)), [])
noncomputable def G104 := ZI Zkx fun x => (Yb x).map (ZpO x)
theorem ZqL {a0 : (List (List Int))} {y : (List (List Int))} (h : Yb a0 = some y) : G104 (Zkx a0) = some (ZpO a0 y) := Zo E104i h
def E91 (x : (List (List Int))) : List PV := [.one (.slice .no (List.map Yi x))]
theorem E91i : ∀ a b, E91 a = E91 b → a = b := by
  rintro a0 b0 h
  simpa [E91, and_assoc] using h
def R91 (x : (List (List Int))) (y : (List (List Int))) : PV × List (List Cell) := (.one (.own 1 (List.map Yi y)), [])
noncomputable def G91 := ZI E91 fun x => (YI x).map (R91 x)
theorem ZrI {a0 : (List (List Int))} {y : (List (List Int))} (h : YI a0 = some y) : G91 (E91 a0) = some (R91 a0 y) := Zo E91i h
def E54 (x : Tapi_Tx) : List PV := [.agg ([.v (.int .u32 x.1), .slice .no (List.map Zm x.2.1), .slice .no (List.map Zl x.2.2.1), .v (.int .u32 x.2.2.2)])]
theorem E54i : ∀ a b, E54 a = E54 b → a = b := by
  rintro ⟨a0_0, a0_1, a0_2, a0_3⟩ ⟨b0_0, b0_1, b0_2, b0_3⟩ h
  simpa [E54, and_assoc] using h
def R54 (x : Tapi_Tx) (y : Tapi_Tx) : PV × List (List Cell) := (.agg ([.v (.int .u32 y.1), .own 35 (List.map Zm y.2.1), .own 2 (List.map Zl y.2.2.1), .v (.int .u32 y.2.2.2)]), [])
noncomputable def G54 := ZI E54 fun x => (Xb x).map (R54 x)
theorem ZrJ {a0 : Tapi_Tx} {y : Tapi_Tx} (h : Xb a0 = some y) : G54 (E54 a0) = some (R54 a0 y) := Zo E54i h
def E55 (x : (List Tapi_Coin)) : List PV := [.one (.slice .no (List.map ZD x))]
theorem E55i : ∀ a b, E55 a = E55 b → a = b := by
  rintro a0 b0 h
  simpa [E55, and_assoc] using h
def R55 (x : (List Tapi_Coin)) (y : (List Tapi_Coin)) : PV × List (List Cell) := (.one (.own 37 (List.map ZD y)), [])
noncomputable def G55 := ZI E55 fun x => (ZX x).map (R55 x)
theorem ZrK {a0 : (List Tapi_Coin)} {y : (List Tapi_Coin)} (h : ZX a0 = some y) : G55 (E55 a0) = some (R55 a0 y) := Zo E55i h
def E29 (x : Tapi_Plan) : List PV := [.agg ([.v (.int .u32 x.1.1), .slice .no (List.map Zm x.1.2.1), .slice .no (List.map Zl x.1.2.2.1), .v (.int .u32 x.1.2.2.2), .slice .no (List.map ZD x.2.1), .v (.int .i64 x.2.2.1), .v (.int .i64 x.2.2.2)])]
theorem E29i : ∀ a b, E29 a = E29 b → a = b := by
  rintro ⟨⟨a0_0_0, a0_0_1, a0_0_2, a0_0_3⟩, a0_1, a0_2, a0_3⟩ ⟨⟨b0_0_0, b0_0_1, b0_0_2, b0_0_3⟩, b0_1, b0_2, b0_3⟩ h
  simpa [E29, and_assoc] using h
def R29 (x : Tapi_Plan) (y : Tapi_Plan) : PV × List (List Cell) := (.agg ([.v (.int .u32 y.1.1), .own 35 (List.map Zm y.1.2.1), .own 2 (List.map Zl y.1.2.2.1), .v (.int .u32 y.1.2.2.2), .own 37 (List.map ZD y.2.1), .v (.int .i64 y.2.2.1), .v (.int .i64 y.2.2.2)]), [])
noncomputable def G29 := ZI E29 fun x => (YM x).map (R29 x)
theorem ZrL {a0 : Tapi_Plan} {y : Tapi_Plan} (h : YM a0 = some y) : G29 (E29 a0) = some (R29 a0 y) := Zo E29i h
def E9 (x : Tapi_Plan) : List PV := [.agg ([.v (.int .u32 x.1.1), .slice .no (List.map Zm x.1.2.1), .slice .no (List.map Zl x.1.2.2.1), .v (.int .u32 x.1.2.2.2), .slice .no (List.map ZD x.2.1), .v (.int .i64 x.2.2.1), .v (.int .i64 x.2.2.2)])]
theorem E9i : ∀ a b, E9 a = E9 b → a = b := by
  rintro ⟨⟨a0_0_0, a0_0_1, a0_0_2, a0_0_3⟩, a0_1, a0_2, a0_3⟩ ⟨⟨b0_0_0, b0_0_1, b0_0_2, b0_0_3⟩, b0_1, b0_2, b0_3⟩ h
  simpa [E9, and_assoc] using h
def R9 (x : Tapi_Plan) (y : Tapi_PartialTx × Int) : PV × List (List Cell) := (.tup [.agg ([.v (.int .u32 y.1.1.1.1), .slice .no (List.map Zm y.1.1.1.2.1), .slice .no (List.map Zl y.1.1.1.2.2.1), .v (.int .u32 y.1.1.1.2.2.2), .slice .no (List.map ZD y.1.1.2.1), .v (.int .i64 y.1.1.2.2.1), .v (.int .i64 y.1.1.2.2.2), .slice .no (List.map ZW y.1.2)]), .one (.v (.int .i64 y.2))], [])
noncomputable def G9 := ZI E9 fun x => (Zal x).map (R9 x)
theorem ZsP {a0 : Tapi_Plan} {y : Tapi_PartialTx × Int} (h : Zal a0 = some y) : G9 (E9 a0) = some (R9 a0 y) := Zo E9i h
def E93 (x : Tapi_OutPoint) : List PV := [.agg ((arC .u8 x.1) ++ ((.v (.int .u32 x.2)) :: []))]
theorem E93i : ∀ a b, E93 a = E93 b → a = b := by
  rintro ⟨a0_0, a0_1⟩ ⟨b0_0, b0_1⟩ h
  simpa [E93, and_assoc] using h
def R93 (x : Tapi_OutPoint) (y : Bool) : PV × List (List Cell) := (.one (.v (.bool y)), [])
noncomputable def G93 := ZI E93 fun x => (X6 x).map (R93 x)
theorem ZoO {a0 : Tapi_OutPoint} {y : Bool} (h : X6 a0 = some y) : G93 (E93 a0) = some (R93 a0 y) := Zo E93i h
def E58 (x : Tapi_Tx) : List PV := [.agg ([.v (.int .u32 x.1), .slice .no (List.map Zm x.2.1), .slice .no (List.map Zl x.2.2.1), .v (.int .u32 x.2.2.2)])]
theorem E58i : ∀ a b, E58 a = E58 b → a = b := by
  rintro ⟨a0_0, a0_1, a0_2, a0_3⟩ ⟨b0_0, b0_1, b0_2, b0_3⟩ h
  simpa [E58, and_assoc] using h
def R58 (x : Tapi_Tx) (y : Bool) : PV × List (List Cell) := (.one (.v (.bool y)), [])
noncomputable def G58 := ZI E58 fun x => (Xi x).map (R58 x)
theorem ZoP {a0 : Tapi_Tx} {y : Bool} (h : Xi a0 = some y) : G58 (E58 a0) = some (R58 a0 y) := Zo E58i h
def ZeA (x : Int × Int) : List PV := [.one (.v (.int .u64 x.1)), .one (.v (.int .i64 x.2))]
theorem E121i : ∀ a b, ZeA a = ZeA b → a = b := by
  rintro ⟨a0, a1⟩ ⟨b0, b1⟩ h
  simpa [ZeA, and_assoc] using h
def Zgc (x : Int × Int) (y : (List Int)) : PV × List (List Cell) := (.one (.own 1 (Zk .u8 y)), [])
noncomputable def G121 := ZI ZeA fun x => (Z5 x.1 x.2).map (Zgc x)
theorem ZfN {a0 : Int} {a1 : Int} {y : (List Int)} (h : Z5 a0 a1 = some y) : G121 (ZeA (a0, a1)) = some (Zgc (a0, a1) y) := Zo E121i h
def Zfw (x : (List Int) × Int) : List PV := [.one (.slice .no (Zk .u8 x.1)), .one (.v (.int .u32 x.2))]
theorem E112i : ∀ a b, Zfw a = Zfw b → a = b := by
  rintro ⟨a0, a1⟩ ⟨b0, b1⟩ h
  simpa [Zfw, and_assoc] using h
def Zhy (x : (List Int) × Int) (y : (List Int)) : PV × List (List Cell) := (.one (.own 1 (Zk .u8 y)), [])
noncomputable def G112 := ZI Zfw fun x => (Yx x.1 x.2).map (Zhy x)
theorem ZiO {a0 : (List Int)} {a1 : Int} {y : (List Int)} (h : Yx a0 a1 = some y) : G112 (Zfw (a0, a1)) = some (Zhy (a0, a1) y) := Zo E112i h
def Zfx (x : (List Int) × Int) : List PV := [.one (.slice .no (Zk .u8 x.1)), .one (.v (.int .u64 x.2))]
theorem E113i : ∀ a b, Zfx a = Zfx b → a = b := by
  rintro ⟨a0, a1⟩ ⟨b0, b1⟩ h
  simpa [Zfx, and_assoc] using h
def Zhz (x : (List Int) × Int) (y : (List Int)) : PV × List (List Cell) := (.one (.own 1 (Zk .u8 y)), [])
noncomputable def G113 := ZI Zfx fun x => (Yw x.1 x.2).map (Zhz x)
theorem ZiP {a0 : (List Int)} {a1 : Int} {y : (List Int)} (h : Yw a0 a1 = some y) : G113 (Zfx (a0, a1)) = some (Zhz (a0, a1) y) := Zo E113i h
def ZhA (x : (List Int) × (Arr 32)) : List PV := [.one (.slice .no (Zk .u8 x.1)), .agg (arC .u8 x.2)]
theorem E122i : ∀ a b, ZhA a = ZhA b → a = b := by
  rintro ⟨a0, a1⟩ ⟨b0, b1⟩ h
  simpa [ZhA, and_assoc] using h
def Zky (x : (List Int) × (Arr 32)) (y : (List Int)) : PV × List (List Cell) := (.one (.own 1 (Zk .u8 y)), [])
noncomputable def G122 := ZI ZhA fun x => (YR x.1 x.2).map (Zky x)
theorem ZqM {a0 : (List Int)} {a1 : (Arr 32)} {y : (List Int)} (h : YR a0 a1 = some y) : G122 (ZhA (a0, a1)) = some (Zky (a0, a1) y) := Zo E122i h
def ZhB (x : Tapi_OutPoint) : List PV := [.agg ((arC .u8 x.1) ++ ((.v (.int .u32 x.2)) :: []))]
theorem E114i : ∀ a b, ZhB a = ZhB b → a = b := by
  rintro ⟨a0_0, a0_1⟩ ⟨b0_0, b0_1⟩ h
  simpa [ZhB, and_assoc] using h
def Zkz (x : Tapi_OutPoint) (y : (List Int)) : PV × List (List Cell) := (.one (.own 1 (Zk .u8 y)), [])
noncomputable def G114 := ZI ZhB fun x => (Zad x).map (Zkz x)
theorem ZqN {a0 : Tapi_OutPoint} {y : (List Int)} (h : Zad a0 = some y) : G114 (ZhB a0) = some (Zkz a0 y) := Zo E114i h
def ZgA (x : (List Int) × (List Int)) : List PV := [.one (.slice .no (Zk .u8 x.1)), .one (.slice .no (Zk .u8 x.2))]
theorem E116i : ∀ a b, ZgA a = ZgA b → a = b := by
  rintro ⟨a0, a1⟩ ⟨b0, b1⟩ h
  simpa [ZgA, and_assoc] using h
def ZjB (x : (List Int) × (List Int)) (y : (List Int)) : PV × List (List Cell) := (.one (.own 1 (Zk .u8 y)), [])
noncomputable def G116 := ZI ZgA fun x => (YD x.1 x.2).map (ZjB x)
theorem Zm3 {a0 : (List Int)} {a1 : (List Int)} {y : (List Int)} (h : YD a0 a1 = some y) : G116 (ZgA (a0, a1)) = some (ZjB (a0, a1) y) := Zo E116i h
def ZhC (x : (List Int) × Int) : List PV := [.one (.slice .no (Zk .u8 x.1)), .one (.v (.int .u64 x.2))]
theorem E123i : ∀ a b, ZhC a = ZhC b → a = b := by
  rintro ⟨a0, a1⟩ ⟨b0, b1⟩ h
  simpa [ZhC, and_assoc] using h
def ZkA (x : (List Int) × Int) (y : (List Int)) : PV × List (List Cell) := (.one (.own 1 (Zk .u8 y)), [])
noncomputable def G123 := ZI ZhC fun x => (Y5 x.1 x.2).map (ZkA x)
theorem ZqO {a0 : (List Int)} {a1 : Int} {y : (List Int)} (h : Y5 a0 a1 = some y) : G123 (ZhC (a0, a1)) = some (ZkA (a0, a1) y) := Zo E123i h
def ZhD (x : Tapi_Output) : List PV := [.agg ([.v (.int .i64 x.1), .slice .no (Zk .u8 x.2)])]
theorem E115i : ∀ a b, ZhD a = ZhD b → a = b := by
  rintro ⟨a0_0, a0_1⟩ ⟨b0_0, b0_1⟩ h
  simpa [ZhD, and_assoc] using h
def ZkB (x : Tapi_Output) (y : (List Int)) : PV × List (List Cell) := (.one (.own 1 (Zk .u8 y)), [])
noncomputable def G115 := ZI ZhD fun x => (Zbn x).map (ZkB x)
theorem ZqP {a0 : Tapi_Output} {y : (List Int)} (h : Zbn a0 = some y) : G115 (ZhD a0) = some (ZkB a0 y) := Zo E115i h
def ZhE (x : Tapi_Tx × Bool) : List PV := [.agg ([.v (.int .u32 x.1.1), .slice .no (List.map Zm x.1.2.1), .slice .no (List.map Zl x.1.2.2.1), .v (.int .u32 x.1.2.2.2)]), .one (.v (.bool x.2))]
theorem E105i : ∀ a b, ZhE a = ZhE b → a = b := by
  rintro ⟨⟨a0_0, a0_1, a0_2, a0_3⟩, a1⟩ ⟨⟨b0_0, b0_1, b0_2, b0_3⟩, b1⟩ h
  simpa [ZhE, and_assoc] using h
def ZkC (x : Tapi_Tx × Bool) (y : (List Int)) : PV × List (List Cell) := (.one (.own 1 (Zk .u8 y)), [])
noncomputable def G105 := ZI ZhE fun x => (XR x.1 x.2).map (ZkC x)
theorem ZqQ {a0 : Tapi_Tx} {a1 : Bool} {y : (List Int)} (h : XR a0 a1 = some y) : G105 (ZhE (a0, a1)) = some (ZkC (a0, a1) y) := Zo E105i h
def E92 (x : Tapi_Tx) : List PV := [.agg ([.v (.int .u32 x.1), .slice .no (List.map Zm x.2.1), .slice .no (List.map Zl x.2.2.1), .v (.int .u32 x.2.2.2)])]
theorem E92i : ∀ a b, E92 a = E92 b → a = b := by
  rintro ⟨a0_0, a0_1, a0_2, a0_3⟩ ⟨b0_0, b0_1, b0_2, b0_3⟩ h
  simpa [E92, and_assoc] using h
def R92 (x : Tapi_Tx) (y : Bool) : PV × List (List Cell) := (.one (.v (.bool y)), [])
noncomputable def G92 := ZI E92 fun x => (ZaM x).map (R92 x)
theorem ZrM {a0 : Tapi_Tx} {y : Bool} (h : ZaM a0 = some y) : G92 (E92 a0) = some (R92 a0 y) := Zo E92i h
def E57 (x : Tapi_Tx) : List PV := [.agg ([.v (.int .u32 x.1), .slice .no (List.map Zm x.2.1), .slice .no (List.map Zl x.2.2.1), .v (.int .u32 x.2.2.2)])]
theorem E57i : ∀ a b, E57 a = E57 b → a = b := by
  rintro ⟨a0_0, a0_1, a0_2, a0_3⟩ ⟨b0_0, b0_1, b0_2, b0_3⟩ h
  simpa [E57, and_assoc] using h
def R57 (x : Tapi_Tx) (y : Int) : PV × List (List Cell) := (.one (.v (.int .i64 y)), [])
noncomputable def G57 := ZI E57 fun x => (XJ x).map (R57 x)
theorem ZoQ {a0 : Tapi_Tx} {y : Int} (h : XJ a0 = some y) : G57 (E57 a0) = some (R57 a0 y) := Zo E57i h
def E59 (x : Int × Int × Int) : List PV := [.one (.v (.int .i64 x.1)), .one (.v (.int .i64 x.2.1)), .one (.v (.int .i64 x.2.2))]
theorem E59i : ∀ a b, E59 a = E59 b → a = b := by
  rintro ⟨a0, a1, a2⟩ ⟨b0, b1, b2⟩ h
  simpa [E59, and_assoc] using h
def R59 (x : Int × Int × Int) (y : Bool) : PV × List (List Cell) := (.one (.v (.bool y)), [])
noncomputable def G59 := ZI E59 fun x => (ZcR x.1 x.2.1 x.2.2).map (R59 x)
theorem ZrN {a0 : Int} {a1 : Int} {a2 : Int} {y : Bool} (h : ZcR a0 a1 a2 = some y) : G59 (E59 (a0, a1, a2)) = some (R59 (a0, a1, a2) y) := Zo E59i h
def E60 (x : Tapi_Tx × (List Tapi_Coin)) : List PV := [.agg ([.v (.int .u32 x.1.1), .slice .no (List.map Zm x.1.2.1), .slice .no (List.map Zl x.1.2.2.1), .v (.int .u32 x.1.2.2.2)]), .one (.slice .no (List.map ZD x.2))]
theorem E60i : ∀ a b, E60 a = E60 b → a = b := by
  rintro ⟨⟨a0_0, a0_1, a0_2, a0_3⟩, a1⟩ ⟨⟨b0_0, b0_1, b0_2, b0_3⟩, b1⟩ h
  simpa [E60, and_assoc] using h
def R60 (x : Tapi_Tx × (List Tapi_Coin)) (y : Int × Int) : PV × List (List Cell) := (.tup [.one (.v (.int .i64 y.1)), .one (.v (.int .i64 y.2))], [])
noncomputable def G60 := ZI E60 fun x => (Zbt x.1 x.2).map (R60 x)
theorem ZrO {a0 : Tapi_Tx} {a1 : (List Tapi_Coin)} {y : Int × Int} (h : Zbt a0 a1 = some y) : G60 (E60 (a0, a1)) = some (R60 (a0, a1) y) := Zo E60i h
def E30 (x : Tapi_Plan) : List PV := [.agg ([.v (.int .u32 x.1.1), .slice .no (List.map Zm x.1.2.1), .slice .no (List.map Zl x.1.2.2.1), .v (.int .u32 x.1.2.2.2), .slice .no (List.map ZD x.2.1), .v (.int .i64 x.2.2.1), .v (.int .i64 x.2.2.2)])]
theorem E30i : ∀ a b, E30 a = E30 b → a = b := by
  rintro ⟨⟨a0_0_0, a0_0_1, a0_0_2, a0_0_3⟩, a0_1, a0_2, a0_3⟩ ⟨⟨b0_0_0, b0_0_1, b0_0_2, b0_0_3⟩, b0_1, b0_2, b0_3⟩ h
  simpa [E30, and_assoc] using h
def R30 (x : Tapi_Plan) (y : Bool) : PV × List (List Cell) := (.one (.v (.bool y)), [])
noncomputable def G30 := ZI E30 fun x => (Xm x).map (R30 x)
theorem ZoR {a0 : Tapi_Plan} {y : Bool} (h : Xm a0 = some y) : G30 (E30 a0) = some (R30 a0 y) := Zo E30i h
def E10 (x : Tapi_Plan) : List PV := [.agg ([.v (.int .u32 x.1.1), .slice .no (List.map Zm x.1.2.1), .slice .no (List.map Zl x.1.2.2.1), .v (.int .u32 x.1.2.2.2), .slice .no (List.map ZD x.2.1), .v (.int .i64 x.2.2.1), .v (.int .i64 x.2.2.2)])]
theorem E10i : ∀ a b, E10 a = E10 b → a = b := by
  rintro ⟨⟨a0_0_0, a0_0_1, a0_0_2, a0_0_3⟩, a0_1, a0_2, a0_3⟩ ⟨⟨b0_0_0, b0_0_1, b0_0_2, b0_0_3⟩, b0_1, b0_2, b0_3⟩ h
  simpa [E10, and_assoc] using h
def R10 (x : Tapi_Plan) (y : Tapi_PartialTx × Int) : PV × List (List Cell) := (.tup [.agg ([.v (.int .u32 y.1.1.1.1), .slice .no (List.map Zm y.1.1.1.2.1), .slice .no (List.map Zl y.1.1.1.2.2.1), .v (.int .u32 y.1.1.1.2.2.2), .slice .no (List.map ZD y.1.1.2.1), .v (.int .i64 y.1.1.2.2.1), .v (.int .i64 y.1.1.2.2.2), .slice .no (List.map ZW y.1.2)]), .one (.v (.int .i64 y.2))], [])
noncomputable def G10 := ZI E10 fun x => (ZbA x).map (R10 x)
theorem ZrP {a0 : Tapi_Plan} {y : Tapi_PartialTx × Int} (h : ZbA a0 = some y) : G10 (E10 a0) = some (R10 a0 y) := Zo E10i h
def E66 (x : (Arr 4) × (Arr 4)) : List PV := [.agg (arC .u64 x.1), .agg (arC .u64 x.2)]
theorem E66i : ∀ a b, E66 a = E66 b → a = b := by
  rintro ⟨a0, a1⟩ ⟨b0, b1⟩ h
  simpa [E66, and_assoc] using h
def R66 (x : (Arr 4) × (Arr 4)) (y : Int) : PV × List (List Cell) := (.one (.v (.int .i64 y)), [])
noncomputable def G66 := ZI E66 fun x => (Zbz x.1 x.2).map (R66 x)
theorem ZoS {a0 : (Arr 4)} {a1 : (Arr 4)} {y : Int} (h : Zbz a0 a1 = some y) : G66 (E66 (a0, a1)) = some (R66 (a0, a1) y) := Zo E66i h
def E94 (x : Unit) : List PV := []
theorem E94i : ∀ a b, E94 a = E94 b → a = b := fun _ _ _ => rfl
def R94 (x : Unit) (y : (Arr 4)) : PV × List (List Cell) := (.agg (arC .u64 y), [])
noncomputable def G94 := ZI E94 fun x => (Lgroup_Order).map (R94 x)
theorem ZrQ {y : (Arr 4)} (h : Lgroup_Order  = some y) : G94 (E94 ()) = some (R94 () y) := Zo E94i h
def E61 (x : (Arr 4)) : List PV := [.agg (arC .u64 x)]
theorem E61i : ∀ a b, E61 a = E61 b → a = b := by
  rintro a0 b0 h
  simpa [E61, and_assoc] using h
def R61 (x : (Arr 4)) (y : Bool) : PV × List (List Cell) := (.one (.v (.bool y)), [])
noncomputable def G61 := ZI E61 fun x => (XM x).map (R61 x)
theorem ZoT {a0 : (Arr 4)} {y : Bool} (h : XM a0 = some y) : G61 (E61 a0) = some (R61 a0 y) := Zo E61i h
def E31 (x : (List Int)) : List PV := [.one (.slice .no (Zk .u8 x))]
theorem E31i : ∀ a b, E31 a = E31 b → a = b := by
  rintro a0 b0 h
  simpa [E31, and_assoc] using h
def R31 (x : (List Int)) (y : Tapi_Signature × Int) : PV × List (List Cell) := (.tup [.agg ((arC .u64 y.1.1) ++ (arC .u64 y.1.2)), .one (.v (.int .i64 y.2))], [])
noncomputable def G31 := ZI E31 fun x => (Zai x).map (R31 x)
theorem ZrR {a0 : (List Int)} {y : Tapi_Signature × Int} (h : Zai a0 = some y) : G31 (E31 a0) = some (R31 a0 y) := Zo E31i h
def E62 (x : (List (Arr 32))) : List PV := [.one (.slice .no (List.map (arC .u8) x))]
theorem E62i : ∀ a b, E62 a = E62 b → a = b := by
  rintro a0 b0 h
  simpa [E62, and_assoc] using h
def R62 (x : (List (Arr 32))) (y : (List Int)) : PV × List (List Cell) := (.one (.own 1 (Zk .u8 y)), [])
noncomputable def G62 := ZI E62 fun x => (Zb0 x).map (R62 x)
theorem ZrS {a0 : (List (Arr 32))} {y : (List Int)} (h : Zb0 a0 = some y) : G62 (E62 a0) = some (R62 a0 y) := Zo E62i h
def E63 (x : (Arr 4)) : List PV := [.agg (arC .u64 x)]
theorem E63i : ∀ a b, E63 a = E63 b → a = b := by
  rintro a0 b0 h
  simpa [E63, and_assoc] using h
def R63 (x : (Arr 4)) (y : (Arr 32)) : PV × List (List Cell) := (.agg (arC .u8 y), [])
noncomputable def G63 := ZI E63 fun x => (X8 x).map (R63 x)
theorem ZoU {a0 : (Arr 4)} {y : (Arr 32)} (h : X8 a0 = some y) : G63 (E63 a0) = some (R63 a0 y) := Zo E63i h
def E32 (x : Tapi_Signature) : List PV := [.agg ((arC .u64 x.1) ++ (arC .u64 x.2))]
theorem E32i : ∀ a b, E32 a = E32 b → a = b := by
  rintro ⟨a0_0, a0_1⟩ ⟨b0_0, b0_1⟩ h
  simpa [E32, and_assoc] using h
def R32 (x : Tapi_Signature) (y : (List Int)) : PV × List (List Cell) := (.one (.own 1 (Zk .u8 y)), [])
noncomputable def G32 := ZI E32 fun x => (Zaj x).map (R32 x)
theorem ZrT {a0 : Tapi_Signature} {y : (List Int)} (h : Zaj a0 = some y) : G32 (E32 a0) = some (R32 a0 y) := Zo E32i h
def E64 (x : (List Int)) : List PV := [.one (.slice .no (Zk .i64 x))]
theorem E64i : ∀ a b, E64 a = E64 b → a = b := by
  rintro a0 b0 h
  simpa [E64, and_assoc] using h
def R64 (x : (List Int)) (y : Int) : PV × List (List Cell) := (.one (.v (.int .i64 y)), [])
noncomputable def G64 := ZI E64 fun x => (Xz x).map (R64 x)
theorem ZrU {a0 : (List Int)} {y : Int} (h : Xz a0 = some y) : G64 (E64 a0) = some (R64 a0 y) := Zo E64i h
def E95 (x : Int) : List PV := [.one (.v (.int .i64 x))]
theorem E95i : ∀ a b, E95 a = E95 b → a = b := by
  rintro a0 b0 h
  simpa [E95, and_assoc] using h
def R95 (x : Int) (y : Bool) : PV × List (List Cell) := (.one (.v (.bool y)), [])
noncomputable def G95 := ZI E95 fun x => (YS x).map (R95 x)
theorem ZoV {a0 : Int} {y : Bool} (h : YS a0 = some y) : G95 (E95 a0) = some (R95 a0 y) := Zo E95i h
def E65 (x : Int × Int) : List PV := [.one (.v (.int .i64 x.1)), .one (.v (.int .i64 x.2))]
theorem E65i : ∀ a b, E65 a = E65 b → a = b := by
  rintro ⟨a0, a1⟩ ⟨b0, b1⟩ h
  simpa [E65, and_assoc] using h
def R65 (x : Int × Int) (y : Int) : PV × List (List Cell) := (.one (.v (.int .i64 y)), [])
noncomputable def G65 := ZI E65 fun x => (YH x.1 x.2).map (R65 x)
theorem ZrV {a0 : Int} {a1 : Int} {y : Int} (h : YH a0 a1 = some y) : G65 (E65 (a0, a1)) = some (R65 (a0, a1) y) := Zo E65i h
def E33 (x : Tapi_Signed × Tapi_Signed) : List PV := [.agg ((.v (.int .i64 x.1.1)) :: ((arC .u64 x.1.2.1) ++ ((arC .u64 x.1.2.2.1) ++ (arC .u64 x.1.2.2.2)))), .agg ((.v (.int .i64 x.2.1)) :: ((arC .u64 x.2.2.1) ++ ((arC .u64 x.2.2.2.1) ++ (arC .u64 x.2.2.2.2))))]
theorem E33i : ∀ a b, E33 a = E33 b → a = b := by
  rintro ⟨⟨a0_0, a0_1, ⟨a0_2_0, a0_2_1⟩⟩, ⟨a1_0, a1_1, ⟨a1_2_0, a1_2_1⟩⟩⟩ ⟨⟨b0_0, b0_1, ⟨b0_2_0, b0_2_1⟩⟩, ⟨b1_0, b1_1, ⟨b1_2_0, b1_2_1⟩⟩⟩ h
  simpa [E33, and_assoc] using h
def R33 (x : Tapi_Signed × Tapi_Signed) (y : Int) : PV × List (List Cell) := (.one (.v (.int .i64 y)), [])
noncomputable def G33 := ZI E33 fun x => (Y9 x.1 x.2).map (R33 x)
theorem ZrW {a0 : Tapi_Signed} {a1 : Tapi_Signed} {y : Int} (h : Y9 a0 a1 = some y) : G33 (E33 (a0, a1)) = some (R33 (a0, a1) y) := Zo E33i h
def E11 (x : Tapi_PartialTx) : List PV := [.agg ([.v (.int .u32 x.1.1.1), .slice .no (List.map Zm x.1.1.2.1), .slice .no (List.map Zl x.1.1.2.2.1), .v (.int .u32 x.1.1.2.2.2), .slice .no (List.map ZD x.1.2.1), .v (.int .i64 x.1.2.2.1), .v (.int .i64 x.1.2.2.2), .slice .no (List.map ZW x.2)])]
theorem E11i : ∀ a b, E11 a = E11 b → a = b := by
  rintro ⟨⟨⟨a0_0_0_0, a0_0_0_1, a0_0_0_2, a0_0_0_3⟩, a0_0_1, a0_0_2, a0_0_3⟩, a0_1⟩ ⟨⟨⟨b0_0_0_0, b0_0_0_1, b0_0_0_2, b0_0_0_3⟩, b0_0_1, b0_0_2, b0_0_3⟩, b0_1⟩ h
  simpa [E11, and_assoc] using h
def R11 (x : Tapi_PartialTx) (y : Bool) : PV × List (List Cell) := (.one (.v (.bool y)), [])
noncomputable def G11 := ZI E11 fun x => (Xf x).map (R11 x)
theorem ZoW {a0 : Tapi_PartialTx} {y : Bool} (h : Xf a0 = some y) : G11 (E11 a0) = some (R11 a0 y) := Zo E11i h
def E34 (x : (Arr 4) × (Arr 4)) : List PV := [.agg (arC .u64 x.1), .agg (arC .u64 x.2)]
theorem E34i : ∀ a b, E34 a = E34 b → a = b := by
  rintro ⟨a0, a1⟩ ⟨b0, b1⟩ h
  simpa [E34, and_assoc] using h
def R34 (x : (Arr 4) × (Arr 4)) (y : Int) : PV × List (List Cell) := (.one (.v (.int .i64 y)), [])
noncomputable def G34 := ZI E34 fun x => (ZaL x.1 x.2).map (R34 x)
theorem Zmj {a0 : (Arr 4)} {a1 : (Arr 4)} {y : Int} (h : ZaL a0 a1 = some y) : G34 (E34 (a0, a1)) = some (R34 (a0, a1) y) := Zo E34i h
def E96 (x : (Arr 4) × Int) : List PV := [.agg (arC .u64 x.1), .one (.v (.int .i64 x.2))]
theorem E96i : ∀ a b, E96 a = E96 b → a = b := by
  rintro ⟨a0, a1⟩ ⟨b0, b1⟩ h
  simpa [E96, and_assoc] using h
def R96 (x : (Arr 4) × Int) (y : Bool) : PV × List (List Cell) := (.one (.v (.bool y)), [])
noncomputable def G96 := ZI E96 fun x => (ZbB x.1 x.2).map (R96 x)
theorem ZrX {a0 : (Arr 4)} {a1 : Int} {y : Bool} (h : ZbB a0 a1 = some y) : G96 (E96 (a0, a1)) = some (R96 (a0, a1) y) := Zo E96i h
def E67 (x : (Arr 4) × Int) : List PV := [.agg (arC .u64 x.1), .one (.v (.int .i64 x.2))]
theorem E67i : ∀ a b, E67 a = E67 b → a = b := by
  rintro ⟨a0, a1⟩ ⟨b0, b1⟩ h
  simpa [E67, and_assoc] using h
def R67 (x : (Arr 4) × Int) (y : (Arr 4)) : PV × List (List Cell) := (.agg (arC .u64 y), [])
noncomputable def G67 := ZI E67 fun x => (ZbC x.1 x.2).map (R67 x)
theorem ZrY {a0 : (Arr 4)} {a1 : Int} {y : (Arr 4)} (h : ZbC a0 a1 = some y) : G67 (E67 (a0, a1)) = some (R67 (a0, a1) y) := Zo E67i h
def ZkD (x : Int × Int × Int) : List PV := [.one (.v (.int .u64 x.1)), .one (.v (.int .u64 x.2.1)), .one (.v (.int .u64 x.2.2))]
theorem E106i : ∀ a b, ZkD a = ZkD b → a = b := by
  rintro ⟨a0, a1, a2⟩ ⟨b0, b1, b2⟩ h
  simpa [ZkD, and_assoc] using h
def ZnL (x : Int × Int × Int) (y : Int × Int) : PV × List (List Cell) := (.tup [.one (.v (.int .u64 y.1)), .one (.v (.int .u64 y.2))], [])
noncomputable def G106 := ZI ZkD fun x => (X2 x.1 x.2.1 x.2.2).map (ZnL x)
theorem ZqR {a0 : Int} {a1 : Int} {a2 : Int} {y : Int × Int} (h : X2 a0 a1 a2 = some y) : G106 (ZkD (a0, a1, a2)) = some (ZnL (a0, a1, a2) y) := Zo E106i h
def E97 (x : (Arr 4) × (Arr 4)) : List PV := [.agg (arC .u64 x.1), .agg (arC .u64 x.2)]
theorem E97i : ∀ a b, E97 a = E97 b → a = b := by
  rintro ⟨a0, a1⟩ ⟨b0, b1⟩ h
  simpa [E97, and_assoc] using h
def R97 (x : (Arr 4) × (Arr 4)) (y : (Arr 4) × Bool) : PV × List (List Cell) := (.tup [.agg (arC .u64 y.1), .one (.v (.bool y.2))], [])
noncomputable def G97 := ZI E97 fun x => (ZbD x.1 x.2).map (R97 x)
theorem ZrZ {a0 : (Arr 4)} {a1 : (Arr 4)} {y : (Arr 4) × Bool} (h : ZbD a0 a1 = some y) : G97 (E97 (a0, a1)) = some (R97 (a0, a1) y) := Zo E97i h
def E68 (x : Unit) : List PV := []
theorem E68i : ∀ a b, E68 a = E68 b → a = b := fun _ _ _ => rfl
def R68 (x : Unit) (y : (Arr 4)) : PV × List (List Cell) := (.agg (arC .u64 y), [])
noncomputable def G68 := ZI E68 fun x => (Lref05_Modulus).map (R68 x)
theorem Zr0 {y : (Arr 4)} (h : Lref05_Modulus  = some y) : G68 (E68 ()) = some (R68 () y) := Zo E68i h
def E35 (x : Unit) : List PV := []
theorem E35i : ∀ a b, E35 a = E35 b → a = b := fun _ _ _ => rfl
def R35 (x : Unit) (y : (Arr 4)) : PV × List (List Cell) := (.agg (arC .u64 y), [])
noncomputable def G35 := ZI E35 fun x => (Lref05_Order).map (R35 x)
theorem ZoX {y : (Arr 4)} (h : Lref05_Order  = some y) : G35 (E35 ()) = some (R35 () y) := Zo E35i h
def E36 (x : Tapi_Signed × Tapi_Signed) : List PV := [.agg ((.v (.int .i64 x.1.1)) :: ((arC .u64 x.1.2.1) ++ ((arC .u64 x.1.2.2.1) ++ (arC .u64 x.1.2.2.2)))), .agg ((.v (.int .i64 x.2.1)) :: ((arC .u64 x.2.2.1) ++ ((arC .u64 x.2.2.2.1) ++ (arC .u64 x.2.2.2.2))))]
theorem E36i : ∀ a b, E36 a = E36 b → a = b := by
  rintro ⟨⟨a0_0, a0_1, ⟨a0_2_0, a0_2_1⟩⟩, ⟨a1_0, a1_1, ⟨a1_2_0, a1_2_1⟩⟩⟩ ⟨⟨b0_0, b0_1, ⟨b0_2_0, b0_2_1⟩⟩, ⟨b1_0, b1_1, ⟨b1_2_0, b1_2_1⟩⟩⟩ h
  simpa [E36, and_assoc] using h
def R36 (x : Tapi_Signed × Tapi_Signed) (y : Bool) : PV × List (List Cell) := (.one (.v (.bool y)), [])
noncomputable def G36 := ZI E36 fun x => (XW x.1 x.2).map (R36 x)
theorem Zr1 {a0 : Tapi_Signed} {a1 : Tapi_Signed} {y : Bool} (h : XW a0 a1 = some y) : G36 (E36 (a0, a1)) = some (R36 (a0, a1) y) := Zo E36i h
def E12 (x : Tapi_PartialTx) : List PV := [.agg ([.v (.int .u32 x.1.1.1), .slice .no (List.map Zm x.1.1.2.1), .slice .no (List.map Zl x.1.1.2.2.1), .v (.int .u32 x.1.1.2.2.2), .slice .no (List.map ZD x.1.2.1), .v (.int .i64 x.1.2.2.1), .v (.int .i64 x.1.2.2.2), .slice .no (List.map ZW x.2)])]
theorem E12i : ∀ a b, E12 a = E12 b → a = b := by
  rintro ⟨⟨⟨a0_0_0_0, a0_0_0_1, a0_0_0_2, a0_0_0_3⟩, a0_0_1, a0_0_2, a0_0_3⟩, a0_1⟩ ⟨⟨⟨b0_0_0_0, b0_0_0_1, b0_0_0_2, b0_0_0_3⟩, b0_0_1, b0_0_2, b0_0_3⟩, b0_1⟩ h
  simpa [E12, and_assoc] using h
def R12 (x : Tapi_PartialTx) (y : Bool) : PV × List (List Cell) := (.one (.v (.bool y)), [])
noncomputable def G12 := ZI E12 fun x => (XO x).map (R12 x)
theorem ZoY {a0 : Tapi_PartialTx} {y : Bool} (h : XO a0 = some y) : G12 (E12 a0) = some (R12 a0 y) := Zo E12i h
def E98 (x : (List Int) × (List Int)) : List PV := [.one (.slice .no (Zk .u8 x.1)), .one (.slice .no (Zk .u8 x.2))]
theorem E98i : ∀ a b, E98 a = E98 b → a = b := by
  rintro ⟨a0, a1⟩ ⟨b0, b1⟩ h
  simpa [E98, and_assoc] using h
def R98 (x : (List Int) × (List Int)) (y : Bool) : PV × List (List Cell) := (.one (.v (.bool y)), [])
noncomputable def G98 := ZI E98 fun x => (ZaN x.1 x.2).map (R98 x)
theorem ZoZ {a0 : (List Int)} {a1 : (List Int)} {y : Bool} (h : ZaN a0 a1 = some y) : G98 (E98 (a0, a1)) = some (R98 (a0, a1) y) := Zo E98i h
def E99 (x : Tapi_Output × Tapi_Output) : List PV := [.agg ([.v (.int .i64 x.1.1), .slice .no (Zk .u8 x.1.2)]), .agg ([.v (.int .i64 x.2.1), .slice .no (Zk .u8 x.2.2)])]
theorem E99i : ∀ a b, E99 a = E99 b → a = b := by
  rintro ⟨⟨a0_0, a0_1⟩, ⟨a1_0, a1_1⟩⟩ ⟨⟨b0_0, b0_1⟩, ⟨b1_0, b1_1⟩⟩ h
  simpa [E99, and_assoc] using h
def R99 (x : Tapi_Output × Tapi_Output) (y : Bool) : PV × List (List Cell) := (.one (.v (.bool y)), [])
noncomputable def G99 := ZI E99 fun x => (Xg x.1 x.2).map (R99 x)
theorem Zo0 {a0 : Tapi_Output} {a1 : Tapi_Output} {y : Bool} (h : Xg a0 a1 = some y) : G99 (E99 (a0, a1)) = some (R99 (a0, a1) y) := Zo E99i h
def E69 (x : Tapi_Tx × Tapi_Tx) : List PV := [.agg ([.v (.int .u32 x.1.1), .slice .no (List.map Zm x.1.2.1), .slice .no (List.map Zl x.1.2.2.1), .v (.int .u32 x.1.2.2.2)]), .agg ([.v (.int .u32 x.2.1), .slice .no (List.map Zm x.2.2.1), .slice .no (List.map Zl x.2.2.2.1), .v (.int .u32 x.2.2.2.2)])]
theorem E69i : ∀ a b, E69 a = E69 b → a = b := by
  rintro ⟨⟨a0_0, a0_1, a0_2, a0_3⟩, ⟨a1_0, a1_1, a1_2, a1_3⟩⟩ ⟨⟨b0_0, b0_1, b0_2, b0_3⟩, ⟨b1_0, b1_1, b1_2, b1_3⟩⟩ h
  simpa [E69, and_assoc] using h
def R69 (x : Tapi_Tx × Tapi_Tx) (y : Bool) : PV × List (List Cell) := (.one (.v (.bool y)), [])
noncomputable def G69 := ZI E69 fun x => (XV x.1 x.2).map (R69 x)
theorem Zr2 {a0 : Tapi_Tx} {a1 : Tapi_Tx} {y : Bool} (h : XV a0 a1 = some y) : G69 (E69 (a0, a1)) = some (R69 (a0, a1) y) := Zo E69i h
def E70 (x : Tapi_Coin × Tapi_Coin) : List PV := [.agg ((arC .u8 x.1.1.1) ++ ((.v (.int .u32 x.1.1.2)) :: ((.v (.int .i64 x.1.2.1.1)) :: ((.slice .no (Zk .u8 x.1.2.1.2)) :: ((.v (.int .i64 x.1.2.2.1)) :: ((.v (.bool x.1.2.2.2)) :: [])))))), .agg ((arC .u8 x.2.1.1) ++ ((.v (.int .u32 x.2.1.2)) :: ((.v (.int .i64 x.2.2.1.1)) :: ((.slice .no (Zk .u8 x.2.2.1.2)) :: ((.v (.int .i64 x.2.2.2.1)) :: ((.v (.bool x.2.2.2.2)) :: []))))))]
theorem E70i : ∀ a b, E70 a = E70 b → a = b := by
  rintro ⟨⟨⟨a0_0_0, a0_0_1⟩, ⟨a0_1_0, a0_1_1⟩, a0_2, a0_3⟩, ⟨⟨a1_0_0, a1_0_1⟩, ⟨a1_1_0, a1_1_1⟩, a1_2, a1_3⟩⟩ ⟨⟨⟨b0_0_0, b0_0_1⟩, ⟨b0_1_0, b0_1_1⟩, b0_2, b0_3⟩, ⟨⟨b1_0_0, b1_0_1⟩, ⟨b1_1_0, b1_1_1⟩, b1_2, b1_3⟩⟩ h
  simpa [E70, and_assoc] using h
def R70 (x : Tapi_Coin × Tapi_Coin) (y : Bool) : PV × List (List Cell) := (.one (.v (.bool y)), [])
noncomputable def G70 := ZI E70 fun x => (XN x.1 x.2).map (R70 x)
theorem Zr3 {a0 : Tapi_Coin} {a1 : Tapi_Coin} {y : Bool} (h : XN a0 a1 = some y) : G70 (E70 (a0, a1)) = some (R70 (a0, a1) y) := Zo E70i h
def E37 (x : Tapi_Plan × Tapi_Plan) : List PV := [.agg ([.v (.int .u32 x.1.1.1), .slice .no (List.map Zm x.1.1.2.1), .slice .no (List.map Zl x.1.1.2.2.1), .v (.int .u32 x.1.1.2.2.2), .slice .no (List.map ZD x.1.2.1), .v (.int .i64 x.1.2.2.1), .v (.int .i64 x.1.2.2.2)]), .agg ([.v (.int .u32 x.2.1.1), .slice .no (List.map Zm x.2.1.2.1), .slice .no (List.map Zl x.2.1.2.2.1), .v (.int .u32 x.2.1.2.2.2), .slice .no (List.map ZD x.2.2.1), .v (.int .i64 x.2.2.2.1), .v (.int .i64 x.2.2.2.2)])]
theorem E37i : ∀ a b, E37 a = E37 b → a = b := by
  rintro ⟨⟨⟨a0_0_0, a0_0_1, a0_0_2, a0_0_3⟩, a0_1, a0_2, a0_3⟩, ⟨⟨a1_0_0, a1_0_1, a1_0_2, a1_0_3⟩, a1_1, a1_2, a1_3⟩⟩ ⟨⟨⟨b0_0_0, b0_0_1, b0_0_2, b0_0_3⟩, b0_1, b0_2, b0_3⟩, ⟨⟨b1_0_0, b1_0_1, b1_0_2, b1_0_3⟩, b1_1, b1_2, b1_3⟩⟩ h
  simpa [E37, and_assoc] using h
def R37 (x : Tapi_Plan × Tapi_Plan) (y : Bool) : PV × List (List Cell) := (.one (.v (.bool y)), [])
noncomputable def G37 := ZI E37 fun x => (ZaR x.1 x.2).map (R37 x)
theorem Zr4 {a0 : Tapi_Plan} {a1 : Tapi_Plan} {y : Bool} (h : ZaR a0 a1 = some y) : G37 (E37 (a0, a1)) = some (R37 (a0, a1) y) := Zo E37i h
def E13 (x : Tapi_PartialTx × Tapi_PartialTx) : List PV := [.agg ([.v (.int .u32 x.1.1.1.1), .slice .no (List.map Zm x.1.1.1.2.1), .slice .no (List.map Zl x.1.1.1.2.2.1), .v (.int .u32 x.1.1.1.2.2.2), .slice .no (List.map ZD x.1.1.2.1), .v (.int .i64 x.1.1.2.2.1), .v (.int .i64 x.1.1.2.2.2), .slice .no (List.map ZW x.1.2)]), .agg ([.v (.int .u32 x.2.1.1.1), .slice .no (List.map Zm x.2.1.1.2.1), .slice .no (List.map Zl x.2.1.1.2.2.1), .v (.int .u32 x.2.1.1.2.2.2), .slice .no (List.map ZD x.2.1.2.1), .v (.int .i64 x.2.1.2.2.1), .v (.int .i64 x.2.1.2.2.2), .slice .no (List.map ZW x.2.2)])]
theorem E13i : ∀ a b, E13 a = E13 b → a = b := by
  rintro ⟨⟨⟨⟨a0_0_0_0, a0_0_0_1, a0_0_0_2, a0_0_0_3⟩, a0_0_1, a0_0_2, a0_0_3⟩, a0_1⟩, ⟨⟨⟨a1_0_0_0, a1_0_0_1, a1_0_0_2, a1_0_0_3⟩, a1_0_1, a1_0_2, a1_0_3⟩, a1_1⟩⟩ ⟨⟨⟨⟨b0_0_0_0, b0_0_0_1, b0_0_0_2, b0_0_0_3⟩, b0_0_1, b0_0_2, b0_0_3⟩, b0_1⟩, ⟨⟨⟨b1_0_0_0, b1_0_0_1, b1_0_0_2, b1_0_0_3⟩, b1_0_1, b1_0_2, b1_0_3⟩, b1_1⟩⟩ h
  simpa [E13, and_assoc] using h
def R13 (x : Tapi_PartialTx × Tapi_PartialTx) (y : Bool) : PV × List (List Cell) := (.one (.v (.bool y)), [])
noncomputable def G13 := ZI E13 fun x => (X9 x.1 x.2).map (R13 x)
theorem Zr5 {a0 : Tapi_PartialTx} {a1 : Tapi_PartialTx} {y : Bool} (h : X9 a0 a1 = some y) : G13 (E13 (a0, a1)) = some (R13 (a0, a1) y) := Zo E13i h
def E3 (x : (List Int) × Int × Int) : List PV := [.one (.slice .no (Zk .i64 x.1)), .one (.v (.int .i64 x.2.1)), .one (.v (.int .i64 x.2.2))]
theorem E3i : ∀ a b, E3 a = E3 b → a = b := by
  rintro ⟨a0, a1, a2⟩ ⟨b0, b1, b2⟩ h
  simpa [E3, and_assoc] using h
def R3 (x : (List Int) × Int × Int) (y : Bool) : PV × List (List Cell) := (.one (.v (.bool y)), [])
noncomputable def G3 := ZI E3 fun x => (YT x.1 x.2.1 x.2.2).map (R3 x)
theorem ZsQ {a0 : (List Int)} {a1 : Int} {a2 : Int} {y : Bool} (h : YT a0 a1 a2 = some y) : G3 (E3 (a0, a1, a2)) = some (R3 (a0, a1, a2) y) := Zo E3i h
end Go.Proofs.YtbjhgolpnjokbaaGreat
