import Derived.Test.YtconfbgcjkjnkaaDoorLcG3
import Derived.Test.YtconfbgcjkjnkaaDoorLcG1
import Derived.Test.YtconfbgcjkjnkaaDoorLcG1
import Derived.Test.YtconfbgcjkjnkaaDoorLcG3
import Derived.Test.YtconfbgcjkjnkaaDoorTt
namespace Go.Proofs.YtconfbgcjkjnkaaDoor
open Go.RowKit
open Go.Av
open Go.Lc
set_option maxRecDepth 100000
set_option linter.unusedSimpArgs false
set_option linter.unusedVariables false
attribute [simp] tt1 tt2 tt3 tt4 tt5 tt6 tt7 tt8 tt9 tt10 tt11 tt12 tt13 tt14 tt15 tt16 tt17 tt18 tt19 tt21 tt22 tt23 tt24 tt25 tt26 tt27 tt28 tt29 tt30 tt31 tt32 tt33 tt34 tt35 tt36 tt37 tt38 tt39 tt40 tt41 tt42 tt43 tt44 tt45 tt46 tt47 tt48 tt49 tt50 tt51 tt52 tt53 tt55 tt56 tt57 tt58 tt59 tt60 tt61 tt62 tt63 tt64 tt65 tt67 tt68 tt69 tt70 tt71 tt72 tt73 tt74 tt75 tt76 tt77 tt78 tt79 tt80 tt81 tt82 tt83 tt84 tt85 tt86 tt87 tt88 tt89 tt90 tt91 tt92 tt93 tt94 tt95 tt96 tt97 tt98 tt99 tt100 tt101 tt102 tt104 tt105 tt106 tt107 tt108 tt109 tt110 tt111 tt112 tt113 tt114 tt115 tt116 tt117 tt118 tt119 tt120 tt121 tt122 tt123 tt125 tt126 tt127 tt129 tt130 tt131 tt132 tt133 tt134 tt135 tt136 tt137 tt138 tt139 tt140 tt141 tt142 tt143 tt144 tt145 tt146 tt147 tt148 tt149 tt150 tt151 tt152 tt153 tt154 tt155 tt156 tt157 tt158 tt159 ti1 ti2 ti3 ti4 ti5 ti6 ti7 ti8 ti9 ti10 ti11 ti12 ti13 ti14 ti15 ti16 ti17 ti18 ti19 ti21 ti22 ti23 ti24 ti25 ti26 ti27 ti28 ti29 ti30 ti31 ti32 ti33 ti34 ti35 ti36 ti37 ti38 ti39 ti40 ti41 ti42 ti43 ti44 ti45 ti46 ti47 ti48 ti49 ti50 ti51 ti52 ti53 ti55 ti56 ti57 ti58 ti59 ti60 ti61 ti62 ti63 ti64 ti65 ti67 ti68 ti69 ti70 ti71 ti72 ti73 ti74 ti75 ti76 ti77 ti78 ti79 ti80 ti81 ti82 ti83 ti84 ti85 ti86 ti87 ti88 ti89 ti90 ti91 ti92 ti93 ti94 ti95 ti96 ti97 ti98 ti99 ti100 ti101 ti102 ti104 ti105 ti106 ti107 ti108 ti109 ti110 ti111 ti112 ti113 ti114 ti115 ti116 ti117 ti118 ti119 ti120 ti121 ti122 ti123 ti125 ti126 ti127 ti129 ti130 ti131 ti132 ti133 ti134 ti135 ti136 ti137 ti138 ti139 ti140 ti141 ti142 ti143 ti144 ti145 ti146 ti147 ti148 ti149 ti150 ti151 ti152 ti153 ti154 ti155 ti156 ti157 ti158 ti159
@[simp] theorem arCs_any2 {n : Nat} {k : IntKind} {l : List (Arr n)} : l.any ((fun l => l.any Cell.isSl) ∘ arC k) = false := by simp [arC, ints]
@[simp↓] theorem intsR_alld {k : IntKind} (m : List Int) (n : Nat) : (∀ l, l ∈ List.drop n (intsR k m) → l.length = 1) = True := eq_true fun l h => intsR_all l (List.mem_of_mem_drop h)
@[simp↓] theorem intsR_allt {k : IntKind} (m : List Int) (n : Nat) : (∀ l, l ∈ List.take n (intsR k m) → l.length = 1) = True := eq_true fun l h => intsR_all l (List.mem_of_mem_take h)
@[simp↓] theorem intsR_all1 {k : IntKind} (m : List Int) : (∀ l, l ∈ (intsR k m).tail → l.length = 1) = True := eq_true fun l h => intsR_all l (List.mem_of_mem_tail h)
@[simp↓] theorem intsR_all1t {k : IntKind} (m : List Int) (n : Nat) : (∀ l, l ∈ List.take n (intsR k m).tail → l.length = 1) = True := eq_true fun l h => intsR_all l (List.mem_of_mem_tail (List.mem_of_mem_take h))
@[simp↓] theorem intsR_all1d {k : IntKind} (m : List Int) (n : Nat) : (∀ l, l ∈ List.drop n (intsR k m).tail → l.length = 1) = True := eq_true fun l h => intsR_all l (List.mem_of_mem_tail (List.mem_of_mem_drop h))
@[simp] theorem arC_z8 : arC .u64 (zA 8) = arC .u64 (zA 4) ++ arC .u64 (zA 4) := rfl
@[simp] theorem arC_z12 : arC .u64 (zA 12) = arC .u64 (zA 4) ++ (arC .u64 (zA 4) ++ arC .u64 (zA 4)) := rfl
@[simp] theorem one_add_le1 {a : Nat} : (1 + a ≤ a + 1) = True := eq_true (by omega)
@[simp] theorem cutL_mid {L : List (List Cell)} {x : List Cell} {i m : Nat} (h : i ≤ m) (hL : L.length = m) : cutL (i + (1 + (m - i))) (List.take i L ++ x :: List.drop i L) = List.take i L ++ x :: List.drop i L := by
  unfold cutL
  rw [if_pos]
  simp
  omega
@[simp] theorem take_mid {L : List (List Cell)} {x : List Cell} {i m : Nat} (hL : L.length = m) : List.take (1 + (m - i)) (x :: List.drop i L) = x :: List.drop i L :=
  List.take_of_length_le (by simp; omega)
@[simp] def eS_I_u8 (x : (List Int)) : List Cell := [.slice .no (intsR .u8 x)]
theorem eS_I_u8_inj : ∀ a b, eS_I_u8 a = eS_I_u8 b → a = b := by
  rintro a b h
  simpa [and_assoc] using h
@[simp↓] theorem eS_I_u8_all (m : List (List Int)) : (∀ l, l ∈ List.map eS_I_u8 m → l.length = 1) = True := all_map_len (fun a => by simp) m
@[simp↓] theorem eS_I_u8_alld (m : List (List Int)) (k : Nat) : (∀ l, l ∈ List.drop k (List.map eS_I_u8 m) → l.length = 1) = True := eq_true fun l h => of_eq_true (eS_I_u8_all m) l (List.mem_of_mem_drop h)
@[simp↓] theorem eS_I_u8_allt (m : List (List Int)) (k : Nat) : (∀ l, l ∈ List.take k (List.map eS_I_u8 m) → l.length = 1) = True := eq_true fun l h => of_eq_true (eS_I_u8_all m) l (List.mem_of_mem_take h)
@[simp] theorem eS_I_u8_map {l m : List (List Int)} : List.map eS_I_u8 l = List.map eS_I_u8 m ↔ l = m := map_iff eS_I_u8_inj
@[simp] def eapi_Input (x : Tapi_Input) : List Cell := (arC .u8 x.1.1) ++ ((.v (.int .u32 x.1.2)) :: ((.v (.int .u32 x.2.1)) :: ((.slice .no (List.map eS_I_u8 x.2.2)) :: [])))
theorem eapi_Input_inj : ∀ a b, eapi_Input a = eapi_Input b → a = b := by
  rintro ⟨⟨a_0_0, a_0_1⟩, a_1, a_2⟩ ⟨⟨b_0_0, b_0_1⟩, b_1, b_2⟩ h
  simpa [and_assoc] using h
@[simp↓] theorem eapi_Input_all (m : List Tapi_Input) : (∀ l, l ∈ List.map eapi_Input m → l.length = 35) = True := all_map_len (fun a => by simp) m
@[simp↓] theorem eapi_Input_alld (m : List Tapi_Input) (k : Nat) : (∀ l, l ∈ List.drop k (List.map eapi_Input m) → l.length = 35) = True := eq_true fun l h => of_eq_true (eapi_Input_all m) l (List.mem_of_mem_drop h)
@[simp↓] theorem eapi_Input_allt (m : List Tapi_Input) (k : Nat) : (∀ l, l ∈ List.take k (List.map eapi_Input m) → l.length = 35) = True := eq_true fun l h => of_eq_true (eapi_Input_all m) l (List.mem_of_mem_take h)
@[simp] theorem eapi_Input_map {l m : List Tapi_Input} : List.map eapi_Input l = List.map eapi_Input m ↔ l = m := map_iff eapi_Input_inj
@[simp] def eapi_Output (x : Tapi_Output) : List Cell := [.v (.int .i64 x.1), .slice .no (intsR .u8 x.2)]
theorem eapi_Output_inj : ∀ a b, eapi_Output a = eapi_Output b → a = b := by
  rintro ⟨a_0, a_1⟩ ⟨b_0, b_1⟩ h
  simpa [and_assoc] using h
@[simp↓] theorem eapi_Output_all (m : List Tapi_Output) : (∀ l, l ∈ List.map eapi_Output m → l.length = 2) = True := all_map_len (fun a => by simp) m
@[simp↓] theorem eapi_Output_alld (m : List Tapi_Output) (k : Nat) : (∀ l, l ∈ List.drop k (List.map eapi_Output m) → l.length = 2) = True := eq_true fun l h => of_eq_true (eapi_Output_all m) l (List.mem_of_mem_drop h)
@[simp↓] theorem eapi_Output_allt (m : List Tapi_Output) (k : Nat) : (∀ l, l ∈ List.take k (List.map eapi_Output m) → l.length = 2) = True := eq_true fun l h => of_eq_true (eapi_Output_all m) l (List.mem_of_mem_take h)
@[simp] theorem eapi_Output_map {l m : List Tapi_Output} : List.map eapi_Output l = List.map eapi_Output m ↔ l = m := map_iff eapi_Output_inj
@[simp] def eapi_Entry (x : Tapi_Entry) : List Cell := [.v (.int .u32 x.1.1), .slice .no (List.map eapi_Input x.1.2.1), .slice .no (List.map eapi_Output x.1.2.2.1), .v (.int .u32 x.1.2.2.2), .v (.int .i64 x.2)]
theorem eapi_Entry_inj : ∀ a b, eapi_Entry a = eapi_Entry b → a = b := by
  rintro ⟨⟨a_0_0, a_0_1, a_0_2, a_0_3⟩, a_1⟩ ⟨⟨b_0_0, b_0_1, b_0_2, b_0_3⟩, b_1⟩ h
  simpa [and_assoc] using h
@[simp↓] theorem eapi_Entry_all (m : List Tapi_Entry) : (∀ l, l ∈ List.map eapi_Entry m → l.length = 5) = True := all_map_len (fun a => by simp) m
@[simp↓] theorem eapi_Entry_alld (m : List Tapi_Entry) (k : Nat) : (∀ l, l ∈ List.drop k (List.map eapi_Entry m) → l.length = 5) = True := eq_true fun l h => of_eq_true (eapi_Entry_all m) l (List.mem_of_mem_drop h)
@[simp↓] theorem eapi_Entry_allt (m : List Tapi_Entry) (k : Nat) : (∀ l, l ∈ List.take k (List.map eapi_Entry m) → l.length = 5) = True := eq_true fun l h => of_eq_true (eapi_Entry_all m) l (List.mem_of_mem_take h)
@[simp] theorem eapi_Entry_map {l m : List Tapi_Entry} : List.map eapi_Entry l = List.map eapi_Entry m ↔ l = m := map_iff eapi_Entry_inj
theorem nfs : (∀ x : (List Int), eS_I_u8 x = [.slice .no (intsR .u8 x)]) ∧ (∀ x : Tapi_Input, eapi_Input x = (arC .u8 x.1.1) ++ ((.v (.int .u32 x.1.2)) :: ((.v (.int .u32 x.2.1)) :: ((.slice .no (List.map eS_I_u8 x.2.2)) :: [])))) ∧ (∀ x : Tapi_Output, eapi_Output x = [.v (.int .i64 x.1), .slice .no (intsR .u8 x.2)]) ∧ (∀ x : Tapi_Entry, eapi_Entry x = [.v (.int .u32 x.1.1), .slice .no (List.map eapi_Input x.1.2.1), .slice .no (List.map eapi_Output x.1.2.2.1), .v (.int .u32 x.1.2.2.2), .v (.int .i64 x.2)]) := ⟨fun _ => rfl, fun _ => rfl, fun _ => rfl, fun _ => rfl⟩
@[simp] def eM_api_OutPoint_B (x : Tapi_OutPoint × Bool) : List Cell := ((arC .u8 x.1.1) ++ ((.v (.int .u32 x.1.2)) :: [])) ++ ([.v (.bool x.2)])
theorem eM_api_OutPoint_B_he : ∀ a b : Tapi_OutPoint, kEq ((arC .u8 a.1) ++ ((.v (.int .u32 a.2)) :: [])) ((arC .u8 b.1) ++ ((.v (.int .u32 b.2)) :: [])) = decide (a = b) := by
  rintro ⟨a_0, a_1⟩ ⟨b_0, b_1⟩
  rw [Bool.eq_iff_iff]
  simp [kEq, kEq1]
@[simp] theorem eM_api_OutPoint_B_get {k0 : (Arr 32)} {k1 : Int} {l : List (Tapi_OutPoint × Bool)} : getM 33 ((arC .u8 k0) ++ ((.v (.int .u32 k1)) :: [])) (List.map eM_api_OutPoint_B l) = Option.map (fun v : Bool => ([.v (.bool v)] : List Cell)) (mget (k0, k1) l) := getM_map (eK := (fun k : Tapi_OutPoint => ((arC .u8 k.1) ++ ((.v (.int .u32 k.2)) :: []) : List Cell))) (eV := (fun v : Bool => ([.v (.bool v)] : List Cell))) (fun k => by simp) eM_api_OutPoint_B_he (k0, k1) l
@[simp] theorem eM_api_OutPoint_B_put {k0 : (Arr 32)} {k1 : Int} {v0 : Bool} {l : List (Tapi_OutPoint × Bool)} : putM 33 ((arC .u8 k0) ++ ((.v (.int .u32 k1)) :: [])) ([.v (.bool v0)]) (List.map eM_api_OutPoint_B l) = List.map eM_api_OutPoint_B (mput (k0, k1) v0 l) := putM_map (eK := (fun k : Tapi_OutPoint => ((arC .u8 k.1) ++ ((.v (.int .u32 k.2)) :: []) : List Cell))) (eV := (fun v : Bool => ([.v (.bool v)] : List Cell))) (fun k => by simp) eM_api_OutPoint_B_he (k0, k1) v0 l
@[simp] theorem eM_api_OutPoint_B_gd (o : Option Bool) : (Option.map (fun v : Bool => ([.v (.bool v)] : List Cell)) o).getD ([.v (.bool false)]) = [.v (.bool (o.getD false))] := by cases o <;> rfl
@[simp] theorem eM_api_OutPoint_B_put0 {k0 : (Arr 32)} {k1 : Int} {v0 : Bool} : putM 33 ((arC .u8 k0) ++ ((.v (.int .u32 k1)) :: [])) ([.v (.bool v0)]) [] = List.map eM_api_OutPoint_B (mput (k0, k1) v0 []) := rfl
theorem bN {α β : Type} {o : Option α} {f : α → Option β} {y : β} {P P' : α → Prop} (h : o.bind f = some y) (k : ∀ {x}, o = some x → P x) (n : ∀ x, P x → P' x := by intro x h; try simp only [nf, nfs] at h; exact h) : ∃ x, P' x ∧ f x = some y :=
  let ⟨x, h1, h2⟩ := bs h
  ⟨x, n x (k h1), h2⟩
theorem goA {P R : Prop} (k : R) (h : ∀ X : Prop, SameP X R → Imp X P := by
  intro X e
  repeat (first
    | (with_reducible refine im_assoc ?_)
    | (with_reducible refine im_seq_skip ?_)
    | (with_reducible refine im_seq_block ?_)
    | (with_reducible refine im_seq_exit ?_)
    | (with_reducible refine im_seq_ret ?_)
    | (with_reducible refine im_block ?_)
    | (with_reducible refine im_skip ?_)
    | (with_reducible refine im_exit ?_)
    | (with_reducible refine im_ret ?_)
    | (with_reducible refine im_seq_condT ?_ ?_; · simp [-Int.ofNat_toNat, bV, *]; done)
    | (with_reducible refine im_seq_condF ?_ ?_; · simp [-Int.ofNat_toNat, bV, *]; done)
    | (refine im_seq_reg rfl (by first | (simp [-Int.ofNat_toNat, Nat.add_assoc, *] <;> rfl) | fail) ?_)
    | (refine im_seq_draw rfl (by simp [-Int.ofNat_toNat, Nat.add_assoc, *]; first | exact ⟨rfl, rfl⟩ | rfl) (by kernel_rfl) ?_)
    | (with_reducible refine im_condT ?_ ?_; · simp [-Int.ofNat_toNat, bV, *]; done)
    | (with_reducible refine im_condF ?_ ?_; · simp [-Int.ofNat_toNat, bV, *]; done)
    | (refine im_reg rfl (by first | (simp [-Int.ofNat_toNat, Nat.add_assoc, *] <;> rfl) | fail) ?_)
    | (refine im_draw rfl (by simp [-Int.ofNat_toNat, Nat.add_assoc, *]; first | exact ⟨rfl, rfl⟩ | rfl) (by kernel_rfl) ?_)
    | (refine im_pq ?_ (by simp only [pq, reduceCtorEq]; rfl)))
  exact Imp.of e) : P := h R ⟨rfl⟩ k
theorem goADR {P R : Prop} (k : R) (h : ∀ X : Prop, SameP X R → Imp X P := by
  intro X e
  repeat (first
    | (with_reducible refine im_assoc ?_)
    | (with_reducible refine im_seq_skip ?_)
    | (with_reducible refine im_seq_block ?_)
    | (with_reducible refine im_seq_exit ?_)
    | (with_reducible refine im_seq_ret ?_)
    | (with_reducible refine im_block ?_)
    | (with_reducible refine im_skip ?_)
    | (with_reducible refine im_exit ?_)
    | (with_reducible refine im_ret ?_)
    | (with_reducible refine im_seq_condT ?_ ?_; · simp [-Int.ofNat_toNat, bV, *]; done)
    | (with_reducible refine im_seq_condF ?_ ?_; · simp [-Int.ofNat_toNat, bV, *]; done)
    | (refine im_seq_reg rfl (by first | (simp [-Int.ofNat_toNat, Nat.add_assoc, -Int.natCast_tdiv_eq_ediv, List.range, List.range.loop, *] <;> rfl) | fail) ?_)
    | (refine im_seq_draw rfl (by simp [-Int.ofNat_toNat, Nat.add_assoc, -Int.natCast_tdiv_eq_ediv, List.range, List.range.loop, *]; first | exact ⟨rfl, rfl⟩ | rfl) (by kernel_rfl) ?_)
    | (with_reducible refine im_condT ?_ ?_; · simp [-Int.ofNat_toNat, bV, *]; done)
    | (with_reducible refine im_condF ?_ ?_; · simp [-Int.ofNat_toNat, bV, *]; done)
    | (refine im_reg rfl (by first | (simp [-Int.ofNat_toNat, Nat.add_assoc, -Int.natCast_tdiv_eq_ediv, List.range, List.range.loop, *] <;> rfl) | fail) ?_)
    | (refine im_draw rfl (by simp [-Int.ofNat_toNat, Nat.add_assoc, -Int.natCast_tdiv_eq_ediv, List.range, List.range.loop, *]; first | exact ⟨rfl, rfl⟩ | rfl) (by kernel_rfl) ?_)
    | (refine im_pq ?_ (by simp only [pq, reduceCtorEq]; rfl)))
  exact Imp.of e) : P := h R ⟨rfl⟩ k
theorem goR {P R : Prop} (k : R) (h : ∀ X : Prop, SameP X R → Imp X P := by
  intro X e
  repeat (first
    | (with_reducible refine im_assoc ?_)
    | (with_reducible refine im_seq_skip ?_)
    | (with_reducible refine im_seq_block ?_)
    | (with_reducible refine im_seq_exit ?_)
    | (with_reducible refine im_seq_ret ?_)
    | (with_reducible refine im_block ?_)
    | (with_reducible refine im_skip ?_)
    | (with_reducible refine im_exit ?_)
    | (with_reducible refine im_ret ?_)
    | (with_reducible refine im_seq_condT ?_ ?_; · simp [-Int.ofNat_toNat, bV, *]; done)
    | (with_reducible refine im_seq_condF ?_ ?_; · simp [-Int.ofNat_toNat, bV, *]; done)
    | (refine im_seq_reg rfl (by first | (simp [-Int.ofNat_toNat, List.range, List.range.loop, *] <;> rfl) | fail) ?_)
    | (refine im_seq_draw rfl (by simp [-Int.ofNat_toNat, List.range, List.range.loop, *]; first | exact ⟨rfl, rfl⟩ | rfl) (by kernel_rfl) ?_)
    | (with_reducible refine im_condT ?_ ?_; · simp [-Int.ofNat_toNat, bV, *]; done)
    | (with_reducible refine im_condF ?_ ?_; · simp [-Int.ofNat_toNat, bV, *]; done)
    | (refine im_reg rfl (by first | (simp [-Int.ofNat_toNat, List.range, List.range.loop, *] <;> rfl) | fail) ?_)
    | (refine im_draw rfl (by simp [-Int.ofNat_toNat, List.range, List.range.loop, *]; first | exact ⟨rfl, rfl⟩ | rfl) (by kernel_rfl) ?_)
    | (refine im_pq ?_ (by simp only [pq, reduceCtorEq]; rfl)))
  exact Imp.of e) : P := h R ⟨rfl⟩ k
def G : Glob := fun g => if g = 0 then some (arC .u32 shaInitial) else if g = 1 then some (arC .u32 shaK) else none
@[simp] theorem G_at0 : G 0 = some (arC .u32 shaInitial) := rfl
@[simp] theorem G_at1 : G 1 = some (arC .u32 shaK) := rfl
noncomputable abbrev K34 : Con Tapi_Input Bool := ⟨fun x => [.agg ((arC .u8 x.1.1) ++ ((.v (.int .u32 x.1.2)) :: ((.v (.int .u32 x.2.1)) :: ((.slice .no (List.map eS_I_u8 x.2.2)) :: []))))], fun _ y => (.one (.v (.bool y)), []), fun x => Lreplace_Signals_1 x⟩
theorem i34 : K34.Inj := by intro a b h; simpa [K34, Prod.ext_iff, and_assoc] using h
theorem G34_eq {a0 y} (h : Lreplace_Signals_1 a0 = some y) : K34.G (K34.E a0) = some (K34.R a0 y) := i34.eq h
noncomputable abbrev K73_1 : Con ((List Tapi_Input)) Int := ⟨fun x => [.one (.slice .no (List.map eapi_Input x)), .fn 34], fun _ y => (.one (.v (.int .i64 y)), []), fun x => Lslices_IndexFunc_of__api_Input_api_Input__replace_Signals_1 x⟩
theorem i73_1 : K73_1.Inj := by intro a b h; simpa [K73_1, Prod.ext_iff, and_assoc] using h
theorem G73_1_eq {a0 y} (h : Lslices_IndexFunc_of__api_Input_api_Input__replace_Signals_1 a0 = some y) : K73_1.G (K73_1.E a0) = some (K73_1.R a0 y) := i73_1.eq h
noncomputable abbrev K33_2 : Con ((List Tapi_Input)) Bool := ⟨fun x => [.one (.slice .no (List.map eapi_Input x)), .fn 34], fun _ y => (.one (.v (.bool y)), []), fun x => Lslices_ContainsFunc_of__api_Input_api_Input__replace_Signals_1 x⟩
theorem i33_2 : K33_2.Inj := by intro a b h; simpa [K33_2, Prod.ext_iff, and_assoc] using h
theorem G33_2_eq {a0 y} (h : Lslices_ContainsFunc_of__api_Input_api_Input__replace_Signals_1 a0 = some y) : K33_2.G (K33_2.E a0) = some (K33_2.R a0 y) := i33_2.eq h
noncomputable abbrev K11 : Con Tapi_Tx Bool := ⟨fun x => [.agg ([.v (.int .u32 x.1), .slice .no (List.map eapi_Input x.2.1), .slice .no (List.map eapi_Output x.2.2.1), .v (.int .u32 x.2.2.2)])], fun _ y => (.one (.v (.bool y)), []), fun x => Lreplace_Signals x⟩
theorem i11 : K11.Inj := by intro a b h; simpa [K11, Prod.ext_iff, and_assoc] using h
theorem G11_eq {a0 y} (h : Lreplace_Signals a0 = some y) : K11.G (K11.E a0) = some (K11.R a0 y) := i11.eq h
noncomputable abbrev K36_3 : Con (Tapi_Input × Tapi_Input) Bool := ⟨fun x => [.agg ((arC .u8 x.1.1.1) ++ ((.v (.int .u32 x.1.1.2)) :: ((.v (.int .u32 x.1.2.1)) :: ((.slice .no (List.map eS_I_u8 x.1.2.2)) :: [])))), .ref ((arC .u8 x.2.1.1) ++ ((.v (.int .u32 x.2.1.2)) :: ((.v (.int .u32 x.2.2.1)) :: ((.slice .no (List.map eS_I_u8 x.2.2.2)) :: []))))], fun _ y => (.one (.v (.bool y)), []), fun x => Lreplace_Conflict_1_1__r x.1 x.2⟩
theorem i36_3 : K36_3.Inj := by intro a b h; simpa [K36_3, Prod.ext_iff, and_assoc] using h
theorem G36_3_eq {a0 a1 y} (h : Lreplace_Conflict_1_1__r a0 a1 = some y) : K36_3.G (K36_3.E (a0, a1)) = some (K36_3.R (a0, a1) y) := i36_3.eq h
noncomputable abbrev K73_4 : Con ((List Tapi_Input) × Tapi_Input) Int := ⟨fun x => [.one (.slice .no (List.map eapi_Input x.1)), .clo 36 [.ref ((arC .u8 x.2.1.1) ++ ((.v (.int .u32 x.2.1.2)) :: ((.v (.int .u32 x.2.2.1)) :: ((.slice .no (List.map eS_I_u8 x.2.2.2)) :: []))))]], fun _ y => (.one (.v (.int .i64 y)), []), fun x => Lslices_IndexFunc_of__api_Input_api_Input__replace_Conflict_1_1 x.1 x.2⟩
theorem i73_4 : K73_4.Inj := by intro a b h; simpa [K73_4, Prod.ext_iff, and_assoc] using h
theorem G73_4_eq {a0 a1 y} (h : Lslices_IndexFunc_of__api_Input_api_Input__replace_Conflict_1_1 a0 a1 = some y) : K73_4.G (K73_4.E (a0, a1)) = some (K73_4.R (a0, a1) y) := i73_4.eq h
noncomputable abbrev K33_5 : Con ((List Tapi_Input) × Tapi_Input) Bool := ⟨fun x => [.one (.slice .no (List.map eapi_Input x.1)), .clo 36 [.ref ((arC .u8 x.2.1.1) ++ ((.v (.int .u32 x.2.1.2)) :: ((.v (.int .u32 x.2.2.1)) :: ((.slice .no (List.map eS_I_u8 x.2.2.2)) :: []))))]], fun _ y => (.one (.v (.bool y)), []), fun x => Lslices_ContainsFunc_of__api_Input_api_Input__replace_Conflict_1_1 x.1 x.2⟩
theorem i33_5 : K33_5.Inj := by intro a b h; simpa [K33_5, Prod.ext_iff, and_assoc] using h
theorem G33_5_eq {a0 a1 y} (h : Lslices_ContainsFunc_of__api_Input_api_Input__replace_Conflict_1_1 a0 a1 = some y) : K33_5.G (K33_5.E (a0, a1)) = some (K33_5.R (a0, a1) y) := i33_5.eq h
noncomputable abbrev K35_6 : Con (Tapi_Input × Tapi_Tx) Bool := ⟨fun x => [.agg ((arC .u8 x.1.1.1) ++ ((.v (.int .u32 x.1.1.2)) :: ((.v (.int .u32 x.1.2.1)) :: ((.slice .no (List.map eS_I_u8 x.1.2.2)) :: [])))), .ref ([.v (.int .u32 x.2.1), .slice .no (List.map eapi_Input x.2.2.1), .slice .no (List.map eapi_Output x.2.2.2.1), .v (.int .u32 x.2.2.2.2)])], fun _ y => (.one (.v (.bool y)), []), fun x => Lreplace_Conflict_1__r x.1 x.2⟩
theorem i35_6 : K35_6.Inj := by intro a b h; simpa [K35_6, Prod.ext_iff, and_assoc] using h
theorem G35_6_eq {a0 a1 y} (h : Lreplace_Conflict_1__r a0 a1 = some y) : K35_6.G (K35_6.E (a0, a1)) = some (K35_6.R (a0, a1) y) := i35_6.eq h
noncomputable abbrev K73_7 : Con ((List Tapi_Input) × Tapi_Tx) Int := ⟨fun x => [.one (.slice .no (List.map eapi_Input x.1)), .clo 35 [.ref ([.v (.int .u32 x.2.1), .slice .no (List.map eapi_Input x.2.2.1), .slice .no (List.map eapi_Output x.2.2.2.1), .v (.int .u32 x.2.2.2.2)])]], fun _ y => (.one (.v (.int .i64 y)), []), fun x => Lslices_IndexFunc_of__api_Input_api_Input__replace_Conflict_1 x.1 x.2⟩
theorem i73_7 : K73_7.Inj := by intro a b h; simpa [K73_7, Prod.ext_iff, and_assoc] using h
theorem G73_7_eq {a0 a1 y} (h : Lslices_IndexFunc_of__api_Input_api_Input__replace_Conflict_1 a0 a1 = some y) : K73_7.G (K73_7.E (a0, a1)) = some (K73_7.R (a0, a1) y) := i73_7.eq h
noncomputable abbrev K33_8 : Con ((List Tapi_Input) × Tapi_Tx) Bool := ⟨fun x => [.one (.slice .no (List.map eapi_Input x.1)), .clo 35 [.ref ([.v (.int .u32 x.2.1), .slice .no (List.map eapi_Input x.2.2.1), .slice .no (List.map eapi_Output x.2.2.2.1), .v (.int .u32 x.2.2.2.2)])]], fun _ y => (.one (.v (.bool y)), []), fun x => Lslices_ContainsFunc_of__api_Input_api_Input__replace_Conflict_1 x.1 x.2⟩
theorem i33_8 : K33_8.Inj := by intro a b h; simpa [K33_8, Prod.ext_iff, and_assoc] using h
theorem G33_8_eq {a0 a1 y} (h : Lslices_ContainsFunc_of__api_Input_api_Input__replace_Conflict_1 a0 a1 = some y) : K33_8.G (K33_8.E (a0, a1)) = some (K33_8.R (a0, a1) y) := i33_8.eq h
noncomputable abbrev K13 : Con (Tapi_Tx × Tapi_Tx) Bool := ⟨fun x => [.agg ([.v (.int .u32 x.1.1), .slice .no (List.map eapi_Input x.1.2.1), .slice .no (List.map eapi_Output x.1.2.2.1), .v (.int .u32 x.1.2.2.2)]), .agg ([.v (.int .u32 x.2.1), .slice .no (List.map eapi_Input x.2.2.1), .slice .no (List.map eapi_Output x.2.2.2.1), .v (.int .u32 x.2.2.2.2)])], fun _ y => (.one (.v (.bool y)), []), fun x => Lreplace_Conflict x.1 x.2⟩
theorem i13 : K13.Inj := by intro a b h; simpa [K13, Prod.ext_iff, and_assoc] using h
theorem G13_eq {a0 a1 y} (h : Lreplace_Conflict a0 a1 = some y) : K13.G (K13.E (a0, a1)) = some (K13.R (a0, a1) y) := i13.eq h
noncomputable abbrev K79 : Con Tapi_OutPoint Bool := ⟨fun x => [.agg ((arC .u8 x.1) ++ ((.v (.int .u32 x.2)) :: []))], fun _ y => (.one (.v (.bool y)), []), fun x => Ltx_null x⟩
theorem i79 : K79.Inj := by intro a b h; simpa [K79, Prod.ext_iff, and_assoc] using h
theorem G79_eq {a0 y} (h : Ltx_null a0 = some y) : K79.G (K79.E a0) = some (K79.R a0 y) := i79.eq h
noncomputable abbrev K45 : Con Tapi_Tx Bool := ⟨fun x => [.agg ([.v (.int .u32 x.1), .slice .no (List.map eapi_Input x.2.1), .slice .no (List.map eapi_Output x.2.2.1), .v (.int .u32 x.2.2.2)])], fun _ y => (.one (.v (.bool y)), []), fun x => Ltx_Coinbase x⟩
theorem i45 : K45.Inj := by intro a b h; simpa [K45, Prod.ext_iff, and_assoc] using h
theorem G45_eq {a0 y} (h : Ltx_Coinbase a0 = some y) : K45.G (K45.E a0) = some (K45.R a0 y) := i45.eq h
noncomputable abbrev K115 : Con ((List Int) × (List Int)) ((List Int)) := ⟨fun x => [.one (.slice .no (intsR .u8 x.1)), .one (.slice .no (intsR .u8 x.2))], fun _ y => (.one (.own 1 (intsR .u8 y)), []), fun x => Lcodec_extend x.1 x.2⟩
theorem i115 : K115.Inj := by intro a b h; simpa [K115, Prod.ext_iff, and_assoc] using h
theorem G115_eq {a0 a1 y} (h : Lcodec_extend a0 a1 = some y) : K115.G (K115.E (a0, a1)) = some (K115.R (a0, a1) y) := i115.eq h
noncomputable abbrev K116 : Con (Int × Int) ((List Int)) := ⟨fun x => [.one (.v (.int .u64 x.1)), .one (.v (.int .i64 x.2))], fun _ y => (.one (.own 1 (intsR .u8 y)), []), fun x => Lcodec_lowest x.1 x.2⟩
theorem i116 : K116.Inj := by intro a b h; simpa [K116, Prod.ext_iff, and_assoc] using h
theorem G116_eq {a0 a1 y} (h : Lcodec_lowest a0 a1 = some y) : K116.G (K116.E (a0, a1)) = some (K116.R (a0, a1) y) := i116.eq h
noncomputable abbrev K106 : Con ((List Int) × Int) ((List Int)) := ⟨fun x => [.one (.slice .no (intsR .u8 x.1)), .one (.v (.int .u32 x.2))], fun _ y => (.one (.own 1 (intsR .u8 y)), []), fun x => Lcodec_AppendU32 x.1 x.2⟩
theorem i106 : K106.Inj := by intro a b h; simpa [K106, Prod.ext_iff, and_assoc] using h
theorem G106_eq {a0 a1 y} (h : Lcodec_AppendU32 a0 a1 = some y) : K106.G (K106.E (a0, a1)) = some (K106.R (a0, a1) y) := i106.eq h
noncomputable abbrev K109 : Con ((List Int) × Int) ((List Int)) := ⟨fun x => [.one (.slice .no (intsR .u8 x.1)), .one (.v (.int .u64 x.2))], fun _ y => (.one (.own 1 (intsR .u8 y)), []), fun x => Lcodec_AppendU64 x.1 x.2⟩
theorem i109 : K109.Inj := by intro a b h; simpa [K109, Prod.ext_iff, and_assoc] using h
theorem G109_eq {a0 a1 y} (h : Lcodec_AppendU64 a0 a1 = some y) : K109.G (K109.E (a0, a1)) = some (K109.R (a0, a1) y) := i109.eq h
noncomputable abbrev K117 : Con ((List Int) × Int) ((List Int)) := ⟨fun x => [.one (.slice .no (intsR .u8 x.1)), .one (.v (.int .u16 x.2))], fun _ y => (.one (.own 1 (intsR .u8 y)), []), fun x => Lcodec_AppendU16 x.1 x.2⟩
theorem i117 : K117.Inj := by intro a b h; simpa [K117, Prod.ext_iff, and_assoc] using h
theorem G117_eq {a0 a1 y} (h : Lcodec_AppendU16 a0 a1 = some y) : K117.G (K117.E (a0, a1)) = some (K117.R (a0, a1) y) := i117.eq h
noncomputable abbrev K107 : Con ((List Int) × Int) ((List Int)) := ⟨fun x => [.one (.slice .no (intsR .u8 x.1)), .one (.v (.int .u64 x.2))], fun _ y => (.one (.own 1 (intsR .u8 y)), []), fun x => Lcodec_AppendSize x.1 x.2⟩
theorem i107 : K107.Inj := by intro a b h; simpa [K107, Prod.ext_iff, and_assoc] using h
theorem G107_eq {a0 a1 y} (h : Lcodec_AppendSize a0 a1 = some y) : K107.G (K107.E (a0, a1)) = some (K107.R (a0, a1) y) := i107.eq h
noncomputable abbrev K118 : Con ((List Int) × (Arr 32)) ((List Int)) := ⟨fun x => [.one (.slice .no (intsR .u8 x.1)), .agg (arC .u8 x.2)], fun _ y => (.one (.own 1 (intsR .u8 y)), []), fun x => Lcodec_AppendHash x.1 x.2⟩
theorem i118 : K118.Inj := by intro a b h; simpa [K118, Prod.ext_iff, and_assoc] using h
theorem G118_eq {a0 a1 y} (h : Lcodec_AppendHash a0 a1 = some y) : K118.G (K118.E (a0, a1)) = some (K118.R (a0, a1) y) := i118.eq h
noncomputable abbrev K108 : Con Tapi_OutPoint ((List Int)) := ⟨fun x => [.agg ((arC .u8 x.1) ++ ((.v (.int .u32 x.2)) :: []))], fun _ y => (.one (.own 1 (intsR .u8 y)), []), fun x => Ltx_Point x⟩
theorem i108 : K108.Inj := by intro a b h; simpa [K108, Prod.ext_iff, and_assoc] using h
theorem G108_eq {a0 y} (h : Ltx_Point a0 = some y) : K108.G (K108.E a0) = some (K108.R a0 y) := i108.eq h
noncomputable abbrev K110 : Con ((List Int) × (List Int)) ((List Int)) := ⟨fun x => [.one (.slice .no (intsR .u8 x.1)), .one (.slice .no (intsR .u8 x.2))], fun _ y => (.one (.own 1 (intsR .u8 y)), []), fun x => Lcodec_AppendBytes x.1 x.2⟩
theorem i110 : K110.Inj := by intro a b h; simpa [K110, Prod.ext_iff, and_assoc] using h
theorem G110_eq {a0 a1 y} (h : Lcodec_AppendBytes a0 a1 = some y) : K110.G (K110.E (a0, a1)) = some (K110.R (a0, a1) y) := i110.eq h
noncomputable abbrev K95 : Con (Tapi_Tx × Bool) ((List Int)) := ⟨fun x => [.agg ([.v (.int .u32 x.1.1), .slice .no (List.map eapi_Input x.1.2.1), .slice .no (List.map eapi_Output x.1.2.2.1), .v (.int .u32 x.1.2.2.2)]), .one (.v (.bool x.2))], fun _ y => (.one (.own 1 (intsR .u8 y)), []), fun x => Ltx_encode x.1 x.2⟩
theorem i95 : K95.Inj := by intro a b h; simpa [K95, Prod.ext_iff, and_assoc] using h
theorem G95_eq {a0 a1 y} (h : Ltx_encode a0 a1 = some y) : K95.G (K95.E (a0, a1)) = some (K95.R (a0, a1) y) := i95.eq h
noncomputable abbrev K75 : Con Tapi_Tx Bool := ⟨fun x => [.agg ([.v (.int .u32 x.1), .slice .no (List.map eapi_Input x.2.1), .slice .no (List.map eapi_Output x.2.2.1), .v (.int .u32 x.2.2.2)])], fun _ y => (.one (.v (.bool y)), []), fun x => Ltx_fits x⟩
theorem i75 : K75.Inj := by intro a b h; simpa [K75, Prod.ext_iff, and_assoc] using h
theorem G75_eq {a0 y} (h : Ltx_fits a0 = some y) : K75.G (K75.E a0) = some (K75.R a0 y) := i75.eq h
noncomputable abbrev K76 : Con ((List Tapi_Output)) Bool := ⟨fun x => [.one (.slice .no (List.map eapi_Output x))], fun _ y => (.one (.v (.bool y)), []), fun x => Ltx_money x⟩
theorem i76 : K76.Inj := by intro a b h; simpa [K76, Prod.ext_iff, and_assoc] using h
theorem G76_eq {a0 y} (h : Ltx_money a0 = some y) : K76.G (K76.E a0) = some (K76.R a0 y) := i76.eq h
noncomputable abbrev K39 : Con Tapi_Tx Int := ⟨fun x => [.agg ([.v (.int .u32 x.1), .slice .no (List.map eapi_Input x.2.1), .slice .no (List.map eapi_Output x.2.2.1), .v (.int .u32 x.2.2.2)])], fun _ y => (.one (.v (.int .i64 y)), []), fun x => Ltx_Check x⟩
theorem i39 : K39.Inj := by intro a b h; simpa [K39, Prod.ext_iff, and_assoc] using h
theorem G39_eq {a0 y} (h : Ltx_Check a0 = some y) : K39.G (K39.E a0) = some (K39.R a0 y) := i39.eq h
noncomputable abbrev K98 : Con (Tapi_Tx × Bool) ((List Int) × Int) := ⟨fun x => [.agg ([.v (.int .u32 x.1.1), .slice .no (List.map eapi_Input x.1.2.1), .slice .no (List.map eapi_Output x.1.2.2.1), .v (.int .u32 x.1.2.2.2)]), .one (.v (.bool x.2))], fun _ y => (.tup [.one (.slice .no (intsR .u8 y.1)), .one (.v (.int .i64 y.2))], []), fun x => Ltx_Encode x.1 x.2⟩
theorem i98 : K98.Inj := by intro a b h; simpa [K98, Prod.ext_iff, and_assoc] using h
theorem G98_eq {a0 a1 y} (h : Ltx_Encode a0 a1 = some y) : K98.G (K98.E (a0, a1)) = some (K98.R (a0, a1) y) := i98.eq h
noncomputable abbrev K122 : Con ((List (List Int))) ((List Int)) := ⟨fun x => [.one (.slice .no (List.map eS_I_u8 x))], fun _ y => (.one (.own 1 (intsR .u8 y)), []), fun x => Lsha_row x⟩
theorem i122 : K122.Inj := by intro a b h; simpa [K122, Prod.ext_iff, and_assoc] using h
theorem G122_eq {a0 y} (h : Lsha_row a0 = some y) : K122.G (K122.E a0) = some (K122.R a0 y) := i122.eq h
noncomputable abbrev K123 : Con Int ((List Int)) := ⟨fun x => [.one (.v (.int .u64 x))], fun _ y => (.one (.own 1 (intsR .u8 y)), []), fun x => Lsha_Pad x⟩
theorem i123 : K123.Inj := by intro a b h; simpa [K123, Prod.ext_iff, and_assoc] using h
theorem G123_eq {a0 y} (h : Lsha_Pad a0 = some y) : K123.G (K123.E a0) = some (K123.R a0 y) := i123.eq h
noncomputable abbrev K125 : Con (Int × Int) Int := ⟨fun x => [.one (.v (.int .u32 x.1)), .one (.v (.int .i64 x.2))], fun _ y => (.one (.v (.int .u32 y)), []), fun x => Lmath_bits_RotateLeft32 x.1 x.2⟩
theorem i125 : K125.Inj := by intro a b h; simpa [K125, Prod.ext_iff, and_assoc] using h
theorem G125_eq {a0 a1 y} (h : Lmath_bits_RotateLeft32 a0 a1 = some y) : K125.G (K125.E (a0, a1)) = some (K125.R (a0, a1) y) := i125.eq h
noncomputable abbrev K127 : Con (Int × Int) Int := ⟨fun x => [.one (.v (.int .u32 x.1)), .one (.v (.int .i64 x.2))], fun _ y => (.one (.v (.int .u32 y)), []), fun x => Lsha_rotr x.1 x.2⟩
theorem i127 : K127.Inj := by intro a b h; simpa [K127, Prod.ext_iff, and_assoc] using h
theorem G127_eq {a0 a1 y} (h : Lsha_rotr a0 a1 = some y) : K127.G (K127.E (a0, a1)) = some (K127.R (a0, a1) y) := i127.eq h
noncomputable abbrev K126 : Con ((Arr 64)) ((Arr 64)) := ⟨fun x => [.agg (arC .u8 x)], fun _ y => (.agg (arC .u32 y), []), fun x => Lsha_schedule x⟩
theorem i126 : K126.Inj := by intro a b h; simpa [K126, Prod.ext_iff, and_assoc] using h
theorem G126_eq {a0 y} (h : Lsha_schedule a0 = some y) : K126.G (K126.E a0) = some (K126.R a0 y) := i126.eq h
noncomputable abbrev K124 : Con ((Arr 8) × (Arr 64)) ((Arr 8)) := ⟨fun x => [.agg (arC .u32 x.1), .agg (arC .u8 x.2)], fun _ y => (.agg (arC .u32 y), []), fun x => Lsha_Compress x.1 x.2⟩
theorem i124 : K124.Inj := by intro a b h; simpa [K124, Prod.ext_iff, and_assoc] using h
theorem G124_eq {a0 a1 y} (h : Lsha_Compress a0 a1 = some y) : K124.G (K124.E (a0, a1)) = some (K124.R (a0, a1) y) := i124.eq h
noncomputable abbrev K114 : Con ((List Int)) ((Arr 32)) := ⟨fun x => [.one (.slice .no (intsR .u8 x))], fun _ y => (.agg (arC .u8 y), []), fun x => Lsha_Sum x⟩
theorem i114 : K114.Inj := by intro a b h; simpa [K114, Prod.ext_iff, and_assoc] using h
theorem G114_eq {a0 y} (h : Lsha_Sum a0 = some y) : K114.G (K114.E a0) = some (K114.R a0 y) := i114.eq h
noncomputable abbrev K99 : Con ((List Int)) ((Arr 32)) := ⟨fun x => [.one (.slice .no (intsR .u8 x))], fun _ y => (.agg (arC .u8 y), []), fun x => Lsha_Double x⟩
theorem i99 : K99.Inj := by intro a b h; simpa [K99, Prod.ext_iff, and_assoc] using h
theorem G99_eq {a0 y} (h : Lsha_Double a0 = some y) : K99.G (K99.E a0) = some (K99.R a0 y) := i99.eq h
noncomputable abbrev K78 : Con (Tapi_Tx × Bool) ((Arr 32)) := ⟨fun x => [.agg ([.v (.int .u32 x.1.1), .slice .no (List.map eapi_Input x.1.2.1), .slice .no (List.map eapi_Output x.1.2.2.1), .v (.int .u32 x.1.2.2.2)]), .one (.v (.bool x.2))], fun _ y => (.agg (arC .u8 y), []), fun x => Ltx_digest x.1 x.2⟩
theorem i78 : K78.Inj := by intro a b h; simpa [K78, Prod.ext_iff, and_assoc] using h
theorem G78_eq {a0 a1 y} (h : Ltx_digest a0 a1 = some y) : K78.G (K78.E (a0, a1)) = some (K78.R (a0, a1) y) := i78.eq h
noncomputable abbrev K43 : Con Tapi_Tx ((Arr 32)) := ⟨fun x => [.agg ([.v (.int .u32 x.1), .slice .no (List.map eapi_Input x.2.1), .slice .no (List.map eapi_Output x.2.2.1), .v (.int .u32 x.2.2.2)])], fun _ y => (.agg (arC .u8 y), []), fun x => Ltx_ID x⟩
theorem i43 : K43.Inj := by intro a b h; simpa [K43, Prod.ext_iff, and_assoc] using h
theorem G43_eq {a0 y} (h : Ltx_ID a0 = some y) : K43.G (K43.E a0) = some (K43.R a0 y) := i43.eq h
noncomputable abbrev K46 : Con Int Bool := ⟨fun x => [.one (.v (.int .i64 x))], fun _ y => (.one (.v (.bool y)), []), fun x => Lreplace_money x⟩
theorem i46 : K46.Inj := by intro a b h; simpa [K46, Prod.ext_iff, and_assoc] using h
theorem G46_eq {a0 y} (h : Lreplace_money a0 = some y) : K46.G (K46.E a0) = some (K46.R a0 y) := i46.eq h
noncomputable abbrev K47 : Con Tapi_Entry Bool := ⟨fun x => [.agg ([.v (.int .u32 x.1.1), .slice .no (List.map eapi_Input x.1.2.1), .slice .no (List.map eapi_Output x.1.2.2.1), .v (.int .u32 x.1.2.2.2), .v (.int .i64 x.2)])], fun _ y => (.one (.v (.bool y)), []), fun x => Lreplace_Accept_3 x⟩
theorem i47 : K47.Inj := by intro a b h; simpa [K47, Prod.ext_iff, and_assoc] using h
theorem G47_eq {a0 y} (h : Lreplace_Accept_3 a0 = some y) : K47.G (K47.E a0) = some (K47.R a0 y) := i47.eq h
noncomputable abbrev K49 : Con Tapi_Entry Bool := ⟨fun x => [.agg ([.v (.int .u32 x.1.1), .slice .no (List.map eapi_Input x.1.2.1), .slice .no (List.map eapi_Output x.1.2.2.1), .v (.int .u32 x.1.2.2.2), .v (.int .i64 x.2)])], fun _ y => (.one (.v (.bool y)), []), fun x => Lreplace_Accept_5 x⟩
theorem i49 : K49.Inj := by intro a b h; simpa [K49, Prod.ext_iff, and_assoc] using h
theorem G49_eq {a0 y} (h : Lreplace_Accept_5 a0 = some y) : K49.G (K49.E a0) = some (K49.R a0 y) := i49.eq h
noncomputable abbrev K66 : Con Tapi_Tx Int := ⟨fun x => [.agg ([.v (.int .u32 x.1), .slice .no (List.map eapi_Input x.2.1), .slice .no (List.map eapi_Output x.2.2.1), .v (.int .u32 x.2.2.2)])], fun _ y => (.one (.v (.int .i64 y)), []), fun x => Ltx_Weight x⟩
theorem i66 : K66.Inj := by intro a b h; simpa [K66, Prod.ext_iff, and_assoc] using h
theorem G66_eq {a0 y} (h : Ltx_Weight a0 = some y) : K66.G (K66.E a0) = some (K66.R a0 y) := i66.eq h
noncomputable abbrev K67 : Con (Int × Int) Int := ⟨fun x => [.one (.v (.int .i64 x.1)), .one (.v (.int .i64 x.2))], fun _ y => (.one (.v (.int .i64 y)), []), fun x => Lbuild_Fee x.1 x.2⟩
theorem i67 : K67.Inj := by intro a b h; simpa [K67, Prod.ext_iff, and_assoc] using h
theorem G67_eq {a0 a1 y} (h : Lbuild_Fee a0 a1 = some y) : K67.G (K67.E (a0, a1)) = some (K67.R (a0, a1) y) := i67.eq h
noncomputable abbrev K80 : Con (Int × Int) Int := ⟨fun x => [.one (.v (.int .i64 x.1)), .one (.v (.int .i64 x.2))], fun _ y => (.one (.v (.int .i64 y)), []), fun x => Lfees_Rate x.1 x.2⟩
theorem i80 : K80.Inj := by intro a b h; simpa [K80, Prod.ext_iff, and_assoc] using h
theorem G80_eq {a0 a1 y} (h : Lfees_Rate a0 a1 = some y) : K80.G (K80.E (a0, a1)) = some (K80.R (a0, a1) y) := i80.eq h
noncomputable abbrev K82 : Con Tapi_Entry Int := ⟨fun x => [.agg ([.v (.int .u32 x.1.1), .slice .no (List.map eapi_Input x.1.2.1), .slice .no (List.map eapi_Output x.1.2.2.1), .v (.int .u32 x.1.2.2.2), .v (.int .i64 x.2)])], fun _ y => (.one (.v (.int .i64 y)), []), fun x => Lreplace_rateOf x⟩
theorem i82 : K82.Inj := by intro a b h; simpa [K82, Prod.ext_iff, and_assoc] using h
theorem G82_eq {a0 y} (h : Lreplace_rateOf a0 = some y) : K82.G (K82.E a0) = some (K82.R a0 y) := i82.eq h
noncomputable abbrev K81_9 : Con (Tapi_Entry × Int) Bool := ⟨fun x => [.agg ([.v (.int .u32 x.1.1.1), .slice .no (List.map eapi_Input x.1.1.2.1), .slice .no (List.map eapi_Output x.1.1.2.2.1), .v (.int .u32 x.1.1.2.2.2), .v (.int .i64 x.1.2)]), .ref ([.v (.int .i64 x.2)])], fun _ y => (.one (.v (.bool y)), []), fun x => Lreplace_enough_1__r x.1 x.2⟩
theorem i81_9 : K81_9.Inj := by intro a b h; simpa [K81_9, Prod.ext_iff, and_assoc] using h
theorem G81_9_eq {a0 a1 y} (h : Lreplace_enough_1__r a0 a1 = some y) : K81_9.G (K81_9.E (a0, a1)) = some (K81_9.R (a0, a1) y) := i81_9.eq h
noncomputable abbrev K77_10 : Con ((List Tapi_Entry) × Int) Int := ⟨fun x => [.one (.slice .no (List.map eapi_Entry x.1)), .clo 81 [.ref ([.v (.int .i64 x.2)])]], fun _ y => (.one (.v (.int .i64 y)), []), fun x => Lslices_IndexFunc_of__api_Entry_api_Entry__replace_enough_1 x.1 x.2⟩
theorem i77_10 : K77_10.Inj := by intro a b h; simpa [K77_10, Prod.ext_iff, and_assoc] using h
theorem G77_10_eq {a0 a1 y} (h : Lslices_IndexFunc_of__api_Entry_api_Entry__replace_enough_1 a0 a1 = some y) : K77_10.G (K77_10.E (a0, a1)) = some (K77_10.R (a0, a1) y) := i77_10.eq h
noncomputable abbrev K41_11 : Con ((List Tapi_Entry) × Int) Bool := ⟨fun x => [.one (.slice .no (List.map eapi_Entry x.1)), .clo 81 [.ref ([.v (.int .i64 x.2)])]], fun _ y => (.one (.v (.bool y)), []), fun x => Lslices_ContainsFunc_of__api_Entry_api_Entry__replace_enough_1 x.1 x.2⟩
theorem i41_11 : K41_11.Inj := by intro a b h; simpa [K41_11, Prod.ext_iff, and_assoc] using h
theorem G41_11_eq {a0 a1 y} (h : Lslices_ContainsFunc_of__api_Entry_api_Entry__replace_enough_1 a0 a1 = some y) : K41_11.G (K41_11.E (a0, a1)) = some (K41_11.R (a0, a1) y) := i41_11.eq h
noncomputable abbrev K50 : Con ((List Tapi_Entry) × Tapi_Tx × Int) Bool := ⟨fun x => [.one (.slice .no (List.map eapi_Entry x.1)), .agg ([.v (.int .u32 x.2.1.1), .slice .no (List.map eapi_Input x.2.1.2.1), .slice .no (List.map eapi_Output x.2.1.2.2.1), .v (.int .u32 x.2.1.2.2.2)]), .one (.v (.int .i64 x.2.2))], fun _ y => (.one (.v (.bool y)), []), fun x => Lreplace_enough x.1 x.2.1 x.2.2⟩
theorem i50 : K50.Inj := by intro a b h; simpa [K50, Prod.ext_iff, and_assoc] using h
theorem G50_eq {a0 a1 a2 y} (h : Lreplace_enough a0 a1 a2 = some y) : K50.G (K50.E (a0, a1, a2)) = some (K50.R (a0, a1, a2) y) := i50.eq h
noncomputable abbrev K77_12 : Con ((List Tapi_Entry)) Int := ⟨fun x => [.one (.slice .no (List.map eapi_Entry x)), .fn 47], fun _ y => (.one (.v (.int .i64 y)), []), fun x => Lslices_IndexFunc_of__api_Entry_api_Entry__replace_Accept_3 x⟩
theorem i77_12 : K77_12.Inj := by intro a b h; simpa [K77_12, Prod.ext_iff, and_assoc] using h
theorem G77_12_eq {a0 y} (h : Lslices_IndexFunc_of__api_Entry_api_Entry__replace_Accept_3 a0 = some y) : K77_12.G (K77_12.E a0) = some (K77_12.R a0 y) := i77_12.eq h
noncomputable abbrev K41_13 : Con ((List Tapi_Entry)) Bool := ⟨fun x => [.one (.slice .no (List.map eapi_Entry x)), .fn 47], fun _ y => (.one (.v (.bool y)), []), fun x => Lslices_ContainsFunc_of__api_Entry_api_Entry__replace_Accept_3 x⟩
theorem i41_13 : K41_13.Inj := by intro a b h; simpa [K41_13, Prod.ext_iff, and_assoc] using h
theorem G41_13_eq {a0 y} (h : Lslices_ContainsFunc_of__api_Entry_api_Entry__replace_Accept_3 a0 = some y) : K41_13.G (K41_13.E a0) = some (K41_13.R a0 y) := i41_13.eq h
noncomputable abbrev K40_14 : Con ((List Tapi_Entry)) Bool := ⟨fun x => [.fn 47, .io ([.slice .no (List.map eapi_Entry x)])], fun x y => (.one (.v (.bool y)), [[.slice .no (List.map eapi_Entry x)]]), fun x => Lreplace_Accept_1__replace_Accept_3_p x⟩
theorem i40_14 : K40_14.Inj := by intro a b h; simpa [K40_14, Prod.ext_iff, and_assoc] using h
theorem G40_14_eq {a0 y} (h : Lreplace_Accept_1__replace_Accept_3_p a0 = some y) : K40_14.G (K40_14.E a0) = some (K40_14.R a0 y) := i40_14.eq h
noncomputable abbrev K48_15 : Con (Tapi_Entry × Tapi_Tx) Bool := ⟨fun x => [.agg ([.v (.int .u32 x.1.1.1), .slice .no (List.map eapi_Input x.1.1.2.1), .slice .no (List.map eapi_Output x.1.1.2.2.1), .v (.int .u32 x.1.1.2.2.2), .v (.int .i64 x.1.2)]), .ref ([.v (.int .u32 x.2.1), .slice .no (List.map eapi_Input x.2.2.1), .slice .no (List.map eapi_Output x.2.2.2.1), .v (.int .u32 x.2.2.2.2)])], fun _ y => (.one (.v (.bool y)), []), fun x => Lreplace_Accept_4__r x.1 x.2⟩
theorem i48_15 : K48_15.Inj := by intro a b h; simpa [K48_15, Prod.ext_iff, and_assoc] using h
theorem G48_15_eq {a0 a1 y} (h : Lreplace_Accept_4__r a0 a1 = some y) : K48_15.G (K48_15.E (a0, a1)) = some (K48_15.R (a0, a1) y) := i48_15.eq h
noncomputable abbrev K77_16 : Con ((List Tapi_Entry) × Tapi_Tx) Int := ⟨fun x => [.one (.slice .no (List.map eapi_Entry x.1)), .clo 48 [.ref ([.v (.int .u32 x.2.1), .slice .no (List.map eapi_Input x.2.2.1), .slice .no (List.map eapi_Output x.2.2.2.1), .v (.int .u32 x.2.2.2.2)])]], fun _ y => (.one (.v (.int .i64 y)), []), fun x => Lslices_IndexFunc_of__api_Entry_api_Entry__replace_Accept_4 x.1 x.2⟩
theorem i77_16 : K77_16.Inj := by intro a b h; simpa [K77_16, Prod.ext_iff, and_assoc] using h
theorem G77_16_eq {a0 a1 y} (h : Lslices_IndexFunc_of__api_Entry_api_Entry__replace_Accept_4 a0 a1 = some y) : K77_16.G (K77_16.E (a0, a1)) = some (K77_16.R (a0, a1) y) := i77_16.eq h
noncomputable abbrev K41_17 : Con ((List Tapi_Entry) × Tapi_Tx) Bool := ⟨fun x => [.one (.slice .no (List.map eapi_Entry x.1)), .clo 48 [.ref ([.v (.int .u32 x.2.1), .slice .no (List.map eapi_Input x.2.2.1), .slice .no (List.map eapi_Output x.2.2.2.1), .v (.int .u32 x.2.2.2.2)])]], fun _ y => (.one (.v (.bool y)), []), fun x => Lslices_ContainsFunc_of__api_Entry_api_Entry__replace_Accept_4 x.1 x.2⟩
theorem i41_17 : K41_17.Inj := by intro a b h; simpa [K41_17, Prod.ext_iff, and_assoc] using h
theorem G41_17_eq {a0 a1 y} (h : Lslices_ContainsFunc_of__api_Entry_api_Entry__replace_Accept_4 a0 a1 = some y) : K41_17.G (K41_17.E (a0, a1)) = some (K41_17.R (a0, a1) y) := i41_17.eq h
noncomputable abbrev K40_18 : Con (Tapi_Tx × (List Tapi_Entry)) Bool := ⟨fun x => [.clo 48 [.ref ([.v (.int .u32 x.1.1), .slice .no (List.map eapi_Input x.1.2.1), .slice .no (List.map eapi_Output x.1.2.2.1), .v (.int .u32 x.1.2.2.2)])], .io ([.slice .no (List.map eapi_Entry x.2)])], fun x y => (.one (.v (.bool y)), [[.slice .no (List.map eapi_Entry x.2)]]), fun x => Lreplace_Accept_1__replace_Accept_4_p x.1 x.2⟩
theorem i40_18 : K40_18.Inj := by intro a b h; simpa [K40_18, Prod.ext_iff, and_assoc] using h
theorem G40_18_eq {a0 a1 y} (h : Lreplace_Accept_1__replace_Accept_4_p a0 a1 = some y) : K40_18.G (K40_18.E (a0, a1)) = some (K40_18.R (a0, a1) y) := i40_18.eq h
noncomputable abbrev K77_19 : Con ((List Tapi_Entry)) Int := ⟨fun x => [.one (.slice .no (List.map eapi_Entry x)), .fn 49], fun _ y => (.one (.v (.int .i64 y)), []), fun x => Lslices_IndexFunc_of__api_Entry_api_Entry__replace_Accept_5 x⟩
theorem i77_19 : K77_19.Inj := by intro a b h; simpa [K77_19, Prod.ext_iff, and_assoc] using h
theorem G77_19_eq {a0 y} (h : Lslices_IndexFunc_of__api_Entry_api_Entry__replace_Accept_5 a0 = some y) : K77_19.G (K77_19.E a0) = some (K77_19.R a0 y) := i77_19.eq h
noncomputable abbrev K41_20 : Con ((List Tapi_Entry)) Bool := ⟨fun x => [.one (.slice .no (List.map eapi_Entry x)), .fn 49], fun _ y => (.one (.v (.bool y)), []), fun x => Lslices_ContainsFunc_of__api_Entry_api_Entry__replace_Accept_5 x⟩
theorem i41_20 : K41_20.Inj := by intro a b h; simpa [K41_20, Prod.ext_iff, and_assoc] using h
theorem G41_20_eq {a0 y} (h : Lslices_ContainsFunc_of__api_Entry_api_Entry__replace_Accept_5 a0 = some y) : K41_20.G (K41_20.E a0) = some (K41_20.R a0 y) := i41_20.eq h
noncomputable abbrev K40_21 : Con ((List Tapi_Entry)) Bool := ⟨fun x => [.fn 49, .io ([.slice .no (List.map eapi_Entry x)])], fun x y => (.one (.v (.bool y)), [[.slice .no (List.map eapi_Entry x)]]), fun x => Lreplace_Accept_1__replace_Accept_5_p x⟩
theorem i40_21 : K40_21.Inj := by intro a b h; simpa [K40_21, Prod.ext_iff, and_assoc] using h
theorem G40_21_eq {a0 y} (h : Lreplace_Accept_1__replace_Accept_5_p a0 = some y) : K40_21.G (K40_21.E a0) = some (K40_21.R a0 y) := i40_21.eq h
noncomputable abbrev K44_22 : Con (Tapi_Input × (Arr 32)) Bool := ⟨fun x => [.agg ((arC .u8 x.1.1.1) ++ ((.v (.int .u32 x.1.1.2)) :: ((.v (.int .u32 x.1.2.1)) :: ((.slice .no (List.map eS_I_u8 x.1.2.2)) :: [])))), .ref (arC .u8 x.2)], fun _ y => (.one (.v (.bool y)), []), fun x => Lreplace_Accept_2_1__r x.1 x.2⟩
theorem i44_22 : K44_22.Inj := by intro a b h; simpa [K44_22, Prod.ext_iff, and_assoc] using h
theorem G44_22_eq {a0 a1 y} (h : Lreplace_Accept_2_1__r a0 a1 = some y) : K44_22.G (K44_22.E (a0, a1)) = some (K44_22.R (a0, a1) y) := i44_22.eq h
noncomputable abbrev K73_23 : Con ((List Tapi_Input) × (Arr 32)) Int := ⟨fun x => [.one (.slice .no (List.map eapi_Input x.1)), .clo 44 [.ref (arC .u8 x.2)]], fun _ y => (.one (.v (.int .i64 y)), []), fun x => Lslices_IndexFunc_of__api_Input_api_Input__replace_Accept_2_1 x.1 x.2⟩
theorem i73_23 : K73_23.Inj := by intro a b h; simpa [K73_23, Prod.ext_iff, and_assoc] using h
theorem G73_23_eq {a0 a1 y} (h : Lslices_IndexFunc_of__api_Input_api_Input__replace_Accept_2_1 a0 a1 = some y) : K73_23.G (K73_23.E (a0, a1)) = some (K73_23.R (a0, a1) y) := i73_23.eq h
noncomputable abbrev K33_24 : Con ((List Tapi_Input) × (Arr 32)) Bool := ⟨fun x => [.one (.slice .no (List.map eapi_Input x.1)), .clo 44 [.ref (arC .u8 x.2)]], fun _ y => (.one (.v (.bool y)), []), fun x => Lslices_ContainsFunc_of__api_Input_api_Input__replace_Accept_2_1 x.1 x.2⟩
theorem i33_24 : K33_24.Inj := by intro a b h; simpa [K33_24, Prod.ext_iff, and_assoc] using h
theorem G33_24_eq {a0 a1 y} (h : Lslices_ContainsFunc_of__api_Input_api_Input__replace_Accept_2_1 a0 a1 = some y) : K33_24.G (K33_24.E (a0, a1)) = some (K33_24.R (a0, a1) y) := i33_24.eq h
noncomputable abbrev K42_25 : Con (Tapi_Entry × Tapi_Tx) Bool := ⟨fun x => [.agg ([.v (.int .u32 x.1.1.1), .slice .no (List.map eapi_Input x.1.1.2.1), .slice .no (List.map eapi_Output x.1.1.2.2.1), .v (.int .u32 x.1.1.2.2.2), .v (.int .i64 x.1.2)]), .ref ([.v (.int .u32 x.2.1), .slice .no (List.map eapi_Input x.2.2.1), .slice .no (List.map eapi_Output x.2.2.2.1), .v (.int .u32 x.2.2.2.2)])], fun _ y => (.one (.v (.bool y)), []), fun x => Lreplace_Accept_2__r x.1 x.2⟩
theorem i42_25 : K42_25.Inj := by intro a b h; simpa [K42_25, Prod.ext_iff, and_assoc] using h
theorem G42_25_eq {a0 a1 y} (h : Lreplace_Accept_2__r a0 a1 = some y) : K42_25.G (K42_25.E (a0, a1)) = some (K42_25.R (a0, a1) y) := i42_25.eq h
noncomputable abbrev K77_26 : Con ((List Tapi_Entry) × Tapi_Tx) Int := ⟨fun x => [.one (.slice .no (List.map eapi_Entry x.1)), .clo 42 [.ref ([.v (.int .u32 x.2.1), .slice .no (List.map eapi_Input x.2.2.1), .slice .no (List.map eapi_Output x.2.2.2.1), .v (.int .u32 x.2.2.2.2)])]], fun _ y => (.one (.v (.int .i64 y)), []), fun x => Lslices_IndexFunc_of__api_Entry_api_Entry__replace_Accept_2 x.1 x.2⟩
theorem i77_26 : K77_26.Inj := by intro a b h; simpa [K77_26, Prod.ext_iff, and_assoc] using h
theorem G77_26_eq {a0 a1 y} (h : Lslices_IndexFunc_of__api_Entry_api_Entry__replace_Accept_2 a0 a1 = some y) : K77_26.G (K77_26.E (a0, a1)) = some (K77_26.R (a0, a1) y) := i77_26.eq h
noncomputable abbrev K41_27 : Con ((List Tapi_Entry) × Tapi_Tx) Bool := ⟨fun x => [.one (.slice .no (List.map eapi_Entry x.1)), .clo 42 [.ref ([.v (.int .u32 x.2.1), .slice .no (List.map eapi_Input x.2.2.1), .slice .no (List.map eapi_Output x.2.2.2.1), .v (.int .u32 x.2.2.2.2)])]], fun _ y => (.one (.v (.bool y)), []), fun x => Lslices_ContainsFunc_of__api_Entry_api_Entry__replace_Accept_2 x.1 x.2⟩
theorem i41_27 : K41_27.Inj := by intro a b h; simpa [K41_27, Prod.ext_iff, and_assoc] using h
theorem G41_27_eq {a0 a1 y} (h : Lslices_ContainsFunc_of__api_Entry_api_Entry__replace_Accept_2 a0 a1 = some y) : K41_27.G (K41_27.E (a0, a1)) = some (K41_27.R (a0, a1) y) := i41_27.eq h
noncomputable abbrev K40_28 : Con (Tapi_Tx × (List Tapi_Entry)) Bool := ⟨fun x => [.clo 42 [.ref ([.v (.int .u32 x.1.1), .slice .no (List.map eapi_Input x.1.2.1), .slice .no (List.map eapi_Output x.1.2.2.1), .v (.int .u32 x.1.2.2.2)])], .io ([.slice .no (List.map eapi_Entry x.2)])], fun x y => (.one (.v (.bool y)), [[.slice .no (List.map eapi_Entry x.2)]]), fun x => Lreplace_Accept_1__replace_Accept_2_p x.1 x.2⟩
theorem i40_28 : K40_28.Inj := by intro a b h; simpa [K40_28, Prod.ext_iff, and_assoc] using h
theorem G40_28_eq {a0 a1 y} (h : Lreplace_Accept_1__replace_Accept_2_p a0 a1 = some y) : K40_28.G (K40_28.E (a0, a1)) = some (K40_28.R (a0, a1) y) := i40_28.eq h
noncomputable abbrev K18 : Con ((List Tapi_Entry) × Tapi_Tx × Int) Int := ⟨fun x => [.one (.slice .no (List.map eapi_Entry x.1)), .agg ([.v (.int .u32 x.2.1.1), .slice .no (List.map eapi_Input x.2.1.2.1), .slice .no (List.map eapi_Output x.2.1.2.2.1), .v (.int .u32 x.2.1.2.2.2)]), .one (.v (.int .i64 x.2.2))], fun _ y => (.one (.v (.int .i64 y)), []), fun x => Lreplace_Accept x.1 x.2.1 x.2.2⟩
theorem i18 : K18.Inj := by intro a b h; simpa [K18, Prod.ext_iff, and_assoc] using h
theorem G18_eq {a0 a1 a2 y} (h : Lreplace_Accept a0 a1 a2 = some y) : K18.G (K18.E (a0, a1, a2)) = some (K18.R (a0, a1, a2) y) := i18.eq h
noncomputable abbrev K8 : Con Unit Bool := ⟨fun _ => [], fun _ y => (.one (.v (.bool y)), []), fun _ => Llaw36_sane⟩
theorem i8 : K8.Inj := fun _ _ _ => rfl
theorem G8_eq { y} (h : Llaw36_sane  = some y) : K8.G (K8.E ()) = some (K8.R () y) := i8.eq h
noncomputable abbrev K9 : Con ((List Int)) Tlightclientmill_Deck := ⟨fun x => [.one (.slice .no (intsR .i64 x))], fun _ y => (.io ([.slice .no (intsR .i64 y.1), .v (.int .i64 y.2)]), []), fun x => Lmill_New x⟩
theorem i9 : K9.Inj := by intro a b h; simpa [K9, Prod.ext_iff, and_assoc] using h
theorem G9_eq {a0 y} (h : Lmill_New a0 = some y) : K9.G (K9.E a0) = some (K9.R a0 y) := i9.eq h
noncomputable abbrev K25 : Con (Int × Int) Int := ⟨fun x => [.one (.v (.int .i64 x.1)), .one (.v (.int .i64 x.2))], fun _ y => (.one (.v (.int .i64 y)), []), fun x => Lmill_Mod x.1 x.2⟩
theorem i25 : K25.Inj := by intro a b h; simpa [K25, Prod.ext_iff, and_assoc] using h
theorem G25_eq {a0 a1 y} (h : Lmill_Mod a0 a1 = some y) : K25.G (K25.E (a0, a1)) = some (K25.R (a0, a1) y) := i25.eq h
noncomputable abbrev K38 : Con Tlightclientmill_Deck (Bool × Tlightclientmill_Deck) := ⟨fun x => [.io ([.slice .no (intsR .i64 x.1), .v (.int .i64 x.2)])], fun _ y => (.one (.v (.bool y.1)), [[.slice .no (intsR .i64 y.2.1), .v (.int .i64 y.2.2)]]), fun x => Lmill_Deck_Left x⟩
theorem i38 : K38.Inj := by intro a b h; simpa [K38, Prod.ext_iff, and_assoc] using h
theorem G38_eq {a0 y} (h : Lmill_Deck_Left a0 = some y) : K38.G (K38.E a0) = some (K38.R a0 y) := i38.eq h
noncomputable abbrev K17 : Con (Tlightclientmill_Deck × Int) (Int × Tlightclientmill_Deck) := ⟨fun x => [.io ([.slice .no (intsR .i64 x.1.1), .v (.int .i64 x.1.2)]), .one (.v (.int .i64 x.2))], fun _ y => (.one (.v (.int .i64 y.1)), [[.slice .no (intsR .i64 y.2.1), .v (.int .i64 y.2.2)]]), fun x => Lmill_Deck_Next x.1 x.2⟩
theorem i17 : K17.Inj := by intro a b h; simpa [K17, Prod.ext_iff, and_assoc] using h
theorem G17_eq {a0 a1 y} (h : Lmill_Deck_Next a0 a1 = some y) : K17.G (K17.E (a0, a1)) = some (K17.R (a0, a1) y) := i17.eq h
noncomputable abbrev K23 : Con Int ((List Int)) := ⟨fun x => [.one (.v (.int .u8 x))], fun _ y => (.one (.own 1 (intsR .u8 y)), []), fun x => Lmade_Script x⟩
theorem i23 : K23.Inj := by intro a b h; simpa [K23, Prod.ext_iff, and_assoc] using h
theorem G23_eq {a0 y} (h : Lmade_Script a0 = some y) : K23.G (K23.E a0) = some (K23.R a0 y) := i23.eq h
noncomputable abbrev K31 : Con (Tlightclientmill_Deck × Int × Int) (Int × Tlightclientmill_Deck) := ⟨fun x => [.io ([.slice .no (intsR .i64 x.1.1), .v (.int .i64 x.1.2)]), .one (.v (.int .i64 x.2.1)), .one (.v (.int .i64 x.2.2))], fun _ y => (.one (.v (.int .i64 y.1)), [[.slice .no (intsR .i64 y.2.1), .v (.int .i64 y.2.2)]]), fun x => Lmill_Deck_Range x.1 x.2.1 x.2.2⟩
theorem i31 : K31.Inj := by intro a b h; simpa [K31, Prod.ext_iff, and_assoc] using h
theorem G31_eq {a0 a1 a2 y} (h : Lmill_Deck_Range a0 a1 a2 = some y) : K31.G (K31.E (a0, a1, a2)) = some (K31.R (a0, a1, a2) y) := i31.eq h
noncomputable abbrev K32 : Con Tlightclientmill_Deck ((Arr 32) × Tlightclientmill_Deck) := ⟨fun x => [.io ([.slice .no (intsR .i64 x.1), .v (.int .i64 x.2)])], fun _ y => (.agg (arC .u8 y.1), [[.slice .no (intsR .i64 y.2.1), .v (.int .i64 y.2.2)]]), fun x => Lmill_Hash x⟩
theorem i32 : K32.Inj := by intro a b h; simpa [K32, Prod.ext_iff, and_assoc] using h
theorem G32_eq {a0 y} (h : Lmill_Hash a0 = some y) : K32.G (K32.E a0) = some (K32.R a0 y) := i32.eq h
noncomputable abbrev K10 : Con Tlightclientmill_Deck (Tapi_Tx × Tlightclientmill_Deck) := ⟨fun x => [.io ([.slice .no (intsR .i64 x.1), .v (.int .i64 x.2)])], fun _ y => (.agg ([.v (.int .u32 y.1.1), .own 35 (List.map eapi_Input y.1.2.1), .own 2 (List.map eapi_Output y.1.2.2.1), .v (.int .u32 y.1.2.2.2)]), [[.slice .no (intsR .i64 y.2.1), .v (.int .i64 y.2.2)]]), fun x => Lmill_Tx x⟩
theorem i10 : K10.Inj := by intro a b h; simpa [K10, Prod.ext_iff, and_assoc] using h
theorem G10_eq {a0 y} (h : Lmill_Tx a0 = some y) : K10.G (K10.E a0) = some (K10.R a0 y) := i10.eq h
noncomputable abbrev K15 : Con (Tlightclientmill_Deck × Int) ((List Tapi_Entry) × Tlightclientmill_Deck) := ⟨fun x => [.io ([.slice .no (intsR .i64 x.1.1), .v (.int .i64 x.1.2)]), .one (.v (.int .i64 x.2))], fun _ y => (.one (.own 5 (List.map eapi_Entry y.1)), [[.slice .no (intsR .i64 y.2.1), .v (.int .i64 y.2.2)]]), fun x => Lmill_Pool x.1 x.2⟩
theorem i15 : K15.Inj := by intro a b h; simpa [K15, Prod.ext_iff, and_assoc] using h
theorem G15_eq {a0 a1 y} (h : Lmill_Pool a0 a1 = some y) : K15.G (K15.E (a0, a1)) = some (K15.R (a0, a1) y) := i15.eq h
noncomputable abbrev K101 : Con ((List Int) × (List Int)) ((List Int)) := ⟨fun x => [.one (.slice .no (intsR .u8 x.1)), .one (.slice .no (intsR .u8 x.2))], fun _ y => (.one (.own 1 (intsR .u8 y)), []), fun x => Lref01_joined x.1 x.2⟩
theorem i101 : K101.Inj := by intro a b h; simpa [K101, Prod.ext_iff, and_assoc] using h
theorem G101_eq {a0 a1 y} (h : Lref01_joined a0 a1 = some y) : K101.G (K101.E (a0, a1)) = some (K101.R (a0, a1) y) := i101.eq h
noncomputable abbrev K102 : Con (Int × Int) ((List Int)) := ⟨fun x => [.one (.v (.int .u64 x.1)), .one (.v (.int .i64 x.2))], fun _ y => (.one (.own 1 (intsR .u8 y)), []), fun x => Lref01_little x.1 x.2⟩
theorem i102 : K102.Inj := by intro a b h; simpa [K102, Prod.ext_iff, and_assoc] using h
theorem G102_eq {a0 a1 y} (h : Lref01_little a0 a1 = some y) : K102.G (K102.E (a0, a1)) = some (K102.R (a0, a1) y) := i102.eq h
noncomputable abbrev K89 : Con ((List Int) × Int) ((List Int)) := ⟨fun x => [.one (.slice .no (intsR .u8 x.1)), .one (.v (.int .u32 x.2))], fun _ y => (.one (.own 1 (intsR .u8 y)), []), fun x => Lref01_AppendU32 x.1 x.2⟩
theorem i89 : K89.Inj := by intro a b h; simpa [K89, Prod.ext_iff, and_assoc] using h
theorem G89_eq {a0 a1 y} (h : Lref01_AppendU32 a0 a1 = some y) : K89.G (K89.E (a0, a1)) = some (K89.R (a0, a1) y) := i89.eq h
noncomputable abbrev K90 : Con ((List Int) × Int) ((List Int)) := ⟨fun x => [.one (.slice .no (intsR .u8 x.1)), .one (.v (.int .u64 x.2))], fun _ y => (.one (.own 1 (intsR .u8 y)), []), fun x => Lref01_AppendSize x.1 x.2⟩
theorem i90 : K90.Inj := by intro a b h; simpa [K90, Prod.ext_iff, and_assoc] using h
theorem G90_eq {a0 a1 y} (h : Lref01_AppendSize a0 a1 = some y) : K90.G (K90.E (a0, a1)) = some (K90.R (a0, a1) y) := i90.eq h
noncomputable abbrev K103 : Con ((List Int) × (Arr 32)) ((List Int)) := ⟨fun x => [.one (.slice .no (intsR .u8 x.1)), .agg (arC .u8 x.2)], fun _ y => (.one (.own 1 (intsR .u8 y)), []), fun x => Lref01_AppendHash x.1 x.2⟩
theorem i103 : K103.Inj := by intro a b h; simpa [K103, Prod.ext_iff, and_assoc] using h
theorem G103_eq {a0 a1 y} (h : Lref01_AppendHash a0 a1 = some y) : K103.G (K103.E (a0, a1)) = some (K103.R (a0, a1) y) := i103.eq h
noncomputable abbrev K91 : Con Tapi_OutPoint ((List Int)) := ⟨fun x => [.agg ((arC .u8 x.1) ++ ((.v (.int .u32 x.2)) :: []))], fun _ y => (.one (.own 1 (intsR .u8 y)), []), fun x => Lref09_Point x⟩
theorem i91 : K91.Inj := by intro a b h; simpa [K91, Prod.ext_iff, and_assoc] using h
theorem G91_eq {a0 y} (h : Lref09_Point a0 = some y) : K91.G (K91.E a0) = some (K91.R a0 y) := i91.eq h
noncomputable abbrev K93 : Con ((List Int) × (List Int)) ((List Int)) := ⟨fun x => [.one (.slice .no (intsR .u8 x.1)), .one (.slice .no (intsR .u8 x.2))], fun _ y => (.one (.own 1 (intsR .u8 y)), []), fun x => Lref01_AppendBytes x.1 x.2⟩
theorem i93 : K93.Inj := by intro a b h; simpa [K93, Prod.ext_iff, and_assoc] using h
theorem G93_eq {a0 a1 y} (h : Lref01_AppendBytes a0 a1 = some y) : K93.G (K93.E (a0, a1)) = some (K93.R (a0, a1) y) := i93.eq h
noncomputable abbrev K104 : Con ((List Int) × Int) ((List Int)) := ⟨fun x => [.one (.slice .no (intsR .u8 x.1)), .one (.v (.int .u64 x.2))], fun _ y => (.one (.own 1 (intsR .u8 y)), []), fun x => Lref01_AppendU64 x.1 x.2⟩
theorem i104 : K104.Inj := by intro a b h; simpa [K104, Prod.ext_iff, and_assoc] using h
theorem G104_eq {a0 a1 y} (h : Lref01_AppendU64 a0 a1 = some y) : K104.G (K104.E (a0, a1)) = some (K104.R (a0, a1) y) := i104.eq h
noncomputable abbrev K92 : Con Tapi_Output ((List Int)) := ⟨fun x => [.agg ([.v (.int .i64 x.1), .slice .no (intsR .u8 x.2)])], fun _ y => (.one (.own 1 (intsR .u8 y)), []), fun x => Lref09_Out x⟩
theorem i92 : K92.Inj := by intro a b h; simpa [K92, Prod.ext_iff, and_assoc] using h
theorem G92_eq {a0 y} (h : Lref09_Out a0 = some y) : K92.G (K92.E a0) = some (K92.R a0 y) := i92.eq h
noncomputable abbrev K64 : Con (Tapi_Tx × Bool) ((List Int)) := ⟨fun x => [.agg ([.v (.int .u32 x.1.1), .slice .no (List.map eapi_Input x.1.2.1), .slice .no (List.map eapi_Output x.1.2.2.1), .v (.int .u32 x.1.2.2.2)]), .one (.v (.bool x.2))], fun _ y => (.one (.own 1 (intsR .u8 y)), []), fun x => Lref09_encode x.1 x.2⟩
theorem i64 : K64.Inj := by intro a b h; simpa [K64, Prod.ext_iff, and_assoc] using h
theorem G64_eq {a0 a1 y} (h : Lref09_encode a0 a1 = some y) : K64.G (K64.E (a0, a1)) = some (K64.R (a0, a1) y) := i64.eq h
noncomputable abbrev K63 : Con Tapi_Tx Bool := ⟨fun x => [.agg ([.v (.int .u32 x.1), .slice .no (List.map eapi_Input x.2.1), .slice .no (List.map eapi_Output x.2.2.1), .v (.int .u32 x.2.2.2)])], fun _ y => (.one (.v (.bool y)), []), fun x => Lref09_Fits x⟩
theorem i63 : K63.Inj := by intro a b h; simpa [K63, Prod.ext_iff, and_assoc] using h
theorem G63_eq {a0 y} (h : Lref09_Fits a0 = some y) : K63.G (K63.E a0) = some (K63.R a0 y) := i63.eq h
noncomputable abbrev K111 : Con Int ((List Int)) := ⟨fun x => [.one (.v (.int .u64 x))], fun _ y => (.one (.own 1 (intsR .u8 y)), []), fun x => Lref03_Pad x⟩
theorem i111 : K111.Inj := by intro a b h; simpa [K111, Prod.ext_iff, and_assoc] using h
theorem G111_eq {a0 y} (h : Lref03_Pad a0 = some y) : K111.G (K111.E a0) = some (K111.R a0 y) := i111.eq h
noncomputable abbrev K112 : Con Unit ((Arr 8)) := ⟨fun _ => [], fun _ y => (.agg (arC .u32 y), []), fun _ => Lref03_Initial⟩
theorem i112 : K112.Inj := fun _ _ _ => rfl
theorem G112_eq { y} (h : Lref03_Initial  = some y) : K112.G (K112.E ()) = some (K112.R () y) := i112.eq h
noncomputable abbrev K121 : Con (Int × Int) Int := ⟨fun x => [.one (.v (.int .u32 x.1)), .one (.v (.int .i64 x.2))], fun _ y => (.one (.v (.int .u32 y)), []), fun x => Lref03_rotr x.1 x.2⟩
theorem i121 : K121.Inj := by intro a b h; simpa [K121, Prod.ext_iff, and_assoc] using h
theorem G121_eq {a0 a1 y} (h : Lref03_rotr a0 a1 = some y) : K121.G (K121.E (a0, a1)) = some (K121.R (a0, a1) y) := i121.eq h
noncomputable abbrev K119 : Con ((Arr 64)) ((Arr 64)) := ⟨fun x => [.agg (arC .u8 x)], fun _ y => (.agg (arC .u32 y), []), fun x => Lref03_schedule x⟩
theorem i119 : K119.Inj := by intro a b h; simpa [K119, Prod.ext_iff, and_assoc] using h
theorem G119_eq {a0 y} (h : Lref03_schedule a0 = some y) : K119.G (K119.E a0) = some (K119.R a0 y) := i119.eq h
noncomputable abbrev K120 : Con Unit ((Arr 64)) := ⟨fun _ => [], fun _ y => (.agg (arC .u32 y), []), fun _ => Lref03_constants⟩
theorem i120 : K120.Inj := fun _ _ _ => rfl
theorem G120_eq { y} (h : Lref03_constants  = some y) : K120.G (K120.E ()) = some (K120.R () y) := i120.eq h
noncomputable abbrev K113 : Con ((Arr 8) × (Arr 64)) ((Arr 8)) := ⟨fun x => [.agg (arC .u32 x.1), .agg (arC .u8 x.2)], fun _ y => (.agg (arC .u32 y), []), fun x => Lref03_Compress x.1 x.2⟩
theorem i113 : K113.Inj := by intro a b h; simpa [K113, Prod.ext_iff, and_assoc] using h
theorem G113_eq {a0 a1 y} (h : Lref03_Compress a0 a1 = some y) : K113.G (K113.E (a0, a1)) = some (K113.R (a0, a1) y) := i113.eq h
def E97 (x : (List Int)) : List PV := [.one (.slice .no (intsR .u8 x))]
theorem E97i : ∀ a b, E97 a = E97 b → a = b := by
  rintro a0 b0 h
  simpa [E97, and_assoc] using h
def R97 (x : (List Int)) (y : (Arr 32)) : PV × List (List Cell) := (.agg (arC .u8 y), [])
noncomputable def G97 := lift E97 fun x => (Lref03_Sum x).map (R97 x)
theorem G97_eq {a0 : (List Int)} {y : (Arr 32)} (h : Lref03_Sum a0 = some y) : G97 (E97 a0) = some (R97 a0 y) := lift_som E97i h
noncomputable abbrev K74 : Con ((List Int)) ((Arr 32)) := ⟨fun x => [.one (.slice .no (intsR .u8 x))], fun _ y => (.agg (arC .u8 y), []), fun x => Lref03_Double x⟩
theorem i74 : K74.Inj := by intro a b h; simpa [K74, Prod.ext_iff, and_assoc] using h
theorem G74_eq {a0 y} (h : Lref03_Double a0 = some y) : K74.G (K74.E a0) = some (K74.R a0 y) := i74.eq h
noncomputable abbrev K37 : Con Tapi_Tx ((Arr 32)) := ⟨fun x => [.agg ([.v (.int .u32 x.1), .slice .no (List.map eapi_Input x.2.1), .slice .no (List.map eapi_Output x.2.2.1), .v (.int .u32 x.2.2.2)])], fun _ y => (.agg (arC .u8 y), []), fun x => Lref09_ID x⟩
theorem i37 : K37.Inj := by intro a b h; simpa [K37, Prod.ext_iff, and_assoc] using h
theorem G37_eq {a0 y} (h : Lref09_ID a0 = some y) : K37.G (K37.E a0) = some (K37.R a0 y) := i37.eq h
noncomputable abbrev K16 : Con (Tlightclientmill_Deck × Tapi_Tx) (Tapi_Tx × Tlightclientmill_Deck) := ⟨fun x => [.io ([.slice .no (intsR .i64 x.1.1), .v (.int .i64 x.1.2)]), .agg ([.v (.int .u32 x.2.1), .slice .no (List.map eapi_Input x.2.2.1), .slice .no (List.map eapi_Output x.2.2.2.1), .v (.int .u32 x.2.2.2.2)])], fun _ y => (.agg ([.v (.int .u32 y.1.1), .own 35 (List.map eapi_Input y.1.2.1), .own 2 (List.map eapi_Output y.1.2.2.1), .v (.int .u32 y.1.2.2.2)]), [[.slice .no (intsR .i64 y.2.1), .v (.int .i64 y.2.2)]]), fun x => Llaw36_heir x.1 x.2⟩
theorem i16 : K16.Inj := by intro a b h; simpa [K16, Prod.ext_iff, and_assoc] using h
theorem G16_eq {a0 a1 y} (h : Llaw36_heir a0 a1 = some y) : K16.G (K16.E (a0, a1)) = some (K16.R (a0, a1) y) := i16.eq h
noncomputable abbrev K57 : Con ((List Tapi_Entry)) Bool := ⟨fun x => [.one (.slice .no (List.map eapi_Entry x))], fun _ y => (.one (.v (.bool y)), []), fun x => Lreplace_sound x⟩
theorem i57 : K57.Inj := by intro a b h; simpa [K57, Prod.ext_iff, and_assoc] using h
theorem G57_eq {a0 y} (h : Lreplace_sound a0 = some y) : K57.G (K57.E a0) = some (K57.R a0 y) := i57.eq h
def E85 (x : (List Tapi_Input)) : List PV := [.one (.slice .no (List.map eapi_Input x))]
theorem E85i : ∀ a b, E85 a = E85 b → a = b := by
  rintro a0 b0 h
  simpa [E85, and_assoc] using h
def R85 (x : (List Tapi_Input)) (y : (List Tapi_Input)) : PV × List (List Cell) := (.one (.own 35 (List.map eapi_Input y)), [])
noncomputable def G85 := lift E85 fun x => (Lslices_Clone_of__api_Input_api_Input x).map (R85 x)
theorem G85_eq {a0 : (List Tapi_Input)} {y : (List Tapi_Input)} (h : Lslices_Clone_of__api_Input_api_Input a0 = some y) : G85 (E85 a0) = some (R85 a0 y) := lift_som E85i h
def E86 (x : (List Tapi_Output)) : List PV := [.one (.slice .no (List.map eapi_Output x))]
theorem E86i : ∀ a b, E86 a = E86 b → a = b := by
  rintro a0 b0 h
  simpa [E86, and_assoc] using h
def R86 (x : (List Tapi_Output)) (y : (List Tapi_Output)) : PV × List (List Cell) := (.one (.own 2 (List.map eapi_Output y)), [])
noncomputable def G86 := lift E86 fun x => (Lslices_Clone_of__api_Output_api_Output x).map (R86 x)
theorem G86_eq {a0 : (List Tapi_Output)} {y : (List Tapi_Output)} (h : Lslices_Clone_of__api_Output_api_Output a0 = some y) : G86 (E86 a0) = some (R86 a0 y) := lift_som E86i h
def E88 (x : (List Int)) : List PV := [.one (.slice .no (intsR .u8 x))]
theorem E88i : ∀ a b, E88 a = E88 b → a = b := by
  rintro a0 b0 h
  simpa [E88, and_assoc] using h
def R88 (x : (List Int)) (y : (List Int)) : PV × List (List Cell) := (.one (.own 1 (intsR .u8 y)), [])
noncomputable def G88 := lift E88 fun x => (Lbytes_Clone x).map (R88 x)
theorem G88_eq {a0 : (List Int)} {y : (List Int)} (h : Lbytes_Clone a0 = some y) : G88 (E88 a0) = some (R88 a0 y) := lift_som E88i h
def E100 (x : (List (List Int))) : List PV := [.one (.slice .no (List.map eS_I_u8 x))]
theorem E100i : ∀ a b, E100 a = E100 b → a = b := by
  rintro a0 b0 h
  simpa [E100, and_assoc] using h
def R100 (x : (List (List Int))) (y : (List (List Int))) : PV × List (List Cell) := (.one (.own 1 (List.map eS_I_u8 y)), [])
noncomputable def G100 := lift E100 fun x => (Lslices_Clone_of__byte_byte x).map (R100 x)
theorem G100_eq {a0 : (List (List Int))} {y : (List (List Int))} (h : Lslices_Clone_of__byte_byte a0 = some y) : G100 (E100 a0) = some (R100 a0 y) := lift_som E100i h
noncomputable abbrev K87 : Con ((List (List Int))) ((List (List Int))) := ⟨fun x => [.one (.slice .no (List.map eS_I_u8 x))], fun _ y => (.one (.own 1 (List.map eS_I_u8 y)), []), fun x => Lreplace_cloneItems x⟩
theorem i87 : K87.Inj := by intro a b h; simpa [K87, Prod.ext_iff, and_assoc] using h
theorem G87_eq {a0 y} (h : Lreplace_cloneItems a0 = some y) : K87.G (K87.E a0) = some (K87.R a0 y) := i87.eq h
noncomputable abbrev K59 : Con Tapi_Tx Tapi_Tx := ⟨fun x => [.agg ([.v (.int .u32 x.1), .slice .no (List.map eapi_Input x.2.1), .slice .no (List.map eapi_Output x.2.2.1), .v (.int .u32 x.2.2.2)])], fun _ y => (.agg ([.v (.int .u32 y.1), .own 35 (List.map eapi_Input y.2.1), .own 2 (List.map eapi_Output y.2.2.1), .v (.int .u32 y.2.2.2)]), []), fun x => Lreplace_cloneTx x⟩
theorem i59 : K59.Inj := by intro a b h; simpa [K59, Prod.ext_iff, and_assoc] using h
theorem G59_eq {a0 y} (h : Lreplace_cloneTx a0 = some y) : K59.G (K59.E a0) = some (K59.R a0 y) := i59.eq h
noncomputable abbrev K58_29 : Con (Tapi_Entry × (Arr 32)) Bool := ⟨fun x => [.agg ([.v (.int .u32 x.1.1.1), .slice .no (List.map eapi_Input x.1.1.2.1), .slice .no (List.map eapi_Output x.1.1.2.2.1), .v (.int .u32 x.1.1.2.2.2), .v (.int .i64 x.1.2)]), .ref (arC .u8 x.2)], fun _ y => (.one (.v (.bool y)), []), fun x => Lreplace_Insert_1__r x.1 x.2⟩
theorem i58_29 : K58_29.Inj := by intro a b h; simpa [K58_29, Prod.ext_iff, and_assoc] using h
theorem G58_29_eq {a0 a1 y} (h : Lreplace_Insert_1__r a0 a1 = some y) : K58_29.G (K58_29.E (a0, a1)) = some (K58_29.R (a0, a1) y) := i58_29.eq h
noncomputable abbrev K77_30 : Con ((List Tapi_Entry) × (Arr 32)) Int := ⟨fun x => [.one (.slice .no (List.map eapi_Entry x.1)), .clo 58 [.ref (arC .u8 x.2)]], fun _ y => (.one (.v (.int .i64 y)), []), fun x => Lslices_IndexFunc_of__api_Entry_api_Entry__replace_Insert_1 x.1 x.2⟩
theorem i77_30 : K77_30.Inj := by intro a b h; simpa [K77_30, Prod.ext_iff, and_assoc] using h
theorem G77_30_eq {a0 a1 y} (h : Lslices_IndexFunc_of__api_Entry_api_Entry__replace_Insert_1 a0 a1 = some y) : K77_30.G (K77_30.E (a0, a1)) = some (K77_30.R (a0, a1) y) := i77_30.eq h
noncomputable abbrev K41_31 : Con ((List Tapi_Entry) × (Arr 32)) Bool := ⟨fun x => [.one (.slice .no (List.map eapi_Entry x.1)), .clo 58 [.ref (arC .u8 x.2)]], fun _ y => (.one (.v (.bool y)), []), fun x => Lslices_ContainsFunc_of__api_Entry_api_Entry__replace_Insert_1 x.1 x.2⟩
theorem i41_31 : K41_31.Inj := by intro a b h; simpa [K41_31, Prod.ext_iff, and_assoc] using h
theorem G41_31_eq {a0 a1 y} (h : Lslices_ContainsFunc_of__api_Entry_api_Entry__replace_Insert_1 a0 a1 = some y) : K41_31.G (K41_31.E (a0, a1)) = some (K41_31.R (a0, a1) y) := i41_31.eq h
noncomputable abbrev K20 : Con ((List Tapi_Entry) × Tapi_Tx × Int × Int) ((List Tapi_Entry) × (List (Arr 32)) × Int) := ⟨fun x => [.one (.slice .no (List.map eapi_Entry x.1)), .agg ([.v (.int .u32 x.2.1.1), .slice .no (List.map eapi_Input x.2.1.2.1), .slice .no (List.map eapi_Output x.2.1.2.2.1), .v (.int .u32 x.2.1.2.2.2)]), .one (.v (.int .i64 x.2.2.1)), .one (.v (.int .i64 x.2.2.2))], fun _ y => (.tup [.one (.slice .no (List.map eapi_Entry y.1)), .one (.slice .no (List.map (arC .u8) y.2.1)), .one (.v (.int .i64 y.2.2))], []), fun x => Lreplace_Insert x.1 x.2.1 x.2.2.1 x.2.2.2⟩
theorem i20 : K20.Inj := by intro a b h; simpa [K20, Prod.ext_iff, and_assoc] using h
theorem G20_eq {a0 a1 a2 a3 y} (h : Lreplace_Insert a0 a1 a2 a3 = some y) : K20.G (K20.E (a0, a1, a2, a3)) = some (K20.R (a0, a1, a2, a3) y) := i20.eq h
noncomputable abbrev K62 : Con ((List Int) × (List Int)) Bool := ⟨fun x => [.one (.slice .no (intsR .u8 x.1)), .one (.slice .no (intsR .u8 x.2))], fun _ y => (.one (.v (.bool y)), []), fun x => Lref01_Same x.1 x.2⟩
theorem i62 : K62.Inj := by intro a b h; simpa [K62, Prod.ext_iff, and_assoc] using h
theorem G62_eq {a0 a1 y} (h : Lref01_Same a0 a1 = some y) : K62.G (K62.E (a0, a1)) = some (K62.R (a0, a1) y) := i62.eq h
noncomputable abbrev K30 : Con (Tapi_Output × Tapi_Output) Bool := ⟨fun x => [.agg ([.v (.int .i64 x.1.1), .slice .no (intsR .u8 x.1.2)]), .agg ([.v (.int .i64 x.2.1), .slice .no (intsR .u8 x.2.2)])], fun _ y => (.one (.v (.bool y)), []), fun x => Lref09_SameOut x.1 x.2⟩
theorem i30 : K30.Inj := by intro a b h; simpa [K30, Prod.ext_iff, and_assoc] using h
theorem G30_eq {a0 a1 y} (h : Lref09_SameOut a0 a1 = some y) : K30.G (K30.E (a0, a1)) = some (K30.R (a0, a1) y) := i30.eq h
noncomputable abbrev K21 : Con (Tapi_Tx × Tapi_Tx) Bool := ⟨fun x => [.agg ([.v (.int .u32 x.1.1), .slice .no (List.map eapi_Input x.1.2.1), .slice .no (List.map eapi_Output x.1.2.2.1), .v (.int .u32 x.1.2.2.2)]), .agg ([.v (.int .u32 x.2.1), .slice .no (List.map eapi_Input x.2.2.1), .slice .no (List.map eapi_Output x.2.2.2.1), .v (.int .u32 x.2.2.2.2)])], fun _ y => (.one (.v (.bool y)), []), fun x => Lref09_SameTx x.1 x.2⟩
theorem i21 : K21.Inj := by intro a b h; simpa [K21, Prod.ext_iff, and_assoc] using h
theorem G21_eq {a0 a1 y} (h : Lref09_SameTx a0 a1 = some y) : K21.G (K21.E (a0, a1)) = some (K21.R (a0, a1) y) := i21.eq h
def E5 (x : (List Int) × Int) : List PV := [.one (.slice .no (intsR .i64 x.1)), .one (.v (.int .i64 x.2))]
theorem E5i : ∀ a b, E5 a = E5 b → a = b := by
  rintro ⟨a0, a1⟩ ⟨b0, b1⟩ h
  simpa [E5, and_assoc] using h
def R5 (x : (List Int) × Int) (y : Bool) : PV × List (List Cell) := (.one (.v (.bool y)), [])
noncomputable def G5 := lift E5 fun x => (Llaw36_ReplaceEarns x.1 x.2).map (R5 x)
theorem G5_eq {a0 : (List Int)} {a1 : Int} {y : Bool} (h : Llaw36_ReplaceEarns a0 a1 = some y) : G5 (E5 (a0, a1)) = some (R5 (a0, a1) y) := lift_som E5i h
end Go.Proofs.YtconfbgcjkjnkaaDoor
