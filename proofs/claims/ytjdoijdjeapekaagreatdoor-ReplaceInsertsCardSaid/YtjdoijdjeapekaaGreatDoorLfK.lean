import Derived.Test.YtjdoijdjeapekaaGreatDoorLcG3
import Derived.Test.YtjdoijdjeapekaaGreatDoorLcG1
import Derived.Test.YtjdoijdjeapekaaGreatDoorLcG1
import Derived.Test.YtjdoijdjeapekaaGreatDoorLcG3
import Derived.Test.YtjdoijdjeapekaaGreatDoorLcG3
import Derived.Test.YtjdoijdjeapekaaGreatDoorTt
namespace Go.Proofs.YtjdoijdjeapekaaGreatDoor
open Go.RowKit
open Go.Av
open Go.Lc
set_option maxRecDepth 100000
set_option linter.unusedSimpArgs false
set_option linter.unusedVariables false
attribute [simp] tt1 tt2 tt3 tt4 tt5 tt6 tt7 tt8 tt9 tt10 tt11 tt12 tt13 tt14 tt15 tt16 tt17 tt18 tt19 tt21 tt22 tt23 tt24 tt25 tt26 tt27 tt28 tt29 tt30 tt31 tt32 tt33 tt34 tt35 tt36 tt37 tt38 tt39 tt40 tt41 tt43 tt44 tt45 tt46 tt47 tt48 tt49 tt50 tt51 tt52 tt53 tt54 tt55 tt56 tt57 tt58 tt59 tt60 tt61 tt62 tt63 tt64 tt65 tt66 tt67 tt68 tt69 tt70 tt71 tt72 tt73 tt74 tt75 tt76 tt77 tt78 tt79 tt80 tt81 tt82 tt83 tt84 tt85 tt86 tt87 tt88 tt89 tt90 tt91 tt92 tt93 tt94 tt95 tt96 tt97 tt98 tt99 tt100 tt101 tt102 tt103 tt104 tt105 tt106 tt107 tt108 tt109 tt111 tt112 tt113 tt114 tt115 tt116 tt117 tt118 tt119 tt120 tt121 tt122 tt123 tt124 tt125 tt126 tt127 tt128 tt129 tt130 tt131 tt132 tt133 tt134 tt135 tt136 tt137 tt138 tt139 tt140 tt141 tt142 tt143 tt144 ti1 ti2 ti3 ti4 ti5 ti6 ti7 ti8 ti9 ti10 ti11 ti12 ti13 ti14 ti15 ti16 ti17 ti18 ti19 ti21 ti22 ti23 ti24 ti25 ti26 ti27 ti28 ti29 ti30 ti31 ti32 ti33 ti34 ti35 ti36 ti37 ti38 ti39 ti40 ti41 ti43 ti44 ti45 ti46 ti47 ti48 ti49 ti50 ti51 ti52 ti53 ti54 ti55 ti56 ti57 ti58 ti59 ti60 ti61 ti62 ti63 ti64 ti65 ti66 ti67 ti68 ti69 ti70 ti71 ti72 ti73 ti74 ti75 ti76 ti77 ti78 ti79 ti80 ti81 ti82 ti83 ti84 ti85 ti86 ti87 ti88 ti89 ti90 ti91 ti92 ti93 ti94 ti95 ti96 ti97 ti98 ti99 ti100 ti101 ti102 ti103 ti104 ti105 ti106 ti107 ti108 ti109 ti111 ti112 ti113 ti114 ti115 ti116 ti117 ti118 ti119 ti120 ti121 ti122 ti123 ti124 ti125 ti126 ti127 ti128 ti129 ti130 ti131 ti132 ti133 ti134 ti135 ti136 ti137 ti138 ti139 ti140 ti141 ti142 ti143 ti144
@[simp] theorem arCs_any2 {n : Nat} {k : IntKind} {l : List (Arr n)} : l.any ((fun l=>l.any Cell.isSl) ∘ arC k) = false:=by simp [arC,ints]
@[simp↓] theorem intsR_alld {k : IntKind} (m : List Int) (n : Nat) : (∀ l,l∈List.drop n (intsR k m)→l.length = 1) = True:=eq_true fun l h=>intsR_all l (List.mem_of_mem_drop h)
@[simp↓] theorem intsR_allt {k : IntKind} (m : List Int) (n : Nat) : (∀ l,l∈List.take n (intsR k m)→l.length = 1) = True:=eq_true fun l h=>intsR_all l (List.mem_of_mem_take h)
@[simp↓] theorem intsR_all1 {k : IntKind} (m : List Int) : (∀ l,l∈(intsR k m).tail→l.length = 1) = True:=eq_true fun l h=>intsR_all l (List.mem_of_mem_tail h)
@[simp↓] theorem intsR_all1t {k : IntKind} (m : List Int) (n : Nat) : (∀ l,l∈List.take n (intsR k m).tail→l.length = 1) = True:=eq_true fun l h=>intsR_all l (List.mem_of_mem_tail (List.mem_of_mem_take h))
@[simp↓] theorem intsR_all1d {k : IntKind} (m : List Int) (n : Nat) : (∀ l,l∈List.drop n (intsR k m).tail→l.length = 1) = True:=eq_true fun l h=>intsR_all l (List.mem_of_mem_tail (List.mem_of_mem_drop h))
@[simp] theorem arC_z8 : arC .u64 (zA 8) = arC .u64 (zA 4)++arC .u64 (zA 4):=rfl
@[simp] theorem arC_z12 : arC .u64 (zA 12) = arC .u64 (zA 4)++(arC .u64 (zA 4)++arC .u64 (zA 4)):=rfl
@[simp] theorem one_add_le1 {a : Nat} : (1 + a≤a + 1) = True:=eq_true (by omega)
@[simp] theorem cutL_mid {L : List (List Cell)} {x : List Cell} {i m : Nat} (h : i≤m) (hL : L.length = m) : cutL (i + (1 + (m - i))) (List.take i L++x :: List.drop i L) = List.take i L++x :: List.drop i L:=by
  unfold cutL;rw [if_pos];simp
  omega
@[simp] theorem take_mid {L : List (List Cell)} {x : List Cell} {i m : Nat} (hL : L.length = m) : List.take (1 + (m - i)) (x :: List.drop i L) = x :: List.drop i L :=
  List.take_of_length_le (by simp; omega)

theorem arz64 : arC .u8 (zA 64) = arC .u8 (zA 32)++arC .u8 (zA 32):=rfl
@[simp] def eS_I_u8 (x : (List Int)) : List Cell:=[.slice .no (intsR .u8 x)]
theorem eS_I_u8_inj : ∀ a b,eS_I_u8 a = eS_I_u8 b→a = b:=by
  rintro a b h
  simpa [and_assoc] using h
@[simp↓] theorem eS_I_u8_all (m : List (List Int)) : (∀ l,l∈List.map eS_I_u8 m→l.length = 1) = True:=all_map_len (fun a=>by simp) m
@[simp↓] theorem eS_I_u8_alld (m : List (List Int)) (k : Nat) : (∀ l,l∈List.drop k (List.map eS_I_u8 m)→l.length = 1) = True:=eq_true fun l h=>of_eq_true (eS_I_u8_all m) l (List.mem_of_mem_drop h)
@[simp↓] theorem eS_I_u8_allt (m : List (List Int)) (k : Nat) : (∀ l,l∈List.take k (List.map eS_I_u8 m)→l.length = 1) = True:=eq_true fun l h=>of_eq_true (eS_I_u8_all m) l (List.mem_of_mem_take h)
@[simp] theorem eS_I_u8_map {l m : List (List Int)} : List.map eS_I_u8 l = List.map eS_I_u8 m↔l = m:=map_iff eS_I_u8_inj
@[simp] def eapi_Input (x : Tapi_Input) : List Cell:=(arC .u8 x.1.1)++((.v (.int .u32 x.1.2)) :: ((.v (.int .u32 x.2.1)) :: ((.slice .no (List.map eS_I_u8 x.2.2)) :: [])))
theorem eapi_Input_inj : ∀ a b,eapi_Input a = eapi_Input b→a = b:=by
  rintro ⟨⟨a_0_0,a_0_1⟩,a_1,a_2⟩ ⟨⟨b_0_0,b_0_1⟩,b_1,b_2⟩ h
  simpa [and_assoc] using h
@[simp↓] theorem eapi_Input_all (m : List Tapi_Input) : (∀ l,l∈List.map eapi_Input m→l.length = 35) = True:=all_map_len (fun a=>by simp) m
@[simp↓] theorem eapi_Input_alld (m : List Tapi_Input) (k : Nat) : (∀ l,l∈List.drop k (List.map eapi_Input m)→l.length = 35) = True:=eq_true fun l h=>of_eq_true (eapi_Input_all m) l (List.mem_of_mem_drop h)
@[simp↓] theorem eapi_Input_allt (m : List Tapi_Input) (k : Nat) : (∀ l,l∈List.take k (List.map eapi_Input m)→l.length = 35) = True:=eq_true fun l h=>of_eq_true (eapi_Input_all m) l (List.mem_of_mem_take h)
@[simp] theorem eapi_Input_map {l m : List Tapi_Input} : List.map eapi_Input l = List.map eapi_Input m↔l = m:=map_iff eapi_Input_inj
@[simp] def eapi_Output (x : Tapi_Output) : List Cell:=[.v (.int .i64 x.1),.slice .no (intsR .u8 x.2)]
theorem eapi_Output_inj : ∀ a b,eapi_Output a = eapi_Output b→a = b:=by
  rintro ⟨a_0,a_1⟩ ⟨b_0,b_1⟩ h
  simpa [and_assoc] using h
@[simp↓] theorem eapi_Output_all (m : List Tapi_Output) : (∀ l,l∈List.map eapi_Output m→l.length = 2) = True:=all_map_len (fun a=>by simp) m
@[simp↓] theorem eapi_Output_alld (m : List Tapi_Output) (k : Nat) : (∀ l,l∈List.drop k (List.map eapi_Output m)→l.length = 2) = True:=eq_true fun l h=>of_eq_true (eapi_Output_all m) l (List.mem_of_mem_drop h)
@[simp↓] theorem eapi_Output_allt (m : List Tapi_Output) (k : Nat) : (∀ l,l∈List.take k (List.map eapi_Output m)→l.length = 2) = True:=eq_true fun l h=>of_eq_true (eapi_Output_all m) l (List.mem_of_mem_take h)
@[simp] theorem eapi_Output_map {l m : List Tapi_Output} : List.map eapi_Output l = List.map eapi_Output m↔l = m:=map_iff eapi_Output_inj
@[simp] def eapi_Entry (x : Tapi_Entry) : List Cell:=[.v (.int .u32 x.1.1),.slice .no (List.map eapi_Input x.1.2.1),.slice .no (List.map eapi_Output x.1.2.2.1),.v (.int .u32 x.1.2.2.2),.v (.int .i64 x.2)]
theorem eapi_Entry_inj : ∀ a b,eapi_Entry a = eapi_Entry b→a = b:=by
  rintro ⟨⟨a_0_0,a_0_1,a_0_2,a_0_3⟩,a_1⟩ ⟨⟨b_0_0,b_0_1,b_0_2,b_0_3⟩,b_1⟩ h
  simpa [and_assoc] using h
@[simp↓] theorem eapi_Entry_all (m : List Tapi_Entry) : (∀ l,l∈List.map eapi_Entry m→l.length = 5) = True:=all_map_len (fun a=>by simp) m
@[simp↓] theorem eapi_Entry_alld (m : List Tapi_Entry) (k : Nat) : (∀ l,l∈List.drop k (List.map eapi_Entry m)→l.length = 5) = True:=eq_true fun l h=>of_eq_true (eapi_Entry_all m) l (List.mem_of_mem_drop h)
@[simp↓] theorem eapi_Entry_allt (m : List Tapi_Entry) (k : Nat) : (∀ l,l∈List.take k (List.map eapi_Entry m)→l.length = 5) = True:=eq_true fun l h=>of_eq_true (eapi_Entry_all m) l (List.mem_of_mem_take h)
@[simp] theorem eapi_Entry_map {l m : List Tapi_Entry} : List.map eapi_Entry l = List.map eapi_Entry m↔l = m:=map_iff eapi_Entry_inj
@[simp] def eapi_Tx (x : Tapi_Tx) : List Cell:=[.v (.int .u32 x.1),.slice .no (List.map eapi_Input x.2.1),.slice .no (List.map eapi_Output x.2.2.1),.v (.int .u32 x.2.2.2)]
theorem eapi_Tx_inj : ∀ a b,eapi_Tx a = eapi_Tx b→a = b:=by
  rintro ⟨a_0,a_1,a_2,a_3⟩ ⟨b_0,b_1,b_2,b_3⟩ h
  simpa [and_assoc] using h
@[simp↓] theorem eapi_Tx_all (m : List Tapi_Tx) : (∀ l,l∈List.map eapi_Tx m→l.length = 4) = True:=all_map_len (fun a=>by simp) m
@[simp↓] theorem eapi_Tx_alld (m : List Tapi_Tx) (k : Nat) : (∀ l,l∈List.drop k (List.map eapi_Tx m)→l.length = 4) = True:=eq_true fun l h=>of_eq_true (eapi_Tx_all m) l (List.mem_of_mem_drop h)
@[simp↓] theorem eapi_Tx_allt (m : List Tapi_Tx) (k : Nat) : (∀ l,l∈List.take k (List.map eapi_Tx m)→l.length = 4) = True:=eq_true fun l h=>of_eq_true (eapi_Tx_all m) l (List.mem_of_mem_take h)
@[simp] theorem eapi_Tx_map {l m : List Tapi_Tx} : List.map eapi_Tx l = List.map eapi_Tx m↔l = m:=map_iff eapi_Tx_inj
theorem nfs : (∀ x : (List Int),eS_I_u8 x = [.slice .no (intsR .u8 x)])∧(∀ x : Tapi_Input,eapi_Input x = (arC .u8 x.1.1)++((.v (.int .u32 x.1.2)) :: ((.v (.int .u32 x.2.1)) :: ((.slice .no (List.map eS_I_u8 x.2.2)) :: []))))∧(∀ x : Tapi_Output,eapi_Output x = [.v (.int .i64 x.1),.slice .no (intsR .u8 x.2)])∧(∀ x : Tapi_Entry,eapi_Entry x = [.v (.int .u32 x.1.1),.slice .no (List.map eapi_Input x.1.2.1),.slice .no (List.map eapi_Output x.1.2.2.1),.v (.int .u32 x.1.2.2.2),.v (.int .i64 x.2)])∧(∀ x : Tapi_Tx,eapi_Tx x = [.v (.int .u32 x.1),.slice .no (List.map eapi_Input x.2.1),.slice .no (List.map eapi_Output x.2.2.1),.v (.int .u32 x.2.2.2)]):=⟨fun _=>rfl,fun _=>rfl,fun _=>rfl,fun _=>rfl,fun _=>rfl⟩
@[simp] def eM_api_OutPoint_B (x : Tapi_OutPoint×Bool) : List Cell:=((arC .u8 x.1.1)++((.v (.int .u32 x.1.2)) :: []))++([.v (.bool x.2)])
theorem eM_api_OutPoint_B_he : ∀ a b : Tapi_OutPoint,kEq ((arC .u8 a.1)++((.v (.int .u32 a.2)) :: [])) ((arC .u8 b.1)++((.v (.int .u32 b.2)) :: [])) = decide (a = b):=by
  rintro ⟨a_0,a_1⟩ ⟨b_0,b_1⟩
  rw [Bool.eq_iff_iff];simp [kEq,kEq1]
@[simp] theorem eM_api_OutPoint_B_get {k0 : (Arr 32)} {k1 : Int} {l : List (Tapi_OutPoint×Bool)} : getM 33 ((arC .u8 k0)++((.v (.int .u32 k1)) :: [])) (List.map eM_api_OutPoint_B l) = Option.map (fun v : Bool=>([.v (.bool v)] : List Cell)) (mget (k0,k1) l):=getM_map (eK:=(fun k : Tapi_OutPoint=>((arC .u8 k.1)++((.v (.int .u32 k.2)) :: []) : List Cell))) (eV:=(fun v : Bool=>([.v (.bool v)] : List Cell))) (fun k=>by simp) eM_api_OutPoint_B_he (k0,k1) l
@[simp] theorem eM_api_OutPoint_B_put {k0 : (Arr 32)} {k1 : Int} {v0 : Bool} {l : List (Tapi_OutPoint×Bool)} : putM 33 ((arC .u8 k0)++((.v (.int .u32 k1)) :: [])) ([.v (.bool v0)]) (List.map eM_api_OutPoint_B l) = List.map eM_api_OutPoint_B (mput (k0,k1) v0 l):=putM_map (eK:=(fun k : Tapi_OutPoint=>((arC .u8 k.1)++((.v (.int .u32 k.2)) :: []) : List Cell))) (eV:=(fun v : Bool=>([.v (.bool v)] : List Cell))) (fun k=>by simp) eM_api_OutPoint_B_he (k0,k1) v0 l
@[simp] theorem eM_api_OutPoint_B_gd (o : Option Bool) : (Option.map (fun v : Bool=>([.v (.bool v)] : List Cell)) o).getD ([.v (.bool false)]) = [.v (.bool (o.getD false))]:=by cases o <;> rfl
@[simp] theorem eM_api_OutPoint_B_put0 {k0 : (Arr 32)} {k1 : Int} {v0 : Bool} : putM 33 ((arC .u8 k0)++((.v (.int .u32 k1)) :: [])) ([.v (.bool v0)]) [] = List.map eM_api_OutPoint_B (mput (k0,k1) v0 []):=rfl
@[simp] def eM_A32_I_u8_B (x : (Arr 32)×Bool) : List Cell:=(arC .u8 x.1)++([.v (.bool x.2)])
theorem eM_A32_I_u8_B_he : ∀ a b : (Arr 32),kEq (arC .u8 a) (arC .u8 b) = decide (a = b):=by
  rintro a b
  rw [Bool.eq_iff_iff];simp [kEq,kEq1]
@[simp] theorem eM_A32_I_u8_B_get {k0 : (Arr 32)} {l : List ((Arr 32)×Bool)} : getM 32 (arC .u8 k0) (List.map eM_A32_I_u8_B l) = Option.map (fun v : Bool=>([.v (.bool v)] : List Cell)) (mget k0 l):=getM_map (eK:=(fun k : (Arr 32)=>(arC .u8 k : List Cell))) (eV:=(fun v : Bool=>([.v (.bool v)] : List Cell))) (fun k=>by simp) eM_A32_I_u8_B_he k0 l
@[simp] theorem eM_A32_I_u8_B_put {k0 : (Arr 32)} {v0 : Bool} {l : List ((Arr 32)×Bool)} : putM 32 (arC .u8 k0) ([.v (.bool v0)]) (List.map eM_A32_I_u8_B l) = List.map eM_A32_I_u8_B (mput k0 v0 l):=putM_map (eK:=(fun k : (Arr 32)=>(arC .u8 k : List Cell))) (eV:=(fun v : Bool=>([.v (.bool v)] : List Cell))) (fun k=>by simp) eM_A32_I_u8_B_he k0 v0 l
@[simp] theorem eM_A32_I_u8_B_gd (o : Option Bool) : (Option.map (fun v : Bool=>([.v (.bool v)] : List Cell)) o).getD ([.v (.bool false)]) = [.v (.bool (o.getD false))]:=by cases o <;> rfl
@[simp] theorem eM_A32_I_u8_B_put0 {k0 : (Arr 32)} {v0 : Bool} : putM 32 (arC .u8 k0) ([.v (.bool v0)]) [] = List.map eM_A32_I_u8_B (mput k0 v0 []):=rfl
theorem bN {α β : Type} {o : Option α} {f : α→Option β} {y : β} {P P' : α→Prop} (h : o.bind f = some y) (k : ∀ {x},o = some x→P x) (n : ∀ x,P x→P' x:=by intro x h; try simp only [nf,nfs] at h; exact h) : ∃ x,P' x∧f x = some y :=
  let ⟨x,h1,h2⟩:=bs h
  ⟨x,n x (k h1),h2⟩
theorem goA {P R : Prop} (k : R) (h : ∀ X : Prop,SameP X R→Imp X P:=by
  intro X e
  repeat (first
    | (with_reducible refine im_assoc ?_)
    | (with_reducible refine im_seq_skip ?_)
    | (with_reducible refine im_seq_block ?_)
    | (with_reducible refine im_seq_exit ?_)
    | (with_reducible refine im_seq_ret ?_)
    | (with_reducible refine im_block ?_)
    | (with_reducible refine im_skip ?_)
    | (with_reducible refine im_exit ?_)
    | (with_reducible refine im_ret ?_)
    | (with_reducible refine im_seq_condT ?_ ?_; · simp [-Int.ofNat_toNat,bV, *]; done)
    | (with_reducible refine im_seq_condF ?_ ?_; · simp [-Int.ofNat_toNat,bV, *]; done)
    | (refine im_seq_reg rfl (by first | (simp [-Int.ofNat_toNat,Nat.add_assoc, *] <;> rfl) | fail) ?_)
    | (refine im_seq_draw rfl (by simp [-Int.ofNat_toNat,Nat.add_assoc, *]; first | exact ⟨rfl,rfl⟩ | rfl) (by kernel_rfl) ?_)
    | (with_reducible refine im_condT ?_ ?_; · simp [-Int.ofNat_toNat,bV, *]; done)
    | (with_reducible refine im_condF ?_ ?_; · simp [-Int.ofNat_toNat,bV, *]; done)
    | (refine im_reg rfl (by first | (simp [-Int.ofNat_toNat,Nat.add_assoc, *] <;> rfl) | fail) ?_)
    | (refine im_draw rfl (by simp [-Int.ofNat_toNat,Nat.add_assoc, *]; first | exact ⟨rfl,rfl⟩ | rfl) (by kernel_rfl) ?_)
    | (refine im_pq ?_ (by simp only [pq,reduceCtorEq]; rfl)))
  exact Imp.of e) : P:=h R ⟨rfl⟩ k
theorem goADRT {P R : Prop} (k : R) (h : ∀ X : Prop,SameP X R→Imp X P:=by
  intro X e
  repeat (first
    | (with_reducible refine im_assoc ?_)
    | (with_reducible refine im_seq_skip ?_)
    | (with_reducible refine im_seq_block ?_)
    | (with_reducible refine im_seq_exit ?_)
    | (with_reducible refine im_seq_ret ?_)
    | (with_reducible refine im_block ?_)
    | (with_reducible refine im_skip ?_)
    | (with_reducible refine im_exit ?_)
    | (with_reducible refine im_ret ?_)
    | (with_reducible refine im_seq_condT ?_ ?_; · simp [-Int.ofNat_toNat,bV, *]; done)
    | (with_reducible refine im_seq_condF ?_ ?_; · simp [-Int.ofNat_toNat,bV, *]; done)
    | (refine im_seq_reg rfl (by first | (simp [-Int.ofNat_toNat,Nat.add_assoc,-Int.natCast_tdiv_eq_ediv,List.range,List.range.loop,-intsR_app,-List.take_append,-List.drop_append, *] <;> rfl) | fail) ?_)
    | (refine im_seq_draw rfl (by simp [-Int.ofNat_toNat,Nat.add_assoc,-Int.natCast_tdiv_eq_ediv,List.range,List.range.loop,-intsR_app,-List.take_append,-List.drop_append, *]; first | exact ⟨rfl,rfl⟩ | rfl) (by kernel_rfl) ?_)
    | (with_reducible refine im_condT ?_ ?_; · simp [-Int.ofNat_toNat,bV, *]; done)
    | (with_reducible refine im_condF ?_ ?_; · simp [-Int.ofNat_toNat,bV, *]; done)
    | (refine im_reg rfl (by first | (simp [-Int.ofNat_toNat,Nat.add_assoc,-Int.natCast_tdiv_eq_ediv,List.range,List.range.loop,-intsR_app,-List.take_append,-List.drop_append, *] <;> rfl) | fail) ?_)
    | (refine im_draw rfl (by simp [-Int.ofNat_toNat,Nat.add_assoc,-Int.natCast_tdiv_eq_ediv,List.range,List.range.loop,-intsR_app,-List.take_append,-List.drop_append, *]; first | exact ⟨rfl,rfl⟩ | rfl) (by kernel_rfl) ?_)
    | (refine im_pq ?_ (by simp only [pq,reduceCtorEq]; rfl)))
  exact Imp.of e) : P:=h R ⟨rfl⟩ k
theorem goR {P R : Prop} (k : R) (h : ∀ X : Prop,SameP X R→Imp X P:=by
  intro X e
  repeat (first
    | (with_reducible refine im_assoc ?_)
    | (with_reducible refine im_seq_skip ?_)
    | (with_reducible refine im_seq_block ?_)
    | (with_reducible refine im_seq_exit ?_)
    | (with_reducible refine im_seq_ret ?_)
    | (with_reducible refine im_block ?_)
    | (with_reducible refine im_skip ?_)
    | (with_reducible refine im_exit ?_)
    | (with_reducible refine im_ret ?_)
    | (with_reducible refine im_seq_condT ?_ ?_; · simp [-Int.ofNat_toNat,bV, *]; done)
    | (with_reducible refine im_seq_condF ?_ ?_; · simp [-Int.ofNat_toNat,bV, *]; done)
    | (refine im_seq_reg rfl (by first | (simp [-Int.ofNat_toNat,List.range,List.range.loop, *] <;> rfl) | fail) ?_)
    | (refine im_seq_draw rfl (by simp [-Int.ofNat_toNat,List.range,List.range.loop, *]; first | exact ⟨rfl,rfl⟩ | rfl) (by kernel_rfl) ?_)
    | (with_reducible refine im_condT ?_ ?_; · simp [-Int.ofNat_toNat,bV, *]; done)
    | (with_reducible refine im_condF ?_ ?_; · simp [-Int.ofNat_toNat,bV, *]; done)
    | (refine im_reg rfl (by first | (simp [-Int.ofNat_toNat,List.range,List.range.loop, *] <;> rfl) | fail) ?_)
    | (refine im_draw rfl (by simp [-Int.ofNat_toNat,List.range,List.range.loop, *]; first | exact ⟨rfl,rfl⟩ | rfl) (by kernel_rfl) ?_)
    | (refine im_pq ?_ (by simp only [pq,reduceCtorEq]; rfl)))
  exact Imp.of e) : P:=h R ⟨rfl⟩ k
def G : Glob:=fun g=>if g = 0 then some (arC .u32 shaInitial) else if g = 1 then some (arC .u32 shaK) else none
@[simp] theorem G_at0 : G 0 = some (arC .u32 shaInitial):=rfl
@[simp] theorem G_at1 : G 1 = some (arC .u32 shaK):=rfl
noncomputable abbrev K39 : Con Tapi_Input Bool:=⟨fun x=>[.agg ((arC .u8 x.1.1)++((.v (.int .u32 x.1.2)) :: ((.v (.int .u32 x.2.1)) :: ((.slice .no (List.map eS_I_u8 x.2.2)) :: []))))],fun _ y=>(.one (.v (.bool y)),[]),fun x=>Lreplace_Signals_1 x⟩
theorem i39 : K39.Inj:=by intro a b h; simpa [K39,Prod.ext_iff,and_assoc] using h
theorem G39_eq {a0 y} (h : Lreplace_Signals_1 a0 = some y) : K39.G (K39.E a0) = some (K39.R a0 y):=i39.eq h
noncomputable abbrev K73_1 : Con ((List Tapi_Input)) Int:=⟨fun x=>[.one (.slice .no (List.map eapi_Input x)),.fn 39],fun _ y=>(.one (.v (.int .i64 y)),[]),fun x=>Lslices_IndexFunc_of__api_Input_api_Input__replace_Signals_1 x⟩
theorem i73_1 : K73_1.Inj:=by intro a b h; simpa [K73_1,Prod.ext_iff,and_assoc] using h
theorem G73_1_eq {a0 y} (h : Lslices_IndexFunc_of__api_Input_api_Input__replace_Signals_1 a0 = some y) : K73_1.G (K73_1.E a0) = some (K73_1.R a0 y):=i73_1.eq h
noncomputable abbrev K38_2 : Con ((List Tapi_Input)) Bool:=⟨fun x=>[.one (.slice .no (List.map eapi_Input x)),.fn 39],fun _ y=>(.one (.v (.bool y)),[]),fun x=>Lslices_ContainsFunc_of__api_Input_api_Input__replace_Signals_1 x⟩
theorem i38_2 : K38_2.Inj:=by intro a b h; simpa [K38_2,Prod.ext_iff,and_assoc] using h
theorem G38_2_eq {a0 y} (h : Lslices_ContainsFunc_of__api_Input_api_Input__replace_Signals_1 a0 = some y) : K38_2.G (K38_2.E a0) = some (K38_2.R a0 y):=i38_2.eq h
noncomputable abbrev K16 : Con Tapi_Tx Bool:=⟨fun x=>[.agg ([.v (.int .u32 x.1),.slice .no (List.map eapi_Input x.2.1),.slice .no (List.map eapi_Output x.2.2.1),.v (.int .u32 x.2.2.2)])],fun _ y=>(.one (.v (.bool y)),[]),fun x=>Lreplace_Signals x⟩
theorem i16 : K16.Inj:=by intro a b h; simpa [K16,Prod.ext_iff,and_assoc] using h
theorem G16_eq {a0 y} (h : Lreplace_Signals a0 = some y) : K16.G (K16.E a0) = some (K16.R a0 y):=i16.eq h
noncomputable abbrev K41_3 : Con (Tapi_Input×Tapi_Input) Bool:=⟨fun x=>[.agg ((arC .u8 x.1.1.1)++((.v (.int .u32 x.1.1.2)) :: ((.v (.int .u32 x.1.2.1)) :: ((.slice .no (List.map eS_I_u8 x.1.2.2)) :: [])))),.ref ((arC .u8 x.2.1.1)++((.v (.int .u32 x.2.1.2)) :: ((.v (.int .u32 x.2.2.1)) :: ((.slice .no (List.map eS_I_u8 x.2.2.2)) :: []))))],fun _ y=>(.one (.v (.bool y)),[]),fun x=>Lreplace_Conflict_1_1__r x.1 x.2⟩
theorem i41_3 : K41_3.Inj:=by intro a b h; simpa [K41_3,Prod.ext_iff,and_assoc] using h
theorem G41_3_eq {a0 a1 y} (h : Lreplace_Conflict_1_1__r a0 a1 = some y) : K41_3.G (K41_3.E (a0,a1)) = some (K41_3.R (a0,a1) y):=i41_3.eq h
noncomputable abbrev K73_4 : Con ((List Tapi_Input)×Tapi_Input) Int:=⟨fun x=>[.one (.slice .no (List.map eapi_Input x.1)),.clo 41 [.ref ((arC .u8 x.2.1.1)++((.v (.int .u32 x.2.1.2)) :: ((.v (.int .u32 x.2.2.1)) :: ((.slice .no (List.map eS_I_u8 x.2.2.2)) :: []))))]],fun _ y=>(.one (.v (.int .i64 y)),[]),fun x=>Lslices_IndexFunc_of__api_Input_api_Input__replace_Conflict_1_1 x.1 x.2⟩
theorem i73_4 : K73_4.Inj:=by intro a b h; simpa [K73_4,Prod.ext_iff,and_assoc] using h
theorem G73_4_eq {a0 a1 y} (h : Lslices_IndexFunc_of__api_Input_api_Input__replace_Conflict_1_1 a0 a1 = some y) : K73_4.G (K73_4.E (a0,a1)) = some (K73_4.R (a0,a1) y):=i73_4.eq h
noncomputable abbrev K38_5 : Con ((List Tapi_Input)×Tapi_Input) Bool:=⟨fun x=>[.one (.slice .no (List.map eapi_Input x.1)),.clo 41 [.ref ((arC .u8 x.2.1.1)++((.v (.int .u32 x.2.1.2)) :: ((.v (.int .u32 x.2.2.1)) :: ((.slice .no (List.map eS_I_u8 x.2.2.2)) :: []))))]],fun _ y=>(.one (.v (.bool y)),[]),fun x=>Lslices_ContainsFunc_of__api_Input_api_Input__replace_Conflict_1_1 x.1 x.2⟩
theorem i38_5 : K38_5.Inj:=by intro a b h; simpa [K38_5,Prod.ext_iff,and_assoc] using h
theorem G38_5_eq {a0 a1 y} (h : Lslices_ContainsFunc_of__api_Input_api_Input__replace_Conflict_1_1 a0 a1 = some y) : K38_5.G (K38_5.E (a0,a1)) = some (K38_5.R (a0,a1) y):=i38_5.eq h
noncomputable abbrev K40_6 : Con (Tapi_Input×Tapi_Tx) Bool:=⟨fun x=>[.agg ((arC .u8 x.1.1.1)++((.v (.int .u32 x.1.1.2)) :: ((.v (.int .u32 x.1.2.1)) :: ((.slice .no (List.map eS_I_u8 x.1.2.2)) :: [])))),.ref ([.v (.int .u32 x.2.1),.slice .no (List.map eapi_Input x.2.2.1),.slice .no (List.map eapi_Output x.2.2.2.1),.v (.int .u32 x.2.2.2.2)])],fun _ y=>(.one (.v (.bool y)),[]),fun x=>Lreplace_Conflict_1__r x.1 x.2⟩
theorem i40_6 : K40_6.Inj:=by intro a b h; simpa [K40_6,Prod.ext_iff,and_assoc] using h
theorem G40_6_eq {a0 a1 y} (h : Lreplace_Conflict_1__r a0 a1 = some y) : K40_6.G (K40_6.E (a0,a1)) = some (K40_6.R (a0,a1) y):=i40_6.eq h
noncomputable abbrev K73_7 : Con ((List Tapi_Input)×Tapi_Tx) Int:=⟨fun x=>[.one (.slice .no (List.map eapi_Input x.1)),.clo 40 [.ref ([.v (.int .u32 x.2.1),.slice .no (List.map eapi_Input x.2.2.1),.slice .no (List.map eapi_Output x.2.2.2.1),.v (.int .u32 x.2.2.2.2)])]],fun _ y=>(.one (.v (.int .i64 y)),[]),fun x=>Lslices_IndexFunc_of__api_Input_api_Input__replace_Conflict_1 x.1 x.2⟩
theorem i73_7 : K73_7.Inj:=by intro a b h; simpa [K73_7,Prod.ext_iff,and_assoc] using h
theorem G73_7_eq {a0 a1 y} (h : Lslices_IndexFunc_of__api_Input_api_Input__replace_Conflict_1 a0 a1 = some y) : K73_7.G (K73_7.E (a0,a1)) = some (K73_7.R (a0,a1) y):=i73_7.eq h
noncomputable abbrev K38_8 : Con ((List Tapi_Input)×Tapi_Tx) Bool:=⟨fun x=>[.one (.slice .no (List.map eapi_Input x.1)),.clo 40 [.ref ([.v (.int .u32 x.2.1),.slice .no (List.map eapi_Input x.2.2.1),.slice .no (List.map eapi_Output x.2.2.2.1),.v (.int .u32 x.2.2.2.2)])]],fun _ y=>(.one (.v (.bool y)),[]),fun x=>Lslices_ContainsFunc_of__api_Input_api_Input__replace_Conflict_1 x.1 x.2⟩
theorem i38_8 : K38_8.Inj:=by intro a b h; simpa [K38_8,Prod.ext_iff,and_assoc] using h
theorem G38_8_eq {a0 a1 y} (h : Lslices_ContainsFunc_of__api_Input_api_Input__replace_Conflict_1 a0 a1 = some y) : K38_8.G (K38_8.E (a0,a1)) = some (K38_8.R (a0,a1) y):=i38_8.eq h
noncomputable abbrev K17 : Con (Tapi_Tx×Tapi_Tx) Bool:=⟨fun x=>[.agg ([.v (.int .u32 x.1.1),.slice .no (List.map eapi_Input x.1.2.1),.slice .no (List.map eapi_Output x.1.2.2.1),.v (.int .u32 x.1.2.2.2)]),.agg ([.v (.int .u32 x.2.1),.slice .no (List.map eapi_Input x.2.2.1),.slice .no (List.map eapi_Output x.2.2.2.1),.v (.int .u32 x.2.2.2.2)])],fun _ y=>(.one (.v (.bool y)),[]),fun x=>Lreplace_Conflict x.1 x.2⟩
theorem i17 : K17.Inj:=by intro a b h; simpa [K17,Prod.ext_iff,and_assoc] using h
theorem G17_eq {a0 a1 y} (h : Lreplace_Conflict a0 a1 = some y) : K17.G (K17.E (a0,a1)) = some (K17.R (a0,a1) y):=i17.eq h
noncomputable abbrev K76 : Con Tapi_OutPoint Bool:=⟨fun x=>[.agg ((arC .u8 x.1)++((.v (.int .u32 x.2)) :: []))],fun _ y=>(.one (.v (.bool y)),[]),fun x=>Ltx_null x⟩
theorem i76 : K76.Inj:=by intro a b h; simpa [K76,Prod.ext_iff,and_assoc] using h
theorem G76_eq {a0 y} (h : Ltx_null a0 = some y) : K76.G (K76.E a0) = some (K76.R a0 y):=i76.eq h
noncomputable abbrev K46 : Con Tapi_Tx Bool:=⟨fun x=>[.agg ([.v (.int .u32 x.1),.slice .no (List.map eapi_Input x.2.1),.slice .no (List.map eapi_Output x.2.2.1),.v (.int .u32 x.2.2.2)])],fun _ y=>(.one (.v (.bool y)),[]),fun x=>Ltx_Coinbase x⟩
theorem i46 : K46.Inj:=by intro a b h; simpa [K46,Prod.ext_iff,and_assoc] using h
theorem G46_eq {a0 y} (h : Ltx_Coinbase a0 = some y) : K46.G (K46.E a0) = some (K46.R a0 y):=i46.eq h
noncomputable abbrev K113 : Con ((List Int)×(List Int)) ((List Int)):=⟨fun x=>[.one (.slice .no (intsR .u8 x.1)),.one (.slice .no (intsR .u8 x.2))],fun _ y=>(.one (.own 1 (intsR .u8 y)),[]),fun x=>Lcodec_extend x.1 x.2⟩
theorem i113 : K113.Inj:=by intro a b h; simpa [K113,Prod.ext_iff,and_assoc] using h
theorem G113_eq {a0 a1 y} (h : Lcodec_extend a0 a1 = some y) : K113.G (K113.E (a0,a1)) = some (K113.R (a0,a1) y):=i113.eq h
noncomputable abbrev K114 : Con (Int×Int) ((List Int)):=⟨fun x=>[.one (.v (.int .u64 x.1)),.one (.v (.int .i64 x.2))],fun _ y=>(.one (.own 1 (intsR .u8 y)),[]),fun x=>Lcodec_lowest x.1 x.2⟩
theorem i114 : K114.Inj:=by intro a b h; simpa [K114,Prod.ext_iff,and_assoc] using h
theorem G114_eq {a0 a1 y} (h : Lcodec_lowest a0 a1 = some y) : K114.G (K114.E (a0,a1)) = some (K114.R (a0,a1) y):=i114.eq h
noncomputable abbrev K102 : Con ((List Int)×Int) ((List Int)):=⟨fun x=>[.one (.slice .no (intsR .u8 x.1)),.one (.v (.int .u32 x.2))],fun _ y=>(.one (.own 1 (intsR .u8 y)),[]),fun x=>Lcodec_AppendU32 x.1 x.2⟩
theorem i102 : K102.Inj:=by intro a b h; simpa [K102,Prod.ext_iff,and_assoc] using h
theorem G102_eq {a0 a1 y} (h : Lcodec_AppendU32 a0 a1 = some y) : K102.G (K102.E (a0,a1)) = some (K102.R (a0,a1) y):=i102.eq h
noncomputable abbrev K105 : Con ((List Int)×Int) ((List Int)):=⟨fun x=>[.one (.slice .no (intsR .u8 x.1)),.one (.v (.int .u64 x.2))],fun _ y=>(.one (.own 1 (intsR .u8 y)),[]),fun x=>Lcodec_AppendU64 x.1 x.2⟩
theorem i105 : K105.Inj:=by intro a b h; simpa [K105,Prod.ext_iff,and_assoc] using h
theorem G105_eq {a0 a1 y} (h : Lcodec_AppendU64 a0 a1 = some y) : K105.G (K105.E (a0,a1)) = some (K105.R (a0,a1) y):=i105.eq h
noncomputable abbrev K115 : Con ((List Int)×Int) ((List Int)):=⟨fun x=>[.one (.slice .no (intsR .u8 x.1)),.one (.v (.int .u16 x.2))],fun _ y=>(.one (.own 1 (intsR .u8 y)),[]),fun x=>Lcodec_AppendU16 x.1 x.2⟩
theorem i115 : K115.Inj:=by intro a b h; simpa [K115,Prod.ext_iff,and_assoc] using h
theorem G115_eq {a0 a1 y} (h : Lcodec_AppendU16 a0 a1 = some y) : K115.G (K115.E (a0,a1)) = some (K115.R (a0,a1) y):=i115.eq h
noncomputable abbrev K103 : Con ((List Int)×Int) ((List Int)):=⟨fun x=>[.one (.slice .no (intsR .u8 x.1)),.one (.v (.int .u64 x.2))],fun _ y=>(.one (.own 1 (intsR .u8 y)),[]),fun x=>Lcodec_AppendSize x.1 x.2⟩
theorem i103 : K103.Inj:=by intro a b h; simpa [K103,Prod.ext_iff,and_assoc] using h
theorem G103_eq {a0 a1 y} (h : Lcodec_AppendSize a0 a1 = some y) : K103.G (K103.E (a0,a1)) = some (K103.R (a0,a1) y):=i103.eq h
noncomputable abbrev K116 : Con ((List Int)×(Arr 32)) ((List Int)):=⟨fun x=>[.one (.slice .no (intsR .u8 x.1)),.agg (arC .u8 x.2)],fun _ y=>(.one (.own 1 (intsR .u8 y)),[]),fun x=>Lcodec_AppendHash x.1 x.2⟩
theorem i116 : K116.Inj:=by intro a b h; simpa [K116,Prod.ext_iff,and_assoc] using h
theorem G116_eq {a0 a1 y} (h : Lcodec_AppendHash a0 a1 = some y) : K116.G (K116.E (a0,a1)) = some (K116.R (a0,a1) y):=i116.eq h
noncomputable abbrev K104 : Con Tapi_OutPoint ((List Int)):=⟨fun x=>[.agg ((arC .u8 x.1)++((.v (.int .u32 x.2)) :: []))],fun _ y=>(.one (.own 1 (intsR .u8 y)),[]),fun x=>Ltx_Point x⟩
theorem i104 : K104.Inj:=by intro a b h; simpa [K104,Prod.ext_iff,and_assoc] using h
theorem G104_eq {a0 y} (h : Ltx_Point a0 = some y) : K104.G (K104.E a0) = some (K104.R a0 y):=i104.eq h
noncomputable abbrev K106 : Con ((List Int)×(List Int)) ((List Int)):=⟨fun x=>[.one (.slice .no (intsR .u8 x.1)),.one (.slice .no (intsR .u8 x.2))],fun _ y=>(.one (.own 1 (intsR .u8 y)),[]),fun x=>Lcodec_AppendBytes x.1 x.2⟩
theorem i106 : K106.Inj:=by intro a b h; simpa [K106,Prod.ext_iff,and_assoc] using h
theorem G106_eq {a0 a1 y} (h : Lcodec_AppendBytes a0 a1 = some y) : K106.G (K106.E (a0,a1)) = some (K106.R (a0,a1) y):=i106.eq h
noncomputable abbrev K93 : Con (Tapi_Tx×Bool) ((List Int)):=⟨fun x=>[.agg ([.v (.int .u32 x.1.1),.slice .no (List.map eapi_Input x.1.2.1),.slice .no (List.map eapi_Output x.1.2.2.1),.v (.int .u32 x.1.2.2.2)]),.one (.v (.bool x.2))],fun _ y=>(.one (.own 1 (intsR .u8 y)),[]),fun x=>Ltx_encode x.1 x.2⟩
theorem i93 : K93.Inj:=by intro a b h; simpa [K93,Prod.ext_iff,and_assoc] using h
theorem G93_eq {a0 a1 y} (h : Ltx_encode a0 a1 = some y) : K93.G (K93.E (a0,a1)) = some (K93.R (a0,a1) y):=i93.eq h
noncomputable abbrev K74 : Con Tapi_Tx Bool:=⟨fun x=>[.agg ([.v (.int .u32 x.1),.slice .no (List.map eapi_Input x.2.1),.slice .no (List.map eapi_Output x.2.2.1),.v (.int .u32 x.2.2.2)])],fun _ y=>(.one (.v (.bool y)),[]),fun x=>Ltx_fits x⟩
theorem i74 : K74.Inj:=by intro a b h; simpa [K74,Prod.ext_iff,and_assoc] using h
theorem G74_eq {a0 y} (h : Ltx_fits a0 = some y) : K74.G (K74.E a0) = some (K74.R a0 y):=i74.eq h
noncomputable abbrev K75 : Con ((List Tapi_Output)) Bool:=⟨fun x=>[.one (.slice .no (List.map eapi_Output x))],fun _ y=>(.one (.v (.bool y)),[]),fun x=>Ltx_money x⟩
theorem i75 : K75.Inj:=by intro a b h; simpa [K75,Prod.ext_iff,and_assoc] using h
theorem G75_eq {a0 y} (h : Ltx_money a0 = some y) : K75.G (K75.E a0) = some (K75.R a0 y):=i75.eq h
noncomputable abbrev K42 : Con Tapi_Tx Int:=⟨fun x=>[.agg ([.v (.int .u32 x.1),.slice .no (List.map eapi_Input x.2.1),.slice .no (List.map eapi_Output x.2.2.1),.v (.int .u32 x.2.2.2)])],fun _ y=>(.one (.v (.int .i64 y)),[]),fun x=>Ltx_Check x⟩
theorem i42 : K42.Inj:=by intro a b h; simpa [K42,Prod.ext_iff,and_assoc] using h
theorem G42_eq {a0 y} (h : Ltx_Check a0 = some y) : K42.G (K42.E a0) = some (K42.R a0 y):=i42.eq h
noncomputable abbrev K87 : Con (Tapi_Tx×Bool) ((List Int)×Int):=⟨fun x=>[.agg ([.v (.int .u32 x.1.1),.slice .no (List.map eapi_Input x.1.2.1),.slice .no (List.map eapi_Output x.1.2.2.1),.v (.int .u32 x.1.2.2.2)]),.one (.v (.bool x.2))],fun _ y=>(.tup [.one (.slice .no (intsR .u8 y.1)),.one (.v (.int .i64 y.2))],[]),fun x=>Ltx_Encode x.1 x.2⟩
theorem i87 : K87.Inj:=by intro a b h; simpa [K87,Prod.ext_iff,and_assoc] using h
theorem G87_eq {a0 a1 y} (h : Ltx_Encode a0 a1 = some y) : K87.G (K87.E (a0,a1)) = some (K87.R (a0,a1) y):=i87.eq h
noncomputable abbrev K110 : Con ((List (List Int))) ((List Int)):=⟨fun x=>[.one (.slice .no (List.map eS_I_u8 x))],fun _ y=>(.one (.own 1 (intsR .u8 y)),[]),fun x=>Lsha_row x⟩
theorem i110 : K110.Inj:=by intro a b h; simpa [K110,Prod.ext_iff,and_assoc] using h
theorem G110_eq {a0 y} (h : Lsha_row a0 = some y) : K110.G (K110.E a0) = some (K110.R a0 y):=i110.eq h
noncomputable abbrev K111 : Con Int ((List Int)):=⟨fun x=>[.one (.v (.int .u64 x))],fun _ y=>(.one (.own 1 (intsR .u8 y)),[]),fun x=>Lsha_Pad x⟩
theorem i111 : K111.Inj:=by intro a b h; simpa [K111,Prod.ext_iff,and_assoc] using h
theorem G111_eq {a0 y} (h : Lsha_Pad a0 = some y) : K111.G (K111.E a0) = some (K111.R a0 y):=i111.eq h
noncomputable abbrev K117 : Con (Int×Int) Int:=⟨fun x=>[.one (.v (.int .u32 x.1)),.one (.v (.int .i64 x.2))],fun _ y=>(.one (.v (.int .u32 y)),[]),fun x=>Lmath_bits_RotateLeft32 x.1 x.2⟩
theorem i117 : K117.Inj:=by intro a b h; simpa [K117,Prod.ext_iff,and_assoc] using h
theorem G117_eq {a0 a1 y} (h : Lmath_bits_RotateLeft32 a0 a1 = some y) : K117.G (K117.E (a0,a1)) = some (K117.R (a0,a1) y):=i117.eq h
noncomputable abbrev K119 : Con (Int×Int) Int:=⟨fun x=>[.one (.v (.int .u32 x.1)),.one (.v (.int .i64 x.2))],fun _ y=>(.one (.v (.int .u32 y)),[]),fun x=>Lsha_rotr x.1 x.2⟩
theorem i119 : K119.Inj:=by intro a b h; simpa [K119,Prod.ext_iff,and_assoc] using h
theorem G119_eq {a0 a1 y} (h : Lsha_rotr a0 a1 = some y) : K119.G (K119.E (a0,a1)) = some (K119.R (a0,a1) y):=i119.eq h
noncomputable abbrev K118 : Con ((Arr 64)) ((Arr 64)):=⟨fun x=>[.agg (arC .u8 x)],fun _ y=>(.agg (arC .u32 y),[]),fun x=>Lsha_schedule x⟩
theorem i118 : K118.Inj:=by intro a b h; simpa [K118,Prod.ext_iff,and_assoc] using h
theorem G118_eq {a0 y} (h : Lsha_schedule a0 = some y) : K118.G (K118.E a0) = some (K118.R a0 y):=i118.eq h
noncomputable abbrev K112 : Con ((Arr 8)×(Arr 64)) ((Arr 8)):=⟨fun x=>[.agg (arC .u32 x.1),.agg (arC .u8 x.2)],fun _ y=>(.agg (arC .u32 y),[]),fun x=>Lsha_Compress x.1 x.2⟩
theorem i112 : K112.Inj:=by intro a b h; simpa [K112,Prod.ext_iff,and_assoc] using h
theorem G112_eq {a0 a1 y} (h : Lsha_Compress a0 a1 = some y) : K112.G (K112.E (a0,a1)) = some (K112.R (a0,a1) y):=i112.eq h
noncomputable abbrev K101 : Con ((List Int)) ((Arr 32)):=⟨fun x=>[.one (.slice .no (intsR .u8 x))],fun _ y=>(.agg (arC .u8 y),[]),fun x=>Lsha_Sum x⟩
theorem i101 : K101.Inj:=by intro a b h; simpa [K101,Prod.ext_iff,and_assoc] using h
theorem G101_eq {a0 y} (h : Lsha_Sum a0 = some y) : K101.G (K101.E a0) = some (K101.R a0 y):=i101.eq h
noncomputable abbrev K88 : Con ((List Int)) ((Arr 32)):=⟨fun x=>[.one (.slice .no (intsR .u8 x))],fun _ y=>(.agg (arC .u8 y),[]),fun x=>Lsha_Double x⟩
theorem i88 : K88.Inj:=by intro a b h; simpa [K88,Prod.ext_iff,and_assoc] using h
theorem G88_eq {a0 y} (h : Lsha_Double a0 = some y) : K88.G (K88.E a0) = some (K88.R a0 y):=i88.eq h
noncomputable abbrev K55 : Con (Tapi_Tx×Bool) ((Arr 32)):=⟨fun x=>[.agg ([.v (.int .u32 x.1.1),.slice .no (List.map eapi_Input x.1.2.1),.slice .no (List.map eapi_Output x.1.2.2.1),.v (.int .u32 x.1.2.2.2)]),.one (.v (.bool x.2))],fun _ y=>(.agg (arC .u8 y),[]),fun x=>Ltx_digest x.1 x.2⟩
theorem i55 : K55.Inj:=by intro a b h; simpa [K55,Prod.ext_iff,and_assoc] using h
theorem G55_eq {a0 a1 y} (h : Ltx_digest a0 a1 = some y) : K55.G (K55.E (a0,a1)) = some (K55.R (a0,a1) y):=i55.eq h
noncomputable abbrev K25 : Con Tapi_Tx ((Arr 32)):=⟨fun x=>[.agg ([.v (.int .u32 x.1),.slice .no (List.map eapi_Input x.2.1),.slice .no (List.map eapi_Output x.2.2.1),.v (.int .u32 x.2.2.2)])],fun _ y=>(.agg (arC .u8 y),[]),fun x=>Ltx_ID x⟩
theorem i25 : K25.Inj:=by intro a b h; simpa [K25,Prod.ext_iff,and_assoc] using h
theorem G25_eq {a0 y} (h : Ltx_ID a0 = some y) : K25.G (K25.E a0) = some (K25.R a0 y):=i25.eq h
noncomputable abbrev K47 : Con Int Bool:=⟨fun x=>[.one (.v (.int .i64 x))],fun _ y=>(.one (.v (.bool y)),[]),fun x=>Lreplace_money x⟩
theorem i47 : K47.Inj:=by intro a b h; simpa [K47,Prod.ext_iff,and_assoc] using h
theorem G47_eq {a0 y} (h : Lreplace_money a0 = some y) : K47.G (K47.E a0) = some (K47.R a0 y):=i47.eq h
noncomputable abbrev K48 : Con Tapi_Entry Bool:=⟨fun x=>[.agg ([.v (.int .u32 x.1.1),.slice .no (List.map eapi_Input x.1.2.1),.slice .no (List.map eapi_Output x.1.2.2.1),.v (.int .u32 x.1.2.2.2),.v (.int .i64 x.2)])],fun _ y=>(.one (.v (.bool y)),[]),fun x=>Lreplace_Accept_3 x⟩
theorem i48 : K48.Inj:=by intro a b h; simpa [K48,Prod.ext_iff,and_assoc] using h
theorem G48_eq {a0 y} (h : Lreplace_Accept_3 a0 = some y) : K48.G (K48.E a0) = some (K48.R a0 y):=i48.eq h
noncomputable abbrev K50 : Con Tapi_Entry Bool:=⟨fun x=>[.agg ([.v (.int .u32 x.1.1),.slice .no (List.map eapi_Input x.1.2.1),.slice .no (List.map eapi_Output x.1.2.2.1),.v (.int .u32 x.1.2.2.2),.v (.int .i64 x.2)])],fun _ y=>(.one (.v (.bool y)),[]),fun x=>Lreplace_Accept_5 x⟩
theorem i50 : K50.Inj:=by intro a b h; simpa [K50,Prod.ext_iff,and_assoc] using h
theorem G50_eq {a0 y} (h : Lreplace_Accept_5 a0 = some y) : K50.G (K50.E a0) = some (K50.R a0 y):=i50.eq h
noncomputable abbrev K77 : Con Tapi_Tx Int:=⟨fun x=>[.agg ([.v (.int .u32 x.1),.slice .no (List.map eapi_Input x.2.1),.slice .no (List.map eapi_Output x.2.2.1),.v (.int .u32 x.2.2.2)])],fun _ y=>(.one (.v (.int .i64 y)),[]),fun x=>Ltx_Weight x⟩
theorem i77 : K77.Inj:=by intro a b h; simpa [K77,Prod.ext_iff,and_assoc] using h
theorem G77_eq {a0 y} (h : Ltx_Weight a0 = some y) : K77.G (K77.E a0) = some (K77.R a0 y):=i77.eq h
noncomputable abbrev K78 : Con (Int×Int) Int:=⟨fun x=>[.one (.v (.int .i64 x.1)),.one (.v (.int .i64 x.2))],fun _ y=>(.one (.v (.int .i64 y)),[]),fun x=>Lbuild_Fee x.1 x.2⟩
theorem i78 : K78.Inj:=by intro a b h; simpa [K78,Prod.ext_iff,and_assoc] using h
theorem G78_eq {a0 a1 y} (h : Lbuild_Fee a0 a1 = some y) : K78.G (K78.E (a0,a1)) = some (K78.R (a0,a1) y):=i78.eq h
noncomputable abbrev K79 : Con (Int×Int) Int:=⟨fun x=>[.one (.v (.int .i64 x.1)),.one (.v (.int .i64 x.2))],fun _ y=>(.one (.v (.int .i64 y)),[]),fun x=>Lfees_Rate x.1 x.2⟩
theorem i79 : K79.Inj:=by intro a b h; simpa [K79,Prod.ext_iff,and_assoc] using h
theorem G79_eq {a0 a1 y} (h : Lfees_Rate a0 a1 = some y) : K79.G (K79.E (a0,a1)) = some (K79.R (a0,a1) y):=i79.eq h
noncomputable abbrev K61 : Con Tapi_Entry Int:=⟨fun x=>[.agg ([.v (.int .u32 x.1.1),.slice .no (List.map eapi_Input x.1.2.1),.slice .no (List.map eapi_Output x.1.2.2.1),.v (.int .u32 x.1.2.2.2),.v (.int .i64 x.2)])],fun _ y=>(.one (.v (.int .i64 y)),[]),fun x=>Lreplace_rateOf x⟩
theorem i61 : K61.Inj:=by intro a b h; simpa [K61,Prod.ext_iff,and_assoc] using h
theorem G61_eq {a0 y} (h : Lreplace_rateOf a0 = some y) : K61.G (K61.E a0) = some (K61.R a0 y):=i61.eq h
noncomputable abbrev K80_9 : Con (Tapi_Entry×Int) Bool:=⟨fun x=>[.agg ([.v (.int .u32 x.1.1.1),.slice .no (List.map eapi_Input x.1.1.2.1),.slice .no (List.map eapi_Output x.1.1.2.2.1),.v (.int .u32 x.1.1.2.2.2),.v (.int .i64 x.1.2)]),.ref ([.v (.int .i64 x.2)])],fun _ y=>(.one (.v (.bool y)),[]),fun x=>Lreplace_enough_1__r x.1 x.2⟩
theorem i80_9 : K80_9.Inj:=by intro a b h; simpa [K80_9,Prod.ext_iff,and_assoc] using h
theorem G80_9_eq {a0 a1 y} (h : Lreplace_enough_1__r a0 a1 = some y) : K80_9.G (K80_9.E (a0,a1)) = some (K80_9.R (a0,a1) y):=i80_9.eq h
noncomputable abbrev K56_10 : Con ((List Tapi_Entry)×Int) Int:=⟨fun x=>[.one (.slice .no (List.map eapi_Entry x.1)),.clo 80 [.ref ([.v (.int .i64 x.2)])]],fun _ y=>(.one (.v (.int .i64 y)),[]),fun x=>Lslices_IndexFunc_of__api_Entry_api_Entry__replace_enough_1 x.1 x.2⟩
theorem i56_10 : K56_10.Inj:=by intro a b h; simpa [K56_10,Prod.ext_iff,and_assoc] using h
theorem G56_10_eq {a0 a1 y} (h : Lslices_IndexFunc_of__api_Entry_api_Entry__replace_enough_1 a0 a1 = some y) : K56_10.G (K56_10.E (a0,a1)) = some (K56_10.R (a0,a1) y):=i56_10.eq h
noncomputable abbrev K26_11 : Con ((List Tapi_Entry)×Int) Bool:=⟨fun x=>[.one (.slice .no (List.map eapi_Entry x.1)),.clo 80 [.ref ([.v (.int .i64 x.2)])]],fun _ y=>(.one (.v (.bool y)),[]),fun x=>Lslices_ContainsFunc_of__api_Entry_api_Entry__replace_enough_1 x.1 x.2⟩
theorem i26_11 : K26_11.Inj:=by intro a b h; simpa [K26_11,Prod.ext_iff,and_assoc] using h
theorem G26_11_eq {a0 a1 y} (h : Lslices_ContainsFunc_of__api_Entry_api_Entry__replace_enough_1 a0 a1 = some y) : K26_11.G (K26_11.E (a0,a1)) = some (K26_11.R (a0,a1) y):=i26_11.eq h
noncomputable abbrev K51 : Con ((List Tapi_Entry)×Tapi_Tx×Int) Bool:=⟨fun x=>[.one (.slice .no (List.map eapi_Entry x.1)),.agg ([.v (.int .u32 x.2.1.1),.slice .no (List.map eapi_Input x.2.1.2.1),.slice .no (List.map eapi_Output x.2.1.2.2.1),.v (.int .u32 x.2.1.2.2.2)]),.one (.v (.int .i64 x.2.2))],fun _ y=>(.one (.v (.bool y)),[]),fun x=>Lreplace_enough x.1 x.2.1 x.2.2⟩
theorem i51 : K51.Inj:=by intro a b h; simpa [K51,Prod.ext_iff,and_assoc] using h
theorem G51_eq {a0 a1 a2 y} (h : Lreplace_enough a0 a1 a2 = some y) : K51.G (K51.E (a0,a1,a2)) = some (K51.R (a0,a1,a2) y):=i51.eq h
noncomputable abbrev K56_12 : Con ((List Tapi_Entry)) Int:=⟨fun x=>[.one (.slice .no (List.map eapi_Entry x)),.fn 48],fun _ y=>(.one (.v (.int .i64 y)),[]),fun x=>Lslices_IndexFunc_of__api_Entry_api_Entry__replace_Accept_3 x⟩
theorem i56_12 : K56_12.Inj:=by intro a b h; simpa [K56_12,Prod.ext_iff,and_assoc] using h
theorem G56_12_eq {a0 y} (h : Lslices_IndexFunc_of__api_Entry_api_Entry__replace_Accept_3 a0 = some y) : K56_12.G (K56_12.E a0) = some (K56_12.R a0 y):=i56_12.eq h
noncomputable abbrev K26_13 : Con ((List Tapi_Entry)) Bool:=⟨fun x=>[.one (.slice .no (List.map eapi_Entry x)),.fn 48],fun _ y=>(.one (.v (.bool y)),[]),fun x=>Lslices_ContainsFunc_of__api_Entry_api_Entry__replace_Accept_3 x⟩
theorem i26_13 : K26_13.Inj:=by intro a b h; simpa [K26_13,Prod.ext_iff,and_assoc] using h
theorem G26_13_eq {a0 y} (h : Lslices_ContainsFunc_of__api_Entry_api_Entry__replace_Accept_3 a0 = some y) : K26_13.G (K26_13.E a0) = some (K26_13.R a0 y):=i26_13.eq h
noncomputable abbrev K43_14 : Con ((List Tapi_Entry)) Bool:=⟨fun x=>[.fn 48,.io ([.slice .no (List.map eapi_Entry x)])],fun x y=>(.one (.v (.bool y)),[[.slice .no (List.map eapi_Entry x)]]),fun x=>Lreplace_Accept_1__replace_Accept_3_p x⟩
theorem i43_14 : K43_14.Inj:=by intro a b h; simpa [K43_14,Prod.ext_iff,and_assoc] using h
theorem G43_14_eq {a0 y} (h : Lreplace_Accept_1__replace_Accept_3_p a0 = some y) : K43_14.G (K43_14.E a0) = some (K43_14.R a0 y):=i43_14.eq h
noncomputable abbrev K49_15 : Con (Tapi_Entry×Tapi_Tx) Bool:=⟨fun x=>[.agg ([.v (.int .u32 x.1.1.1),.slice .no (List.map eapi_Input x.1.1.2.1),.slice .no (List.map eapi_Output x.1.1.2.2.1),.v (.int .u32 x.1.1.2.2.2),.v (.int .i64 x.1.2)]),.ref ([.v (.int .u32 x.2.1),.slice .no (List.map eapi_Input x.2.2.1),.slice .no (List.map eapi_Output x.2.2.2.1),.v (.int .u32 x.2.2.2.2)])],fun _ y=>(.one (.v (.bool y)),[]),fun x=>Lreplace_Accept_4__r x.1 x.2⟩
theorem i49_15 : K49_15.Inj:=by intro a b h; simpa [K49_15,Prod.ext_iff,and_assoc] using h
theorem G49_15_eq {a0 a1 y} (h : Lreplace_Accept_4__r a0 a1 = some y) : K49_15.G (K49_15.E (a0,a1)) = some (K49_15.R (a0,a1) y):=i49_15.eq h
noncomputable abbrev K56_16 : Con ((List Tapi_Entry)×Tapi_Tx) Int:=⟨fun x=>[.one (.slice .no (List.map eapi_Entry x.1)),.clo 49 [.ref ([.v (.int .u32 x.2.1),.slice .no (List.map eapi_Input x.2.2.1),.slice .no (List.map eapi_Output x.2.2.2.1),.v (.int .u32 x.2.2.2.2)])]],fun _ y=>(.one (.v (.int .i64 y)),[]),fun x=>Lslices_IndexFunc_of__api_Entry_api_Entry__replace_Accept_4 x.1 x.2⟩
theorem i56_16 : K56_16.Inj:=by intro a b h; simpa [K56_16,Prod.ext_iff,and_assoc] using h
theorem G56_16_eq {a0 a1 y} (h : Lslices_IndexFunc_of__api_Entry_api_Entry__replace_Accept_4 a0 a1 = some y) : K56_16.G (K56_16.E (a0,a1)) = some (K56_16.R (a0,a1) y):=i56_16.eq h
noncomputable abbrev K26_17 : Con ((List Tapi_Entry)×Tapi_Tx) Bool:=⟨fun x=>[.one (.slice .no (List.map eapi_Entry x.1)),.clo 49 [.ref ([.v (.int .u32 x.2.1),.slice .no (List.map eapi_Input x.2.2.1),.slice .no (List.map eapi_Output x.2.2.2.1),.v (.int .u32 x.2.2.2.2)])]],fun _ y=>(.one (.v (.bool y)),[]),fun x=>Lslices_ContainsFunc_of__api_Entry_api_Entry__replace_Accept_4 x.1 x.2⟩
theorem i26_17 : K26_17.Inj:=by intro a b h; simpa [K26_17,Prod.ext_iff,and_assoc] using h
theorem G26_17_eq {a0 a1 y} (h : Lslices_ContainsFunc_of__api_Entry_api_Entry__replace_Accept_4 a0 a1 = some y) : K26_17.G (K26_17.E (a0,a1)) = some (K26_17.R (a0,a1) y):=i26_17.eq h
noncomputable abbrev K43_18 : Con (Tapi_Tx×(List Tapi_Entry)) Bool:=⟨fun x=>[.clo 49 [.ref ([.v (.int .u32 x.1.1),.slice .no (List.map eapi_Input x.1.2.1),.slice .no (List.map eapi_Output x.1.2.2.1),.v (.int .u32 x.1.2.2.2)])],.io ([.slice .no (List.map eapi_Entry x.2)])],fun x y=>(.one (.v (.bool y)),[[.slice .no (List.map eapi_Entry x.2)]]),fun x=>Lreplace_Accept_1__replace_Accept_4_p x.1 x.2⟩
theorem i43_18 : K43_18.Inj:=by intro a b h; simpa [K43_18,Prod.ext_iff,and_assoc] using h
theorem G43_18_eq {a0 a1 y} (h : Lreplace_Accept_1__replace_Accept_4_p a0 a1 = some y) : K43_18.G (K43_18.E (a0,a1)) = some (K43_18.R (a0,a1) y):=i43_18.eq h
noncomputable abbrev K56_19 : Con ((List Tapi_Entry)) Int:=⟨fun x=>[.one (.slice .no (List.map eapi_Entry x)),.fn 50],fun _ y=>(.one (.v (.int .i64 y)),[]),fun x=>Lslices_IndexFunc_of__api_Entry_api_Entry__replace_Accept_5 x⟩
theorem i56_19 : K56_19.Inj:=by intro a b h; simpa [K56_19,Prod.ext_iff,and_assoc] using h
theorem G56_19_eq {a0 y} (h : Lslices_IndexFunc_of__api_Entry_api_Entry__replace_Accept_5 a0 = some y) : K56_19.G (K56_19.E a0) = some (K56_19.R a0 y):=i56_19.eq h
noncomputable abbrev K26_20 : Con ((List Tapi_Entry)) Bool:=⟨fun x=>[.one (.slice .no (List.map eapi_Entry x)),.fn 50],fun _ y=>(.one (.v (.bool y)),[]),fun x=>Lslices_ContainsFunc_of__api_Entry_api_Entry__replace_Accept_5 x⟩
theorem i26_20 : K26_20.Inj:=by intro a b h; simpa [K26_20,Prod.ext_iff,and_assoc] using h
theorem G26_20_eq {a0 y} (h : Lslices_ContainsFunc_of__api_Entry_api_Entry__replace_Accept_5 a0 = some y) : K26_20.G (K26_20.E a0) = some (K26_20.R a0 y):=i26_20.eq h
noncomputable abbrev K43_21 : Con ((List Tapi_Entry)) Bool:=⟨fun x=>[.fn 50,.io ([.slice .no (List.map eapi_Entry x)])],fun x y=>(.one (.v (.bool y)),[[.slice .no (List.map eapi_Entry x)]]),fun x=>Lreplace_Accept_1__replace_Accept_5_p x⟩
theorem i43_21 : K43_21.Inj:=by intro a b h; simpa [K43_21,Prod.ext_iff,and_assoc] using h
theorem G43_21_eq {a0 y} (h : Lreplace_Accept_1__replace_Accept_5_p a0 = some y) : K43_21.G (K43_21.E a0) = some (K43_21.R a0 y):=i43_21.eq h
noncomputable abbrev K45_22 : Con (Tapi_Input×(Arr 32)) Bool:=⟨fun x=>[.agg ((arC .u8 x.1.1.1)++((.v (.int .u32 x.1.1.2)) :: ((.v (.int .u32 x.1.2.1)) :: ((.slice .no (List.map eS_I_u8 x.1.2.2)) :: [])))),.ref (arC .u8 x.2)],fun _ y=>(.one (.v (.bool y)),[]),fun x=>Lreplace_Accept_2_1__r x.1 x.2⟩
theorem i45_22 : K45_22.Inj:=by intro a b h; simpa [K45_22,Prod.ext_iff,and_assoc] using h
theorem G45_22_eq {a0 a1 y} (h : Lreplace_Accept_2_1__r a0 a1 = some y) : K45_22.G (K45_22.E (a0,a1)) = some (K45_22.R (a0,a1) y):=i45_22.eq h
noncomputable abbrev K73_23 : Con ((List Tapi_Input)×(Arr 32)) Int:=⟨fun x=>[.one (.slice .no (List.map eapi_Input x.1)),.clo 45 [.ref (arC .u8 x.2)]],fun _ y=>(.one (.v (.int .i64 y)),[]),fun x=>Lslices_IndexFunc_of__api_Input_api_Input__replace_Accept_2_1 x.1 x.2⟩
theorem i73_23 : K73_23.Inj:=by intro a b h; simpa [K73_23,Prod.ext_iff,and_assoc] using h
theorem G73_23_eq {a0 a1 y} (h : Lslices_IndexFunc_of__api_Input_api_Input__replace_Accept_2_1 a0 a1 = some y) : K73_23.G (K73_23.E (a0,a1)) = some (K73_23.R (a0,a1) y):=i73_23.eq h
noncomputable abbrev K38_24 : Con ((List Tapi_Input)×(Arr 32)) Bool:=⟨fun x=>[.one (.slice .no (List.map eapi_Input x.1)),.clo 45 [.ref (arC .u8 x.2)]],fun _ y=>(.one (.v (.bool y)),[]),fun x=>Lslices_ContainsFunc_of__api_Input_api_Input__replace_Accept_2_1 x.1 x.2⟩
theorem i38_24 : K38_24.Inj:=by intro a b h; simpa [K38_24,Prod.ext_iff,and_assoc] using h
theorem G38_24_eq {a0 a1 y} (h : Lslices_ContainsFunc_of__api_Input_api_Input__replace_Accept_2_1 a0 a1 = some y) : K38_24.G (K38_24.E (a0,a1)) = some (K38_24.R (a0,a1) y):=i38_24.eq h
noncomputable abbrev K44_25 : Con (Tapi_Entry×Tapi_Tx) Bool:=⟨fun x=>[.agg ([.v (.int .u32 x.1.1.1),.slice .no (List.map eapi_Input x.1.1.2.1),.slice .no (List.map eapi_Output x.1.1.2.2.1),.v (.int .u32 x.1.1.2.2.2),.v (.int .i64 x.1.2)]),.ref ([.v (.int .u32 x.2.1),.slice .no (List.map eapi_Input x.2.2.1),.slice .no (List.map eapi_Output x.2.2.2.1),.v (.int .u32 x.2.2.2.2)])],fun _ y=>(.one (.v (.bool y)),[]),fun x=>Lreplace_Accept_2__r x.1 x.2⟩
theorem i44_25 : K44_25.Inj:=by intro a b h; simpa [K44_25,Prod.ext_iff,and_assoc] using h
theorem G44_25_eq {a0 a1 y} (h : Lreplace_Accept_2__r a0 a1 = some y) : K44_25.G (K44_25.E (a0,a1)) = some (K44_25.R (a0,a1) y):=i44_25.eq h
noncomputable abbrev K56_26 : Con ((List Tapi_Entry)×Tapi_Tx) Int:=⟨fun x=>[.one (.slice .no (List.map eapi_Entry x.1)),.clo 44 [.ref ([.v (.int .u32 x.2.1),.slice .no (List.map eapi_Input x.2.2.1),.slice .no (List.map eapi_Output x.2.2.2.1),.v (.int .u32 x.2.2.2.2)])]],fun _ y=>(.one (.v (.int .i64 y)),[]),fun x=>Lslices_IndexFunc_of__api_Entry_api_Entry__replace_Accept_2 x.1 x.2⟩
theorem i56_26 : K56_26.Inj:=by intro a b h; simpa [K56_26,Prod.ext_iff,and_assoc] using h
theorem G56_26_eq {a0 a1 y} (h : Lslices_IndexFunc_of__api_Entry_api_Entry__replace_Accept_2 a0 a1 = some y) : K56_26.G (K56_26.E (a0,a1)) = some (K56_26.R (a0,a1) y):=i56_26.eq h
noncomputable abbrev K26_27 : Con ((List Tapi_Entry)×Tapi_Tx) Bool:=⟨fun x=>[.one (.slice .no (List.map eapi_Entry x.1)),.clo 44 [.ref ([.v (.int .u32 x.2.1),.slice .no (List.map eapi_Input x.2.2.1),.slice .no (List.map eapi_Output x.2.2.2.1),.v (.int .u32 x.2.2.2.2)])]],fun _ y=>(.one (.v (.bool y)),[]),fun x=>Lslices_ContainsFunc_of__api_Entry_api_Entry__replace_Accept_2 x.1 x.2⟩
theorem i26_27 : K26_27.Inj:=by intro a b h; simpa [K26_27,Prod.ext_iff,and_assoc] using h
theorem G26_27_eq {a0 a1 y} (h : Lslices_ContainsFunc_of__api_Entry_api_Entry__replace_Accept_2 a0 a1 = some y) : K26_27.G (K26_27.E (a0,a1)) = some (K26_27.R (a0,a1) y):=i26_27.eq h
noncomputable abbrev K43_28 : Con (Tapi_Tx×(List Tapi_Entry)) Bool:=⟨fun x=>[.clo 44 [.ref ([.v (.int .u32 x.1.1),.slice .no (List.map eapi_Input x.1.2.1),.slice .no (List.map eapi_Output x.1.2.2.1),.v (.int .u32 x.1.2.2.2)])],.io ([.slice .no (List.map eapi_Entry x.2)])],fun x y=>(.one (.v (.bool y)),[[.slice .no (List.map eapi_Entry x.2)]]),fun x=>Lreplace_Accept_1__replace_Accept_2_p x.1 x.2⟩
theorem i43_28 : K43_28.Inj:=by intro a b h; simpa [K43_28,Prod.ext_iff,and_assoc] using h
theorem G43_28_eq {a0 a1 y} (h : Lreplace_Accept_1__replace_Accept_2_p a0 a1 = some y) : K43_28.G (K43_28.E (a0,a1)) = some (K43_28.R (a0,a1) y):=i43_28.eq h
noncomputable abbrev K18 : Con ((List Tapi_Entry)×Tapi_Tx×Int) Int:=⟨fun x=>[.one (.slice .no (List.map eapi_Entry x.1)),.agg ([.v (.int .u32 x.2.1.1),.slice .no (List.map eapi_Input x.2.1.2.1),.slice .no (List.map eapi_Output x.2.1.2.2.1),.v (.int .u32 x.2.1.2.2.2)]),.one (.v (.int .i64 x.2.2))],fun _ y=>(.one (.v (.int .i64 y)),[]),fun x=>Lreplace_Accept x.1 x.2.1 x.2.2⟩
theorem i18 : K18.Inj:=by intro a b h; simpa [K18,Prod.ext_iff,and_assoc] using h
theorem G18_eq {a0 a1 a2 y} (h : Lreplace_Accept a0 a1 a2 = some y) : K18.G (K18.E (a0,a1,a2)) = some (K18.R (a0,a1,a2) y):=i18.eq h
noncomputable abbrev K4 : Con Unit Bool:=⟨fun _=>[],fun _ y=>(.one (.v (.bool y)),[]),fun _=>Llaw36_sane⟩
theorem i4 : K4.Inj:=fun _ _ _=>rfl
theorem G4_eq { y} (h : Llaw36_sane  = some y) : K4.G (K4.E ()) = some (K4.R () y):=i4.eq h
noncomputable abbrev K5 : Con ((List Int)) Tlightclientmill_Deck:=⟨fun x=>[.one (.slice .no (intsR .i64 x))],fun _ y=>(.io ([.slice .no (intsR .i64 y.1),.v (.int .i64 y.2)]),[]),fun x=>Lmill_New x⟩
theorem i5 : K5.Inj:=by intro a b h; simpa [K5,Prod.ext_iff,and_assoc] using h
theorem G5_eq {a0 y} (h : Lmill_New a0 = some y) : K5.G (K5.E a0) = some (K5.R a0 y):=i5.eq h
noncomputable abbrev K10 : Con (Int×Int) Int:=⟨fun x=>[.one (.v (.int .i64 x.1)),.one (.v (.int .i64 x.2))],fun _ y=>(.one (.v (.int .i64 y)),[]),fun x=>Lmill_Mod x.1 x.2⟩
theorem i10 : K10.Inj:=by intro a b h; simpa [K10,Prod.ext_iff,and_assoc] using h
theorem G10_eq {a0 a1 y} (h : Lmill_Mod a0 a1 = some y) : K10.G (K10.E (a0,a1)) = some (K10.R (a0,a1) y):=i10.eq h
noncomputable abbrev K23 : Con Tlightclientmill_Deck (Bool×Tlightclientmill_Deck):=⟨fun x=>[.io ([.slice .no (intsR .i64 x.1),.v (.int .i64 x.2)])],fun _ y=>(.one (.v (.bool y.1)),[[.slice .no (intsR .i64 y.2.1),.v (.int .i64 y.2.2)]]),fun x=>Lmill_Deck_Left x⟩
theorem i23 : K23.Inj:=by intro a b h; simpa [K23,Prod.ext_iff,and_assoc] using h
theorem G23_eq {a0 y} (h : Lmill_Deck_Left a0 = some y) : K23.G (K23.E a0) = some (K23.R a0 y):=i23.eq h
noncomputable abbrev K9 : Con (Tlightclientmill_Deck×Int) (Int×Tlightclientmill_Deck):=⟨fun x=>[.io ([.slice .no (intsR .i64 x.1.1),.v (.int .i64 x.1.2)]),.one (.v (.int .i64 x.2))],fun _ y=>(.one (.v (.int .i64 y.1)),[[.slice .no (intsR .i64 y.2.1),.v (.int .i64 y.2.2)]]),fun x=>Lmill_Deck_Next x.1 x.2⟩
theorem i9 : K9.Inj:=by intro a b h; simpa [K9,Prod.ext_iff,and_assoc] using h
theorem G9_eq {a0 a1 y} (h : Lmill_Deck_Next a0 a1 = some y) : K9.G (K9.E (a0,a1)) = some (K9.R (a0,a1) y):=i9.eq h
noncomputable abbrev K19 : Con (Tlightclientmill_Deck×Int×Int) (Int×Tlightclientmill_Deck):=⟨fun x=>[.io ([.slice .no (intsR .i64 x.1.1),.v (.int .i64 x.1.2)]),.one (.v (.int .i64 x.2.1)),.one (.v (.int .i64 x.2.2))],fun _ y=>(.one (.v (.int .i64 y.1)),[[.slice .no (intsR .i64 y.2.1),.v (.int .i64 y.2.2)]]),fun x=>Lmill_Deck_Range x.1 x.2.1 x.2.2⟩
theorem i19 : K19.Inj:=by intro a b h; simpa [K19,Prod.ext_iff,and_assoc] using h
theorem G19_eq {a0 a1 a2 y} (h : Lmill_Deck_Range a0 a1 a2 = some y) : K19.G (K19.E (a0,a1,a2)) = some (K19.R (a0,a1,a2) y):=i19.eq h
noncomputable abbrev K20 : Con Tlightclientmill_Deck ((Arr 32)×Tlightclientmill_Deck):=⟨fun x=>[.io ([.slice .no (intsR .i64 x.1),.v (.int .i64 x.2)])],fun _ y=>(.agg (arC .u8 y.1),[[.slice .no (intsR .i64 y.2.1),.v (.int .i64 y.2.2)]]),fun x=>Lmill_Hash x⟩
theorem i20 : K20.Inj:=by intro a b h; simpa [K20,Prod.ext_iff,and_assoc] using h
theorem G20_eq {a0 y} (h : Lmill_Hash a0 = some y) : K20.G (K20.E a0) = some (K20.R a0 y):=i20.eq h
noncomputable abbrev K21 : Con Int ((List Int)):=⟨fun x=>[.one (.v (.int .u8 x))],fun _ y=>(.one (.own 1 (intsR .u8 y)),[]),fun x=>Lmade_Script x⟩
theorem i21 : K21.Inj:=by intro a b h; simpa [K21,Prod.ext_iff,and_assoc] using h
theorem G21_eq {a0 y} (h : Lmade_Script a0 = some y) : K21.G (K21.E a0) = some (K21.R a0 y):=i21.eq h
noncomputable abbrev K7 : Con Tlightclientmill_Deck (Tapi_Tx×Tlightclientmill_Deck):=⟨fun x=>[.io ([.slice .no (intsR .i64 x.1),.v (.int .i64 x.2)])],fun _ y=>(.agg ([.v (.int .u32 y.1.1),.own 35 (List.map eapi_Input y.1.2.1),.own 2 (List.map eapi_Output y.1.2.2.1),.v (.int .u32 y.1.2.2.2)]),[[.slice .no (intsR .i64 y.2.1),.v (.int .i64 y.2.2)]]),fun x=>Lmill_Tx x⟩
theorem i7 : K7.Inj:=by intro a b h; simpa [K7,Prod.ext_iff,and_assoc] using h
theorem G7_eq {a0 y} (h : Lmill_Tx a0 = some y) : K7.G (K7.E a0) = some (K7.R a0 y):=i7.eq h
noncomputable abbrev K6 : Con (Tlightclientmill_Deck×Int) ((List Tapi_Entry)×Tlightclientmill_Deck):=⟨fun x=>[.io ([.slice .no (intsR .i64 x.1.1),.v (.int .i64 x.1.2)]),.one (.v (.int .i64 x.2))],fun _ y=>(.one (.own 5 (List.map eapi_Entry y.1)),[[.slice .no (intsR .i64 y.2.1),.v (.int .i64 y.2.2)]]),fun x=>Lmill_Pool x.1 x.2⟩
theorem i6 : K6.Inj:=by intro a b h; simpa [K6,Prod.ext_iff,and_assoc] using h
theorem G6_eq {a0 a1 y} (h : Lmill_Pool a0 a1 = some y) : K6.G (K6.E (a0,a1)) = some (K6.R (a0,a1) y):=i6.eq h
noncomputable abbrev K97 : Con ((List Int)×(List Int)) ((List Int)):=⟨fun x=>[.one (.slice .no (intsR .u8 x.1)),.one (.slice .no (intsR .u8 x.2))],fun _ y=>(.one (.own 1 (intsR .u8 y)),[]),fun x=>Lref01_joined x.1 x.2⟩
theorem i97 : K97.Inj:=by intro a b h; simpa [K97,Prod.ext_iff,and_assoc] using h
theorem G97_eq {a0 a1 y} (h : Lref01_joined a0 a1 = some y) : K97.G (K97.E (a0,a1)) = some (K97.R (a0,a1) y):=i97.eq h
noncomputable abbrev K98 : Con (Int×Int) ((List Int)):=⟨fun x=>[.one (.v (.int .u64 x.1)),.one (.v (.int .i64 x.2))],fun _ y=>(.one (.own 1 (intsR .u8 y)),[]),fun x=>Lref01_little x.1 x.2⟩
theorem i98 : K98.Inj:=by intro a b h; simpa [K98,Prod.ext_iff,and_assoc] using h
theorem G98_eq {a0 a1 y} (h : Lref01_little a0 a1 = some y) : K98.G (K98.E (a0,a1)) = some (K98.R (a0,a1) y):=i98.eq h
noncomputable abbrev K82 : Con ((List Int)×Int) ((List Int)):=⟨fun x=>[.one (.slice .no (intsR .u8 x.1)),.one (.v (.int .u32 x.2))],fun _ y=>(.one (.own 1 (intsR .u8 y)),[]),fun x=>Lref01_AppendU32 x.1 x.2⟩
theorem i82 : K82.Inj:=by intro a b h; simpa [K82,Prod.ext_iff,and_assoc] using h
theorem G82_eq {a0 a1 y} (h : Lref01_AppendU32 a0 a1 = some y) : K82.G (K82.E (a0,a1)) = some (K82.R (a0,a1) y):=i82.eq h
noncomputable abbrev K83 : Con ((List Int)×Int) ((List Int)):=⟨fun x=>[.one (.slice .no (intsR .u8 x.1)),.one (.v (.int .u64 x.2))],fun _ y=>(.one (.own 1 (intsR .u8 y)),[]),fun x=>Lref01_AppendSize x.1 x.2⟩
theorem i83 : K83.Inj:=by intro a b h; simpa [K83,Prod.ext_iff,and_assoc] using h
theorem G83_eq {a0 a1 y} (h : Lref01_AppendSize a0 a1 = some y) : K83.G (K83.E (a0,a1)) = some (K83.R (a0,a1) y):=i83.eq h
noncomputable abbrev K99 : Con ((List Int)×(Arr 32)) ((List Int)):=⟨fun x=>[.one (.slice .no (intsR .u8 x.1)),.agg (arC .u8 x.2)],fun _ y=>(.one (.own 1 (intsR .u8 y)),[]),fun x=>Lref01_AppendHash x.1 x.2⟩
theorem i99 : K99.Inj:=by intro a b h; simpa [K99,Prod.ext_iff,and_assoc] using h
theorem G99_eq {a0 a1 y} (h : Lref01_AppendHash a0 a1 = some y) : K99.G (K99.E (a0,a1)) = some (K99.R (a0,a1) y):=i99.eq h
noncomputable abbrev K84 : Con Tapi_OutPoint ((List Int)):=⟨fun x=>[.agg ((arC .u8 x.1)++((.v (.int .u32 x.2)) :: []))],fun _ y=>(.one (.own 1 (intsR .u8 y)),[]),fun x=>Lref09_Point x⟩
theorem i84 : K84.Inj:=by intro a b h; simpa [K84,Prod.ext_iff,and_assoc] using h
theorem G84_eq {a0 y} (h : Lref09_Point a0 = some y) : K84.G (K84.E a0) = some (K84.R a0 y):=i84.eq h
noncomputable abbrev K86 : Con ((List Int)×(List Int)) ((List Int)):=⟨fun x=>[.one (.slice .no (intsR .u8 x.1)),.one (.slice .no (intsR .u8 x.2))],fun _ y=>(.one (.own 1 (intsR .u8 y)),[]),fun x=>Lref01_AppendBytes x.1 x.2⟩
theorem i86 : K86.Inj:=by intro a b h; simpa [K86,Prod.ext_iff,and_assoc] using h
theorem G86_eq {a0 a1 y} (h : Lref01_AppendBytes a0 a1 = some y) : K86.G (K86.E (a0,a1)) = some (K86.R (a0,a1) y):=i86.eq h
noncomputable abbrev K100 : Con ((List Int)×Int) ((List Int)):=⟨fun x=>[.one (.slice .no (intsR .u8 x.1)),.one (.v (.int .u64 x.2))],fun _ y=>(.one (.own 1 (intsR .u8 y)),[]),fun x=>Lref01_AppendU64 x.1 x.2⟩
theorem i100 : K100.Inj:=by intro a b h; simpa [K100,Prod.ext_iff,and_assoc] using h
theorem G100_eq {a0 a1 y} (h : Lref01_AppendU64 a0 a1 = some y) : K100.G (K100.E (a0,a1)) = some (K100.R (a0,a1) y):=i100.eq h
noncomputable abbrev K85 : Con Tapi_Output ((List Int)):=⟨fun x=>[.agg ([.v (.int .i64 x.1),.slice .no (intsR .u8 x.2)])],fun _ y=>(.one (.own 1 (intsR .u8 y)),[]),fun x=>Lref09_Out x⟩
theorem i85 : K85.Inj:=by intro a b h; simpa [K85,Prod.ext_iff,and_assoc] using h
theorem G85_eq {a0 y} (h : Lref09_Out a0 = some y) : K85.G (K85.E a0) = some (K85.R a0 y):=i85.eq h
noncomputable abbrev K54 : Con (Tapi_Tx×Bool) ((List Int)):=⟨fun x=>[.agg ([.v (.int .u32 x.1.1),.slice .no (List.map eapi_Input x.1.2.1),.slice .no (List.map eapi_Output x.1.2.2.1),.v (.int .u32 x.1.2.2.2)]),.one (.v (.bool x.2))],fun _ y=>(.one (.own 1 (intsR .u8 y)),[]),fun x=>Lref09_encode x.1 x.2⟩
theorem i54 : K54.Inj:=by intro a b h; simpa [K54,Prod.ext_iff,and_assoc] using h
theorem G54_eq {a0 a1 y} (h : Lref09_encode a0 a1 = some y) : K54.G (K54.E (a0,a1)) = some (K54.R (a0,a1) y):=i54.eq h
noncomputable abbrev K52 : Con Tapi_Tx Bool:=⟨fun x=>[.agg ([.v (.int .u32 x.1),.slice .no (List.map eapi_Input x.2.1),.slice .no (List.map eapi_Output x.2.2.1),.v (.int .u32 x.2.2.2)])],fun _ y=>(.one (.v (.bool y)),[]),fun x=>Lref09_Fits x⟩
theorem i52 : K52.Inj:=by intro a b h; simpa [K52,Prod.ext_iff,and_assoc] using h
theorem G52_eq {a0 y} (h : Lref09_Fits a0 = some y) : K52.G (K52.E a0) = some (K52.R a0 y):=i52.eq h
noncomputable abbrev K94 : Con Int ((List Int)):=⟨fun x=>[.one (.v (.int .u64 x))],fun _ y=>(.one (.own 1 (intsR .u8 y)),[]),fun x=>Lref03_Pad x⟩
theorem i94 : K94.Inj:=by intro a b h; simpa [K94,Prod.ext_iff,and_assoc] using h
theorem G94_eq {a0 y} (h : Lref03_Pad a0 = some y) : K94.G (K94.E a0) = some (K94.R a0 y):=i94.eq h
noncomputable abbrev K95 : Con Unit ((Arr 8)):=⟨fun _=>[],fun _ y=>(.agg (arC .u32 y),[]),fun _=>Lref03_Initial⟩
theorem i95 : K95.Inj:=fun _ _ _=>rfl
theorem G95_eq { y} (h : Lref03_Initial  = some y) : K95.G (K95.E ()) = some (K95.R () y):=i95.eq h
noncomputable abbrev K109 : Con (Int×Int) Int:=⟨fun x=>[.one (.v (.int .u32 x.1)),.one (.v (.int .i64 x.2))],fun _ y=>(.one (.v (.int .u32 y)),[]),fun x=>Lref03_rotr x.1 x.2⟩
theorem i109 : K109.Inj:=by intro a b h; simpa [K109,Prod.ext_iff,and_assoc] using h
theorem G109_eq {a0 a1 y} (h : Lref03_rotr a0 a1 = some y) : K109.G (K109.E (a0,a1)) = some (K109.R (a0,a1) y):=i109.eq h
noncomputable abbrev K107 : Con ((Arr 64)) ((Arr 64)):=⟨fun x=>[.agg (arC .u8 x)],fun _ y=>(.agg (arC .u32 y),[]),fun x=>Lref03_schedule x⟩
theorem i107 : K107.Inj:=by intro a b h; simpa [K107,Prod.ext_iff,and_assoc] using h
theorem G107_eq {a0 y} (h : Lref03_schedule a0 = some y) : K107.G (K107.E a0) = some (K107.R a0 y):=i107.eq h
noncomputable abbrev K108 : Con Unit ((Arr 64)):=⟨fun _=>[],fun _ y=>(.agg (arC .u32 y),[]),fun _=>Lref03_constants⟩
theorem i108 : K108.Inj:=fun _ _ _=>rfl
theorem G108_eq { y} (h : Lref03_constants  = some y) : K108.G (K108.E ()) = some (K108.R () y):=i108.eq h
noncomputable abbrev K96 : Con ((Arr 8)×(Arr 64)) ((Arr 8)):=⟨fun x=>[.agg (arC .u32 x.1),.agg (arC .u8 x.2)],fun _ y=>(.agg (arC .u32 y),[]),fun x=>Lref03_Compress x.1 x.2⟩
theorem i96 : K96.Inj:=by intro a b h; simpa [K96,Prod.ext_iff,and_assoc] using h
theorem G96_eq {a0 a1 y} (h : Lref03_Compress a0 a1 = some y) : K96.G (K96.E (a0,a1)) = some (K96.R (a0,a1) y):=i96.eq h
def E81 (x : (List Int)) : List PV:=[.one (.slice .no (intsR .u8 x))]
theorem E81i : ∀ a b,E81 a = E81 b→a = b:=by
  rintro a0 b0 h
  simpa [E81,and_assoc] using h
def R81 (x : (List Int)) (y : (Arr 32)) : PV×List (List Cell):=(.agg (arC .u8 y),[])
noncomputable def G81:=lift E81 fun x=>(Lref03_Sum x).map (R81 x)
theorem G81_eq {a0 : (List Int)} {y : (Arr 32)} (h : Lref03_Sum a0 = some y) : G81 (E81 a0) = some (R81 a0 y):=lift_som E81i h
noncomputable abbrev K53 : Con ((List Int)) ((Arr 32)):=⟨fun x=>[.one (.slice .no (intsR .u8 x))],fun _ y=>(.agg (arC .u8 y),[]),fun x=>Lref03_Double x⟩
theorem i53 : K53.Inj:=by intro a b h; simpa [K53,Prod.ext_iff,and_assoc] using h
theorem G53_eq {a0 y} (h : Lref03_Double a0 = some y) : K53.G (K53.E a0) = some (K53.R a0 y):=i53.eq h
noncomputable abbrev K22 : Con Tapi_Tx ((Arr 32)):=⟨fun x=>[.agg ([.v (.int .u32 x.1),.slice .no (List.map eapi_Input x.2.1),.slice .no (List.map eapi_Output x.2.2.1),.v (.int .u32 x.2.2.2)])],fun _ y=>(.agg (arC .u8 y),[]),fun x=>Lref09_ID x⟩
theorem i22 : K22.Inj:=by intro a b h; simpa [K22,Prod.ext_iff,and_assoc] using h
theorem G22_eq {a0 y} (h : Lref09_ID a0 = some y) : K22.G (K22.E a0) = some (K22.R a0 y):=i22.eq h
noncomputable abbrev K8 : Con (Tlightclientmill_Deck×Tapi_Tx) (Tapi_Tx×Tlightclientmill_Deck):=⟨fun x=>[.io ([.slice .no (intsR .i64 x.1.1),.v (.int .i64 x.1.2)]),.agg ([.v (.int .u32 x.2.1),.slice .no (List.map eapi_Input x.2.2.1),.slice .no (List.map eapi_Output x.2.2.2.1),.v (.int .u32 x.2.2.2.2)])],fun _ y=>(.agg ([.v (.int .u32 y.1.1),.own 35 (List.map eapi_Input y.1.2.1),.own 2 (List.map eapi_Output y.1.2.2.1),.v (.int .u32 y.1.2.2.2)]),[[.slice .no (intsR .i64 y.2.1),.v (.int .i64 y.2.2)]]),fun x=>Llaw36_heir x.1 x.2⟩
theorem i8 : K8.Inj:=by intro a b h; simpa [K8,Prod.ext_iff,and_assoc] using h
theorem G8_eq {a0 a1 y} (h : Llaw36_heir a0 a1 = some y) : K8.G (K8.E (a0,a1)) = some (K8.R (a0,a1) y):=i8.eq h
noncomputable abbrev K24 : Con ((List Tapi_Entry)) Bool:=⟨fun x=>[.one (.slice .no (List.map eapi_Entry x))],fun _ y=>(.one (.v (.bool y)),[]),fun x=>Lreplace_sound x⟩
theorem i24 : K24.Inj:=by intro a b h; simpa [K24,Prod.ext_iff,and_assoc] using h
theorem G24_eq {a0 y} (h : Lreplace_sound a0 = some y) : K24.G (K24.E a0) = some (K24.R a0 y):=i24.eq h
def E57 (x : (List Tapi_Input)) : List PV:=[.one (.slice .no (List.map eapi_Input x))]
theorem E57i : ∀ a b,E57 a = E57 b→a = b:=by
  rintro a0 b0 h
  simpa [E57,and_assoc] using h
def R57 (x : (List Tapi_Input)) (y : (List Tapi_Input)) : PV×List (List Cell):=(.one (.own 35 (List.map eapi_Input y)),[])
noncomputable def G57:=lift E57 fun x=>(Lslices_Clone_of__api_Input_api_Input x).map (R57 x)
theorem G57_eq {a0 : (List Tapi_Input)} {y : (List Tapi_Input)} (h : Lslices_Clone_of__api_Input_api_Input a0 = some y) : G57 (E57 a0) = some (R57 a0 y):=lift_som E57i h
def E58 (x : (List Tapi_Output)) : List PV:=[.one (.slice .no (List.map eapi_Output x))]
theorem E58i : ∀ a b,E58 a = E58 b→a = b:=by
  rintro a0 b0 h
  simpa [E58,and_assoc] using h
def R58 (x : (List Tapi_Output)) (y : (List Tapi_Output)) : PV×List (List Cell):=(.one (.own 2 (List.map eapi_Output y)),[])
noncomputable def G58:=lift E58 fun x=>(Lslices_Clone_of__api_Output_api_Output x).map (R58 x)
theorem G58_eq {a0 : (List Tapi_Output)} {y : (List Tapi_Output)} (h : Lslices_Clone_of__api_Output_api_Output a0 = some y) : G58 (E58 a0) = some (R58 a0 y):=lift_som E58i h
def E60 (x : (List Int)) : List PV:=[.one (.slice .no (intsR .u8 x))]
theorem E60i : ∀ a b,E60 a = E60 b→a = b:=by
  rintro a0 b0 h
  simpa [E60,and_assoc] using h
def R60 (x : (List Int)) (y : (List Int)) : PV×List (List Cell):=(.one (.own 1 (intsR .u8 y)),[])
noncomputable def G60:=lift E60 fun x=>(Lbytes_Clone x).map (R60 x)
theorem G60_eq {a0 : (List Int)} {y : (List Int)} (h : Lbytes_Clone a0 = some y) : G60 (E60 a0) = some (R60 a0 y):=lift_som E60i h
def E89 (x : (List (List Int))) : List PV:=[.one (.slice .no (List.map eS_I_u8 x))]
theorem E89i : ∀ a b,E89 a = E89 b→a = b:=by
  rintro a0 b0 h
  simpa [E89,and_assoc] using h
def R89 (x : (List (List Int))) (y : (List (List Int))) : PV×List (List Cell):=(.one (.own 1 (List.map eS_I_u8 y)),[])
noncomputable def G89:=lift E89 fun x=>(Lslices_Clone_of__byte_byte x).map (R89 x)
theorem G89_eq {a0 : (List (List Int))} {y : (List (List Int))} (h : Lslices_Clone_of__byte_byte a0 = some y) : G89 (E89 a0) = some (R89 a0 y):=lift_som E89i h
noncomputable abbrev K59 : Con ((List (List Int))) ((List (List Int))):=⟨fun x=>[.one (.slice .no (List.map eS_I_u8 x))],fun _ y=>(.one (.own 1 (List.map eS_I_u8 y)),[]),fun x=>Lreplace_cloneItems x⟩
theorem i59 : K59.Inj:=by intro a b h; simpa [K59,Prod.ext_iff,and_assoc] using h
theorem G59_eq {a0 y} (h : Lreplace_cloneItems a0 = some y) : K59.G (K59.E a0) = some (K59.R a0 y):=i59.eq h
noncomputable abbrev K28 : Con Tapi_Tx Tapi_Tx:=⟨fun x=>[.agg ([.v (.int .u32 x.1),.slice .no (List.map eapi_Input x.2.1),.slice .no (List.map eapi_Output x.2.2.1),.v (.int .u32 x.2.2.2)])],fun _ y=>(.agg ([.v (.int .u32 y.1),.own 35 (List.map eapi_Input y.2.1),.own 2 (List.map eapi_Output y.2.2.1),.v (.int .u32 y.2.2.2)]),[]),fun x=>Lreplace_cloneTx x⟩
theorem i28 : K28.Inj:=by intro a b h; simpa [K28,Prod.ext_iff,and_assoc] using h
theorem G28_eq {a0 y} (h : Lreplace_cloneTx a0 = some y) : K28.G (K28.E a0) = some (K28.R a0 y):=i28.eq h
noncomputable abbrev K29 : Con ((List Tapi_Entry)) Int:=⟨fun x=>[.one (.slice .no (List.map eapi_Entry x))],fun _ y=>(.one (.v (.int .i64 y)),[]),fun x=>Lreplace_worst x⟩
theorem i29 : K29.Inj:=by intro a b h; simpa [K29,Prod.ext_iff,and_assoc] using h
theorem G29_eq {a0 y} (h : Lreplace_worst a0 = some y) : K29.G (K29.E a0) = some (K29.R a0 y):=i29.eq h
noncomputable abbrev K27_29 : Con (Tapi_Entry×(Arr 32)) Bool:=⟨fun x=>[.agg ([.v (.int .u32 x.1.1.1),.slice .no (List.map eapi_Input x.1.1.2.1),.slice .no (List.map eapi_Output x.1.1.2.2.1),.v (.int .u32 x.1.1.2.2.2),.v (.int .i64 x.1.2)]),.ref (arC .u8 x.2)],fun _ y=>(.one (.v (.bool y)),[]),fun x=>Lreplace_Insert_1__r x.1 x.2⟩
theorem i27_29 : K27_29.Inj:=by intro a b h; simpa [K27_29,Prod.ext_iff,and_assoc] using h
theorem G27_29_eq {a0 a1 y} (h : Lreplace_Insert_1__r a0 a1 = some y) : K27_29.G (K27_29.E (a0,a1)) = some (K27_29.R (a0,a1) y):=i27_29.eq h
noncomputable abbrev K56_30 : Con ((List Tapi_Entry)×(Arr 32)) Int:=⟨fun x=>[.one (.slice .no (List.map eapi_Entry x.1)),.clo 27 [.ref (arC .u8 x.2)]],fun _ y=>(.one (.v (.int .i64 y)),[]),fun x=>Lslices_IndexFunc_of__api_Entry_api_Entry__replace_Insert_1 x.1 x.2⟩
theorem i56_30 : K56_30.Inj:=by intro a b h; simpa [K56_30,Prod.ext_iff,and_assoc] using h
theorem G56_30_eq {a0 a1 y} (h : Lslices_IndexFunc_of__api_Entry_api_Entry__replace_Insert_1 a0 a1 = some y) : K56_30.G (K56_30.E (a0,a1)) = some (K56_30.R (a0,a1) y):=i56_30.eq h
noncomputable abbrev K26_31 : Con ((List Tapi_Entry)×(Arr 32)) Bool:=⟨fun x=>[.one (.slice .no (List.map eapi_Entry x.1)),.clo 27 [.ref (arC .u8 x.2)]],fun _ y=>(.one (.v (.bool y)),[]),fun x=>Lslices_ContainsFunc_of__api_Entry_api_Entry__replace_Insert_1 x.1 x.2⟩
theorem i26_31 : K26_31.Inj:=by intro a b h; simpa [K26_31,Prod.ext_iff,and_assoc] using h
theorem G26_31_eq {a0 a1 y} (h : Lslices_ContainsFunc_of__api_Entry_api_Entry__replace_Insert_1 a0 a1 = some y) : K26_31.G (K26_31.E (a0,a1)) = some (K26_31.R (a0,a1) y):=i26_31.eq h
def E30_32 (x : (List Tapi_Entry)×Int×Int) : List PV:=[.one (.own 5 (List.map eapi_Entry x.1)),.one (.v (.int .i64 x.2.1)),.one (.v (.int .i64 x.2.2))]
theorem E30_32i : ∀ a b,E30_32 a = E30_32 b→a = b:=by
  rintro ⟨a0,a1,a2⟩ ⟨b0,b1,b2⟩ h
  simpa [E30_32,and_assoc] using h
def R30_32 (x : (List Tapi_Entry)×Int×Int) (y : (List Tapi_Entry)) : PV×List (List Cell):=(.one (.own 5 (List.map eapi_Entry y)),[])
noncomputable def G30_32:=lift E30_32 fun x=>(Lslices_Delete_of__api_Entry_api_Entry x.1 x.2.1 x.2.2).map (R30_32 x)
theorem G30_32_eq {a0 : (List Tapi_Entry)} {a1 : Int} {a2 : Int} {y : (List Tapi_Entry)} (h : Lslices_Delete_of__api_Entry_api_Entry a0 a1 a2 = some y) : G30_32 (E30_32 (a0,a1,a2)) = some (R30_32 (a0,a1,a2) y):=lift_som E30_32i h
noncomputable abbrev K11 : Con ((List Tapi_Entry)×Tapi_Tx×Int×Int) ((List Tapi_Entry)×(List (Arr 32))×Int):=⟨fun x=>[.one (.slice .no (List.map eapi_Entry x.1)),.agg ([.v (.int .u32 x.2.1.1),.slice .no (List.map eapi_Input x.2.1.2.1),.slice .no (List.map eapi_Output x.2.1.2.2.1),.v (.int .u32 x.2.1.2.2.2)]),.one (.v (.int .i64 x.2.2.1)),.one (.v (.int .i64 x.2.2.2))],fun _ y=>(.tup [.one (.slice .no (List.map eapi_Entry y.1)),.one (.slice .no (List.map (arC .u8) y.2.1)),.one (.v (.int .i64 y.2.2))],[]),fun x=>Lreplace_Insert x.1 x.2.1 x.2.2.1 x.2.2.2⟩
theorem i11 : K11.Inj:=by intro a b h; simpa [K11,Prod.ext_iff,and_assoc] using h
theorem G11_eq {a0 a1 a2 a3 y} (h : Lreplace_Insert a0 a1 a2 a3 = some y) : K11.G (K11.E (a0,a1,a2,a3)) = some (K11.R (a0,a1,a2,a3) y):=i11.eq h
noncomputable abbrev K32 : Con (Tapi_Tx×Tapi_Tx) Bool:=⟨fun x=>[.agg ([.v (.int .u32 x.1.1),.slice .no (List.map eapi_Input x.1.2.1),.slice .no (List.map eapi_Output x.1.2.2.1),.v (.int .u32 x.1.2.2.2)]),.agg ([.v (.int .u32 x.2.1),.slice .no (List.map eapi_Input x.2.2.1),.slice .no (List.map eapi_Output x.2.2.2.1),.v (.int .u32 x.2.2.2.2)])],fun _ y=>(.one (.v (.bool y)),[]),fun x=>Lref36_Conflict x.1 x.2⟩
theorem i32 : K32.Inj:=by intro a b h; simpa [K32,Prod.ext_iff,and_assoc] using h
theorem G32_eq {a0 a1 y} (h : Lref36_Conflict a0 a1 = some y) : K32.G (K32.E (a0,a1)) = some (K32.R (a0,a1) y):=i32.eq h
noncomputable abbrev K90 : Con Tapi_OutPoint Bool:=⟨fun x=>[.agg ((arC .u8 x.1)++((.v (.int .u32 x.2)) :: []))],fun _ y=>(.one (.v (.bool y)),[]),fun x=>Lref09_Null x⟩
theorem i90 : K90.Inj:=by intro a b h; simpa [K90,Prod.ext_iff,and_assoc] using h
theorem G90_eq {a0 y} (h : Lref09_Null a0 = some y) : K90.G (K90.E a0) = some (K90.R a0 y):=i90.eq h
noncomputable abbrev K63 : Con Tapi_Tx Bool:=⟨fun x=>[.agg ([.v (.int .u32 x.1),.slice .no (List.map eapi_Input x.2.1),.slice .no (List.map eapi_Output x.2.2.1),.v (.int .u32 x.2.2.2)])],fun _ y=>(.one (.v (.bool y)),[]),fun x=>Lref09_Coinbase x⟩
theorem i63 : K63.Inj:=by intro a b h; simpa [K63,Prod.ext_iff,and_assoc] using h
theorem G63_eq {a0 y} (h : Lref09_Coinbase a0 = some y) : K63.G (K63.E a0) = some (K63.R a0 y):=i63.eq h
noncomputable abbrev K62 : Con Tapi_Tx Int:=⟨fun x=>[.agg ([.v (.int .u32 x.1),.slice .no (List.map eapi_Input x.2.1),.slice .no (List.map eapi_Output x.2.2.1),.v (.int .u32 x.2.2.2)])],fun _ y=>(.one (.v (.int .i64 y)),[]),fun x=>Lref09_Check x⟩
theorem i62 : K62.Inj:=by intro a b h; simpa [K62,Prod.ext_iff,and_assoc] using h
theorem G62_eq {a0 y} (h : Lref09_Check a0 = some y) : K62.G (K62.E a0) = some (K62.R a0 y):=i62.eq h
noncomputable abbrev K64 : Con Int Bool:=⟨fun x=>[.one (.v (.int .i64 x))],fun _ y=>(.one (.v (.bool y)),[]),fun x=>Lref36_money x⟩
theorem i64 : K64.Inj:=by intro a b h; simpa [K64,Prod.ext_iff,and_assoc] using h
theorem G64_eq {a0 y} (h : Lref36_money a0 = some y) : K64.G (K64.E a0) = some (K64.R a0 y):=i64.eq h
noncomputable abbrev K31 : Con ((List Tapi_Entry)) Bool:=⟨fun x=>[.one (.slice .no (List.map eapi_Entry x))],fun _ y=>(.one (.v (.bool y)),[]),fun x=>Lref36_sound x⟩
theorem i31 : K31.Inj:=by intro a b h; simpa [K31,Prod.ext_iff,and_assoc] using h
theorem G31_eq {a0 y} (h : Lref36_sound a0 = some y) : K31.G (K31.E a0) = some (K31.R a0 y):=i31.eq h
noncomputable abbrev K65 : Con Tapi_Tx Bool:=⟨fun x=>[.agg ([.v (.int .u32 x.1),.slice .no (List.map eapi_Input x.2.1),.slice .no (List.map eapi_Output x.2.2.1),.v (.int .u32 x.2.2.2)])],fun _ y=>(.one (.v (.bool y)),[]),fun x=>Lref36_Signals x⟩
theorem i65 : K65.Inj:=by intro a b h; simpa [K65,Prod.ext_iff,and_assoc] using h
theorem G65_eq {a0 y} (h : Lref36_Signals a0 = some y) : K65.G (K65.E a0) = some (K65.R a0 y):=i65.eq h
noncomputable abbrev K66 : Con (Tapi_Tx×Tapi_Tx) Bool:=⟨fun x=>[.agg ([.v (.int .u32 x.1.1),.slice .no (List.map eapi_Input x.1.2.1),.slice .no (List.map eapi_Output x.1.2.2.1),.v (.int .u32 x.1.2.2.2)]),.agg ([.v (.int .u32 x.2.1),.slice .no (List.map eapi_Input x.2.2.1),.slice .no (List.map eapi_Output x.2.2.2.1),.v (.int .u32 x.2.2.2.2)])],fun _ y=>(.one (.v (.bool y)),[]),fun x=>Lref36_spends x.1 x.2⟩
theorem i66 : K66.Inj:=by intro a b h; simpa [K66,Prod.ext_iff,and_assoc] using h
theorem G66_eq {a0 a1 y} (h : Lref36_spends a0 a1 = some y) : K66.G (K66.E (a0,a1)) = some (K66.R (a0,a1) y):=i66.eq h
noncomputable abbrev K91 : Con (Int×Int×Int) Bool:=⟨fun x=>[.one (.v (.int .i64 x.1)),.one (.v (.int .i64 x.2.1)),.one (.v (.int .i64 x.2.2))],fun _ y=>(.one (.v (.bool y)),[]),fun x=>Lref34_in x.1 x.2.1 x.2.2⟩
theorem i91 : K91.Inj:=by intro a b h; simpa [K91,Prod.ext_iff,and_assoc] using h
theorem G91_eq {a0 a1 a2 y} (h : Lref34_in a0 a1 a2 = some y) : K91.G (K91.E (a0,a1,a2)) = some (K91.R (a0,a1,a2) y):=i91.eq h
noncomputable abbrev K67 : Con (Int×Int) Int:=⟨fun x=>[.one (.v (.int .i64 x.1)),.one (.v (.int .i64 x.2))],fun _ y=>(.one (.v (.int .i64 y)),[]),fun x=>Lref34_Fee x.1 x.2⟩
theorem i67 : K67.Inj:=by intro a b h; simpa [K67,Prod.ext_iff,and_assoc] using h
theorem G67_eq {a0 a1 y} (h : Lref34_Fee a0 a1 = some y) : K67.G (K67.E (a0,a1)) = some (K67.R (a0,a1) y):=i67.eq h
noncomputable abbrev K68 : Con Tapi_Tx Int:=⟨fun x=>[.agg ([.v (.int .u32 x.1),.slice .no (List.map eapi_Input x.2.1),.slice .no (List.map eapi_Output x.2.2.1),.v (.int .u32 x.2.2.2)])],fun _ y=>(.one (.v (.int .i64 y)),[]),fun x=>Lref09_Weight x⟩
theorem i68 : K68.Inj:=by intro a b h; simpa [K68,Prod.ext_iff,and_assoc] using h
theorem G68_eq {a0 y} (h : Lref09_Weight a0 = some y) : K68.G (K68.E a0) = some (K68.R a0 y):=i68.eq h
noncomputable abbrev K92 : Con (Int×Int×Int) Bool:=⟨fun x=>[.one (.v (.int .i64 x.1)),.one (.v (.int .i64 x.2.1)),.one (.v (.int .i64 x.2.2))],fun _ y=>(.one (.v (.bool y)),[]),fun x=>Lref33_in x.1 x.2.1 x.2.2⟩
theorem i92 : K92.Inj:=by intro a b h; simpa [K92,Prod.ext_iff,and_assoc] using h
theorem G92_eq {a0 a1 a2 y} (h : Lref33_in a0 a1 a2 = some y) : K92.G (K92.E (a0,a1,a2)) = some (K92.R (a0,a1,a2) y):=i92.eq h
noncomputable abbrev K69 : Con (Int×Int) Int:=⟨fun x=>[.one (.v (.int .i64 x.1)),.one (.v (.int .i64 x.2))],fun _ y=>(.one (.v (.int .i64 y)),[]),fun x=>Lref33_Rate x.1 x.2⟩
theorem i69 : K69.Inj:=by intro a b h; simpa [K69,Prod.ext_iff,and_assoc] using h
theorem G69_eq {a0 a1 y} (h : Lref33_Rate a0 a1 = some y) : K69.G (K69.E (a0,a1)) = some (K69.R (a0,a1) y):=i69.eq h
noncomputable abbrev K33 : Con ((List Tapi_Entry)×Tapi_Tx×Int) Int:=⟨fun x=>[.one (.slice .no (List.map eapi_Entry x.1)),.agg ([.v (.int .u32 x.2.1.1),.slice .no (List.map eapi_Input x.2.1.2.1),.slice .no (List.map eapi_Output x.2.1.2.2.1),.v (.int .u32 x.2.1.2.2.2)]),.one (.v (.int .i64 x.2.2))],fun _ y=>(.one (.v (.int .i64 y)),[]),fun x=>Lref36_Accept x.1 x.2.1 x.2.2⟩
theorem i33 : K33.Inj:=by intro a b h; simpa [K33,Prod.ext_iff,and_assoc] using h
theorem G33_eq {a0 a1 a2 y} (h : Lref36_Accept a0 a1 a2 = some y) : K33.G (K33.E (a0,a1,a2)) = some (K33.R (a0,a1,a2) y):=i33.eq h
noncomputable abbrev K34 : Con Tapi_Entry Int:=⟨fun x=>[.agg ([.v (.int .u32 x.1.1),.slice .no (List.map eapi_Input x.1.2.1),.slice .no (List.map eapi_Output x.1.2.2.1),.v (.int .u32 x.1.2.2.2),.v (.int .i64 x.2)])],fun _ y=>(.one (.v (.int .i64 y)),[]),fun x=>Lref36_rate x⟩
theorem i34 : K34.Inj:=by intro a b h; simpa [K34,Prod.ext_iff,and_assoc] using h
theorem G34_eq {a0 y} (h : Lref36_rate a0 = some y) : K34.G (K34.E a0) = some (K34.R a0 y):=i34.eq h
def E12 (x : (List Tapi_Entry)×Tapi_Tx×Int×Int) : List PV:=[.one (.slice .no (List.map eapi_Entry x.1)),.agg ([.v (.int .u32 x.2.1.1),.slice .no (List.map eapi_Input x.2.1.2.1),.slice .no (List.map eapi_Output x.2.1.2.2.1),.v (.int .u32 x.2.1.2.2.2)]),.one (.v (.int .i64 x.2.2.1)),.one (.v (.int .i64 x.2.2.2))]
theorem E12i : ∀ a b,E12 a = E12 b→a = b:=by
  rintro ⟨a0,⟨a1_0,a1_1,a1_2,a1_3⟩,a2,a3⟩ ⟨b0,⟨b1_0,b1_1,b1_2,b1_3⟩,b2,b3⟩ h
  simpa [E12,and_assoc] using h
def R12 (x : (List Tapi_Entry)×Tapi_Tx×Int×Int) (y : (List Tapi_Entry)×(List (Arr 32))×Int) : PV×List (List Cell):=(.tup [.one (.slice .no (List.map eapi_Entry y.1)),.one (.slice .no (List.map (arC .u8) y.2.1)),.one (.v (.int .i64 y.2.2))],[])
noncomputable def G12:=lift E12 fun x=>(Lref36_Insert x.1 x.2.1 x.2.2.1 x.2.2.2).map (R12 x)
theorem G12_eq {a0 : (List Tapi_Entry)} {a1 : Tapi_Tx} {a2 : Int} {a3 : Int} {y : (List Tapi_Entry)×(List (Arr 32))×Int} (h : Lref36_Insert a0 a1 a2 a3 = some y) : G12 (E12 (a0,a1,a2,a3)) = some (R12 (a0,a1,a2,a3) y):=lift_som E12i h
noncomputable abbrev K70 : Con ((List Int)×(List Int)) Bool:=⟨fun x=>[.one (.slice .no (intsR .u8 x.1)),.one (.slice .no (intsR .u8 x.2))],fun _ y=>(.one (.v (.bool y)),[]),fun x=>Lref01_Same x.1 x.2⟩
theorem i70 : K70.Inj:=by intro a b h; simpa [K70,Prod.ext_iff,and_assoc] using h
theorem G70_eq {a0 a1 y} (h : Lref01_Same a0 a1 = some y) : K70.G (K70.E (a0,a1)) = some (K70.R (a0,a1) y):=i70.eq h
noncomputable abbrev K71 : Con (Tapi_Output×Tapi_Output) Bool:=⟨fun x=>[.agg ([.v (.int .i64 x.1.1),.slice .no (intsR .u8 x.1.2)]),.agg ([.v (.int .i64 x.2.1),.slice .no (intsR .u8 x.2.2)])],fun _ y=>(.one (.v (.bool y)),[]),fun x=>Lref09_SameOut x.1 x.2⟩
theorem i71 : K71.Inj:=by intro a b h; simpa [K71,Prod.ext_iff,and_assoc] using h
theorem G71_eq {a0 a1 y} (h : Lref09_SameOut a0 a1 = some y) : K71.G (K71.E (a0,a1)) = some (K71.R (a0,a1) y):=i71.eq h
noncomputable abbrev K35 : Con (Tapi_Tx×Tapi_Tx) Bool:=⟨fun x=>[.agg ([.v (.int .u32 x.1.1),.slice .no (List.map eapi_Input x.1.2.1),.slice .no (List.map eapi_Output x.1.2.2.1),.v (.int .u32 x.1.2.2.2)]),.agg ([.v (.int .u32 x.2.1),.slice .no (List.map eapi_Input x.2.2.1),.slice .no (List.map eapi_Output x.2.2.2.1),.v (.int .u32 x.2.2.2.2)])],fun _ y=>(.one (.v (.bool y)),[]),fun x=>Lref09_SameTx x.1 x.2⟩
theorem i35 : K35.Inj:=by intro a b h; simpa [K35,Prod.ext_iff,and_assoc] using h
theorem G35_eq {a0 a1 y} (h : Lref09_SameTx a0 a1 = some y) : K35.G (K35.E (a0,a1)) = some (K35.R (a0,a1) y):=i35.eq h
noncomputable abbrev K13 : Con ((List Tapi_Entry)×(List Tapi_Entry)) Bool:=⟨fun x=>[.one (.slice .no (List.map eapi_Entry x.1)),.one (.slice .no (List.map eapi_Entry x.2))],fun _ y=>(.one (.v (.bool y)),[]),fun x=>Lref36_Same x.1 x.2⟩
theorem i13 : K13.Inj:=by intro a b h; simpa [K13,Prod.ext_iff,and_assoc] using h
theorem G13_eq {a0 a1 y} (h : Lref36_Same a0 a1 = some y) : K13.G (K13.E (a0,a1)) = some (K13.R (a0,a1) y):=i13.eq h
noncomputable abbrev K36_33 : Con (Tapi_Tx×Tapi_Entry) Bool:=⟨fun x=>[.agg ([.v (.int .u32 x.1.1),.slice .no (List.map eapi_Input x.1.2.1),.slice .no (List.map eapi_Output x.1.2.2.1),.v (.int .u32 x.1.2.2.2)]),.ref ([.v (.int .u32 x.2.1.1),.slice .no (List.map eapi_Input x.2.1.2.1),.slice .no (List.map eapi_Output x.2.1.2.2.1),.v (.int .u32 x.2.1.2.2.2),.v (.int .i64 x.2.2)])],fun _ y=>(.one (.v (.bool y)),[]),fun x=>Lreplace_Confirm_1__r x.1 x.2⟩
theorem i36_33 : K36_33.Inj:=by intro a b h; simpa [K36_33,Prod.ext_iff,and_assoc] using h
theorem G36_33_eq {a0 a1 y} (h : Lreplace_Confirm_1__r a0 a1 = some y) : K36_33.G (K36_33.E (a0,a1)) = some (K36_33.R (a0,a1) y):=i36_33.eq h
noncomputable abbrev K72_34 : Con ((List Tapi_Tx)×Tapi_Entry) Int:=⟨fun x=>[.one (.slice .no (List.map eapi_Tx x.1)),.clo 36 [.ref ([.v (.int .u32 x.2.1.1),.slice .no (List.map eapi_Input x.2.1.2.1),.slice .no (List.map eapi_Output x.2.1.2.2.1),.v (.int .u32 x.2.1.2.2.2),.v (.int .i64 x.2.2)])]],fun _ y=>(.one (.v (.int .i64 y)),[]),fun x=>Lslices_IndexFunc_of__api_Tx_api_Tx__replace_Confirm_1 x.1 x.2⟩
theorem i72_34 : K72_34.Inj:=by intro a b h; simpa [K72_34,Prod.ext_iff,and_assoc] using h
theorem G72_34_eq {a0 a1 y} (h : Lslices_IndexFunc_of__api_Tx_api_Tx__replace_Confirm_1 a0 a1 = some y) : K72_34.G (K72_34.E (a0,a1)) = some (K72_34.R (a0,a1) y):=i72_34.eq h
noncomputable abbrev K37_35 : Con ((List Tapi_Tx)×Tapi_Entry) Bool:=⟨fun x=>[.one (.slice .no (List.map eapi_Tx x.1)),.clo 36 [.ref ([.v (.int .u32 x.2.1.1),.slice .no (List.map eapi_Input x.2.1.2.1),.slice .no (List.map eapi_Output x.2.1.2.2.1),.v (.int .u32 x.2.1.2.2.2),.v (.int .i64 x.2.2)])]],fun _ y=>(.one (.v (.bool y)),[]),fun x=>Lslices_ContainsFunc_of__api_Tx_api_Tx__replace_Confirm_1 x.1 x.2⟩
theorem i37_35 : K37_35.Inj:=by intro a b h; simpa [K37_35,Prod.ext_iff,and_assoc] using h
theorem G37_35_eq {a0 a1 y} (h : Lslices_ContainsFunc_of__api_Tx_api_Tx__replace_Confirm_1 a0 a1 = some y) : K37_35.G (K37_35.E (a0,a1)) = some (K37_35.R (a0,a1) y):=i37_35.eq h
noncomputable abbrev K14 : Con ((List Tapi_Entry)×Tapi_Block) ((List Tapi_Entry)):=⟨fun x=>[.one (.slice .no (List.map eapi_Entry x.1)),.agg ((.v (.int .u32 x.2.1.1)) :: ((arC .u8 x.2.1.2.1)++((arC .u8 x.2.1.2.2.1)++((.v (.int .u32 x.2.1.2.2.2.1)) :: ((.v (.int .u32 x.2.1.2.2.2.2.1)) :: ((.v (.int .u32 x.2.1.2.2.2.2.2)) :: ((.slice .no (List.map eapi_Tx x.2.2)) :: [])))))))],fun _ y=>(.one (.slice .no (List.map eapi_Entry y)),[]),fun x=>Lreplace_Confirm x.1 x.2⟩
theorem i14 : K14.Inj:=by intro a b h; simpa [K14,Prod.ext_iff,and_assoc] using h
theorem G14_eq {a0 a1 y} (h : Lreplace_Confirm a0 a1 = some y) : K14.G (K14.E (a0,a1)) = some (K14.R (a0,a1) y):=i14.eq h
noncomputable abbrev K15 : Con ((List Tapi_Entry)×Tapi_Block) ((List Tapi_Entry)):=⟨fun x=>[.one (.slice .no (List.map eapi_Entry x.1)),.agg ((.v (.int .u32 x.2.1.1)) :: ((arC .u8 x.2.1.2.1)++((arC .u8 x.2.1.2.2.1)++((.v (.int .u32 x.2.1.2.2.2.1)) :: ((.v (.int .u32 x.2.1.2.2.2.2.1)) :: ((.v (.int .u32 x.2.1.2.2.2.2.2)) :: ((.slice .no (List.map eapi_Tx x.2.2)) :: [])))))))],fun _ y=>(.one (.slice .no (List.map eapi_Entry y)),[]),fun x=>Lref36_Confirm x.1 x.2⟩
theorem i15 : K15.Inj:=by intro a b h; simpa [K15,Prod.ext_iff,and_assoc] using h
theorem G15_eq {a0 a1 y} (h : Lref36_Confirm a0 a1 = some y) : K15.G (K15.E (a0,a1)) = some (K15.R (a0,a1) y):=i15.eq h
def E3 (x : (List Int)×Int×Int) : List PV:=[.one (.slice .no (intsR .i64 x.1)),.one (.v (.int .i64 x.2.1)),.one (.v (.int .i64 x.2.2))]
theorem E3i : ∀ a b,E3 a = E3 b→a = b:=by
  rintro ⟨a0,a1,a2⟩ ⟨b0,b1,b2⟩ h
  simpa [E3,and_assoc] using h
def R3 (x : (List Int)×Int×Int) (y : Bool) : PV×List (List Cell):=(.one (.v (.bool y)),[])
noncomputable def G3:=lift E3 fun x=>(Llaw36_ReplaceInserts x.1 x.2.1 x.2.2).map (R3 x)
theorem G3_eq {a0 : (List Int)} {a1 : Int} {a2 : Int} {y : Bool} (h : Llaw36_ReplaceInserts a0 a1 a2 = some y) : G3 (E3 (a0,a1,a2)) = some (R3 (a0,a1,a2) y):=lift_som E3i h
end Go.Proofs.YtjdoijdjeapekaaGreatDoor
