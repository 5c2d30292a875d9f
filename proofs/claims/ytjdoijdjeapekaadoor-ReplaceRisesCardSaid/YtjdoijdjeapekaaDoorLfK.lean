import Derived.Test.YtjdoijdjeapekaaDoorLcG3
import Derived.Test.YtjdoijdjeapekaaDoorLcG1
import Derived.Test.YtjdoijdjeapekaaDoorLcG1
import Derived.Test.YtjdoijdjeapekaaDoorLcG3
import Derived.Test.YtjdoijdjeapekaaDoorLcG3
import Derived.Test.YtjdoijdjeapekaaDoorTt
namespace Go.Proofs.YtjdoijdjeapekaaDoor
open Go.RowKit
open Go.Av
open Go.Lc
set_option maxRecDepth 100000
set_option linter.unusedSimpArgs false
set_option linter.unusedVariables false
attribute [simp] tt1 tt2 tt3 tt4 tt5 tt6 tt7 tt8 tt9 tt10 tt11 tt12 tt13 tt14 tt15 tt16 tt17 tt18 tt19 tt21 tt22 tt23 tt24 tt25 tt26 tt27 tt28 tt29 tt30 tt31 tt32 tt33 tt34 tt35 tt36 tt37 tt38 tt39 tt40 tt41 tt42 tt43 tt45 tt46 tt47 tt48 tt49 tt50 tt51 tt52 tt53 tt54 tt55 tt56 tt57 tt58 tt59 tt60 tt61 tt62 tt63 tt64 tt65 tt66 tt67 tt68 tt69 tt70 tt71 tt72 tt73 tt74 tt75 tt76 tt77 tt78 tt80 tt81 tt82 tt83 tt84 tt85 tt86 tt87 tt88 tt89 tt90 tt91 tt92 tt93 tt94 tt95 tt96 tt97 tt98 tt99 tt100 tt101 tt102 tt103 tt104 tt105 tt106 tt107 tt109 tt110 tt111 tt112 tt114 tt115 tt116 tt117 tt118 tt119 tt120 tt121 tt122 tt123 tt124 tt125 tt126 tt127 tt128 tt129 tt130 tt131 tt132 tt133 tt134 tt135 tt136 tt137 tt138 tt139 tt140 tt141 tt142 tt143 ti1 ti2 ti3 ti4 ti5 ti6 ti7 ti8 ti9 ti10 ti11 ti12 ti13 ti14 ti15 ti16 ti17 ti18 ti19 ti21 ti22 ti23 ti24 ti25 ti26 ti27 ti28 ti29 ti30 ti31 ti32 ti33 ti34 ti35 ti36 ti37 ti38 ti39 ti40 ti41 ti42 ti43 ti45 ti46 ti47 ti48 ti49 ti50 ti51 ti52 ti53 ti54 ti55 ti56 ti57 ti58 ti59 ti60 ti61 ti62 ti63 ti64 ti65 ti66 ti67 ti68 ti69 ti70 ti71 ti72 ti73 ti74 ti75 ti76 ti77 ti78 ti80 ti81 ti82 ti83 ti84 ti85 ti86 ti87 ti88 ti89 ti90 ti91 ti92 ti93 ti94 ti95 ti96 ti97 ti98 ti99 ti100 ti101 ti102 ti103 ti104 ti105 ti106 ti107 ti109 ti110 ti111 ti112 ti114 ti115 ti116 ti117 ti118 ti119 ti120 ti121 ti122 ti123 ti124 ti125 ti126 ti127 ti128 ti129 ti130 ti131 ti132 ti133 ti134 ti135 ti136 ti137 ti138 ti139 ti140 ti141 ti142 ti143
@[simp] theorem arCs_any2 {n : Nat} {k : IntKind} {l : List (Arr n)} : l.any ((fun l=>l.any Cell.isSl) ∘ arC k) = false:=by simp [arC,ints]
@[simp↓] theorem intsR_alld {k : IntKind} (m : List Int) (n : Nat) : (∀ l,l∈List.drop n (intsR k m)→l.length = 1) = True:=eq_true fun l h=>intsR_all l (List.mem_of_mem_drop h)
@[simp↓] theorem intsR_allt {k : IntKind} (m : List Int) (n : Nat) : (∀ l,l∈List.take n (intsR k m)→l.length = 1) = True:=eq_true fun l h=>intsR_all l (List.mem_of_mem_take h)
@[simp↓] theorem intsR_all1 {k : IntKind} (m : List Int) : (∀ l,l∈(intsR k m).tail→l.length = 1) = True:=eq_true fun l h=>intsR_all l (List.mem_of_mem_tail h)
@[simp↓] theorem intsR_all1t {k : IntKind} (m : List Int) (n : Nat) : (∀ l,l∈List.take n (intsR k m).tail→l.length = 1) = True:=eq_true fun l h=>intsR_all l (List.mem_of_mem_tail (List.mem_of_mem_take h))
@[simp↓] theorem intsR_all1d {k : IntKind} (m : List Int) (n : Nat) : (∀ l,l∈List.drop n (intsR k m).tail→l.length = 1) = True:=eq_true fun l h=>intsR_all l (List.mem_of_mem_tail (List.mem_of_mem_drop h))
@[simp] theorem arC_z8 : arC .u64 (zA 8) = arC .u64 (zA 4)++arC .u64 (zA 4):=rfl
@[simp] theorem arC_z12 : arC .u64 (zA 12) = arC .u64 (zA 4)++(arC .u64 (zA 4)++arC .u64 (zA 4)):=rfl
@[simp] theorem one_add_le1 {a : Nat} : (1 + a≤a + 1) = True:=eq_true (by omega)
@[simp] theorem cutL_mid {L : List (List Cell)} {x : List Cell} {i m : Nat} (h : i≤m) (hL : L.length = m) : cutL (i + (1 + (m - i))) (List.take i L++x :: List.drop i L) = List.take i L++x :: List.drop i L:=by
  unfold cutL;rw [if_pos];simp
  omega
@[simp] theorem take_mid {L : List (List Cell)} {x : List Cell} {i m : Nat} (hL : L.length = m) : List.take (1 + (m - i)) (x :: List.drop i L) = x :: List.drop i L :=
  List.take_of_length_le (by simp; omega)
@[simp] def eS_I_u8 (x : (List Int)) : List Cell:=[.slice .no (intsR .u8 x)]
theorem eS_I_u8_inj : ∀ a b,eS_I_u8 a = eS_I_u8 b→a = b:=by
  rintro a b h
  simpa [and_assoc] using h
@[simp↓] theorem eS_I_u8_all (m : List (List Int)) : (∀ l,l∈List.map eS_I_u8 m→l.length = 1) = True:=all_map_len (fun a=>by simp) m
@[simp↓] theorem eS_I_u8_alld (m : List (List Int)) (k : Nat) : (∀ l,l∈List.drop k (List.map eS_I_u8 m)→l.length = 1) = True:=eq_true fun l h=>of_eq_true (eS_I_u8_all m) l (List.mem_of_mem_drop h)
@[simp↓] theorem eS_I_u8_allt (m : List (List Int)) (k : Nat) : (∀ l,l∈List.take k (List.map eS_I_u8 m)→l.length = 1) = True:=eq_true fun l h=>of_eq_true (eS_I_u8_all m) l (List.mem_of_mem_take h)
@[simp] theorem eS_I_u8_map {l m : List (List Int)} : List.map eS_I_u8 l = List.map eS_I_u8 m↔l = m:=map_iff eS_I_u8_inj
@[simp] def eapi_Input (x : Tapi_Input) : List Cell:=(arC .u8 x.1.1)++((.v (.int .u32 x.1.2)) :: ((.v (.int .u32 x.2.1)) :: ((.slice .no (List.map eS_I_u8 x.2.2)) :: [])))
theorem eapi_Input_inj : ∀ a b,eapi_Input a = eapi_Input b→a = b:=by
  rintro ⟨⟨a_0_0,a_0_1⟩,a_1,a_2⟩ ⟨⟨b_0_0,b_0_1⟩,b_1,b_2⟩ h
  simpa [and_assoc] using h
@[simp↓] theorem eapi_Input_all (m : List Tapi_Input) : (∀ l,l∈List.map eapi_Input m→l.length = 35) = True:=all_map_len (fun a=>by simp) m
@[simp↓] theorem eapi_Input_alld (m : List Tapi_Input) (k : Nat) : (∀ l,l∈List.drop k (List.map eapi_Input m)→l.length = 35) = True:=eq_true fun l h=>of_eq_true (eapi_Input_all m) l (List.mem_of_mem_drop h)
@[simp↓] theorem eapi_Input_allt (m : List Tapi_Input) (k : Nat) : (∀ l,l∈List.take k (List.map eapi_Input m)→l.length = 35) = True:=eq_true fun l h=>of_eq_true (eapi_Input_all m) l (List.mem_of_mem_take h)
@[simp] theorem eapi_Input_map {l m : List Tapi_Input} : List.map eapi_Input l = List.map eapi_Input m↔l = m:=map_iff eapi_Input_inj
@[simp] def eapi_Output (x : Tapi_Output) : List Cell:=[.v (.int .i64 x.1),.slice .no (intsR .u8 x.2)]
theorem eapi_Output_inj : ∀ a b,eapi_Output a = eapi_Output b→a = b:=by
  rintro ⟨a_0,a_1⟩ ⟨b_0,b_1⟩ h
  simpa [and_assoc] using h
@[simp↓] theorem eapi_Output_all (m : List Tapi_Output) : (∀ l,l∈List.map eapi_Output m→l.length = 2) = True:=all_map_len (fun a=>by simp) m
@[simp↓] theorem eapi_Output_alld (m : List Tapi_Output) (k : Nat) : (∀ l,l∈List.drop k (List.map eapi_Output m)→l.length = 2) = True:=eq_true fun l h=>of_eq_true (eapi_Output_all m) l (List.mem_of_mem_drop h)
@[simp↓] theorem eapi_Output_allt (m : List Tapi_Output) (k : Nat) : (∀ l,l∈List.take k (List.map eapi_Output m)→l.length = 2) = True:=eq_true fun l h=>of_eq_true (eapi_Output_all m) l (List.mem_of_mem_take h)
@[simp] theorem eapi_Output_map {l m : List Tapi_Output} : List.map eapi_Output l = List.map eapi_Output m↔l = m:=map_iff eapi_Output_inj
@[simp] def eapi_Coin (x : Tapi_Coin) : List Cell:=(arC .u8 x.1.1)++((.v (.int .u32 x.1.2)) :: ((.v (.int .i64 x.2.1.1)) :: ((.slice .no (intsR .u8 x.2.1.2)) :: ((.v (.int .i64 x.2.2.1)) :: ((.v (.bool x.2.2.2)) :: [])))))
theorem eapi_Coin_inj : ∀ a b,eapi_Coin a = eapi_Coin b→a = b:=by
  rintro ⟨⟨a_0_0,a_0_1⟩,⟨a_1_0,a_1_1⟩,a_2,a_3⟩ ⟨⟨b_0_0,b_0_1⟩,⟨b_1_0,b_1_1⟩,b_2,b_3⟩ h
  simpa [and_assoc] using h
@[simp↓] theorem eapi_Coin_all (m : List Tapi_Coin) : (∀ l,l∈List.map eapi_Coin m→l.length = 37) = True:=all_map_len (fun a=>by simp) m
@[simp↓] theorem eapi_Coin_alld (m : List Tapi_Coin) (k : Nat) : (∀ l,l∈List.drop k (List.map eapi_Coin m)→l.length = 37) = True:=eq_true fun l h=>of_eq_true (eapi_Coin_all m) l (List.mem_of_mem_drop h)
@[simp↓] theorem eapi_Coin_allt (m : List Tapi_Coin) (k : Nat) : (∀ l,l∈List.take k (List.map eapi_Coin m)→l.length = 37) = True:=eq_true fun l h=>of_eq_true (eapi_Coin_all m) l (List.mem_of_mem_take h)
@[simp] theorem eapi_Coin_map {l m : List Tapi_Coin} : List.map eapi_Coin l = List.map eapi_Coin m↔l = m:=map_iff eapi_Coin_inj
@[simp] def eapi_Entry (x : Tapi_Entry) : List Cell:=[.v (.int .u32 x.1.1),.slice .no (List.map eapi_Input x.1.2.1),.slice .no (List.map eapi_Output x.1.2.2.1),.v (.int .u32 x.1.2.2.2),.v (.int .i64 x.2)]
theorem eapi_Entry_inj : ∀ a b,eapi_Entry a = eapi_Entry b→a = b:=by
  rintro ⟨⟨a_0_0,a_0_1,a_0_2,a_0_3⟩,a_1⟩ ⟨⟨b_0_0,b_0_1,b_0_2,b_0_3⟩,b_1⟩ h
  simpa [and_assoc] using h
@[simp↓] theorem eapi_Entry_all (m : List Tapi_Entry) : (∀ l,l∈List.map eapi_Entry m→l.length = 5) = True:=all_map_len (fun a=>by simp) m
@[simp↓] theorem eapi_Entry_alld (m : List Tapi_Entry) (k : Nat) : (∀ l,l∈List.drop k (List.map eapi_Entry m)→l.length = 5) = True:=eq_true fun l h=>of_eq_true (eapi_Entry_all m) l (List.mem_of_mem_drop h)
@[simp↓] theorem eapi_Entry_allt (m : List Tapi_Entry) (k : Nat) : (∀ l,l∈List.take k (List.map eapi_Entry m)→l.length = 5) = True:=eq_true fun l h=>of_eq_true (eapi_Entry_all m) l (List.mem_of_mem_take h)
@[simp] theorem eapi_Entry_map {l m : List Tapi_Entry} : List.map eapi_Entry l = List.map eapi_Entry m↔l = m:=map_iff eapi_Entry_inj
theorem nfs : (∀ x : (List Int),eS_I_u8 x = [.slice .no (intsR .u8 x)])∧(∀ x : Tapi_Input,eapi_Input x = (arC .u8 x.1.1)++((.v (.int .u32 x.1.2)) :: ((.v (.int .u32 x.2.1)) :: ((.slice .no (List.map eS_I_u8 x.2.2)) :: []))))∧(∀ x : Tapi_Output,eapi_Output x = [.v (.int .i64 x.1),.slice .no (intsR .u8 x.2)])∧(∀ x : Tapi_Coin,eapi_Coin x = (arC .u8 x.1.1)++((.v (.int .u32 x.1.2)) :: ((.v (.int .i64 x.2.1.1)) :: ((.slice .no (intsR .u8 x.2.1.2)) :: ((.v (.int .i64 x.2.2.1)) :: ((.v (.bool x.2.2.2)) :: []))))))∧(∀ x : Tapi_Entry,eapi_Entry x = [.v (.int .u32 x.1.1),.slice .no (List.map eapi_Input x.1.2.1),.slice .no (List.map eapi_Output x.1.2.2.1),.v (.int .u32 x.1.2.2.2),.v (.int .i64 x.2)]):=⟨fun _=>rfl,fun _=>rfl,fun _=>rfl,fun _=>rfl,fun _=>rfl⟩
@[simp] def eM_api_OutPoint_B (x : Tapi_OutPoint×Bool) : List Cell:=((arC .u8 x.1.1)++((.v (.int .u32 x.1.2)) :: []))++([.v (.bool x.2)])
theorem eM_api_OutPoint_B_he : ∀ a b : Tapi_OutPoint,kEq ((arC .u8 a.1)++((.v (.int .u32 a.2)) :: [])) ((arC .u8 b.1)++((.v (.int .u32 b.2)) :: [])) = decide (a = b):=by
  rintro ⟨a_0,a_1⟩ ⟨b_0,b_1⟩
  rw [Bool.eq_iff_iff];simp [kEq,kEq1]
@[simp] theorem eM_api_OutPoint_B_get {k0 : (Arr 32)} {k1 : Int} {l : List (Tapi_OutPoint×Bool)} : getM 33 ((arC .u8 k0)++((.v (.int .u32 k1)) :: [])) (List.map eM_api_OutPoint_B l) = Option.map (fun v : Bool=>([.v (.bool v)] : List Cell)) (mget (k0,k1) l):=getM_map (eK:=(fun k : Tapi_OutPoint=>((arC .u8 k.1)++((.v (.int .u32 k.2)) :: []) : List Cell))) (eV:=(fun v : Bool=>([.v (.bool v)] : List Cell))) (fun k=>by simp) eM_api_OutPoint_B_he (k0,k1) l
@[simp] theorem eM_api_OutPoint_B_put {k0 : (Arr 32)} {k1 : Int} {v0 : Bool} {l : List (Tapi_OutPoint×Bool)} : putM 33 ((arC .u8 k0)++((.v (.int .u32 k1)) :: [])) ([.v (.bool v0)]) (List.map eM_api_OutPoint_B l) = List.map eM_api_OutPoint_B (mput (k0,k1) v0 l):=putM_map (eK:=(fun k : Tapi_OutPoint=>((arC .u8 k.1)++((.v (.int .u32 k.2)) :: []) : List Cell))) (eV:=(fun v : Bool=>([.v (.bool v)] : List Cell))) (fun k=>by simp) eM_api_OutPoint_B_he (k0,k1) v0 l
@[simp] theorem eM_api_OutPoint_B_gd (o : Option Bool) : (Option.map (fun v : Bool=>([.v (.bool v)] : List Cell)) o).getD ([.v (.bool false)]) = [.v (.bool (o.getD false))]:=by cases o <;> rfl
@[simp] theorem eM_api_OutPoint_B_put0 {k0 : (Arr 32)} {k1 : Int} {v0 : Bool} : putM 33 ((arC .u8 k0)++((.v (.int .u32 k1)) :: [])) ([.v (.bool v0)]) [] = List.map eM_api_OutPoint_B (mput (k0,k1) v0 []):=rfl
theorem bN {α β : Type} {o : Option α} {f : α→Option β} {y : β} {P P' : α→Prop} (h : o.bind f = some y) (k : ∀ {x},o = some x→P x) (n : ∀ x,P x→P' x:=by intro x h; try simp only [nf,nfs] at h; exact h) : ∃ x,P' x∧f x = some y :=
  let ⟨x,h1,h2⟩:=bs h
  ⟨x,n x (k h1),h2⟩
theorem goA {P R : Prop} (k : R) (h : ∀ X : Prop,SameP X R→Imp X P:=by
  intro X e
  repeat (first
    | (with_reducible refine im_assoc ?_)
    | (with_reducible refine im_seq_skip ?_)
    | (with_reducible refine im_seq_block ?_)
    | (with_reducible refine im_seq_exit ?_)
    | (with_reducible refine im_seq_ret ?_)
    | (with_reducible refine im_block ?_)
    | (with_reducible refine im_skip ?_)
    | (with_reducible refine im_exit ?_)
    | (with_reducible refine im_ret ?_)
    | (with_reducible refine im_seq_condT ?_ ?_; · simp [-Int.ofNat_toNat,bV, *]; done)
    | (with_reducible refine im_seq_condF ?_ ?_; · simp [-Int.ofNat_toNat,bV, *]; done)
    | (refine im_seq_reg rfl (by first | (simp [-Int.ofNat_toNat,Nat.add_assoc, *] <;> rfl) | fail) ?_)
    | (refine im_seq_draw rfl (by simp [-Int.ofNat_toNat,Nat.add_assoc, *]; first | exact ⟨rfl,rfl⟩ | rfl) (by kernel_rfl) ?_)
    | (with_reducible refine im_condT ?_ ?_; · simp [-Int.ofNat_toNat,bV, *]; done)
    | (with_reducible refine im_condF ?_ ?_; · simp [-Int.ofNat_toNat,bV, *]; done)
    | (refine im_reg rfl (by first | (simp [-Int.ofNat_toNat,Nat.add_assoc, *] <;> rfl) | fail) ?_)
    | (refine im_draw rfl (by simp [-Int.ofNat_toNat,Nat.add_assoc, *]; first | exact ⟨rfl,rfl⟩ | rfl) (by kernel_rfl) ?_)
    | (refine im_pq ?_ (by simp only [pq,reduceCtorEq]; rfl)))
  exact Imp.of e) : P:=h R ⟨rfl⟩ k
theorem goADRT {P R : Prop} (k : R) (h : ∀ X : Prop,SameP X R→Imp X P:=by
  intro X e
  repeat (first
    | (with_reducible refine im_assoc ?_)
    | (with_reducible refine im_seq_skip ?_)
    | (with_reducible refine im_seq_block ?_)
    | (with_reducible refine im_seq_exit ?_)
    | (with_reducible refine im_seq_ret ?_)
    | (with_reducible refine im_block ?_)
    | (with_reducible refine im_skip ?_)
    | (with_reducible refine im_exit ?_)
    | (with_reducible refine im_ret ?_)
    | (with_reducible refine im_seq_condT ?_ ?_; · simp [-Int.ofNat_toNat,bV, *]; done)
    | (with_reducible refine im_seq_condF ?_ ?_; · simp [-Int.ofNat_toNat,bV, *]; done)
    | (refine im_seq_reg rfl (by first | (simp [-Int.ofNat_toNat,Nat.add_assoc,-Int.natCast_tdiv_eq_ediv,List.range,List.range.loop,-intsR_app,-List.take_append,-List.drop_append, *] <;> rfl) | fail) ?_)
    | (refine im_seq_draw rfl (by simp [-Int.ofNat_toNat,Nat.add_assoc,-Int.natCast_tdiv_eq_ediv,List.range,List.range.loop,-intsR_app,-List.take_append,-List.drop_append, *]; first | exact ⟨rfl,rfl⟩ | rfl) (by kernel_rfl) ?_)
    | (with_reducible refine im_condT ?_ ?_; · simp [-Int.ofNat_toNat,bV, *]; done)
    | (with_reducible refine im_condF ?_ ?_; · simp [-Int.ofNat_toNat,bV, *]; done)
    | (refine im_reg rfl (by first | (simp [-Int.ofNat_toNat,Nat.add_assoc,-Int.natCast_tdiv_eq_ediv,List.range,List.range.loop,-intsR_app,-List.take_append,-List.drop_append, *] <;> rfl) | fail) ?_)
    | (refine im_draw rfl (by simp [-Int.ofNat_toNat,Nat.add_assoc,-Int.natCast_tdiv_eq_ediv,List.range,List.range.loop,-intsR_app,-List.take_append,-List.drop_append, *]; first | exact ⟨rfl,rfl⟩ | rfl) (by kernel_rfl) ?_)
    | (refine im_pq ?_ (by simp only [pq,reduceCtorEq]; rfl)))
  exact Imp.of e) : P:=h R ⟨rfl⟩ k
theorem goR {P R : Prop} (k : R) (h : ∀ X : Prop,SameP X R→Imp X P:=by
  intro X e
  repeat (first
    | (with_reducible refine im_assoc ?_)
    | (with_reducible refine im_seq_skip ?_)
    | (with_reducible refine im_seq_block ?_)
    | (with_reducible refine im_seq_exit ?_)
    | (with_reducible refine im_seq_ret ?_)
    | (with_reducible refine im_block ?_)
    | (with_reducible refine im_skip ?_)
    | (with_reducible refine im_exit ?_)
    | (with_reducible refine im_ret ?_)
    | (with_reducible refine im_seq_condT ?_ ?_; · simp [-Int.ofNat_toNat,bV, *]; done)
    | (with_reducible refine im_seq_condF ?_ ?_; · simp [-Int.ofNat_toNat,bV, *]; done)
    | (refine im_seq_reg rfl (by first | (simp [-Int.ofNat_toNat,List.range,List.range.loop, *] <;> rfl) | fail) ?_)
    | (refine im_seq_draw rfl (by simp [-Int.ofNat_toNat,List.range,List.range.loop, *]; first | exact ⟨rfl,rfl⟩ | rfl) (by kernel_rfl) ?_)
    | (with_reducible refine im_condT ?_ ?_; · simp [-Int.ofNat_toNat,bV, *]; done)
    | (with_reducible refine im_condF ?_ ?_; · simp [-Int.ofNat_toNat,bV, *]; done)
    | (refine im_reg rfl (by first | (simp [-Int.ofNat_toNat,List.range,List.range.loop, *] <;> rfl) | fail) ?_)
    | (refine im_draw rfl (by simp [-Int.ofNat_toNat,List.range,List.range.loop, *]; first | exact ⟨rfl,rfl⟩ | rfl) (by kernel_rfl) ?_)
    | (refine im_pq ?_ (by simp only [pq,reduceCtorEq]; rfl)))
  exact Imp.of e) : P:=h R ⟨rfl⟩ k
def G : Glob:=fun g=>if g = 0 then some (arC .u32 shaInitial) else if g = 1 then some (arC .u32 shaK) else none
@[simp] theorem G_at0 : G 0 = some (arC .u32 shaInitial):=rfl
@[simp] theorem G_at1 : G 1 = some (arC .u32 shaK):=rfl
noncomputable abbrev K40_1 : Con (Tapi_Input×Tapi_Input) Bool:=⟨fun x=>[.agg ((arC .u8 x.1.1.1)++((.v (.int .u32 x.1.1.2)) :: ((.v (.int .u32 x.1.2.1)) :: ((.slice .no (List.map eS_I_u8 x.1.2.2)) :: [])))),.ref ((arC .u8 x.2.1.1)++((.v (.int .u32 x.2.1.2)) :: ((.v (.int .u32 x.2.2.1)) :: ((.slice .no (List.map eS_I_u8 x.2.2.2)) :: []))))],fun _ y=>(.one (.v (.bool y)),[]),fun x=>Lreplace_Conflict_1_1__r x.1 x.2⟩
theorem i40_1 : K40_1.Inj:=by intro a b h; simpa [K40_1,Prod.ext_iff,and_assoc] using h
theorem G40_1_eq {a0 a1 y} (h : Lreplace_Conflict_1_1__r a0 a1 = some y) : K40_1.G (K40_1.E (a0,a1)) = some (K40_1.R (a0,a1) y):=i40_1.eq h
noncomputable abbrev K66_2 : Con ((List Tapi_Input)×Tapi_Input) Int:=⟨fun x=>[.one (.slice .no (List.map eapi_Input x.1)),.clo 40 [.ref ((arC .u8 x.2.1.1)++((.v (.int .u32 x.2.1.2)) :: ((.v (.int .u32 x.2.2.1)) :: ((.slice .no (List.map eS_I_u8 x.2.2.2)) :: []))))]],fun _ y=>(.one (.v (.int .i64 y)),[]),fun x=>Lslices_IndexFunc_of__api_Input_api_Input__replace_Conflict_1_1 x.1 x.2⟩
theorem i66_2 : K66_2.Inj:=by intro a b h; simpa [K66_2,Prod.ext_iff,and_assoc] using h
theorem G66_2_eq {a0 a1 y} (h : Lslices_IndexFunc_of__api_Input_api_Input__replace_Conflict_1_1 a0 a1 = some y) : K66_2.G (K66_2.E (a0,a1)) = some (K66_2.R (a0,a1) y):=i66_2.eq h
noncomputable abbrev K38_3 : Con ((List Tapi_Input)×Tapi_Input) Bool:=⟨fun x=>[.one (.slice .no (List.map eapi_Input x.1)),.clo 40 [.ref ((arC .u8 x.2.1.1)++((.v (.int .u32 x.2.1.2)) :: ((.v (.int .u32 x.2.2.1)) :: ((.slice .no (List.map eS_I_u8 x.2.2.2)) :: []))))]],fun _ y=>(.one (.v (.bool y)),[]),fun x=>Lslices_ContainsFunc_of__api_Input_api_Input__replace_Conflict_1_1 x.1 x.2⟩
theorem i38_3 : K38_3.Inj:=by intro a b h; simpa [K38_3,Prod.ext_iff,and_assoc] using h
theorem G38_3_eq {a0 a1 y} (h : Lslices_ContainsFunc_of__api_Input_api_Input__replace_Conflict_1_1 a0 a1 = some y) : K38_3.G (K38_3.E (a0,a1)) = some (K38_3.R (a0,a1) y):=i38_3.eq h
noncomputable abbrev K39_4 : Con (Tapi_Input×Tapi_Tx) Bool:=⟨fun x=>[.agg ((arC .u8 x.1.1.1)++((.v (.int .u32 x.1.1.2)) :: ((.v (.int .u32 x.1.2.1)) :: ((.slice .no (List.map eS_I_u8 x.1.2.2)) :: [])))),.ref ([.v (.int .u32 x.2.1),.slice .no (List.map eapi_Input x.2.2.1),.slice .no (List.map eapi_Output x.2.2.2.1),.v (.int .u32 x.2.2.2.2)])],fun _ y=>(.one (.v (.bool y)),[]),fun x=>Lreplace_Conflict_1__r x.1 x.2⟩
theorem i39_4 : K39_4.Inj:=by intro a b h; simpa [K39_4,Prod.ext_iff,and_assoc] using h
theorem G39_4_eq {a0 a1 y} (h : Lreplace_Conflict_1__r a0 a1 = some y) : K39_4.G (K39_4.E (a0,a1)) = some (K39_4.R (a0,a1) y):=i39_4.eq h
noncomputable abbrev K66_5 : Con ((List Tapi_Input)×Tapi_Tx) Int:=⟨fun x=>[.one (.slice .no (List.map eapi_Input x.1)),.clo 39 [.ref ([.v (.int .u32 x.2.1),.slice .no (List.map eapi_Input x.2.2.1),.slice .no (List.map eapi_Output x.2.2.2.1),.v (.int .u32 x.2.2.2.2)])]],fun _ y=>(.one (.v (.int .i64 y)),[]),fun x=>Lslices_IndexFunc_of__api_Input_api_Input__replace_Conflict_1 x.1 x.2⟩
theorem i66_5 : K66_5.Inj:=by intro a b h; simpa [K66_5,Prod.ext_iff,and_assoc] using h
theorem G66_5_eq {a0 a1 y} (h : Lslices_IndexFunc_of__api_Input_api_Input__replace_Conflict_1 a0 a1 = some y) : K66_5.G (K66_5.E (a0,a1)) = some (K66_5.R (a0,a1) y):=i66_5.eq h
noncomputable abbrev K38_6 : Con ((List Tapi_Input)×Tapi_Tx) Bool:=⟨fun x=>[.one (.slice .no (List.map eapi_Input x.1)),.clo 39 [.ref ([.v (.int .u32 x.2.1),.slice .no (List.map eapi_Input x.2.2.1),.slice .no (List.map eapi_Output x.2.2.2.1),.v (.int .u32 x.2.2.2.2)])]],fun _ y=>(.one (.v (.bool y)),[]),fun x=>Lslices_ContainsFunc_of__api_Input_api_Input__replace_Conflict_1 x.1 x.2⟩
theorem i38_6 : K38_6.Inj:=by intro a b h; simpa [K38_6,Prod.ext_iff,and_assoc] using h
theorem G38_6_eq {a0 a1 y} (h : Lslices_ContainsFunc_of__api_Input_api_Input__replace_Conflict_1 a0 a1 = some y) : K38_6.G (K38_6.E (a0,a1)) = some (K38_6.R (a0,a1) y):=i38_6.eq h
noncomputable abbrev K17 : Con (Tapi_Tx×Tapi_Tx) Bool:=⟨fun x=>[.agg ([.v (.int .u32 x.1.1),.slice .no (List.map eapi_Input x.1.2.1),.slice .no (List.map eapi_Output x.1.2.2.1),.v (.int .u32 x.1.2.2.2)]),.agg ([.v (.int .u32 x.2.1),.slice .no (List.map eapi_Input x.2.2.1),.slice .no (List.map eapi_Output x.2.2.2.1),.v (.int .u32 x.2.2.2.2)])],fun _ y=>(.one (.v (.bool y)),[]),fun x=>Lreplace_Conflict x.1 x.2⟩
theorem i17 : K17.Inj:=by intro a b h; simpa [K17,Prod.ext_iff,and_assoc] using h
theorem G17_eq {a0 a1 y} (h : Lreplace_Conflict a0 a1 = some y) : K17.G (K17.E (a0,a1)) = some (K17.R (a0,a1) y):=i17.eq h
noncomputable abbrev K41 : Con Tapi_Input Bool:=⟨fun x=>[.agg ((arC .u8 x.1.1)++((.v (.int .u32 x.1.2)) :: ((.v (.int .u32 x.2.1)) :: ((.slice .no (List.map eS_I_u8 x.2.2)) :: []))))],fun _ y=>(.one (.v (.bool y)),[]),fun x=>Lreplace_Signals_1 x⟩
theorem i41 : K41.Inj:=by intro a b h; simpa [K41,Prod.ext_iff,and_assoc] using h
theorem G41_eq {a0 y} (h : Lreplace_Signals_1 a0 = some y) : K41.G (K41.E a0) = some (K41.R a0 y):=i41.eq h
noncomputable abbrev K66_7 : Con ((List Tapi_Input)) Int:=⟨fun x=>[.one (.slice .no (List.map eapi_Input x)),.fn 41],fun _ y=>(.one (.v (.int .i64 y)),[]),fun x=>Lslices_IndexFunc_of__api_Input_api_Input__replace_Signals_1 x⟩
theorem i66_7 : K66_7.Inj:=by intro a b h; simpa [K66_7,Prod.ext_iff,and_assoc] using h
theorem G66_7_eq {a0 y} (h : Lslices_IndexFunc_of__api_Input_api_Input__replace_Signals_1 a0 = some y) : K66_7.G (K66_7.E a0) = some (K66_7.R a0 y):=i66_7.eq h
noncomputable abbrev K38_8 : Con ((List Tapi_Input)) Bool:=⟨fun x=>[.one (.slice .no (List.map eapi_Input x)),.fn 41],fun _ y=>(.one (.v (.bool y)),[]),fun x=>Lslices_ContainsFunc_of__api_Input_api_Input__replace_Signals_1 x⟩
theorem i38_8 : K38_8.Inj:=by intro a b h; simpa [K38_8,Prod.ext_iff,and_assoc] using h
theorem G38_8_eq {a0 y} (h : Lslices_ContainsFunc_of__api_Input_api_Input__replace_Signals_1 a0 = some y) : K38_8.G (K38_8.E a0) = some (K38_8.R a0 y):=i38_8.eq h
noncomputable abbrev K18 : Con Tapi_Tx Bool:=⟨fun x=>[.agg ([.v (.int .u32 x.1),.slice .no (List.map eapi_Input x.2.1),.slice .no (List.map eapi_Output x.2.2.1),.v (.int .u32 x.2.2.2)])],fun _ y=>(.one (.v (.bool y)),[]),fun x=>Lreplace_Signals x⟩
theorem i18 : K18.Inj:=by intro a b h; simpa [K18,Prod.ext_iff,and_assoc] using h
theorem G18_eq {a0 y} (h : Lreplace_Signals a0 = some y) : K18.G (K18.E a0) = some (K18.R a0 y):=i18.eq h
noncomputable abbrev K70 : Con Tapi_OutPoint Bool:=⟨fun x=>[.agg ((arC .u8 x.1)++((.v (.int .u32 x.2)) :: []))],fun _ y=>(.one (.v (.bool y)),[]),fun x=>Ltx_null x⟩
theorem i70 : K70.Inj:=by intro a b h; simpa [K70,Prod.ext_iff,and_assoc] using h
theorem G70_eq {a0 y} (h : Ltx_null a0 = some y) : K70.G (K70.E a0) = some (K70.R a0 y):=i70.eq h
noncomputable abbrev K48 : Con Tapi_Tx Bool:=⟨fun x=>[.agg ([.v (.int .u32 x.1),.slice .no (List.map eapi_Input x.2.1),.slice .no (List.map eapi_Output x.2.2.1),.v (.int .u32 x.2.2.2)])],fun _ y=>(.one (.v (.bool y)),[]),fun x=>Ltx_Coinbase x⟩
theorem i48 : K48.Inj:=by intro a b h; simpa [K48,Prod.ext_iff,and_assoc] using h
theorem G48_eq {a0 y} (h : Ltx_Coinbase a0 = some y) : K48.G (K48.E a0) = some (K48.R a0 y):=i48.eq h
noncomputable abbrev K89 : Con ((List Int)×(List Int)) ((List Int)):=⟨fun x=>[.one (.slice .no (intsR .u8 x.1)),.one (.slice .no (intsR .u8 x.2))],fun _ y=>(.one (.own 1 (intsR .u8 y)),[]),fun x=>Lcodec_extend x.1 x.2⟩
theorem i89 : K89.Inj:=by intro a b h; simpa [K89,Prod.ext_iff,and_assoc] using h
theorem G89_eq {a0 a1 y} (h : Lcodec_extend a0 a1 = some y) : K89.G (K89.E (a0,a1)) = some (K89.R (a0,a1) y):=i89.eq h
noncomputable abbrev K90 : Con (Int×Int) ((List Int)):=⟨fun x=>[.one (.v (.int .u64 x.1)),.one (.v (.int .i64 x.2))],fun _ y=>(.one (.own 1 (intsR .u8 y)),[]),fun x=>Lcodec_lowest x.1 x.2⟩
theorem i90 : K90.Inj:=by intro a b h; simpa [K90,Prod.ext_iff,and_assoc] using h
theorem G90_eq {a0 a1 y} (h : Lcodec_lowest a0 a1 = some y) : K90.G (K90.E (a0,a1)) = some (K90.R (a0,a1) y):=i90.eq h
noncomputable abbrev K79 : Con ((List Int)×Int) ((List Int)):=⟨fun x=>[.one (.slice .no (intsR .u8 x.1)),.one (.v (.int .u32 x.2))],fun _ y=>(.one (.own 1 (intsR .u8 y)),[]),fun x=>Lcodec_AppendU32 x.1 x.2⟩
theorem i79 : K79.Inj:=by intro a b h; simpa [K79,Prod.ext_iff,and_assoc] using h
theorem G79_eq {a0 a1 y} (h : Lcodec_AppendU32 a0 a1 = some y) : K79.G (K79.E (a0,a1)) = some (K79.R (a0,a1) y):=i79.eq h
noncomputable abbrev K82 : Con ((List Int)×Int) ((List Int)):=⟨fun x=>[.one (.slice .no (intsR .u8 x.1)),.one (.v (.int .u64 x.2))],fun _ y=>(.one (.own 1 (intsR .u8 y)),[]),fun x=>Lcodec_AppendU64 x.1 x.2⟩
theorem i82 : K82.Inj:=by intro a b h; simpa [K82,Prod.ext_iff,and_assoc] using h
theorem G82_eq {a0 a1 y} (h : Lcodec_AppendU64 a0 a1 = some y) : K82.G (K82.E (a0,a1)) = some (K82.R (a0,a1) y):=i82.eq h
noncomputable abbrev K91 : Con ((List Int)×Int) ((List Int)):=⟨fun x=>[.one (.slice .no (intsR .u8 x.1)),.one (.v (.int .u16 x.2))],fun _ y=>(.one (.own 1 (intsR .u8 y)),[]),fun x=>Lcodec_AppendU16 x.1 x.2⟩
theorem i91 : K91.Inj:=by intro a b h; simpa [K91,Prod.ext_iff,and_assoc] using h
theorem G91_eq {a0 a1 y} (h : Lcodec_AppendU16 a0 a1 = some y) : K91.G (K91.E (a0,a1)) = some (K91.R (a0,a1) y):=i91.eq h
noncomputable abbrev K80 : Con ((List Int)×Int) ((List Int)):=⟨fun x=>[.one (.slice .no (intsR .u8 x.1)),.one (.v (.int .u64 x.2))],fun _ y=>(.one (.own 1 (intsR .u8 y)),[]),fun x=>Lcodec_AppendSize x.1 x.2⟩
theorem i80 : K80.Inj:=by intro a b h; simpa [K80,Prod.ext_iff,and_assoc] using h
theorem G80_eq {a0 a1 y} (h : Lcodec_AppendSize a0 a1 = some y) : K80.G (K80.E (a0,a1)) = some (K80.R (a0,a1) y):=i80.eq h
noncomputable abbrev K92 : Con ((List Int)×(Arr 32)) ((List Int)):=⟨fun x=>[.one (.slice .no (intsR .u8 x.1)),.agg (arC .u8 x.2)],fun _ y=>(.one (.own 1 (intsR .u8 y)),[]),fun x=>Lcodec_AppendHash x.1 x.2⟩
theorem i92 : K92.Inj:=by intro a b h; simpa [K92,Prod.ext_iff,and_assoc] using h
theorem G92_eq {a0 a1 y} (h : Lcodec_AppendHash a0 a1 = some y) : K92.G (K92.E (a0,a1)) = some (K92.R (a0,a1) y):=i92.eq h
noncomputable abbrev K81 : Con Tapi_OutPoint ((List Int)):=⟨fun x=>[.agg ((arC .u8 x.1)++((.v (.int .u32 x.2)) :: []))],fun _ y=>(.one (.own 1 (intsR .u8 y)),[]),fun x=>Ltx_Point x⟩
theorem i81 : K81.Inj:=by intro a b h; simpa [K81,Prod.ext_iff,and_assoc] using h
theorem G81_eq {a0 y} (h : Ltx_Point a0 = some y) : K81.G (K81.E a0) = some (K81.R a0 y):=i81.eq h
noncomputable abbrev K83 : Con ((List Int)×(List Int)) ((List Int)):=⟨fun x=>[.one (.slice .no (intsR .u8 x.1)),.one (.slice .no (intsR .u8 x.2))],fun _ y=>(.one (.own 1 (intsR .u8 y)),[]),fun x=>Lcodec_AppendBytes x.1 x.2⟩
theorem i83 : K83.Inj:=by intro a b h; simpa [K83,Prod.ext_iff,and_assoc] using h
theorem G83_eq {a0 a1 y} (h : Lcodec_AppendBytes a0 a1 = some y) : K83.G (K83.E (a0,a1)) = some (K83.R (a0,a1) y):=i83.eq h
noncomputable abbrev K61 : Con (Tapi_Tx×Bool) ((List Int)):=⟨fun x=>[.agg ([.v (.int .u32 x.1.1),.slice .no (List.map eapi_Input x.1.2.1),.slice .no (List.map eapi_Output x.1.2.2.1),.v (.int .u32 x.1.2.2.2)]),.one (.v (.bool x.2))],fun _ y=>(.one (.own 1 (intsR .u8 y)),[]),fun x=>Ltx_encode x.1 x.2⟩
theorem i61 : K61.Inj:=by intro a b h; simpa [K61,Prod.ext_iff,and_assoc] using h
theorem G61_eq {a0 a1 y} (h : Ltx_encode a0 a1 = some y) : K61.G (K61.E (a0,a1)) = some (K61.R (a0,a1) y):=i61.eq h
noncomputable abbrev K60 : Con Tapi_Tx Bool:=⟨fun x=>[.agg ([.v (.int .u32 x.1),.slice .no (List.map eapi_Input x.2.1),.slice .no (List.map eapi_Output x.2.2.1),.v (.int .u32 x.2.2.2)])],fun _ y=>(.one (.v (.bool y)),[]),fun x=>Ltx_fits x⟩
theorem i60 : K60.Inj:=by intro a b h; simpa [K60,Prod.ext_iff,and_assoc] using h
theorem G60_eq {a0 y} (h : Ltx_fits a0 = some y) : K60.G (K60.E a0) = some (K60.R a0 y):=i60.eq h
noncomputable abbrev K67 : Con ((List Tapi_Output)) Bool:=⟨fun x=>[.one (.slice .no (List.map eapi_Output x))],fun _ y=>(.one (.v (.bool y)),[]),fun x=>Ltx_money x⟩
theorem i67 : K67.Inj:=by intro a b h; simpa [K67,Prod.ext_iff,and_assoc] using h
theorem G67_eq {a0 y} (h : Ltx_money a0 = some y) : K67.G (K67.E a0) = some (K67.R a0 y):=i67.eq h
noncomputable abbrev K42 : Con Tapi_Tx Int:=⟨fun x=>[.agg ([.v (.int .u32 x.1),.slice .no (List.map eapi_Input x.2.1),.slice .no (List.map eapi_Output x.2.2.1),.v (.int .u32 x.2.2.2)])],fun _ y=>(.one (.v (.int .i64 y)),[]),fun x=>Ltx_Check x⟩
theorem i42 : K42.Inj:=by intro a b h; simpa [K42,Prod.ext_iff,and_assoc] using h
theorem G42_eq {a0 y} (h : Ltx_Check a0 = some y) : K42.G (K42.E a0) = some (K42.R a0 y):=i42.eq h
noncomputable abbrev K87 : Con (Tapi_Tx×Bool) ((List Int)×Int):=⟨fun x=>[.agg ([.v (.int .u32 x.1.1),.slice .no (List.map eapi_Input x.1.2.1),.slice .no (List.map eapi_Output x.1.2.2.1),.v (.int .u32 x.1.2.2.2)]),.one (.v (.bool x.2))],fun _ y=>(.tup [.one (.slice .no (intsR .u8 y.1)),.one (.v (.int .i64 y.2))],[]),fun x=>Ltx_Encode x.1 x.2⟩
theorem i87 : K87.Inj:=by intro a b h; simpa [K87,Prod.ext_iff,and_assoc] using h
theorem G87_eq {a0 a1 y} (h : Ltx_Encode a0 a1 = some y) : K87.G (K87.E (a0,a1)) = some (K87.R (a0,a1) y):=i87.eq h
noncomputable abbrev K95 : Con ((List (List Int))) ((List Int)):=⟨fun x=>[.one (.slice .no (List.map eS_I_u8 x))],fun _ y=>(.one (.own 1 (intsR .u8 y)),[]),fun x=>Lsha_row x⟩
theorem i95 : K95.Inj:=by intro a b h; simpa [K95,Prod.ext_iff,and_assoc] using h
theorem G95_eq {a0 y} (h : Lsha_row a0 = some y) : K95.G (K95.E a0) = some (K95.R a0 y):=i95.eq h
noncomputable abbrev K96 : Con Int ((List Int)):=⟨fun x=>[.one (.v (.int .u64 x))],fun _ y=>(.one (.own 1 (intsR .u8 y)),[]),fun x=>Lsha_Pad x⟩
theorem i96 : K96.Inj:=by intro a b h; simpa [K96,Prod.ext_iff,and_assoc] using h
theorem G96_eq {a0 y} (h : Lsha_Pad a0 = some y) : K96.G (K96.E a0) = some (K96.R a0 y):=i96.eq h
noncomputable abbrev K100 : Con (Int×Int) Int:=⟨fun x=>[.one (.v (.int .u32 x.1)),.one (.v (.int .i64 x.2))],fun _ y=>(.one (.v (.int .u32 y)),[]),fun x=>Lmath_bits_RotateLeft32 x.1 x.2⟩
theorem i100 : K100.Inj:=by intro a b h; simpa [K100,Prod.ext_iff,and_assoc] using h
theorem G100_eq {a0 a1 y} (h : Lmath_bits_RotateLeft32 a0 a1 = some y) : K100.G (K100.E (a0,a1)) = some (K100.R (a0,a1) y):=i100.eq h
noncomputable abbrev K99 : Con (Int×Int) Int:=⟨fun x=>[.one (.v (.int .u32 x.1)),.one (.v (.int .i64 x.2))],fun _ y=>(.one (.v (.int .u32 y)),[]),fun x=>Lsha_rotr x.1 x.2⟩
theorem i99 : K99.Inj:=by intro a b h; simpa [K99,Prod.ext_iff,and_assoc] using h
theorem G99_eq {a0 a1 y} (h : Lsha_rotr a0 a1 = some y) : K99.G (K99.E (a0,a1)) = some (K99.R (a0,a1) y):=i99.eq h
noncomputable abbrev K98 : Con ((Arr 64)) ((Arr 64)):=⟨fun x=>[.agg (arC .u8 x)],fun _ y=>(.agg (arC .u32 y),[]),fun x=>Lsha_schedule x⟩
theorem i98 : K98.Inj:=by intro a b h; simpa [K98,Prod.ext_iff,and_assoc] using h
theorem G98_eq {a0 y} (h : Lsha_schedule a0 = some y) : K98.G (K98.E a0) = some (K98.R a0 y):=i98.eq h
noncomputable abbrev K97 : Con ((Arr 8)×(Arr 64)) ((Arr 8)):=⟨fun x=>[.agg (arC .u32 x.1),.agg (arC .u8 x.2)],fun _ y=>(.agg (arC .u32 y),[]),fun x=>Lsha_Compress x.1 x.2⟩
theorem i97 : K97.Inj:=by intro a b h; simpa [K97,Prod.ext_iff,and_assoc] using h
theorem G97_eq {a0 a1 y} (h : Lsha_Compress a0 a1 = some y) : K97.G (K97.E (a0,a1)) = some (K97.R (a0,a1) y):=i97.eq h
noncomputable abbrev K94 : Con ((List Int)) ((Arr 32)):=⟨fun x=>[.one (.slice .no (intsR .u8 x))],fun _ y=>(.agg (arC .u8 y),[]),fun x=>Lsha_Sum x⟩
theorem i94 : K94.Inj:=by intro a b h; simpa [K94,Prod.ext_iff,and_assoc] using h
theorem G94_eq {a0 y} (h : Lsha_Sum a0 = some y) : K94.G (K94.E a0) = some (K94.R a0 y):=i94.eq h
noncomputable abbrev K88 : Con ((List Int)) ((Arr 32)):=⟨fun x=>[.one (.slice .no (intsR .u8 x))],fun _ y=>(.agg (arC .u8 y),[]),fun x=>Lsha_Double x⟩
theorem i88 : K88.Inj:=by intro a b h; simpa [K88,Prod.ext_iff,and_assoc] using h
theorem G88_eq {a0 y} (h : Lsha_Double a0 = some y) : K88.G (K88.E a0) = some (K88.R a0 y):=i88.eq h
noncomputable abbrev K69 : Con (Tapi_Tx×Bool) ((Arr 32)):=⟨fun x=>[.agg ([.v (.int .u32 x.1.1),.slice .no (List.map eapi_Input x.1.2.1),.slice .no (List.map eapi_Output x.1.2.2.1),.v (.int .u32 x.1.2.2.2)]),.one (.v (.bool x.2))],fun _ y=>(.agg (arC .u8 y),[]),fun x=>Ltx_digest x.1 x.2⟩
theorem i69 : K69.Inj:=by intro a b h; simpa [K69,Prod.ext_iff,and_assoc] using h
theorem G69_eq {a0 a1 y} (h : Ltx_digest a0 a1 = some y) : K69.G (K69.E (a0,a1)) = some (K69.R (a0,a1) y):=i69.eq h
noncomputable abbrev K46 : Con Tapi_Tx ((Arr 32)):=⟨fun x=>[.agg ([.v (.int .u32 x.1),.slice .no (List.map eapi_Input x.2.1),.slice .no (List.map eapi_Output x.2.2.1),.v (.int .u32 x.2.2.2)])],fun _ y=>(.agg (arC .u8 y),[]),fun x=>Ltx_ID x⟩
theorem i46 : K46.Inj:=by intro a b h; simpa [K46,Prod.ext_iff,and_assoc] using h
theorem G46_eq {a0 y} (h : Ltx_ID a0 = some y) : K46.G (K46.E a0) = some (K46.R a0 y):=i46.eq h
noncomputable abbrev K49 : Con Int Bool:=⟨fun x=>[.one (.v (.int .i64 x))],fun _ y=>(.one (.v (.bool y)),[]),fun x=>Lreplace_money x⟩
theorem i49 : K49.Inj:=by intro a b h; simpa [K49,Prod.ext_iff,and_assoc] using h
theorem G49_eq {a0 y} (h : Lreplace_money a0 = some y) : K49.G (K49.E a0) = some (K49.R a0 y):=i49.eq h
noncomputable abbrev K50 : Con Tapi_Entry Bool:=⟨fun x=>[.agg ([.v (.int .u32 x.1.1),.slice .no (List.map eapi_Input x.1.2.1),.slice .no (List.map eapi_Output x.1.2.2.1),.v (.int .u32 x.1.2.2.2),.v (.int .i64 x.2)])],fun _ y=>(.one (.v (.bool y)),[]),fun x=>Lreplace_Accept_3 x⟩
theorem i50 : K50.Inj:=by intro a b h; simpa [K50,Prod.ext_iff,and_assoc] using h
theorem G50_eq {a0 y} (h : Lreplace_Accept_3 a0 = some y) : K50.G (K50.E a0) = some (K50.R a0 y):=i50.eq h
noncomputable abbrev K52 : Con Tapi_Entry Bool:=⟨fun x=>[.agg ([.v (.int .u32 x.1.1),.slice .no (List.map eapi_Input x.1.2.1),.slice .no (List.map eapi_Output x.1.2.2.1),.v (.int .u32 x.1.2.2.2),.v (.int .i64 x.2)])],fun _ y=>(.one (.v (.bool y)),[]),fun x=>Lreplace_Accept_5 x⟩
theorem i52 : K52.Inj:=by intro a b h; simpa [K52,Prod.ext_iff,and_assoc] using h
theorem G52_eq {a0 y} (h : Lreplace_Accept_5 a0 = some y) : K52.G (K52.E a0) = some (K52.R a0 y):=i52.eq h
noncomputable abbrev K24 : Con Tapi_Tx Int:=⟨fun x=>[.agg ([.v (.int .u32 x.1),.slice .no (List.map eapi_Input x.2.1),.slice .no (List.map eapi_Output x.2.2.1),.v (.int .u32 x.2.2.2)])],fun _ y=>(.one (.v (.int .i64 y)),[]),fun x=>Ltx_Weight x⟩
theorem i24 : K24.Inj:=by intro a b h; simpa [K24,Prod.ext_iff,and_assoc] using h
theorem G24_eq {a0 y} (h : Ltx_Weight a0 = some y) : K24.G (K24.E a0) = some (K24.R a0 y):=i24.eq h
noncomputable abbrev K25 : Con (Int×Int) Int:=⟨fun x=>[.one (.v (.int .i64 x.1)),.one (.v (.int .i64 x.2))],fun _ y=>(.one (.v (.int .i64 y)),[]),fun x=>Lbuild_Fee x.1 x.2⟩
theorem i25 : K25.Inj:=by intro a b h; simpa [K25,Prod.ext_iff,and_assoc] using h
theorem G25_eq {a0 a1 y} (h : Lbuild_Fee a0 a1 = some y) : K25.G (K25.E (a0,a1)) = some (K25.R (a0,a1) y):=i25.eq h
noncomputable abbrev K71 : Con (Int×Int) Int:=⟨fun x=>[.one (.v (.int .i64 x.1)),.one (.v (.int .i64 x.2))],fun _ y=>(.one (.v (.int .i64 y)),[]),fun x=>Lfees_Rate x.1 x.2⟩
theorem i71 : K71.Inj:=by intro a b h; simpa [K71,Prod.ext_iff,and_assoc] using h
theorem G71_eq {a0 a1 y} (h : Lfees_Rate a0 a1 = some y) : K71.G (K71.E (a0,a1)) = some (K71.R (a0,a1) y):=i71.eq h
noncomputable abbrev K73 : Con Tapi_Entry Int:=⟨fun x=>[.agg ([.v (.int .u32 x.1.1),.slice .no (List.map eapi_Input x.1.2.1),.slice .no (List.map eapi_Output x.1.2.2.1),.v (.int .u32 x.1.2.2.2),.v (.int .i64 x.2)])],fun _ y=>(.one (.v (.int .i64 y)),[]),fun x=>Lreplace_rateOf x⟩
theorem i73 : K73.Inj:=by intro a b h; simpa [K73,Prod.ext_iff,and_assoc] using h
theorem G73_eq {a0 y} (h : Lreplace_rateOf a0 = some y) : K73.G (K73.E a0) = some (K73.R a0 y):=i73.eq h
noncomputable abbrev K72_9 : Con (Tapi_Entry×Int) Bool:=⟨fun x=>[.agg ([.v (.int .u32 x.1.1.1),.slice .no (List.map eapi_Input x.1.1.2.1),.slice .no (List.map eapi_Output x.1.1.2.2.1),.v (.int .u32 x.1.1.2.2.2),.v (.int .i64 x.1.2)]),.ref ([.v (.int .i64 x.2)])],fun _ y=>(.one (.v (.bool y)),[]),fun x=>Lreplace_enough_1__r x.1 x.2⟩
theorem i72_9 : K72_9.Inj:=by intro a b h; simpa [K72_9,Prod.ext_iff,and_assoc] using h
theorem G72_9_eq {a0 a1 y} (h : Lreplace_enough_1__r a0 a1 = some y) : K72_9.G (K72_9.E (a0,a1)) = some (K72_9.R (a0,a1) y):=i72_9.eq h
noncomputable abbrev K68_10 : Con ((List Tapi_Entry)×Int) Int:=⟨fun x=>[.one (.slice .no (List.map eapi_Entry x.1)),.clo 72 [.ref ([.v (.int .i64 x.2)])]],fun _ y=>(.one (.v (.int .i64 y)),[]),fun x=>Lslices_IndexFunc_of__api_Entry_api_Entry__replace_enough_1 x.1 x.2⟩
theorem i68_10 : K68_10.Inj:=by intro a b h; simpa [K68_10,Prod.ext_iff,and_assoc] using h
theorem G68_10_eq {a0 a1 y} (h : Lslices_IndexFunc_of__api_Entry_api_Entry__replace_enough_1 a0 a1 = some y) : K68_10.G (K68_10.E (a0,a1)) = some (K68_10.R (a0,a1) y):=i68_10.eq h
noncomputable abbrev K44_11 : Con ((List Tapi_Entry)×Int) Bool:=⟨fun x=>[.one (.slice .no (List.map eapi_Entry x.1)),.clo 72 [.ref ([.v (.int .i64 x.2)])]],fun _ y=>(.one (.v (.bool y)),[]),fun x=>Lslices_ContainsFunc_of__api_Entry_api_Entry__replace_enough_1 x.1 x.2⟩
theorem i44_11 : K44_11.Inj:=by intro a b h; simpa [K44_11,Prod.ext_iff,and_assoc] using h
theorem G44_11_eq {a0 a1 y} (h : Lslices_ContainsFunc_of__api_Entry_api_Entry__replace_enough_1 a0 a1 = some y) : K44_11.G (K44_11.E (a0,a1)) = some (K44_11.R (a0,a1) y):=i44_11.eq h
noncomputable abbrev K53 : Con ((List Tapi_Entry)×Tapi_Tx×Int) Bool:=⟨fun x=>[.one (.slice .no (List.map eapi_Entry x.1)),.agg ([.v (.int .u32 x.2.1.1),.slice .no (List.map eapi_Input x.2.1.2.1),.slice .no (List.map eapi_Output x.2.1.2.2.1),.v (.int .u32 x.2.1.2.2.2)]),.one (.v (.int .i64 x.2.2))],fun _ y=>(.one (.v (.bool y)),[]),fun x=>Lreplace_enough x.1 x.2.1 x.2.2⟩
theorem i53 : K53.Inj:=by intro a b h; simpa [K53,Prod.ext_iff,and_assoc] using h
theorem G53_eq {a0 a1 a2 y} (h : Lreplace_enough a0 a1 a2 = some y) : K53.G (K53.E (a0,a1,a2)) = some (K53.R (a0,a1,a2) y):=i53.eq h
noncomputable abbrev K68_12 : Con ((List Tapi_Entry)) Int:=⟨fun x=>[.one (.slice .no (List.map eapi_Entry x)),.fn 50],fun _ y=>(.one (.v (.int .i64 y)),[]),fun x=>Lslices_IndexFunc_of__api_Entry_api_Entry__replace_Accept_3 x⟩
theorem i68_12 : K68_12.Inj:=by intro a b h; simpa [K68_12,Prod.ext_iff,and_assoc] using h
theorem G68_12_eq {a0 y} (h : Lslices_IndexFunc_of__api_Entry_api_Entry__replace_Accept_3 a0 = some y) : K68_12.G (K68_12.E a0) = some (K68_12.R a0 y):=i68_12.eq h
noncomputable abbrev K44_13 : Con ((List Tapi_Entry)) Bool:=⟨fun x=>[.one (.slice .no (List.map eapi_Entry x)),.fn 50],fun _ y=>(.one (.v (.bool y)),[]),fun x=>Lslices_ContainsFunc_of__api_Entry_api_Entry__replace_Accept_3 x⟩
theorem i44_13 : K44_13.Inj:=by intro a b h; simpa [K44_13,Prod.ext_iff,and_assoc] using h
theorem G44_13_eq {a0 y} (h : Lslices_ContainsFunc_of__api_Entry_api_Entry__replace_Accept_3 a0 = some y) : K44_13.G (K44_13.E a0) = some (K44_13.R a0 y):=i44_13.eq h
noncomputable abbrev K43_14 : Con ((List Tapi_Entry)) Bool:=⟨fun x=>[.fn 50,.io ([.slice .no (List.map eapi_Entry x)])],fun x y=>(.one (.v (.bool y)),[[.slice .no (List.map eapi_Entry x)]]),fun x=>Lreplace_Accept_1__replace_Accept_3_p x⟩
theorem i43_14 : K43_14.Inj:=by intro a b h; simpa [K43_14,Prod.ext_iff,and_assoc] using h
theorem G43_14_eq {a0 y} (h : Lreplace_Accept_1__replace_Accept_3_p a0 = some y) : K43_14.G (K43_14.E a0) = some (K43_14.R a0 y):=i43_14.eq h
noncomputable abbrev K51_15 : Con (Tapi_Entry×Tapi_Tx) Bool:=⟨fun x=>[.agg ([.v (.int .u32 x.1.1.1),.slice .no (List.map eapi_Input x.1.1.2.1),.slice .no (List.map eapi_Output x.1.1.2.2.1),.v (.int .u32 x.1.1.2.2.2),.v (.int .i64 x.1.2)]),.ref ([.v (.int .u32 x.2.1),.slice .no (List.map eapi_Input x.2.2.1),.slice .no (List.map eapi_Output x.2.2.2.1),.v (.int .u32 x.2.2.2.2)])],fun _ y=>(.one (.v (.bool y)),[]),fun x=>Lreplace_Accept_4__r x.1 x.2⟩
theorem i51_15 : K51_15.Inj:=by intro a b h; simpa [K51_15,Prod.ext_iff,and_assoc] using h
theorem G51_15_eq {a0 a1 y} (h : Lreplace_Accept_4__r a0 a1 = some y) : K51_15.G (K51_15.E (a0,a1)) = some (K51_15.R (a0,a1) y):=i51_15.eq h
noncomputable abbrev K68_16 : Con ((List Tapi_Entry)×Tapi_Tx) Int:=⟨fun x=>[.one (.slice .no (List.map eapi_Entry x.1)),.clo 51 [.ref ([.v (.int .u32 x.2.1),.slice .no (List.map eapi_Input x.2.2.1),.slice .no (List.map eapi_Output x.2.2.2.1),.v (.int .u32 x.2.2.2.2)])]],fun _ y=>(.one (.v (.int .i64 y)),[]),fun x=>Lslices_IndexFunc_of__api_Entry_api_Entry__replace_Accept_4 x.1 x.2⟩
theorem i68_16 : K68_16.Inj:=by intro a b h; simpa [K68_16,Prod.ext_iff,and_assoc] using h
theorem G68_16_eq {a0 a1 y} (h : Lslices_IndexFunc_of__api_Entry_api_Entry__replace_Accept_4 a0 a1 = some y) : K68_16.G (K68_16.E (a0,a1)) = some (K68_16.R (a0,a1) y):=i68_16.eq h
noncomputable abbrev K44_17 : Con ((List Tapi_Entry)×Tapi_Tx) Bool:=⟨fun x=>[.one (.slice .no (List.map eapi_Entry x.1)),.clo 51 [.ref ([.v (.int .u32 x.2.1),.slice .no (List.map eapi_Input x.2.2.1),.slice .no (List.map eapi_Output x.2.2.2.1),.v (.int .u32 x.2.2.2.2)])]],fun _ y=>(.one (.v (.bool y)),[]),fun x=>Lslices_ContainsFunc_of__api_Entry_api_Entry__replace_Accept_4 x.1 x.2⟩
theorem i44_17 : K44_17.Inj:=by intro a b h; simpa [K44_17,Prod.ext_iff,and_assoc] using h
theorem G44_17_eq {a0 a1 y} (h : Lslices_ContainsFunc_of__api_Entry_api_Entry__replace_Accept_4 a0 a1 = some y) : K44_17.G (K44_17.E (a0,a1)) = some (K44_17.R (a0,a1) y):=i44_17.eq h
noncomputable abbrev K43_18 : Con (Tapi_Tx×(List Tapi_Entry)) Bool:=⟨fun x=>[.clo 51 [.ref ([.v (.int .u32 x.1.1),.slice .no (List.map eapi_Input x.1.2.1),.slice .no (List.map eapi_Output x.1.2.2.1),.v (.int .u32 x.1.2.2.2)])],.io ([.slice .no (List.map eapi_Entry x.2)])],fun x y=>(.one (.v (.bool y)),[[.slice .no (List.map eapi_Entry x.2)]]),fun x=>Lreplace_Accept_1__replace_Accept_4_p x.1 x.2⟩
theorem i43_18 : K43_18.Inj:=by intro a b h; simpa [K43_18,Prod.ext_iff,and_assoc] using h
theorem G43_18_eq {a0 a1 y} (h : Lreplace_Accept_1__replace_Accept_4_p a0 a1 = some y) : K43_18.G (K43_18.E (a0,a1)) = some (K43_18.R (a0,a1) y):=i43_18.eq h
noncomputable abbrev K68_19 : Con ((List Tapi_Entry)) Int:=⟨fun x=>[.one (.slice .no (List.map eapi_Entry x)),.fn 52],fun _ y=>(.one (.v (.int .i64 y)),[]),fun x=>Lslices_IndexFunc_of__api_Entry_api_Entry__replace_Accept_5 x⟩
theorem i68_19 : K68_19.Inj:=by intro a b h; simpa [K68_19,Prod.ext_iff,and_assoc] using h
theorem G68_19_eq {a0 y} (h : Lslices_IndexFunc_of__api_Entry_api_Entry__replace_Accept_5 a0 = some y) : K68_19.G (K68_19.E a0) = some (K68_19.R a0 y):=i68_19.eq h
noncomputable abbrev K44_20 : Con ((List Tapi_Entry)) Bool:=⟨fun x=>[.one (.slice .no (List.map eapi_Entry x)),.fn 52],fun _ y=>(.one (.v (.bool y)),[]),fun x=>Lslices_ContainsFunc_of__api_Entry_api_Entry__replace_Accept_5 x⟩
theorem i44_20 : K44_20.Inj:=by intro a b h; simpa [K44_20,Prod.ext_iff,and_assoc] using h
theorem G44_20_eq {a0 y} (h : Lslices_ContainsFunc_of__api_Entry_api_Entry__replace_Accept_5 a0 = some y) : K44_20.G (K44_20.E a0) = some (K44_20.R a0 y):=i44_20.eq h
noncomputable abbrev K43_21 : Con ((List Tapi_Entry)) Bool:=⟨fun x=>[.fn 52,.io ([.slice .no (List.map eapi_Entry x)])],fun x y=>(.one (.v (.bool y)),[[.slice .no (List.map eapi_Entry x)]]),fun x=>Lreplace_Accept_1__replace_Accept_5_p x⟩
theorem i43_21 : K43_21.Inj:=by intro a b h; simpa [K43_21,Prod.ext_iff,and_assoc] using h
theorem G43_21_eq {a0 y} (h : Lreplace_Accept_1__replace_Accept_5_p a0 = some y) : K43_21.G (K43_21.E a0) = some (K43_21.R a0 y):=i43_21.eq h
noncomputable abbrev K47_22 : Con (Tapi_Input×(Arr 32)) Bool:=⟨fun x=>[.agg ((arC .u8 x.1.1.1)++((.v (.int .u32 x.1.1.2)) :: ((.v (.int .u32 x.1.2.1)) :: ((.slice .no (List.map eS_I_u8 x.1.2.2)) :: [])))),.ref (arC .u8 x.2)],fun _ y=>(.one (.v (.bool y)),[]),fun x=>Lreplace_Accept_2_1__r x.1 x.2⟩
theorem i47_22 : K47_22.Inj:=by intro a b h; simpa [K47_22,Prod.ext_iff,and_assoc] using h
theorem G47_22_eq {a0 a1 y} (h : Lreplace_Accept_2_1__r a0 a1 = some y) : K47_22.G (K47_22.E (a0,a1)) = some (K47_22.R (a0,a1) y):=i47_22.eq h
noncomputable abbrev K66_23 : Con ((List Tapi_Input)×(Arr 32)) Int:=⟨fun x=>[.one (.slice .no (List.map eapi_Input x.1)),.clo 47 [.ref (arC .u8 x.2)]],fun _ y=>(.one (.v (.int .i64 y)),[]),fun x=>Lslices_IndexFunc_of__api_Input_api_Input__replace_Accept_2_1 x.1 x.2⟩
theorem i66_23 : K66_23.Inj:=by intro a b h; simpa [K66_23,Prod.ext_iff,and_assoc] using h
theorem G66_23_eq {a0 a1 y} (h : Lslices_IndexFunc_of__api_Input_api_Input__replace_Accept_2_1 a0 a1 = some y) : K66_23.G (K66_23.E (a0,a1)) = some (K66_23.R (a0,a1) y):=i66_23.eq h
noncomputable abbrev K38_24 : Con ((List Tapi_Input)×(Arr 32)) Bool:=⟨fun x=>[.one (.slice .no (List.map eapi_Input x.1)),.clo 47 [.ref (arC .u8 x.2)]],fun _ y=>(.one (.v (.bool y)),[]),fun x=>Lslices_ContainsFunc_of__api_Input_api_Input__replace_Accept_2_1 x.1 x.2⟩
theorem i38_24 : K38_24.Inj:=by intro a b h; simpa [K38_24,Prod.ext_iff,and_assoc] using h
theorem G38_24_eq {a0 a1 y} (h : Lslices_ContainsFunc_of__api_Input_api_Input__replace_Accept_2_1 a0 a1 = some y) : K38_24.G (K38_24.E (a0,a1)) = some (K38_24.R (a0,a1) y):=i38_24.eq h
noncomputable abbrev K45_25 : Con (Tapi_Entry×Tapi_Tx) Bool:=⟨fun x=>[.agg ([.v (.int .u32 x.1.1.1),.slice .no (List.map eapi_Input x.1.1.2.1),.slice .no (List.map eapi_Output x.1.1.2.2.1),.v (.int .u32 x.1.1.2.2.2),.v (.int .i64 x.1.2)]),.ref ([.v (.int .u32 x.2.1),.slice .no (List.map eapi_Input x.2.2.1),.slice .no (List.map eapi_Output x.2.2.2.1),.v (.int .u32 x.2.2.2.2)])],fun _ y=>(.one (.v (.bool y)),[]),fun x=>Lreplace_Accept_2__r x.1 x.2⟩
theorem i45_25 : K45_25.Inj:=by intro a b h; simpa [K45_25,Prod.ext_iff,and_assoc] using h
theorem G45_25_eq {a0 a1 y} (h : Lreplace_Accept_2__r a0 a1 = some y) : K45_25.G (K45_25.E (a0,a1)) = some (K45_25.R (a0,a1) y):=i45_25.eq h
noncomputable abbrev K68_26 : Con ((List Tapi_Entry)×Tapi_Tx) Int:=⟨fun x=>[.one (.slice .no (List.map eapi_Entry x.1)),.clo 45 [.ref ([.v (.int .u32 x.2.1),.slice .no (List.map eapi_Input x.2.2.1),.slice .no (List.map eapi_Output x.2.2.2.1),.v (.int .u32 x.2.2.2.2)])]],fun _ y=>(.one (.v (.int .i64 y)),[]),fun x=>Lslices_IndexFunc_of__api_Entry_api_Entry__replace_Accept_2 x.1 x.2⟩
theorem i68_26 : K68_26.Inj:=by intro a b h; simpa [K68_26,Prod.ext_iff,and_assoc] using h
theorem G68_26_eq {a0 a1 y} (h : Lslices_IndexFunc_of__api_Entry_api_Entry__replace_Accept_2 a0 a1 = some y) : K68_26.G (K68_26.E (a0,a1)) = some (K68_26.R (a0,a1) y):=i68_26.eq h
noncomputable abbrev K44_27 : Con ((List Tapi_Entry)×Tapi_Tx) Bool:=⟨fun x=>[.one (.slice .no (List.map eapi_Entry x.1)),.clo 45 [.ref ([.v (.int .u32 x.2.1),.slice .no (List.map eapi_Input x.2.2.1),.slice .no (List.map eapi_Output x.2.2.2.1),.v (.int .u32 x.2.2.2.2)])]],fun _ y=>(.one (.v (.bool y)),[]),fun x=>Lslices_ContainsFunc_of__api_Entry_api_Entry__replace_Accept_2 x.1 x.2⟩
theorem i44_27 : K44_27.Inj:=by intro a b h; simpa [K44_27,Prod.ext_iff,and_assoc] using h
theorem G44_27_eq {a0 a1 y} (h : Lslices_ContainsFunc_of__api_Entry_api_Entry__replace_Accept_2 a0 a1 = some y) : K44_27.G (K44_27.E (a0,a1)) = some (K44_27.R (a0,a1) y):=i44_27.eq h
noncomputable abbrev K43_28 : Con (Tapi_Tx×(List Tapi_Entry)) Bool:=⟨fun x=>[.clo 45 [.ref ([.v (.int .u32 x.1.1),.slice .no (List.map eapi_Input x.1.2.1),.slice .no (List.map eapi_Output x.1.2.2.1),.v (.int .u32 x.1.2.2.2)])],.io ([.slice .no (List.map eapi_Entry x.2)])],fun x y=>(.one (.v (.bool y)),[[.slice .no (List.map eapi_Entry x.2)]]),fun x=>Lreplace_Accept_1__replace_Accept_2_p x.1 x.2⟩
theorem i43_28 : K43_28.Inj:=by intro a b h; simpa [K43_28,Prod.ext_iff,and_assoc] using h
theorem G43_28_eq {a0 a1 y} (h : Lreplace_Accept_1__replace_Accept_2_p a0 a1 = some y) : K43_28.G (K43_28.E (a0,a1)) = some (K43_28.R (a0,a1) y):=i43_28.eq h
noncomputable abbrev K19 : Con ((List Tapi_Entry)×Tapi_Tx×Int) Int:=⟨fun x=>[.one (.slice .no (List.map eapi_Entry x.1)),.agg ([.v (.int .u32 x.2.1.1),.slice .no (List.map eapi_Input x.2.1.2.1),.slice .no (List.map eapi_Output x.2.1.2.2.1),.v (.int .u32 x.2.1.2.2.2)]),.one (.v (.int .i64 x.2.2))],fun _ y=>(.one (.v (.int .i64 y)),[]),fun x=>Lreplace_Accept x.1 x.2.1 x.2.2⟩
theorem i19 : K19.Inj:=by intro a b h; simpa [K19,Prod.ext_iff,and_assoc] using h
theorem G19_eq {a0 a1 a2 y} (h : Lreplace_Accept a0 a1 a2 = some y) : K19.G (K19.E (a0,a1,a2)) = some (K19.R (a0,a1,a2) y):=i19.eq h
noncomputable abbrev K5 : Con Unit Bool:=⟨fun _=>[],fun _ y=>(.one (.v (.bool y)),[]),fun _=>Llaw36_sane⟩
theorem i5 : K5.Inj:=fun _ _ _=>rfl
theorem G5_eq { y} (h : Llaw36_sane  = some y) : K5.G (K5.E ()) = some (K5.R () y):=i5.eq h
noncomputable abbrev K6 : Con ((List Int)) Tlightclientmill_Deck:=⟨fun x=>[.one (.slice .no (intsR .i64 x))],fun _ y=>(.io ([.slice .no (intsR .i64 y.1),.v (.int .i64 y.2)]),[]),fun x=>Lmill_New x⟩
theorem i6 : K6.Inj:=by intro a b h; simpa [K6,Prod.ext_iff,and_assoc] using h
theorem G6_eq {a0 y} (h : Lmill_New a0 = some y) : K6.G (K6.E a0) = some (K6.R a0 y):=i6.eq h
noncomputable abbrev K8 : Con Int ((List Int)):=⟨fun x=>[.one (.v (.int .u8 x))],fun _ y=>(.one (.own 1 (intsR .u8 y)),[]),fun x=>Lmade_Script x⟩
theorem i8 : K8.Inj:=by intro a b h; simpa [K8,Prod.ext_iff,and_assoc] using h
theorem G8_eq {a0 y} (h : Lmade_Script a0 = some y) : K8.G (K8.E a0) = some (K8.R a0 y):=i8.eq h
noncomputable abbrev K11 : Con (Int×Int) Int:=⟨fun x=>[.one (.v (.int .i64 x.1)),.one (.v (.int .i64 x.2))],fun _ y=>(.one (.v (.int .i64 y)),[]),fun x=>Lmill_Mod x.1 x.2⟩
theorem i11 : K11.Inj:=by intro a b h; simpa [K11,Prod.ext_iff,and_assoc] using h
theorem G11_eq {a0 a1 y} (h : Lmill_Mod a0 a1 = some y) : K11.G (K11.E (a0,a1)) = some (K11.R (a0,a1) y):=i11.eq h
noncomputable abbrev K20 : Con Tlightclientmill_Deck (Bool×Tlightclientmill_Deck):=⟨fun x=>[.io ([.slice .no (intsR .i64 x.1),.v (.int .i64 x.2)])],fun _ y=>(.one (.v (.bool y.1)),[[.slice .no (intsR .i64 y.2.1),.v (.int .i64 y.2.2)]]),fun x=>Lmill_Deck_Left x⟩
theorem i20 : K20.Inj:=by intro a b h; simpa [K20,Prod.ext_iff,and_assoc] using h
theorem G20_eq {a0 y} (h : Lmill_Deck_Left a0 = some y) : K20.G (K20.E a0) = some (K20.R a0 y):=i20.eq h
noncomputable abbrev K9 : Con (Tlightclientmill_Deck×Int) (Int×Tlightclientmill_Deck):=⟨fun x=>[.io ([.slice .no (intsR .i64 x.1.1),.v (.int .i64 x.1.2)]),.one (.v (.int .i64 x.2))],fun _ y=>(.one (.v (.int .i64 y.1)),[[.slice .no (intsR .i64 y.2.1),.v (.int .i64 y.2.2)]]),fun x=>Lmill_Deck_Next x.1 x.2⟩
theorem i9 : K9.Inj:=by intro a b h; simpa [K9,Prod.ext_iff,and_assoc] using h
theorem G9_eq {a0 a1 y} (h : Lmill_Deck_Next a0 a1 = some y) : K9.G (K9.E (a0,a1)) = some (K9.R (a0,a1) y):=i9.eq h
noncomputable abbrev K7 : Con (Tlightclientmill_Deck×(List (List Int))) (Tapi_Plan×Tlightclientmill_Deck):=⟨fun x=>[.io ([.slice .no (intsR .i64 x.1.1),.v (.int .i64 x.1.2)]),.one (.slice .no (List.map eS_I_u8 x.2))],fun _ y=>(.agg ([.v (.int .u32 y.1.1.1),.slice .no (List.map eapi_Input y.1.1.2.1),.slice .no (List.map eapi_Output y.1.1.2.2.1),.v (.int .u32 y.1.1.2.2.2),.slice .no (List.map eapi_Coin y.1.2.1),.v (.int .i64 y.1.2.2.1),.v (.int .i64 y.1.2.2.2)]),[[.slice .no (intsR .i64 y.2.1),.v (.int .i64 y.2.2)]]),fun x=>Lmill_Plan x.1 x.2⟩
theorem i7 : K7.Inj:=by intro a b h; simpa [K7,Prod.ext_iff,and_assoc] using h
theorem G7_eq {a0 a1 y} (h : Lmill_Plan a0 a1 = some y) : K7.G (K7.E (a0,a1)) = some (K7.R (a0,a1) y):=i7.eq h
noncomputable abbrev K74 : Con ((List Int)×(List Int)) ((List Int)):=⟨fun x=>[.one (.slice .no (intsR .u8 x.1)),.one (.slice .no (intsR .u8 x.2))],fun _ y=>(.one (.own 1 (intsR .u8 y)),[]),fun x=>Lref01_joined x.1 x.2⟩
theorem i74 : K74.Inj:=by intro a b h; simpa [K74,Prod.ext_iff,and_assoc] using h
theorem G74_eq {a0 a1 y} (h : Lref01_joined a0 a1 = some y) : K74.G (K74.E (a0,a1)) = some (K74.R (a0,a1) y):=i74.eq h
noncomputable abbrev K75 : Con (Int×Int) ((List Int)):=⟨fun x=>[.one (.v (.int .u64 x.1)),.one (.v (.int .i64 x.2))],fun _ y=>(.one (.own 1 (intsR .u8 y)),[]),fun x=>Lref01_little x.1 x.2⟩
theorem i75 : K75.Inj:=by intro a b h; simpa [K75,Prod.ext_iff,and_assoc] using h
theorem G75_eq {a0 a1 y} (h : Lref01_little a0 a1 = some y) : K75.G (K75.E (a0,a1)) = some (K75.R (a0,a1) y):=i75.eq h
noncomputable abbrev K54 : Con ((List Int)×Int) ((List Int)):=⟨fun x=>[.one (.slice .no (intsR .u8 x.1)),.one (.v (.int .u32 x.2))],fun _ y=>(.one (.own 1 (intsR .u8 y)),[]),fun x=>Lref01_AppendU32 x.1 x.2⟩
theorem i54 : K54.Inj:=by intro a b h; simpa [K54,Prod.ext_iff,and_assoc] using h
theorem G54_eq {a0 a1 y} (h : Lref01_AppendU32 a0 a1 = some y) : K54.G (K54.E (a0,a1)) = some (K54.R (a0,a1) y):=i54.eq h
noncomputable abbrev K55 : Con ((List Int)×Int) ((List Int)):=⟨fun x=>[.one (.slice .no (intsR .u8 x.1)),.one (.v (.int .u64 x.2))],fun _ y=>(.one (.own 1 (intsR .u8 y)),[]),fun x=>Lref01_AppendSize x.1 x.2⟩
theorem i55 : K55.Inj:=by intro a b h; simpa [K55,Prod.ext_iff,and_assoc] using h
theorem G55_eq {a0 a1 y} (h : Lref01_AppendSize a0 a1 = some y) : K55.G (K55.E (a0,a1)) = some (K55.R (a0,a1) y):=i55.eq h
noncomputable abbrev K76 : Con ((List Int)×(Arr 32)) ((List Int)):=⟨fun x=>[.one (.slice .no (intsR .u8 x.1)),.agg (arC .u8 x.2)],fun _ y=>(.one (.own 1 (intsR .u8 y)),[]),fun x=>Lref01_AppendHash x.1 x.2⟩
theorem i76 : K76.Inj:=by intro a b h; simpa [K76,Prod.ext_iff,and_assoc] using h
theorem G76_eq {a0 a1 y} (h : Lref01_AppendHash a0 a1 = some y) : K76.G (K76.E (a0,a1)) = some (K76.R (a0,a1) y):=i76.eq h
noncomputable abbrev K56 : Con Tapi_OutPoint ((List Int)):=⟨fun x=>[.agg ((arC .u8 x.1)++((.v (.int .u32 x.2)) :: []))],fun _ y=>(.one (.own 1 (intsR .u8 y)),[]),fun x=>Lref09_Point x⟩
theorem i56 : K56.Inj:=by intro a b h; simpa [K56,Prod.ext_iff,and_assoc] using h
theorem G56_eq {a0 y} (h : Lref09_Point a0 = some y) : K56.G (K56.E a0) = some (K56.R a0 y):=i56.eq h
noncomputable abbrev K58 : Con ((List Int)×(List Int)) ((List Int)):=⟨fun x=>[.one (.slice .no (intsR .u8 x.1)),.one (.slice .no (intsR .u8 x.2))],fun _ y=>(.one (.own 1 (intsR .u8 y)),[]),fun x=>Lref01_AppendBytes x.1 x.2⟩
theorem i58 : K58.Inj:=by intro a b h; simpa [K58,Prod.ext_iff,and_assoc] using h
theorem G58_eq {a0 a1 y} (h : Lref01_AppendBytes a0 a1 = some y) : K58.G (K58.E (a0,a1)) = some (K58.R (a0,a1) y):=i58.eq h
noncomputable abbrev K77 : Con ((List Int)×Int) ((List Int)):=⟨fun x=>[.one (.slice .no (intsR .u8 x.1)),.one (.v (.int .u64 x.2))],fun _ y=>(.one (.own 1 (intsR .u8 y)),[]),fun x=>Lref01_AppendU64 x.1 x.2⟩
theorem i77 : K77.Inj:=by intro a b h; simpa [K77,Prod.ext_iff,and_assoc] using h
theorem G77_eq {a0 a1 y} (h : Lref01_AppendU64 a0 a1 = some y) : K77.G (K77.E (a0,a1)) = some (K77.R (a0,a1) y):=i77.eq h
noncomputable abbrev K57 : Con Tapi_Output ((List Int)):=⟨fun x=>[.agg ([.v (.int .i64 x.1),.slice .no (intsR .u8 x.2)])],fun _ y=>(.one (.own 1 (intsR .u8 y)),[]),fun x=>Lref09_Out x⟩
theorem i57 : K57.Inj:=by intro a b h; simpa [K57,Prod.ext_iff,and_assoc] using h
theorem G57_eq {a0 y} (h : Lref09_Out a0 = some y) : K57.G (K57.E a0) = some (K57.R a0 y):=i57.eq h
noncomputable abbrev K22 : Con (Tapi_Tx×Bool) ((List Int)):=⟨fun x=>[.agg ([.v (.int .u32 x.1.1),.slice .no (List.map eapi_Input x.1.2.1),.slice .no (List.map eapi_Output x.1.2.2.1),.v (.int .u32 x.1.2.2.2)]),.one (.v (.bool x.2))],fun _ y=>(.one (.own 1 (intsR .u8 y)),[]),fun x=>Lref09_encode x.1 x.2⟩
theorem i22 : K22.Inj:=by intro a b h; simpa [K22,Prod.ext_iff,and_assoc] using h
theorem G22_eq {a0 a1 y} (h : Lref09_encode a0 a1 = some y) : K22.G (K22.E (a0,a1)) = some (K22.R (a0,a1) y):=i22.eq h
noncomputable abbrev K21 : Con Tapi_Tx Bool:=⟨fun x=>[.agg ([.v (.int .u32 x.1),.slice .no (List.map eapi_Input x.2.1),.slice .no (List.map eapi_Output x.2.2.1),.v (.int .u32 x.2.2.2)])],fun _ y=>(.one (.v (.bool y)),[]),fun x=>Lref09_Fits x⟩
theorem i21 : K21.Inj:=by intro a b h; simpa [K21,Prod.ext_iff,and_assoc] using h
theorem G21_eq {a0 y} (h : Lref09_Fits a0 = some y) : K21.G (K21.E a0) = some (K21.R a0 y):=i21.eq h
noncomputable abbrev K10 : Con Tapi_Tx Int:=⟨fun x=>[.agg ([.v (.int .u32 x.1),.slice .no (List.map eapi_Input x.2.1),.slice .no (List.map eapi_Output x.2.2.1),.v (.int .u32 x.2.2.2)])],fun _ y=>(.one (.v (.int .i64 y)),[]),fun x=>Lref09_Weight x⟩
theorem i10 : K10.Inj:=by intro a b h; simpa [K10,Prod.ext_iff,and_assoc] using h
theorem G10_eq {a0 y} (h : Lref09_Weight a0 = some y) : K10.G (K10.E a0) = some (K10.R a0 y):=i10.eq h
noncomputable abbrev K78 : Con ((List Tapi_Coin)) (Int×Bool):=⟨fun x=>[.one (.slice .no (List.map eapi_Coin x))],fun _ y=>(.tup [.one (.v (.int .i64 y.1)),.one (.v (.bool y.2))],[]),fun x=>Lspend_sum x⟩
theorem i78 : K78.Inj:=by intro a b h; simpa [K78,Prod.ext_iff,and_assoc] using h
theorem G78_eq {a0 y} (h : Lspend_sum a0 = some y) : K78.G (K78.E a0) = some (K78.R a0 y):=i78.eq h
noncomputable abbrev K59 : Con (Tapi_Tx×(List Tapi_Coin)) (Int×Int):=⟨fun x=>[.agg ([.v (.int .u32 x.1.1),.slice .no (List.map eapi_Input x.1.2.1),.slice .no (List.map eapi_Output x.1.2.2.1),.v (.int .u32 x.1.2.2.2)]),.one (.slice .no (List.map eapi_Coin x.2))],fun _ y=>(.tup [.one (.v (.int .i64 y.1)),.one (.v (.int .i64 y.2))],[]),fun x=>Lspend_Fee x.1 x.2⟩
theorem i59 : K59.Inj:=by intro a b h; simpa [K59,Prod.ext_iff,and_assoc] using h
theorem G59_eq {a0 a1 y} (h : Lspend_Fee a0 a1 = some y) : K59.G (K59.E (a0,a1)) = some (K59.R (a0,a1) y):=i59.eq h
noncomputable abbrev K23 : Con Tapi_Plan Bool:=⟨fun x=>[.agg ([.v (.int .u32 x.1.1),.slice .no (List.map eapi_Input x.1.2.1),.slice .no (List.map eapi_Output x.1.2.2.1),.v (.int .u32 x.1.2.2.2),.slice .no (List.map eapi_Coin x.2.1),.v (.int .i64 x.2.2.1),.v (.int .i64 x.2.2.2)])],fun _ y=>(.one (.v (.bool y)),[]),fun x=>Lbuild_Valid x⟩
theorem i23 : K23.Inj:=by intro a b h; simpa [K23,Prod.ext_iff,and_assoc] using h
theorem G23_eq {a0 y} (h : Lbuild_Valid a0 = some y) : K23.G (K23.E a0) = some (K23.R a0 y):=i23.eq h
def E64 (x : (List Int)) : List PV:=[.one (.slice .no (intsR .u8 x))]
theorem E64i : ∀ a b,E64 a = E64 b→a = b:=by
  rintro a0 b0 h
  simpa [E64,and_assoc] using h
def R64 (x : (List Int)) (y : (List Int)) : PV×List (List Cell):=(.one (.own 1 (intsR .u8 y)),[])
noncomputable def G64:=lift E64 fun x=>(Lbytes_Clone x).map (R64 x)
theorem G64_eq {a0 : (List Int)} {y : (List Int)} (h : Lbytes_Clone a0 = some y) : G64 (E64 a0) = some (R64 a0 y):=lift_som E64i h
def E84 (x : (List Tapi_Input)) : List PV:=[.one (.slice .no (List.map eapi_Input x))]
theorem E84i : ∀ a b,E84 a = E84 b→a = b:=by
  rintro a0 b0 h
  simpa [E84,and_assoc] using h
def R84 (x : (List Tapi_Input)) (y : (List Tapi_Input)) : PV×List (List Cell):=(.one (.own 35 (List.map eapi_Input y)),[])
noncomputable def G84:=lift E84 fun x=>(Lslices_Clone_of__api_Input_api_Input x).map (R84 x)
theorem G84_eq {a0 : (List Tapi_Input)} {y : (List Tapi_Input)} (h : Lslices_Clone_of__api_Input_api_Input a0 = some y) : G84 (E84 a0) = some (R84 a0 y):=lift_som E84i h
def E85 (x : (List Tapi_Output)) : List PV:=[.one (.slice .no (List.map eapi_Output x))]
theorem E85i : ∀ a b,E85 a = E85 b→a = b:=by
  rintro a0 b0 h
  simpa [E85,and_assoc] using h
def R85 (x : (List Tapi_Output)) (y : (List Tapi_Output)) : PV×List (List Cell):=(.one (.own 2 (List.map eapi_Output y)),[])
noncomputable def G85:=lift E85 fun x=>(Lslices_Clone_of__api_Output_api_Output x).map (R85 x)
theorem G85_eq {a0 : (List Tapi_Output)} {y : (List Tapi_Output)} (h : Lslices_Clone_of__api_Output_api_Output a0 = some y) : G85 (E85 a0) = some (R85 a0 y):=lift_som E85i h
def E93 (x : (List (List Int))) : List PV:=[.one (.slice .no (List.map eS_I_u8 x))]
theorem E93i : ∀ a b,E93 a = E93 b→a = b:=by
  rintro a0 b0 h
  simpa [E93,and_assoc] using h
def R93 (x : (List (List Int))) (y : (List (List Int))) : PV×List (List Cell):=(.one (.own 1 (List.map eS_I_u8 y)),[])
noncomputable def G93:=lift E93 fun x=>(Lslices_Clone_of__byte_byte x).map (R93 x)
theorem G93_eq {a0 : (List (List Int))} {y : (List (List Int))} (h : Lslices_Clone_of__byte_byte a0 = some y) : G93 (E93 a0) = some (R93 a0 y):=lift_som E93i h
noncomputable abbrev K86 : Con ((List (List Int))) ((List (List Int))):=⟨fun x=>[.one (.slice .no (List.map eS_I_u8 x))],fun _ y=>(.one (.own 1 (List.map eS_I_u8 y)),[]),fun x=>Lreplace_cloneItems x⟩
theorem i86 : K86.Inj:=by intro a b h; simpa [K86,Prod.ext_iff,and_assoc] using h
theorem G86_eq {a0 y} (h : Lreplace_cloneItems a0 = some y) : K86.G (K86.E a0) = some (K86.R a0 y):=i86.eq h
noncomputable abbrev K62 : Con Tapi_Tx Tapi_Tx:=⟨fun x=>[.agg ([.v (.int .u32 x.1),.slice .no (List.map eapi_Input x.2.1),.slice .no (List.map eapi_Output x.2.2.1),.v (.int .u32 x.2.2.2)])],fun _ y=>(.agg ([.v (.int .u32 y.1),.own 35 (List.map eapi_Input y.2.1),.own 2 (List.map eapi_Output y.2.2.1),.v (.int .u32 y.2.2.2)]),[]),fun x=>Lreplace_cloneTx x⟩
theorem i62 : K62.Inj:=by intro a b h; simpa [K62,Prod.ext_iff,and_assoc] using h
theorem G62_eq {a0 y} (h : Lreplace_cloneTx a0 = some y) : K62.G (K62.E a0) = some (K62.R a0 y):=i62.eq h
def E63 (x : (List Tapi_Coin)) : List PV:=[.one (.slice .no (List.map eapi_Coin x))]
theorem E63i : ∀ a b,E63 a = E63 b→a = b:=by
  rintro a0 b0 h
  simpa [E63,and_assoc] using h
def R63 (x : (List Tapi_Coin)) (y : (List Tapi_Coin)) : PV×List (List Cell):=(.one (.own 37 (List.map eapi_Coin y)),[])
noncomputable def G63:=lift E63 fun x=>(Lslices_Clone_of__api_Coin_api_Coin x).map (R63 x)
theorem G63_eq {a0 : (List Tapi_Coin)} {y : (List Tapi_Coin)} (h : Lslices_Clone_of__api_Coin_api_Coin a0 = some y) : G63 (E63 a0) = some (R63 a0 y):=lift_som E63i h
noncomputable abbrev K26 : Con Tapi_Plan Tapi_Plan:=⟨fun x=>[.agg ([.v (.int .u32 x.1.1),.slice .no (List.map eapi_Input x.1.2.1),.slice .no (List.map eapi_Output x.1.2.2.1),.v (.int .u32 x.1.2.2.2),.slice .no (List.map eapi_Coin x.2.1),.v (.int .i64 x.2.2.1),.v (.int .i64 x.2.2.2)])],fun _ y=>(.agg ([.v (.int .u32 y.1.1),.own 35 (List.map eapi_Input y.1.2.1),.own 2 (List.map eapi_Output y.1.2.2.1),.v (.int .u32 y.1.2.2.2),.own 37 (List.map eapi_Coin y.2.1),.v (.int .i64 y.2.2.1),.v (.int .i64 y.2.2.2)]),[]),fun x=>Lreplace_clonePlan x⟩
theorem i26 : K26.Inj:=by intro a b h; simpa [K26,Prod.ext_iff,and_assoc] using h
theorem G26_eq {a0 y} (h : Lreplace_clonePlan a0 = some y) : K26.G (K26.E a0) = some (K26.R a0 y):=i26.eq h
def E27_29 (x : (List Tapi_Output)×Int×Int) : List PV:=[.one (.own 2 (List.map eapi_Output x.1)),.one (.v (.int .i64 x.2.1)),.one (.v (.int .i64 x.2.2))]
theorem E27_29i : ∀ a b,E27_29 a = E27_29 b→a = b:=by
  rintro ⟨a0,a1,a2⟩ ⟨b0,b1,b2⟩ h
  simpa [E27_29,and_assoc] using h
def R27_29 (x : (List Tapi_Output)×Int×Int) (y : (List Tapi_Output)) : PV×List (List Cell):=(.one (.own 2 (List.map eapi_Output y)),[])
noncomputable def G27_29:=lift E27_29 fun x=>(Lslices_Delete_of__api_Output_api_Output x.1 x.2.1 x.2.2).map (R27_29 x)
theorem G27_29_eq {a0 : (List Tapi_Output)} {a1 : Int} {a2 : Int} {y : (List Tapi_Output)} (h : Lslices_Delete_of__api_Output_api_Output a0 a1 a2 = some y) : G27_29 (E27_29 (a0,a1,a2)) = some (R27_29 (a0,a1,a2) y):=lift_som E27_29i h
noncomputable abbrev K12 : Con (Tapi_Plan×Int×Int) (Tapi_Plan×Int):=⟨fun x=>[.agg ([.v (.int .u32 x.1.1.1),.slice .no (List.map eapi_Input x.1.1.2.1),.slice .no (List.map eapi_Output x.1.1.2.2.1),.v (.int .u32 x.1.1.2.2.2),.slice .no (List.map eapi_Coin x.1.2.1),.v (.int .i64 x.1.2.2.1),.v (.int .i64 x.1.2.2.2)]),.one (.v (.int .i64 x.2.1)),.one (.v (.int .i64 x.2.2))],fun _ y=>(.tup [.agg ([.v (.int .u32 y.1.1.1),.slice .no (List.map eapi_Input y.1.1.2.1),.slice .no (List.map eapi_Output y.1.1.2.2.1),.v (.int .u32 y.1.1.2.2.2),.slice .no (List.map eapi_Coin y.1.2.1),.v (.int .i64 y.1.2.2.1),.v (.int .i64 y.1.2.2.2)]),.one (.v (.int .i64 y.2))],[]),fun x=>Lreplace_Bump x.1 x.2.1 x.2.2⟩
theorem i12 : K12.Inj:=by intro a b h; simpa [K12,Prod.ext_iff,and_assoc] using h
theorem G12_eq {a0 a1 a2 y} (h : Lreplace_Bump a0 a1 a2 = some y) : K12.G (K12.E (a0,a1,a2)) = some (K12.R (a0,a1,a2) y):=i12.eq h
noncomputable abbrev K65 : Con Tapi_OutPoint Bool:=⟨fun x=>[.agg ((arC .u8 x.1)++((.v (.int .u32 x.2)) :: []))],fun _ y=>(.one (.v (.bool y)),[]),fun x=>Lref09_Null x⟩
theorem i65 : K65.Inj:=by intro a b h; simpa [K65,Prod.ext_iff,and_assoc] using h
theorem G65_eq {a0 y} (h : Lref09_Null a0 = some y) : K65.G (K65.E a0) = some (K65.R a0 y):=i65.eq h
noncomputable abbrev K34 : Con Tapi_Tx Bool:=⟨fun x=>[.agg ([.v (.int .u32 x.1),.slice .no (List.map eapi_Input x.2.1),.slice .no (List.map eapi_Output x.2.2.1),.v (.int .u32 x.2.2.2)])],fun _ y=>(.one (.v (.bool y)),[]),fun x=>Lref09_Coinbase x⟩
theorem i34 : K34.Inj:=by intro a b h; simpa [K34,Prod.ext_iff,and_assoc] using h
theorem G34_eq {a0 y} (h : Lref09_Coinbase a0 = some y) : K34.G (K34.E a0) = some (K34.R a0 y):=i34.eq h
noncomputable abbrev K33 : Con Tapi_Tx Int:=⟨fun x=>[.agg ([.v (.int .u32 x.1),.slice .no (List.map eapi_Input x.2.1),.slice .no (List.map eapi_Output x.2.2.1),.v (.int .u32 x.2.2.2)])],fun _ y=>(.one (.v (.int .i64 y)),[]),fun x=>Lref09_Check x⟩
theorem i33 : K33.Inj:=by intro a b h; simpa [K33,Prod.ext_iff,and_assoc] using h
theorem G33_eq {a0 y} (h : Lref09_Check a0 = some y) : K33.G (K33.E a0) = some (K33.R a0 y):=i33.eq h
noncomputable abbrev K35 : Con (Int×Int×Int) Bool:=⟨fun x=>[.one (.v (.int .i64 x.1)),.one (.v (.int .i64 x.2.1)),.one (.v (.int .i64 x.2.2))],fun _ y=>(.one (.v (.bool y)),[]),fun x=>Lref34_in x.1 x.2.1 x.2.2⟩
theorem i35 : K35.Inj:=by intro a b h; simpa [K35,Prod.ext_iff,and_assoc] using h
theorem G35_eq {a0 a1 a2 y} (h : Lref34_in a0 a1 a2 = some y) : K35.G (K35.E (a0,a1,a2)) = some (K35.R (a0,a1,a2) y):=i35.eq h
noncomputable abbrev K36 : Con (Tapi_Tx×(List Tapi_Coin)) (Int×Int):=⟨fun x=>[.agg ([.v (.int .u32 x.1.1),.slice .no (List.map eapi_Input x.1.2.1),.slice .no (List.map eapi_Output x.1.2.2.1),.v (.int .u32 x.1.2.2.2)]),.one (.slice .no (List.map eapi_Coin x.2))],fun _ y=>(.tup [.one (.v (.int .i64 y.1)),.one (.v (.int .i64 y.2))],[]),fun x=>Lref10_Fee x.1 x.2⟩
theorem i36 : K36.Inj:=by intro a b h; simpa [K36,Prod.ext_iff,and_assoc] using h
theorem G36_eq {a0 a1 y} (h : Lref10_Fee a0 a1 = some y) : K36.G (K36.E (a0,a1)) = some (K36.R (a0,a1) y):=i36.eq h
noncomputable abbrev K15 : Con Tapi_Plan Bool:=⟨fun x=>[.agg ([.v (.int .u32 x.1.1),.slice .no (List.map eapi_Input x.1.2.1),.slice .no (List.map eapi_Output x.1.2.2.1),.v (.int .u32 x.1.2.2.2),.slice .no (List.map eapi_Coin x.2.1),.v (.int .i64 x.2.2.1),.v (.int .i64 x.2.2.2)])],fun _ y=>(.one (.v (.bool y)),[]),fun x=>Lref34_Valid x⟩
theorem i15 : K15.Inj:=by intro a b h; simpa [K15,Prod.ext_iff,and_assoc] using h
theorem G15_eq {a0 y} (h : Lref34_Valid a0 = some y) : K15.G (K15.E a0) = some (K15.R a0 y):=i15.eq h
noncomputable abbrev K37 : Con ((List Int)×(List Int)) Bool:=⟨fun x=>[.one (.slice .no (intsR .u8 x.1)),.one (.slice .no (intsR .u8 x.2))],fun _ y=>(.one (.v (.bool y)),[]),fun x=>Lref01_Same x.1 x.2⟩
theorem i37 : K37.Inj:=by intro a b h; simpa [K37,Prod.ext_iff,and_assoc] using h
theorem G37_eq {a0 a1 y} (h : Lref01_Same a0 a1 = some y) : K37.G (K37.E (a0,a1)) = some (K37.R (a0,a1) y):=i37.eq h
noncomputable abbrev K16 : Con (Tapi_Output×Tapi_Output) Bool:=⟨fun x=>[.agg ([.v (.int .i64 x.1.1),.slice .no (intsR .u8 x.1.2)]),.agg ([.v (.int .i64 x.2.1),.slice .no (intsR .u8 x.2.2)])],fun _ y=>(.one (.v (.bool y)),[]),fun x=>Lref09_SameOut x.1 x.2⟩
theorem i16 : K16.Inj:=by intro a b h; simpa [K16,Prod.ext_iff,and_assoc] using h
theorem G16_eq {a0 a1 y} (h : Lref09_SameOut a0 a1 = some y) : K16.G (K16.E (a0,a1)) = some (K16.R (a0,a1) y):=i16.eq h
noncomputable abbrev K4 : Con ((List Int)×Int) Bool:=⟨fun x=>[.one (.slice .no (intsR .i64 x.1)),.one (.v (.int .i64 x.2))],fun _ y=>(.one (.v (.bool y)),[]),fun x=>Llaw36_ReplaceRises x.1 x.2⟩
theorem i4 : K4.Inj:=by intro a b h; simpa [K4,Prod.ext_iff,and_assoc] using h
theorem G4_eq {a0 a1 y} (h : Llaw36_ReplaceRises a0 a1 = some y) : K4.G (K4.E (a0,a1)) = some (K4.R (a0,a1) y):=i4.eq h
end Go.Proofs.YtjdoijdjeapekaaDoor
