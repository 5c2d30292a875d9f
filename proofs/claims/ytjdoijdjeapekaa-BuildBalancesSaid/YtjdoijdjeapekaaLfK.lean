import Derived.Test.YtjdoijdjeapekaaLcG3
import Derived.Test.YtjdoijdjeapekaaLcG1
import Derived.Test.YtjdoijdjeapekaaLcG1
import Derived.Test.YtjdoijdjeapekaaLcG3
import Derived.Test.YtjdoijdjeapekaaTt
namespace Go.Proofs.Ytjdoijdjeapekaa
open Go.RowKit
open Go.Av
open Go.Lc
set_option maxRecDepth 100000
set_option linter.unusedSimpArgs false
set_option linter.unusedVariables false
attribute [simp] tt1 tt2 tt3 tt4 tt5 tt6 tt8 tt9 tt16 tt22 tt23 tt25 tt27 tt29 tt32 tt33 tt34 tt35 tt36 tt37 tt38 tt39 tt40 tt44 tt45 tt46 tt47 tt48 tt49 tt50 tt51 tt52 tt53 tt61 tt62 tt64 tt71 tt72 tt73 tt80 tt81 tt82 tt83 tt92 tt93 tt95 tt96 tt99 tt102 tt104 tt109 ti1 ti2 ti3 ti4 ti5 ti6 ti8 ti9 ti16 ti22 ti23 ti25 ti27 ti29 ti32 ti33 ti34 ti35 ti36 ti37 ti38 ti39 ti40 ti44 ti45 ti46 ti47 ti48 ti49 ti50 ti51 ti52 ti53 ti61 ti62 ti64 ti71 ti72 ti73 ti80 ti81 ti82 ti83 ti92 ti93 ti95 ti96 ti99 ti102 ti104 ti109
@[simp] theorem arCs_any2 {n : Nat} {k : IntKind} {l : List (Arr n)} : l.any ((fun l=>l.any Cell.isSl) ∘ arC k) = false:=by simp [arC,ints]
@[simp↓] theorem intsR_alld {k : IntKind} (m : List Int) (n : Nat) : (∀ l,l∈List.drop n (intsR k m)→l.length = 1) = True:=eq_true fun l h=>intsR_all l (List.mem_of_mem_drop h)
@[simp↓] theorem intsR_allt {k : IntKind} (m : List Int) (n : Nat) : (∀ l,l∈List.take n (intsR k m)→l.length = 1) = True:=eq_true fun l h=>intsR_all l (List.mem_of_mem_take h)
@[simp↓] theorem intsR_all1 {k : IntKind} (m : List Int) : (∀ l,l∈(intsR k m).tail→l.length = 1) = True:=eq_true fun l h=>intsR_all l (List.mem_of_mem_tail h)
@[simp↓] theorem intsR_all1t {k : IntKind} (m : List Int) (n : Nat) : (∀ l,l∈List.take n (intsR k m).tail→l.length = 1) = True:=eq_true fun l h=>intsR_all l (List.mem_of_mem_tail (List.mem_of_mem_take h))
@[simp↓] theorem intsR_all1d {k : IntKind} (m : List Int) (n : Nat) : (∀ l,l∈List.drop n (intsR k m).tail→l.length = 1) = True:=eq_true fun l h=>intsR_all l (List.mem_of_mem_tail (List.mem_of_mem_drop h))
@[simp] theorem arC_z8 : arC .u64 (zA 8) = arC .u64 (zA 4)++arC .u64 (zA 4):=rfl
@[simp] theorem arC_z12 : arC .u64 (zA 12) = arC .u64 (zA 4)++(arC .u64 (zA 4)++arC .u64 (zA 4)):=rfl
@[simp] theorem one_add_le1 {a : Nat} : (1 + a≤a + 1) = True:=eq_true (by omega)
@[simp] theorem cutL_mid {L : List (List Cell)} {x : List Cell} {i m : Nat} (h : i≤m) (hL : L.length = m) : cutL (i + (1 + (m - i))) (List.take i L++x :: List.drop i L) = List.take i L++x :: List.drop i L:=by
  unfold cutL;rw [if_pos];simp
  omega
@[simp] theorem take_mid {L : List (List Cell)} {x : List Cell} {i m : Nat} (hL : L.length = m) : List.take (1 + (m - i)) (x :: List.drop i L) = x :: List.drop i L :=
  List.take_of_length_le (by simp; omega)
@[simp] def eS_I_u8 (x : (List Int)) : List Cell:=[.slice .no (intsR .u8 x)]
theorem eS_I_u8_inj : ∀ a b,eS_I_u8 a = eS_I_u8 b→a = b:=by
  rintro a b h
  simpa [and_assoc] using h
@[simp↓] theorem eS_I_u8_all (m : List (List Int)) : (∀ l,l∈List.map eS_I_u8 m→l.length = 1) = True:=all_map_len (fun a=>by simp) m
@[simp↓] theorem eS_I_u8_alld (m : List (List Int)) (k : Nat) : (∀ l,l∈List.drop k (List.map eS_I_u8 m)→l.length = 1) = True:=eq_true fun l h=>of_eq_true (eS_I_u8_all m) l (List.mem_of_mem_drop h)
@[simp↓] theorem eS_I_u8_allt (m : List (List Int)) (k : Nat) : (∀ l,l∈List.take k (List.map eS_I_u8 m)→l.length = 1) = True:=eq_true fun l h=>of_eq_true (eS_I_u8_all m) l (List.mem_of_mem_take h)
@[simp] theorem eS_I_u8_map {l m : List (List Int)} : List.map eS_I_u8 l = List.map eS_I_u8 m↔l = m:=map_iff eS_I_u8_inj
@[simp] def eapi_Input (x : Tapi_Input) : List Cell:=(arC .u8 x.1.1)++((.v (.int .u32 x.1.2)) :: ((.v (.int .u32 x.2.1)) :: ((.slice .no (List.map eS_I_u8 x.2.2)) :: [])))
theorem eapi_Input_inj : ∀ a b,eapi_Input a = eapi_Input b→a = b:=by
  rintro ⟨⟨a_0_0,a_0_1⟩,a_1,a_2⟩ ⟨⟨b_0_0,b_0_1⟩,b_1,b_2⟩ h
  simpa [and_assoc] using h
@[simp↓] theorem eapi_Input_all (m : List Tapi_Input) : (∀ l,l∈List.map eapi_Input m→l.length = 35) = True:=all_map_len (fun a=>by simp) m
@[simp↓] theorem eapi_Input_alld (m : List Tapi_Input) (k : Nat) : (∀ l,l∈List.drop k (List.map eapi_Input m)→l.length = 35) = True:=eq_true fun l h=>of_eq_true (eapi_Input_all m) l (List.mem_of_mem_drop h)
@[simp↓] theorem eapi_Input_allt (m : List Tapi_Input) (k : Nat) : (∀ l,l∈List.take k (List.map eapi_Input m)→l.length = 35) = True:=eq_true fun l h=>of_eq_true (eapi_Input_all m) l (List.mem_of_mem_take h)
@[simp] theorem eapi_Input_map {l m : List Tapi_Input} : List.map eapi_Input l = List.map eapi_Input m↔l = m:=map_iff eapi_Input_inj
@[simp] def eapi_Spendable (x : Tapi_Spendable) : List Cell:=(arC .u8 x.1.1.1)++((.v (.int .u32 x.1.1.2)) :: ((.v (.int .i64 x.1.2.1.1)) :: ((.slice .no (intsR .u8 x.1.2.1.2)) :: ((.v (.int .i64 x.1.2.2.1)) :: ((.v (.bool x.1.2.2.2)) :: ((.v (.int .i64 x.2)) :: []))))))
theorem eapi_Spendable_inj : ∀ a b,eapi_Spendable a = eapi_Spendable b→a = b:=by
  rintro ⟨⟨⟨a_0_0_0,a_0_0_1⟩,⟨a_0_1_0,a_0_1_1⟩,a_0_2,a_0_3⟩,a_1⟩ ⟨⟨⟨b_0_0_0,b_0_0_1⟩,⟨b_0_1_0,b_0_1_1⟩,b_0_2,b_0_3⟩,b_1⟩ h
  simpa [and_assoc] using h
@[simp↓] theorem eapi_Spendable_all (m : List Tapi_Spendable) : (∀ l,l∈List.map eapi_Spendable m→l.length = 38) = True:=all_map_len (fun a=>by simp) m
@[simp↓] theorem eapi_Spendable_alld (m : List Tapi_Spendable) (k : Nat) : (∀ l,l∈List.drop k (List.map eapi_Spendable m)→l.length = 38) = True:=eq_true fun l h=>of_eq_true (eapi_Spendable_all m) l (List.mem_of_mem_drop h)
@[simp↓] theorem eapi_Spendable_allt (m : List Tapi_Spendable) (k : Nat) : (∀ l,l∈List.take k (List.map eapi_Spendable m)→l.length = 38) = True:=eq_true fun l h=>of_eq_true (eapi_Spendable_all m) l (List.mem_of_mem_take h)
@[simp] theorem eapi_Spendable_map {l m : List Tapi_Spendable} : List.map eapi_Spendable l = List.map eapi_Spendable m↔l = m:=map_iff eapi_Spendable_inj
@[simp] def eapi_Output (x : Tapi_Output) : List Cell:=[.v (.int .i64 x.1),.slice .no (intsR .u8 x.2)]
theorem eapi_Output_inj : ∀ a b,eapi_Output a = eapi_Output b→a = b:=by
  rintro ⟨a_0,a_1⟩ ⟨b_0,b_1⟩ h
  simpa [and_assoc] using h
@[simp↓] theorem eapi_Output_all (m : List Tapi_Output) : (∀ l,l∈List.map eapi_Output m→l.length = 2) = True:=all_map_len (fun a=>by simp) m
@[simp↓] theorem eapi_Output_alld (m : List Tapi_Output) (k : Nat) : (∀ l,l∈List.drop k (List.map eapi_Output m)→l.length = 2) = True:=eq_true fun l h=>of_eq_true (eapi_Output_all m) l (List.mem_of_mem_drop h)
@[simp↓] theorem eapi_Output_allt (m : List Tapi_Output) (k : Nat) : (∀ l,l∈List.take k (List.map eapi_Output m)→l.length = 2) = True:=eq_true fun l h=>of_eq_true (eapi_Output_all m) l (List.mem_of_mem_take h)
@[simp] theorem eapi_Output_map {l m : List Tapi_Output} : List.map eapi_Output l = List.map eapi_Output m↔l = m:=map_iff eapi_Output_inj
@[simp] def eapi_Coin (x : Tapi_Coin) : List Cell:=(arC .u8 x.1.1)++((.v (.int .u32 x.1.2)) :: ((.v (.int .i64 x.2.1.1)) :: ((.slice .no (intsR .u8 x.2.1.2)) :: ((.v (.int .i64 x.2.2.1)) :: ((.v (.bool x.2.2.2)) :: [])))))
theorem eapi_Coin_inj : ∀ a b,eapi_Coin a = eapi_Coin b→a = b:=by
  rintro ⟨⟨a_0_0,a_0_1⟩,⟨a_1_0,a_1_1⟩,a_2,a_3⟩ ⟨⟨b_0_0,b_0_1⟩,⟨b_1_0,b_1_1⟩,b_2,b_3⟩ h
  simpa [and_assoc] using h
@[simp↓] theorem eapi_Coin_all (m : List Tapi_Coin) : (∀ l,l∈List.map eapi_Coin m→l.length = 37) = True:=all_map_len (fun a=>by simp) m
@[simp↓] theorem eapi_Coin_alld (m : List Tapi_Coin) (k : Nat) : (∀ l,l∈List.drop k (List.map eapi_Coin m)→l.length = 37) = True:=eq_true fun l h=>of_eq_true (eapi_Coin_all m) l (List.mem_of_mem_drop h)
@[simp↓] theorem eapi_Coin_allt (m : List Tapi_Coin) (k : Nat) : (∀ l,l∈List.take k (List.map eapi_Coin m)→l.length = 37) = True:=eq_true fun l h=>of_eq_true (eapi_Coin_all m) l (List.mem_of_mem_take h)
@[simp] theorem eapi_Coin_map {l m : List Tapi_Coin} : List.map eapi_Coin l = List.map eapi_Coin m↔l = m:=map_iff eapi_Coin_inj
theorem nfs : (∀ x : (List Int),eS_I_u8 x = [.slice .no (intsR .u8 x)])∧(∀ x : Tapi_Input,eapi_Input x = (arC .u8 x.1.1)++((.v (.int .u32 x.1.2)) :: ((.v (.int .u32 x.2.1)) :: ((.slice .no (List.map eS_I_u8 x.2.2)) :: []))))∧(∀ x : Tapi_Spendable,eapi_Spendable x = (arC .u8 x.1.1.1)++((.v (.int .u32 x.1.1.2)) :: ((.v (.int .i64 x.1.2.1.1)) :: ((.slice .no (intsR .u8 x.1.2.1.2)) :: ((.v (.int .i64 x.1.2.2.1)) :: ((.v (.bool x.1.2.2.2)) :: ((.v (.int .i64 x.2)) :: [])))))))∧(∀ x : Tapi_Output,eapi_Output x = [.v (.int .i64 x.1),.slice .no (intsR .u8 x.2)])∧(∀ x : Tapi_Coin,eapi_Coin x = (arC .u8 x.1.1)++((.v (.int .u32 x.1.2)) :: ((.v (.int .i64 x.2.1.1)) :: ((.slice .no (intsR .u8 x.2.1.2)) :: ((.v (.int .i64 x.2.2.1)) :: ((.v (.bool x.2.2.2)) :: [])))))):=⟨fun _=>rfl,fun _=>rfl,fun _=>rfl,fun _=>rfl,fun _=>rfl⟩
@[simp] def eM_api_OutPoint_B (x : Tapi_OutPoint×Bool) : List Cell:=((arC .u8 x.1.1)++((.v (.int .u32 x.1.2)) :: []))++([.v (.bool x.2)])
theorem eM_api_OutPoint_B_he : ∀ a b : Tapi_OutPoint,kEq ((arC .u8 a.1)++((.v (.int .u32 a.2)) :: [])) ((arC .u8 b.1)++((.v (.int .u32 b.2)) :: [])) = decide (a = b):=by
  rintro ⟨a_0,a_1⟩ ⟨b_0,b_1⟩
  rw [Bool.eq_iff_iff];simp [kEq,kEq1]
@[simp] theorem eM_api_OutPoint_B_get {k0 : (Arr 32)} {k1 : Int} {l : List (Tapi_OutPoint×Bool)} : getM 33 ((arC .u8 k0)++((.v (.int .u32 k1)) :: [])) (List.map eM_api_OutPoint_B l) = Option.map (fun v : Bool=>([.v (.bool v)] : List Cell)) (mget (k0,k1) l):=getM_map (eK:=(fun k : Tapi_OutPoint=>((arC .u8 k.1)++((.v (.int .u32 k.2)) :: []) : List Cell))) (eV:=(fun v : Bool=>([.v (.bool v)] : List Cell))) (fun k=>by simp) eM_api_OutPoint_B_he (k0,k1) l
@[simp] theorem eM_api_OutPoint_B_put {k0 : (Arr 32)} {k1 : Int} {v0 : Bool} {l : List (Tapi_OutPoint×Bool)} : putM 33 ((arC .u8 k0)++((.v (.int .u32 k1)) :: [])) ([.v (.bool v0)]) (List.map eM_api_OutPoint_B l) = List.map eM_api_OutPoint_B (mput (k0,k1) v0 l):=putM_map (eK:=(fun k : Tapi_OutPoint=>((arC .u8 k.1)++((.v (.int .u32 k.2)) :: []) : List Cell))) (eV:=(fun v : Bool=>([.v (.bool v)] : List Cell))) (fun k=>by simp) eM_api_OutPoint_B_he (k0,k1) v0 l
@[simp] theorem eM_api_OutPoint_B_gd (o : Option Bool) : (Option.map (fun v : Bool=>([.v (.bool v)] : List Cell)) o).getD ([.v (.bool false)]) = [.v (.bool (o.getD false))]:=by cases o <;> rfl
@[simp] theorem eM_api_OutPoint_B_put0 {k0 : (Arr 32)} {k1 : Int} {v0 : Bool} : putM 33 ((arC .u8 k0)++((.v (.int .u32 k1)) :: [])) ([.v (.bool v0)]) [] = List.map eM_api_OutPoint_B (mput (k0,k1) v0 []):=rfl
theorem bN {α β : Type} {o : Option α} {f : α→Option β} {y : β} {P P' : α→Prop} (h : o.bind f = some y) (k : ∀ {x},o = some x→P x) (n : ∀ x,P x→P' x:=by intro x h; try simp only [nf,nfs] at h; exact h) : ∃ x,P' x∧f x = some y :=
  let ⟨x,h1,h2⟩:=bs h
  ⟨x,n x (k h1),h2⟩
theorem goA {P R : Prop} (k : R) (h : ∀ X : Prop,SameP X R→Imp X P:=by
  intro X e
  repeat (first
    | (with_reducible refine im_assoc ?_)
    | (with_reducible refine im_seq_skip ?_)
    | (with_reducible refine im_seq_block ?_)
    | (with_reducible refine im_seq_exit ?_)
    | (with_reducible refine im_seq_ret ?_)
    | (with_reducible refine im_block ?_)
    | (with_reducible refine im_skip ?_)
    | (with_reducible refine im_exit ?_)
    | (with_reducible refine im_ret ?_)
    | (with_reducible refine im_seq_condT ?_ ?_; · simp [-Int.ofNat_toNat,bV, *]; done)
    | (with_reducible refine im_seq_condF ?_ ?_; · simp [-Int.ofNat_toNat,bV, *]; done)
    | (refine im_seq_reg rfl (by first | (simp [-Int.ofNat_toNat,Nat.add_assoc, *] <;> rfl) | fail) ?_)
    | (refine im_seq_draw rfl (by simp [-Int.ofNat_toNat,Nat.add_assoc, *]; first | exact ⟨rfl,rfl⟩ | rfl) (by kernel_rfl) ?_)
    | (with_reducible refine im_condT ?_ ?_; · simp [-Int.ofNat_toNat,bV, *]; done)
    | (with_reducible refine im_condF ?_ ?_; · simp [-Int.ofNat_toNat,bV, *]; done)
    | (refine im_reg rfl (by first | (simp [-Int.ofNat_toNat,Nat.add_assoc, *] <;> rfl) | fail) ?_)
    | (refine im_draw rfl (by simp [-Int.ofNat_toNat,Nat.add_assoc, *]; first | exact ⟨rfl,rfl⟩ | rfl) (by kernel_rfl) ?_)
    | (refine im_pq ?_ (by simp only [pq,reduceCtorEq]; rfl)))
  exact Imp.of e) : P:=h R ⟨rfl⟩ k
theorem goR {P R : Prop} (k : R) (h : ∀ X : Prop,SameP X R→Imp X P:=by
  intro X e
  repeat (first
    | (with_reducible refine im_assoc ?_)
    | (with_reducible refine im_seq_skip ?_)
    | (with_reducible refine im_seq_block ?_)
    | (with_reducible refine im_seq_exit ?_)
    | (with_reducible refine im_seq_ret ?_)
    | (with_reducible refine im_block ?_)
    | (with_reducible refine im_skip ?_)
    | (with_reducible refine im_exit ?_)
    | (with_reducible refine im_ret ?_)
    | (with_reducible refine im_seq_condT ?_ ?_; · simp [-Int.ofNat_toNat,bV, *]; done)
    | (with_reducible refine im_seq_condF ?_ ?_; · simp [-Int.ofNat_toNat,bV, *]; done)
    | (refine im_seq_reg rfl (by first | (simp [-Int.ofNat_toNat,List.range,List.range.loop, *] <;> rfl) | fail) ?_)
    | (refine im_seq_draw rfl (by simp [-Int.ofNat_toNat,List.range,List.range.loop, *]; first | exact ⟨rfl,rfl⟩ | rfl) (by kernel_rfl) ?_)
    | (with_reducible refine im_condT ?_ ?_; · simp [-Int.ofNat_toNat,bV, *]; done)
    | (with_reducible refine im_condF ?_ ?_; · simp [-Int.ofNat_toNat,bV, *]; done)
    | (refine im_reg rfl (by first | (simp [-Int.ofNat_toNat,List.range,List.range.loop, *] <;> rfl) | fail) ?_)
    | (refine im_draw rfl (by simp [-Int.ofNat_toNat,List.range,List.range.loop, *]; first | exact ⟨rfl,rfl⟩ | rfl) (by kernel_rfl) ?_)
    | (refine im_pq ?_ (by simp only [pq,reduceCtorEq]; rfl)))
  exact Imp.of e) : P:=h R ⟨rfl⟩ k
variable {G : Glob}
noncomputable abbrev K14 : Con (Int×Int) Int:=⟨fun x=>[.one (.v (.int .i64 x.1)),.one (.v (.int .i64 x.2))],fun _ y=>(.one (.v (.int .i64 y)),[]),fun x=>Lbuild_Fee x.1 x.2⟩
theorem i14 : K14.Inj:=by intro a b h; simpa [K14,Prod.ext_iff,and_assoc] using h
theorem G14_eq {a0 a1 y} (h : Lbuild_Fee a0 a1 = some y) : K14.G (K14.E (a0,a1)) = some (K14.R (a0,a1) y):=i14.eq h
noncomputable abbrev K16 : Con Tapi_Spendable Int:=⟨fun x=>[.agg ((arC .u8 x.1.1.1)++((.v (.int .u32 x.1.1.2)) :: ((.v (.int .i64 x.1.2.1.1)) :: ((.slice .no (intsR .u8 x.1.2.1.2)) :: ((.v (.int .i64 x.1.2.2.1)) :: ((.v (.bool x.1.2.2.2)) :: ((.v (.int .i64 x.2)) :: [])))))))],fun _ y=>(.one (.v (.int .i64 y)),[]),fun x=>Lbuild_InputWeight x⟩
theorem i16 : K16.Inj:=by intro a b h; simpa [K16,Prod.ext_iff,and_assoc] using h
theorem G16_eq {a0 y} (h : Lbuild_InputWeight a0 = some y) : K16.G (K16.E a0) = some (K16.R a0 y):=i16.eq h
noncomputable abbrev K4 : Con Unit Bool:=⟨fun _=>[],fun _ y=>(.one (.v (.bool y)),[]),fun _=>Llaw34_sane⟩
theorem i4 : K4.Inj:=fun _ _ _=>rfl
theorem G4_eq { y} (h : Llaw34_sane  = some y) : K4.G (K4.E ()) = some (K4.R () y):=i4.eq h
noncomputable abbrev K5 : Con ((List Int)) Tlightclientmill_Deck:=⟨fun x=>[.one (.slice .no (intsR .i64 x))],fun _ y=>(.io ([.slice .no (intsR .i64 y.1),.v (.int .i64 y.2)]),[]),fun x=>Lmill_New x⟩
theorem i5 : K5.Inj:=by intro a b h; simpa [K5,Prod.ext_iff,and_assoc] using h
theorem G5_eq {a0 y} (h : Lmill_New a0 = some y) : K5.G (K5.E a0) = some (K5.R a0 y):=i5.eq h
noncomputable abbrev K8 : Con (Int×Int) Int:=⟨fun x=>[.one (.v (.int .i64 x.1)),.one (.v (.int .i64 x.2))],fun _ y=>(.one (.v (.int .i64 y)),[]),fun x=>Lmill_Mod x.1 x.2⟩
theorem i8 : K8.Inj:=by intro a b h; simpa [K8,Prod.ext_iff,and_assoc] using h
theorem G8_eq {a0 a1 y} (h : Lmill_Mod a0 a1 = some y) : K8.G (K8.E (a0,a1)) = some (K8.R (a0,a1) y):=i8.eq h
noncomputable abbrev K31 : Con Tlightclientmill_Deck (Bool×Tlightclientmill_Deck):=⟨fun x=>[.io ([.slice .no (intsR .i64 x.1),.v (.int .i64 x.2)])],fun _ y=>(.one (.v (.bool y.1)),[[.slice .no (intsR .i64 y.2.1),.v (.int .i64 y.2.2)]]),fun x=>Lmill_Deck_Left x⟩
theorem i31 : K31.Inj:=by intro a b h; simpa [K31,Prod.ext_iff,and_assoc] using h
theorem G31_eq {a0 y} (h : Lmill_Deck_Left a0 = some y) : K31.G (K31.E a0) = some (K31.R a0 y):=i31.eq h
noncomputable abbrev K17 : Con (Tlightclientmill_Deck×Int) (Int×Tlightclientmill_Deck):=⟨fun x=>[.io ([.slice .no (intsR .i64 x.1.1),.v (.int .i64 x.1.2)]),.one (.v (.int .i64 x.2))],fun _ y=>(.one (.v (.int .i64 y.1)),[[.slice .no (intsR .i64 y.2.1),.v (.int .i64 y.2.2)]]),fun x=>Lmill_Deck_Next x.1 x.2⟩
theorem i17 : K17.Inj:=by intro a b h; simpa [K17,Prod.ext_iff,and_assoc] using h
theorem G17_eq {a0 a1 y} (h : Lmill_Deck_Next a0 a1 = some y) : K17.G (K17.E (a0,a1)) = some (K17.R (a0,a1) y):=i17.eq h
noncomputable abbrev K18 : Con Int ((List Int)):=⟨fun x=>[.one (.v (.int .u8 x))],fun _ y=>(.one (.own 1 (intsR .u8 y)),[]),fun x=>Lmade_Script x⟩
theorem i18 : K18.Inj:=by intro a b h; simpa [K18,Prod.ext_iff,and_assoc] using h
theorem G18_eq {a0 y} (h : Lmade_Script a0 = some y) : K18.G (K18.E a0) = some (K18.R a0 y):=i18.eq h
noncomputable abbrev K19 : Con (Tlightclientmill_Deck×Int×Int) (Int×Tlightclientmill_Deck):=⟨fun x=>[.io ([.slice .no (intsR .i64 x.1.1),.v (.int .i64 x.1.2)]),.one (.v (.int .i64 x.2.1)),.one (.v (.int .i64 x.2.2))],fun _ y=>(.one (.v (.int .i64 y.1)),[[.slice .no (intsR .i64 y.2.1),.v (.int .i64 y.2.2)]]),fun x=>Lmill_Deck_Range x.1 x.2.1 x.2.2⟩
theorem i19 : K19.Inj:=by intro a b h; simpa [K19,Prod.ext_iff,and_assoc] using h
theorem G19_eq {a0 a1 a2 y} (h : Lmill_Deck_Range a0 a1 a2 = some y) : K19.G (K19.E (a0,a1,a2)) = some (K19.R (a0,a1,a2) y):=i19.eq h
noncomputable abbrev K6 : Con (Tlightclientmill_Deck×Int) ((List Tapi_Spendable)×Tlightclientmill_Deck):=⟨fun x=>[.io ([.slice .no (intsR .i64 x.1.1),.v (.int .i64 x.1.2)]),.one (.v (.int .i64 x.2))],fun _ y=>(.one (.own 38 (List.map eapi_Spendable y.1)),[[.slice .no (intsR .i64 y.2.1),.v (.int .i64 y.2.2)]]),fun x=>Lmill_Spendables x.1 x.2⟩
theorem i6 : K6.Inj:=by intro a b h; simpa [K6,Prod.ext_iff,and_assoc] using h
theorem G6_eq {a0 a1 y} (h : Lmill_Spendables a0 a1 = some y) : K6.G (K6.E (a0,a1)) = some (K6.R (a0,a1) y):=i6.eq h
noncomputable abbrev K7 : Con (Tlightclientmill_Deck×Int) ((List Tapi_Output)×Tlightclientmill_Deck):=⟨fun x=>[.io ([.slice .no (intsR .i64 x.1.1),.v (.int .i64 x.1.2)]),.one (.v (.int .i64 x.2))],fun _ y=>(.one (.own 2 (List.map eapi_Output y.1)),[[.slice .no (intsR .i64 y.2.1),.v (.int .i64 y.2.2)]]),fun x=>Lmill_Outputs x.1 x.2⟩
theorem i7 : K7.Inj:=by intro a b h; simpa [K7,Prod.ext_iff,and_assoc] using h
theorem G7_eq {a0 a1 y} (h : Lmill_Outputs a0 a1 = some y) : K7.G (K7.E (a0,a1)) = some (K7.R (a0,a1) y):=i7.eq h
noncomputable abbrev K9 : Con Int ((List Int)):=⟨fun x=>[.one (.v (.int .i64 x))],fun _ y=>(.one (.slice .no (intsR .u8 y)),[]),fun x=>Llaw34_change x⟩
theorem i9 : K9.Inj:=by intro a b h; simpa [K9,Prod.ext_iff,and_assoc] using h
theorem G9_eq {a0 y} (h : Llaw34_change a0 = some y) : K9.G (K9.E a0) = some (K9.R a0 y):=i9.eq h
noncomputable abbrev K55 : Con ((List Int)×(List Int)) ((List Int)):=⟨fun x=>[.one (.slice .no (intsR .u8 x.1)),.one (.slice .no (intsR .u8 x.2))],fun _ y=>(.one (.own 1 (intsR .u8 y)),[]),fun x=>Lcodec_extend x.1 x.2⟩
theorem i55 : K55.Inj:=by intro a b h; simpa [K55,Prod.ext_iff,and_assoc] using h
theorem G55_eq {a0 a1 y} (h : Lcodec_extend a0 a1 = some y) : K55.G (K55.E (a0,a1)) = some (K55.R (a0,a1) y):=i55.eq h
noncomputable abbrev K56 : Con (Int×Int) ((List Int)):=⟨fun x=>[.one (.v (.int .u64 x.1)),.one (.v (.int .i64 x.2))],fun _ y=>(.one (.own 1 (intsR .u8 y)),[]),fun x=>Lcodec_lowest x.1 x.2⟩
theorem i56 : K56.Inj:=by intro a b h; simpa [K56,Prod.ext_iff,and_assoc] using h
theorem G56_eq {a0 a1 y} (h : Lcodec_lowest a0 a1 = some y) : K56.G (K56.E (a0,a1)) = some (K56.R (a0,a1) y):=i56.eq h
noncomputable abbrev K47 : Con ((List Int)×Int) ((List Int)):=⟨fun x=>[.one (.slice .no (intsR .u8 x.1)),.one (.v (.int .u32 x.2))],fun _ y=>(.one (.own 1 (intsR .u8 y)),[]),fun x=>Lcodec_AppendU32 x.1 x.2⟩
theorem i47 : K47.Inj:=by intro a b h; simpa [K47,Prod.ext_iff,and_assoc] using h
theorem G47_eq {a0 a1 y} (h : Lcodec_AppendU32 a0 a1 = some y) : K47.G (K47.E (a0,a1)) = some (K47.R (a0,a1) y):=i47.eq h
noncomputable abbrev K50 : Con ((List Int)×Int) ((List Int)):=⟨fun x=>[.one (.slice .no (intsR .u8 x.1)),.one (.v (.int .u64 x.2))],fun _ y=>(.one (.own 1 (intsR .u8 y)),[]),fun x=>Lcodec_AppendU64 x.1 x.2⟩
theorem i50 : K50.Inj:=by intro a b h; simpa [K50,Prod.ext_iff,and_assoc] using h
theorem G50_eq {a0 a1 y} (h : Lcodec_AppendU64 a0 a1 = some y) : K50.G (K50.E (a0,a1)) = some (K50.R (a0,a1) y):=i50.eq h
noncomputable abbrev K57 : Con ((List Int)×Int) ((List Int)):=⟨fun x=>[.one (.slice .no (intsR .u8 x.1)),.one (.v (.int .u16 x.2))],fun _ y=>(.one (.own 1 (intsR .u8 y)),[]),fun x=>Lcodec_AppendU16 x.1 x.2⟩
theorem i57 : K57.Inj:=by intro a b h; simpa [K57,Prod.ext_iff,and_assoc] using h
theorem G57_eq {a0 a1 y} (h : Lcodec_AppendU16 a0 a1 = some y) : K57.G (K57.E (a0,a1)) = some (K57.R (a0,a1) y):=i57.eq h
noncomputable abbrev K48 : Con ((List Int)×Int) ((List Int)):=⟨fun x=>[.one (.slice .no (intsR .u8 x.1)),.one (.v (.int .u64 x.2))],fun _ y=>(.one (.own 1 (intsR .u8 y)),[]),fun x=>Lcodec_AppendSize x.1 x.2⟩
theorem i48 : K48.Inj:=by intro a b h; simpa [K48,Prod.ext_iff,and_assoc] using h
theorem G48_eq {a0 a1 y} (h : Lcodec_AppendSize a0 a1 = some y) : K48.G (K48.E (a0,a1)) = some (K48.R (a0,a1) y):=i48.eq h
noncomputable abbrev K58 : Con ((List Int)×(Arr 32)) ((List Int)):=⟨fun x=>[.one (.slice .no (intsR .u8 x.1)),.agg (arC .u8 x.2)],fun _ y=>(.one (.own 1 (intsR .u8 y)),[]),fun x=>Lcodec_AppendHash x.1 x.2⟩
theorem i58 : K58.Inj:=by intro a b h; simpa [K58,Prod.ext_iff,and_assoc] using h
theorem G58_eq {a0 a1 y} (h : Lcodec_AppendHash a0 a1 = some y) : K58.G (K58.E (a0,a1)) = some (K58.R (a0,a1) y):=i58.eq h
noncomputable abbrev K49 : Con Tapi_OutPoint ((List Int)):=⟨fun x=>[.agg ((arC .u8 x.1)++((.v (.int .u32 x.2)) :: []))],fun _ y=>(.one (.own 1 (intsR .u8 y)),[]),fun x=>Ltx_Point x⟩
theorem i49 : K49.Inj:=by intro a b h; simpa [K49,Prod.ext_iff,and_assoc] using h
theorem G49_eq {a0 y} (h : Ltx_Point a0 = some y) : K49.G (K49.E a0) = some (K49.R a0 y):=i49.eq h
noncomputable abbrev K51 : Con ((List Int)×(List Int)) ((List Int)):=⟨fun x=>[.one (.slice .no (intsR .u8 x.1)),.one (.slice .no (intsR .u8 x.2))],fun _ y=>(.one (.own 1 (intsR .u8 y)),[]),fun x=>Lcodec_AppendBytes x.1 x.2⟩
theorem i51 : K51.Inj:=by intro a b h; simpa [K51,Prod.ext_iff,and_assoc] using h
theorem G51_eq {a0 a1 y} (h : Lcodec_AppendBytes a0 a1 = some y) : K51.G (K51.E (a0,a1)) = some (K51.R (a0,a1) y):=i51.eq h
noncomputable abbrev K36 : Con (Tapi_Tx×Bool) ((List Int)):=⟨fun x=>[.agg ([.v (.int .u32 x.1.1),.slice .no (List.map eapi_Input x.1.2.1),.slice .no (List.map eapi_Output x.1.2.2.1),.v (.int .u32 x.1.2.2.2)]),.one (.v (.bool x.2))],fun _ y=>(.one (.own 1 (intsR .u8 y)),[]),fun x=>Ltx_encode x.1 x.2⟩
theorem i36 : K36.Inj:=by intro a b h; simpa [K36,Prod.ext_iff,and_assoc] using h
theorem G36_eq {a0 a1 y} (h : Ltx_encode a0 a1 = some y) : K36.G (K36.E (a0,a1)) = some (K36.R (a0,a1) y):=i36.eq h
noncomputable abbrev K35 : Con Tapi_Tx Bool:=⟨fun x=>[.agg ([.v (.int .u32 x.1),.slice .no (List.map eapi_Input x.2.1),.slice .no (List.map eapi_Output x.2.2.1),.v (.int .u32 x.2.2.2)])],fun _ y=>(.one (.v (.bool y)),[]),fun x=>Ltx_fits x⟩
theorem i35 : K35.Inj:=by intro a b h; simpa [K35,Prod.ext_iff,and_assoc] using h
theorem G35_eq {a0 y} (h : Ltx_fits a0 = some y) : K35.G (K35.E a0) = some (K35.R a0 y):=i35.eq h
noncomputable abbrev K24 : Con Tapi_Tx Int:=⟨fun x=>[.agg ([.v (.int .u32 x.1),.slice .no (List.map eapi_Input x.2.1),.slice .no (List.map eapi_Output x.2.2.1),.v (.int .u32 x.2.2.2)])],fun _ y=>(.one (.v (.int .i64 y)),[]),fun x=>Ltx_Weight x⟩
theorem i24 : K24.Inj:=by intro a b h; simpa [K24,Prod.ext_iff,and_assoc] using h
theorem G24_eq {a0 y} (h : Ltx_Weight a0 = some y) : K24.G (K24.E a0) = some (K24.R a0 y):=i24.eq h
def E30 (x : (List Tapi_Input)) : List PV:=[.one (.slice .no (List.map eapi_Input x))]
theorem E30i : ∀ a b,E30 a = E30 b→a = b:=by
  rintro a0 b0 h
  simpa [E30,and_assoc] using h
def R30 (x : (List Tapi_Input)) (y : (List Tapi_Input)) : PV×List (List Cell):=(.one (.own 35 (List.map eapi_Input y)),[])
noncomputable def G30:=lift E30 fun x=>(Lslices_Clone_of__api_Input_api_Input x).map (R30 x)
theorem G30_eq {a0 : (List Tapi_Input)} {y : (List Tapi_Input)} (h : Lslices_Clone_of__api_Input_api_Input a0 = some y) : G30 (E30 a0) = some (R30 a0 y):=lift_som E30i h
noncomputable abbrev K15 : Con (Tapi_Tx×(List Tapi_Spendable)) Int:=⟨fun x=>[.agg ([.v (.int .u32 x.1.1),.slice .no (List.map eapi_Input x.1.2.1),.slice .no (List.map eapi_Output x.1.2.2.1),.v (.int .u32 x.1.2.2.2)]),.one (.slice .no (List.map eapi_Spendable x.2))],fun _ y=>(.one (.v (.int .i64 y)),[]),fun x=>Lbuild_Weight x.1 x.2⟩
theorem i15 : K15.Inj:=by intro a b h; simpa [K15,Prod.ext_iff,and_assoc] using h
theorem G15_eq {a0 a1 y} (h : Lbuild_Weight a0 a1 = some y) : K15.G (K15.E (a0,a1)) = some (K15.R (a0,a1) y):=i15.eq h
noncomputable abbrev K32 : Con ((List Tapi_Output)×(List Int)) Int:=⟨fun x=>[.one (.slice .no (List.map eapi_Output x.1)),.one (.slice .no (intsR .u8 x.2))],fun _ y=>(.one (.v (.int .i64 y)),[]),fun x=>Lbuild_checkOutputs x.1 x.2⟩
theorem i32 : K32.Inj:=by intro a b h; simpa [K32,Prod.ext_iff,and_assoc] using h
theorem G32_eq {a0 a1 y} (h : Lbuild_checkOutputs a0 a1 = some y) : K32.G (K32.E (a0,a1)) = some (K32.R (a0,a1) y):=i32.eq h
noncomputable abbrev K33 : Con Tapi_OutPoint Bool:=⟨fun x=>[.agg ((arC .u8 x.1)++((.v (.int .u32 x.2)) :: []))],fun _ y=>(.one (.v (.bool y)),[]),fun x=>Lbuild_null x⟩
theorem i33 : K33.Inj:=by intro a b h; simpa [K33,Prod.ext_iff,and_assoc] using h
theorem G33_eq {a0 y} (h : Lbuild_null a0 = some y) : K33.G (K33.E a0) = some (K33.R a0 y):=i33.eq h
noncomputable abbrev K20 : Con ((List Tapi_Spendable)×(List Tapi_Output)×(List Int)×Int) Int:=⟨fun x=>[.one (.slice .no (List.map eapi_Spendable x.1)),.one (.slice .no (List.map eapi_Output x.2.1)),.one (.slice .no (intsR .u8 x.2.2.1)),.one (.v (.int .i64 x.2.2.2))],fun _ y=>(.one (.v (.int .i64 y)),[]),fun x=>Lbuild_check x.1 x.2.1 x.2.2.1 x.2.2.2⟩
theorem i20 : K20.Inj:=by intro a b h; simpa [K20,Prod.ext_iff,and_assoc] using h
theorem G20_eq {a0 a1 a2 a3 y} (h : Lbuild_check a0 a1 a2 a3 = some y) : K20.G (K20.E (a0,a1,a2,a3)) = some (K20.R (a0,a1,a2,a3) y):=i20.eq h
def E21 (x : (List Int)) : List PV:=[.one (.slice .no (intsR .u8 x))]
theorem E21i : ∀ a b,E21 a = E21 b→a = b:=by
  rintro a0 b0 h
  simpa [E21,and_assoc] using h
def R21 (x : (List Int)) (y : (List Int)) : PV×List (List Cell):=(.one (.own 1 (intsR .u8 y)),[])
noncomputable def G21:=lift E21 fun x=>(Lbytes_Clone x).map (R21 x)
theorem G21_eq {a0 : (List Int)} {y : (List Int)} (h : Lbytes_Clone a0 = some y) : G21 (E21 a0) = some (R21 a0 y):=lift_som E21i h
noncomputable abbrev K43 : Con ((List Int)×Int) Int:=⟨fun x=>[.one (.slice .no (intsR .i64 x.1)),.one (.v (.int .i64 x.2))],fun _ y=>(.one (.v (.int .i64 y)),[]),fun x=>Lselection_check x.1 x.2⟩
theorem i43 : K43.Inj:=by intro a b h; simpa [K43,Prod.ext_iff,and_assoc] using h
theorem G43_eq {a0 a1 y} (h : Lselection_check a0 a1 = some y) : K43.G (K43.E (a0,a1)) = some (K43.R (a0,a1) y):=i43.eq h
noncomputable abbrev K44 : Con ((List Int)) Int:=⟨fun x=>[.one (.slice .no (intsR .i64 x))],fun _ y=>(.one (.v (.int .i64 y)),[]),fun x=>Lselection_total x⟩
theorem i44 : K44.Inj:=by intro a b h; simpa [K44,Prod.ext_iff,and_assoc] using h
theorem G44_eq {a0 y} (h : Lselection_total a0 = some y) : K44.G (K44.E a0) = some (K44.R a0 y):=i44.eq h
def E53 (x : (List Int)) : List PV:=[.one (.slice .no (intsR .i64 x))]
theorem E53i : ∀ a b,E53 a = E53 b→a = b:=by
  rintro a0 b0 h
  simpa [E53,and_assoc] using h
def R53 (x : (List Int)) (y : (List Int)) : PV×List (List Cell):=(.one (.own 1 (intsR .i64 y)),[])
noncomputable def G53:=lift E53 fun x=>(Lslices_Clone_of__int_int x).map (R53 x)
theorem G53_eq {a0 : (List Int)} {y : (List Int)} (h : Lslices_Clone_of__int_int a0 = some y) : G53 (E53 a0) = some (R53 a0 y):=lift_som E53i h
def E45_1 (x : Tselection_search×Int×Int) : List PV:=[.io ([.slice .no (intsR .i64 x.1.1),.v (.int .i64 x.1.2.1),.own 1 (intsR .i64 x.1.2.2.1),.slice .no (intsR .i64 x.1.2.2.2.1),.v (.int .i64 x.1.2.2.2.2)]),.one (.v (.int .i64 x.2.1)),.one (.v (.int .i64 x.2.2))]
theorem E45_1i : ∀ a b,E45_1 a = E45_1 b→a = b:=by
  rintro ⟨⟨a0_0,a0_1,a0_2,⟨a0_3_0,a0_3_1⟩⟩,a1,a2⟩ ⟨⟨b0_0,b0_1,b0_2,⟨b0_3_0,b0_3_1⟩⟩,b1,b2⟩ h
  simpa [E45_1,and_assoc] using h
def R45_1 (x : Tselection_search×Int×Int) (y : Tselection_search) : PV×List (List Cell):=(.tup [],[[.slice .no (intsR .i64 y.1),.v (.int .i64 y.2.1),.own 1 (intsR .i64 y.2.2.1),.slice .no (intsR .i64 y.2.2.2.1),.v (.int .i64 y.2.2.2.2)]])
noncomputable def G45_1:=lift E45_1 fun x=>(Lselection_search_visit x.1 x.2.1 x.2.2).map (R45_1 x)
theorem G45_1_eq {a0 : Tselection_search} {a1 : Int} {a2 : Int} {y : Tselection_search} (h : Lselection_search_visit a0 a1 a2 = some y) : G45_1 (E45_1 (a0,a1,a2)) = some (R45_1 (a0,a1,a2) y):=lift_som E45_1i h
noncomputable def G45_1n (n : Nat):=lift E45_1 fun x=>(Lselection_search_visit_n n x.1 x.2.1 x.2.2).map (R45_1 x)
theorem G45_1n_eq {n : Nat} {a0 : Tselection_search} {a1 : Int} {a2 : Int} {y : Tselection_search} (h : Lselection_search_visit_n n a0 a1 a2 = some y) : G45_1n n (E45_1 (a0,a1,a2)) = some (R45_1 (a0,a1,a2) y):=lift_som E45_1i h
noncomputable abbrev K54_2 : Con (Tselection_certificate×Int×Int) (Bool×Tselection_certificate):=⟨fun x=>[.io ([.slice .no (intsR .i64 x.1.1),.v (.int .i64 x.1.2.1),.v (.int .i64 x.1.2.2.1),.own 1 (intsR .u8 x.1.2.2.2)]),.one (.v (.int .i64 x.2.1)),.one (.v (.int .i64 x.2.2))],fun _ y=>(.one (.v (.bool y.1)),[[.slice .no (intsR .i64 y.2.1),.v (.int .i64 y.2.2.1),.v (.int .i64 y.2.2.2.1),.own 1 (intsR .u8 y.2.2.2.2)]]),fun x=>Lselection_certificate_ends x.1 x.2.1 x.2.2⟩
theorem i54_2 : K54_2.Inj:=by intro a b h; simpa [K54_2,Prod.ext_iff,and_assoc] using h
theorem G54_2_eq {a0 a1 a2 y} (h : Lselection_certificate_ends a0 a1 a2 = some y) : K54_2.G (K54_2.E (a0,a1,a2)) = some (K54_2.R (a0,a1,a2) y):=i54_2.eq h
def E46_3 (x : Tselection_certificate×Int×Int) : List PV:=[.io ([.slice .no (intsR .i64 x.1.1),.v (.int .i64 x.1.2.1),.v (.int .i64 x.1.2.2.1),.own 1 (intsR .u8 x.1.2.2.2)]),.one (.v (.int .i64 x.2.1)),.one (.v (.int .i64 x.2.2))]
theorem E46_3i : ∀ a b,E46_3 a = E46_3 b→a = b:=by
  rintro ⟨⟨a0_0,a0_1,a0_2,a0_3⟩,a1,a2⟩ ⟨⟨b0_0,b0_1,b0_2,b0_3⟩,b1,b2⟩ h
  simpa [E46_3,and_assoc] using h
def R46_3 (x : Tselection_certificate×Int×Int) (y : Tselection_certificate) : PV×List (List Cell):=(.tup [],[[.slice .no (intsR .i64 y.1),.v (.int .i64 y.2.1),.v (.int .i64 y.2.2.1),.own 1 (intsR .u8 y.2.2.2)]])
noncomputable def G46_3:=lift E46_3 fun x=>(Lselection_certificate_branch x.1 x.2.1 x.2.2).map (R46_3 x)
theorem G46_3_eq {a0 : Tselection_certificate} {a1 : Int} {a2 : Int} {y : Tselection_certificate} (h : Lselection_certificate_branch a0 a1 a2 = some y) : G46_3 (E46_3 (a0,a1,a2)) = some (R46_3 (a0,a1,a2) y):=lift_som E46_3i h
noncomputable def G46_3n (n : Nat):=lift E46_3 fun x=>(Lselection_certificate_branch_n n x.1 x.2.1 x.2.2).map (R46_3 x)
theorem G46_3n_eq {n : Nat} {a0 : Tselection_certificate} {a1 : Int} {a2 : Int} {y : Tselection_certificate} (h : Lselection_certificate_branch_n n a0 a1 a2 = some y) : G46_3n n (E46_3 (a0,a1,a2)) = some (R46_3 (a0,a1,a2) y):=lift_som E46_3i h
noncomputable abbrev K34 : Con ((List Int)×Int) (Tapi_Selection×(List Int)×Int):=⟨fun x=>[.one (.slice .no (intsR .i64 x.1)),.one (.v (.int .i64 x.2))],fun _ y=>(.tup [.agg ([.slice .no (intsR .i64 y.1.1),.v (.int .i64 y.1.2)]),.one (.slice .no (intsR .u8 y.2.1)),.one (.v (.int .i64 y.2.2))],[]),fun x=>Lselection_Best x.1 x.2⟩
theorem i34 : K34.Inj:=by intro a b h; simpa [K34,Prod.ext_iff,and_assoc] using h
theorem G34_eq {a0 a1 y} (h : Lselection_Best a0 a1 = some y) : K34.G (K34.E (a0,a1)) = some (K34.R (a0,a1) y):=i34.eq h
noncomputable abbrev K22 : Con ((List Tapi_Spendable)×Int×Int) ((List Tapi_Spendable)×Int):=⟨fun x=>[.one (.slice .no (List.map eapi_Spendable x.1)),.one (.v (.int .i64 x.2.1)),.one (.v (.int .i64 x.2.2))],fun _ y=>(.tup [.one (.slice .no (List.map eapi_Spendable y.1)),.one (.v (.int .i64 y.2))],[]),fun x=>Lbuild_choose x.1 x.2.1 x.2.2⟩
theorem i22 : K22.Inj:=by intro a b h; simpa [K22,Prod.ext_iff,and_assoc] using h
theorem G22_eq {a0 a1 a2 y} (h : Lbuild_choose a0 a1 a2 = some y) : K22.G (K22.E (a0,a1,a2)) = some (K22.R (a0,a1,a2) y):=i22.eq h
noncomputable abbrev K23 : Con ((List Tapi_Output)) Int:=⟨fun x=>[.one (.slice .no (List.map eapi_Output x))],fun _ y=>(.one (.v (.int .i64 y)),[]),fun x=>Lbuild_paid x⟩
theorem i23 : K23.Inj:=by intro a b h; simpa [K23,Prod.ext_iff,and_assoc] using h
theorem G23_eq {a0 y} (h : Lbuild_paid a0 = some y) : K23.G (K23.E a0) = some (K23.R a0 y):=i23.eq h
noncomputable abbrev K38 : Con Tapi_OutPoint Bool:=⟨fun x=>[.agg ((arC .u8 x.1)++((.v (.int .u32 x.2)) :: []))],fun _ y=>(.one (.v (.bool y)),[]),fun x=>Ltx_null x⟩
theorem i38 : K38.Inj:=by intro a b h; simpa [K38,Prod.ext_iff,and_assoc] using h
theorem G38_eq {a0 y} (h : Ltx_null a0 = some y) : K38.G (K38.E a0) = some (K38.R a0 y):=i38.eq h
noncomputable abbrev K26 : Con Tapi_Tx Bool:=⟨fun x=>[.agg ([.v (.int .u32 x.1),.slice .no (List.map eapi_Input x.2.1),.slice .no (List.map eapi_Output x.2.2.1),.v (.int .u32 x.2.2.2)])],fun _ y=>(.one (.v (.bool y)),[]),fun x=>Ltx_Coinbase x⟩
theorem i26 : K26.Inj:=by intro a b h; simpa [K26,Prod.ext_iff,and_assoc] using h
theorem G26_eq {a0 y} (h : Ltx_Coinbase a0 = some y) : K26.G (K26.E a0) = some (K26.R a0 y):=i26.eq h
noncomputable abbrev K37 : Con ((List Tapi_Output)) Bool:=⟨fun x=>[.one (.slice .no (List.map eapi_Output x))],fun _ y=>(.one (.v (.bool y)),[]),fun x=>Ltx_money x⟩
theorem i37 : K37.Inj:=by intro a b h; simpa [K37,Prod.ext_iff,and_assoc] using h
theorem G37_eq {a0 y} (h : Ltx_money a0 = some y) : K37.G (K37.E a0) = some (K37.R a0 y):=i37.eq h
noncomputable abbrev K25 : Con Tapi_Tx Int:=⟨fun x=>[.agg ([.v (.int .u32 x.1),.slice .no (List.map eapi_Input x.2.1),.slice .no (List.map eapi_Output x.2.2.1),.v (.int .u32 x.2.2.2)])],fun _ y=>(.one (.v (.int .i64 y)),[]),fun x=>Ltx_Check x⟩
theorem i25 : K25.Inj:=by intro a b h; simpa [K25,Prod.ext_iff,and_assoc] using h
theorem G25_eq {a0 y} (h : Ltx_Check a0 = some y) : K25.G (K25.E a0) = some (K25.R a0 y):=i25.eq h
def E10 (x : (List Tapi_Spendable)×(List Tapi_Output)×(List Int)×Int×Int×Int) : List PV:=[.one (.slice .no (List.map eapi_Spendable x.1)),.one (.slice .no (List.map eapi_Output x.2.1)),.one (.slice .no (intsR .u8 x.2.2.1)),.one (.v (.int .i64 x.2.2.2.1)),.one (.v (.int .u32 x.2.2.2.2.1)),.one (.v (.int .u32 x.2.2.2.2.2))]
theorem E10i : ∀ a b,E10 a = E10 b→a = b:=by
  rintro ⟨a0,a1,a2,a3,a4,a5⟩ ⟨b0,b1,b2,b3,b4,b5⟩ h
  simpa [E10,and_assoc] using h
def R10 (x : (List Tapi_Spendable)×(List Tapi_Output)×(List Int)×Int×Int×Int) (y : Tapi_Plan×Int) : PV×List (List Cell):=(.tup [.agg ([.v (.int .u32 y.1.1.1),.slice .no (List.map eapi_Input y.1.1.2.1),.slice .no (List.map eapi_Output y.1.1.2.2.1),.v (.int .u32 y.1.1.2.2.2),.slice .no (List.map eapi_Coin y.1.2.1),.v (.int .i64 y.1.2.2.1),.v (.int .i64 y.1.2.2.2)]),.one (.v (.int .i64 y.2))],[])
noncomputable def G10:=lift E10 fun x=>(Lbuild_Make x.1 x.2.1 x.2.2.1 x.2.2.2.1 x.2.2.2.2.1 x.2.2.2.2.2).map (R10 x)
theorem G10_eq {a0 : (List Tapi_Spendable)} {a1 : (List Tapi_Output)} {a2 : (List Int)} {a3 : Int} {a4 : Int} {a5 : Int} {y : Tapi_Plan×Int} (h : Lbuild_Make a0 a1 a2 a3 a4 a5 = some y) : G10 (E10 (a0,a1,a2,a3,a4,a5)) = some (R10 (a0,a1,a2,a3,a4,a5) y):=lift_som E10i h
noncomputable abbrev K39 : Con ((List Tapi_Coin)) (Int×Bool):=⟨fun x=>[.one (.slice .no (List.map eapi_Coin x))],fun _ y=>(.tup [.one (.v (.int .i64 y.1)),.one (.v (.bool y.2))],[]),fun x=>Lspend_sum x⟩
theorem i39 : K39.Inj:=by intro a b h; simpa [K39,Prod.ext_iff,and_assoc] using h
theorem G39_eq {a0 y} (h : Lspend_sum a0 = some y) : K39.G (K39.E a0) = some (K39.R a0 y):=i39.eq h
noncomputable abbrev K27 : Con (Tapi_Tx×(List Tapi_Coin)) (Int×Int):=⟨fun x=>[.agg ([.v (.int .u32 x.1.1),.slice .no (List.map eapi_Input x.1.2.1),.slice .no (List.map eapi_Output x.1.2.2.1),.v (.int .u32 x.1.2.2.2)]),.one (.slice .no (List.map eapi_Coin x.2))],fun _ y=>(.tup [.one (.v (.int .i64 y.1)),.one (.v (.int .i64 y.2))],[]),fun x=>Lspend_Fee x.1 x.2⟩
theorem i27 : K27.Inj:=by intro a b h; simpa [K27,Prod.ext_iff,and_assoc] using h
theorem G27_eq {a0 a1 y} (h : Lspend_Fee a0 a1 = some y) : K27.G (K27.E (a0,a1)) = some (K27.R (a0,a1) y):=i27.eq h
noncomputable abbrev K11 : Con Tapi_Plan Bool:=⟨fun x=>[.agg ([.v (.int .u32 x.1.1),.slice .no (List.map eapi_Input x.1.2.1),.slice .no (List.map eapi_Output x.1.2.2.1),.v (.int .u32 x.1.2.2.2),.slice .no (List.map eapi_Coin x.2.1),.v (.int .i64 x.2.2.1),.v (.int .i64 x.2.2.2)])],fun _ y=>(.one (.v (.bool y)),[]),fun x=>Lbuild_Valid x⟩
theorem i11 : K11.Inj:=by intro a b h; simpa [K11,Prod.ext_iff,and_assoc] using h
theorem G11_eq {a0 y} (h : Lbuild_Valid a0 = some y) : K11.G (K11.E a0) = some (K11.R a0 y):=i11.eq h
noncomputable abbrev K28 : Con ((List Int)×(List Int)) Bool:=⟨fun x=>[.one (.slice .no (intsR .u8 x.1)),.one (.slice .no (intsR .u8 x.2))],fun _ y=>(.one (.v (.bool y)),[]),fun x=>Lref01_Same x.1 x.2⟩
theorem i28 : K28.Inj:=by intro a b h; simpa [K28,Prod.ext_iff,and_assoc] using h
theorem G28_eq {a0 a1 y} (h : Lref01_Same a0 a1 = some y) : K28.G (K28.E (a0,a1)) = some (K28.R (a0,a1) y):=i28.eq h
noncomputable abbrev K12 : Con (Tapi_Output×Tapi_Output) Bool:=⟨fun x=>[.agg ([.v (.int .i64 x.1.1),.slice .no (intsR .u8 x.1.2)]),.agg ([.v (.int .i64 x.2.1),.slice .no (intsR .u8 x.2.2)])],fun _ y=>(.one (.v (.bool y)),[]),fun x=>Lref09_SameOut x.1 x.2⟩
theorem i12 : K12.Inj:=by intro a b h; simpa [K12,Prod.ext_iff,and_assoc] using h
theorem G12_eq {a0 a1 y} (h : Lref09_SameOut a0 a1 = some y) : K12.G (K12.E (a0,a1)) = some (K12.R (a0,a1) y):=i12.eq h
noncomputable abbrev K64 : Con ((List Int)×(List Int)) ((List Int)):=⟨fun x=>[.one (.slice .no (intsR .u8 x.1)),.one (.slice .no (intsR .u8 x.2))],fun _ y=>(.one (.own 1 (intsR .u8 y)),[]),fun x=>Lref01_joined x.1 x.2⟩
theorem i64 : K64.Inj:=by intro a b h; simpa [K64,Prod.ext_iff,and_assoc] using h
theorem G64_eq {a0 a1 y} (h : Lref01_joined a0 a1 = some y) : K64.G (K64.E (a0,a1)) = some (K64.R (a0,a1) y):=i64.eq h
noncomputable abbrev K65 : Con (Int×Int) ((List Int)):=⟨fun x=>[.one (.v (.int .u64 x.1)),.one (.v (.int .i64 x.2))],fun _ y=>(.one (.own 1 (intsR .u8 y)),[]),fun x=>Lref01_little x.1 x.2⟩
theorem i65 : K65.Inj:=by intro a b h; simpa [K65,Prod.ext_iff,and_assoc] using h
theorem G65_eq {a0 a1 y} (h : Lref01_little a0 a1 = some y) : K65.G (K65.E (a0,a1)) = some (K65.R (a0,a1) y):=i65.eq h
noncomputable abbrev K59 : Con ((List Int)×Int) ((List Int)):=⟨fun x=>[.one (.slice .no (intsR .u8 x.1)),.one (.v (.int .u32 x.2))],fun _ y=>(.one (.own 1 (intsR .u8 y)),[]),fun x=>Lref01_AppendU32 x.1 x.2⟩
theorem i59 : K59.Inj:=by intro a b h; simpa [K59,Prod.ext_iff,and_assoc] using h
theorem G59_eq {a0 a1 y} (h : Lref01_AppendU32 a0 a1 = some y) : K59.G (K59.E (a0,a1)) = some (K59.R (a0,a1) y):=i59.eq h
noncomputable abbrev K60 : Con ((List Int)×Int) ((List Int)):=⟨fun x=>[.one (.slice .no (intsR .u8 x.1)),.one (.v (.int .u64 x.2))],fun _ y=>(.one (.own 1 (intsR .u8 y)),[]),fun x=>Lref01_AppendSize x.1 x.2⟩
theorem i60 : K60.Inj:=by intro a b h; simpa [K60,Prod.ext_iff,and_assoc] using h
theorem G60_eq {a0 a1 y} (h : Lref01_AppendSize a0 a1 = some y) : K60.G (K60.E (a0,a1)) = some (K60.R (a0,a1) y):=i60.eq h
noncomputable abbrev K66 : Con ((List Int)×(Arr 32)) ((List Int)):=⟨fun x=>[.one (.slice .no (intsR .u8 x.1)),.agg (arC .u8 x.2)],fun _ y=>(.one (.own 1 (intsR .u8 y)),[]),fun x=>Lref01_AppendHash x.1 x.2⟩
theorem i66 : K66.Inj:=by intro a b h; simpa [K66,Prod.ext_iff,and_assoc] using h
theorem G66_eq {a0 a1 y} (h : Lref01_AppendHash a0 a1 = some y) : K66.G (K66.E (a0,a1)) = some (K66.R (a0,a1) y):=i66.eq h
noncomputable abbrev K61 : Con Tapi_OutPoint ((List Int)):=⟨fun x=>[.agg ((arC .u8 x.1)++((.v (.int .u32 x.2)) :: []))],fun _ y=>(.one (.own 1 (intsR .u8 y)),[]),fun x=>Lref09_Point x⟩
theorem i61 : K61.Inj:=by intro a b h; simpa [K61,Prod.ext_iff,and_assoc] using h
theorem G61_eq {a0 y} (h : Lref09_Point a0 = some y) : K61.G (K61.E a0) = some (K61.R a0 y):=i61.eq h
noncomputable abbrev K63 : Con ((List Int)×(List Int)) ((List Int)):=⟨fun x=>[.one (.slice .no (intsR .u8 x.1)),.one (.slice .no (intsR .u8 x.2))],fun _ y=>(.one (.own 1 (intsR .u8 y)),[]),fun x=>Lref01_AppendBytes x.1 x.2⟩
theorem i63 : K63.Inj:=by intro a b h; simpa [K63,Prod.ext_iff,and_assoc] using h
theorem G63_eq {a0 a1 y} (h : Lref01_AppendBytes a0 a1 = some y) : K63.G (K63.E (a0,a1)) = some (K63.R (a0,a1) y):=i63.eq h
noncomputable abbrev K67 : Con ((List Int)×Int) ((List Int)):=⟨fun x=>[.one (.slice .no (intsR .u8 x.1)),.one (.v (.int .u64 x.2))],fun _ y=>(.one (.own 1 (intsR .u8 y)),[]),fun x=>Lref01_AppendU64 x.1 x.2⟩
theorem i67 : K67.Inj:=by intro a b h; simpa [K67,Prod.ext_iff,and_assoc] using h
theorem G67_eq {a0 a1 y} (h : Lref01_AppendU64 a0 a1 = some y) : K67.G (K67.E (a0,a1)) = some (K67.R (a0,a1) y):=i67.eq h
noncomputable abbrev K62 : Con Tapi_Output ((List Int)):=⟨fun x=>[.agg ([.v (.int .i64 x.1),.slice .no (intsR .u8 x.2)])],fun _ y=>(.one (.own 1 (intsR .u8 y)),[]),fun x=>Lref09_Out x⟩
theorem i62 : K62.Inj:=by intro a b h; simpa [K62,Prod.ext_iff,and_assoc] using h
theorem G62_eq {a0 y} (h : Lref09_Out a0 = some y) : K62.G (K62.E a0) = some (K62.R a0 y):=i62.eq h
noncomputable abbrev K52 : Con (Tapi_Tx×Bool) ((List Int)):=⟨fun x=>[.agg ([.v (.int .u32 x.1.1),.slice .no (List.map eapi_Input x.1.2.1),.slice .no (List.map eapi_Output x.1.2.2.1),.v (.int .u32 x.1.2.2.2)]),.one (.v (.bool x.2))],fun _ y=>(.one (.own 1 (intsR .u8 y)),[]),fun x=>Lref09_encode x.1 x.2⟩
theorem i52 : K52.Inj:=by intro a b h; simpa [K52,Prod.ext_iff,and_assoc] using h
theorem G52_eq {a0 a1 y} (h : Lref09_encode a0 a1 = some y) : K52.G (K52.E (a0,a1)) = some (K52.R (a0,a1) y):=i52.eq h
noncomputable abbrev K40 : Con Tapi_Tx Bool:=⟨fun x=>[.agg ([.v (.int .u32 x.1),.slice .no (List.map eapi_Input x.2.1),.slice .no (List.map eapi_Output x.2.2.1),.v (.int .u32 x.2.2.2)])],fun _ y=>(.one (.v (.bool y)),[]),fun x=>Lref09_Fits x⟩
theorem i40 : K40.Inj:=by intro a b h; simpa [K40,Prod.ext_iff,and_assoc] using h
theorem G40_eq {a0 y} (h : Lref09_Fits a0 = some y) : K40.G (K40.E a0) = some (K40.R a0 y):=i40.eq h
noncomputable abbrev K41 : Con Tapi_OutPoint Bool:=⟨fun x=>[.agg ((arC .u8 x.1)++((.v (.int .u32 x.2)) :: []))],fun _ y=>(.one (.v (.bool y)),[]),fun x=>Lref09_Null x⟩
theorem i41 : K41.Inj:=by intro a b h; simpa [K41,Prod.ext_iff,and_assoc] using h
theorem G41_eq {a0 y} (h : Lref09_Null a0 = some y) : K41.G (K41.E a0) = some (K41.R a0 y):=i41.eq h
noncomputable abbrev K42 : Con Tapi_Tx Bool:=⟨fun x=>[.agg ([.v (.int .u32 x.1),.slice .no (List.map eapi_Input x.2.1),.slice .no (List.map eapi_Output x.2.2.1),.v (.int .u32 x.2.2.2)])],fun _ y=>(.one (.v (.bool y)),[]),fun x=>Lref09_Coinbase x⟩
theorem i42 : K42.Inj:=by intro a b h; simpa [K42,Prod.ext_iff,and_assoc] using h
theorem G42_eq {a0 y} (h : Lref09_Coinbase a0 = some y) : K42.G (K42.E a0) = some (K42.R a0 y):=i42.eq h
noncomputable abbrev K29 : Con Tapi_Tx Int:=⟨fun x=>[.agg ([.v (.int .u32 x.1),.slice .no (List.map eapi_Input x.2.1),.slice .no (List.map eapi_Output x.2.2.1),.v (.int .u32 x.2.2.2)])],fun _ y=>(.one (.v (.int .i64 y)),[]),fun x=>Lref09_Check x⟩
theorem i29 : K29.Inj:=by intro a b h; simpa [K29,Prod.ext_iff,and_assoc] using h
theorem G29_eq {a0 y} (h : Lref09_Check a0 = some y) : K29.G (K29.E a0) = some (K29.R a0 y):=i29.eq h
noncomputable abbrev K13 : Con (Tapi_Tx×(List Tapi_Coin)) (Int×Int):=⟨fun x=>[.agg ([.v (.int .u32 x.1.1),.slice .no (List.map eapi_Input x.1.2.1),.slice .no (List.map eapi_Output x.1.2.2.1),.v (.int .u32 x.1.2.2.2)]),.one (.slice .no (List.map eapi_Coin x.2))],fun _ y=>(.tup [.one (.v (.int .i64 y.1)),.one (.v (.int .i64 y.2))],[]),fun x=>Lref10_Fee x.1 x.2⟩
theorem i13 : K13.Inj:=by intro a b h; simpa [K13,Prod.ext_iff,and_assoc] using h
theorem G13_eq {a0 a1 y} (h : Lref10_Fee a0 a1 = some y) : K13.G (K13.E (a0,a1)) = some (K13.R (a0,a1) y):=i13.eq h
def E3 (x : (List Int)×Int×Int×Int) : List PV:=[.one (.slice .no (intsR .i64 x.1)),.one (.v (.int .i64 x.2.1)),.one (.v (.int .i64 x.2.2.1)),.one (.v (.int .u32 x.2.2.2))]
theorem E3i : ∀ a b,E3 a = E3 b→a = b:=by
  rintro ⟨a0,a1,a2,a3⟩ ⟨b0,b1,b2,b3⟩ h
  simpa [E3,and_assoc] using h
def R3 (x : (List Int)×Int×Int×Int) (y : Bool) : PV×List (List Cell):=(.one (.v (.bool y)),[])
noncomputable def G3:=lift E3 fun x=>(Llaw34_BuildBalances x.1 x.2.1 x.2.2.1 x.2.2.2).map (R3 x)
theorem G3_eq {a0 : (List Int)} {a1 : Int} {a2 : Int} {a3 : Int} {y : Bool} (h : Llaw34_BuildBalances a0 a1 a2 a3 = some y) : G3 (E3 (a0,a1,a2,a3)) = some (R3 (a0,a1,a2,a3) y):=lift_som E3i h
end Go.Proofs.Ytjdoijdjeapekaa
