import Derived.Test.YtbjhgolpnjokbaaGreatLcG2
import Derived.Test.YtbjhgolpnjokbaaGreatLcG1
import Derived.Test.YtbjhgolpnjokbaaGreatLcG1
import Derived.Test.YtbjhgolpnjokbaaGreatTt
namespace Go.Proofs.YtbjhgolpnjokbaaGreat
open Go.RowKit
open Go.Av
open Go.Lc
set_option maxRecDepth 100000
set_option linter.unusedSimpArgs false
set_option linter.unusedVariables false
attribute [simp] tt1 tt2 tt3 tt4 tt5 tt6 tt7 tt8 tt9 tt10 tt11 tt12 tt13 tt14 tt15 tt16 tt17 tt18 tt19 tt21 tt22 tt23 tt24 tt25 tt26 tt27 tt28 tt29 tt30 tt31 tt32 tt33 tt34 tt35 tt36 tt37 tt38 tt39 tt41 tt42 tt43 tt44 tt45 tt46 tt47 tt48 tt49 tt51 tt52 tt53 tt54 tt55 tt56 tt58 tt59 tt60 tt61 tt62 tt63 tt64 tt65 tt66 tt67 tt68 tt69 tt70 tt71 tt72 tt73 tt74 tt75 tt76 tt78 tt79 tt80 tt81 tt82 tt83 tt84 tt85 tt86 tt87 tt88 tt89 tt90 tt92 tt93 tt94 tt95 tt96 tt97 tt98 tt99 tt100 tt101 tt102 tt103 tt104 tt105 tt106 tt107 tt108 tt109 tt110 tt112 tt113 tt114 tt115 tt116 tt117 tt118 tt119 tt120 tt121 tt122 tt123 tt124 tt125 tt126 tt127 tt128 tt129 tt130 tt131 tt133 tt135 tt136 tt137 tt138 tt139 tt141 tt142 tt143 tt144 tt145 tt146 tt147 tt149 tt150 tt151 tt153 tt154 tt155 tt156 tt157 tt158 tt159 tt160 tt161 tt162 tt163 tt164 tt165 tt166 tt167 tt168 tt169 tt170 tt171 tt172 tt173 tt174 tt175 tt176 tt177 tt178 ti1 ti2 ti3 ti4 ti5 ti6 ti7 ti8 ti9 ti10 ti11 ti12 ti13 ti14 ti15 ti16 ti17 ti18 ti19 ti21 ti22 ti23 ti24 ti25 ti26 ti27 ti28 ti29 ti30 ti31 ti32 ti33 ti34 ti35 ti36 ti37 ti38 ti39 ti41 ti42 ti43 ti44 ti45 ti46 ti47 ti48 ti49 ti51 ti52 ti53 ti54 ti55 ti56 ti58 ti59 ti60 ti61 ti62 ti63 ti64 ti65 ti66 ti67 ti68 ti69 ti70 ti71 ti72 ti73 ti74 ti75 ti76 ti78 ti79 ti80 ti81 ti82 ti83 ti84 ti85 ti86 ti87 ti88 ti89 ti90 ti92 ti93 ti94 ti95 ti96 ti97 ti98 ti99 ti100 ti101 ti102 ti103 ti104 ti105 ti106 ti107 ti108 ti109 ti110 ti112 ti113 ti114 ti115 ti116 ti117 ti118 ti119 ti120 ti121 ti122 ti123 ti124 ti125 ti126 ti127 ti128 ti129 ti130 ti131 ti133 ti135 ti136 ti137 ti138 ti139 ti141 ti142 ti143 ti144 ti145 ti146 ti147 ti149 ti150 ti151 ti153 ti154 ti155 ti156 ti157 ti158 ti159 ti160 ti161 ti162 ti163 ti164 ti165 ti166 ti167 ti168 ti169 ti170 ti171 ti172 ti173 ti174 ti175 ti176 ti177 ti178
@[simp] theorem Zur {n : Nat} {k : IntKind} {l : List (Arr n)} : l.any ((fun l=>l.any Cell.isSl) ∘ arC k) = false:=by simp [arC,ints]
@[simp↓] theorem Zt5 {k : IntKind} (m : List Int) (n : Nat) : (∀ l,l∈List.drop n (Zl k m)→l.length = 1) = True:=eq_true fun l h=>intsR_all l (List.mem_of_mem_drop h)
@[simp↓] theorem Zt6 {k : IntKind} (m : List Int) (n : Nat) : (∀ l,l∈List.take n (Zl k m)→l.length = 1) = True:=eq_true fun l h=>intsR_all l (List.mem_of_mem_take h)
@[simp↓] theorem Zt7 {k : IntKind} (m : List Int) : (∀ l,l∈(Zl k m).tail→l.length = 1) = True:=eq_true fun l h=>intsR_all l (List.mem_of_mem_tail h)
@[simp↓] theorem ZtI {k : IntKind} (m : List Int) (n : Nat) : (∀ l,l∈List.take n (Zl k m).tail→l.length = 1) = True:=eq_true fun l h=>intsR_all l (List.mem_of_mem_tail (List.mem_of_mem_take h))
@[simp↓] theorem ZtJ {k : IntKind} (m : List Int) (n : Nat) : (∀ l,l∈List.drop n (Zl k m).tail→l.length = 1) = True:=eq_true fun l h=>intsR_all l (List.mem_of_mem_tail (List.mem_of_mem_drop h))
@[simp] theorem arC_z8 : arC .u64 (zA 8) = arC .u64 (zA 4)++arC .u64 (zA 4):=rfl
@[simp] theorem arC_z12 : arC .u64 (zA 12) = arC .u64 (zA 4)++(arC .u64 (zA 4)++arC .u64 (zA 4)):=rfl
@[simp] theorem ZtK {a : Nat} : (1 + a≤a + 1) = True:=eq_true (by omega)
@[simp] theorem ZuL {L : List (List Cell)} {x : List Cell} {i m : Nat} (h : i≤m) (hL : L.length = m) : Zfa (i + (1 + (m - i))) (List.take i L++x :: List.drop i L) = List.take i L++x :: List.drop i L:=by
  unfold Zfa;rw [if_pos];simp
  omega
@[simp] theorem ZuM {L : List (List Cell)} {x : List Cell} {i m : Nat} (hL : L.length = m) : List.take (1 + (m - i)) (x :: List.drop i L) = x :: List.drop i L :=
  List.take_of_length_le (by simp; omega)
@[simp] def Yd (x : (List Int)) : List Cell:=[.slice .no (Zl .u8 x)]
theorem eS_I_u8_inj : ∀ a b,Yd a = Yd b→a = b:=by
  rintro a b h
  simpa [and_assoc] using h
@[simp↓] theorem ZjV (m : List (List Int)) : (∀ l,l∈List.map Yd m→l.length = 1) = True:=Zbc (fun a=>by simp) m
@[simp↓] theorem ZsD (m : List (List Int)) (k : Nat) : (∀ l,l∈List.drop k (List.map Yd m)→l.length = 1) = True:=eq_true fun l h=>of_eq_true (ZjV m) l (List.mem_of_mem_drop h)
@[simp↓] theorem ZsE (m : List (List Int)) (k : Nat) : (∀ l,l∈List.take k (List.map Yd m)→l.length = 1) = True:=eq_true fun l h=>of_eq_true (ZjV m) l (List.mem_of_mem_take h)
@[simp] theorem ZtL {l m : List (List Int)} : List.map Yd l = List.map Yd m↔l = m:=ZeC eS_I_u8_inj
@[simp] def Zm (x : Tapi_Input) : List Cell:=(arC .u8 x.1.1)++((.v (.int .u32 x.1.2)) :: ((.v (.int .u32 x.2.1)) :: ((.slice .no (List.map Yd x.2.2)) :: [])))
theorem eapi_Input_inj : ∀ a b,Zm a = Zm b→a = b:=by
  rintro ⟨⟨a_0_0,a_0_1⟩,a_1,a_2⟩ ⟨⟨b_0_0,b_0_1⟩,b_1,b_2⟩ h
  simpa [and_assoc] using h
@[simp↓] theorem Zhy (m : List Tapi_Input) : (∀ l,l∈List.map Zm m→l.length = 35) = True:=Zbc (fun a=>by simp) m
@[simp↓] theorem Zq6 (m : List Tapi_Input) (k : Nat) : (∀ l,l∈List.drop k (List.map Zm m)→l.length = 35) = True:=eq_true fun l h=>of_eq_true (Zhy m) l (List.mem_of_mem_drop h)
@[simp↓] theorem Zq7 (m : List Tapi_Input) (k : Nat) : (∀ l,l∈List.take k (List.map Zm m)→l.length = 35) = True:=eq_true fun l h=>of_eq_true (Zhy m) l (List.mem_of_mem_take h)
@[simp] theorem ZrV {l m : List Tapi_Input} : List.map Zm l = List.map Zm m↔l = m:=ZeC eapi_Input_inj
@[simp] def Zk (x : Tapi_Output) : List Cell:=[.v (.int .i64 x.1),.slice .no (Zl .u8 x.2)]
theorem eapi_Output_inj : ∀ a b,Zk a = Zk b→a = b:=by
  rintro ⟨a_0,a_1⟩ ⟨b_0,b_1⟩ h
  simpa [and_assoc] using h
@[simp↓] theorem ZgY (m : List Tapi_Output) : (∀ l,l∈List.map Zk m→l.length = 2) = True:=Zbc (fun a=>by simp) m
@[simp↓] theorem ZqS (m : List Tapi_Output) (k : Nat) : (∀ l,l∈List.drop k (List.map Zk m)→l.length = 2) = True:=eq_true fun l h=>of_eq_true (ZgY m) l (List.mem_of_mem_drop h)
@[simp↓] theorem ZqT (m : List Tapi_Output) (k : Nat) : (∀ l,l∈List.take k (List.map Zk m)→l.length = 2) = True:=eq_true fun l h=>of_eq_true (ZgY m) l (List.mem_of_mem_take h)
@[simp] theorem Zq8 {l m : List Tapi_Output} : List.map Zk l = List.map Zk m↔l = m:=ZeC eapi_Output_inj
@[simp] def ZB (x : Tapi_Coin) : List Cell:=(arC .u8 x.1.1)++((.v (.int .u32 x.1.2)) :: ((.v (.int .i64 x.2.1.1)) :: ((.slice .no (Zl .u8 x.2.1.2)) :: ((.v (.int .i64 x.2.2.1)) :: ((.v (.bool x.2.2.2)) :: [])))))
theorem eapi_Coin_inj : ∀ a b,ZB a = ZB b→a = b:=by
  rintro ⟨⟨a_0_0,a_0_1⟩,⟨a_1_0,a_1_1⟩,a_2,a_3⟩ ⟨⟨b_0_0,b_0_1⟩,⟨b_1_0,b_1_1⟩,b_2,b_3⟩ h
  simpa [and_assoc] using h
@[simp↓] theorem Ziw (m : List Tapi_Coin) : (∀ l,l∈List.map ZB m→l.length = 37) = True:=Zbc (fun a=>by simp) m
@[simp↓] theorem ZrW (m : List Tapi_Coin) (k : Nat) : (∀ l,l∈List.drop k (List.map ZB m)→l.length = 37) = True:=eq_true fun l h=>of_eq_true (Ziw m) l (List.mem_of_mem_drop h)
@[simp↓] theorem ZrX (m : List Tapi_Coin) (k : Nat) : (∀ l,l∈List.take k (List.map ZB m)→l.length = 37) = True:=eq_true fun l h=>of_eq_true (Ziw m) l (List.mem_of_mem_take h)
@[simp] theorem Zsj {l m : List Tapi_Coin} : List.map ZB l = List.map ZB m↔l = m:=ZeC eapi_Coin_inj
@[simp] def XS (x : Tapi_Op) : List Cell:=[.v (.int .i64 x.1),.slice .no (Zl .u8 x.2.1),.v (.int .i64 x.2.2.1),.v (.int .i64 x.2.2.2)]
theorem eapi_Op_inj : ∀ a b,XS a = XS b→a = b:=by
  rintro ⟨a_0,a_1,a_2,a_3⟩ ⟨b_0,b_1,b_2,b_3⟩ h
  simpa [and_assoc] using h
@[simp↓] theorem ZjW (m : List Tapi_Op) : (∀ l,l∈List.map XS m→l.length = 4) = True:=Zbc (fun a=>by simp) m
@[simp↓] theorem ZsF (m : List Tapi_Op) (k : Nat) : (∀ l,l∈List.drop k (List.map XS m)→l.length = 4) = True:=eq_true fun l h=>of_eq_true (ZjW m) l (List.mem_of_mem_drop h)
@[simp↓] theorem ZsG (m : List Tapi_Op) (k : Nat) : (∀ l,l∈List.take k (List.map XS m)→l.length = 4) = True:=eq_true fun l h=>of_eq_true (ZjW m) l (List.mem_of_mem_take h)
@[simp] theorem ZtM {l m : List Tapi_Op} : List.map XS l = List.map XS m↔l = m:=ZeC eapi_Op_inj
@[simp] def ZE (x : Tapi_Signed) : List Cell:=(.v (.int .i64 x.1)) :: ((arC .u64 x.2.1)++((arC .u64 x.2.2.1)++(arC .u64 x.2.2.2)))
theorem eapi_Signed_inj : ∀ a b,ZE a = ZE b→a = b:=by
  rintro ⟨a_0,a_1,⟨a_2_0,a_2_1⟩⟩ ⟨b_0,b_1,⟨b_2_0,b_2_1⟩⟩ h
  simpa [and_assoc] using h
@[simp↓] theorem ZgZ (m : List Tapi_Signed) : (∀ l,l∈List.map ZE m→l.length = 13) = True:=Zbc (fun a=>by simp) m
@[simp↓] theorem ZqU (m : List Tapi_Signed) (k : Nat) : (∀ l,l∈List.drop k (List.map ZE m)→l.length = 13) = True:=eq_true fun l h=>of_eq_true (ZgZ m) l (List.mem_of_mem_drop h)
@[simp↓] theorem ZqV (m : List Tapi_Signed) (k : Nat) : (∀ l,l∈List.take k (List.map ZE m)→l.length = 13) = True:=eq_true fun l h=>of_eq_true (ZgZ m) l (List.mem_of_mem_take h)
@[simp] theorem ZqW (m : List Tapi_Signed) : m.any ((fun l=>l.any Cell.isSl) ∘ ZE) = false:=List.any_eq_false.2 fun x _=>by simp
@[simp] theorem Zq9 {l m : List Tapi_Signed} : List.map ZE l = List.map ZE m↔l = m:=ZeC eapi_Signed_inj
@[simp] def YK (x : Tapi_PartialTx) : List Cell:=[.v (.int .u32 x.1.1.1),.slice .no (List.map Zm x.1.1.2.1),.slice .no (List.map Zk x.1.1.2.2.1),.v (.int .u32 x.1.1.2.2.2),.slice .no (List.map ZB x.1.2.1),.v (.int .i64 x.1.2.2.1),.v (.int .i64 x.1.2.2.2),.slice .no (List.map ZE x.2)]
theorem eapi_PartialTx_inj : ∀ a b,YK a = YK b→a = b:=by
  rintro ⟨⟨⟨a_0_0_0,a_0_0_1,a_0_0_2,a_0_0_3⟩,a_0_1,a_0_2,a_0_3⟩,a_1⟩ ⟨⟨⟨b_0_0_0,b_0_0_1,b_0_0_2,b_0_0_3⟩,b_0_1,b_0_2,b_0_3⟩,b_1⟩ h
  simpa [and_assoc] using h
@[simp↓] theorem ZfL (m : List Tapi_PartialTx) : (∀ l,l∈List.map YK m→l.length = 8) = True:=Zbc (fun a=>by simp) m
@[simp↓] theorem ZoI (m : List Tapi_PartialTx) (k : Nat) : (∀ l,l∈List.drop k (List.map YK m)→l.length = 8) = True:=eq_true fun l h=>of_eq_true (ZfL m) l (List.mem_of_mem_drop h)
@[simp↓] theorem ZoJ (m : List Tapi_PartialTx) (k : Nat) : (∀ l,l∈List.take k (List.map YK m)→l.length = 8) = True:=eq_true fun l h=>of_eq_true (ZfL m) l (List.mem_of_mem_take h)
@[simp] theorem ZpE {l m : List Tapi_PartialTx} : List.map YK l = List.map YK m↔l = m:=ZeC eapi_PartialTx_inj
theorem nfs : (∀ x : (List Int),Yd x = [.slice .no (Zl .u8 x)])∧(∀ x : Tapi_Input,Zm x = (arC .u8 x.1.1)++((.v (.int .u32 x.1.2)) :: ((.v (.int .u32 x.2.1)) :: ((.slice .no (List.map Yd x.2.2)) :: []))))∧(∀ x : Tapi_Output,Zk x = [.v (.int .i64 x.1),.slice .no (Zl .u8 x.2)])∧(∀ x : Tapi_Coin,ZB x = (arC .u8 x.1.1)++((.v (.int .u32 x.1.2)) :: ((.v (.int .i64 x.2.1.1)) :: ((.slice .no (Zl .u8 x.2.1.2)) :: ((.v (.int .i64 x.2.2.1)) :: ((.v (.bool x.2.2.2)) :: []))))))∧(∀ x : Tapi_Op,XS x = [.v (.int .i64 x.1),.slice .no (Zl .u8 x.2.1),.v (.int .i64 x.2.2.1),.v (.int .i64 x.2.2.2)])∧(∀ x : Tapi_Signed,ZE x = (.v (.int .i64 x.1)) :: ((arC .u64 x.2.1)++((arC .u64 x.2.2.1)++(arC .u64 x.2.2.2))))∧(∀ x : Tapi_PartialTx,YK x = [.v (.int .u32 x.1.1.1),.slice .no (List.map Zm x.1.1.2.1),.slice .no (List.map Zk x.1.1.2.2.1),.v (.int .u32 x.1.1.2.2.2),.slice .no (List.map ZB x.1.2.1),.v (.int .i64 x.1.2.2.1),.v (.int .i64 x.1.2.2.2),.slice .no (List.map ZE x.2)]):=⟨fun _=>rfl,fun _=>rfl,fun _=>rfl,fun _=>rfl,fun _=>rfl,fun _=>rfl,fun _=>rfl⟩
@[simp] def Za4 (x : Tapi_OutPoint×Bool) : List Cell:=((arC .u8 x.1.1)++((.v (.int .u32 x.1.2)) :: []))++([.v (.bool x.2)])
theorem eM_api_OutPoint_B_he : ∀ a b : Tapi_OutPoint,kEq ((arC .u8 a.1)++((.v (.int .u32 a.2)) :: [])) ((arC .u8 b.1)++((.v (.int .u32 b.2)) :: [])) = decide (a = b):=by
  rintro ⟨a_0,a_1⟩ ⟨b_0,b_1⟩
  rw [Bool.eq_iff_iff];simp [kEq,kEq1]
@[simp] theorem ZnS {k0 : (Arr 32)} {k1 : Int} {l : List (Tapi_OutPoint×Bool)} : Zem 33 ((arC .u8 k0)++((.v (.int .u32 k1)) :: [])) (List.map Za4 l) = Option.map (fun v : Bool=>([.v (.bool v)] : List Cell)) (Zc5 (k0,k1) l):=ZmM (eK:=(fun k : Tapi_OutPoint=>((arC .u8 k.1)++((.v (.int .u32 k.2)) :: []) : List Cell))) (eV:=(fun v : Bool=>([.v (.bool v)] : List Cell))) (fun k=>by simp) eM_api_OutPoint_B_he (k0,k1) l
@[simp] theorem ZnT {k0 : (Arr 32)} {k1 : Int} {v0 : Bool} {l : List (Tapi_OutPoint×Bool)} : Ze8 33 ((arC .u8 k0)++((.v (.int .u32 k1)) :: [])) ([.v (.bool v0)]) (List.map Za4 l) = List.map Za4 (ZfO (k0,k1) v0 l):=ZmN (eK:=(fun k : Tapi_OutPoint=>((arC .u8 k.1)++((.v (.int .u32 k.2)) :: []) : List Cell))) (eV:=(fun v : Bool=>([.v (.bool v)] : List Cell))) (fun k=>by simp) eM_api_OutPoint_B_he (k0,k1) v0 l
@[simp] theorem ZoG (o : Option Bool) : (Option.map (fun v : Bool=>([.v (.bool v)] : List Cell)) o).getD ([.v (.bool false)]) = [.v (.bool (o.getD false))]:=by cases o <;> rfl
@[simp] theorem Zns {k0 : (Arr 32)} {k1 : Int} {v0 : Bool} : Ze8 33 ((arC .u8 k0)++((.v (.int .u32 k1)) :: [])) ([.v (.bool v0)]) [] = List.map Za4 (ZfO (k0,k1) v0 []):=rfl
variable {G : Glob}
def E79 (x : (Arr 4)) : List PV:=[.agg (arC .u64 x)]
theorem E79i : ∀ a b,E79 a = E79 b→a = b:=by
  rintro a0 b0 h
  simpa [E79,and_assoc] using h
def R79 (x : (Arr 4)) (y : (Arr 32)) : PV×List (List Cell):=(.agg (arC .u8 y),[])
noncomputable def G79:=ZL E79 fun x=>(ZaC x).map (R79 x)
theorem ZsH {a0 : (Arr 4)} {y : (Arr 32)} (h : ZaC a0 = some y) : G79 (E79 a0) = some (R79 a0 y):=Zo E79i h
def E42 (x : (Arr 4)) : List PV:=[.agg (arC .u64 x)]
theorem E42i : ∀ a b,E42 a = E42 b→a = b:=by
  rintro a0 b0 h
  simpa [E42,and_assoc] using h
def R42 (x : (Arr 4)) (y : (List Int)) : PV×List (List Cell):=(.one (.slice .no (Zl .u8 y)),[])
noncomputable def G42:=ZL E42 fun x=>(Za9 x).map (R42 x)
theorem ZpF {a0 : (Arr 4)} {y : (List Int)} (h : Za9 a0 = some y) : G42 (E42 a0) = some (R42 a0 y):=Zo E42i h
def E80 (x : Tapi_Op) : List PV:=[.agg ([.v (.int .i64 x.1),.slice .no (Zl .u8 x.2.1),.v (.int .i64 x.2.2.1),.v (.int .i64 x.2.2.2)])]
theorem E80i : ∀ a b,E80 a = E80 b→a = b:=by
  rintro ⟨a0_0,a0_1,a0_2,a0_3⟩ ⟨b0_0,b0_1,b0_2,b0_3⟩ h
  simpa [E80,and_assoc] using h
def R80 (x : Tapi_Op) (y : Int) : PV×List (List Cell):=(.one (.v (.int .i64 y)),[])
noncomputable def G80:=ZL E80 fun x=>(ZaD x).map (R80 x)
theorem ZsI {a0 : Tapi_Op} {y : Int} (h : ZaD a0 = some y) : G80 (E80 a0) = some (R80 a0 y):=Zo E80i h
def E84 (x : (List Int)×(List Int)) : List PV:=[.one (.slice .no (Zl .u8 x.1)),.one (.slice .no (Zl .u8 x.2))]
theorem E84i : ∀ a b,E84 a = E84 b→a = b:=by
  rintro ⟨a0,a1⟩ ⟨b0,b1⟩ h
  simpa [E84,and_assoc] using h
def R84 (x : (List Int)×(List Int)) (y : (List Int)) : PV×List (List Cell):=(.one (.own 1 (Zl .u8 y)),[])
noncomputable def G84:=ZL E84 fun x=>(Z9 x.1 x.2).map (R84 x)
theorem ZcU {a0 : (List Int)} {a1 : (List Int)} {y : (List Int)} (h : Z9 a0 a1 = some y) : G84 (E84 (a0,a1)) = some (R84 (a0,a1) y):=Zo E84i h
def E47 (x : (List (List Int))) : List PV:=[.one (.slice .no (List.map Yd x))]
theorem E47i : ∀ a b,E47 a = E47 b→a = b:=by
  rintro a0 b0 h
  simpa [E47,and_assoc] using h
def R47 (x : (List (List Int))) (y : (List Int)) : PV×List (List Cell):=(.one (.own 1 (Zl .u8 y)),[])
noncomputable def G47:=ZL E47 fun x=>(XC x).map (R47 x)
theorem ZkV {a0 : (List (List Int))} {y : (List Int)} (h : XC a0 = some y) : G47 (E47 a0) = some (R47 a0 y):=Zo E47i h
def E81 (x : Tapi_Op) : List PV:=[.agg ([.v (.int .i64 x.1),.slice .no (Zl .u8 x.2.1),.v (.int .i64 x.2.2.1),.v (.int .i64 x.2.2.2)])]
theorem E81i : ∀ a b,E81 a = E81 b→a = b:=by
  rintro ⟨a0_0,a0_1,a0_2,a0_3⟩ ⟨b0_0,b0_1,b0_2,b0_3⟩ h
  simpa [E81,and_assoc] using h
def R81 (x : Tapi_Op) (y : (List Int)) : PV×List (List Cell):=(.one (.own 1 (Zl .u8 y)),[])
noncomputable def G81:=ZL E81 fun x=>(XF x).map (R81 x)
theorem ZpG {a0 : Tapi_Op} {y : (List Int)} (h : XF a0 = some y) : G81 (E81 a0) = some (R81 a0 y):=Zo E81i h
def E43 (x : (List Tapi_Op)) : List PV:=[.one (.slice .no (List.map XS x))]
theorem E43i : ∀ a b,E43 a = E43 b→a = b:=by
  rintro a0 b0 h
  simpa [E43,and_assoc] using h
def R43 (x : (List Tapi_Op)) (y : (List Int)×Int) : PV×List (List Cell):=(.tup [.one (.slice .no (Zl .u8 y.1)),.one (.v (.int .i64 y.2))],[])
noncomputable def G43:=ZL E43 fun x=>(Xx x).map (R43 x)
theorem ZsJ {a0 : (List Tapi_Op)} {y : (List Int)×Int} (h : Xx a0 = some y) : G43 (E43 a0) = some (R43 a0 y):=Zo E43i h
def E17 (x : Int×(List (Arr 4))) : List PV:=[.one (.v (.int .i64 x.1)),.one (.slice .no (List.map (arC .u64) x.2))]
theorem E17i : ∀ a b,E17 a = E17 b→a = b:=by
  rintro ⟨a0,a1⟩ ⟨b0,b1⟩ h
  simpa [E17,and_assoc] using h
def R17 (x : Int×(List (Arr 4))) (y : (List Int)×Int) : PV×List (List Cell):=(.tup [.one (.slice .no (Zl .u8 y.1)),.one (.v (.int .i64 y.2))],[])
noncomputable def G17:=ZL E17 fun x=>(XD x.1 x.2).map (R17 x)
theorem ZpH {a0 : Int} {a1 : (List (Arr 4))} {y : (List Int)×Int} (h : XD a0 a1 = some y) : G17 (E17 (a0,a1)) = some (R17 (a0,a1) y):=Zo E17i h
def E38 (x : Int) : List PV:=[.one (.v (.int .u64 x))]
theorem E38i : ∀ a b,E38 a = E38 b→a = b:=by
  rintro a0 b0 h
  simpa [E38,and_assoc] using h
def R38 (x : Int) (y : (Arr 4)) : PV×List (List Cell):=(.agg (arC .u64 y),[])
noncomputable def G38:=ZL E38 fun x=>(Yx x).map (R38 x)
theorem Zji {a0 : Int} {y : (Arr 4)} (h : Yx a0 = some y) : G38 (E38 a0) = some (R38 a0 y):=Zo E38i h
def E18 (x : Int) : List PV:=[.one (.v (.int .u64 x))]
theorem E18i : ∀ a b,E18 a = E18 b→a = b:=by
  rintro a0 b0 h
  simpa [E18,and_assoc] using h
def R18 (x : Int) (y : (Arr 4)) : PV×List (List Cell):=(.agg (arC .u64 y),[])
noncomputable def G18:=ZL E18 fun x=>(YH x).map (R18 x)
theorem Zd4 {a0 : Int} {y : (Arr 4)} (h : YH a0 = some y) : G18 (E18 a0) = some (R18 a0 y):=Zo E18i h
def Zh9 (x : Int) : List PV:=[.one (.v (.int .i64 x))]
theorem E100i : ∀ a b,Zh9 a = Zh9 b→a = b:=by
  rintro a0 b0 h
  simpa [Zh9,and_assoc] using h
def Zlg (x : Int) (y : Bool) : PV×List (List Cell):=(.one (.v (.bool y)),[])
noncomputable def G100:=ZL Zh9 fun x=>(Zag x).map (Zlg x)
theorem ZrY {a0 : Int} {y : Bool} (h : Zag a0 = some y) : G100 (Zh9 a0) = some (Zlg a0 y):=Zo E100i h
def Zia (x : (List (List Int))) : List PV:=[.one (.slice .no (List.map Yd x))]
theorem E101i : ∀ a b,Zia a = Zia b→a = b:=by
  rintro a0 b0 h
  simpa [Zia,and_assoc] using h
def Zlh (x : (List (List Int))) (y : (List Int)) : PV×List (List Cell):=(.one (.own 1 (Zl .u8 y)),[])
noncomputable def G101:=ZL Zia fun x=>(Zbf x).map (Zlh x)
theorem ZrZ {a0 : (List (List Int))} {y : (List Int)} (h : Zbf a0 = some y) : G101 (Zia a0) = some (Zlh a0 y):=Zo E101i h
def Zib (x : Int×Int) : List PV:=[.one (.v (.int .i64 x.1)),.one (.v (.int .i64 x.2))]
theorem E102i : ∀ a b,Zib a = Zib b→a = b:=by
  rintro ⟨a0,a1⟩ ⟨b0,b1⟩ h
  simpa [Zib,and_assoc] using h
def Zli (x : Int×Int) (y : Bool) : PV×List (List Cell):=(.one (.v (.bool y)),[])
noncomputable def G102:=ZL Zib fun x=>(Xy x.1 x.2).map (Zli x)
theorem Zr0 {a0 : Int} {a1 : Int} {y : Bool} (h : Xy a0 a1 = some y) : G102 (Zib (a0,a1)) = some (Zli (a0,a1) y):=Zo E102i h
def E82 (x : (List Int)) : List PV:=[.one (.slice .no (Zl .u8 x))]
theorem E82i : ∀ a b,E82 a = E82 b→a = b:=by
  rintro a0 b0 h
  simpa [E82,and_assoc] using h
def R82 (x : (List Int)) (y : Tapi_Op×(List Int)×Int) : PV×List (List Cell):=(.tup [.agg ([.v (.int .i64 y.1.1),.slice .no (Zl .u8 y.1.2.1),.v (.int .i64 y.1.2.2.1),.v (.int .i64 y.1.2.2.2)]),.one (.slice .no (Zl .u8 y.2.1)),.one (.v (.int .i64 y.2.2))],[])
noncomputable def G82:=ZL E82 fun x=>(ZaE x).map (R82 x)
theorem ZsK {a0 : (List Int)} {y : Tapi_Op×(List Int)×Int} (h : ZaE a0 = some y) : G82 (E82 a0) = some (R82 a0 y):=Zo E82i h
def E44 (x : (List Int)) : List PV:=[.one (.slice .no (Zl .u8 x))]
theorem E44i : ∀ a b,E44 a = E44 b→a = b:=by
  rintro a0 b0 h
  simpa [E44,and_assoc] using h
def R44 (x : (List Int)) (y : (List Tapi_Op)×Int) : PV×List (List Cell):=(.tup [.one (.slice .no (List.map XS y.1)),.one (.v (.int .i64 y.2))],[])
noncomputable def G44:=ZL E44 fun x=>(XG x).map (R44 x)
theorem ZpI {a0 : (List Int)} {y : (List Tapi_Op)×Int} (h : XG a0 = some y) : G44 (E44 a0) = some (R44 a0 y):=Zo E44i h
def E83 (x : (List Int)) : List PV:=[.one (.slice .no (Zl .u8 x))]
theorem E83i : ∀ a b,E83 a = E83 b→a = b:=by
  rintro a0 b0 h
  simpa [E83,and_assoc] using h
def R83 (x : (List Int)) (y : Int×Int) : PV×List (List Cell):=(.tup [.one (.v (.int .u32 y.1)),.one (.v (.int .i64 y.2))],[])
noncomputable def G83:=ZL E83 fun x=>(XO x).map (R83 x)
theorem ZsL {a0 : (List Int)} {y : Int×Int} (h : XO a0 = some y) : G83 (E83 a0) = some (R83 a0 y):=Zo E83i h
def E45 (x : (List Int)) : List PV:=[.one (.slice .no (Zl .u8 x))]
theorem E45i : ∀ a b,E45 a = E45 b→a = b:=by
  rintro a0 b0 h
  simpa [E45,and_assoc] using h
def R45 (x : (List Int)) (y : Int) : PV×List (List Cell):=(.one (.v (.int .i64 y)),[])
noncomputable def G45:=ZL E45 fun x=>(YP x).map (R45 x)
theorem ZpJ {a0 : (List Int)} {y : Int} (h : YP a0 = some y) : G45 (E45 a0) = some (R45 a0 y):=Zo E45i h
def E46 (x : (Arr 32)) : List PV:=[.agg (arC .u8 x)]
theorem E46i : ∀ a b,E46 a = E46 b→a = b:=by
  rintro a0 b0 h
  simpa [E46,and_assoc] using h
def R46 (x : (Arr 32)) (y : (Arr 4)) : PV×List (List Cell):=(.agg (arC .u64 y),[])
noncomputable def G46:=ZL E46 fun x=>(Yy x).map (R46 x)
theorem Zm7 {a0 : (Arr 32)} {y : (Arr 4)} (h : Yy a0 = some y) : G46 (E46 a0) = some (R46 a0 y):=Zo E46i h
def E19 (x : (List Int)) : List PV:=[.one (.slice .no (Zl .u8 x))]
theorem E19i : ∀ a b,E19 a = E19 b→a = b:=by
  rintro a0 b0 h
  simpa [E19,and_assoc] using h
def R19 (x : (List Int)) (y : (List (Arr 4))×Int×Bool) : PV×List (List Cell):=(.tup [.one (.slice .no (List.map (arC .u64) y.1)),.one (.v (.int .i64 y.2.1)),.one (.v (.bool y.2.2))],[])
noncomputable def G19:=ZL E19 fun x=>(XH x).map (R19 x)
theorem ZpK {a0 : (List Int)} {y : (List (Arr 4))×Int×Bool} (h : XH a0 = some y) : G19 (E19 a0) = some (R19 a0 y):=Zo E19i h
def E20 (x : (List Int)×(List Int)) : List PV:=[.one (.slice .no (Zl .u8 x.1)),.one (.slice .no (Zl .u8 x.2))]
theorem E20i : ∀ a b,E20 a = E20 b→a = b:=by
  rintro ⟨a0,a1⟩ ⟨b0,b1⟩ h
  simpa [E20,and_assoc] using h
def R20 (x : (List Int)×(List Int)) (y : (List Int)) : PV×List (List Cell):=(.one (.own 1 (Zl .u8 y)),[])
noncomputable def G20:=ZL E20 fun x=>(Zah x.1 x.2).map (R20 x)
theorem ZsM {a0 : (List Int)} {a1 : (List Int)} {y : (List Int)} (h : Zah a0 a1 = some y) : G20 (E20 (a0,a1)) = some (R20 (a0,a1) y):=Zo E20i h
def E5 (x : Unit) : List PV:=[]
theorem E5i : ∀ a b,E5 a = E5 b→a = b:=fun _ _ _=>rfl
def R5 (x : Unit) (y : Bool) : PV×List (List Cell):=(.one (.v (.bool y)),[])
noncomputable def G5:=ZL E5 fun x=>(Llaw35_sane).map (R5 x)
theorem Zt8 {y : Bool} (h : Llaw35_sane  = some y) : G5 (E5 ()) = some (R5 () y):=Zo E5i h
def E26 (x : Int×Int) : List PV:=[.one (.v (.int .i64 x.1)),.one (.v (.int .i64 x.2))]
theorem E26i : ∀ a b,E26 a = E26 b→a = b:=by
  rintro ⟨a0,a1⟩ ⟨b0,b1⟩ h
  simpa [E26,and_assoc] using h
def R26 (x : Int×Int) (y : Int) : PV×List (List Cell):=(.one (.v (.int .i64 y)),[])
noncomputable def G26:=ZL E26 fun x=>(XN x.1 x.2).map (R26 x)
theorem Zhz {a0 : Int} {a1 : Int} {y : Int} (h : XN a0 a1 = some y) : G26 (E26 (a0,a1)) = some (R26 (a0,a1) y):=Zo E26i h
def E50 (x : Tlightclientmill_Deck) : List PV:=[.io ([.slice .no (Zl .i64 x.1),.v (.int .i64 x.2)])]
theorem E50i : ∀ a b,E50 a = E50 b→a = b:=by
  rintro ⟨a0_0,a0_1⟩ ⟨b0_0,b0_1⟩ h
  simpa [E50,and_assoc] using h
def R50 (x : Tlightclientmill_Deck) (y : Bool×Tlightclientmill_Deck) : PV×List (List Cell):=(.one (.v (.bool y.1)),[[.slice .no (Zl .i64 y.2.1),.v (.int .i64 y.2.2)]])
noncomputable def G50:=ZL E50 fun x=>(XX x).map (R50 x)
theorem ZsN {a0 : Tlightclientmill_Deck} {y : Bool×Tlightclientmill_Deck} (h : XX a0 = some y) : G50 (E50 a0) = some (R50 a0 y):=Zo E50i h
def E25 (x : Tlightclientmill_Deck×Int) : List PV:=[.io ([.slice .no (Zl .i64 x.1.1),.v (.int .i64 x.1.2)]),.one (.v (.int .i64 x.2))]
theorem E25i : ∀ a b,E25 a = E25 b→a = b:=by
  rintro ⟨⟨a0_0,a0_1⟩,a1⟩ ⟨⟨b0_0,b0_1⟩,b1⟩ h
  simpa [E25,and_assoc] using h
def R25 (x : Tlightclientmill_Deck×Int) (y : Int×Tlightclientmill_Deck) : PV×List (List Cell):=(.one (.v (.int .i64 y.1)),[[.slice .no (Zl .i64 y.2.1),.v (.int .i64 y.2.2)]])
noncomputable def G25:=ZL E25 fun x=>(Yh x.1 x.2).map (R25 x)
theorem Ze4 {a0 : Tlightclientmill_Deck} {a1 : Int} {y : Int×Tlightclientmill_Deck} (h : Yh a0 a1 = some y) : G25 (E25 (a0,a1)) = some (R25 (a0,a1) y):=Zo E25i h
def E14 (x : Tlightclientmill_Deck×Tapi_Plan) : List PV:=[.io ([.slice .no (Zl .i64 x.1.1),.v (.int .i64 x.1.2)]),.agg ([.v (.int .u32 x.2.1.1),.slice .no (List.map Zm x.2.1.2.1),.slice .no (List.map Zk x.2.1.2.2.1),.v (.int .u32 x.2.1.2.2.2),.slice .no (List.map ZB x.2.2.1),.v (.int .i64 x.2.2.2.1),.v (.int .i64 x.2.2.2.2)])]
theorem E14i : ∀ a b,E14 a = E14 b→a = b:=by
  rintro ⟨⟨a0_0,a0_1⟩,⟨⟨a1_0_0,a1_0_1,a1_0_2,a1_0_3⟩,a1_1,a1_2,a1_3⟩⟩ ⟨⟨b0_0,b0_1⟩,⟨⟨b1_0_0,b1_0_1,b1_0_2,b1_0_3⟩,b1_1,b1_2,b1_3⟩⟩ h
  simpa [E14,and_assoc] using h
def R14 (x : Tlightclientmill_Deck×Tapi_Plan) (y : (List Tapi_Signed)×Tlightclientmill_Deck) : PV×List (List Cell):=(.one (.own 13 (List.map ZE y.1)),[[.slice .no (Zl .i64 y.2.1),.v (.int .i64 y.2.2)]])
noncomputable def G14:=ZL E14 fun x=>(X3 x.1 x.2).map (R14 x)
theorem ZpL {a0 : Tlightclientmill_Deck} {a1 : Tapi_Plan} {y : (List Tapi_Signed)×Tlightclientmill_Deck} (h : X3 a0 a1 = some y) : G14 (E14 (a0,a1)) = some (R14 (a0,a1) y):=Zo E14i h
def E48 (x : (List Int)) : List PV:=[.one (.slice .no (Zl .u8 x))]
theorem E48i : ∀ a b,E48 a = E48 b→a = b:=by
  rintro a0 b0 h
  simpa [E48,and_assoc] using h
def R48 (x : (List Int)) (y : (List Int)) : PV×List (List Cell):=(.one (.own 1 (Zl .u8 y)),[])
noncomputable def G48:=ZL E48 fun x=>(Zau x).map (R48 x)
theorem ZpM {a0 : (List Int)} {y : (List Int)} (h : Zau a0 = some y) : G48 (E48 a0) = some (R48 a0 y):=Zo E48i h
def E21 (x : (Arr 4)) : List PV:=[.agg (arC .u64 x)]
theorem E21i : ∀ a b,E21 a = E21 b→a = b:=by
  rintro a0 b0 h
  simpa [E21,and_assoc] using h
def R21 (x : (Arr 4)) (y : (List Int)) : PV×List (List Cell):=(.one (.own 1 (Zl .u8 y)),[])
noncomputable def G21:=ZL E21 fun x=>(XI x).map (R21 x)
theorem ZsO {a0 : (Arr 4)} {y : (List Int)} (h : XI a0 = some y) : G21 (E21 a0) = some (R21 a0 y):=Zo E21i h
def E49 (x : Int) : List PV:=[.one (.v (.int .u32 x))]
theorem E49i : ∀ a b,E49 a = E49 b→a = b:=by
  rintro a0 b0 h
  simpa [E49,and_assoc] using h
def R49 (x : Int) (y : (List Int)) : PV×List (List Cell):=(.one (.own 1 (Zl .u8 y)),[])
noncomputable def G49:=ZL E49 fun x=>(Zbg x).map (R49 x)
theorem ZsP {a0 : Int} {y : (List Int)} (h : Zbg a0 = some y) : G49 (E49 a0) = some (R49 a0 y):=Zo E49i h
def E22 (x : Int×(List Int)) : List PV:=[.one (.v (.int .u32 x.1)),.one (.slice .no (Zl .u8 x.2))]
theorem E22i : ∀ a b,E22 a = E22 b→a = b:=by
  rintro ⟨a0,a1⟩ ⟨b0,b1⟩ h
  simpa [E22,and_assoc] using h
def R22 (x : Int×(List Int)) (y : (List Int)) : PV×List (List Cell):=(.one (.own 1 (Zl .u8 y)),[])
noncomputable def G22:=ZL E22 fun x=>(X4 x.1 x.2).map (R22 x)
theorem ZsQ {a0 : Int} {a1 : (List Int)} {y : (List Int)} (h : X4 a0 a1 = some y) : G22 (E22 (a0,a1)) = some (R22 (a0,a1) y):=Zo E22i h
def E23 (x : Int) : List PV:=[.one (.v (.int .u8 x))]
theorem E23i : ∀ a b,E23 a = E23 b→a = b:=by
  rintro a0 b0 h
  simpa [E23,and_assoc] using h
def R23 (x : Int) (y : (List Int)) : PV×List (List Cell):=(.one (.own 1 (Zl .u8 y)),[])
noncomputable def G23:=ZL E23 fun x=>(XW x).map (R23 x)
theorem Zm8 {a0 : Int} {y : (List Int)} (h : XW a0 = some y) : G23 (E23 a0) = some (R23 a0 y):=Zo E23i h
def E24 (x : Tlightclientmill_Deck×(List (List Int))) : List PV:=[.io ([.slice .no (Zl .i64 x.1.1),.v (.int .i64 x.1.2)]),.one (.slice .no (List.map Yd x.2))]
theorem E24i : ∀ a b,E24 a = E24 b→a = b:=by
  rintro ⟨⟨a0_0,a0_1⟩,a1⟩ ⟨⟨b0_0,b0_1⟩,b1⟩ h
  simpa [E24,and_assoc] using h
def R24 (x : Tlightclientmill_Deck×(List (List Int))) (y : Tapi_Plan×Tlightclientmill_Deck) : PV×List (List Cell):=(.agg ([.v (.int .u32 y.1.1.1),.own 35 (List.map Zm y.1.1.2.1),.own 2 (List.map Zk y.1.1.2.2.1),.v (.int .u32 y.1.1.2.2.2),.own 37 (List.map ZB y.1.2.1),.v (.int .i64 y.1.2.2.1),.v (.int .i64 y.1.2.2.2)]),[[.slice .no (Zl .i64 y.2.1),.v (.int .i64 y.2.2)]])
noncomputable def G24:=ZL E24 fun x=>(ZbQ x.1 x.2).map (R24 x)
theorem ZsR {a0 : Tlightclientmill_Deck} {a1 : (List (List Int))} {y : Tapi_Plan×Tlightclientmill_Deck} (h : ZbQ a0 a1 = some y) : G24 (E24 (a0,a1)) = some (R24 (a0,a1) y):=Zo E24i h
def E6 (x : Tlightclientmill_Deck) : List PV:=[.io ([.slice .no (Zl .i64 x.1),.v (.int .i64 x.2)])]
theorem E6i : ∀ a b,E6 a = E6 b→a = b:=by
  rintro ⟨a0_0,a0_1⟩ ⟨b0_0,b0_1⟩ h
  simpa [E6,and_assoc] using h
def R6 (x : Tlightclientmill_Deck) (y : Tapi_PartialTx×Tlightclientmill_Deck) : PV×List (List Cell):=(.agg ([.v (.int .u32 y.1.1.1.1),.slice .no (List.map Zm y.1.1.1.2.1),.slice .no (List.map Zk y.1.1.1.2.2.1),.v (.int .u32 y.1.1.1.2.2.2),.slice .no (List.map ZB y.1.1.2.1),.v (.int .i64 y.1.1.2.2.1),.v (.int .i64 y.1.1.2.2.2),.slice .no (List.map ZE y.1.2)]),[[.slice .no (Zl .i64 y.2.1),.v (.int .i64 y.2.2)]])
noncomputable def G6:=ZL E6 fun x=>(Zbh x).map (R6 x)
theorem Zt9 {a0 : Tlightclientmill_Deck} {y : Tapi_PartialTx×Tlightclientmill_Deck} (h : Zbh a0 = some y) : G6 (E6 a0) = some (R6 a0 y):=Zo E6i h
def E7 (x : (List Int)) : List PV:=[.one (.slice .no (Zl .i64 x))]
theorem E7i : ∀ a b,E7 a = E7 b→a = b:=by
  rintro a0 b0 h
  simpa [E7,and_assoc] using h
def R7 (x : (List Int)) (y : Tlightclientmill_Deck) : PV×List (List Cell):=(.io ([.slice .no (Zl .i64 y.1),.v (.int .i64 y.2)]),[])
noncomputable def G7:=ZL E7 fun x=>(Zcp x).map (R7 x)
theorem Zra {a0 : (List Int)} {y : Tlightclientmill_Deck} (h : Zcp a0 = some y) : G7 (E7 a0) = some (R7 a0 y):=Zo E7i h
def E27 (x : (Arr 4)) : List PV:=[.agg (arC .u64 x)]
theorem E27i : ∀ a b,E27 a = E27 b→a = b:=by
  rintro a0 b0 h
  simpa [E27,and_assoc] using h
def R27 (x : (Arr 4)) (y : (Arr 4)) : PV×List (List Cell):=(.agg (arC .u64 y),[])
noncomputable def G27:=ZL E27 fun x=>(ZcK x).map (R27 x)
theorem ZsS {a0 : (Arr 4)} {y : (Arr 4)} (h : ZcK a0 = some y) : G27 (E27 a0) = some (R27 a0 y):=Zo E27i h
def E8 (x : Tapi_PartialTx×Int×Int) : List PV:=[.agg ([.v (.int .u32 x.1.1.1.1),.slice .no (List.map Zm x.1.1.1.2.1),.slice .no (List.map Zk x.1.1.1.2.2.1),.v (.int .u32 x.1.1.1.2.2.2),.slice .no (List.map ZB x.1.1.2.1),.v (.int .i64 x.1.1.2.2.1),.v (.int .i64 x.1.1.2.2.2),.slice .no (List.map ZE x.1.2)]),.one (.v (.int .i64 x.2.1)),.one (.v (.int .i64 x.2.2))]
theorem E8i : ∀ a b,E8 a = E8 b→a = b:=by
  rintro ⟨⟨⟨⟨a0_0_0_0,a0_0_0_1,a0_0_0_2,a0_0_0_3⟩,a0_0_1,a0_0_2,a0_0_3⟩,a0_1⟩,a1,a2⟩ ⟨⟨⟨⟨b0_0_0_0,b0_0_0_1,b0_0_0_2,b0_0_0_3⟩,b0_0_1,b0_0_2,b0_0_3⟩,b0_1⟩,b1,b2⟩ h
  simpa [E8,and_assoc] using h
def R8 (x : Tapi_PartialTx×Int×Int) (y : Tapi_PartialTx) : PV×List (List Cell):=(.agg ([.v (.int .u32 y.1.1.1),.slice .no (List.map Zm y.1.1.2.1),.slice .no (List.map Zk y.1.1.2.2.1),.v (.int .u32 y.1.1.2.2.2),.slice .no (List.map ZB y.1.2.1),.v (.int .i64 y.1.2.2.1),.v (.int .i64 y.1.2.2.2),.own 13 (List.map ZE y.2)]),[])
noncomputable def G8:=ZL E8 fun x=>(X8 x.1 x.2.1 x.2.2).map (R8 x)
theorem Zrb {a0 : Tapi_PartialTx} {a1 : Int} {a2 : Int} {y : Tapi_PartialTx} (h : X8 a0 a1 a2 = some y) : G8 (E8 (a0,a1,a2)) = some (R8 (a0,a1,a2) y):=Zo E8i h
def E98 (x : (List Int)×(List Int)) : List PV:=[.one (.slice .no (Zl .u8 x.1)),.one (.slice .no (Zl .u8 x.2))]
theorem E98i : ∀ a b,E98 a = E98 b→a = b:=by
  rintro ⟨a0,a1⟩ ⟨b0,b1⟩ h
  simpa [E98,and_assoc] using h
def R98 (x : (List Int)×(List Int)) (y : Bool) : PV×List (List Cell):=(.one (.v (.bool y)),[])
noncomputable def G98:=ZL E98 fun x=>(Zbe x.1 x.2).map (R98 x)
theorem ZpN {a0 : (List Int)} {a1 : (List Int)} {y : Bool} (h : Zbe a0 a1 = some y) : G98 (E98 (a0,a1)) = some (R98 (a0,a1) y):=Zo E98i h
def E99 (x : Tapi_Output×Tapi_Output) : List PV:=[.agg ([.v (.int .i64 x.1.1),.slice .no (Zl .u8 x.1.2)]),.agg ([.v (.int .i64 x.2.1),.slice .no (Zl .u8 x.2.2)])]
theorem E99i : ∀ a b,E99 a = E99 b→a = b:=by
  rintro ⟨⟨a0_0,a0_1⟩,⟨a1_0,a1_1⟩⟩ ⟨⟨b0_0,b0_1⟩,⟨b1_0,b1_1⟩⟩ h
  simpa [E99,and_assoc] using h
def R99 (x : Tapi_Output×Tapi_Output) (y : Bool) : PV×List (List Cell):=(.one (.v (.bool y)),[])
noncomputable def G99:=ZL E99 fun x=>(Xt x.1 x.2).map (R99 x)
theorem ZpO {a0 : Tapi_Output} {a1 : Tapi_Output} {y : Bool} (h : Xt a0 a1 = some y) : G99 (E99 (a0,a1)) = some (R99 (a0,a1) y):=Zo E99i h
def E69 (x : Tapi_Tx×Tapi_Tx) : List PV:=[.agg ([.v (.int .u32 x.1.1),.slice .no (List.map Zm x.1.2.1),.slice .no (List.map Zk x.1.2.2.1),.v (.int .u32 x.1.2.2.2)]),.agg ([.v (.int .u32 x.2.1),.slice .no (List.map Zm x.2.2.1),.slice .no (List.map Zk x.2.2.2.1),.v (.int .u32 x.2.2.2.2)])]
theorem E69i : ∀ a b,E69 a = E69 b→a = b:=by
  rintro ⟨⟨a0_0,a0_1,a0_2,a0_3⟩,⟨a1_0,a1_1,a1_2,a1_3⟩⟩ ⟨⟨b0_0,b0_1,b0_2,b0_3⟩,⟨b1_0,b1_1,b1_2,b1_3⟩⟩ h
  simpa [E69,and_assoc] using h
def R69 (x : Tapi_Tx×Tapi_Tx) (y : Bool) : PV×List (List Cell):=(.one (.v (.bool y)),[])
noncomputable def G69:=ZL E69 fun x=>(Zai x.1 x.2).map (R69 x)
theorem ZsT {a0 : Tapi_Tx} {a1 : Tapi_Tx} {y : Bool} (h : Zai a0 a1 = some y) : G69 (E69 (a0,a1)) = some (R69 (a0,a1) y):=Zo E69i h
def E70 (x : Tapi_Coin×Tapi_Coin) : List PV:=[.agg ((arC .u8 x.1.1.1)++((.v (.int .u32 x.1.1.2)) :: ((.v (.int .i64 x.1.2.1.1)) :: ((.slice .no (Zl .u8 x.1.2.1.2)) :: ((.v (.int .i64 x.1.2.2.1)) :: ((.v (.bool x.1.2.2.2)) :: [])))))),.agg ((arC .u8 x.2.1.1)++((.v (.int .u32 x.2.1.2)) :: ((.v (.int .i64 x.2.2.1.1)) :: ((.slice .no (Zl .u8 x.2.2.1.2)) :: ((.v (.int .i64 x.2.2.2.1)) :: ((.v (.bool x.2.2.2.2)) :: []))))))]
theorem E70i : ∀ a b,E70 a = E70 b→a = b:=by
  rintro ⟨⟨⟨a0_0_0,a0_0_1⟩,⟨a0_1_0,a0_1_1⟩,a0_2,a0_3⟩,⟨⟨a1_0_0,a1_0_1⟩,⟨a1_1_0,a1_1_1⟩,a1_2,a1_3⟩⟩ ⟨⟨⟨b0_0_0,b0_0_1⟩,⟨b0_1_0,b0_1_1⟩,b0_2,b0_3⟩,⟨⟨b1_0_0,b1_0_1⟩,⟨b1_1_0,b1_1_1⟩,b1_2,b1_3⟩⟩ h
  simpa [E70,and_assoc] using h
def R70 (x : Tapi_Coin×Tapi_Coin) (y : Bool) : PV×List (List Cell):=(.one (.v (.bool y)),[])
noncomputable def G70:=ZL E70 fun x=>(X7 x.1 x.2).map (R70 x)
theorem ZsU {a0 : Tapi_Coin} {a1 : Tapi_Coin} {y : Bool} (h : X7 a0 a1 = some y) : G70 (E70 (a0,a1)) = some (R70 (a0,a1) y):=Zo E70i h
def E37 (x : Tapi_Plan×Tapi_Plan) : List PV:=[.agg ([.v (.int .u32 x.1.1.1),.slice .no (List.map Zm x.1.1.2.1),.slice .no (List.map Zk x.1.1.2.2.1),.v (.int .u32 x.1.1.2.2.2),.slice .no (List.map ZB x.1.2.1),.v (.int .i64 x.1.2.2.1),.v (.int .i64 x.1.2.2.2)]),.agg ([.v (.int .u32 x.2.1.1),.slice .no (List.map Zm x.2.1.2.1),.slice .no (List.map Zk x.2.1.2.2.1),.v (.int .u32 x.2.1.2.2.2),.slice .no (List.map ZB x.2.2.1),.v (.int .i64 x.2.2.2.1),.v (.int .i64 x.2.2.2.2)])]
theorem E37i : ∀ a b,E37 a = E37 b→a = b:=by
  rintro ⟨⟨⟨a0_0_0,a0_0_1,a0_0_2,a0_0_3⟩,a0_1,a0_2,a0_3⟩,⟨⟨a1_0_0,a1_0_1,a1_0_2,a1_0_3⟩,a1_1,a1_2,a1_3⟩⟩ ⟨⟨⟨b0_0_0,b0_0_1,b0_0_2,b0_0_3⟩,b0_1,b0_2,b0_3⟩,⟨⟨b1_0_0,b1_0_1,b1_0_2,b1_0_3⟩,b1_1,b1_2,b1_3⟩⟩ h
  simpa [E37,and_assoc] using h
def R37 (x : Tapi_Plan×Tapi_Plan) (y : Bool) : PV×List (List Cell):=(.one (.v (.bool y)),[])
noncomputable def G37:=ZL E37 fun x=>(Zaw x.1 x.2).map (R37 x)
theorem ZpP {a0 : Tapi_Plan} {a1 : Tapi_Plan} {y : Bool} (h : Zaw a0 a1 = some y) : G37 (E37 (a0,a1)) = some (R37 (a0,a1) y):=Zo E37i h
def E13 (x : Tapi_PartialTx×Tapi_PartialTx) : List PV:=[.agg ([.v (.int .u32 x.1.1.1.1),.slice .no (List.map Zm x.1.1.1.2.1),.slice .no (List.map Zk x.1.1.1.2.2.1),.v (.int .u32 x.1.1.1.2.2.2),.slice .no (List.map ZB x.1.1.2.1),.v (.int .i64 x.1.1.2.2.1),.v (.int .i64 x.1.1.2.2.2),.slice .no (List.map ZE x.1.2)]),.agg ([.v (.int .u32 x.2.1.1.1),.slice .no (List.map Zm x.2.1.1.2.1),.slice .no (List.map Zk x.2.1.1.2.2.1),.v (.int .u32 x.2.1.1.2.2.2),.slice .no (List.map ZB x.2.1.2.1),.v (.int .i64 x.2.1.2.2.1),.v (.int .i64 x.2.1.2.2.2),.slice .no (List.map ZE x.2.2)])]
theorem E13i : ∀ a b,E13 a = E13 b→a = b:=by
  rintro ⟨⟨⟨⟨a0_0_0_0,a0_0_0_1,a0_0_0_2,a0_0_0_3⟩,a0_0_1,a0_0_2,a0_0_3⟩,a0_1⟩,⟨⟨⟨a1_0_0_0,a1_0_0_1,a1_0_0_2,a1_0_0_3⟩,a1_0_1,a1_0_2,a1_0_3⟩,a1_1⟩⟩ ⟨⟨⟨⟨b0_0_0_0,b0_0_0_1,b0_0_0_2,b0_0_0_3⟩,b0_0_1,b0_0_2,b0_0_3⟩,b0_1⟩,⟨⟨⟨b1_0_0_0,b1_0_0_1,b1_0_0_2,b1_0_0_3⟩,b1_0_1,b1_0_2,b1_0_3⟩,b1_1⟩⟩ h
  simpa [E13,and_assoc] using h
def R13 (x : Tapi_PartialTx×Tapi_PartialTx) (y : Bool) : PV×List (List Cell):=(.one (.v (.bool y)),[])
noncomputable def G13:=ZL E13 fun x=>(Zax x.1 x.2).map (R13 x)
theorem ZsV {a0 : Tapi_PartialTx} {a1 : Tapi_PartialTx} {y : Bool} (h : Zax a0 a1 = some y) : G13 (E13 (a0,a1)) = some (R13 (a0,a1) y):=Zo E13i h
def E87 (x : Tapi_OutPoint) : List PV:=[.agg ((arC .u8 x.1)++((.v (.int .u32 x.2)) :: []))]
theorem E87i : ∀ a b,E87 a = E87 b→a = b:=by
  rintro ⟨a0_0,a0_1⟩ ⟨b0_0,b0_1⟩ h
  simpa [E87,and_assoc] using h
def R87 (x : Tapi_OutPoint) (y : Bool) : PV×List (List Cell):=(.one (.v (.bool y)),[])
noncomputable def G87:=ZL E87 fun x=>(Zes x).map (R87 x)
theorem ZsW {a0 : Tapi_OutPoint} {y : Bool} (h : Zes a0 = some y) : G87 (E87 a0) = some (R87 a0 y):=Zo E87i h
def E52 (x : Tapi_Tx) : List PV:=[.agg ([.v (.int .u32 x.1),.slice .no (List.map Zm x.2.1),.slice .no (List.map Zk x.2.2.1),.v (.int .u32 x.2.2.2)])]
theorem E52i : ∀ a b,E52 a = E52 b→a = b:=by
  rintro ⟨a0_0,a0_1,a0_2,a0_3⟩ ⟨b0_0,b0_1,b0_2,b0_3⟩ h
  simpa [E52,and_assoc] using h
def R52 (x : Tapi_Tx) (y : Bool) : PV×List (List Cell):=(.one (.v (.bool y)),[])
noncomputable def G52:=ZL E52 fun x=>(XY x).map (R52 x)
theorem ZpQ {a0 : Tapi_Tx} {y : Bool} (h : XY a0 = some y) : G52 (E52 a0) = some (R52 a0 y):=Zo E52i h
def Zdx (x : (List Int)×(List Int)) : List PV:=[.one (.slice .no (Zl .u8 x.1)),.one (.slice .no (Zl .u8 x.2))]
theorem E117i : ∀ a b,Zdx a = Zdx b→a = b:=by
  rintro ⟨a0,a1⟩ ⟨b0,b1⟩ h
  simpa [Zdx,and_assoc] using h
def Ze5 (x : (List Int)×(List Int)) (y : (List Int)) : PV×List (List Cell):=(.one (.own 1 (Zl .u8 y)),[])
noncomputable def G117:=ZL Zdx fun x=>(Ys x.1 x.2).map (Ze5 x)
theorem ZdQ {a0 : (List Int)} {a1 : (List Int)} {y : (List Int)} (h : Ys a0 a1 = some y) : G117 (Zdx (a0,a1)) = some (Ze5 (a0,a1) y):=Zo E117i h
def ZgM (x : Int×Int) : List PV:=[.one (.v (.int .u64 x.1)),.one (.v (.int .i64 x.2))]
theorem E118i : ∀ a b,ZgM a = ZgM b→a = b:=by
  rintro ⟨a0,a1⟩ ⟨b0,b1⟩ h
  simpa [ZgM,and_assoc] using h
def Zjj (x : Int×Int) (y : (List Int)) : PV×List (List Cell):=(.one (.own 1 (Zl .u8 y)),[])
noncomputable def G118:=ZL ZgM fun x=>(YJ x.1 x.2).map (Zjj x)
theorem Zlj {a0 : Int} {a1 : Int} {y : (List Int)} (h : YJ a0 a1 = some y) : G118 (ZgM (a0,a1)) = some (Zjj (a0,a1) y):=Zo E118i h
def Zfr (x : (List Int)×Int) : List PV:=[.one (.slice .no (Zl .u8 x.1)),.one (.v (.int .u32 x.2))]
theorem E107i : ∀ a b,Zfr a = Zfr b→a = b:=by
  rintro ⟨a0,a1⟩ ⟨b0,b1⟩ h
  simpa [Zfr,and_assoc] using h
def Zhb (x : (List Int)×Int) (y : (List Int)) : PV×List (List Cell):=(.one (.own 1 (Zl .u8 y)),[])
noncomputable def G107:=ZL Zfr fun x=>(YB x.1 x.2).map (Zhb x)
theorem ZhA {a0 : (List Int)} {a1 : Int} {y : (List Int)} (h : YB a0 a1 = some y) : G107 (Zfr (a0,a1)) = some (Zhb (a0,a1) y):=Zo E107i h
def Zhc (x : (List Int)×Int) : List PV:=[.one (.slice .no (Zl .u8 x.1)),.one (.v (.int .u64 x.2))]
theorem E110i : ∀ a b,Zhc a = Zhc b→a = b:=by
  rintro ⟨a0,a1⟩ ⟨b0,b1⟩ h
  simpa [Zhc,and_assoc] using h
def Zkp (x : (List Int)×Int) (y : (List Int)) : PV×List (List Cell):=(.one (.own 1 (Zl .u8 y)),[])
noncomputable def G110:=ZL Zhc fun x=>(Y0 x.1 x.2).map (Zkp x)
theorem ZnU {a0 : (List Int)} {a1 : Int} {y : (List Int)} (h : Y0 a0 a1 = some y) : G110 (Zhc (a0,a1)) = some (Zkp (a0,a1) y):=Zo E110i h
def Zic (x : (List Int)×Int) : List PV:=[.one (.slice .no (Zl .u8 x.1)),.one (.v (.int .u16 x.2))]
theorem E119i : ∀ a b,Zic a = Zic b→a = b:=by
  rintro ⟨a0,a1⟩ ⟨b0,b1⟩ h
  simpa [Zic,and_assoc] using h
def Zlk (x : (List Int)×Int) (y : (List Int)) : PV×List (List Cell):=(.one (.own 1 (Zl .u8 y)),[])
noncomputable def G119:=ZL Zic fun x=>(Xj x.1 x.2).map (Zlk x)
theorem Zr1 {a0 : (List Int)} {a1 : Int} {y : (List Int)} (h : Xj a0 a1 = some y) : G119 (Zic (a0,a1)) = some (Zlk (a0,a1) y):=Zo E119i h
def Zf2 (x : (List Int)×Int) : List PV:=[.one (.slice .no (Zl .u8 x.1)),.one (.v (.int .u64 x.2))]
theorem E108i : ∀ a b,Zf2 a = Zf2 b→a = b:=by
  rintro ⟨a0,a1⟩ ⟨b0,b1⟩ h
  simpa [Zf2,and_assoc] using h
def Zid (x : (List Int)×Int) (y : (List Int)) : PV×List (List Cell):=(.one (.own 1 (Zl .u8 y)),[])
noncomputable def G108:=ZL Zf2 fun x=>(YD x.1 x.2).map (Zid x)
theorem Zjy {a0 : (List Int)} {a1 : Int} {y : (List Int)} (h : YD a0 a1 = some y) : G108 (Zf2 (a0,a1)) = some (Zid (a0,a1) y):=Zo E108i h
def Zie (x : (List Int)×(Arr 32)) : List PV:=[.one (.slice .no (Zl .u8 x.1)),.agg (arC .u8 x.2)]
theorem E120i : ∀ a b,Zie a = Zie b→a = b:=by
  rintro ⟨a0,a1⟩ ⟨b0,b1⟩ h
  simpa [Zie,and_assoc] using h
def Zll (x : (List Int)×(Arr 32)) (y : (List Int)) : PV×List (List Cell):=(.one (.own 1 (Zl .u8 y)),[])
noncomputable def G120:=ZL Zie fun x=>(Y4 x.1 x.2).map (Zll x)
theorem Zr2 {a0 : (List Int)} {a1 : (Arr 32)} {y : (List Int)} (h : Y4 a0 a1 = some y) : G120 (Zie (a0,a1)) = some (Zll (a0,a1) y):=Zo E120i h
def Zif (x : Tapi_OutPoint) : List PV:=[.agg ((arC .u8 x.1)++((.v (.int .u32 x.2)) :: []))]
theorem E109i : ∀ a b,Zif a = Zif b→a = b:=by
  rintro ⟨a0_0,a0_1⟩ ⟨b0_0,b0_1⟩ h
  simpa [Zif,and_assoc] using h
def Zlm (x : Tapi_OutPoint) (y : (List Int)) : PV×List (List Cell):=(.one (.own 1 (Zl .u8 y)),[])
noncomputable def G109:=ZL Zif fun x=>(Zcq x).map (Zlm x)
theorem Zr3 {a0 : Tapi_OutPoint} {y : (List Int)} (h : Zcq a0 = some y) : G109 (Zif a0) = some (Zlm a0 y):=Zo E109i h
def Zhd (x : (List Int)×(List Int)) : List PV:=[.one (.slice .no (Zl .u8 x.1)),.one (.slice .no (Zl .u8 x.2))]
theorem E111i : ∀ a b,Zhd a = Zhd b→a = b:=by
  rintro ⟨a0,a1⟩ ⟨b0,b1⟩ h
  simpa [Zhd,and_assoc] using h
def Zkq (x : (List Int)×(List Int)) (y : (List Int)) : PV×List (List Cell):=(.one (.own 1 (Zl .u8 y)),[])
noncomputable def G111:=ZL Zhd fun x=>(YM x.1 x.2).map (Zkq x)
theorem ZnV {a0 : (List Int)} {a1 : (List Int)} {y : (List Int)} (h : YM a0 a1 = some y) : G111 (Zhd (a0,a1)) = some (Zkq (a0,a1) y):=Zo E111i h
def Zig (x : Tapi_Tx×Bool) : List PV:=[.agg ([.v (.int .u32 x.1.1),.slice .no (List.map Zm x.1.2.1),.slice .no (List.map Zk x.1.2.2.1),.v (.int .u32 x.1.2.2.2)]),.one (.v (.bool x.2))]
theorem E103i : ∀ a b,Zig a = Zig b→a = b:=by
  rintro ⟨⟨a0_0,a0_1,a0_2,a0_3⟩,a1⟩ ⟨⟨b0_0,b0_1,b0_2,b0_3⟩,b1⟩ h
  simpa [Zig,and_assoc] using h
def Zln (x : Tapi_Tx×Bool) (y : (List Int)) : PV×List (List Cell):=(.one (.own 1 (Zl .u8 y)),[])
noncomputable def G103:=ZL Zig fun x=>(ZbO x.1 x.2).map (Zln x)
theorem Zr4 {a0 : Tapi_Tx} {a1 : Bool} {y : (List Int)} (h : ZbO a0 a1 = some y) : G103 (Zig (a0,a1)) = some (Zln (a0,a1) y):=Zo E103i h
def E85 (x : Tapi_Tx) : List PV:=[.agg ([.v (.int .u32 x.1),.slice .no (List.map Zm x.2.1),.slice .no (List.map Zk x.2.2.1),.v (.int .u32 x.2.2.2)])]
theorem E85i : ∀ a b,E85 a = E85 b→a = b:=by
  rintro ⟨a0_0,a0_1,a0_2,a0_3⟩ ⟨b0_0,b0_1,b0_2,b0_3⟩ h
  simpa [E85,and_assoc] using h
def R85 (x : Tapi_Tx) (y : Bool) : PV×List (List Cell):=(.one (.v (.bool y)),[])
noncomputable def G85:=ZL E85 fun x=>(Zdk x).map (R85 x)
theorem ZsX {a0 : Tapi_Tx} {y : Bool} (h : Zdk a0 = some y) : G85 (E85 a0) = some (R85 a0 y):=Zo E85i h
def E86 (x : (List Tapi_Output)) : List PV:=[.one (.slice .no (List.map Zk x))]
theorem E86i : ∀ a b,E86 a = E86 b→a = b:=by
  rintro a0 b0 h
  simpa [E86,and_assoc] using h
def R86 (x : (List Tapi_Output)) (y : Bool) : PV×List (List Cell):=(.one (.v (.bool y)),[])
noncomputable def G86:=ZL E86 fun x=>(Zcr x).map (R86 x)
theorem ZsY {a0 : (List Tapi_Output)} {y : Bool} (h : Zcr a0 = some y) : G86 (E86 a0) = some (R86 a0 y):=Zo E86i h
def E51 (x : Tapi_Tx) : List PV:=[.agg ([.v (.int .u32 x.1),.slice .no (List.map Zm x.2.1),.slice .no (List.map Zk x.2.2.1),.v (.int .u32 x.2.2.2)])]
theorem E51i : ∀ a b,E51 a = E51 b→a = b:=by
  rintro ⟨a0_0,a0_1,a0_2,a0_3⟩ ⟨b0_0,b0_1,b0_2,b0_3⟩ h
  simpa [E51,and_assoc] using h
def R51 (x : Tapi_Tx) (y : Int) : PV×List (List Cell):=(.one (.v (.int .i64 y)),[])
noncomputable def G51:=ZL E51 fun x=>(ZbR x).map (R51 x)
theorem ZpR {a0 : Tapi_Tx} {y : Int} (h : ZbR a0 = some y) : G51 (E51 a0) = some (R51 a0 y):=Zo E51i h
def E88 (x : (List Tapi_Coin)) : List PV:=[.one (.slice .no (List.map ZB x))]
theorem E88i : ∀ a b,E88 a = E88 b→a = b:=by
  rintro a0 b0 h
  simpa [E88,and_assoc] using h
def R88 (x : (List Tapi_Coin)) (y : Int×Bool) : PV×List (List Cell):=(.tup [.one (.v (.int .i64 y.1)),.one (.v (.bool y.2))],[])
noncomputable def G88:=ZL E88 fun x=>(ZbS x).map (R88 x)
theorem ZsZ {a0 : (List Tapi_Coin)} {y : Int×Bool} (h : ZbS a0 = some y) : G88 (E88 a0) = some (R88 a0 y):=Zo E88i h
def E53 (x : Tapi_Tx×(List Tapi_Coin)) : List PV:=[.agg ([.v (.int .u32 x.1.1),.slice .no (List.map Zm x.1.2.1),.slice .no (List.map Zk x.1.2.2.1),.v (.int .u32 x.1.2.2.2)]),.one (.slice .no (List.map ZB x.2))]
theorem E53i : ∀ a b,E53 a = E53 b→a = b:=by
  rintro ⟨⟨a0_0,a0_1,a0_2,a0_3⟩,a1⟩ ⟨⟨b0_0,b0_1,b0_2,b0_3⟩,b1⟩ h
  simpa [E53,and_assoc] using h
def R53 (x : Tapi_Tx×(List Tapi_Coin)) (y : Int×Int) : PV×List (List Cell):=(.tup [.one (.v (.int .i64 y.1)),.one (.v (.int .i64 y.2))],[])
noncomputable def G53:=ZL E53 fun x=>(ZbT x.1 x.2).map (R53 x)
theorem Zs0 {a0 : Tapi_Tx} {a1 : (List Tapi_Coin)} {y : Int×Int} (h : ZbT a0 a1 = some y) : G53 (E53 (a0,a1)) = some (R53 (a0,a1) y):=Zo E53i h
def E28 (x : Tapi_Plan) : List PV:=[.agg ([.v (.int .u32 x.1.1),.slice .no (List.map Zm x.1.2.1),.slice .no (List.map Zk x.1.2.2.1),.v (.int .u32 x.1.2.2.2),.slice .no (List.map ZB x.2.1),.v (.int .i64 x.2.2.1),.v (.int .i64 x.2.2.2)])]
theorem E28i : ∀ a b,E28 a = E28 b→a = b:=by
  rintro ⟨⟨a0_0_0,a0_0_1,a0_0_2,a0_0_3⟩,a0_1,a0_2,a0_3⟩ ⟨⟨b0_0_0,b0_0_1,b0_0_2,b0_0_3⟩,b0_1,b0_2,b0_3⟩ h
  simpa [E28,and_assoc] using h
def R28 (x : Tapi_Plan) (y : Bool) : PV×List (List Cell):=(.one (.v (.bool y)),[])
noncomputable def G28:=ZL E28 fun x=>(XB x).map (R28 x)
theorem Zs1 {a0 : Tapi_Plan} {y : Bool} (h : XB a0 = some y) : G28 (E28 a0) = some (R28 a0 y):=Zo E28i h
def E66 (x : (Arr 4)×(Arr 4)) : List PV:=[.agg (arC .u64 x.1),.agg (arC .u64 x.2)]
theorem E66i : ∀ a b,E66 a = E66 b→a = b:=by
  rintro ⟨a0,a1⟩ ⟨b0,b1⟩ h
  simpa [E66,and_assoc] using h
def R66 (x : (Arr 4)×(Arr 4)) (y : Int) : PV×List (List Cell):=(.one (.v (.int .i64 y)),[])
noncomputable def G66:=ZL E66 fun x=>(Zb1 x.1 x.2).map (R66 x)
theorem ZpS {a0 : (Arr 4)} {a1 : (Arr 4)} {y : Int} (h : Zb1 a0 a1 = some y) : G66 (E66 (a0,a1)) = some (R66 (a0,a1) y):=Zo E66i h
def E94 (x : Unit) : List PV:=[]
theorem E94i : ∀ a b,E94 a = E94 b→a = b:=fun _ _ _=>rfl
def R94 (x : Unit) (y : (Arr 4)) : PV×List (List Cell):=(.agg (arC .u64 y),[])
noncomputable def G94:=ZL E94 fun x=>(Lgroup_Order).map (R94 x)
theorem Zs2 {y : (Arr 4)} (h : Lgroup_Order  = some y) : G94 (E94 ()) = some (R94 () y):=Zo E94i h
def E61 (x : (Arr 4)) : List PV:=[.agg (arC .u64 x)]
theorem E61i : ∀ a b,E61 a = E61 b→a = b:=by
  rintro a0 b0 h
  simpa [E61,and_assoc] using h
def R61 (x : (Arr 4)) (y : Bool) : PV×List (List Cell):=(.one (.v (.bool y)),[])
noncomputable def G61:=ZL E61 fun x=>(X5 x).map (R61 x)
theorem ZpT {a0 : (Arr 4)} {y : Bool} (h : X5 a0 = some y) : G61 (E61 a0) = some (R61 a0 y):=Zo E61i h
def E31 (x : (List Int)) : List PV:=[.one (.slice .no (Zl .u8 x))]
theorem E31i : ∀ a b,E31 a = E31 b→a = b:=by
  rintro a0 b0 h
  simpa [E31,and_assoc] using h
def R31 (x : (List Int)) (y : Tapi_Signature×Int) : PV×List (List Cell):=(.tup [.agg ((arC .u64 y.1.1)++(arC .u64 y.1.2)),.one (.v (.int .i64 y.2))],[])
noncomputable def G31:=ZL E31 fun x=>(ZaF x).map (R31 x)
theorem Zs3 {a0 : (List Int)} {y : Tapi_Signature×Int} (h : ZaF a0 = some y) : G31 (E31 a0) = some (R31 a0 y):=Zo E31i h
def E62 (x : (List (Arr 32))) : List PV:=[.one (.slice .no (List.map (arC .u8) x))]
theorem E62i : ∀ a b,E62 a = E62 b→a = b:=by
  rintro a0 b0 h
  simpa [E62,and_assoc] using h
def R62 (x : (List (Arr 32))) (y : (List Int)) : PV×List (List Cell):=(.one (.own 1 (Zl .u8 y)),[])
noncomputable def G62:=ZL E62 fun x=>(Zcs x).map (R62 x)
theorem Zs4 {a0 : (List (Arr 32))} {y : (List Int)} (h : Zcs a0 = some y) : G62 (E62 a0) = some (R62 a0 y):=Zo E62i h
def E63 (x : (Arr 4)) : List PV:=[.agg (arC .u64 x)]
theorem E63i : ∀ a b,E63 a = E63 b→a = b:=by
  rintro a0 b0 h
  simpa [E63,and_assoc] using h
def R63 (x : (Arr 4)) (y : (Arr 32)) : PV×List (List Cell):=(.agg (arC .u8 y),[])
noncomputable def G63:=ZL E63 fun x=>(Zav x).map (R63 x)
theorem ZpU {a0 : (Arr 4)} {y : (Arr 32)} (h : Zav a0 = some y) : G63 (E63 a0) = some (R63 a0 y):=Zo E63i h
def E32 (x : Tapi_Signature) : List PV:=[.agg ((arC .u64 x.1)++(arC .u64 x.2))]
theorem E32i : ∀ a b,E32 a = E32 b→a = b:=by
  rintro ⟨a0_0,a0_1⟩ ⟨b0_0,b0_1⟩ h
  simpa [E32,and_assoc] using h
def R32 (x : Tapi_Signature) (y : (List Int)) : PV×List (List Cell):=(.one (.own 1 (Zl .u8 y)),[])
noncomputable def G32:=ZL E32 fun x=>(ZaG x).map (R32 x)
theorem Zs5 {a0 : Tapi_Signature} {y : (List Int)} (h : ZaG a0 = some y) : G32 (E32 a0) = some (R32 a0 y):=Zo E32i h
def E64 (x : (List Int)) : List PV:=[.one (.slice .no (Zl .i64 x))]
theorem E64i : ∀ a b,E64 a = E64 b→a = b:=by
  rintro a0 b0 h
  simpa [E64,and_assoc] using h
def R64 (x : (List Int)) (y : Int) : PV×List (List Cell):=(.one (.v (.int .i64 y)),[])
noncomputable def G64:=ZL E64 fun x=>(XP x).map (R64 x)
theorem Zs6 {a0 : (List Int)} {y : Int} (h : XP a0 = some y) : G64 (E64 a0) = some (R64 a0 y):=Zo E64i h
def E95 (x : Int) : List PV:=[.one (.v (.int .i64 x))]
theorem E95i : ∀ a b,E95 a = E95 b→a = b:=by
  rintro a0 b0 h
  simpa [E95,and_assoc] using h
def R95 (x : Int) (y : Bool) : PV×List (List Cell):=(.one (.v (.bool y)),[])
noncomputable def G95:=ZL E95 fun x=>(Y6 x).map (R95 x)
theorem ZpV {a0 : Int} {y : Bool} (h : Y6 a0 = some y) : G95 (E95 a0) = some (R95 a0 y):=Zo E95i h
def E65 (x : Int×Int) : List PV:=[.one (.v (.int .i64 x.1)),.one (.v (.int .i64 x.2))]
theorem E65i : ∀ a b,E65 a = E65 b→a = b:=by
  rintro ⟨a0,a1⟩ ⟨b0,b1⟩ h
  simpa [E65,and_assoc] using h
def R65 (x : Int×Int) (y : Int) : PV×List (List Cell):=(.one (.v (.int .i64 y)),[])
noncomputable def G65:=ZL E65 fun x=>(YT x.1 x.2).map (R65 x)
theorem Zs7 {a0 : Int} {a1 : Int} {y : Int} (h : YT a0 a1 = some y) : G65 (E65 (a0,a1)) = some (R65 (a0,a1) y):=Zo E65i h
def E33 (x : Tapi_Signed×Tapi_Signed) : List PV:=[.agg ((.v (.int .i64 x.1.1)) :: ((arC .u64 x.1.2.1)++((arC .u64 x.1.2.2.1)++(arC .u64 x.1.2.2.2)))),.agg ((.v (.int .i64 x.2.1)) :: ((arC .u64 x.2.2.1)++((arC .u64 x.2.2.2.1)++(arC .u64 x.2.2.2.2))))]
theorem E33i : ∀ a b,E33 a = E33 b→a = b:=by
  rintro ⟨⟨a0_0,a0_1,⟨a0_2_0,a0_2_1⟩⟩,⟨a1_0,a1_1,⟨a1_2_0,a1_2_1⟩⟩⟩ ⟨⟨b0_0,b0_1,⟨b0_2_0,b0_2_1⟩⟩,⟨b1_0,b1_1,⟨b1_2_0,b1_2_1⟩⟩⟩ h
  simpa [E33,and_assoc] using h
def R33 (x : Tapi_Signed×Tapi_Signed) (y : Int) : PV×List (List Cell):=(.one (.v (.int .i64 y)),[])
noncomputable def G33:=ZL E33 fun x=>(Y1 x.1 x.2).map (R33 x)
theorem ZpW {a0 : Tapi_Signed} {a1 : Tapi_Signed} {y : Int} (h : Y1 a0 a1 = some y) : G33 (E33 (a0,a1)) = some (R33 (a0,a1) y):=Zo E33i h
def E11 (x : Tapi_PartialTx) : List PV:=[.agg ([.v (.int .u32 x.1.1.1),.slice .no (List.map Zm x.1.1.2.1),.slice .no (List.map Zk x.1.1.2.2.1),.v (.int .u32 x.1.1.2.2.2),.slice .no (List.map ZB x.1.2.1),.v (.int .i64 x.1.2.2.1),.v (.int .i64 x.1.2.2.2),.slice .no (List.map ZE x.2)])]
theorem E11i : ∀ a b,E11 a = E11 b→a = b:=by
  rintro ⟨⟨⟨a0_0_0_0,a0_0_0_1,a0_0_0_2,a0_0_0_3⟩,a0_0_1,a0_0_2,a0_0_3⟩,a0_1⟩ ⟨⟨⟨b0_0_0_0,b0_0_0_1,b0_0_0_2,b0_0_0_3⟩,b0_0_1,b0_0_2,b0_0_3⟩,b0_1⟩ h
  simpa [E11,and_assoc] using h
def R11 (x : Tapi_PartialTx) (y : Bool) : PV×List (List Cell):=(.one (.v (.bool y)),[])
noncomputable def G11:=ZL E11 fun x=>(Xs x).map (R11 x)
theorem ZpX {a0 : Tapi_PartialTx} {y : Bool} (h : Xs a0 = some y) : G11 (E11 a0) = some (R11 a0 y):=Zo E11i h
def E56 (x : (List Int)) : List PV:=[.one (.slice .no (Zl .u8 x))]
theorem E56i : ∀ a b,E56 a = E56 b→a = b:=by
  rintro a0 b0 h
  simpa [E56,and_assoc] using h
def R56 (x : (List Int)) (y : (List Int)) : PV×List (List Cell):=(.one (.own 1 (Zl .u8 y)),[])
noncomputable def G56:=ZL E56 fun x=>(Xn x).map (R56 x)
theorem Zm9 {a0 : (List Int)} {y : (List Int)} (h : Xn a0 = some y) : G56 (E56 a0) = some (R56 a0 y):=Zo E56i h
def E89 (x : (List Tapi_Input)) : List PV:=[.one (.slice .no (List.map Zm x))]
theorem E89i : ∀ a b,E89 a = E89 b→a = b:=by
  rintro a0 b0 h
  simpa [E89,and_assoc] using h
def R89 (x : (List Tapi_Input)) (y : (List Tapi_Input)) : PV×List (List Cell):=(.one (.own 35 (List.map Zm y)),[])
noncomputable def G89:=ZL E89 fun x=>(Z4 x).map (R89 x)
theorem Zs8 {a0 : (List Tapi_Input)} {y : (List Tapi_Input)} (h : Z4 a0 = some y) : G89 (E89 a0) = some (R89 a0 y):=Zo E89i h
def E90 (x : (List Tapi_Output)) : List PV:=[.one (.slice .no (List.map Zk x))]
theorem E90i : ∀ a b,E90 a = E90 b→a = b:=by
  rintro a0 b0 h
  simpa [E90,and_assoc] using h
def R90 (x : (List Tapi_Output)) (y : (List Tapi_Output)) : PV×List (List Cell):=(.one (.own 2 (List.map Zk y)),[])
noncomputable def G90:=ZL E90 fun x=>(Z3 x).map (R90 x)
theorem Zs9 {a0 : (List Tapi_Output)} {y : (List Tapi_Output)} (h : Z3 a0 = some y) : G90 (E90 a0) = some (R90 a0 y):=Zo E90i h
def Zlo (x : (List (List Int))) : List PV:=[.one (.slice .no (List.map Yd x))]
theorem E104i : ∀ a b,Zlo a = Zlo b→a = b:=by
  rintro a0 b0 h
  simpa [Zlo,and_assoc] using h
def ZqX (x : (List (List Int))) (y : (List (List Int))) : PV×List (List Cell):=(.one (.own 1 (List.map Yd y)),[])
noncomputable def G104:=ZL Zlo fun x=>(Yk x).map (ZqX x)
theorem Zr5 {a0 : (List (List Int))} {y : (List (List Int))} (h : Yk a0 = some y) : G104 (Zlo a0) = some (ZqX a0 y):=Zo E104i h
def E91 (x : (List (List Int))) : List PV:=[.one (.slice .no (List.map Yd x))]
theorem E91i : ∀ a b,E91 a = E91 b→a = b:=by
  rintro a0 b0 h
  simpa [E91,and_assoc] using h
def R91 (x : (List (List Int))) (y : (List (List Int))) : PV×List (List Cell):=(.one (.own 1 (List.map Yd y)),[])
noncomputable def G91:=ZL E91 fun x=>(YU x).map (R91 x)
theorem Zta {a0 : (List (List Int))} {y : (List (List Int))} (h : YU a0 = some y) : G91 (E91 a0) = some (R91 a0 y):=Zo E91i h
def E54 (x : Tapi_Tx) : List PV:=[.agg ([.v (.int .u32 x.1),.slice .no (List.map Zm x.2.1),.slice .no (List.map Zk x.2.2.1),.v (.int .u32 x.2.2.2)])]
theorem E54i : ∀ a b,E54 a = E54 b→a = b:=by
  rintro ⟨a0_0,a0_1,a0_2,a0_3⟩ ⟨b0_0,b0_1,b0_2,b0_3⟩ h
  simpa [E54,and_assoc] using h
def R54 (x : Tapi_Tx) (y : Tapi_Tx) : PV×List (List Cell):=(.agg ([.v (.int .u32 y.1),.own 35 (List.map Zm y.2.1),.own 2 (List.map Zk y.2.2.1),.v (.int .u32 y.2.2.2)]),[])
noncomputable def G54:=ZL E54 fun x=>(Xo x).map (R54 x)
theorem Ztb {a0 : Tapi_Tx} {y : Tapi_Tx} (h : Xo a0 = some y) : G54 (E54 a0) = some (R54 a0 y):=Zo E54i h
def E55 (x : (List Tapi_Coin)) : List PV:=[.one (.slice .no (List.map ZB x))]
theorem E55i : ∀ a b,E55 a = E55 b→a = b:=by
  rintro a0 b0 h
  simpa [E55,and_assoc] using h
def R55 (x : (List Tapi_Coin)) (y : (List Tapi_Coin)) : PV×List (List Cell):=(.one (.own 37 (List.map ZB y)),[])
noncomputable def G55:=ZL E55 fun x=>(Z5 x).map (R55 x)
theorem Ztc {a0 : (List Tapi_Coin)} {y : (List Tapi_Coin)} (h : Z5 a0 = some y) : G55 (E55 a0) = some (R55 a0 y):=Zo E55i h
def E29 (x : Tapi_Plan) : List PV:=[.agg ([.v (.int .u32 x.1.1),.slice .no (List.map Zm x.1.2.1),.slice .no (List.map Zk x.1.2.2.1),.v (.int .u32 x.1.2.2.2),.slice .no (List.map ZB x.2.1),.v (.int .i64 x.2.2.1),.v (.int .i64 x.2.2.2)])]
theorem E29i : ∀ a b,E29 a = E29 b→a = b:=by
  rintro ⟨⟨a0_0_0,a0_0_1,a0_0_2,a0_0_3⟩,a0_1,a0_2,a0_3⟩ ⟨⟨b0_0_0,b0_0_1,b0_0_2,b0_0_3⟩,b0_1,b0_2,b0_3⟩ h
  simpa [E29,and_assoc] using h
def R29 (x : Tapi_Plan) (y : Tapi_Plan) : PV×List (List Cell):=(.agg ([.v (.int .u32 y.1.1),.own 35 (List.map Zm y.1.2.1),.own 2 (List.map Zk y.1.2.2.1),.v (.int .u32 y.1.2.2.2),.own 37 (List.map ZB y.2.1),.v (.int .i64 y.2.2.1),.v (.int .i64 y.2.2.2)]),[])
noncomputable def G29:=ZL E29 fun x=>(YQ x).map (R29 x)
theorem Ztd {a0 : Tapi_Plan} {y : Tapi_Plan} (h : YQ a0 = some y) : G29 (E29 a0) = some (R29 a0 y):=Zo E29i h
def E73 (x : (List Int)×(List Int)) : List PV:=[.one (.slice .no (Zl .u8 x.1)),.one (.slice .no (Zl .u8 x.2))]
theorem E73i : ∀ a b,E73 a = E73 b→a = b:=by
  rintro ⟨a0,a1⟩ ⟨b0,b1⟩ h
  simpa [E73,and_assoc] using h
def R73 (x : (List Int)×(List Int)) (y : Bool) : PV×List (List Cell):=(.one (.v (.bool y)),[])
noncomputable def G73:=ZL E73 fun x=>(X6 x.1 x.2).map (R73 x)
theorem ZpY {a0 : (List Int)} {a1 : (List Int)} {y : Bool} (h : X6 a0 a1 = some y) : G73 (E73 (a0,a1)) = some (R73 (a0,a1) y):=Zo E73i h
def Zgg (x : (List (List Int))×(List (List Int))) : List PV:=[.one (.slice .no (List.map Yd x.1)),.one (.slice .no (List.map Yd x.2)),.fn 73]
theorem E72_1i : ∀ a b,Zgg a = Zgg b→a = b:=by
  rintro ⟨a0,a1⟩ ⟨b0,b1⟩ h
  simpa [Zgg,and_assoc] using h
def Zjz (x : (List (List Int))×(List (List Int))) (y : Bool) : PV×List (List Cell):=(.one (.v (.bool y)),[])
noncomputable def G72_1:=ZL Zgg fun x=>(ZM x.1 x.2).map (Zjz x)
theorem ZqY {a0 : (List (List Int))} {a1 : (List (List Int))} {y : Bool} (h : ZM a0 a1 = some y) : G72_1 (Zgg (a0,a1)) = some (Zjz (a0,a1) y):=Zo E72_1i h
def E71 (x : Tapi_Input×Tapi_Input) : List PV:=[.agg ((arC .u8 x.1.1.1)++((.v (.int .u32 x.1.1.2)) :: ((.v (.int .u32 x.1.2.1)) :: ((.slice .no (List.map Yd x.1.2.2)) :: [])))),.agg ((arC .u8 x.2.1.1)++((.v (.int .u32 x.2.1.2)) :: ((.v (.int .u32 x.2.2.1)) :: ((.slice .no (List.map Yd x.2.2.2)) :: []))))]
theorem E71i : ∀ a b,E71 a = E71 b→a = b:=by
  rintro ⟨⟨⟨a0_0_0,a0_0_1⟩,a0_1,a0_2⟩,⟨⟨a1_0_0,a1_0_1⟩,a1_1,a1_2⟩⟩ ⟨⟨⟨b0_0_0,b0_0_1⟩,b0_1,b0_2⟩,⟨⟨b1_0_0,b1_0_1⟩,b1_1,b1_2⟩⟩ h
  simpa [E71,and_assoc] using h
def R71 (x : Tapi_Input×Tapi_Input) (y : Bool) : PV×List (List Cell):=(.one (.v (.bool y)),[])
noncomputable def G71:=ZL E71 fun x=>(Y8 x.1 x.2).map (R71 x)
theorem Zte {a0 : Tapi_Input} {a1 : Tapi_Input} {y : Bool} (h : Y8 a0 a1 = some y) : G71 (E71 (a0,a1)) = some (R71 (a0,a1) y):=Zo E71i h
def E75 (x : Tapi_Output×Tapi_Output) : List PV:=[.agg ([.v (.int .i64 x.1.1),.slice .no (Zl .u8 x.1.2)]),.agg ([.v (.int .i64 x.2.1),.slice .no (Zl .u8 x.2.2)])]
theorem E75i : ∀ a b,E75 a = E75 b→a = b:=by
  rintro ⟨⟨a0_0,a0_1⟩,⟨a1_0,a1_1⟩⟩ ⟨⟨b0_0,b0_1⟩,⟨b1_0,b1_1⟩⟩ h
  simpa [E75,and_assoc] using h
def R75 (x : Tapi_Output×Tapi_Output) (y : Bool) : PV×List (List Cell):=(.one (.v (.bool y)),[])
noncomputable def G75:=ZL E75 fun x=>(YI x.1 x.2).map (R75 x)
theorem ZpZ {a0 : Tapi_Output} {a1 : Tapi_Output} {y : Bool} (h : YI a0 a1 = some y) : G75 (E75 (a0,a1)) = some (R75 (a0,a1) y):=Zo E75i h
def E74 (x : Tapi_Coin×Tapi_Coin) : List PV:=[.agg ((arC .u8 x.1.1.1)++((.v (.int .u32 x.1.1.2)) :: ((.v (.int .i64 x.1.2.1.1)) :: ((.slice .no (Zl .u8 x.1.2.1.2)) :: ((.v (.int .i64 x.1.2.2.1)) :: ((.v (.bool x.1.2.2.2)) :: [])))))),.agg ((arC .u8 x.2.1.1)++((.v (.int .u32 x.2.1.2)) :: ((.v (.int .i64 x.2.2.1.1)) :: ((.slice .no (Zl .u8 x.2.2.1.2)) :: ((.v (.int .i64 x.2.2.2.1)) :: ((.v (.bool x.2.2.2.2)) :: []))))))]
theorem E74i : ∀ a b,E74 a = E74 b→a = b:=by
  rintro ⟨⟨⟨a0_0_0,a0_0_1⟩,⟨a0_1_0,a0_1_1⟩,a0_2,a0_3⟩,⟨⟨a1_0_0,a1_0_1⟩,⟨a1_1_0,a1_1_1⟩,a1_2,a1_3⟩⟩ ⟨⟨⟨b0_0_0,b0_0_1⟩,⟨b0_1_0,b0_1_1⟩,b0_2,b0_3⟩,⟨⟨b1_0_0,b1_0_1⟩,⟨b1_1_0,b1_1_1⟩,b1_2,b1_3⟩⟩ h
  simpa [E74,and_assoc] using h
def R74 (x : Tapi_Coin×Tapi_Coin) (y : Bool) : PV×List (List Cell):=(.one (.v (.bool y)),[])
noncomputable def G74:=ZL E74 fun x=>(Y9 x.1 x.2).map (R74 x)
theorem Ztf {a0 : Tapi_Coin} {a1 : Tapi_Coin} {y : Bool} (h : Y9 a0 a1 = some y) : G74 (E74 (a0,a1)) = some (R74 (a0,a1) y):=Zo E74i h
def Zgh (x : (List Tapi_Input)×(List Tapi_Input)) : List PV:=[.one (.slice .no (List.map Zm x.1)),.one (.slice .no (List.map Zm x.2)),.fn 71]
theorem E76_2i : ∀ a b,Zgh a = Zgh b→a = b:=by
  rintro ⟨a0,a1⟩ ⟨b0,b1⟩ h
  simpa [Zgh,and_assoc] using h
def ZjA (x : (List Tapi_Input)×(List Tapi_Input)) (y : Bool) : PV×List (List Cell):=(.one (.v (.bool y)),[])
noncomputable def G76_2:=ZL Zgh fun x=>(Zv x.1 x.2).map (ZjA x)
theorem ZqZ {a0 : (List Tapi_Input)} {a1 : (List Tapi_Input)} {y : Bool} (h : Zv a0 a1 = some y) : G76_2 (Zgh (a0,a1)) = some (ZjA (a0,a1) y):=Zo E76_2i h
def Zgi (x : (List Tapi_Output)×(List Tapi_Output)) : List PV:=[.one (.slice .no (List.map Zk x.1)),.one (.slice .no (List.map Zk x.2)),.fn 75]
theorem E77_3i : ∀ a b,Zgi a = Zgi b→a = b:=by
  rintro ⟨a0,a1⟩ ⟨b0,b1⟩ h
  simpa [Zgi,and_assoc] using h
def ZjB (x : (List Tapi_Output)×(List Tapi_Output)) (y : Bool) : PV×List (List Cell):=(.one (.v (.bool y)),[])
noncomputable def G77_3:=ZL Zgi fun x=>(Zs x.1 x.2).map (ZjB x)
theorem Zq0 {a0 : (List Tapi_Output)} {a1 : (List Tapi_Output)} {y : Bool} (h : Zs a0 a1 = some y) : G77_3 (Zgi (a0,a1)) = some (ZjB (a0,a1) y):=Zo E77_3i h
def Zgj (x : (List Tapi_Coin)×(List Tapi_Coin)) : List PV:=[.one (.slice .no (List.map ZB x.1)),.one (.slice .no (List.map ZB x.2)),.fn 74]
theorem E78_4i : ∀ a b,Zgj a = Zgj b→a = b:=by
  rintro ⟨a0,a1⟩ ⟨b0,b1⟩ h
  simpa [Zgj,and_assoc] using h
def ZjC (x : (List Tapi_Coin)×(List Tapi_Coin)) (y : Bool) : PV×List (List Cell):=(.one (.v (.bool y)),[])
noncomputable def G78_4:=ZL Zgj fun x=>(Zx x.1 x.2).map (ZjC x)
theorem Zq1 {a0 : (List Tapi_Coin)} {a1 : (List Tapi_Coin)} {y : Bool} (h : Zx a0 a1 = some y) : G78_4 (Zgj (a0,a1)) = some (ZjC (a0,a1) y):=Zo E78_4i h
def E39 (x : Tapi_Plan×Tapi_Plan) : List PV:=[.agg ([.v (.int .u32 x.1.1.1),.slice .no (List.map Zm x.1.1.2.1),.slice .no (List.map Zk x.1.1.2.2.1),.v (.int .u32 x.1.1.2.2.2),.slice .no (List.map ZB x.1.2.1),.v (.int .i64 x.1.2.2.1),.v (.int .i64 x.1.2.2.2)]),.agg ([.v (.int .u32 x.2.1.1),.slice .no (List.map Zm x.2.1.2.1),.slice .no (List.map Zk x.2.1.2.2.1),.v (.int .u32 x.2.1.2.2.2),.slice .no (List.map ZB x.2.2.1),.v (.int .i64 x.2.2.2.1),.v (.int .i64 x.2.2.2.2)])]
theorem E39i : ∀ a b,E39 a = E39 b→a = b:=by
  rintro ⟨⟨⟨a0_0_0,a0_0_1,a0_0_2,a0_0_3⟩,a0_1,a0_2,a0_3⟩,⟨⟨a1_0_0,a1_0_1,a1_0_2,a1_0_3⟩,a1_1,a1_2,a1_3⟩⟩ ⟨⟨⟨b0_0_0,b0_0_1,b0_0_2,b0_0_3⟩,b0_1,b0_2,b0_3⟩,⟨⟨b1_0_0,b1_0_1,b1_0_2,b1_0_3⟩,b1_1,b1_2,b1_3⟩⟩ h
  simpa [E39,and_assoc] using h
def R39 (x : Tapi_Plan×Tapi_Plan) (y : Bool) : PV×List (List Cell):=(.one (.v (.bool y)),[])
noncomputable def G39:=ZL E39 fun x=>(Y7 x.1 x.2).map (R39 x)
theorem Ztg {a0 : Tapi_Plan} {a1 : Tapi_Plan} {y : Bool} (h : Y7 a0 a1 = some y) : G39 (E39 (a0,a1)) = some (R39 (a0,a1) y):=Zo E39i h
def E15 (x : Tapi_PartialTx×Tapi_PartialTx) : List PV:=[.agg ([.v (.int .u32 x.1.1.1.1),.slice .no (List.map Zm x.1.1.1.2.1),.slice .no (List.map Zk x.1.1.1.2.2.1),.v (.int .u32 x.1.1.1.2.2.2),.slice .no (List.map ZB x.1.1.2.1),.v (.int .i64 x.1.1.2.2.1),.v (.int .i64 x.1.1.2.2.2),.slice .no (List.map ZE x.1.2)]),.agg ([.v (.int .u32 x.2.1.1.1),.slice .no (List.map Zm x.2.1.1.2.1),.slice .no (List.map Zk x.2.1.1.2.2.1),.v (.int .u32 x.2.1.1.2.2.2),.slice .no (List.map ZB x.2.1.2.1),.v (.int .i64 x.2.1.2.2.1),.v (.int .i64 x.2.1.2.2.2),.slice .no (List.map ZE x.2.2)])]
theorem E15i : ∀ a b,E15 a = E15 b→a = b:=by
  rintro ⟨⟨⟨⟨a0_0_0_0,a0_0_0_1,a0_0_0_2,a0_0_0_3⟩,a0_0_1,a0_0_2,a0_0_3⟩,a0_1⟩,⟨⟨⟨a1_0_0_0,a1_0_0_1,a1_0_0_2,a1_0_0_3⟩,a1_0_1,a1_0_2,a1_0_3⟩,a1_1⟩⟩ ⟨⟨⟨⟨b0_0_0_0,b0_0_0_1,b0_0_0_2,b0_0_0_3⟩,b0_0_1,b0_0_2,b0_0_3⟩,b0_1⟩,⟨⟨⟨b1_0_0_0,b1_0_0_1,b1_0_0_2,b1_0_0_3⟩,b1_0_1,b1_0_2,b1_0_3⟩,b1_1⟩⟩ h
  simpa [E15,and_assoc] using h
def R15 (x : Tapi_PartialTx×Tapi_PartialTx) (y : Tapi_PartialTx×Int) : PV×List (List Cell):=(.tup [.agg ([.v (.int .u32 y.1.1.1.1),.slice .no (List.map Zm y.1.1.1.2.1),.slice .no (List.map Zk y.1.1.1.2.2.1),.v (.int .u32 y.1.1.1.2.2.2),.slice .no (List.map ZB y.1.1.2.1),.v (.int .i64 y.1.1.2.2.1),.v (.int .i64 y.1.1.2.2.2),.slice .no (List.map ZE y.1.2)]),.one (.v (.int .i64 y.2))],[])
noncomputable def G15:=ZL E15 fun x=>(XR x.1 x.2).map (R15 x)
theorem Zth {a0 : Tapi_PartialTx} {a1 : Tapi_PartialTx} {y : Tapi_PartialTx×Int} (h : XR a0 a1 = some y) : G15 (E15 (a0,a1)) = some (R15 (a0,a1) y):=Zo E15i h
def E93 (x : Tapi_OutPoint) : List PV:=[.agg ((arC .u8 x.1)++((.v (.int .u32 x.2)) :: []))]
theorem E93i : ∀ a b,E93 a = E93 b→a = b:=by
  rintro ⟨a0_0,a0_1⟩ ⟨b0_0,b0_1⟩ h
  simpa [E93,and_assoc] using h
def R93 (x : Tapi_OutPoint) (y : Bool) : PV×List (List Cell):=(.one (.v (.bool y)),[])
noncomputable def G93:=ZL E93 fun x=>(Zat x).map (R93 x)
theorem Zp0 {a0 : Tapi_OutPoint} {y : Bool} (h : Zat a0 = some y) : G93 (E93 a0) = some (R93 a0 y):=Zo E93i h
def E58 (x : Tapi_Tx) : List PV:=[.agg ([.v (.int .u32 x.1),.slice .no (List.map Zm x.2.1),.slice .no (List.map Zk x.2.2.1),.v (.int .u32 x.2.2.2)])]
theorem E58i : ∀ a b,E58 a = E58 b→a = b:=by
  rintro ⟨a0_0,a0_1,a0_2,a0_3⟩ ⟨b0_0,b0_1,b0_2,b0_3⟩ h
  simpa [E58,and_assoc] using h
def R58 (x : Tapi_Tx) (y : Bool) : PV×List (List Cell):=(.one (.v (.bool y)),[])
noncomputable def G58:=ZL E58 fun x=>(Xw x).map (R58 x)
theorem Zp1 {a0 : Tapi_Tx} {y : Bool} (h : Xw a0 = some y) : G58 (E58 a0) = some (R58 a0 y):=Zo E58i h
def Ze6 (x : Int×Int) : List PV:=[.one (.v (.int .u64 x.1)),.one (.v (.int .i64 x.2))]
theorem E121i : ∀ a b,Ze6 a = Ze6 b→a = b:=by
  rintro ⟨a0,a1⟩ ⟨b0,b1⟩ h
  simpa [Ze6,and_assoc] using h
def ZgN (x : Int×Int) (y : (List Int)) : PV×List (List Cell):=(.one (.own 1 (Zl .u8 y)),[])
noncomputable def G121:=ZL Ze6 fun x=>(Ye x.1 x.2).map (ZgN x)
theorem Zgo {a0 : Int} {a1 : Int} {y : (List Int)} (h : Ye a0 a1 = some y) : G121 (Ze6 (a0,a1)) = some (ZgN (a0,a1) y):=Zo E121i h
def Zf3 (x : (List Int)×Int) : List PV:=[.one (.slice .no (Zl .u8 x.1)),.one (.v (.int .u32 x.2))]
theorem E112i : ∀ a b,Zf3 a = Zf3 b→a = b:=by
  rintro ⟨a0,a1⟩ ⟨b0,b1⟩ h
  simpa [Zf3,and_assoc] using h
def Zih (x : (List Int)×Int) (y : (List Int)) : PV×List (List Cell):=(.one (.own 1 (Zl .u8 y)),[])
noncomputable def G112:=ZL Zf3 fun x=>(YG x.1 x.2).map (Zih x)
theorem ZjD {a0 : (List Int)} {a1 : Int} {y : (List Int)} (h : YG a0 a1 = some y) : G112 (Zf3 (a0,a1)) = some (Zih (a0,a1) y):=Zo E112i h
def Zf4 (x : (List Int)×Int) : List PV:=[.one (.slice .no (Zl .u8 x.1)),.one (.v (.int .u64 x.2))]
theorem E113i : ∀ a b,Zf4 a = Zf4 b→a = b:=by
  rintro ⟨a0,a1⟩ ⟨b0,b1⟩ h
  simpa [Zf4,and_assoc] using h
def Zii (x : (List Int)×Int) (y : (List Int)) : PV×List (List Cell):=(.one (.own 1 (Zl .u8 y)),[])
noncomputable def G113:=ZL Zf4 fun x=>(YE x.1 x.2).map (Zii x)
theorem ZjE {a0 : (List Int)} {a1 : Int} {y : (List Int)} (h : YE a0 a1 = some y) : G113 (Zf4 (a0,a1)) = some (Zii (a0,a1) y):=Zo E113i h
def Zij (x : (List Int)×(Arr 32)) : List PV:=[.one (.slice .no (Zl .u8 x.1)),.agg (arC .u8 x.2)]
theorem E122i : ∀ a b,Zij a = Zij b→a = b:=by
  rintro ⟨a0,a1⟩ ⟨b0,b1⟩ h
  simpa [Zij,and_assoc] using h
def Zlp (x : (List Int)×(Arr 32)) (y : (List Int)) : PV×List (List Cell):=(.one (.own 1 (Zl .u8 y)),[])
noncomputable def G122:=ZL Zij fun x=>(Y5 x.1 x.2).map (Zlp x)
theorem Zr6 {a0 : (List Int)} {a1 : (Arr 32)} {y : (List Int)} (h : Y5 a0 a1 = some y) : G122 (Zij (a0,a1)) = some (Zlp (a0,a1) y):=Zo E122i h
def Zik (x : Tapi_OutPoint) : List PV:=[.agg ((arC .u8 x.1)++((.v (.int .u32 x.2)) :: []))]
theorem E114i : ∀ a b,Zik a = Zik b→a = b:=by
  rintro ⟨a0_0,a0_1⟩ ⟨b0_0,b0_1⟩ h
  simpa [Zik,and_assoc] using h
def Zlq (x : Tapi_OutPoint) (y : (List Int)) : PV×List (List Cell):=(.one (.own 1 (Zl .u8 y)),[])
noncomputable def G114:=ZL Zik fun x=>(ZaB x).map (Zlq x)
theorem Zr7 {a0 : Tapi_OutPoint} {y : (List Int)} (h : ZaB a0 = some y) : G114 (Zik a0) = some (Zlq a0 y):=Zo E114i h
def Zhe (x : (List Int)×(List Int)) : List PV:=[.one (.slice .no (Zl .u8 x.1)),.one (.slice .no (Zl .u8 x.2))]
theorem E116i : ∀ a b,Zhe a = Zhe b→a = b:=by
  rintro ⟨a0,a1⟩ ⟨b0,b1⟩ h
  simpa [Zhe,and_assoc] using h
def Zkr (x : (List Int)×(List Int)) (y : (List Int)) : PV×List (List Cell):=(.one (.own 1 (Zl .u8 y)),[])
noncomputable def G116:=ZL Zhe fun x=>(YN x.1 x.2).map (Zkr x)
theorem ZnW {a0 : (List Int)} {a1 : (List Int)} {y : (List Int)} (h : YN a0 a1 = some y) : G116 (Zhe (a0,a1)) = some (Zkr (a0,a1) y):=Zo E116i h
def Zil (x : (List Int)×Int) : List PV:=[.one (.slice .no (Zl .u8 x.1)),.one (.v (.int .u64 x.2))]
theorem E123i : ∀ a b,Zil a = Zil b→a = b:=by
  rintro ⟨a0,a1⟩ ⟨b0,b1⟩ h
  simpa [Zil,and_assoc] using h
def Zlr (x : (List Int)×Int) (y : (List Int)) : PV×List (List Cell):=(.one (.own 1 (Zl .u8 y)),[])
noncomputable def G123:=ZL Zil fun x=>(Xk x.1 x.2).map (Zlr x)
theorem Zr8 {a0 : (List Int)} {a1 : Int} {y : (List Int)} (h : Xk a0 a1 = some y) : G123 (Zil (a0,a1)) = some (Zlr (a0,a1) y):=Zo E123i h
def Zim (x : Tapi_Output) : List PV:=[.agg ([.v (.int .i64 x.1),.slice .no (Zl .u8 x.2)])]
theorem E115i : ∀ a b,Zim a = Zim b→a = b:=by
  rintro ⟨a0_0,a0_1⟩ ⟨b0_0,b0_1⟩ h
  simpa [Zim,and_assoc] using h
def Zls (x : Tapi_Output) (y : (List Int)) : PV×List (List Cell):=(.one (.own 1 (Zl .u8 y)),[])
noncomputable def G115:=ZL Zim fun x=>(ZbP x).map (Zls x)
theorem Zr9 {a0 : Tapi_Output} {y : (List Int)} (h : ZbP a0 = some y) : G115 (Zim a0) = some (Zls a0 y):=Zo E115i h
def Zin (x : Tapi_Tx×Bool) : List PV:=[.agg ([.v (.int .u32 x.1.1),.slice .no (List.map Zm x.1.2.1),.slice .no (List.map Zk x.1.2.2.1),.v (.int .u32 x.1.2.2.2)]),.one (.v (.bool x.2))]
theorem E105i : ∀ a b,Zin a = Zin b→a = b:=by
  rintro ⟨⟨a0_0,a0_1,a0_2,a0_3⟩,a1⟩ ⟨⟨b0_0,b0_1,b0_2,b0_3⟩,b1⟩ h
  simpa [Zin,and_assoc] using h
def Zlt (x : Tapi_Tx×Bool) (y : (List Int)) : PV×List (List Cell):=(.one (.own 1 (Zl .u8 y)),[])
noncomputable def G105:=ZL Zin fun x=>(Zae x.1 x.2).map (Zlt x)
theorem Zsa {a0 : Tapi_Tx} {a1 : Bool} {y : (List Int)} (h : Zae a0 a1 = some y) : G105 (Zin (a0,a1)) = some (Zlt (a0,a1) y):=Zo E105i h
def E92 (x : Tapi_Tx) : List PV:=[.agg ([.v (.int .u32 x.1),.slice .no (List.map Zm x.2.1),.slice .no (List.map Zk x.2.2.1),.v (.int .u32 x.2.2.2)])]
theorem E92i : ∀ a b,E92 a = E92 b→a = b:=by
  rintro ⟨a0_0,a0_1,a0_2,a0_3⟩ ⟨b0_0,b0_1,b0_2,b0_3⟩ h
  simpa [E92,and_assoc] using h
def R92 (x : Tapi_Tx) (y : Bool) : PV×List (List Cell):=(.one (.v (.bool y)),[])
noncomputable def G92:=ZL E92 fun x=>(Zbd x).map (R92 x)
theorem Zti {a0 : Tapi_Tx} {y : Bool} (h : Zbd a0 = some y) : G92 (E92 a0) = some (R92 a0 y):=Zo E92i h
def E57 (x : Tapi_Tx) : List PV:=[.agg ([.v (.int .u32 x.1),.slice .no (List.map Zm x.2.1),.slice .no (List.map Zk x.2.2.1),.v (.int .u32 x.2.2.2)])]
theorem E57i : ∀ a b,E57 a = E57 b→a = b:=by
  rintro ⟨a0_0,a0_1,a0_2,a0_3⟩ ⟨b0_0,b0_1,b0_2,b0_3⟩ h
  simpa [E57,and_assoc] using h
def R57 (x : Tapi_Tx) (y : Int) : PV×List (List Cell):=(.one (.v (.int .i64 y)),[])
noncomputable def G57:=ZL E57 fun x=>(X0 x).map (R57 x)
theorem Zp2 {a0 : Tapi_Tx} {y : Int} (h : X0 a0 = some y) : G57 (E57 a0) = some (R57 a0 y):=Zo E57i h
def E59 (x : Int×Int×Int) : List PV:=[.one (.v (.int .i64 x.1)),.one (.v (.int .i64 x.2.1)),.one (.v (.int .i64 x.2.2))]
theorem E59i : ∀ a b,E59 a = E59 b→a = b:=by
  rintro ⟨a0,a1,a2⟩ ⟨b0,b1,b2⟩ h
  simpa [E59,and_assoc] using h
def R59 (x : Int×Int×Int) (y : Bool) : PV×List (List Cell):=(.one (.v (.bool y)),[])
noncomputable def G59:=ZL E59 fun x=>(Zdj x.1 x.2.1 x.2.2).map (R59 x)
theorem Ztj {a0 : Int} {a1 : Int} {a2 : Int} {y : Bool} (h : Zdj a0 a1 a2 = some y) : G59 (E59 (a0,a1,a2)) = some (R59 (a0,a1,a2) y):=Zo E59i h
def E60 (x : Tapi_Tx×(List Tapi_Coin)) : List PV:=[.agg ([.v (.int .u32 x.1.1),.slice .no (List.map Zm x.1.2.1),.slice .no (List.map Zk x.1.2.2.1),.v (.int .u32 x.1.2.2.2)]),.one (.slice .no (List.map ZB x.2))]
theorem E60i : ∀ a b,E60 a = E60 b→a = b:=by
  rintro ⟨⟨a0_0,a0_1,a0_2,a0_3⟩,a1⟩ ⟨⟨b0_0,b0_1,b0_2,b0_3⟩,b1⟩ h
  simpa [E60,and_assoc] using h
def R60 (x : Tapi_Tx×(List Tapi_Coin)) (y : Int×Int) : PV×List (List Cell):=(.tup [.one (.v (.int .i64 y.1)),.one (.v (.int .i64 y.2))],[])
noncomputable def G60:=ZL E60 fun x=>(ZbV x.1 x.2).map (R60 x)
theorem Ztk {a0 : Tapi_Tx} {a1 : (List Tapi_Coin)} {y : Int×Int} (h : ZbV a0 a1 = some y) : G60 (E60 (a0,a1)) = some (R60 (a0,a1) y):=Zo E60i h
def E30 (x : Tapi_Plan) : List PV:=[.agg ([.v (.int .u32 x.1.1),.slice .no (List.map Zm x.1.2.1),.slice .no (List.map Zk x.1.2.2.1),.v (.int .u32 x.1.2.2.2),.slice .no (List.map ZB x.2.1),.v (.int .i64 x.2.2.1),.v (.int .i64 x.2.2.2)])]
theorem E30i : ∀ a b,E30 a = E30 b→a = b:=by
  rintro ⟨⟨a0_0_0,a0_0_1,a0_0_2,a0_0_3⟩,a0_1,a0_2,a0_3⟩ ⟨⟨b0_0_0,b0_0_1,b0_0_2,b0_0_3⟩,b0_1,b0_2,b0_3⟩ h
  simpa [E30,and_assoc] using h
def R30 (x : Tapi_Plan) (y : Bool) : PV×List (List Cell):=(.one (.v (.bool y)),[])
noncomputable def G30:=ZL E30 fun x=>(X1 x).map (R30 x)
theorem Ztl {a0 : Tapi_Plan} {y : Bool} (h : X1 a0 = some y) : G30 (E30 a0) = some (R30 a0 y):=Zo E30i h
def E34 (x : (Arr 4)×(Arr 4)) : List PV:=[.agg (arC .u64 x.1),.agg (arC .u64 x.2)]
theorem E34i : ∀ a b,E34 a = E34 b→a = b:=by
  rintro ⟨a0,a1⟩ ⟨b0,b1⟩ h
  simpa [E34,and_assoc] using h
def R34 (x : (Arr 4)×(Arr 4)) (y : Int) : PV×List (List Cell):=(.one (.v (.int .i64 y)),[])
noncomputable def G34:=ZL E34 fun x=>(Zba x.1 x.2).map (R34 x)
theorem Zna {a0 : (Arr 4)} {a1 : (Arr 4)} {y : Int} (h : Zba a0 a1 = some y) : G34 (E34 (a0,a1)) = some (R34 (a0,a1) y):=Zo E34i h
def E96 (x : (Arr 4)×Int) : List PV:=[.agg (arC .u64 x.1),.one (.v (.int .i64 x.2))]
theorem E96i : ∀ a b,E96 a = E96 b→a = b:=by
  rintro ⟨a0,a1⟩ ⟨b0,b1⟩ h
  simpa [E96,and_assoc] using h
def R96 (x : (Arr 4)×Int) (y : Bool) : PV×List (List Cell):=(.one (.v (.bool y)),[])
noncomputable def G96:=ZL E96 fun x=>(Zb2 x.1 x.2).map (R96 x)
theorem Ztm {a0 : (Arr 4)} {a1 : Int} {y : Bool} (h : Zb2 a0 a1 = some y) : G96 (E96 (a0,a1)) = some (R96 (a0,a1) y):=Zo E96i h
def E67 (x : (Arr 4)×Int) : List PV:=[.agg (arC .u64 x.1),.one (.v (.int .i64 x.2))]
theorem E67i : ∀ a b,E67 a = E67 b→a = b:=by
  rintro ⟨a0,a1⟩ ⟨b0,b1⟩ h
  simpa [E67,and_assoc] using h
def R67 (x : (Arr 4)×Int) (y : (Arr 4)) : PV×List (List Cell):=(.agg (arC .u64 y),[])
noncomputable def G67:=ZL E67 fun x=>(Zb3 x.1 x.2).map (R67 x)
theorem Ztn {a0 : (Arr 4)} {a1 : Int} {y : (Arr 4)} (h : Zb3 a0 a1 = some y) : G67 (E67 (a0,a1)) = some (R67 (a0,a1) y):=Zo E67i h
def Zlu (x : Int×Int×Int) : List PV:=[.one (.v (.int .u64 x.1)),.one (.v (.int .u64 x.2.1)),.one (.v (.int .u64 x.2.2))]
theorem E106i : ∀ a b,Zlu a = Zlu b→a = b:=by
  rintro ⟨a0,a1,a2⟩ ⟨b0,b1,b2⟩ h
  simpa [Zlu,and_assoc] using h
def ZoH (x : Int×Int×Int) (y : Int×Int) : PV×List (List Cell):=(.tup [.one (.v (.int .u64 y.1)),.one (.v (.int .u64 y.2))],[])
noncomputable def G106:=ZL Zlu fun x=>(Zap x.1 x.2.1 x.2.2).map (ZoH x)
theorem Zsb {a0 : Int} {a1 : Int} {a2 : Int} {y : Int×Int} (h : Zap a0 a1 a2 = some y) : G106 (Zlu (a0,a1,a2)) = some (ZoH (a0,a1,a2) y):=Zo E106i h
def E97 (x : (Arr 4)×(Arr 4)) : List PV:=[.agg (arC .u64 x.1),.agg (arC .u64 x.2)]
theorem E97i : ∀ a b,E97 a = E97 b→a = b:=by
  rintro ⟨a0,a1⟩ ⟨b0,b1⟩ h
  simpa [E97,and_assoc] using h
def R97 (x : (Arr 4)×(Arr 4)) (y : (Arr 4)×Bool) : PV×List (List Cell):=(.tup [.agg (arC .u64 y.1),.one (.v (.bool y.2))],[])
noncomputable def G97:=ZL E97 fun x=>(Zb4 x.1 x.2).map (R97 x)
theorem Zto {a0 : (Arr 4)} {a1 : (Arr 4)} {y : (Arr 4)×Bool} (h : Zb4 a0 a1 = some y) : G97 (E97 (a0,a1)) = some (R97 (a0,a1) y):=Zo E97i h
def E68 (x : Unit) : List PV:=[]
theorem E68i : ∀ a b,E68 a = E68 b→a = b:=fun _ _ _=>rfl
def R68 (x : Unit) (y : (Arr 4)) : PV×List (List Cell):=(.agg (arC .u64 y),[])
noncomputable def G68:=ZL E68 fun x=>(Lref05_Modulus).map (R68 x)
theorem Ztp {y : (Arr 4)} (h : Lref05_Modulus  = some y) : G68 (E68 ()) = some (R68 () y):=Zo E68i h
def E35 (x : Unit) : List PV:=[]
theorem E35i : ∀ a b,E35 a = E35 b→a = b:=fun _ _ _=>rfl
def R35 (x : Unit) (y : (Arr 4)) : PV×List (List Cell):=(.agg (arC .u64 y),[])
noncomputable def G35:=ZL E35 fun x=>(Lref05_Order).map (R35 x)
theorem Zp3 {y : (Arr 4)} (h : Lref05_Order  = some y) : G35 (E35 ()) = some (R35 () y):=Zo E35i h
def E36 (x : Tapi_Signed×Tapi_Signed) : List PV:=[.agg ((.v (.int .i64 x.1.1)) :: ((arC .u64 x.1.2.1)++((arC .u64 x.1.2.2.1)++(arC .u64 x.1.2.2.2)))),.agg ((.v (.int .i64 x.2.1)) :: ((arC .u64 x.2.2.1)++((arC .u64 x.2.2.2.1)++(arC .u64 x.2.2.2.2))))]
theorem E36i : ∀ a b,E36 a = E36 b→a = b:=by
  rintro ⟨⟨a0_0,a0_1,⟨a0_2_0,a0_2_1⟩⟩,⟨a1_0,a1_1,⟨a1_2_0,a1_2_1⟩⟩⟩ ⟨⟨b0_0,b0_1,⟨b0_2_0,b0_2_1⟩⟩,⟨b1_0,b1_1,⟨b1_2_0,b1_2_1⟩⟩⟩ h
  simpa [E36,and_assoc] using h
def R36 (x : Tapi_Signed×Tapi_Signed) (y : Bool) : PV×List (List Cell):=(.one (.v (.bool y)),[])
noncomputable def G36:=ZL E36 fun x=>(XJ x.1 x.2).map (R36 x)
theorem Zp4 {a0 : Tapi_Signed} {a1 : Tapi_Signed} {y : Bool} (h : XJ a0 a1 = some y) : G36 (E36 (a0,a1)) = some (R36 (a0,a1) y):=Zo E36i h
def E12 (x : Tapi_PartialTx) : List PV:=[.agg ([.v (.int .u32 x.1.1.1),.slice .no (List.map Zm x.1.1.2.1),.slice .no (List.map Zk x.1.1.2.2.1),.v (.int .u32 x.1.1.2.2.2),.slice .no (List.map ZB x.1.2.1),.v (.int .i64 x.1.2.2.1),.v (.int .i64 x.1.2.2.2),.slice .no (List.map ZE x.2)])]
theorem E12i : ∀ a b,E12 a = E12 b→a = b:=by
  rintro ⟨⟨⟨a0_0_0_0,a0_0_0_1,a0_0_0_2,a0_0_0_3⟩,a0_0_1,a0_0_2,a0_0_3⟩,a0_1⟩ ⟨⟨⟨b0_0_0_0,b0_0_0_1,b0_0_0_2,b0_0_0_3⟩,b0_0_1,b0_0_2,b0_0_3⟩,b0_1⟩ h
  simpa [E12,and_assoc] using h
def R12 (x : Tapi_PartialTx) (y : Bool) : PV×List (List Cell):=(.one (.v (.bool y)),[])
noncomputable def G12:=ZL E12 fun x=>(X9 x).map (R12 x)
theorem Zp5 {a0 : Tapi_PartialTx} {y : Bool} (h : X9 a0 = some y) : G12 (E12 a0) = some (R12 a0 y):=Zo E12i h
def E40 (x : (List Tapi_Signed)×Int×(Arr 4)) : List PV:=[.one (.slice .no (List.map ZE x.1)),.one (.v (.int .i64 x.2.1)),.agg (arC .u64 x.2.2)]
theorem E40i : ∀ a b,E40 a = E40 b→a = b:=by
  rintro ⟨a0,a1,a2⟩ ⟨b0,b1,b2⟩ h
  simpa [E40,and_assoc] using h
def R40 (x : (List Tapi_Signed)×Int×(Arr 4)) (y : Int) : PV×List (List Cell):=(.one (.v (.int .i64 y)),[])
noncomputable def G40:=ZL E40 fun x=>(Zay x.1 x.2.1 x.2.2).map (R40 x)
theorem Ztq {a0 : (List Tapi_Signed)} {a1 : Int} {a2 : (Arr 4)} {y : Int} (h : Zay a0 a1 a2 = some y) : G40 (E40 (a0,a1,a2)) = some (R40 (a0,a1,a2) y):=Zo E40i h
def E41 (x : (List Tapi_Signed)×Tapi_Signed) : List PV:=[.one (.slice .no (List.map ZE x.1)),.agg ((.v (.int .i64 x.2.1)) :: ((arC .u64 x.2.2.1)++((arC .u64 x.2.2.2.1)++(arC .u64 x.2.2.2.2))))]
theorem E41i : ∀ a b,E41 a = E41 b→a = b:=by
  rintro ⟨a0,⟨a1_0,a1_1,⟨a1_2_0,a1_2_1⟩⟩⟩ ⟨b0,⟨b1_0,b1_1,⟨b1_2_0,b1_2_1⟩⟩⟩ h
  simpa [E41,and_assoc] using h
def R41 (x : (List Tapi_Signed)×Tapi_Signed) (y : (List Tapi_Signed)) : PV×List (List Cell):=(.one (.own 13 (List.map ZE y)),[])
noncomputable def G41:=ZL E41 fun x=>(Zb6 x.1 x.2).map (R41 x)
theorem Ztr {a0 : (List Tapi_Signed)} {a1 : Tapi_Signed} {y : (List Tapi_Signed)} (h : Zb6 a0 a1 = some y) : G41 (E41 (a0,a1)) = some (R41 (a0,a1) y):=Zo E41i h
def E16 (x : Tapi_PartialTx×Tapi_PartialTx) : List PV:=[.agg ([.v (.int .u32 x.1.1.1.1),.slice .no (List.map Zm x.1.1.1.2.1),.slice .no (List.map Zk x.1.1.1.2.2.1),.v (.int .u32 x.1.1.1.2.2.2),.slice .no (List.map ZB x.1.1.2.1),.v (.int .i64 x.1.1.2.2.1),.v (.int .i64 x.1.1.2.2.2),.slice .no (List.map ZE x.1.2)]),.agg ([.v (.int .u32 x.2.1.1.1),.slice .no (List.map Zm x.2.1.1.2.1),.slice .no (List.map Zk x.2.1.1.2.2.1),.v (.int .u32 x.2.1.1.2.2.2),.slice .no (List.map ZB x.2.1.2.1),.v (.int .i64 x.2.1.2.2.1),.v (.int .i64 x.2.1.2.2.2),.slice .no (List.map ZE x.2.2)])]
theorem E16i : ∀ a b,E16 a = E16 b→a = b:=by
  rintro ⟨⟨⟨⟨a0_0_0_0,a0_0_0_1,a0_0_0_2,a0_0_0_3⟩,a0_0_1,a0_0_2,a0_0_3⟩,a0_1⟩,⟨⟨⟨a1_0_0_0,a1_0_0_1,a1_0_0_2,a1_0_0_3⟩,a1_0_1,a1_0_2,a1_0_3⟩,a1_1⟩⟩ ⟨⟨⟨⟨b0_0_0_0,b0_0_0_1,b0_0_0_2,b0_0_0_3⟩,b0_0_1,b0_0_2,b0_0_3⟩,b0_1⟩,⟨⟨⟨b1_0_0_0,b1_0_0_1,b1_0_0_2,b1_0_0_3⟩,b1_0_1,b1_0_2,b1_0_3⟩,b1_1⟩⟩ h
  simpa [E16,and_assoc] using h
def R16 (x : Tapi_PartialTx×Tapi_PartialTx) (y : Tapi_PartialTx×Int) : PV×List (List Cell):=(.tup [.agg ([.v (.int .u32 y.1.1.1.1),.slice .no (List.map Zm y.1.1.1.2.1),.slice .no (List.map Zk y.1.1.1.2.2.1),.v (.int .u32 y.1.1.1.2.2.2),.slice .no (List.map ZB y.1.1.2.1),.v (.int .i64 y.1.1.2.2.1),.v (.int .i64 y.1.1.2.2.2),.slice .no (List.map ZE y.1.2)]),.one (.v (.int .i64 y.2))],[])
noncomputable def G16:=ZL E16 fun x=>(ZaH x.1 x.2).map (R16 x)
theorem Zts {a0 : Tapi_PartialTx} {a1 : Tapi_PartialTx} {y : Tapi_PartialTx×Int} (h : ZaH a0 a1 = some y) : G16 (E16 (a0,a1)) = some (R16 (a0,a1) y):=Zo E16i h
def E4 (x : (List Int)×(List Int)×Int×Int) : List PV:=[.one (.slice .no (Zl .i64 x.1)),.one (.slice .no (Zl .i64 x.2.1)),.one (.v (.int .i64 x.2.2.1)),.one (.v (.int .i64 x.2.2.2))]
theorem E4i : ∀ a b,E4 a = E4 b→a = b:=by
  rintro ⟨a0,a1,a2,a3⟩ ⟨b0,b1,b2,b3⟩ h
  simpa [E4,and_assoc] using h
def R4 (x : (List Int)×(List Int)×Int×Int) (y : Bool) : PV×List (List Cell):=(.one (.v (.bool y)),[])
noncomputable def G4:=ZL E4 fun x=>(Y2 x.1 x.2.1 x.2.2.1 x.2.2.2).map (R4 x)
theorem Zua {a0 : (List Int)} {a1 : (List Int)} {a2 : Int} {a3 : Int} {y : Bool} (h : Y2 a0 a1 a2 a3 = some y) : G4 (E4 (a0,a1,a2,a3)) = some (R4 (a0,a1,a2,a3) y):=Zo E4i h
end Go.Proofs.YtbjhgolpnjokbaaGreat
