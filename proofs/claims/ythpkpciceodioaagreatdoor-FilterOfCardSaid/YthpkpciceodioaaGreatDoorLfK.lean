import Derived.Test.YthpkpciceodioaaGreatDoorLcG3
import Derived.Test.YthpkpciceodioaaGreatDoorLcG1
import Derived.Test.YthpkpciceodioaaGreatDoorLcG1
import Derived.Test.YthpkpciceodioaaGreatDoorLcG3
import Derived.Test.YthpkpciceodioaaGreatDoorTt
namespace Go.Proofs.YthpkpciceodioaaGreatDoor
open Go.RowKit
open Go.Av
open Go.Lc
set_option maxRecDepth 100000
set_option linter.unusedSimpArgs false
set_option linter.unusedVariables false
attribute [simp] tt1 tt2 tt3 tt4 tt5 tt6 tt7 tt8 tt9 tt10 tt11 tt12 tt13 tt14 tt15 tt16 tt17 tt18 tt19 tt21 tt22 tt23 tt24 tt25 tt26 tt27 tt28 tt29 tt30 tt31 tt32 tt33 tt34 tt35 tt37 tt38 tt39 tt40 tt41 tt42 tt44 tt45 tt46 tt47 tt48 tt49 tt50 tt51 tt52 tt53 tt54 tt55 tt56 tt57 tt58 tt59 tt60 tt61 tt62 tt63 tt64 tt65 tt66 tt67 tt68 tt69 tt70 tt72 tt73 tt74 tt75 tt77 tt78 tt79 tt80 tt81 tt82 tt83 tt85 tt86 tt107 tt109 tt119 tt120 tt121 tt122 tt123 tt124 tt126 tt127 tt140 tt151 tt152 tt171 tt172 tt182 tt183 tt189 tt191 tt193 tt199 tt203 tt204 tt207 tt222 tt238 tt246 tt256 tt265 tt266 tt274 tt278 tt280 tt289 tt297 tt301 tt302 tt328 tt329 tt330 tt331 tt332 tt334 tt335 tt336 tt337 tt338 tt339 tt340 tt341 ti1 ti2 ti3 ti4 ti5 ti6 ti7 ti8 ti9 ti10 ti11 ti12 ti13 ti14 ti15 ti16 ti17 ti18 ti19 ti21 ti22 ti23 ti24 ti25 ti26 ti27 ti28 ti29 ti30 ti31 ti32 ti33 ti34 ti35 ti37 ti38 ti39 ti40 ti41 ti42 ti44 ti45 ti46 ti47 ti48 ti49 ti50 ti51 ti52 ti53 ti54 ti55 ti56 ti57 ti58 ti59 ti60 ti61 ti62 ti63 ti64 ti65 ti66 ti67 ti68 ti69 ti70 ti72 ti73 ti74 ti75 ti77 ti78 ti79 ti80 ti81 ti82 ti83 ti85 ti86 ti107 ti109 ti119 ti120 ti121 ti122 ti123 ti124 ti126 ti127 ti140 ti151 ti152 ti171 ti172 ti182 ti183 ti189 ti191 ti193 ti199 ti203 ti204 ti207 ti222 ti238 ti246 ti256 ti265 ti266 ti274 ti278 ti280 ti289 ti297 ti301 ti302 ti328 ti329 ti330 ti331 ti332 ti334 ti335 ti336 ti337 ti338 ti339 ti340 ti341
@[simp] theorem ZwK {n:Nat} {k:IntKind} {l:List (Arr n)}:l.any ((fun l=>l.any Cell.isSl) ∘ arC k)=false:=by simp [arC,ints]
@[simp↓] theorem Zwr {k:IntKind} (m:List Int) (n:Nat):(∀ l,l∈List.drop n (Zd k m)→l.length=1)=True:=eq_true fun l h=>intsR_all l (List.mem_of_mem_drop h)
@[simp↓] theorem Zws {k:IntKind} (m:List Int) (n:Nat):(∀ l,l∈List.take n (Zd k m)→l.length=1)=True:=eq_true fun l h=>intsR_all l (List.mem_of_mem_take h)
@[simp↓] theorem Zwt {k:IntKind} (m:List Int):(∀ l,l∈(Zd k m).tail→l.length=1)=True:=eq_true fun l h=>intsR_all l (List.mem_of_mem_tail h)
@[simp↓] theorem ZvM {k:IntKind} (m:List Int) (n:Nat):(∀ l,l∈List.take n (Zd k m).tail→l.length=1)=True:=eq_true fun l h=>intsR_all l (List.mem_of_mem_tail (List.mem_of_mem_take h))
@[simp↓] theorem ZvN {k:IntKind} (m:List Int) (n:Nat):(∀ l,l∈List.drop n (Zd k m).tail→l.length=1)=True:=eq_true fun l h=>intsR_all l (List.mem_of_mem_tail (List.mem_of_mem_drop h))
@[simp] theorem arC_z8:arC .u64 (zA 8)=arC .u64 (zA 4)++arC .u64 (zA 4):=rfl
@[simp] theorem arC_z12:arC .u64 (zA 12)=arC .u64 (zA 4)++(arC .u64 (zA 4)++arC .u64 (zA 4)):=rfl
@[simp] def ZJ (x:(List Int)):List Cell:=[.slice .no (Zd .u8 x)]
theorem eS_I_u8_inj:∀ a b,ZJ a=ZJ b→a=b:=by
  rintro a b h
  simpa [and_assoc] using h
@[simp↓] theorem Zkw (m:List (List Int)):(∀ l,l∈List.map ZJ m→l.length=1)=True:=ZeI (fun a=>by simp) m
@[simp↓] theorem ZuW (m:List (List Int)) (k:Nat):(∀ l,l∈List.drop k (List.map ZJ m)→l.length=1)=True:=eq_true fun l h=>of_eq_true (Zkw m) l (List.mem_of_mem_drop h)
@[simp↓] theorem ZuX (m:List (List Int)) (k:Nat):(∀ l,l∈List.take k (List.map ZJ m)→l.length=1)=True:=eq_true fun l h=>of_eq_true (Zkw m) l (List.mem_of_mem_take h)
@[simp] theorem ZvO {l m:List (List Int)}:List.map ZJ l=List.map ZJ m↔l=m:=Zii eS_I_u8_inj
@[simp] def Zs (x:Tapi_Input):List Cell:=(arC .u8 x.1.1)++((.v (.int .u32 x.1.2)) :: ((.v (.int .u32 x.2.1)) :: ((.slice .no (List.map ZJ x.2.2)) :: [])))
theorem eapi_Input_inj:∀ a b,Zs a=Zs b→a=b:=by
  rintro ⟨⟨a_0_0,a_0_1⟩,a_1,a_2⟩ ⟨⟨b_0_0,b_0_1⟩,b_1,b_2⟩ h
  simpa [and_assoc] using h
@[simp↓] theorem Zix (m:List Tapi_Input):(∀ l,l∈List.map Zs m→l.length=35)=True:=ZeI (fun a=>by simp) m
@[simp↓] theorem Zsr (m:List Tapi_Input) (k:Nat):(∀ l,l∈List.drop k (List.map Zs m)→l.length=35)=True:=eq_true fun l h=>of_eq_true (Zix m) l (List.mem_of_mem_drop h)
@[simp↓] theorem Zss (m:List Tapi_Input) (k:Nat):(∀ l,l∈List.take k (List.map Zs m)→l.length=35)=True:=eq_true fun l h=>of_eq_true (Zix m) l (List.mem_of_mem_take h)
@[simp] theorem ZtE {l m:List Tapi_Input}:List.map Zs l=List.map Zs m↔l=m:=Zii eapi_Input_inj
@[simp] def Zr (x:Tapi_Output):List Cell:=[.v (.int .i64 x.1),.slice .no (Zd .u8 x.2)]
theorem eapi_Output_inj:∀ a b,Zr a=Zr b→a=b:=by
  rintro ⟨a_0,a_1⟩ ⟨b_0,b_1⟩ h
  simpa [and_assoc] using h
@[simp↓] theorem ZhZ (m:List Tapi_Output):(∀ l,l∈List.map Zr m→l.length=2)=True:=ZeI (fun a=>by simp) m
@[simp↓] theorem Zsh (m:List Tapi_Output) (k:Nat):(∀ l,l∈List.drop k (List.map Zr m)→l.length=2)=True:=eq_true fun l h=>of_eq_true (ZhZ m) l (List.mem_of_mem_drop h)
@[simp↓] theorem Zsi (m:List Tapi_Output) (k:Nat):(∀ l,l∈List.take k (List.map Zr m)→l.length=2)=True:=eq_true fun l h=>of_eq_true (ZhZ m) l (List.mem_of_mem_take h)
@[simp] theorem Zst {l m:List Tapi_Output}:List.map Zr l=List.map Zr m↔l=m:=Zii eapi_Output_inj
@[simp] def YD (x:Tapi_Tx):List Cell:=[.v (.int .u32 x.1),.slice .no (List.map Zs x.2.1),.slice .no (List.map Zr x.2.2.1),.v (.int .u32 x.2.2.2)]
theorem eapi_Tx_inj:∀ a b,YD a=YD b→a=b:=by
  rintro ⟨a_0,a_1,a_2,a_3⟩ ⟨b_0,b_1,b_2,b_3⟩ h
  simpa [and_assoc] using h
@[simp↓] theorem Zkx (m:List Tapi_Tx):(∀ l,l∈List.map YD m→l.length=4)=True:=ZeI (fun a=>by simp) m
@[simp↓] theorem ZuY (m:List Tapi_Tx) (k:Nat):(∀ l,l∈List.drop k (List.map YD m)→l.length=4)=True:=eq_true fun l h=>of_eq_true (Zkx m) l (List.mem_of_mem_drop h)
@[simp↓] theorem ZuZ (m:List Tapi_Tx) (k:Nat):(∀ l,l∈List.take k (List.map YD m)→l.length=4)=True:=eq_true fun l h=>of_eq_true (Zkx m) l (List.mem_of_mem_take h)
@[simp] theorem ZvP {l m:List Tapi_Tx}:List.map YD l=List.map YD m↔l=m:=Zii eapi_Tx_inj
theorem nfs:(∀ x:(List Int),ZJ x=[.slice .no (Zd .u8 x)])∧(∀ x:Tapi_Input,Zs x=(arC .u8 x.1.1)++((.v (.int .u32 x.1.2)) :: ((.v (.int .u32 x.2.1)) :: ((.slice .no (List.map ZJ x.2.2)) :: []))))∧(∀ x:Tapi_Output,Zr x=[.v (.int .i64 x.1),.slice .no (Zd .u8 x.2)])∧(∀ x:Tapi_Tx,YD x=[.v (.int .u32 x.1),.slice .no (List.map Zs x.2.1),.slice .no (List.map Zr x.2.2.1),.v (.int .u32 x.2.2.2)]):=⟨fun _=>rfl,fun _=>rfl,fun _=>rfl,fun _=>rfl⟩
@[simp] def Zgg (x:ByteArray×Bool):List Cell:=([.v (.string x.1)])++([.v (.bool x.2)])
theorem eM_Str_B_he:∀ a b:ByteArray,kEq ([.v (.string a)]) ([.v (.string b)])=decide (a=b):=by
  rintro a b
  rw [Bool.eq_iff_iff];simp [kEq,kEq1]
@[simp] theorem Zu0 {k0:ByteArray} {l:List (ByteArray×Bool)}:Zfa 1 ([.v (.string k0)]) (List.map Zgg l)=Option.map (fun v:Bool=>([.v (.bool v)]:List Cell)) (ZfE k0 l):=Znh (eK:=(fun k:ByteArray=>([.v (.string k)]:List Cell))) (eV:=(fun v:Bool=>([.v (.bool v)]:List Cell))) (fun k=>by simp) eM_Str_B_he k0 l
@[simp] theorem Zu1 {k0:ByteArray} {v0:Bool} {l:List (ByteArray×Bool)}:ZfU 1 ([.v (.string k0)]) ([.v (.bool v0)]) (List.map Zgg l)=List.map Zgg (ZfF k0 v0 l):=Zni (eK:=(fun k:ByteArray=>([.v (.string k)]:List Cell))) (eV:=(fun v:Bool=>([.v (.bool v)]:List Cell))) (fun k=>by simp) eM_Str_B_he k0 v0 l
@[simp] theorem ZvQ (o:Option Bool):(Option.map (fun v:Bool=>([.v (.bool v)]:List Cell)) o).getD ([.v (.bool false)])=[.v (.bool (o.getD false))]:=by cases o <;> rfl
@[simp] theorem Zui {k0:ByteArray} {v0:Bool}:ZfU 1 ([.v (.string k0)]) ([.v (.bool v0)]) []=List.map Zgg (ZfF k0 v0 []):=rfl
theorem bN {α β:Type} {o:Option α} {f:α→Option β} {y:β} {P P':α→Prop} (h:o.bind f=some y) (k:∀ {x},o=some x→P x) (n:∀ x,P x→P' x:=by intro x h; try simp only [nf,nfs] at h; exact h):∃ x,P' x∧f x=some y :=
  let ⟨x,h1,h2⟩:=bs h
  ⟨x,n x (k h1),h2⟩
theorem goA {P R:Prop} (k:R) (h:∀ X:Prop,Zi0 X R→Imp X P:=by
  intro X e
  repeat (first
    | (with_reducible refine Zf8 ?_)
    | (with_reducible refine ZdF ?_)
    | (with_reducible refine ZcP ?_)
    | (with_reducible refine ZdG ?_)
    | (with_reducible refine Zev ?_)
    | (with_reducible refine Zf9 ?_)
    | (with_reducible refine Zhj ?_)
    | (with_reducible refine Zhk ?_)
    | (with_reducible refine Zin ?_)
    | (with_reducible refine ZcQ ?_ ?_; · simp [-Int.ofNat_toNat,bV, *]; done)
    | (with_reducible refine ZcR ?_ ?_; · simp [-Int.ofNat_toNat,bV, *]; done)
    | (refine Zeu rfl (by first | (simp [-Int.ofNat_toNat,Nat.add_assoc, *] <;> rfl) | fail) ?_)
    | (refine ZdE rfl (by simp [-Int.ofNat_toNat,Nat.add_assoc, *]; first | exact ⟨rfl,rfl⟩ | rfl) (by kernel_rfl) ?_)
    | (with_reducible refine Zga ?_ ?_; · simp [-Int.ofNat_toNat,bV, *]; done)
    | (with_reducible refine Zgb ?_ ?_; · simp [-Int.ofNat_toNat,bV, *]; done)
    | (refine Zim rfl (by first | (simp [-Int.ofNat_toNat,Nat.add_assoc, *] <;> rfl) | fail) ?_)
    | (refine Zhi rfl (by simp [-Int.ofNat_toNat,Nat.add_assoc, *]; first | exact ⟨rfl,rfl⟩ | rfl) (by kernel_rfl) ?_)
    | (refine Zkb ?_ (by simp only [pq,reduceCtorEq]; rfl)))
  exact Imp.of e):P:=h R ⟨rfl⟩ k
theorem Xd {P R:Prop} (k:R) (h:∀ X:Prop,Zi0 X R→Imp X P:=by
  intro X e
  repeat (first
    | (with_reducible refine Zf8 ?_)
    | (with_reducible refine ZdF ?_)
    | (with_reducible refine ZcP ?_)
    | (with_reducible refine ZdG ?_)
    | (with_reducible refine Zev ?_)
    | (with_reducible refine Zf9 ?_)
    | (with_reducible refine Zhj ?_)
    | (with_reducible refine Zhk ?_)
    | (with_reducible refine Zin ?_)
    | (with_reducible refine ZcQ ?_ ?_; · simp [-Int.ofNat_toNat,bV, *]; done)
    | (with_reducible refine ZcR ?_ ?_; · simp [-Int.ofNat_toNat,bV, *]; done)
    | (refine Zeu rfl (by first | (simp [-Int.ofNat_toNat,Nat.add_assoc,-Int.natCast_tdiv_eq_ediv, *] <;> rfl) | fail) ?_)
    | (refine ZdE rfl (by simp [-Int.ofNat_toNat,Nat.add_assoc,-Int.natCast_tdiv_eq_ediv, *]; first | exact ⟨rfl,rfl⟩ | rfl) (by kernel_rfl) ?_)
    | (with_reducible refine Zga ?_ ?_; · simp [-Int.ofNat_toNat,bV, *]; done)
    | (with_reducible refine Zgb ?_ ?_; · simp [-Int.ofNat_toNat,bV, *]; done)
    | (refine Zim rfl (by first | (simp [-Int.ofNat_toNat,Nat.add_assoc,-Int.natCast_tdiv_eq_ediv, *] <;> rfl) | fail) ?_)
    | (refine Zhi rfl (by simp [-Int.ofNat_toNat,Nat.add_assoc,-Int.natCast_tdiv_eq_ediv, *]; first | exact ⟨rfl,rfl⟩ | rfl) (by kernel_rfl) ?_)
    | (refine Zkb ?_ (by simp only [pq,reduceCtorEq]; rfl)))
  exact Imp.of e):P:=h R ⟨rfl⟩ k
theorem ZbC {P R:Prop} (k:R) (h:∀ X:Prop,Zi0 X R→Imp X P:=by
  intro X e
  repeat (first
    | (with_reducible refine Zf8 ?_)
    | (with_reducible refine ZdF ?_)
    | (with_reducible refine ZcP ?_)
    | (with_reducible refine ZdG ?_)
    | (with_reducible refine Zev ?_)
    | (with_reducible refine Zf9 ?_)
    | (with_reducible refine Zhj ?_)
    | (with_reducible refine Zhk ?_)
    | (with_reducible refine Zin ?_)
    | (with_reducible refine ZcQ ?_ ?_; · simp [-Int.ofNat_toNat,bV, *]; done)
    | (with_reducible refine ZcR ?_ ?_; · simp [-Int.ofNat_toNat,bV, *]; done)
    | (refine Zeu rfl (by first | (simp [-Int.ofNat_toNat,Nat.add_assoc,-Int.natCast_tdiv_eq_ediv,List.range,List.range.loop,-Xf,-List.take_append,-List.drop_append, *] <;> rfl) | fail) ?_)
    | (refine ZdE rfl (by simp [-Int.ofNat_toNat,Nat.add_assoc,-Int.natCast_tdiv_eq_ediv,List.range,List.range.loop,-Xf,-List.take_append,-List.drop_append, *]; first | exact ⟨rfl,rfl⟩ | rfl) (by kernel_rfl) ?_)
    | (with_reducible refine Zga ?_ ?_; · simp [-Int.ofNat_toNat,bV, *]; done)
    | (with_reducible refine Zgb ?_ ?_; · simp [-Int.ofNat_toNat,bV, *]; done)
    | (refine Zim rfl (by first | (simp [-Int.ofNat_toNat,Nat.add_assoc,-Int.natCast_tdiv_eq_ediv,List.range,List.range.loop,-Xf,-List.take_append,-List.drop_append, *] <;> rfl) | fail) ?_)
    | (refine Zhi rfl (by simp [-Int.ofNat_toNat,Nat.add_assoc,-Int.natCast_tdiv_eq_ediv,List.range,List.range.loop,-Xf,-List.take_append,-List.drop_append, *]; first | exact ⟨rfl,rfl⟩ | rfl) (by kernel_rfl) ?_)
    | (refine Zkb ?_ (by simp only [pq,reduceCtorEq]; rfl)))
  exact Imp.of e):P:=h R ⟨rfl⟩ k
theorem goL {P R:Prop} (k:R) (h:∀ X:Prop,Zi0 X R→Imp X P:=by
  intro X e
  repeat (first
    | (with_reducible refine Zf8 ?_)
    | (with_reducible refine ZdF ?_)
    | (with_reducible refine ZcP ?_)
    | (with_reducible refine ZdG ?_)
    | (with_reducible refine Zev ?_)
    | (with_reducible refine Zf9 ?_)
    | (with_reducible refine Zhj ?_)
    | (with_reducible refine Zhk ?_)
    | (with_reducible refine Zin ?_)
    | (with_reducible refine ZcQ ?_ ?_; · simp [-Int.ofNat_toNat,bV, *]; done)
    | (with_reducible refine ZcR ?_ ?_; · simp [-Int.ofNat_toNat,bV, *]; done)
    | (refine Zeu rfl (by first | (simp [-Int.ofNat_toNat,-Za,Zj, *] <;> rfl) | fail) ?_)
    | (refine ZdE rfl (by simp [-Int.ofNat_toNat,-Za,Zj, *]; first | exact ⟨rfl,rfl⟩ | rfl) (by kernel_rfl) ?_)
    | (with_reducible refine Zga ?_ ?_; · simp [-Int.ofNat_toNat,bV, *]; done)
    | (with_reducible refine Zgb ?_ ?_; · simp [-Int.ofNat_toNat,bV, *]; done)
    | (refine Zim rfl (by first | (simp [-Int.ofNat_toNat,-Za,Zj, *] <;> rfl) | fail) ?_)
    | (refine Zhi rfl (by simp [-Int.ofNat_toNat,-Za,Zj, *]; first | exact ⟨rfl,rfl⟩ | rfl) (by kernel_rfl) ?_)
    | (refine Zkb ?_ (by simp only [pq,reduceCtorEq]; rfl)))
  exact Imp.of e):P:=h R ⟨rfl⟩ k
theorem goR {P R:Prop} (k:R) (h:∀ X:Prop,Zi0 X R→Imp X P:=by
  intro X e
  repeat (first
    | (with_reducible refine Zf8 ?_)
    | (with_reducible refine ZdF ?_)
    | (with_reducible refine ZcP ?_)
    | (with_reducible refine ZdG ?_)
    | (with_reducible refine Zev ?_)
    | (with_reducible refine Zf9 ?_)
    | (with_reducible refine Zhj ?_)
    | (with_reducible refine Zhk ?_)
    | (with_reducible refine Zin ?_)
    | (with_reducible refine ZcQ ?_ ?_; · simp [-Int.ofNat_toNat,bV, *]; done)
    | (with_reducible refine ZcR ?_ ?_; · simp [-Int.ofNat_toNat,bV, *]; done)
    | (refine Zeu rfl (by first | (simp [-Int.ofNat_toNat,List.range,List.range.loop, *] <;> rfl) | fail) ?_)
    | (refine ZdE rfl (by simp [-Int.ofNat_toNat,List.range,List.range.loop, *]; first | exact ⟨rfl,rfl⟩ | rfl) (by kernel_rfl) ?_)
    | (with_reducible refine Zga ?_ ?_; · simp [-Int.ofNat_toNat,bV, *]; done)
    | (with_reducible refine Zgb ?_ ?_; · simp [-Int.ofNat_toNat,bV, *]; done)
    | (refine Zim rfl (by first | (simp [-Int.ofNat_toNat,List.range,List.range.loop, *] <;> rfl) | fail) ?_)
    | (refine Zhi rfl (by simp [-Int.ofNat_toNat,List.range,List.range.loop, *]; first | exact ⟨rfl,rfl⟩ | rfl) (by kernel_rfl) ?_)
    | (refine Zkb ?_ (by simp only [pq,reduceCtorEq]; rfl)))
  exact Imp.of e):P:=h R ⟨rfl⟩ k
def G:Glob:=fun g=>if g=0 then some (arC .u32 shaInitial) else if g=1 then some (arC .u32 shaK) else none
@[simp] theorem G_at0:G 0=some (arC .u32 shaInitial):=rfl
@[simp] theorem G_at1:G 1=some (arC .u32 shaK):=rfl
noncomputable abbrev K9:Con Unit Bool:=⟨fun _=>[],fun _ y=>(.one (.v (.bool y)),[]),fun _=>Lconst_true⟩
theorem i9:K9.Inj:=fun _ _ _=>rfl
theorem Zwu { y} (h:Lconst_true  = some y):K9.G (K9.E ())=some (K9.R () y):=i9.eq h
noncomputable abbrev K17:Con ((List (List Int))×Int×Int) Bool:=⟨fun x=>[.one (.slice .no (List.map ZJ x.1)),.one (.v (.int .i64 x.2.1)),.one (.v (.int .i64 x.2.2))],fun _ y=>(.one (.v (.bool y)),[]),fun x=>ZdA x.1 x.2.1 x.2.2⟩
theorem i17:K17.Inj:=by intro a b h; simpa [K17,Prod.ext_iff,and_assoc] using h
theorem Zu2 {a0 a1 a2 y} (h:ZdA a0 a1 a2=some y):K17.G (K17.E (a0,a1,a2))=some (K17.R (a0,a1,a2) y):=i17.eq h
noncomputable abbrev K34:Con Tapi_Tx Bool:=⟨fun x=>[.agg ([.v (.int .u32 x.1),.slice .no (List.map Zs x.2.1),.slice .no (List.map Zr x.2.2.1),.v (.int .u32 x.2.2.2)])],fun _ y=>(.one (.v (.bool y)),[]),fun x=>Zf7 x⟩
theorem i34:K34.Inj:=by intro a b h; simpa [K34,Prod.ext_iff,and_assoc] using h
theorem Zu3 {a0 y} (h:Zf7 a0=some y):K34.G (K34.E a0)=some (K34.R a0 y):=i34.eq h
noncomputable abbrev K10:Con Tapi_Block Bool:=⟨fun x=>[.agg ((.v (.int .u32 x.1.1)) :: ((arC .u8 x.1.2.1)++((arC .u8 x.1.2.2.1)++((.v (.int .u32 x.1.2.2.2.1)) :: ((.v (.int .u32 x.1.2.2.2.2.1)) :: ((.v (.int .u32 x.1.2.2.2.2.2)) :: ((.slice .no (List.map YD x.2)) :: [])))))))],fun _ y=>(.one (.v (.bool y)),[]),fun x=>ZdD x⟩
theorem i10:K10.Inj:=by intro a b h; simpa [K10,Prod.ext_iff,and_assoc] using h
theorem Zu4 {a0 y} (h:ZdD a0=some y):K10.G (K10.E a0)=some (K10.R a0 y):=i10.eq h
def E42 (x:(List Int)):List PV:=[.one (.slice .no (Zd .u8 x))]
theorem E42i:∀ a b,E42 a=E42 b→a=b:=by
  rintro a0 b0 h
  simpa [E42,and_assoc] using h
def R42 (x:(List Int)) (y:(List Int)):PV×List (List Cell):=(.one (.own 1 (Zd .u8 y)),[])
noncomputable def G42:=XW E42 fun x=>(YG x).map (R42 x)
theorem Zu5 {a0:(List Int)} {y:(List Int)} (h:YG a0=some y):G42 (E42 a0)=some (R42 a0 y):=Xx E42i h
noncomputable abbrev K79:Con Tapi_OutPoint Bool:=⟨fun x=>[.agg ((arC .u8 x.1)++((.v (.int .u32 x.2)) :: []))],fun _ y=>(.one (.v (.bool y)),[]),fun x=>ZhA x⟩
theorem i79:K79.Inj:=by intro a b h; simpa [K79,Prod.ext_iff,and_assoc] using h
theorem Zu6 {a0 y} (h:ZhA a0=some y):K79.G (K79.E a0)=some (K79.R a0 y):=i79.eq h
noncomputable abbrev K43:Con Tapi_Tx Bool:=⟨fun x=>[.agg ([.v (.int .u32 x.1),.slice .no (List.map Zs x.2.1),.slice .no (List.map Zr x.2.2.1),.v (.int .u32 x.2.2.2)])],fun _ y=>(.one (.v (.bool y)),[]),fun x=>ZcK x⟩
theorem i43:K43.Inj:=by intro a b h; simpa [K43,Prod.ext_iff,and_assoc] using h
theorem Zu7 {a0 y} (h:ZcK a0=some y):K43.G (K43.E a0)=some (K43.R a0 y):=i43.eq h
noncomputable abbrev K97:Con ((List Int)×(List Int)) ((List Int)):=⟨fun x=>[.one (.slice .no (Zd .u8 x.1)),.one (.slice .no (Zd .u8 x.2))],fun _ y=>(.one (.own 1 (Zd .u8 y)),[]),fun x=>Xi x.1 x.2⟩
theorem i97:K97.Inj:=by intro a b h; simpa [K97,Prod.ext_iff,and_assoc] using h
theorem ZfO {a0 a1 y} (h:Xi a0 a1=some y):K97.G (K97.E (a0,a1))=some (K97.R (a0,a1) y):=i97.eq h
noncomputable abbrev K119:Con (Int×Int) ((List Int)):=⟨fun x=>[.one (.v (.int .u64 x.1)),.one (.v (.int .i64 x.2))],fun _ y=>(.one (.own 1 (Zd .u8 y)),[]),fun x=>XC x.1 x.2⟩
theorem i119:K119.Inj:=by intro a b h; simpa [K119,Prod.ext_iff,and_assoc] using h
theorem ZlQ {a0 a1 y} (h:XC a0 a1=some y):K119.G (K119.E (a0,a1))=some (K119.R (a0,a1) y):=i119.eq h
noncomputable abbrev K80:Con ((List Int)×Int) ((List Int)):=⟨fun x=>[.one (.slice .no (Zd .u8 x.1)),.one (.v (.int .u32 x.2))],fun _ y=>(.one (.own 1 (Zd .u8 y)),[]),fun x=>YJ x.1 x.2⟩
theorem i80:K80.Inj:=by intro a b h; simpa [K80,Prod.ext_iff,and_assoc] using h
theorem ZfP {a0 a1 y} (h:YJ a0 a1=some y):K80.G (K80.E (a0,a1))=some (K80.R (a0,a1) y):=i80.eq h
noncomputable abbrev K81:Con ((List Int)×(Arr 32)) ((List Int)):=⟨fun x=>[.one (.slice .no (Zd .u8 x.1)),.agg (arC .u8 x.2)],fun _ y=>(.one (.own 1 (Zd .u8 y)),[]),fun x=>XF x.1 x.2⟩
theorem i81:K81.Inj:=by intro a b h; simpa [K81,Prod.ext_iff,and_assoc] using h
theorem ZnP {a0 a1 y} (h:XF a0 a1=some y):K81.G (K81.E (a0,a1))=some (K81.R (a0,a1) y):=i81.eq h
noncomputable abbrev K44:Con Tapi_OutPoint ((List Int)):=⟨fun x=>[.agg ((arC .u8 x.1)++((.v (.int .u32 x.2)) :: []))],fun _ y=>(.one (.own 1 (Zd .u8 y)),[]),fun x=>ZcS x⟩
theorem i44:K44.Inj:=by intro a b h; simpa [K44,Prod.ext_iff,and_assoc] using h
theorem ZqV {a0 y} (h:ZcS a0=some y):K44.G (K44.E a0)=some (K44.R a0 y):=i44.eq h
noncomputable abbrev K14:Con Tapi_Block ((List (List Int))):=⟨fun x=>[.agg ((.v (.int .u32 x.1.1)) :: ((arC .u8 x.1.2.1)++((arC .u8 x.1.2.2.1)++((.v (.int .u32 x.1.2.2.2.1)) :: ((.v (.int .u32 x.1.2.2.2.2.1)) :: ((.v (.int .u32 x.1.2.2.2.2.2)) :: ((.slice .no (List.map YD x.2)) :: [])))))))],fun _ y=>(.one (.own 1 (List.map ZJ y)),[]),fun x=>Zax x⟩
theorem i14:K14.Inj:=by intro a b h; simpa [K14,Prod.ext_iff,and_assoc] using h
theorem ZqW {a0 y} (h:Zax a0=some y):K14.G (K14.E a0)=some (K14.R a0 y):=i14.eq h
noncomputable abbrev K98:Con ((List Int)×Int) ((List Int)):=⟨fun x=>[.one (.slice .no (Zd .u8 x.1)),.one (.v (.int .u16 x.2))],fun _ y=>(.one (.own 1 (Zd .u8 y)),[]),fun x=>ZaV x.1 x.2⟩
theorem i98:K98.Inj:=by intro a b h; simpa [K98,Prod.ext_iff,and_assoc] using h
theorem Zu8 {a0 a1 y} (h:ZaV a0 a1=some y):K98.G (K98.E (a0,a1))=some (K98.R (a0,a1) y):=i98.eq h
noncomputable abbrev K99:Con ((List Int)×Int) ((List Int)):=⟨fun x=>[.one (.slice .no (Zd .u8 x.1)),.one (.v (.int .u64 x.2))],fun _ y=>(.one (.own 1 (Zd .u8 y)),[]),fun x=>Zar x.1 x.2⟩
theorem i99:K99.Inj:=by intro a b h; simpa [K99,Prod.ext_iff,and_assoc] using h
theorem ZqX {a0 a1 y} (h:Zar a0 a1=some y):K99.G (K99.E (a0,a1))=some (K99.R (a0,a1) y):=i99.eq h
noncomputable abbrev K56:Con ((List Int)×Int) ((List Int)):=⟨fun x=>[.one (.slice .no (Zd .u8 x.1)),.one (.v (.int .u64 x.2))],fun _ y=>(.one (.own 1 (Zd .u8 y)),[]),fun x=>Xm x.1 x.2⟩
theorem i56:K56.Inj:=by intro a b h; simpa [K56,Prod.ext_iff,and_assoc] using h
theorem ZjU {a0 a1 y} (h:Xm a0 a1=some y):K56.G (K56.E (a0,a1))=some (K56.R (a0,a1) y):=i56.eq h
noncomputable abbrev K67:Con Tapi_Header ((List Int)):=⟨fun x=>[.agg ((.v (.int .u32 x.1)) :: ((arC .u8 x.2.1)++((arC .u8 x.2.2.1)++((.v (.int .u32 x.2.2.2.1)) :: ((.v (.int .u32 x.2.2.2.2.1)) :: ((.v (.int .u32 x.2.2.2.2.2)) :: []))))))],fun _ y=>(.one (.own 1 (Zd .u8 y)),[]),fun x=>XI x⟩
theorem i67:K67.Inj:=by intro a b h; simpa [K67,Prod.ext_iff,and_assoc] using h
theorem ZqY {a0 y} (h:XI a0=some y):K67.G (K67.E a0)=some (K67.R a0 y):=i67.eq h
noncomputable abbrev K55:Con ((List Int)×(List Int)) ((List Int)):=⟨fun x=>[.one (.slice .no (Zd .u8 x.1)),.one (.slice .no (Zd .u8 x.2))],fun _ y=>(.one (.own 1 (Zd .u8 y)),[]),fun x=>XY x.1 x.2⟩
theorem i55:K55.Inj:=by intro a b h; simpa [K55,Prod.ext_iff,and_assoc] using h
theorem ZqZ {a0 a1 y} (h:XY a0 a1=some y):K55.G (K55.E (a0,a1))=some (K55.R (a0,a1) y):=i55.eq h
noncomputable abbrev K108:Con (Tapi_Tx×Bool) ((List Int)):=⟨fun x=>[.agg ([.v (.int .u32 x.1.1),.slice .no (List.map Zs x.1.2.1),.slice .no (List.map Zr x.1.2.2.1),.v (.int .u32 x.1.2.2.2)]),.one (.v (.bool x.2))],fun _ y=>(.one (.own 1 (Zd .u8 y)),[]),fun x=>Zc0 x.1 x.2⟩
theorem i108:K108.Inj:=by intro a b h; simpa [K108,Prod.ext_iff,and_assoc] using h
theorem ZoF {a0 a1 y} (h:Zc0 a0 a1=some y):K108.G (K108.E (a0,a1))=some (K108.R (a0,a1) y):=i108.eq h
noncomputable abbrev K107:Con Tapi_Tx Bool:=⟨fun x=>[.agg ([.v (.int .u32 x.1),.slice .no (List.map Zs x.2.1),.slice .no (List.map Zr x.2.2.1),.v (.int .u32 x.2.2.2)])],fun _ y=>(.one (.v (.bool y)),[]),fun x=>ZfZ x⟩
theorem i107:K107.Inj:=by intro a b h; simpa [K107,Prod.ext_iff,and_assoc] using h
theorem ZtF {a0 y} (h:ZfZ a0=some y):K107.G (K107.E a0)=some (K107.R a0 y):=i107.eq h
noncomputable abbrev K68:Con (Tapi_Tx×Bool) ((List Int)×Int):=⟨fun x=>[.agg ([.v (.int .u32 x.1.1),.slice .no (List.map Zs x.1.2.1),.slice .no (List.map Zr x.1.2.2.1),.v (.int .u32 x.1.2.2.2)]),.one (.v (.bool x.2))],fun _ y=>(.tup [.one (.slice .no (Zd .u8 y.1)),.one (.v (.int .i64 y.2))],[]),fun x=>Zel x.1 x.2⟩
theorem i68:K68.Inj:=by intro a b h; simpa [K68,Prod.ext_iff,and_assoc] using h
theorem Zu9 {a0 a1 y} (h:Zel a0 a1=some y):K68.G (K68.E (a0,a1))=some (K68.R (a0,a1) y):=i68.eq h
noncomputable abbrev K35:Con Tapi_Block ((List Int)×Int):=⟨fun x=>[.agg ((.v (.int .u32 x.1.1)) :: ((arC .u8 x.1.2.1)++((arC .u8 x.1.2.2.1)++((.v (.int .u32 x.1.2.2.2.1)) :: ((.v (.int .u32 x.1.2.2.2.2.1)) :: ((.v (.int .u32 x.1.2.2.2.2.2)) :: ((.slice .no (List.map YD x.2)) :: [])))))))],fun _ y=>(.tup [.one (.slice .no (Zd .u8 y.1)),.one (.v (.int .i64 y.2))],[]),fun x=>Zcb x⟩
theorem i35:K35.Inj:=by intro a b h; simpa [K35,Prod.ext_iff,and_assoc] using h
theorem Zva {a0 y} (h:Zcb a0=some y):K35.G (K35.E a0)=some (K35.R a0 y):=i35.eq h
noncomputable abbrev K69:Con ((List Int)) Int:=⟨fun x=>[.one (.slice .no (Zd .u8 x))],fun _ y=>(.one (.v (.int .u64 y)),[]),fun x=>ZaK x⟩
theorem i69:K69.Inj:=by intro a b h; simpa [K69,Prod.ext_iff,and_assoc] using h
theorem Zlt {a0 y} (h:ZaK a0=some y):K69.G (K69.E a0)=some (K69.R a0 y):=i69.eq h
noncomputable abbrev K36:Con ((Arr 32)) ((Arr 2)):=⟨fun x=>[.agg (arC .u8 x)],fun _ y=>(.agg (arC .u64 y),[]),fun x=>Zf6 x⟩
theorem i36:K36.Inj:=by intro a b h; simpa [K36,Prod.ext_iff,and_assoc] using h
theorem Zvb {a0 y} (h:Zf6 a0=some y):K36.G (K36.E a0)=some (K36.R a0 y):=i36.eq h
noncomputable abbrev K153:Con ((List (List Int))) ((List Int)):=⟨fun x=>[.one (.slice .no (List.map ZJ x))],fun _ y=>(.one (.own 1 (Zd .u8 y)),[]),fun x=>Zf1 x⟩
theorem i153:K153.Inj:=by intro a b h; simpa [K153,Prod.ext_iff,and_assoc] using h
theorem ZtG {a0 y} (h:Zf1 a0=some y):K153.G (K153.E a0)=some (K153.R a0 y):=i153.eq h
noncomputable abbrev K154:Con Int ((List Int)):=⟨fun x=>[.one (.v (.int .u64 x))],fun _ y=>(.one (.own 1 (Zd .u8 y)),[]),fun x=>Zf2 x⟩
theorem i154:K154.Inj:=by intro a b h; simpa [K154,Prod.ext_iff,and_assoc] using h
theorem ZtH {a0 y} (h:Zf2 a0=some y):K154.G (K154.E a0)=some (K154.R a0 y):=i154.eq h
noncomputable abbrev K227:Con (Int×Int) Int:=⟨fun x=>[.one (.v (.int .u32 x.1)),.one (.v (.int .i64 x.2))],fun _ y=>(.one (.v (.int .u32 y)),[]),fun x=>Xp x.1 x.2⟩
theorem i227:K227.Inj:=by intro a b h; simpa [K227,Prod.ext_iff,and_assoc] using h
theorem ZoG {a0 a1 y} (h:Xp a0 a1=some y):K227.G (K227.E (a0,a1))=some (K227.R (a0,a1) y):=i227.eq h
noncomputable abbrev K198:Con (Int×Int) Int:=⟨fun x=>[.one (.v (.int .u32 x.1)),.one (.v (.int .i64 x.2))],fun _ y=>(.one (.v (.int .u32 y)),[]),fun x=>X1 x.1 x.2⟩
theorem i198:K198.Inj:=by intro a b h; simpa [K198,Prod.ext_iff,and_assoc] using h
theorem ZdJ {a0 a1 y} (h:X1 a0 a1=some y):K198.G (K198.E (a0,a1))=some (K198.R (a0,a1) y):=i198.eq h
noncomputable abbrev K197:Con ((Arr 64)) ((Arr 64)):=⟨fun x=>[.agg (arC .u8 x)],fun _ y=>(.agg (arC .u32 y),[]),fun x=>Zb8 x⟩
theorem i197:K197.Inj:=by intro a b h; simpa [K197,Prod.ext_iff,and_assoc] using h
theorem ZtI {a0 y} (h:Zb8 a0=some y):K197.G (K197.E a0)=some (K197.R a0 y):=i197.eq h
noncomputable abbrev K155:Con ((Arr 8)×(Arr 64)) ((Arr 8)):=⟨fun x=>[.agg (arC .u32 x.1),.agg (arC .u8 x.2)],fun _ y=>(.agg (arC .u32 y),[]),fun x=>Zb9 x.1 x.2⟩
theorem i155:K155.Inj:=by intro a b h; simpa [K155,Prod.ext_iff,and_assoc] using h
theorem ZtJ {a0 a1 y} (h:Zb9 a0 a1=some y):K155.G (K155.E (a0,a1))=some (K155.R (a0,a1) y):=i155.eq h
noncomputable abbrev K105:Con ((List Int)) ((Arr 32)):=⟨fun x=>[.one (.slice .no (Zd .u8 x))],fun _ y=>(.agg (arC .u8 y),[]),fun x=>Zfg x⟩
theorem i105:K105.Inj:=by intro a b h; simpa [K105,Prod.ext_iff,and_assoc] using h
theorem ZoH {a0 y} (h:Zfg a0=some y):K105.G (K105.E a0)=some (K105.R a0 y):=i105.eq h
noncomputable abbrev K65:Con ((List Int)) ((Arr 32)):=⟨fun x=>[.one (.slice .no (Zd .u8 x))],fun _ y=>(.agg (arC .u8 y),[]),fun x=>Zdv x⟩
theorem i65:K65.Inj:=by intro a b h; simpa [K65,Prod.ext_iff,and_assoc] using h
theorem Zvc {a0 y} (h:Zdv a0=some y):K65.G (K65.E a0)=some (K65.R a0 y):=i65.eq h
noncomputable abbrev K37:Con Tapi_Header ((Arr 32)):=⟨fun x=>[.agg ((.v (.int .u32 x.1)) :: ((arC .u8 x.2.1)++((arC .u8 x.2.2.1)++((.v (.int .u32 x.2.2.2.1)) :: ((.v (.int .u32 x.2.2.2.2.1)) :: ((.v (.int .u32 x.2.2.2.2.2)) :: []))))))],fun _ y=>(.agg (arC .u8 y),[]),fun x=>ZbJ x⟩
theorem i37:K37.Inj:=by intro a b h; simpa [K37,Prod.ext_iff,and_assoc] using h
theorem Zvd {a0 y} (h:ZbJ a0=some y):K37.G (K37.E a0)=some (K37.R a0 y):=i37.eq h
noncomputable abbrev K199:Con Int Bool:=⟨fun x=>[.one (.v (.int .u64 x))],fun _ y=>(.one (.v (.bool y)),[]),fun x=>Zab x⟩
theorem i199:K199.Inj:=by intro a b h; simpa [K199,Prod.ext_iff,and_assoc] using h
theorem ZoI {a0 y} (h:Zab a0=some y):K199.G (K199.E a0)=some (K199.R a0 y):=i199.eq h
noncomputable abbrev K156:Con (Int×Int) Bool:=⟨fun x=>[.one (.v (.int .u64 x.1)),.one (.v (.int .u64 x.2))],fun _ y=>(.one (.v (.bool y)),[]),fun x=>ZL x.1 x.2⟩
theorem i156:K156.Inj:=by intro a b h; simpa [K156,Prod.ext_iff,and_assoc] using h
theorem Zal {a0 a1 y} (h:ZL a0 a1=some y):K156.G (K156.E (a0,a1))=some (K156.R (a0,a1) y):=i156.eq h
noncomputable abbrev K109:Con ((List Int)) Bool:=⟨fun x=>[.one (.slice .no (Zd .u64 x))],fun _ y=>(.one (.v (.bool y)),[]),fun x=>YM x⟩
theorem i109:K109.Inj:=by intro a b h; simpa [K109,Prod.ext_iff,and_assoc] using h
theorem ZtK {a0 y} (h:YM a0=some y):K109.G (K109.E a0)=some (K109.R a0 y):=i109.eq h
noncomputable abbrev K157:Con Tapi_Bits Bool:=⟨fun x=>[.agg ([.slice .no (Zd .u8 x.1),.v (.int .i64 x.2)])],fun _ y=>(.one (.v (.bool y)),[]),fun x=>Zdw x⟩
theorem i157:K157.Inj:=by intro a b h; simpa [K157,Prod.ext_iff,and_assoc] using h
theorem ZtL {a0 y} (h:Zdw a0=some y):K157.G (K157.E a0)=some (K157.R a0 y):=i157.eq h
noncomputable abbrev K158:Con Tapi_Bits Tapi_Bits:=⟨fun x=>[.agg ([.slice .no (Zd .u8 x.1),.v (.int .i64 x.2)])],fun _ y=>(.io ([.own 1 (Zd .u8 y.1),.v (.int .i64 y.2)]),[]),fun x=>Zdx x⟩
theorem i158:K158.Inj:=by intro a b h; simpa [K158,Prod.ext_iff,and_assoc] using h
theorem ZtM {a0 y} (h:Zdx a0=some y):K158.G (K158.E a0)=some (K158.R a0 y):=i158.eq h
noncomputable abbrev K159_1:Con (Tapi_Bits×Bool) Tapi_Bits:=⟨fun x=>[.io ([.own 1 (Zd .u8 x.1.1),.v (.int .i64 x.1.2)]),.one (.v (.bool x.2))],fun _ y=>(.tup [],[[.own 1 (Zd .u8 y.1),.v (.int .i64 y.2)]]),fun x=>X2 x.1 x.2⟩
theorem i159_1:K159_1.Inj:=by intro a b h; simpa [K159_1,Prod.ext_iff,and_assoc] using h
theorem ZjV {a0 a1 y} (h:X2 a0 a1=some y):K159_1.G (K159_1.E (a0,a1))=some (K159_1.R (a0,a1) y):=i159_1.eq h
noncomputable abbrev K160_2:Con (Tapi_Bits×Int×Int) Tapi_Bits:=⟨fun x=>[.io ([.own 1 (Zd .u8 x.1.1),.v (.int .i64 x.1.2)]),.one (.v (.int .u64 x.2.1)),.one (.v (.int .i64 x.2.2))],fun _ y=>(.tup [],[[.own 1 (Zd .u8 y.1),.v (.int .i64 y.2)]]),fun x=>Zaj x.1 x.2.1 x.2.2⟩
theorem i160_2:K160_2.Inj:=by intro a b h; simpa [K160_2,Prod.ext_iff,and_assoc] using h
theorem Zq0 {a0 a1 a2 y} (h:Zaj a0 a1 a2=some y):K160_2.G (K160_2.E (a0,a1,a2))=some (K160_2.R (a0,a1,a2) y):=i160_2.eq h
noncomputable abbrev K110:Con (Tapi_Bits×Int×Int) (Tapi_Bits×Int):=⟨fun x=>[.agg ([.slice .no (Zd .u8 x.1.1),.v (.int .i64 x.1.2)]),.one (.v (.int .u64 x.2.1)),.one (.v (.int .i64 x.2.2))],fun _ y=>(.tup [.agg ([.slice .no (Zd .u8 y.1.1),.v (.int .i64 y.1.2)]),.one (.v (.int .i64 y.2))],[]),fun x=>Zau x.1 x.2.1 x.2.2⟩
theorem i110:K110.Inj:=by intro a b h; simpa [K110,Prod.ext_iff,and_assoc] using h
theorem ZtN {a0 a1 a2 y} (h:Zau a0 a1 a2=some y):K110.G (K110.E (a0,a1,a2))=some (K110.R (a0,a1,a2) y):=i110.eq h
noncomputable abbrev K70:Con ((List Int)×Int) (Tapi_Filter×Int):=⟨fun x=>[.one (.slice .no (Zd .u64 x.1)),.one (.v (.int .i64 x.2))],fun _ y=>(.tup [.agg ([.v (.int .i64 y.1.1),.slice .no (Zd .u8 y.1.2)]),.one (.v (.int .i64 y.2))],[]),fun x=>ZaZ x.1 x.2⟩
theorem i70:K70.Inj:=by intro a b h; simpa [K70,Prod.ext_iff,and_assoc] using h
theorem Zve {a0 a1 y} (h:ZaZ a0 a1=some y):K70.G (K70.E (a0,a1))=some (K70.R (a0,a1) y):=i70.eq h
noncomputable abbrev K161:Con (Int×Int) (Int×Int):=⟨fun x=>[.one (.v (.int .u64 x.1)),.one (.v (.int .u64 x.2))],fun _ y=>(.tup [.one (.v (.int .u64 y.1)),.one (.v (.int .u64 y.2))],[]),fun x=>Za0 x.1 x.2⟩
theorem i161:K161.Inj:=by intro a b h; simpa [K161,Prod.ext_iff,and_assoc] using h
theorem ZoJ {a0 a1 y} (h:Za0 a0 a1=some y):K161.G (K161.E (a0,a1))=some (K161.R (a0,a1) y):=i161.eq h
noncomputable abbrev K111:Con (Int×Int) Int:=⟨fun x=>[.one (.v (.int .u64 x.1)),.one (.v (.int .u64 x.2))],fun _ y=>(.one (.v (.int .u64 y)),[]),fun x=>ZfG x.1 x.2⟩
theorem i111:K111.Inj:=by intro a b h; simpa [K111,Prod.ext_iff,and_assoc] using h
theorem ZtO {a0 a1 y} (h:ZfG a0 a1=some y):K111.G (K111.E (a0,a1))=some (K111.R (a0,a1) y):=i111.eq h
noncomputable abbrev K200:Con (Int×Int) Int:=⟨fun x=>[.one (.v (.int .u64 x.1)),.one (.v (.int .i64 x.2))],fun _ y=>(.one (.v (.int .u64 y)),[]),fun x=>ZI x.1 x.2⟩
theorem i200:K200.Inj:=by intro a b h; simpa [K200,Prod.ext_iff,and_assoc] using h
theorem Zce {a0 a1 y} (h:ZI a0 a1=some y):K200.G (K200.E (a0,a1))=some (K200.R (a0,a1) y):=i200.eq h
noncomputable abbrev K163:Con ((Arr 4)×Int) ((Arr 4)):=⟨fun x=>[.agg (arC .u64 x.1),.one (.v (.int .i64 x.2))],fun _ y=>(.agg (arC .u64 y),[]),fun x=>Zdy x.1 x.2⟩
theorem i163:K163.Inj:=by intro a b h; simpa [K163,Prod.ext_iff,and_assoc] using h
theorem ZoK {a0 a1 y} (h:Zdy a0 a1=some y):K163.G (K163.E (a0,a1))=some (K163.R (a0,a1) y):=i163.eq h
noncomputable abbrev K162:Con ((Arr 4)×Int) ((Arr 4)):=⟨fun x=>[.agg (arC .u64 x.1),.one (.v (.int .u64 x.2))],fun _ y=>(.agg (arC .u64 y),[]),fun x=>ZcB x.1 x.2⟩
theorem i162:K162.Inj:=by intro a b h; simpa [K162,Prod.ext_iff,and_assoc] using h
theorem ZoL {a0 a1 y} (h:ZcB a0 a1=some y):K162.G (K162.E (a0,a1))=some (K162.R (a0,a1) y):=i162.eq h
noncomputable abbrev K112:Con ((Arr 2)×(List Int)) Int:=⟨fun x=>[.agg (arC .u64 x.1),.one (.slice .no (Zd .u8 x.2))],fun _ y=>(.one (.v (.int .u64 y)),[]),fun x=>Zf4 x.1 x.2⟩
theorem i112:K112.Inj:=by intro a b h; simpa [K112,Prod.ext_iff,and_assoc] using h
theorem ZtP {a0 a1 y} (h:Zf4 a0 a1=some y):K112.G (K112.E (a0,a1))=some (K112.R (a0,a1) y):=i112.eq h
def E209 (x:Int):List PV:=[.one (.v (.int .u32 x))]
def R209 (x:Int) (y:Int):PV×List (List Cell):=(.one (.v (.int .i64 y)),[])
noncomputable def G209:=XW E209 fun x=>(ZhF x).map (R209 x)
def ZlR (x:Int):List PV:=[.one (.v (.int .u64 x))]
theorem E210i:∀ a b,ZlR a=ZlR b→a=b:=by
  rintro a0 b0 h
  simpa [ZlR,and_assoc] using h
def ZpK (x:Int) (y:Int):PV×List (List Cell):=(.one (.v (.int .i64 y)),[])
noncomputable def G210:=XW ZlR fun x=>(X3 x).map (ZpK x)
theorem ZtQ {a0:Int} {y:Int} (h:X3 a0=some y):G210 (ZlR a0)=some (ZpK a0 y):=Xx E210i h
noncomputable abbrev K165:Con Int Int:=⟨fun x=>[.one (.v (.int .u64 x))],fun _ y=>(.one (.v (.int .i64 y)),[]),fun x=>Za1 x⟩
theorem i165:K165.Inj:=by intro a b h; simpa [K165,Prod.ext_iff,and_assoc] using h
theorem ZoM {a0 y} (h:Za1 a0=some y):K165.G (K165.E a0)=some (K165.R a0 y):=i165.eq h
noncomputable abbrev K229:Con Int Int:=⟨fun x=>[.one (.v (.int .i64 x))],fun _ y=>(.one (.v (.int .u64 y)),[]),fun x=>XD x⟩
theorem i229:K229.Inj:=by intro a b h; simpa [K229,Prod.ext_iff,and_assoc] using h
theorem ZtR {a0 y} (h:XD a0=some y):K229.G (K229.E a0)=some (K229.R a0 y):=i229.eq h
noncomputable abbrev K230:Con Int (Int×Int):=⟨fun x=>[.io ([.v (.int .u64 x)])],fun _ y=>(.one (.v (.int .u64 y.1)),[[.v (.int .u64 y.2)]]),fun x=>ZaA x⟩
theorem i230:K230.Inj:=by intro a b h; simpa [K230,Prod.ext_iff,and_assoc] using h
theorem ZtS {a0 y} (h:ZaA a0=some y):K230.G (K230.E a0)=some (K230.R a0 y):=i230.eq h
noncomputable abbrev K240:Con ((List Int)×Int×Int×Int) (Int×Int×Int):=⟨fun x=>[.one (.slice .no (Zd .u64 x.1)),.one (.v (.int .i64 x.2.1)),.one (.v (.int .i64 x.2.2.1)),.io ([.v (.int .i64 x.2.2.2)])],fun _ y=>(.tup [.one (.v (.int .i64 y.1)),.one (.v (.int .i64 y.2.1))],[[.v (.int .i64 y.2.2)]]),fun x=>Ys x.1 x.2.1 x.2.2.1 x.2.2.2⟩
theorem i240:K240.Inj:=by intro a b h; simpa [K240,Prod.ext_iff,and_assoc] using h
theorem ZlS {a0 a1 a2 a3 y} (h:Ys a0 a1 a2 a3=some y):K240.G (K240.E (a0,a1,a2,a3))=some (K240.R (a0,a1,a2,a3) y):=i240.eq h
noncomputable abbrev K232:Con ((List Int)×Int×Int×Int×Int) (Int×Int):=⟨fun x=>[.one (.slice .no (Zd .u64 x.1)),.one (.v (.int .i64 x.2.1)),.one (.v (.int .i64 x.2.2.1)),.one (.v (.int .i64 x.2.2.2.1)),.io ([.v (.int .i64 x.2.2.2.2)])],fun _ y=>(.one (.v (.int .i64 y.1)),[[.v (.int .i64 y.2)]]),fun x=>YF x.1 x.2.1 x.2.2.1 x.2.2.2.1 x.2.2.2.2⟩
theorem i232:K232.Inj:=by intro a b h; simpa [K232,Prod.ext_iff,and_assoc] using h
theorem ZoN {a0 a1 a2 a3 a4 y} (h:YF a0 a1 a2 a3 a4=some y):K232.G (K232.E (a0,a1,a2,a3,a4))=some (K232.R (a0,a1,a2,a3,a4) y):=i232.eq h
noncomputable abbrev K231:Con ((List Int)×Int×Int) (Int×Int):=⟨fun x=>[.one (.slice .no (Zd .u64 x.1)),.one (.v (.int .i64 x.2.1)),.io ([.v (.int .i64 x.2.2)])],fun _ y=>(.one (.v (.int .i64 y.1)),[[.v (.int .i64 y.2)]]),fun x=>ZZ x.1 x.2.1 x.2.2⟩
theorem i231:K231.Inj:=by intro a b h; simpa [K231,Prod.ext_iff,and_assoc] using h
theorem ZlT {a0 a1 a2 y} (h:ZZ a0 a1 a2=some y):K231.G (K231.E (a0,a1,a2))=some (K231.R (a0,a1,a2) y):=i231.eq h
noncomputable abbrev K204:Con ((List Int)×Int×Int) (Int×Int):=⟨fun x=>[.one (.slice .no (Zd .u64 x.1)),.one (.v (.int .i64 x.2.1)),.one (.v (.int .i64 x.2.2))],fun _ y=>(.tup [.one (.v (.int .i64 y.1)),.one (.v (.int .i64 y.2))],[]),fun x=>Yz x.1 x.2.1 x.2.2⟩
theorem i204:K204.Inj:=by intro a b h; simpa [K204,Prod.ext_iff,and_assoc] using h
theorem ZtT {a0 a1 a2 y} (h:Yz a0 a1 a2=some y):K204.G (K204.E (a0,a1,a2))=some (K204.R (a0,a1,a2) y):=i204.eq h
def ZfQ (x:(List Int)×Int×Int):List PV:=[.rio 1 (Zd .u64 x.1),.one (.v (.int .i64 x.2.1)),.one (.v (.int .i64 x.2.2))]
theorem E201_3i:∀ a b,ZfQ a=ZfQ b→a=b:=by
  rintro ⟨a0,a1,a2⟩ ⟨b0,b1,b2⟩ h
  simpa [ZfQ,and_assoc] using h
def Ziy (x:(List Int)×Int×Int) (y:(List Int)):PV×List (List Cell):=(.tup [],[(Zd .u64 y).flatten])
noncomputable def G201_3:=XW ZfQ fun x=>(Z2 x.1 x.2.1 x.2.2).map (Ziy x)
theorem Zq1 {a0:(List Int)} {a1:Int} {a2:Int} {y:(List Int)} (h:Z2 a0 a1 a2=some y):G201_3 (ZfQ (a0,a1,a2))=some (Ziy (a0,a1,a2) y):=Xx E201_3i h
noncomputable abbrev K228_4:Con ((List Int)×Int×Int×Int) ((List Int)):=⟨fun x=>[.rio 1 (Zd .u64 x.1),.one (.v (.int .i64 x.2.1)),.one (.v (.int .i64 x.2.2.1)),.one (.v (.int .i64 x.2.2.2))],fun _ y=>(.tup [],[(Zd .u64 y).flatten]),fun x=>YS x.1 x.2.1 x.2.2.1 x.2.2.2⟩
theorem i228_4:K228_4.Inj:=by intro a b h; simpa [K228_4,Prod.ext_iff,and_assoc] using h
theorem Zmz {a0 a1 a2 a3 y} (h:YS a0 a1 a2 a3=some y):K228_4.G (K228_4.E (a0,a1,a2,a3))=some (K228_4.R (a0,a1,a2,a3) y):=i228_4.eq h
noncomputable abbrev K202_5:Con ((List Int)×Int×Int) ((List Int)):=⟨fun x=>[.rio 1 (Zd .u64 x.1),.one (.v (.int .i64 x.2.1)),.one (.v (.int .i64 x.2.2))],fun _ y=>(.tup [],[(Zd .u64 y).flatten]),fun x=>YT x.1 x.2.1 x.2.2⟩
theorem i202_5:K202_5.Inj:=by intro a b h; simpa [K202_5,Prod.ext_iff,and_assoc] using h
theorem Zq2 {a0 a1 a2 y} (h:YT a0 a1 a2=some y):K202_5.G (K202_5.E (a0,a1,a2))=some (K202_5.R (a0,a1,a2) y):=i202_5.eq h
noncomputable abbrev K205_6:Con ((List Int)×Int×Int) ((List Int)):=⟨fun x=>[.rio 1 (Zd .u64 x.1),.one (.v (.int .i64 x.2.1)),.one (.v (.int .i64 x.2.2))],fun _ y=>(.tup [],[(Zd .u64 y).flatten]),fun x=>Yx x.1 x.2.1 x.2.2⟩
theorem i205_6:K205_6.Inj:=by intro a b h; simpa [K205_6,Prod.ext_iff,and_assoc] using h
theorem Zq3 {a0 a1 a2 y} (h:Yx a0 a1 a2=some y):K205_6.G (K205_6.E (a0,a1,a2))=some (K205_6.R (a0,a1,a2) y):=i205_6.eq h
noncomputable abbrev K206_7:Con ((List Int)×Int×Int) (Bool×(List Int)):=⟨fun x=>[.rio 1 (Zd .u64 x.1),.one (.v (.int .i64 x.2.1)),.one (.v (.int .i64 x.2.2))],fun _ y=>(.one (.v (.bool y.1)),[(Zd .u64 y.2).flatten]),fun x=>Yd x.1 x.2.1 x.2.2⟩
theorem i206_7:K206_7.Inj:=by intro a b h; simpa [K206_7,Prod.ext_iff,and_assoc] using h
theorem Zq4 {a0 a1 a2 y} (h:Yd a0 a1 a2=some y):K206_7.G (K206_7.E (a0,a1,a2))=some (K206_7.R (a0,a1,a2) y):=i206_7.eq h
def Zea (x:(List Int)×Int×Int×Int):List PV:=[.rio 1 (Zd .u64 x.1),.one (.v (.int .i64 x.2.1)),.one (.v (.int .i64 x.2.2.1)),.one (.v (.int .i64 x.2.2.2))]
theorem E207_8i:∀ a b,Zea a=Zea b→a=b:=by
  rintro ⟨a0,a1,a2,a3⟩ ⟨b0,b1,b2,b3⟩ h
  simpa [Zea,and_assoc] using h
def ZgI (x:(List Int)×Int×Int×Int) (y:Int×(List Int)):PV×List (List Cell):=(.one (.v (.int .i64 y.1)),[(Zd .u64 y.2).flatten])
noncomputable def G207_8:=XW Zea fun x=>(ZP x.1 x.2.1 x.2.2.1 x.2.2.2).map (ZgI x)
theorem ZjW {a0:(List Int)} {a1:Int} {a2:Int} {a3:Int} {y:Int×(List Int)} (h:ZP a0 a1 a2 a3=some y):G207_8 (Zea (a0,a1,a2,a3))=some (ZgI (a0,a1,a2,a3) y):=Xx E207_8i h
def Zcw (x:(List Int)×Int×Int×Int):List PV:=[.rio 1 (Zd .u64 x.1),.one (.v (.int .i64 x.2.1)),.one (.v (.int .i64 x.2.2.1)),.one (.v (.int .i64 x.2.2.2))]
theorem E208_9i:∀ a b,Zcw a=Zcw b→a=b:=by
  rintro ⟨a0,a1,a2,a3⟩ ⟨b0,b1,b2,b3⟩ h
  simpa [Zcw,and_assoc] using h
def Zeb (x:(List Int)×Int×Int×Int) (y:Int×Bool×(List Int)):PV×List (List Cell):=(.tup [.one (.v (.int .i64 y.1)),.one (.v (.bool y.2.1))],[(Zd .u64 y.2.2).flatten])
noncomputable def G208_9:=XW Zcw fun x=>(Z6 x.1 x.2.1 x.2.2.1 x.2.2.2).map (Zeb x)
theorem Zfw {a0:(List Int)} {a1:Int} {a2:Int} {a3:Int} {y:Int×Bool×(List Int)} (h:Z6 a0 a1 a2 a3=some y):G208_9 (Zcw (a0,a1,a2,a3))=some (Zeb (a0,a1,a2,a3) y):=Xx E208_9i h
def Zey (x:(List Int)×Int×Int):List PV:=[.rio 1 (Zd .u64 x.1),.one (.v (.int .i64 x.2.1)),.one (.v (.int .i64 x.2.2))]
theorem E203_11i:∀ a b,Zey a=Zey b→a=b:=by
  rintro ⟨a0,a1,a2⟩ ⟨b0,b1,b2⟩ h
  simpa [Zey,and_assoc] using h
def Zhm (x:(List Int)×Int×Int) (y:(List Int)):PV×List (List Cell):=(.tup [],[(Zd .u64 y).flatten])
noncomputable def G203_11:=XW Zey fun x=>(Z3 x.1 x.2.1 x.2.2).map (Zhm x)
theorem ZpL {a0:(List Int)} {a1:Int} {a2:Int} {y:(List Int)} (h:Z3 a0 a1 a2=some y):G203_11 (Zey (a0,a1,a2))=some (Zhm (a0,a1,a2) y):=Xx E203_11i h
def Xz (x:(List Int)×Int×Int×Int):List PV:=[.rio 1 (Zd .u64 x.1),.one (.v (.int .i64 x.2.1)),.one (.v (.int .i64 x.2.2.1)),.one (.v (.int .i64 x.2.2.2))]
theorem E164_10i:∀ a b,Xz a=Xz b→a=b:=by
  rintro ⟨a0,a1,a2,a3⟩ ⟨b0,b1,b2,b3⟩ h
  simpa [Xz,and_assoc] using h
def XS (x:(List Int)×Int×Int×Int) (y:(List Int)):PV×List (List Cell):=(.tup [],[(Zd .u64 y).flatten])
noncomputable def G164_10:=XW Xz fun x=>(XB x.1 x.2.1 x.2.2.1 x.2.2.2).map (XS x)
theorem ZpM {a0:(List Int)} {a1:Int} {a2:Int} {a3:Int} {y:(List Int)} (h:XB a0 a1 a2 a3=some y):G164_10 (Xz (a0,a1,a2,a3))=some (XS (a0,a1,a2,a3) y):=Xx E164_10i h
noncomputable def Zi9 (n:Nat):=XW Xz fun x=>(Lslices_pdqsortOrdered_of_uint64_n n x.1 x.2.1 x.2.2.1 x.2.2.2).map (XS x)
theorem X7 {n:Nat} {a0:(List Int)} {a1:Int} {a2:Int} {a3:Int} {y:(List Int)} (h:Lslices_pdqsortOrdered_of_uint64_n n a0 a1 a2 a3=some y):Zi9 n (Xz (a0,a1,a2,a3))=some (XS (a0,a1,a2,a3) y):=Xx E164_10i h
noncomputable abbrev K113_12:Con ((List Int)) ((List Int)):=⟨fun x=>[.rio 1 (Zd .u64 x)],fun _ y=>(.tup [],[(Zd .u64 y).flatten]),fun x=>Xb x⟩
theorem i113_12:K113_12.Inj:=by intro a b h; simpa [K113_12,Prod.ext_iff,and_assoc] using h
theorem ZpN {a0 y} (h:Xb a0=some y):K113_12.G (K113_12.E a0)=some (K113_12.R a0 y):=i113_12.eq h
noncomputable abbrev K71:Con ((Arr 2)×(List (List Int))×Int×Int) ((List Int)):=⟨fun x=>[.agg (arC .u64 x.1),.one (.slice .no (List.map ZJ x.2.1)),.one (.v (.int .i64 x.2.2.1)),.one (.v (.int .u64 x.2.2.2))],fun _ y=>(.one (.own 1 (Zd .u64 y)),[]),fun x=>ZbO x.1 x.2.1 x.2.2.1 x.2.2.2⟩
theorem i71:K71.Inj:=by intro a b h; simpa [K71,Prod.ext_iff,and_assoc] using h
theorem Zvf {a0 a1 a2 a3 y} (h:ZbO a0 a1 a2 a3=some y):K71.G (K71.E (a0,a1,a2,a3))=some (K71.R (a0,a1,a2,a3) y):=i71.eq h
noncomputable abbrev K38:Con ((Arr 2)×(List (List Int))×Int×Int) (Tapi_Filter×Int):=⟨fun x=>[.agg (arC .u64 x.1),.one (.slice .no (List.map ZJ x.2.1)),.one (.v (.int .i64 x.2.2.1)),.one (.v (.int .u64 x.2.2.2))],fun _ y=>(.tup [.agg ([.v (.int .i64 y.1.1),.slice .no (Zd .u8 y.1.2)]),.one (.v (.int .i64 y.2))],[]),fun x=>Zbu x.1 x.2.1 x.2.2.1 x.2.2.2⟩
theorem i38:K38.Inj:=by intro a b h; simpa [K38,Prod.ext_iff,and_assoc] using h
theorem Zvg {a0 a1 a2 a3 y} (h:Zbu a0 a1 a2 a3=some y):K38.G (K38.E (a0,a1,a2,a3))=some (K38.R (a0,a1,a2,a3) y):=i38.eq h
noncomputable abbrev K11:Con Tapi_Block (Tapi_Filter×Int):=⟨fun x=>[.agg ((.v (.int .u32 x.1.1)) :: ((arC .u8 x.1.2.1)++((arC .u8 x.1.2.2.1)++((.v (.int .u32 x.1.2.2.2.1)) :: ((.v (.int .u32 x.1.2.2.2.2.1)) :: ((.v (.int .u32 x.1.2.2.2.2.2)) :: ((.slice .no (List.map YD x.2)) :: [])))))))],fun _ y=>(.tup [.agg ([.v (.int .i64 y.1.1),.slice .no (Zd .u8 y.1.2)]),.one (.v (.int .i64 y.2))],[]),fun x=>Zep x⟩
theorem i11:K11.Inj:=by intro a b h; simpa [K11,Prod.ext_iff,and_assoc] using h
theorem Zvh {a0 y} (h:Zep a0=some y):K11.G (K11.E a0)=some (K11.R a0 y):=i11.eq h
noncomputable abbrev K82:Con ((List Int)×(List Int)) ((List Int)):=⟨fun x=>[.one (.slice .no (Zd .u8 x.1)),.one (.slice .no (Zd .u8 x.2))],fun _ y=>(.one (.own 1 (Zd .u8 y)),[]),fun x=>YQ x.1 x.2⟩
theorem i82:K82.Inj:=by intro a b h; simpa [K82,Prod.ext_iff,and_assoc] using h
theorem Zdn {a0 a1 y} (h:YQ a0 a1=some y):K82.G (K82.E (a0,a1))=some (K82.R (a0,a1) y):=i82.eq h
noncomputable abbrev K96:Con (Int×Int) ((List Int)):=⟨fun x=>[.one (.v (.int .u64 x.1)),.one (.v (.int .i64 x.2))],fun _ y=>(.one (.own 1 (Zd .u8 y)),[]),fun x=>YR x.1 x.2⟩
theorem i96:K96.Inj:=by intro a b h; simpa [K96,Prod.ext_iff,and_assoc] using h
theorem Ziz {a0 a1 y} (h:YR a0 a1=some y):K96.G (K96.E (a0,a1))=some (K96.R (a0,a1) y):=i96.eq h
noncomputable abbrev K53:Con ((List Int)×Int) ((List Int)):=⟨fun x=>[.one (.slice .no (Zd .u8 x.1)),.one (.v (.int .u32 x.2))],fun _ y=>(.one (.own 1 (Zd .u8 y)),[]),fun x=>Xk x.1 x.2⟩
theorem i53:K53.Inj:=by intro a b h; simpa [K53,Prod.ext_iff,and_assoc] using h
theorem ZiA {a0 a1 y} (h:Xk a0 a1=some y):K53.G (K53.E (a0,a1))=some (K53.R (a0,a1) y):=i53.eq h
noncomputable abbrev K54:Con ((List Int)×(Arr 32)) ((List Int)):=⟨fun x=>[.one (.slice .no (Zd .u8 x.1)),.agg (arC .u8 x.2)],fun _ y=>(.one (.own 1 (Zd .u8 y)),[]),fun x=>XG x.1 x.2⟩
theorem i54:K54.Inj:=by intro a b h; simpa [K54,Prod.ext_iff,and_assoc] using h
theorem ZnQ {a0 a1 y} (h:XG a0 a1=some y):K54.G (K54.E (a0,a1))=some (K54.R (a0,a1) y):=i54.eq h
noncomputable abbrev K23:Con Tapi_OutPoint ((List Int)):=⟨fun x=>[.agg ((arC .u8 x.1)++((.v (.int .u32 x.2)) :: []))],fun _ y=>(.one (.own 1 (Zd .u8 y)),[]),fun x=>Zbf x⟩
theorem i23:K23.Inj:=by intro a b h; simpa [K23,Prod.ext_iff,and_assoc] using h
theorem Zq5 {a0 y} (h:Zbf a0=some y):K23.G (K23.E a0)=some (K23.R a0 y):=i23.eq h
noncomputable abbrev K45:Con ((List (List Int))) ((List Int)):=⟨fun x=>[.one (.slice .no (List.map ZJ x))],fun _ y=>(.one (.own 1 (Zd .u8 y)),[]),fun x=>ZbH x⟩
theorem i45:K45.Inj:=by intro a b h; simpa [K45,Prod.ext_iff,and_assoc] using h
theorem Zq6 {a0 y} (h:ZbH a0=some y):K45.G (K45.E a0)=some (K45.R a0 y):=i45.eq h
noncomputable abbrev K83:Con Tapi_OutPoint Bool:=⟨fun x=>[.agg ((arC .u8 x.1)++((.v (.int .u32 x.2)) :: []))],fun _ y=>(.one (.v (.bool y)),[]),fun x=>Zgp x⟩
theorem i83:K83.Inj:=by intro a b h; simpa [K83,Prod.ext_iff,and_assoc] using h
theorem Zvi {a0 y} (h:Zgp a0=some y):K83.G (K83.E a0)=some (K83.R a0 y):=i83.eq h
noncomputable abbrev K46:Con Tapi_Tx Bool:=⟨fun x=>[.agg ([.v (.int .u32 x.1),.slice .no (List.map Zs x.2.1),.slice .no (List.map Zr x.2.2.1),.v (.int .u32 x.2.2.2)])],fun _ y=>(.one (.v (.bool y)),[]),fun x=>Zcl x⟩
theorem i46:K46.Inj:=by intro a b h; simpa [K46,Prod.ext_iff,and_assoc] using h
theorem Zvj {a0 y} (h:Zcl a0=some y):K46.G (K46.E a0)=some (K46.R a0 y):=i46.eq h
noncomputable abbrev K15:Con Tapi_Block ((List (List Int))):=⟨fun x=>[.agg ((.v (.int .u32 x.1.1)) :: ((arC .u8 x.1.2.1)++((arC .u8 x.1.2.2.1)++((.v (.int .u32 x.1.2.2.2.1)) :: ((.v (.int .u32 x.1.2.2.2.2.1)) :: ((.v (.int .u32 x.1.2.2.2.2.2)) :: ((.slice .no (List.map YD x.2)) :: [])))))))],fun _ y=>(.one (.own 1 (List.map ZJ y)),[]),fun x=>ZaG x⟩
theorem i15:K15.Inj:=by intro a b h; simpa [K15,Prod.ext_iff,and_assoc] using h
theorem Zq7 {a0 y} (h:ZaG a0=some y):K15.G (K15.E a0)=some (K15.R a0 y):=i15.eq h
noncomputable abbrev K146:Con Int ((List Int)):=⟨fun x=>[.one (.v (.int .u64 x))],fun _ y=>(.one (.own 1 (Zd .u8 y)),[]),fun x=>Zem x⟩
theorem i146:K146.Inj:=by intro a b h; simpa [K146,Prod.ext_iff,and_assoc] using h
theorem ZtU {a0 y} (h:Zem a0=some y):K146.G (K146.E a0)=some (K146.R a0 y):=i146.eq h
noncomputable abbrev K147:Con Unit ((Arr 8)):=⟨fun _=>[],fun _ y=>(.agg (arC .u32 y),[]),fun _=>Lref03_Initial⟩
theorem i147:K147.Inj:=fun _ _ _=>rfl
theorem ZtV { y} (h:Lref03_Initial  = some y):K147.G (K147.E ())=some (K147.R () y):=i147.eq h
noncomputable abbrev K195:Con (Int×Int) Int:=⟨fun x=>[.one (.v (.int .u32 x.1)),.one (.v (.int .i64 x.2))],fun _ y=>(.one (.v (.int .u32 y)),[]),fun x=>Xs x.1 x.2⟩
theorem i195:K195.Inj:=by intro a b h; simpa [K195,Prod.ext_iff,and_assoc] using h
theorem ZdK {a0 a1 y} (h:Xs a0 a1=some y):K195.G (K195.E (a0,a1))=some (K195.R (a0,a1) y):=i195.eq h
noncomputable abbrev K193:Con ((Arr 64)) ((Arr 64)):=⟨fun x=>[.agg (arC .u8 x)],fun _ y=>(.agg (arC .u32 y),[]),fun x=>Zbq x⟩
theorem i193:K193.Inj:=by intro a b h; simpa [K193,Prod.ext_iff,and_assoc] using h
theorem ZtW {a0 y} (h:Zbq a0=some y):K193.G (K193.E a0)=some (K193.R a0 y):=i193.eq h
noncomputable abbrev K194:Con Unit ((Arr 64)):=⟨fun _=>[],fun _ y=>(.agg (arC .u32 y),[]),fun _=>Lref03_constants⟩
theorem i194:K194.Inj:=fun _ _ _=>rfl
theorem ZtX { y} (h:Lref03_constants  = some y):K194.G (K194.E ())=some (K194.R () y):=i194.eq h
def Zja (x:(Arr 8)×(Arr 64)):List PV:=[.agg (arC .u32 x.1),.agg (arC .u8 x.2)]
theorem E148i:∀ a b,Zja a=Zja b→a=b:=by
  rintro ⟨a0,a1⟩ ⟨b0,b1⟩ h
  simpa [Zja,and_assoc] using h
def ZlU (x:(Arr 8)×(Arr 64)) (y:(Arr 8)):PV×List (List Cell):=(.agg (arC .u32 y),[])
noncomputable def G148:=XW Zja fun x=>(Zai x.1 x.2).map (ZlU x)
theorem ZtY {a0:(Arr 8)} {a1:(Arr 64)} {y:(Arr 8)} (h:Zai a0 a1=some y):G148 (Zja (a0,a1))=some (ZlU (a0,a1) y):=Xx E148i h
def E95 (x:(List Int)):List PV:=[.one (.slice .no (Zd .u8 x))]
theorem E95i:∀ a b,E95 a=E95 b→a=b:=by
  rintro a0 b0 h
  simpa [E95,and_assoc] using h
def R95 (x:(List Int)) (y:(Arr 32)):PV×List (List Cell):=(.agg (arC .u8 y),[])
noncomputable def G95:=XW E95 fun x=>(ZaE x).map (R95 x)
theorem Zq8 {a0:(List Int)} {y:(Arr 32)} (h:ZaE a0=some y):G95 (E95 a0)=some (R95 a0 y):=Xx E95i h
noncomputable abbrev K51:Con ((List Int)) ((Arr 32)):=⟨fun x=>[.one (.slice .no (Zd .u8 x))],fun _ y=>(.agg (arC .u8 y),[]),fun x=>ZaJ x⟩
theorem i51:K51.Inj:=by intro a b h; simpa [K51,Prod.ext_iff,and_assoc] using h
theorem Zvk {a0 y} (h:ZaJ a0=some y):K51.G (K51.E a0)=some (K51.R a0 y):=i51.eq h
noncomputable abbrev K52:Con Tapi_Header ((List Int)):=⟨fun x=>[.agg ((.v (.int .u32 x.1)) :: ((arC .u8 x.2.1)++((arC .u8 x.2.2.1)++((.v (.int .u32 x.2.2.2.1)) :: ((.v (.int .u32 x.2.2.2.2.1)) :: ((.v (.int .u32 x.2.2.2.2.2)) :: []))))))],fun _ y=>(.one (.own 1 (Zd .u8 y)),[]),fun x=>XJ x⟩
theorem i52:K52.Inj:=by intro a b h; simpa [K52,Prod.ext_iff,and_assoc] using h
theorem Zq9 {a0 y} (h:XJ a0=some y):K52.G (K52.E a0)=some (K52.R a0 y):=i52.eq h
noncomputable abbrev K22:Con Tapi_Header ((Arr 32)):=⟨fun x=>[.agg ((.v (.int .u32 x.1)) :: ((arC .u8 x.2.1)++((arC .u8 x.2.2.1)++((.v (.int .u32 x.2.2.2.1)) :: ((.v (.int .u32 x.2.2.2.2.1)) :: ((.v (.int .u32 x.2.2.2.2.2)) :: []))))))],fun _ y=>(.agg (arC .u8 y),[]),fun x=>ZbK x⟩
theorem i22:K22.Inj:=by intro a b h; simpa [K22,Prod.ext_iff,and_assoc] using h
theorem Zvl {a0 y} (h:ZbK a0=some y):K22.G (K22.E a0)=some (K22.R a0 y):=i22.eq h
noncomputable abbrev K61:Con ((List Int)×Int) ((List Int)):=⟨fun x=>[.one (.slice .no (Zd .u8 x.1)),.one (.v (.int .u64 x.2))],fun _ y=>(.one (.own 1 (Zd .u8 y)),[]),fun x=>Xn x.1 x.2⟩
theorem i61:K61.Inj:=by intro a b h; simpa [K61,Prod.ext_iff,and_assoc] using h
theorem ZjX {a0 a1 y} (h:Xn a0 a1=some y):K61.G (K61.E (a0,a1))=some (K61.R (a0,a1) y):=i61.eq h
noncomputable abbrev K60:Con ((List Int)×(List Int)) ((List Int)):=⟨fun x=>[.one (.slice .no (Zd .u8 x.1)),.one (.slice .no (Zd .u8 x.2))],fun _ y=>(.one (.own 1 (Zd .u8 y)),[]),fun x=>XZ x.1 x.2⟩
theorem i60:K60.Inj:=by intro a b h; simpa [K60,Prod.ext_iff,and_assoc] using h
theorem Zra {a0 a1 y} (h:XZ a0 a1=some y):K60.G (K60.E (a0,a1))=some (K60.R (a0,a1) y):=i60.eq h
noncomputable abbrev K211:Con ((List Int)×Int) ((List Int)):=⟨fun x=>[.one (.slice .no (Zd .u8 x.1)),.one (.v (.int .u64 x.2))],fun _ y=>(.one (.own 1 (Zd .u8 y)),[]),fun x=>ZaW x.1 x.2⟩
theorem i211:K211.Inj:=by intro a b h; simpa [K211,Prod.ext_iff,and_assoc] using h
theorem ZtZ {a0 a1 y} (h:ZaW a0 a1=some y):K211.G (K211.E (a0,a1))=some (K211.R (a0,a1) y):=i211.eq h
noncomputable abbrev K166:Con Tapi_Output ((List Int)):=⟨fun x=>[.agg ([.v (.int .i64 x.1),.slice .no (Zd .u8 x.2)])],fun _ y=>(.one (.own 1 (Zd .u8 y)),[]),fun x=>Zei x⟩
theorem i166:K166.Inj:=by intro a b h; simpa [K166,Prod.ext_iff,and_assoc] using h
theorem Zt0 {a0 y} (h:Zei a0=some y):K166.G (K166.E a0)=some (K166.R a0 y):=i166.eq h
noncomputable abbrev K114:Con (Tapi_Tx×Bool) ((List Int)):=⟨fun x=>[.agg ([.v (.int .u32 x.1.1),.slice .no (List.map Zs x.1.2.1),.slice .no (List.map Zr x.1.2.2.1),.v (.int .u32 x.1.2.2.2)]),.one (.v (.bool x.2))],fun _ y=>(.one (.own 1 (Zd .u8 y)),[]),fun x=>Zbt x.1 x.2⟩
theorem i114:K114.Inj:=by intro a b h; simpa [K114,Prod.ext_iff,and_assoc] using h
theorem ZoO {a0 a1 y} (h:Zbt a0 a1=some y):K114.G (K114.E (a0,a1))=some (K114.R (a0,a1) y):=i114.eq h
noncomputable abbrev K72:Con Tapi_Tx Bool:=⟨fun x=>[.agg ([.v (.int .u32 x.1),.slice .no (List.map Zs x.2.1),.slice .no (List.map Zr x.2.2.1),.v (.int .u32 x.2.2.2)])],fun _ y=>(.one (.v (.bool y)),[]),fun x=>ZcA x⟩
theorem i72:K72.Inj:=by intro a b h; simpa [K72,Prod.ext_iff,and_assoc] using h
theorem Zrb {a0 y} (h:ZcA a0=some y):K72.G (K72.E a0)=some (K72.R a0 y):=i72.eq h
noncomputable abbrev K115:Con (Tapi_Tx×Bool) ((List Int)×Int):=⟨fun x=>[.agg ([.v (.int .u32 x.1.1),.slice .no (List.map Zs x.1.2.1),.slice .no (List.map Zr x.1.2.2.1),.v (.int .u32 x.1.2.2.2)]),.one (.v (.bool x.2))],fun _ y=>(.tup [.one (.slice .no (Zd .u8 y.1)),.one (.v (.int .i64 y.2))],[]),fun x=>Zcc x.1 x.2⟩
theorem i115:K115.Inj:=by intro a b h; simpa [K115,Prod.ext_iff,and_assoc] using h
theorem Zt1 {a0 a1 y} (h:Zcc a0 a1=some y):K115.G (K115.E (a0,a1))=some (K115.R (a0,a1) y):=i115.eq h
noncomputable abbrev K73:Con Tapi_Block ((List Int)):=⟨fun x=>[.agg ((.v (.int .u32 x.1.1)) :: ((arC .u8 x.1.2.1)++((arC .u8 x.1.2.2.1)++((.v (.int .u32 x.1.2.2.2.1)) :: ((.v (.int .u32 x.1.2.2.2.2.1)) :: ((.v (.int .u32 x.1.2.2.2.2.2)) :: ((.slice .no (List.map YD x.2)) :: [])))))))],fun _ y=>(.one (.own 1 (Zd .u8 y)),[]),fun x=>Zcd x⟩
theorem i73:K73.Inj:=by intro a b h; simpa [K73,Prod.ext_iff,and_assoc] using h
theorem Zvm {a0 y} (h:Zcd a0=some y):K73.G (K73.E a0)=some (K73.R a0 y):=i73.eq h
noncomputable abbrev K39:Con Tapi_Block Bool:=⟨fun x=>[.agg ((.v (.int .u32 x.1.1)) :: ((arC .u8 x.1.2.1)++((arC .u8 x.1.2.2.1)++((.v (.int .u32 x.1.2.2.2.1)) :: ((.v (.int .u32 x.1.2.2.2.2.1)) :: ((.v (.int .u32 x.1.2.2.2.2.2)) :: ((.slice .no (List.map YD x.2)) :: [])))))))],fun _ y=>(.one (.v (.bool y)),[]),fun x=>ZdB x⟩
theorem i39:K39.Inj:=by intro a b h; simpa [K39,Prod.ext_iff,and_assoc] using h
theorem Zvn {a0 y} (h:ZdB a0=some y):K39.G (K39.E a0)=some (K39.R a0 y):=i39.eq h
noncomputable abbrev K25:Con ((List Int)×(List Int)) Bool:=⟨fun x=>[.one (.slice .no (Zd .u8 x.1)),.one (.slice .no (Zd .u8 x.2))],fun _ y=>(.one (.v (.bool y)),[]),fun x=>Zba x.1 x.2⟩
theorem i25:K25.Inj:=by intro a b h; simpa [K25,Prod.ext_iff,and_assoc] using h
theorem ZnR {a0 a1 y} (h:Zba a0 a1=some y):K25.G (K25.E (a0,a1))=some (K25.R (a0,a1) y):=i25.eq h
def E74 (x:(List (List Int))):List PV:=[.one (.slice .no (List.map ZJ x))]
theorem E74i:∀ a b,E74 a=E74 b→a=b:=by
  rintro a0 b0 h
  simpa [E74,and_assoc] using h
def R74 (x:(List (List Int))) (y:(List (List Int))):PV×List (List Cell):=(.one (.own 1 (List.map ZJ y)),[])
noncomputable def G74:=XW E74 fun x=>(X5 x).map (R74 x)
theorem Zvo {a0:(List (List Int))} {y:(List (List Int))} (h:X5 a0=some y):G74 (E74 a0)=some (R74 a0 y):=Xx E74i h
noncomputable abbrev K116:Con (Int×Int) Int:=⟨fun x=>[.one (.v (.int .u64 x.1)),.one (.v (.int .u64 x.2))],fun _ y=>(.one (.v (.int .u64 y)),[]),fun x=>Zd1 x.1 x.2⟩
theorem i116:K116.Inj:=by intro a b h; simpa [K116,Prod.ext_iff,and_assoc] using h
theorem Zt2 {a0 a1 y} (h:Zd1 a0 a1=some y):K116.G (K116.E (a0,a1))=some (K116.R (a0,a1) y):=i116.eq h
noncomputable abbrev K78:Con ((List Int)) Int:=⟨fun x=>[.one (.slice .no (Zd .u8 x))],fun _ y=>(.one (.v (.int .u64 y)),[]),fun x=>ZbI x⟩
theorem i78:K78.Inj:=by intro a b h; simpa [K78,Prod.ext_iff,and_assoc] using h
theorem Zlu {a0 y} (h:ZbI a0=some y):K78.G (K78.E a0)=some (K78.R a0 y):=i78.eq h
noncomputable abbrev K168:Con ((Arr 4)) ((Arr 4)):=⟨fun x=>[.agg (arC .u64 x)],fun _ y=>(.agg (arC .u64 y),[]),fun x=>X6 x⟩
theorem i168:K168.Inj:=by intro a b h; simpa [K168,Prod.ext_iff,and_assoc] using h
theorem Zhn {a0 y} (h:X6 a0=some y):K168.G (K168.E a0)=some (K168.R a0 y):=i168.eq h
def Zid (x:(Arr 4)×Int):List PV:=[.agg (arC .u64 x.1),.one (.v (.int .u64 x.2))]
theorem E167i:∀ a b,Zid a=Zid b→a=b:=by
  rintro ⟨a0,a1⟩ ⟨b0,b1⟩ h
  simpa [Zid,and_assoc] using h
def ZkT (x:(Arr 4)×Int) (y:(Arr 4)):PV×List (List Cell):=(.agg (arC .u64 y),[])
noncomputable def G167:=XW Zid fun x=>(Zao x.1 x.2).map (ZkT x)
theorem ZoP {a0:(Arr 4)} {a1:Int} {y:(Arr 4)} (h:Zao a0 a1=some y):G167 (Zid (a0,a1))=some (ZkT (a0,a1) y):=Xx E167i h
def Zjb (x:(Arr 2)×(List Int)):List PV:=[.agg (arC .u64 x.1),.one (.slice .no (Zd .u8 x.2))]
theorem E117i:∀ a b,Zjb a=Zjb b→a=b:=by
  rintro ⟨a0,a1⟩ ⟨b0,b1⟩ h
  simpa [Zjb,and_assoc] using h
def ZlV (x:(Arr 2)×(List Int)) (y:Int):PV×List (List Cell):=(.one (.v (.int .u64 y)),[])
noncomputable def G117:=XW Zjb fun x=>(Zc7 x.1 x.2).map (ZlV x)
theorem Zt3 {a0:(Arr 2)} {a1:(List Int)} {y:Int} (h:Zc7 a0 a1=some y):G117 (Zjb (a0,a1))=some (ZlV (a0,a1) y):=Xx E117i h
def E75 (x:(Arr 2)×(List Int)×Int×Int):List PV:=[.agg (arC .u64 x.1),.one (.slice .no (Zd .u8 x.2.1)),.one (.v (.int .i64 x.2.2.1)),.one (.v (.int .u64 x.2.2.2))]
theorem E75i:∀ a b,E75 a=E75 b→a=b:=by
  rintro ⟨a0,a1,a2,a3⟩ ⟨b0,b1,b2,b3⟩ h
  simpa [E75,and_assoc] using h
def R75 (x:(Arr 2)×(List Int)×Int×Int) (y:Int):PV×List (List Cell):=(.one (.v (.int .u64 y)),[])
noncomputable def G75:=XW E75 fun x=>(Zbi x.1 x.2.1 x.2.2.1 x.2.2.2).map (R75 x)
theorem Zvp {a0:(Arr 2)} {a1:(List Int)} {a2:Int} {a3:Int} {y:Int} (h:Zbi a0 a1 a2 a3=some y):G75 (E75 (a0,a1,a2,a3))=some (R75 (a0,a1,a2,a3) y):=Xx E75i h
noncomputable abbrev K173:Con (Tapi_Bits×Int) Bool:=⟨fun x=>[.agg ([.slice .no (Zd .u8 x.1.1),.v (.int .i64 x.1.2)]),.one (.v (.int .i64 x.2))],fun _ y=>(.one (.v (.bool y)),[]),fun x=>Zen x.1 x.2⟩
theorem i173:K173.Inj:=by intro a b h; simpa [K173,Prod.ext_iff,and_assoc] using h
theorem Zt4 {a0 a1 y} (h:Zen a0 a1=some y):K173.G (K173.E (a0,a1))=some (K173.R (a0,a1) y):=i173.eq h
noncomputable abbrev K169:Con Tapi_Bits Bool:=⟨fun x=>[.agg ([.slice .no (Zd .u8 x.1),.v (.int .i64 x.2)])],fun _ y=>(.one (.v (.bool y)),[]),fun x=>ZcM x⟩
theorem i169:K169.Inj:=by intro a b h; simpa [K169,Prod.ext_iff,and_assoc] using h
theorem Zt5 {a0 y} (h:ZcM a0=some y):K169.G (K169.E a0)=some (K169.R a0 y):=i169.eq h
noncomputable abbrev K170_13:Con (Tapi_Bits×Bool) Tapi_Bits:=⟨fun x=>[.agg ([.own 1 (Zd .u8 x.1.1),.v (.int .i64 x.1.2)]),.one (.v (.bool x.2))],fun _ y=>(.agg ([.own 1 (Zd .u8 y.1),.v (.int .i64 y.2)]),[]),fun x=>Zco x.1 x.2⟩
theorem i170_13:K170_13.Inj:=by intro a b h; simpa [K170_13,Prod.ext_iff,and_assoc] using h
theorem Zjc {a0 a1 y} (h:Zco a0 a1=some y):K170_13.G (K170_13.E (a0,a1))=some (K170_13.R (a0,a1) y):=i170_13.eq h
noncomputable abbrev K118:Con (Tapi_Bits×Int×Int) (Tapi_Bits×Int):=⟨fun x=>[.agg ([.slice .no (Zd .u8 x.1.1),.v (.int .i64 x.1.2)]),.one (.v (.int .u64 x.2.1)),.one (.v (.int .i64 x.2.2))],fun _ y=>(.tup [.agg ([.slice .no (Zd .u8 y.1.1),.v (.int .i64 y.1.2)]),.one (.v (.int .i64 y.2))],[]),fun x=>Zaf x.1 x.2.1 x.2.2⟩
theorem i118:K118.Inj:=by intro a b h; simpa [K118,Prod.ext_iff,and_assoc] using h
theorem Zt6 {a0 a1 a2 y} (h:Zaf a0 a1 a2=some y):K118.G (K118.E (a0,a1,a2))=some (K118.R (a0,a1,a2) y):=i118.eq h
noncomputable abbrev K76:Con ((List Int)×Int) (Tapi_Filter×Int):=⟨fun x=>[.one (.slice .no (Zd .u64 x.1)),.one (.v (.int .i64 x.2))],fun _ y=>(.tup [.agg ([.v (.int .i64 y.1.1),.slice .no (Zd .u8 y.1.2)]),.one (.v (.int .i64 y.2))],[]),fun x=>Zbw x.1 x.2⟩
theorem i76:K76.Inj:=by intro a b h; simpa [K76,Prod.ext_iff,and_assoc] using h
theorem Zvq {a0 a1 y} (h:Zbw a0 a1=some y):K76.G (K76.E (a0,a1))=some (K76.R (a0,a1) y):=i76.eq h
def E77 (x:(List Int)):List PV:=[.one (.slice .no (Zd .u64 x))]
theorem E77i:∀ a b,E77 a=E77 b→a=b:=by
  rintro a0 b0 h
  simpa [E77,and_assoc] using h
def R77 (x:(List Int)) (y:(List Int)):PV×List (List Cell):=(.one (.slice .no (Zd .u64 y)),[])
noncomputable def G77:=XW E77 fun x=>(ZeX x).map (R77 x)
theorem Zvr {a0:(List Int)} {y:(List Int)} (h:ZeX a0=some y):G77 (E77 a0)=some (R77 a0 y):=Xx E77i h
noncomputable def ZpO (n:Nat):=XW E77 fun x=>(Lref19_sorted_n n x).map (R77 x)
theorem ZoQ {n:Nat} {a0:(List Int)} {y:(List Int)} (h:Lref19_sorted_n n a0=some y):ZpO n (E77 a0)=some (R77 a0 y):=Xx E77i h
noncomputable abbrev K40:Con ((Arr 2)×(List (List Int))×Int×Int) (Tapi_Filter×Int):=⟨fun x=>[.agg (arC .u64 x.1),.one (.slice .no (List.map ZJ x.2.1)),.one (.v (.int .i64 x.2.2.1)),.one (.v (.int .u64 x.2.2.2))],fun _ y=>(.tup [.agg ([.v (.int .i64 y.1.1),.slice .no (Zd .u8 y.1.2)]),.one (.v (.int .i64 y.2))],[]),fun x=>ZbY x.1 x.2.1 x.2.2.1 x.2.2.2⟩
theorem i40:K40.Inj:=by intro a b h; simpa [K40,Prod.ext_iff,and_assoc] using h
theorem Zvs {a0 a1 a2 a3 y} (h:ZbY a0 a1 a2 a3=some y):K40.G (K40.E (a0,a1,a2,a3))=some (K40.R (a0,a1,a2,a3) y):=i40.eq h
noncomputable abbrev K41:Con ((Arr 32)) ((Arr 2)):=⟨fun x=>[.agg (arC .u8 x)],fun _ y=>(.agg (arC .u64 y),[]),fun x=>Zet x⟩
theorem i41:K41.Inj:=by intro a b h; simpa [K41,Prod.ext_iff,and_assoc] using h
theorem Zvt {a0 y} (h:Zet a0=some y):K41.G (K41.E a0)=some (K41.R a0 y):=i41.eq h
noncomputable abbrev K12:Con Tapi_Block (Tapi_Filter×Int):=⟨fun x=>[.agg ((.v (.int .u32 x.1.1)) :: ((arC .u8 x.1.2.1)++((arC .u8 x.1.2.2.1)++((.v (.int .u32 x.1.2.2.2.1)) :: ((.v (.int .u32 x.1.2.2.2.2.1)) :: ((.v (.int .u32 x.1.2.2.2.2.2)) :: ((.slice .no (List.map YD x.2)) :: [])))))))],fun _ y=>(.tup [.agg ([.v (.int .i64 y.1.1),.slice .no (Zd .u8 y.1.2)]),.one (.v (.int .i64 y.2))],[]),fun x=>Zfq x⟩
theorem i12:K12.Inj:=by intro a b h; simpa [K12,Prod.ext_iff,and_assoc] using h
theorem Zvu {a0 y} (h:Zfq a0=some y):K12.G (K12.E a0)=some (K12.R a0 y):=i12.eq h
noncomputable abbrev K13:Con ((List (List Int))×(List (List Int))) Bool:=⟨fun x=>[.one (.slice .no (List.map ZJ x.1)),.one (.slice .no (List.map ZJ x.2))],fun _ y=>(.one (.v (.bool y)),[]),fun x=>Za6 x.1 x.2⟩
theorem i13:K13.Inj:=by intro a b h; simpa [K13,Prod.ext_iff,and_assoc] using h
theorem Zvv {a0 a1 y} (h:Za6 a0 a1=some y):K13.G (K13.E (a0,a1))=some (K13.R (a0,a1) y):=i13.eq h
noncomputable abbrev K16:Con (Tapi_Filter×Tapi_Filter) Bool:=⟨fun x=>[.agg ([.v (.int .i64 x.1.1),.slice .no (Zd .u8 x.1.2)]),.agg ([.v (.int .i64 x.2.1),.slice .no (Zd .u8 x.2.2)])],fun _ y=>(.one (.v (.bool y)),[]),fun x=>Zdz x.1 x.2⟩
theorem i16:K16.Inj:=by intro a b h; simpa [K16,Prod.ext_iff,and_assoc] using h
theorem Zvw {a0 a1 y} (h:Zdz a0 a1=some y):K16.G (K16.E (a0,a1))=some (K16.R (a0,a1) y):=i16.eq h
def E3 (x:Tapi_Block):List PV:=[.agg ((.v (.int .u32 x.1.1)) :: ((arC .u8 x.1.2.1)++((arC .u8 x.1.2.2.1)++((.v (.int .u32 x.1.2.2.2.1)) :: ((.v (.int .u32 x.1.2.2.2.2.1)) :: ((.v (.int .u32 x.1.2.2.2.2.2)) :: ((.slice .no (List.map YD x.2)) :: [])))))))]
theorem E3i:∀ a b,E3 a=E3 b→a=b:=by
  rintro ⟨⟨a0_0_0,a0_0_1,a0_0_2,a0_0_3,a0_0_4,a0_0_5⟩,a0_1⟩ ⟨⟨b0_0_0,b0_0_1,b0_0_2,b0_0_3,b0_0_4,b0_0_5⟩,b0_1⟩ h
  simpa [E3,and_assoc] using h
def R3 (x:Tapi_Block) (y:Bool):PV×List (List Cell):=(.one (.v (.bool y)),[])
noncomputable def G3:=XW E3 fun x=>(Zag x).map (R3 x)
theorem Zwv {a0:Tapi_Block} {y:Bool} (h:Zag a0=some y):G3 (E3 a0)=some (R3 a0 y):=Xx E3i h
noncomputable abbrev K191:Con ((Arr 4)×Int) Bool:=⟨fun x=>[.agg (arC .u64 x.1),.one (.v (.int .i64 x.2))],fun _ y=>(.one (.v (.bool y)),[]),fun x=>Zc8 x.1 x.2⟩
theorem i191:K191.Inj:=by intro a b h; simpa [K191,Prod.ext_iff,and_assoc] using h
theorem ZoR {a0 a1 y} (h:Zc8 a0 a1=some y):K191.G (K191.E (a0,a1))=some (K191.R (a0,a1) y):=i191.eq h
noncomputable abbrev K143:Con ((Arr 4)×Int) ((Arr 4)):=⟨fun x=>[.agg (arC .u64 x.1),.one (.v (.int .i64 x.2))],fun _ y=>(.agg (arC .u64 y),[]),fun x=>Zc9 x.1 x.2⟩
theorem i143:K143.Inj:=by intro a b h; simpa [K143,Prod.ext_iff,and_assoc] using h
theorem Zt7 {a0 a1 y} (h:Zc9 a0 a1=some y):K143.G (K143.E (a0,a1))=some (K143.R (a0,a1) y):=i143.eq h
noncomputable abbrev K192:Con ((Arr 4)) Bool:=⟨fun x=>[.agg (arC .u64 x)],fun _ y=>(.one (.v (.bool y)),[]),fun x=>ZcC x⟩
theorem i192:K192.Inj:=by intro a b h; simpa [K192,Prod.ext_iff,and_assoc] using h
theorem ZoS {a0 y} (h:ZcC a0=some y):K192.G (K192.E a0)=some (K192.R a0 y):=i192.eq h
noncomputable abbrev K222:Con Int ((Arr 4)):=⟨fun x=>[.one (.v (.int .u64 x))],fun _ y=>(.agg (arC .u64 y),[]),fun x=>Zbr x⟩
theorem i222:K222.Inj:=by intro a b h; simpa [K222,Prod.ext_iff,and_assoc] using h
theorem Zt8 {a0 y} (h:Zbr a0=some y):K222.G (K222.E a0)=some (K222.R a0 y):=i222.eq h
noncomputable abbrev K225:Con ((Arr 4)) Int:=⟨fun x=>[.agg (arC .u64 x)],fun _ y=>(.one (.v (.int .i64 y)),[]),fun x=>Zeq x⟩
theorem i225:K225.Inj:=by intro a b h; simpa [K225,Prod.ext_iff,and_assoc] using h
theorem Zt9 {a0 y} (h:Zeq a0=some y):K225.G (K225.E a0)=some (K225.R a0 y):=i225.eq h
def ZlW (x:Int×Int×Int):List PV:=[.one (.v (.int .u64 x.1)),.one (.v (.int .u64 x.2.1)),.one (.v (.int .u64 x.2.2))]
theorem E237i:∀ a b,ZlW a=ZlW b→a=b:=by
  rintro ⟨a0,a1,a2⟩ ⟨b0,b1,b2⟩ h
  simpa [ZlW,and_assoc] using h
def ZpP (x:Int×Int×Int) (y:Int×Int):PV×List (List Cell):=(.tup [.one (.v (.int .u64 y.1)),.one (.v (.int .u64 y.2))],[])
noncomputable def G237:=XW ZlW fun x=>(Za5 x.1 x.2.1 x.2.2).map (ZpP x)
theorem Zua {a0:Int} {a1:Int} {a2:Int} {y:Int×Int} (h:Za5 a0 a1 a2=some y):G237 (ZlW (a0,a1,a2))=some (ZpP (a0,a1,a2) y):=Xx E237i h
noncomputable abbrev K238:Con ((Arr 4)×(Arr 4)) ((Arr 4)×Bool):=⟨fun x=>[.agg (arC .u64 x.1),.agg (arC .u64 x.2)],fun _ y=>(.tup [.agg (arC .u64 y.1),.one (.v (.bool y.2))],[]),fun x=>Zer x.1 x.2⟩
theorem i238:K238.Inj:=by intro a b h; simpa [K238,Prod.ext_iff,and_assoc] using h
theorem Zub {a0 a1 y} (h:Zer a0 a1=some y):K238.G (K238.E (a0,a1))=some (K238.R (a0,a1) y):=i238.eq h
noncomputable abbrev K226:Con ((Arr 4)×Int) ((Arr 4)):=⟨fun x=>[.agg (arC .u64 x.1),.one (.v (.int .i64 x.2))],fun _ y=>(.agg (arC .u64 y),[]),fun x=>Zes x.1 x.2⟩
theorem i226:K226.Inj:=by intro a b h; simpa [K226,Prod.ext_iff,and_assoc] using h
theorem ZoT {a0 a1 y} (h:Zes a0 a1=some y):K226.G (K226.E (a0,a1))=some (K226.R (a0,a1) y):=i226.eq h
noncomputable abbrev K188:Con Int ((Arr 4)×Int):=⟨fun x=>[.one (.v (.int .u32 x))],fun _ y=>(.tup [.agg (arC .u64 y.1),.one (.v (.int .i64 y.2))],[]),fun x=>Zdm x⟩
theorem i188:K188.Inj:=by intro a b h; simpa [K188,Prod.ext_iff,and_assoc] using h
noncomputable abbrev K189:Con ((Arr 4)×(Arr 4)) Int:=⟨fun x=>[.agg (arC .u64 x.1),.agg (arC .u64 x.2)],fun _ y=>(.one (.v (.int .i64 y)),[]),fun x=>ZfI x.1 x.2⟩
theorem i189:K189.Inj:=by intro a b h; simpa [K189,Prod.ext_iff,and_assoc] using h
noncomputable abbrev K190:Con ((Arr 32)) ((Arr 4)):=⟨fun x=>[.agg (arC .u8 x)],fun _ y=>(.agg (arC .u64 y),[]),fun x=>ZbZ x⟩
theorem i190:K190.Inj:=by intro a b h; simpa [K190,Prod.ext_iff,and_assoc] using h
end Go.Proofs.YthpkpciceodioaaGreatDoor
