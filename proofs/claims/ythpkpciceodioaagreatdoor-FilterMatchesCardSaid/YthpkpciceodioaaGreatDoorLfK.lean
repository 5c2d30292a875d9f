import Derived.Test.YthpkpciceodioaaGreatDoorLcG3
import Derived.Test.YthpkpciceodioaaGreatDoorLcG1
import Derived.Test.YthpkpciceodioaaGreatDoorLcG1
import Derived.Test.YthpkpciceodioaaGreatDoorLcG3
import Derived.Test.YthpkpciceodioaaGreatDoorTt
namespace Go.Proofs.YthpkpciceodioaaGreatDoor
open Go.RowKit
open Go.Av
open Go.Lc
set_option maxRecDepth 100000
set_option linter.unusedSimpArgs false
set_option linter.unusedVariables false
attribute [simp] tt1 tt2 tt3 tt4 tt5 tt6 tt7 tt8 tt9 tt10 tt11 tt12 tt13 tt14 tt15 tt16 tt17 tt18 tt19 tt21 tt22 tt23 tt24 tt25 tt26 tt27 tt28 tt29 tt30 tt31 tt32 tt33 tt34 tt35 tt37 tt38 tt39 tt40 tt41 tt42 tt44 tt45 tt46 tt47 tt48 tt49 tt50 tt51 tt52 tt53 tt54 tt55 tt56 tt57 tt58 tt59 tt60 tt61 tt62 tt63 tt64 tt65 tt66 tt67 tt68 tt69 tt70 tt72 tt73 tt74 tt75 tt77 tt78 tt79 tt80 tt81 tt82 tt83 tt85 tt86 tt107 tt109 tt119 tt120 tt121 tt122 tt123 tt124 tt126 tt127 tt140 tt151 tt152 tt171 tt172 tt182 tt183 tt189 tt191 tt193 tt199 tt203 tt204 tt207 tt222 tt238 tt246 tt256 tt265 tt266 tt274 tt278 tt289 tt297 tt301 tt302 tt328 tt329 tt330 tt331 tt332 tt334 tt335 tt336 tt337 tt338 tt339 tt340 tt341 ti1 ti2 ti3 ti4 ti5 ti6 ti7 ti8 ti9 ti10 ti11 ti12 ti13 ti14 ti15 ti16 ti17 ti18 ti19 ti21 ti22 ti23 ti24 ti25 ti26 ti27 ti28 ti29 ti30 ti31 ti32 ti33 ti34 ti35 ti37 ti38 ti39 ti40 ti41 ti42 ti44 ti45 ti46 ti47 ti48 ti49 ti50 ti51 ti52 ti53 ti54 ti55 ti56 ti57 ti58 ti59 ti60 ti61 ti62 ti63 ti64 ti65 ti66 ti67 ti68 ti69 ti70 ti72 ti73 ti74 ti75 ti77 ti78 ti79 ti80 ti81 ti82 ti83 ti85 ti86 ti107 ti109 ti119 ti120 ti121 ti122 ti123 ti124 ti126 ti127 ti140 ti151 ti152 ti171 ti172 ti182 ti183 ti189 ti191 ti193 ti199 ti203 ti204 ti207 ti222 ti238 ti246 ti256 ti265 ti266 ti274 ti278 ti289 ti297 ti301 ti302 ti328 ti329 ti330 ti331 ti332 ti334 ti335 ti336 ti337 ti338 ti339 ti340 ti341
@[simp] theorem ZtL {n : Nat} {k : IntKind} {l : List (Arr n)} : l.any ((fun l=>l.any Cell.isSl) ∘ arC k) = false:=by simp [arC,ints]
@[simp↓] theorem Ztq {k : IntKind} (m : List Int) (n : Nat) : (∀ l,l∈List.drop n (Ze k m)→l.length = 1) = True:=eq_true fun l h=>intsR_all l (List.mem_of_mem_drop h)
@[simp↓] theorem Ztr {k : IntKind} (m : List Int) (n : Nat) : (∀ l,l∈List.take n (Ze k m)→l.length = 1) = True:=eq_true fun l h=>intsR_all l (List.mem_of_mem_take h)
@[simp↓] theorem Zts {k : IntKind} (m : List Int) : (∀ l,l∈(Ze k m).tail→l.length = 1) = True:=eq_true fun l h=>intsR_all l (List.mem_of_mem_tail h)
@[simp↓] theorem ZsP {k : IntKind} (m : List Int) (n : Nat) : (∀ l,l∈List.take n (Ze k m).tail→l.length = 1) = True:=eq_true fun l h=>intsR_all l (List.mem_of_mem_tail (List.mem_of_mem_take h))
@[simp↓] theorem ZsQ {k : IntKind} (m : List Int) (n : Nat) : (∀ l,l∈List.drop n (Ze k m).tail→l.length = 1) = True:=eq_true fun l h=>intsR_all l (List.mem_of_mem_tail (List.mem_of_mem_drop h))
@[simp] theorem arC_z8 : arC .u64 (zA 8) = arC .u64 (zA 4)++arC .u64 (zA 4):=rfl
@[simp] theorem arC_z12 : arC .u64 (zA 12) = arC .u64 (zA 4)++(arC .u64 (zA 4)++arC .u64 (zA 4)):=rfl
@[simp] def YH (x : (List Int)) : List Cell:=[.slice .no (Ze .u8 x)]
theorem eS_I_u8_inj : ∀ a b,YH a = YH b→a = b:=by
  rintro a b h
  simpa [and_assoc] using h
@[simp↓] theorem ZiU (m : List (List Int)) : (∀ l,l∈List.map YH m→l.length = 1) = True:=ZiS (fun a=>by simp) m
@[simp↓] theorem Zsc (m : List (List Int)) (k : Nat) : (∀ l,l∈List.drop k (List.map YH m)→l.length = 1) = True:=eq_true fun l h=>of_eq_true (ZiU m) l (List.mem_of_mem_drop h)
@[simp↓] theorem Zsd (m : List (List Int)) (k : Nat) : (∀ l,l∈List.take k (List.map YH m)→l.length = 1) = True:=eq_true fun l h=>of_eq_true (ZiU m) l (List.mem_of_mem_take h)
@[simp] theorem ZsR {l m : List (List Int)} : List.map YH l = List.map YH m↔l = m:=Zmn eS_I_u8_inj
theorem nfs : (∀ x : (List Int),YH x = [.slice .no (Ze .u8 x)]):=fun _=>rfl
theorem bN {α β : Type} {o : Option α} {f : α→Option β} {y : β} {P P' : α→Prop} (h : o.bind f = some y) (k : ∀ {x},o = some x→P x) (n : ∀ x,P x→P' x:=by intro x h; try simp only [nf,nfs] at h; exact h) : ∃ x,P' x∧f x = some y :=
  let ⟨x,h1,h2⟩:=bs h
  ⟨x,n x (k h1),h2⟩
theorem Y6 {P R : Prop} (k : R) (h : ∀ X : Prop,ZiC X R→Imp X P:=by
  intro X e
  repeat (first
    | (with_reducible refine Zgo ?_)
    | (with_reducible refine ZdR ?_)
    | (with_reducible refine Zdg ?_)
    | (with_reducible refine ZdS ?_)
    | (with_reducible refine ZeO ?_)
    | (with_reducible refine Zgp ?_)
    | (with_reducible refine Zg5 ?_)
    | (with_reducible refine Zg6 ?_)
    | (with_reducible refine Zif ?_)
    | (with_reducible refine Zdh ?_ ?_; · simp [-Int.ofNat_toNat,bV, *]; done)
    | (with_reducible refine Zdi ?_ ?_; · simp [-Int.ofNat_toNat,bV, *]; done)
    | (refine ZeN rfl (by first | (simp [-Int.ofNat_toNat,Nat.add_assoc,-Int.natCast_tdiv_eq_ediv, *] <;> rfl) | fail) ?_)
    | (refine ZdQ rfl (by simp [-Int.ofNat_toNat,Nat.add_assoc,-Int.natCast_tdiv_eq_ediv, *]; first | exact ⟨rfl,rfl⟩ | rfl) (by kernel_rfl) ?_)
    | (with_reducible refine Zgq ?_ ?_; · simp [-Int.ofNat_toNat,bV, *]; done)
    | (with_reducible refine Zgr ?_ ?_; · simp [-Int.ofNat_toNat,bV, *]; done)
    | (refine Zie rfl (by first | (simp [-Int.ofNat_toNat,Nat.add_assoc,-Int.natCast_tdiv_eq_ediv, *] <;> rfl) | fail) ?_)
    | (refine Zg4 rfl (by simp [-Int.ofNat_toNat,Nat.add_assoc,-Int.natCast_tdiv_eq_ediv, *]; first | exact ⟨rfl,rfl⟩ | rfl) (by kernel_rfl) ?_)
    | (refine ZjC ?_ (by simp only [pq,reduceCtorEq]; rfl)))
  exact Imp.of e) : P:=h R ⟨rfl⟩ k
theorem Zbm {P R : Prop} (k : R) (h : ∀ X : Prop,ZiC X R→Imp X P:=by
  intro X e
  repeat (first
    | (with_reducible refine Zgo ?_)
    | (with_reducible refine ZdR ?_)
    | (with_reducible refine Zdg ?_)
    | (with_reducible refine ZdS ?_)
    | (with_reducible refine ZeO ?_)
    | (with_reducible refine Zgp ?_)
    | (with_reducible refine Zg5 ?_)
    | (with_reducible refine Zg6 ?_)
    | (with_reducible refine Zif ?_)
    | (with_reducible refine Zdh ?_ ?_; · simp [-Int.ofNat_toNat,bV, *]; done)
    | (with_reducible refine Zdi ?_ ?_; · simp [-Int.ofNat_toNat,bV, *]; done)
    | (refine ZeN rfl (by first | (simp [-Int.ofNat_toNat,Nat.add_assoc,-Int.natCast_tdiv_eq_ediv,List.range,List.range.loop,-Y9,-List.take_append,-List.drop_append, *] <;> rfl) | fail) ?_)
    | (refine ZdQ rfl (by simp [-Int.ofNat_toNat,Nat.add_assoc,-Int.natCast_tdiv_eq_ediv,List.range,List.range.loop,-Y9,-List.take_append,-List.drop_append, *]; first | exact ⟨rfl,rfl⟩ | rfl) (by kernel_rfl) ?_)
    | (with_reducible refine Zgq ?_ ?_; · simp [-Int.ofNat_toNat,bV, *]; done)
    | (with_reducible refine Zgr ?_ ?_; · simp [-Int.ofNat_toNat,bV, *]; done)
    | (refine Zie rfl (by first | (simp [-Int.ofNat_toNat,Nat.add_assoc,-Int.natCast_tdiv_eq_ediv,List.range,List.range.loop,-Y9,-List.take_append,-List.drop_append, *] <;> rfl) | fail) ?_)
    | (refine Zg4 rfl (by simp [-Int.ofNat_toNat,Nat.add_assoc,-Int.natCast_tdiv_eq_ediv,List.range,List.range.loop,-Y9,-List.take_append,-List.drop_append, *]; first | exact ⟨rfl,rfl⟩ | rfl) (by kernel_rfl) ?_)
    | (refine ZjC ?_ (by simp only [pq,reduceCtorEq]; rfl)))
  exact Imp.of e) : P:=h R ⟨rfl⟩ k
theorem goL {P R : Prop} (k : R) (h : ∀ X : Prop,ZiC X R→Imp X P:=by
  intro X e
  repeat (first
    | (with_reducible refine Zgo ?_)
    | (with_reducible refine ZdR ?_)
    | (with_reducible refine Zdg ?_)
    | (with_reducible refine ZdS ?_)
    | (with_reducible refine ZeO ?_)
    | (with_reducible refine Zgp ?_)
    | (with_reducible refine Zg5 ?_)
    | (with_reducible refine Zg6 ?_)
    | (with_reducible refine Zif ?_)
    | (with_reducible refine Zdh ?_ ?_; · simp [-Int.ofNat_toNat,bV, *]; done)
    | (with_reducible refine Zdi ?_ ?_; · simp [-Int.ofNat_toNat,bV, *]; done)
    | (refine ZeN rfl (by first | (simp [-Int.ofNat_toNat,-Zb,Za, *] <;> rfl) | fail) ?_)
    | (refine ZdQ rfl (by simp [-Int.ofNat_toNat,-Zb,Za, *]; first | exact ⟨rfl,rfl⟩ | rfl) (by kernel_rfl) ?_)
    | (with_reducible refine Zgq ?_ ?_; · simp [-Int.ofNat_toNat,bV, *]; done)
    | (with_reducible refine Zgr ?_ ?_; · simp [-Int.ofNat_toNat,bV, *]; done)
    | (refine Zie rfl (by first | (simp [-Int.ofNat_toNat,-Zb,Za, *] <;> rfl) | fail) ?_)
    | (refine Zg4 rfl (by simp [-Int.ofNat_toNat,-Zb,Za, *]; first | exact ⟨rfl,rfl⟩ | rfl) (by kernel_rfl) ?_)
    | (refine ZjC ?_ (by simp only [pq,reduceCtorEq]; rfl)))
  exact Imp.of e) : P:=h R ⟨rfl⟩ k
theorem goR {P R : Prop} (k : R) (h : ∀ X : Prop,ZiC X R→Imp X P:=by
  intro X e
  repeat (first
    | (with_reducible refine Zgo ?_)
    | (with_reducible refine ZdR ?_)
    | (with_reducible refine Zdg ?_)
    | (with_reducible refine ZdS ?_)
    | (with_reducible refine ZeO ?_)
    | (with_reducible refine Zgp ?_)
    | (with_reducible refine Zg5 ?_)
    | (with_reducible refine Zg6 ?_)
    | (with_reducible refine Zif ?_)
    | (with_reducible refine Zdh ?_ ?_; · simp [-Int.ofNat_toNat,bV, *]; done)
    | (with_reducible refine Zdi ?_ ?_; · simp [-Int.ofNat_toNat,bV, *]; done)
    | (refine ZeN rfl (by first | (simp [-Int.ofNat_toNat,List.range,List.range.loop, *] <;> rfl) | fail) ?_)
    | (refine ZdQ rfl (by simp [-Int.ofNat_toNat,List.range,List.range.loop, *]; first | exact ⟨rfl,rfl⟩ | rfl) (by kernel_rfl) ?_)
    | (with_reducible refine Zgq ?_ ?_; · simp [-Int.ofNat_toNat,bV, *]; done)
    | (with_reducible refine Zgr ?_ ?_; · simp [-Int.ofNat_toNat,bV, *]; done)
    | (refine Zie rfl (by first | (simp [-Int.ofNat_toNat,List.range,List.range.loop, *] <;> rfl) | fail) ?_)
    | (refine Zg4 rfl (by simp [-Int.ofNat_toNat,List.range,List.range.loop, *]; first | exact ⟨rfl,rfl⟩ | rfl) (by kernel_rfl) ?_)
    | (refine ZjC ?_ (by simp only [pq,reduceCtorEq]; rfl)))
  exact Imp.of e) : P:=h R ⟨rfl⟩ k
def G : Glob:=fun g=>if g = 0 then some (arC .u32 shaInitial) else if g = 1 then some (arC .u32 shaK) else none
@[simp] theorem G_at0 : G 0 = some (arC .u32 shaInitial):=rfl
@[simp] theorem G_at1 : G 1 = some (arC .u32 shaK):=rfl
noncomputable abbrev K9 : Con Unit Bool:=⟨fun _=>[],fun _ y=>(.one (.v (.bool y)),[]),fun _=>Lconst_true⟩
theorem i9 : K9.Inj:=fun _ _ _=>rfl
theorem Ztt { y} (h : Lconst_true  = some y) : K9.G (K9.E ()) = some (K9.R () y):=i9.eq h
noncomputable abbrev K17 : Con ((List (List Int))×Int×Int) Bool:=⟨fun x=>[.one (.slice .no (List.map YH x.1)),.one (.v (.int .i64 x.2.1)),.one (.v (.int .i64 x.2.2))],fun _ y=>(.one (.v (.bool y)),[]),fun x=>ZcW x.1 x.2.1 x.2.2⟩
theorem i17 : K17.Inj:=by intro a b h; simpa [K17,Prod.ext_iff,and_assoc] using h
theorem Zse {a0 a1 a2 y} (h : ZcW a0 a1 a2 = some y) : K17.G (K17.E (a0,a1,a2)) = some (K17.R (a0,a1,a2) y):=i17.eq h
noncomputable abbrev K69 : Con ((List Int)) Int:=⟨fun x=>[.one (.slice .no (Ze .u8 x))],fun _ y=>(.one (.v (.int .u64 y)),[]),fun x=>ZaB x⟩
theorem i69 : K69.Inj:=by intro a b h; simpa [K69,Prod.ext_iff,and_assoc] using h
theorem ZjO {a0 y} (h : ZaB a0 = some y) : K69.G (K69.E a0) = some (K69.R a0 y):=i69.eq h
noncomputable abbrev K36 : Con ((Arr 32)) ((Arr 2)):=⟨fun x=>[.agg (arC .u8 x)],fun _ y=>(.agg (arC .u64 y),[]),fun x=>Ze4 x⟩
theorem i36 : K36.Inj:=by intro a b h; simpa [K36,Prod.ext_iff,and_assoc] using h
theorem Zsf {a0 y} (h : Ze4 a0 = some y) : K36.G (K36.E a0) = some (K36.R a0 y):=i36.eq h
noncomputable abbrev K157 : Con Tapi_Bits Bool:=⟨fun x=>[.agg ([.slice .no (Ze .u8 x.1),.v (.int .i64 x.2)])],fun _ y=>(.one (.v (.bool y)),[]),fun x=>Zcf x⟩
theorem i157 : K157.Inj:=by intro a b h; simpa [K157,Prod.ext_iff,and_assoc] using h
theorem ZmB {a0 y} (h : Zcf a0 = some y) : K157.G (K157.E a0) = some (K157.R a0 y):=i157.eq h
noncomputable abbrev K171 : Con (Tapi_Bits×Int) Bool:=⟨fun x=>[.agg ([.slice .no (Ze .u8 x.1.1),.v (.int .i64 x.1.2)]),.one (.v (.int .i64 x.2))],fun _ y=>(.one (.v (.bool y)),[]),fun x=>Zdf x.1 x.2⟩
theorem i171 : K171.Inj:=by intro a b h; simpa [K171,Prod.ext_iff,and_assoc] using h
theorem ZmC {a0 a1 y} (h : Zdf a0 a1 = some y) : K171.G (K171.E (a0,a1)) = some (K171.R (a0,a1) y):=i171.eq h
noncomputable abbrev K172 : Con (Tapi_Bits×Int×Int) Int:=⟨fun x=>[.agg ([.slice .no (Ze .u8 x.1.1),.v (.int .i64 x.1.2)]),.one (.v (.int .i64 x.2.1)),.one (.v (.int .i64 x.2.2))],fun _ y=>(.one (.v (.int .u64 y)),[]),fun x=>ZbK x.1 x.2.1 x.2.2⟩
theorem i172 : K172.Inj:=by intro a b h; simpa [K172,Prod.ext_iff,and_assoc] using h
theorem ZmD {a0 a1 a2 y} (h : ZbK a0 a1 a2 = some y) : K172.G (K172.E (a0,a1,a2)) = some (K172.R (a0,a1,a2) y):=i172.eq h
noncomputable abbrev K120 : Con (Tapi_Bits×Int×Int) (Int×Int×Int):=⟨fun x=>[.agg ([.slice .no (Ze .u8 x.1.1),.v (.int .i64 x.1.2)]),.one (.v (.int .i64 x.2.1)),.one (.v (.int .i64 x.2.2))],fun _ y=>(.tup [.one (.v (.int .u64 y.1)),.one (.v (.int .i64 y.2.1)),.one (.v (.int .i64 y.2.2))],[]),fun x=>Zbx x.1 x.2.1 x.2.2⟩
theorem i120 : K120.Inj:=by intro a b h; simpa [K120,Prod.ext_iff,and_assoc] using h
theorem Zq6 {a0 a1 a2 y} (h : Zbx a0 a1 a2 = some y) : K120.G (K120.E (a0,a1,a2)) = some (K120.R (a0,a1,a2) y):=i120.eq h
noncomputable abbrev K121 : Con (Tapi_Bits×Int×Int) (Int×Int×Int):=⟨fun x=>[.agg ([.slice .no (Ze .u8 x.1.1),.v (.int .i64 x.1.2)]),.one (.v (.int .i64 x.2.1)),.one (.v (.int .i64 x.2.2))],fun _ y=>(.tup [.one (.v (.int .u64 y.1)),.one (.v (.int .i64 y.2.1)),.one (.v (.int .i64 y.2.2))],[]),fun x=>ZeK x.1 x.2.1 x.2.2⟩
theorem i121 : K121.Inj:=by intro a b h; simpa [K121,Prod.ext_iff,and_assoc] using h
theorem Zq7 {a0 a1 a2 y} (h : ZeK a0 a1 a2 = some y) : K121.G (K121.E (a0,a1,a2)) = some (K121.R (a0,a1,a2) y):=i121.eq h
noncomputable abbrev K84 : Con (Tapi_Filter×Int) ((List Int)×Int):=⟨fun x=>[.agg ([.v (.int .i64 x.1.1),.slice .no (Ze .u8 x.1.2)]),.one (.v (.int .i64 x.2))],fun _ y=>(.tup [.one (.slice .no (Ze .u64 y.1)),.one (.v (.int .i64 y.2))],[]),fun x=>Zby x.1 x.2⟩
theorem i84 : K84.Inj:=by intro a b h; simpa [K84,Prod.ext_iff,and_assoc] using h
theorem Zsg {a0 a1 y} (h : Zby a0 a1 = some y) : K84.G (K84.E (a0,a1)) = some (K84.R (a0,a1) y):=i84.eq h
noncomputable abbrev K161 : Con (Int×Int) (Int×Int):=⟨fun x=>[.one (.v (.int .u64 x.1)),.one (.v (.int .u64 x.2))],fun _ y=>(.tup [.one (.v (.int .u64 y.1)),.one (.v (.int .u64 y.2))],[]),fun x=>ZaG x.1 x.2⟩
theorem i161 : K161.Inj:=by intro a b h; simpa [K161,Prod.ext_iff,and_assoc] using h
theorem ZmE {a0 a1 y} (h : ZaG a0 a1 = some y) : K161.G (K161.E (a0,a1)) = some (K161.R (a0,a1) y):=i161.eq h
noncomputable abbrev K111 : Con (Int×Int) Int:=⟨fun x=>[.one (.v (.int .u64 x.1)),.one (.v (.int .u64 x.2))],fun _ y=>(.one (.v (.int .u64 y)),[]),fun x=>ZeI x.1 x.2⟩
theorem i111 : K111.Inj:=by intro a b h; simpa [K111,Prod.ext_iff,and_assoc] using h
theorem Zq8 {a0 a1 y} (h : ZeI a0 a1 = some y) : K111.G (K111.E (a0,a1)) = some (K111.R (a0,a1) y):=i111.eq h
noncomputable abbrev K200 : Con (Int×Int) Int:=⟨fun x=>[.one (.v (.int .u64 x.1)),.one (.v (.int .i64 x.2))],fun _ y=>(.one (.v (.int .u64 y)),[]),fun x=>ZJ x.1 x.2⟩
theorem i200 : K200.Inj:=by intro a b h; simpa [K200,Prod.ext_iff,and_assoc] using h
theorem ZbX {a0 a1 y} (h : ZJ a0 a1 = some y) : K200.G (K200.E (a0,a1)) = some (K200.R (a0,a1) y):=i200.eq h
noncomputable abbrev K163 : Con ((Arr 4)×Int) ((Arr 4)):=⟨fun x=>[.agg (arC .u64 x.1),.one (.v (.int .i64 x.2))],fun _ y=>(.agg (arC .u64 y),[]),fun x=>ZcV x.1 x.2⟩
theorem i163 : K163.Inj:=by intro a b h; simpa [K163,Prod.ext_iff,and_assoc] using h
theorem ZmF {a0 a1 y} (h : ZcV a0 a1 = some y) : K163.G (K163.E (a0,a1)) = some (K163.R (a0,a1) y):=i163.eq h
noncomputable abbrev K162 : Con ((Arr 4)×Int) ((Arr 4)):=⟨fun x=>[.agg (arC .u64 x.1),.one (.v (.int .u64 x.2))],fun _ y=>(.agg (arC .u64 y),[]),fun x=>Zcg x.1 x.2⟩
theorem i162 : K162.Inj:=by intro a b h; simpa [K162,Prod.ext_iff,and_assoc] using h
theorem ZmG {a0 a1 y} (h : Zcg a0 a1 = some y) : K162.G (K162.E (a0,a1)) = some (K162.R (a0,a1) y):=i162.eq h
noncomputable abbrev K112 : Con ((Arr 2)×(List Int)) Int:=⟨fun x=>[.agg (arC .u64 x.1),.one (.slice .no (Ze .u8 x.2))],fun _ y=>(.one (.v (.int .u64 y)),[]),fun x=>Ze3 x.1 x.2⟩
theorem i112 : K112.Inj:=by intro a b h; simpa [K112,Prod.ext_iff,and_assoc] using h
theorem Zq9 {a0 a1 y} (h : Ze3 a0 a1 = some y) : K112.G (K112.E (a0,a1)) = some (K112.R (a0,a1) y):=i112.eq h
noncomputable abbrev K199 : Con Int Bool:=⟨fun x=>[.one (.v (.int .u64 x))],fun _ y=>(.one (.v (.bool y)),[]),fun x=>X3 x⟩
theorem i199 : K199.Inj:=by intro a b h; simpa [K199,Prod.ext_iff,and_assoc] using h
theorem ZmH {a0 y} (h : X3 a0 = some y) : K199.G (K199.E a0) = some (K199.R a0 y):=i199.eq h
noncomputable abbrev K156 : Con (Int×Int) Bool:=⟨fun x=>[.one (.v (.int .u64 x.1)),.one (.v (.int .u64 x.2))],fun _ y=>(.one (.v (.bool y)),[]),fun x=>ZO x.1 x.2⟩
theorem i156 : K156.Inj:=by intro a b h; simpa [K156,Prod.ext_iff,and_assoc] using h
theorem Zaq {a0 a1 y} (h : ZO a0 a1 = some y) : K156.G (K156.E (a0,a1)) = some (K156.R (a0,a1) y):=i156.eq h
def ZlP (x : Int) : List PV:=[.one (.v (.int .u32 x))]
theorem E209i : ∀ a b,ZlP a = ZlP b→a = b:=by
  rintro a0 b0 h
  simpa [ZlP,and_assoc] using h
def R209 (x : Int) (y : Int) : PV×List (List Cell):=(.one (.v (.int .i64 y)),[])
noncomputable def G209:=XK ZlP fun x=>(Zeg x).map (R209 x)
theorem ZuE {a0 : Int} {y : Int} (h : Zeg a0 = some y) : G209 (ZlP a0) = some (R209 a0 y):=Xj E209i h
def Zj8 (x : Int) : List PV:=[.one (.v (.int .u64 x))]
theorem E210i : ∀ a b,Zj8 a = Zj8 b→a = b:=by
  rintro a0 b0 h
  simpa [Zj8,and_assoc] using h
def ZnK (x : Int) (y : Int) : PV×List (List Cell):=(.one (.v (.int .i64 y)),[])
noncomputable def G210:=XK Zj8 fun x=>(XO x).map (ZnK x)
theorem Zra {a0 : Int} {y : Int} (h : XO a0 = some y) : G210 (Zj8 a0) = some (ZnK a0 y):=Xj E210i h
noncomputable abbrev K165 : Con Int Int:=⟨fun x=>[.one (.v (.int .u64 x))],fun _ y=>(.one (.v (.int .i64 y)),[]),fun x=>ZaH x⟩
theorem i165 : K165.Inj:=by intro a b h; simpa [K165,Prod.ext_iff,and_assoc] using h
theorem ZmI {a0 y} (h : ZaH a0 = some y) : K165.G (K165.E a0) = some (K165.R a0 y):=i165.eq h
noncomputable abbrev K229 : Con Int Int:=⟨fun x=>[.one (.v (.int .i64 x))],fun _ y=>(.one (.v (.int .u64 y)),[]),fun x=>Xx x⟩
theorem i229 : K229.Inj:=by intro a b h; simpa [K229,Prod.ext_iff,and_assoc] using h
theorem Zrb {a0 y} (h : Xx a0 = some y) : K229.G (K229.E a0) = some (K229.R a0 y):=i229.eq h
noncomputable abbrev K230 : Con Int (Int×Int):=⟨fun x=>[.io ([.v (.int .u64 x)])],fun _ y=>(.one (.v (.int .u64 y.1)),[[.v (.int .u64 y.2)]]),fun x=>Zao x⟩
theorem i230 : K230.Inj:=by intro a b h; simpa [K230,Prod.ext_iff,and_assoc] using h
theorem Zrc {a0 y} (h : Zao a0 = some y) : K230.G (K230.E a0) = some (K230.R a0 y):=i230.eq h
noncomputable abbrev K240 : Con ((List Int)×Int×Int×Int) (Int×Int×Int):=⟨fun x=>[.one (.slice .no (Ze .u64 x.1)),.one (.v (.int .i64 x.2.1)),.one (.v (.int .i64 x.2.2.1)),.io ([.v (.int .i64 x.2.2.2)])],fun _ y=>(.tup [.one (.v (.int .i64 y.1)),.one (.v (.int .i64 y.2.1))],[[.v (.int .i64 y.2.2)]]),fun x=>Yr x.1 x.2.1 x.2.2.1 x.2.2.2⟩
theorem i240 : K240.Inj:=by intro a b h; simpa [K240,Prod.ext_iff,and_assoc] using h
theorem Zj9 {a0 a1 a2 a3 y} (h : Yr a0 a1 a2 a3 = some y) : K240.G (K240.E (a0,a1,a2,a3)) = some (K240.R (a0,a1,a2,a3) y):=i240.eq h
noncomputable abbrev K232 : Con ((List Int)×Int×Int×Int×Int) (Int×Int):=⟨fun x=>[.one (.slice .no (Ze .u64 x.1)),.one (.v (.int .i64 x.2.1)),.one (.v (.int .i64 x.2.2.1)),.one (.v (.int .i64 x.2.2.2.1)),.io ([.v (.int .i64 x.2.2.2.2)])],fun _ y=>(.one (.v (.int .i64 y.1)),[[.v (.int .i64 y.2)]]),fun x=>YE x.1 x.2.1 x.2.2.1 x.2.2.2.1 x.2.2.2.2⟩
theorem i232 : K232.Inj:=by intro a b h; simpa [K232,Prod.ext_iff,and_assoc] using h
theorem ZmJ {a0 a1 a2 a3 a4 y} (h : YE a0 a1 a2 a3 a4 = some y) : K232.G (K232.E (a0,a1,a2,a3,a4)) = some (K232.R (a0,a1,a2,a3,a4) y):=i232.eq h
noncomputable abbrev K231 : Con ((List Int)×Int×Int) (Int×Int):=⟨fun x=>[.one (.slice .no (Ze .u64 x.1)),.one (.v (.int .i64 x.2.1)),.io ([.v (.int .i64 x.2.2)])],fun _ y=>(.one (.v (.int .i64 y.1)),[[.v (.int .i64 y.2)]]),fun x=>ZX x.1 x.2.1 x.2.2⟩
theorem i231 : K231.Inj:=by intro a b h; simpa [K231,Prod.ext_iff,and_assoc] using h
theorem Zka {a0 a1 a2 y} (h : ZX a0 a1 a2 = some y) : K231.G (K231.E (a0,a1,a2)) = some (K231.R (a0,a1,a2) y):=i231.eq h
noncomputable abbrev K204 : Con ((List Int)×Int×Int) (Int×Int):=⟨fun x=>[.one (.slice .no (Ze .u64 x.1)),.one (.v (.int .i64 x.2.1)),.one (.v (.int .i64 x.2.2))],fun _ y=>(.tup [.one (.v (.int .i64 y.1)),.one (.v (.int .i64 y.2))],[]),fun x=>Yy x.1 x.2.1 x.2.2⟩
theorem i204 : K204.Inj:=by intro a b h; simpa [K204,Prod.ext_iff,and_assoc] using h
theorem Zrd {a0 a1 a2 y} (h : Yy a0 a1 a2 = some y) : K204.G (K204.E (a0,a1,a2)) = some (K204.R (a0,a1,a2) y):=i204.eq h
def ZeW (x : (List Int)×Int×Int) : List PV:=[.rio 1 (Ze .u64 x.1),.one (.v (.int .i64 x.2.1)),.one (.v (.int .i64 x.2.2))]
theorem E201_1i : ∀ a b,ZeW a = ZeW b→a = b:=by
  rintro ⟨a0,a1,a2⟩ ⟨b0,b1,b2⟩ h
  simpa [ZeW,and_assoc] using h
def Zhb (x : (List Int)×Int×Int) (y : (List Int)) : PV×List (List Cell):=(.tup [],[(Ze .u64 y).flatten])
noncomputable def G201_1:=XK ZeW fun x=>(ZZ x.1 x.2.1 x.2.2).map (Zhb x)
theorem ZoU {a0 : (List Int)} {a1 : Int} {a2 : Int} {y : (List Int)} (h : ZZ a0 a1 a2 = some y) : G201_1 (ZeW (a0,a1,a2)) = some (Zhb (a0,a1,a2) y):=Xj E201_1i h
noncomputable abbrev K228_2 : Con ((List Int)×Int×Int×Int) ((List Int)):=⟨fun x=>[.rio 1 (Ze .u64 x.1),.one (.v (.int .i64 x.2.1)),.one (.v (.int .i64 x.2.2.1)),.one (.v (.int .i64 x.2.2.2))],fun _ y=>(.tup [],[(Ze .u64 y).flatten]),fun x=>YM x.1 x.2.1 x.2.2.1 x.2.2.2⟩
theorem i228_2 : K228_2.Inj:=by intro a b h; simpa [K228_2,Prod.ext_iff,and_assoc] using h
theorem ZkI {a0 a1 a2 a3 y} (h : YM a0 a1 a2 a3 = some y) : K228_2.G (K228_2.E (a0,a1,a2,a3)) = some (K228_2.R (a0,a1,a2,a3) y):=i228_2.eq h
noncomputable abbrev K202_3 : Con ((List Int)×Int×Int) ((List Int)):=⟨fun x=>[.rio 1 (Ze .u64 x.1),.one (.v (.int .i64 x.2.1)),.one (.v (.int .i64 x.2.2))],fun _ y=>(.tup [],[(Ze .u64 y).flatten]),fun x=>YN x.1 x.2.1 x.2.2⟩
theorem i202_3 : K202_3.Inj:=by intro a b h; simpa [K202_3,Prod.ext_iff,and_assoc] using h
theorem ZoV {a0 a1 a2 y} (h : YN a0 a1 a2 = some y) : K202_3.G (K202_3.E (a0,a1,a2)) = some (K202_3.R (a0,a1,a2) y):=i202_3.eq h
noncomputable abbrev K205_4 : Con ((List Int)×Int×Int) ((List Int)):=⟨fun x=>[.rio 1 (Ze .u64 x.1),.one (.v (.int .i64 x.2.1)),.one (.v (.int .i64 x.2.2))],fun _ y=>(.tup [],[(Ze .u64 y).flatten]),fun x=>Yw x.1 x.2.1 x.2.2⟩
theorem i205_4 : K205_4.Inj:=by intro a b h; simpa [K205_4,Prod.ext_iff,and_assoc] using h
theorem ZoW {a0 a1 a2 y} (h : Yw a0 a1 a2 = some y) : K205_4.G (K205_4.E (a0,a1,a2)) = some (K205_4.R (a0,a1,a2) y):=i205_4.eq h
noncomputable abbrev K206_5 : Con ((List Int)×Int×Int) (Bool×(List Int)):=⟨fun x=>[.rio 1 (Ze .u64 x.1),.one (.v (.int .i64 x.2.1)),.one (.v (.int .i64 x.2.2))],fun _ y=>(.one (.v (.bool y.1)),[(Ze .u64 y.2).flatten]),fun x=>Yc x.1 x.2.1 x.2.2⟩
theorem i206_5 : K206_5.Inj:=by intro a b h; simpa [K206_5,Prod.ext_iff,and_assoc] using h
theorem ZoX {a0 a1 a2 y} (h : Yc a0 a1 a2 = some y) : K206_5.G (K206_5.E (a0,a1,a2)) = some (K206_5.R (a0,a1,a2) y):=i206_5.eq h
def Zdr (x : (List Int)×Int×Int×Int) : List PV:=[.rio 1 (Ze .u64 x.1),.one (.v (.int .i64 x.2.1)),.one (.v (.int .i64 x.2.2.1)),.one (.v (.int .i64 x.2.2.2))]
theorem E207_6i : ∀ a b,Zdr a = Zdr b→a = b:=by
  rintro ⟨a0,a1,a2,a3⟩ ⟨b0,b1,b2,b3⟩ h
  simpa [Zdr,and_assoc] using h
def Zfq (x : (List Int)×Int×Int×Int) (y : Int×(List Int)) : PV×List (List Cell):=(.one (.v (.int .i64 y.1)),[(Ze .u64 y.2).flatten])
noncomputable def G207_6:=XK Zdr fun x=>(ZM x.1 x.2.1 x.2.2.1 x.2.2.2).map (Zfq x)
theorem Ziq {a0 : (List Int)} {a1 : Int} {a2 : Int} {a3 : Int} {y : Int×(List Int)} (h : ZM a0 a1 a2 a3 = some y) : G207_6 (Zdr (a0,a1,a2,a3)) = some (Zfq (a0,a1,a2,a3) y):=Xj E207_6i h
def Zca (x : (List Int)×Int×Int×Int) : List PV:=[.rio 1 (Ze .u64 x.1),.one (.v (.int .i64 x.2.1)),.one (.v (.int .i64 x.2.2.1)),.one (.v (.int .i64 x.2.2.2))]
theorem E208_7i : ∀ a b,Zca a = Zca b→a = b:=by
  rintro ⟨a0,a1,a2,a3⟩ ⟨b0,b1,b2,b3⟩ h
  simpa [Zca,and_assoc] using h
def Zds (x : (List Int)×Int×Int×Int) (y : Int×Bool×(List Int)) : PV×List (List Cell):=(.tup [.one (.v (.int .i64 y.1)),.one (.v (.bool y.2.1))],[(Ze .u64 y.2.2).flatten])
noncomputable def G208_7:=XK Zca fun x=>(Z4 x.1 x.2.1 x.2.2.1 x.2.2.2).map (Zds x)
theorem ZeA {a0 : (List Int)} {a1 : Int} {a2 : Int} {a3 : Int} {y : Int×Bool×(List Int)} (h : Z4 a0 a1 a2 a3 = some y) : G208_7 (Zca (a0,a1,a2,a3)) = some (Zds (a0,a1,a2,a3) y):=Xj E208_7i h
def ZeX (x : (List Int)×Int×Int) : List PV:=[.rio 1 (Ze .u64 x.1),.one (.v (.int .i64 x.2.1)),.one (.v (.int .i64 x.2.2))]
theorem E203_9i : ∀ a b,ZeX a = ZeX b→a = b:=by
  rintro ⟨a0,a1,a2⟩ ⟨b0,b1,b2⟩ h
  simpa [ZeX,and_assoc] using h
def Zhc (x : (List Int)×Int×Int) (y : (List Int)) : PV×List (List Cell):=(.tup [],[(Ze .u64 y).flatten])
noncomputable def G203_9:=XK ZeX fun x=>(Z0 x.1 x.2.1 x.2.2).map (Zhc x)
theorem ZoY {a0 : (List Int)} {a1 : Int} {a2 : Int} {y : (List Int)} (h : Z0 a0 a1 a2 = some y) : G203_9 (ZeX (a0,a1,a2)) = some (Zhc (a0,a1,a2) y):=Xj E203_9i h
def XX (x : (List Int)×Int×Int×Int) : List PV:=[.rio 1 (Ze .u64 x.1),.one (.v (.int .i64 x.2.1)),.one (.v (.int .i64 x.2.2.1)),.one (.v (.int .i64 x.2.2.2))]
theorem E164_8i : ∀ a b,XX a = XX b→a = b:=by
  rintro ⟨a0,a1,a2,a3⟩ ⟨b0,b1,b2,b3⟩ h
  simpa [XX,and_assoc] using h
def Zar (x : (List Int)×Int×Int×Int) (y : (List Int)) : PV×List (List Cell):=(.tup [],[(Ze .u64 y).flatten])
noncomputable def G164_8:=XK XX fun x=>(Xv x.1 x.2.1 x.2.2.1 x.2.2.2).map (Zar x)
theorem ZoZ {a0 : (List Int)} {a1 : Int} {a2 : Int} {a3 : Int} {y : (List Int)} (h : Xv a0 a1 a2 a3 = some y) : G164_8 (XX (a0,a1,a2,a3)) = some (Zar (a0,a1,a2,a3) y):=Xj E164_8i h
noncomputable def ZiI (n : Nat):=XK XX fun x=>(Lslices_pdqsortOrdered_of_uint64_n n x.1 x.2.1 x.2.2.1 x.2.2.2).map (Zar x)
theorem Zaf {n : Nat} {a0 : (List Int)} {a1 : Int} {a2 : Int} {a3 : Int} {y : (List Int)} (h : Lslices_pdqsortOrdered_of_uint64_n n a0 a1 a2 a3 = some y) : ZiI n (XX (a0,a1,a2,a3)) = some (Zar (a0,a1,a2,a3) y):=Xj E164_8i h
noncomputable abbrev K113_10 : Con ((List Int)) ((List Int)):=⟨fun x=>[.rio 1 (Ze .u64 x)],fun _ y=>(.tup [],[(Ze .u64 y).flatten]),fun x=>Y4 x⟩
theorem i113_10 : K113_10.Inj:=by intro a b h; simpa [K113_10,Prod.ext_iff,and_assoc] using h
theorem ZnL {a0 y} (h : Y4 a0 = some y) : K113_10.G (K113_10.E a0) = some (K113_10.R a0 y):=i113_10.eq h
noncomputable abbrev K71 : Con ((Arr 2)×(List (List Int))×Int×Int) ((List Int)):=⟨fun x=>[.agg (arC .u64 x.1),.one (.slice .no (List.map YH x.2.1)),.one (.v (.int .i64 x.2.2.1)),.one (.v (.int .u64 x.2.2.2))],fun _ y=>(.one (.own 1 (Ze .u64 y)),[]),fun x=>Zbu x.1 x.2.1 x.2.2.1 x.2.2.2⟩
theorem i71 : K71.Inj:=by intro a b h; simpa [K71,Prod.ext_iff,and_assoc] using h
theorem Zsi {a0 a1 a2 a3 y} (h : Zbu a0 a1 a2 a3 = some y) : K71.G (K71.E (a0,a1,a2,a3)) = some (K71.R (a0,a1,a2,a3) y):=i71.eq h
def ZdF (x : (List Int)) : List PV:=[.one (.own 1 (Ze .u64 x))]
theorem E122_11i : ∀ a b,ZdF a = ZdF b→a = b:=by
  rintro a0 b0 h
  simpa [ZdF,and_assoc] using h
def Zf8 (x : (List Int)) (y : (List Int)) : PV×List (List Cell):=(.one (.own 1 (Ze .u64 y)),[])
noncomputable def G122_11:=XK ZdF fun x=>(Yg x).map (Zf8 x)
theorem ZnM {a0 : (List Int)} {y : (List Int)} (h : Yg a0 = some y) : G122_11 (ZdF a0) = some (Zf8 a0 y):=Xj E122_11i h
noncomputable abbrev K85 : Con ((Arr 2)×(List (List Int))×Int×Int) ((List Int)×Int):=⟨fun x=>[.agg (arC .u64 x.1),.one (.slice .no (List.map YH x.2.1)),.one (.v (.int .i64 x.2.2.1)),.one (.v (.int .u64 x.2.2.2))],fun _ y=>(.tup [.one (.slice .no (Ze .u64 y.1)),.one (.v (.int .i64 y.2))],[]),fun x=>Zbw x.1 x.2.1 x.2.2.1 x.2.2.2⟩
theorem i85 : K85.Inj:=by intro a b h; simpa [K85,Prod.ext_iff,and_assoc] using h
theorem Zsj {a0 a1 a2 a3 y} (h : Zbw a0 a1 a2 a3 = some y) : K85.G (K85.E (a0,a1,a2,a3)) = some (K85.R (a0,a1,a2,a3) y):=i85.eq h
noncomputable abbrev K47 : Con ((Arr 2)×Tapi_Filter×(List (List Int))×Int×Int) (Bool×Int):=⟨fun x=>[.agg (arC .u64 x.1),.agg ([.v (.int .i64 x.2.1.1),.slice .no (Ze .u8 x.2.1.2)]),.one (.slice .no (List.map YH x.2.2.1)),.one (.v (.int .i64 x.2.2.2.1)),.one (.v (.int .u64 x.2.2.2.2))],fun _ y=>(.tup [.one (.v (.bool y.1)),.one (.v (.int .i64 y.2))],[]),fun x=>ZbU x.1 x.2.1 x.2.2.1 x.2.2.2.1 x.2.2.2.2⟩
theorem i47 : K47.Inj:=by intro a b h; simpa [K47,Prod.ext_iff,and_assoc] using h
theorem Zsk {a0 a1 a2 a3 a4 y} (h : ZbU a0 a1 a2 a3 a4 = some y) : K47.G (K47.E (a0,a1,a2,a3,a4)) = some (K47.R (a0,a1,a2,a3,a4) y):=i47.eq h
noncomputable abbrev K18 : Con (Tapi_Filter×(Arr 32)×(List (List Int))) (Bool×Int):=⟨fun x=>[.agg ([.v (.int .i64 x.1.1),.slice .no (Ze .u8 x.1.2)]),.agg (arC .u8 x.2.1),.one (.slice .no (List.map YH x.2.2))],fun _ y=>(.tup [.one (.v (.bool y.1)),.one (.v (.int .i64 y.2))],[]),fun x=>ZbV x.1 x.2.1 x.2.2⟩
theorem i18 : K18.Inj:=by intro a b h; simpa [K18,Prod.ext_iff,and_assoc] using h
theorem Zsl {a0 a1 a2 y} (h : ZbV a0 a1 a2 = some y) : K18.G (K18.E (a0,a1,a2)) = some (K18.R (a0,a1,a2) y):=i18.eq h
noncomputable abbrev K78 : Con ((List Int)) Int:=⟨fun x=>[.one (.slice .no (Ze .u8 x))],fun _ y=>(.one (.v (.int .u64 y)),[]),fun x=>Zbs x⟩
theorem i78 : K78.Inj:=by intro a b h; simpa [K78,Prod.ext_iff,and_assoc] using h
theorem ZjP {a0 y} (h : Zbs a0 = some y) : K78.G (K78.E a0) = some (K78.R a0 y):=i78.eq h
noncomputable abbrev K41 : Con ((Arr 32)) ((Arr 2)):=⟨fun x=>[.agg (arC .u8 x)],fun _ y=>(.agg (arC .u64 y),[]),fun x=>ZdC x⟩
theorem i41 : K41.Inj:=by intro a b h; simpa [K41,Prod.ext_iff,and_assoc] using h
theorem Zsm {a0 y} (h : ZdC a0 = some y) : K41.G (K41.E a0) = some (K41.R a0 y):=i41.eq h
noncomputable abbrev K173 : Con (Tapi_Bits×Int) Bool:=⟨fun x=>[.agg ([.slice .no (Ze .u8 x.1.1),.v (.int .i64 x.1.2)]),.one (.v (.int .i64 x.2))],fun _ y=>(.one (.v (.bool y)),[]),fun x=>Zb6 x.1 x.2⟩
theorem i173 : K173.Inj:=by intro a b h; simpa [K173,Prod.ext_iff,and_assoc] using h
theorem Zkb {a0 a1 y} (h : Zb6 a0 a1 = some y) : K173.G (K173.E (a0,a1)) = some (K173.R (a0,a1) y):=i173.eq h
noncomputable abbrev K169 : Con Tapi_Bits Bool:=⟨fun x=>[.agg ([.slice .no (Ze .u8 x.1),.v (.int .i64 x.2)])],fun _ y=>(.one (.v (.bool y)),[]),fun x=>ZbH x⟩
theorem i169 : K169.Inj:=by intro a b h; simpa [K169,Prod.ext_iff,and_assoc] using h
theorem ZmK {a0 y} (h : ZbH a0 = some y) : K169.G (K169.E a0) = some (K169.R a0 y):=i169.eq h
noncomputable abbrev K174 : Con (Tapi_Bits×Int×Int) Int:=⟨fun x=>[.agg ([.slice .no (Ze .u8 x.1.1),.v (.int .i64 x.1.2)]),.one (.v (.int .i64 x.2.1)),.one (.v (.int .i64 x.2.2))],fun _ y=>(.one (.v (.int .u64 y)),[]),fun x=>Zbf x.1 x.2.1 x.2.2⟩
theorem i174 : K174.Inj:=by intro a b h; simpa [K174,Prod.ext_iff,and_assoc] using h
theorem ZmL {a0 a1 a2 y} (h : Zbf a0 a1 a2 = some y) : K174.G (K174.E (a0,a1,a2)) = some (K174.R (a0,a1,a2) y):=i174.eq h
noncomputable abbrev K123 : Con (Tapi_Bits×Int×Int) (Int×Int×Int):=⟨fun x=>[.agg ([.slice .no (Ze .u8 x.1.1),.v (.int .i64 x.1.2)]),.one (.v (.int .i64 x.2.1)),.one (.v (.int .i64 x.2.2))],fun _ y=>(.tup [.one (.v (.int .u64 y.1)),.one (.v (.int .i64 y.2.1)),.one (.v (.int .i64 y.2.2))],[]),fun x=>Za2 x.1 x.2.1 x.2.2⟩
theorem i123 : K123.Inj:=by intro a b h; simpa [K123,Prod.ext_iff,and_assoc] using h
theorem Zre {a0 a1 a2 y} (h : Za2 a0 a1 a2 = some y) : K123.G (K123.E (a0,a1,a2)) = some (K123.R (a0,a1,a2) y):=i123.eq h
noncomputable abbrev K124 : Con (Tapi_Bits×Int×Int) (Int×Int×Int):=⟨fun x=>[.agg ([.slice .no (Ze .u8 x.1.1),.v (.int .i64 x.1.2)]),.one (.v (.int .i64 x.2.1)),.one (.v (.int .i64 x.2.2))],fun _ y=>(.tup [.one (.v (.int .u64 y.1)),.one (.v (.int .i64 y.2.1)),.one (.v (.int .i64 y.2.2))],[]),fun x=>ZdP x.1 x.2.1 x.2.2⟩
theorem i124 : K124.Inj:=by intro a b h; simpa [K124,Prod.ext_iff,and_assoc] using h
theorem Zrf {a0 a1 a2 y} (h : ZdP a0 a1 a2 = some y) : K124.G (K124.E (a0,a1,a2)) = some (K124.R (a0,a1,a2) y):=i124.eq h
noncomputable abbrev K86 : Con (Tapi_Filter×Int) ((List Int)×Int):=⟨fun x=>[.agg ([.v (.int .i64 x.1.1),.slice .no (Ze .u8 x.1.2)]),.one (.v (.int .i64 x.2))],fun _ y=>(.tup [.one (.slice .no (Ze .u64 y.1)),.one (.v (.int .i64 y.2))],[]),fun x=>ZbT x.1 x.2⟩
theorem i86 : K86.Inj:=by intro a b h; simpa [K86,Prod.ext_iff,and_assoc] using h
theorem Zsn {a0 a1 y} (h : ZbT a0 a1 = some y) : K86.G (K86.E (a0,a1)) = some (K86.R (a0,a1) y):=i86.eq h
noncomputable abbrev K116 : Con (Int×Int) Int:=⟨fun x=>[.one (.v (.int .u64 x.1)),.one (.v (.int .u64 x.2))],fun _ y=>(.one (.v (.int .u64 y)),[]),fun x=>Zde x.1 x.2⟩
theorem i116 : K116.Inj:=by intro a b h; simpa [K116,Prod.ext_iff,and_assoc] using h
theorem Zrg {a0 a1 y} (h : Zde a0 a1 = some y) : K116.G (K116.E (a0,a1)) = some (K116.R (a0,a1) y):=i116.eq h
noncomputable abbrev K168 : Con ((Arr 4)) ((Arr 4)):=⟨fun x=>[.agg (arC .u64 x)],fun _ y=>(.agg (arC .u64 y),[]),fun x=>XQ x⟩
theorem i168 : K168.Inj:=by intro a b h; simpa [K168,Prod.ext_iff,and_assoc] using h
theorem Zf9 {a0 y} (h : XQ a0 = some y) : K168.G (K168.E a0) = some (K168.R a0 y):=i168.eq h
def ZgW (x : (Arr 4)×Int) : List PV:=[.agg (arC .u64 x.1),.one (.v (.int .u64 x.2))]
theorem E167i : ∀ a b,ZgW a = ZgW b→a = b:=by
  rintro ⟨a0,a1⟩ ⟨b0,b1⟩ h
  simpa [ZgW,and_assoc] using h
def Zje (x : (Arr 4)×Int) (y : (Arr 4)) : PV×List (List Cell):=(.agg (arC .u64 y),[])
noncomputable def G167:=XK ZgW fun x=>(Zae x.1 x.2).map (Zje x)
theorem ZmM {a0 : (Arr 4)} {a1 : Int} {y : (Arr 4)} (h : Zae a0 a1 = some y) : G167 (ZgW (a0,a1)) = some (Zje (a0,a1) y):=Xj E167i h
def ZhL (x : (Arr 2)×(List Int)) : List PV:=[.agg (arC .u64 x.1),.one (.slice .no (Ze .u8 x.2))]
theorem E117i : ∀ a b,ZhL a = ZhL b→a = b:=by
  rintro ⟨a0,a1⟩ ⟨b0,b1⟩ h
  simpa [ZhL,and_assoc] using h
def Zkc (x : (Arr 2)×(List Int)) (y : Int) : PV×List (List Cell):=(.one (.v (.int .u64 y)),[])
noncomputable def G117:=XK ZhL fun x=>(ZcF x.1 x.2).map (Zkc x)
theorem Zrh {a0 : (Arr 2)} {a1 : (List Int)} {y : Int} (h : ZcF a0 a1 = some y) : G117 (ZhL (a0,a1)) = some (Zkc (a0,a1) y):=Xj E117i h
def E75 (x : (Arr 2)×(List Int)×Int×Int) : List PV:=[.agg (arC .u64 x.1),.one (.slice .no (Ze .u8 x.2.1)),.one (.v (.int .i64 x.2.2.1)),.one (.v (.int .u64 x.2.2.2))]
theorem E75i : ∀ a b,E75 a = E75 b→a = b:=by
  rintro ⟨a0,a1,a2,a3⟩ ⟨b0,b1,b2,b3⟩ h
  simpa [E75,and_assoc] using h
def R75 (x : (Arr 2)×(List Int)×Int×Int) (y : Int) : PV×List (List Cell):=(.one (.v (.int .u64 y)),[])
noncomputable def G75:=XK E75 fun x=>(ZaW x.1 x.2.1 x.2.2.1 x.2.2.2).map (R75 x)
theorem Zso {a0 : (Arr 2)} {a1 : (List Int)} {a2 : Int} {a3 : Int} {y : Int} (h : ZaW a0 a1 a2 a3 = some y) : G75 (E75 (a0,a1,a2,a3)) = some (R75 (a0,a1,a2,a3) y):=Xj E75i h
def E77 (x : (List Int)) : List PV:=[.one (.slice .no (Ze .u64 x))]
theorem E77i : ∀ a b,E77 a = E77 b→a = b:=by
  rintro a0 b0 h
  simpa [E77,and_assoc] using h
def R77 (x : (List Int)) (y : (List Int)) : PV×List (List Cell):=(.one (.slice .no (Ze .u64 y)),[])
noncomputable def G77:=XK E77 fun x=>(Zd0 x).map (R77 x)
theorem Zsp {a0 : (List Int)} {y : (List Int)} (h : Zd0 a0 = some y) : G77 (E77 a0) = some (R77 a0 y):=Xj E77i h
noncomputable def ZnN (n : Nat):=XK E77 fun x=>(Lref19_sorted_n n x).map (R77 x)
theorem ZmN {n : Nat} {a0 : (List Int)} {y : (List Int)} (h : Lref19_sorted_n n a0 = some y) : ZnN n (E77 a0) = some (R77 a0 y):=Xj E77i h
noncomputable abbrev K87 : Con ((Arr 2)×(List (List Int))×Int×Int) ((List Int)×Int):=⟨fun x=>[.agg (arC .u64 x.1),.one (.slice .no (List.map YH x.2.1)),.one (.v (.int .i64 x.2.2.1)),.one (.v (.int .u64 x.2.2.2))],fun _ y=>(.tup [.one (.slice .no (Ze .u64 y.1)),.one (.v (.int .i64 y.2))],[]),fun x=>ZbS x.1 x.2.1 x.2.2.1 x.2.2.2⟩
theorem i87 : K87.Inj:=by intro a b h; simpa [K87,Prod.ext_iff,and_assoc] using h
theorem Zsq {a0 a1 a2 a3 y} (h : ZbS a0 a1 a2 a3 = some y) : K87.G (K87.E (a0,a1,a2,a3)) = some (K87.R (a0,a1,a2,a3) y):=i87.eq h
noncomputable abbrev K48 : Con ((Arr 2)×Tapi_Filter×(List (List Int))×Int×Int) (Bool×Int):=⟨fun x=>[.agg (arC .u64 x.1),.agg ([.v (.int .i64 x.2.1.1),.slice .no (Ze .u8 x.2.1.2)]),.one (.slice .no (List.map YH x.2.2.1)),.one (.v (.int .i64 x.2.2.2.1)),.one (.v (.int .u64 x.2.2.2.2))],fun _ y=>(.tup [.one (.v (.bool y.1)),.one (.v (.int .i64 y.2))],[]),fun x=>Zct x.1 x.2.1 x.2.2.1 x.2.2.2.1 x.2.2.2.2⟩
theorem i48 : K48.Inj:=by intro a b h; simpa [K48,Prod.ext_iff,and_assoc] using h
theorem Zsr {a0 a1 a2 a3 a4 y} (h : Zct a0 a1 a2 a3 a4 = some y) : K48.G (K48.E (a0,a1,a2,a3,a4)) = some (K48.R (a0,a1,a2,a3,a4) y):=i48.eq h
noncomputable abbrev K19 : Con (Tapi_Filter×(Arr 32)×(List (List Int))) (Bool×Int):=⟨fun x=>[.agg ([.v (.int .i64 x.1.1),.slice .no (Ze .u8 x.1.2)]),.agg (arC .u8 x.2.1),.one (.slice .no (List.map YH x.2.2))],fun _ y=>(.tup [.one (.v (.bool y.1)),.one (.v (.int .i64 y.2))],[]),fun x=>Zcu x.1 x.2.1 x.2.2⟩
theorem i19 : K19.Inj:=by intro a b h; simpa [K19,Prod.ext_iff,and_assoc] using h
theorem Zss {a0 a1 a2 y} (h : Zcu a0 a1 a2 = some y) : K19.G (K19.E (a0,a1,a2)) = some (K19.R (a0,a1,a2) y):=i19.eq h
def E4 (x : Tapi_Filter×(Arr 32)×(List (List Int))) : List PV:=[.agg ([.v (.int .i64 x.1.1),.slice .no (Ze .u8 x.1.2)]),.agg (arC .u8 x.2.1),.one (.slice .no (List.map YH x.2.2))]
theorem E4i : ∀ a b,E4 a = E4 b→a = b:=by
  rintro ⟨⟨a0_0,a0_1⟩,a1,a2⟩ ⟨⟨b0_0,b0_1⟩,b1,b2⟩ h
  simpa [E4,and_assoc] using h
def R4 (x : Tapi_Filter×(Arr 32)×(List (List Int))) (y : Bool) : PV×List (List Cell):=(.one (.v (.bool y)),[])
noncomputable def G4:=XK E4 fun x=>(Xk x.1 x.2.1 x.2.2).map (R4 x)
theorem Ztu {a0 : Tapi_Filter} {a1 : (Arr 32)} {a2 : (List (List Int))} {y : Bool} (h : Xk a0 a1 a2 = some y) : G4 (E4 (a0,a1,a2)) = some (R4 (a0,a1,a2) y):=Xj E4i h
noncomputable abbrev K146 : Con Int ((List Int)):=⟨fun x=>[.one (.v (.int .u64 x))],fun _ y=>(.one (.own 1 (Ze .u8 y)),[]),fun x=>Zb3 x⟩
theorem i146 : K146.Inj:=by intro a b h; simpa [K146,Prod.ext_iff,and_assoc] using h
theorem Zri {a0 y} (h : Zb3 a0 = some y) : K146.G (K146.E a0) = some (K146.R a0 y):=i146.eq h
noncomputable abbrev K147 : Con Unit ((Arr 8)):=⟨fun _=>[],fun _ y=>(.agg (arC .u32 y),[]),fun _=>Lref03_Initial⟩
theorem i147 : K147.Inj:=fun _ _ _=>rfl
theorem Zrj { y} (h : Lref03_Initial  = some y) : K147.G (K147.E ()) = some (K147.R () y):=i147.eq h
noncomputable abbrev K227 : Con (Int×Int) Int:=⟨fun x=>[.one (.v (.int .u32 x.1)),.one (.v (.int .i64 x.2))],fun _ y=>(.one (.v (.int .u32 y)),[]),fun x=>YO x.1 x.2⟩
theorem i227 : K227.Inj:=by intro a b h; simpa [K227,Prod.ext_iff,and_assoc] using h
theorem ZmO {a0 a1 y} (h : YO a0 a1 = some y) : K227.G (K227.E (a0,a1)) = some (K227.R (a0,a1) y):=i227.eq h
noncomputable abbrev K195 : Con (Int×Int) Int:=⟨fun x=>[.one (.v (.int .u32 x.1)),.one (.v (.int .i64 x.2))],fun _ y=>(.one (.v (.int .u32 y)),[]),fun x=>Xa x.1 x.2⟩
theorem i195 : K195.Inj:=by intro a b h; simpa [K195,Prod.ext_iff,and_assoc] using h
theorem ZcX {a0 a1 y} (h : Xa a0 a1 = some y) : K195.G (K195.E (a0,a1)) = some (K195.R (a0,a1) y):=i195.eq h
noncomputable abbrev K193 : Con ((Arr 64)) ((Arr 64)):=⟨fun x=>[.agg (arC .u8 x)],fun _ y=>(.agg (arC .u32 y),[]),fun x=>Zaa x⟩
theorem i193 : K193.Inj:=by intro a b h; simpa [K193,Prod.ext_iff,and_assoc] using h
theorem Zrk {a0 y} (h : Zaa a0 = some y) : K193.G (K193.E a0) = some (K193.R a0 y):=i193.eq h
noncomputable abbrev K194 : Con Unit ((Arr 64)):=⟨fun _=>[],fun _ y=>(.agg (arC .u32 y),[]),fun _=>Lref03_constants⟩
theorem i194 : K194.Inj:=fun _ _ _=>rfl
theorem Zrl { y} (h : Lref03_constants  = some y) : K194.G (K194.E ()) = some (K194.R () y):=i194.eq h
def ZhM (x : (Arr 8)×(Arr 64)) : List PV:=[.agg (arC .u32 x.1),.agg (arC .u8 x.2)]
theorem E148i : ∀ a b,ZhM a = ZhM b→a = b:=by
  rintro ⟨a0,a1⟩ ⟨b0,b1⟩ h
  simpa [ZhM,and_assoc] using h
def Zkd (x : (Arr 8)×(Arr 64)) (y : (Arr 8)) : PV×List (List Cell):=(.agg (arC .u32 y),[])
noncomputable def G148:=XK ZhM fun x=>(Xs x.1 x.2).map (Zkd x)
theorem Zrm {a0 : (Arr 8)} {a1 : (Arr 64)} {y : (Arr 8)} (h : Xs a0 a1 = some y) : G148 (ZhM (a0,a1)) = some (Zkd (a0,a1) y):=Xj E148i h
def E95 (x : (List Int)) : List PV:=[.one (.slice .no (Ze .u8 x))]
theorem E95i : ∀ a b,E95 a = E95 b→a = b:=by
  rintro a0 b0 h
  simpa [E95,and_assoc] using h
def R95 (x : (List Int)) (y : (Arr 32)) : PV×List (List Cell):=(.agg (arC .u8 y),[])
noncomputable def G95:=XK E95 fun x=>(X2 x).map (R95 x)
theorem Zo0 {a0 : (List Int)} {y : (Arr 32)} (h : X2 a0 = some y) : G95 (E95 a0) = some (R95 a0 y):=Xj E95i h
noncomputable abbrev K51 : Con ((List Int)) ((Arr 32)):=⟨fun x=>[.one (.slice .no (Ze .u8 x))],fun _ y=>(.agg (arC .u8 y),[]),fun x=>XY x⟩
theorem i51 : K51.Inj:=by intro a b h; simpa [K51,Prod.ext_iff,and_assoc] using h
theorem Zst {a0 y} (h : XY a0 = some y) : K51.G (K51.E a0) = some (K51.R a0 y):=i51.eq h
noncomputable abbrev K82 : Con ((List Int)×(List Int)) ((List Int)):=⟨fun x=>[.one (.slice .no (Ze .u8 x.1)),.one (.slice .no (Ze .u8 x.2))],fun _ y=>(.one (.own 1 (Ze .u8 y)),[]),fun x=>Zba x.1 x.2⟩
theorem i82 : K82.Inj:=by intro a b h; simpa [K82,Prod.ext_iff,and_assoc] using h
theorem Zo1 {a0 a1 y} (h : Zba a0 a1 = some y) : K82.G (K82.E (a0,a1)) = some (K82.R (a0,a1) y):=i82.eq h
noncomputable abbrev K96 : Con (Int×Int) ((List Int)):=⟨fun x=>[.one (.v (.int .u64 x.1)),.one (.v (.int .i64 x.2))],fun _ y=>(.one (.own 1 (Ze .u8 y)),[]),fun x=>Zbb x.1 x.2⟩
theorem i96 : K96.Inj:=by intro a b h; simpa [K96,Prod.ext_iff,and_assoc] using h
theorem Zsu {a0 a1 y} (h : Zbb a0 a1 = some y) : K96.G (K96.E (a0,a1)) = some (K96.R (a0,a1) y):=i96.eq h
noncomputable abbrev K53 : Con ((List Int)×Int) ((List Int)):=⟨fun x=>[.one (.slice .no (Ze .u8 x.1)),.one (.v (.int .u32 x.2))],fun _ y=>(.one (.own 1 (Ze .u8 y)),[]),fun x=>Zah x.1 x.2⟩
theorem i53 : K53.Inj:=by intro a b h; simpa [K53,Prod.ext_iff,and_assoc] using h
theorem Zo2 {a0 a1 y} (h : Zah a0 a1 = some y) : K53.G (K53.E (a0,a1)) = some (K53.R (a0,a1) y):=i53.eq h
noncomputable abbrev K54 : Con ((List Int)×(Arr 32)) ((List Int)):=⟨fun x=>[.one (.slice .no (Ze .u8 x.1)),.agg (arC .u8 x.2)],fun _ y=>(.one (.own 1 (Ze .u8 y)),[]),fun x=>X6 x.1 x.2⟩
theorem i54 : K54.Inj:=by intro a b h; simpa [K54,Prod.ext_iff,and_assoc] using h
theorem Zo3 {a0 a1 y} (h : X6 a0 a1 = some y) : K54.G (K54.E (a0,a1)) = some (K54.R (a0,a1) y):=i54.eq h
noncomputable abbrev K52 : Con Tapi_Header ((List Int)):=⟨fun x=>[.agg ((.v (.int .u32 x.1)) :: ((arC .u8 x.2.1)++((arC .u8 x.2.2.1)++((.v (.int .u32 x.2.2.2.1)) :: ((.v (.int .u32 x.2.2.2.2.1)) :: ((.v (.int .u32 x.2.2.2.2.2)) :: []))))))],fun _ y=>(.one (.own 1 (Ze .u8 y)),[]),fun x=>Zac x⟩
theorem i52 : K52.Inj:=by intro a b h; simpa [K52,Prod.ext_iff,and_assoc] using h
theorem Zsv {a0 y} (h : Zac a0 = some y) : K52.G (K52.E a0) = some (K52.R a0 y):=i52.eq h
noncomputable abbrev K22 : Con Tapi_Header ((Arr 32)):=⟨fun x=>[.agg ((.v (.int .u32 x.1)) :: ((arC .u8 x.2.1)++((arC .u8 x.2.2.1)++((.v (.int .u32 x.2.2.2.1)) :: ((.v (.int .u32 x.2.2.2.2.1)) :: ((.v (.int .u32 x.2.2.2.2.2)) :: []))))))],fun _ y=>(.agg (arC .u8 y),[]),fun x=>Zck x⟩
theorem i22 : K22.Inj:=by intro a b h; simpa [K22,Prod.ext_iff,and_assoc] using h
theorem G22_eq {a0 y} (h : Zck a0 = some y) : K22.G (K22.E a0) = some (K22.R a0 y):=i22.eq h
noncomputable abbrev K153 : Con ((List (List Int))) ((List Int)):=⟨fun x=>[.one (.slice .no (List.map YH x))],fun _ y=>(.one (.own 1 (Ze .u8 y)),[]),fun x=>Zdb x⟩
theorem i153 : K153.Inj:=by intro a b h; simpa [K153,Prod.ext_iff,and_assoc] using h
theorem Zrn {a0 y} (h : Zdb a0 = some y) : K153.G (K153.E a0) = some (K153.R a0 y):=i153.eq h
noncomputable abbrev K154 : Con Int ((List Int)):=⟨fun x=>[.one (.v (.int .u64 x))],fun _ y=>(.one (.own 1 (Ze .u8 y)),[]),fun x=>Zdc x⟩
theorem i154 : K154.Inj:=by intro a b h; simpa [K154,Prod.ext_iff,and_assoc] using h
theorem Zro {a0 y} (h : Zdc a0 = some y) : K154.G (K154.E a0) = some (K154.R a0 y):=i154.eq h
noncomputable abbrev K198 : Con (Int×Int) Int:=⟨fun x=>[.one (.v (.int .u32 x.1)),.one (.v (.int .i64 x.2))],fun _ y=>(.one (.v (.int .u32 y)),[]),fun x=>Xt x.1 x.2⟩
theorem i198 : K198.Inj:=by intro a b h; simpa [K198,Prod.ext_iff,and_assoc] using h
theorem ZcY {a0 a1 y} (h : Xt a0 a1 = some y) : K198.G (K198.E (a0,a1)) = some (K198.R (a0,a1) y):=i198.eq h
noncomputable abbrev K197 : Con ((Arr 64)) ((Arr 64)):=⟨fun x=>[.agg (arC .u8 x)],fun _ y=>(.agg (arC .u32 y),[]),fun x=>Zay x⟩
theorem i197 : K197.Inj:=by intro a b h; simpa [K197,Prod.ext_iff,and_assoc] using h
theorem Zrp {a0 y} (h : Zay a0 = some y) : K197.G (K197.E a0) = some (K197.R a0 y):=i197.eq h
noncomputable abbrev K155 : Con ((Arr 8)×(Arr 64)) ((Arr 8)):=⟨fun x=>[.agg (arC .u32 x.1),.agg (arC .u8 x.2)],fun _ y=>(.agg (arC .u32 y),[]),fun x=>Zaz x.1 x.2⟩
theorem i155 : K155.Inj:=by intro a b h; simpa [K155,Prod.ext_iff,and_assoc] using h
theorem Zrq {a0 a1 y} (h : Zaz a0 a1 = some y) : K155.G (K155.E (a0,a1)) = some (K155.R (a0,a1) y):=i155.eq h
noncomputable abbrev K105 : Con ((List Int)) ((Arr 32)):=⟨fun x=>[.one (.slice .no (Ze .u8 x))],fun _ y=>(.agg (arC .u8 y),[]),fun x=>ZcE x⟩
theorem i105 : K105.Inj:=by intro a b h; simpa [K105,Prod.ext_iff,and_assoc] using h
theorem ZmP {a0 y} (h : ZcE a0 = some y) : K105.G (K105.E a0) = some (K105.R a0 y):=i105.eq h
noncomputable abbrev K65 : Con ((List Int)) ((Arr 32)):=⟨fun x=>[.one (.slice .no (Ze .u8 x))],fun _ y=>(.agg (arC .u8 y),[]),fun x=>Zbr x⟩
theorem i65 : K65.Inj:=by intro a b h; simpa [K65,Prod.ext_iff,and_assoc] using h
theorem Zsw {a0 y} (h : Zbr a0 = some y) : K65.G (K65.E a0) = some (K65.R a0 y):=i65.eq h
noncomputable abbrev K97 : Con ((List Int)×(List Int)) ((List Int)):=⟨fun x=>[.one (.slice .no (Ze .u8 x.1)),.one (.slice .no (Ze .u8 x.2))],fun _ y=>(.one (.own 1 (Ze .u8 y)),[]),fun x=>Za8 x.1 x.2⟩
theorem i97 : K97.Inj:=by intro a b h; simpa [K97,Prod.ext_iff,and_assoc] using h
theorem Zo4 {a0 a1 y} (h : Za8 a0 a1 = some y) : K97.G (K97.E (a0,a1)) = some (K97.R (a0,a1) y):=i97.eq h
noncomputable abbrev K119 : Con (Int×Int) ((List Int)):=⟨fun x=>[.one (.v (.int .u64 x.1)),.one (.v (.int .i64 x.2))],fun _ y=>(.one (.own 1 (Ze .u8 y)),[]),fun x=>Za9 x.1 x.2⟩
theorem i119 : K119.Inj:=by intro a b h; simpa [K119,Prod.ext_iff,and_assoc] using h
theorem Zrr {a0 a1 y} (h : Za9 a0 a1 = some y) : K119.G (K119.E (a0,a1)) = some (K119.R (a0,a1) y):=i119.eq h
noncomputable abbrev K80 : Con ((List Int)×Int) ((List Int)):=⟨fun x=>[.one (.slice .no (Ze .u8 x.1)),.one (.v (.int .u32 x.2))],fun _ y=>(.one (.own 1 (Ze .u8 y)),[]),fun x=>Xi x.1 x.2⟩
theorem i80 : K80.Inj:=by intro a b h; simpa [K80,Prod.ext_iff,and_assoc] using h
theorem ZjQ {a0 a1 y} (h : Xi a0 a1 = some y) : K80.G (K80.E (a0,a1)) = some (K80.R (a0,a1) y):=i80.eq h
noncomputable abbrev K81 : Con ((List Int)×(Arr 32)) ((List Int)):=⟨fun x=>[.one (.slice .no (Ze .u8 x.1)),.agg (arC .u8 x.2)],fun _ y=>(.one (.own 1 (Ze .u8 y)),[]),fun x=>Xy x.1 x.2⟩
theorem i81 : K81.Inj:=by intro a b h; simpa [K81,Prod.ext_iff,and_assoc] using h
theorem Zo5 {a0 a1 y} (h : Xy a0 a1 = some y) : K81.G (K81.E (a0,a1)) = some (K81.R (a0,a1) y):=i81.eq h
noncomputable abbrev K67 : Con Tapi_Header ((List Int)):=⟨fun x=>[.agg ((.v (.int .u32 x.1)) :: ((arC .u8 x.2.1)++((arC .u8 x.2.2.1)++((.v (.int .u32 x.2.2.2.1)) :: ((.v (.int .u32 x.2.2.2.2.1)) :: ((.v (.int .u32 x.2.2.2.2.2)) :: []))))))],fun _ y=>(.one (.own 1 (Ze .u8 y)),[]),fun x=>Zab x⟩
theorem i67 : K67.Inj:=by intro a b h; simpa [K67,Prod.ext_iff,and_assoc] using h
theorem Zsx {a0 y} (h : Zab a0 = some y) : K67.G (K67.E a0) = some (K67.R a0 y):=i67.eq h
noncomputable abbrev K37 : Con Tapi_Header ((Arr 32)):=⟨fun x=>[.agg ((.v (.int .u32 x.1)) :: ((arC .u8 x.2.1)++((arC .u8 x.2.2.1)++((.v (.int .u32 x.2.2.2.1)) :: ((.v (.int .u32 x.2.2.2.2.1)) :: ((.v (.int .u32 x.2.2.2.2.2)) :: []))))))],fun _ y=>(.agg (arC .u8 y),[]),fun x=>Zch x⟩
theorem i37 : K37.Inj:=by intro a b h; simpa [K37,Prod.ext_iff,and_assoc] using h
theorem G37_eq {a0 y} (h : Zch a0 = some y) : K37.G (K37.E a0) = some (K37.R a0 y):=i37.eq h
def E42 (x : (List Int)) : List PV:=[.one (.slice .no (Ze .u8 x))]
theorem E42i : ∀ a b,E42 a = E42 b→a = b:=by
  rintro a0 b0 h
  simpa [E42,and_assoc] using h
def R42 (x : (List Int)) (y : (List Int)) : PV×List (List Cell):=(.one (.own 1 (Ze .u8 y)),[])
noncomputable def G42:=XK E42 fun x=>(Xd x).map (R42 x)
theorem G42_eq {a0 : (List Int)} {y : (List Int)} (h : Xd a0 = some y) : G42 (E42 a0) = some (R42 a0 y):=Xj E42i h
noncomputable abbrev K191 : Con ((Arr 4)×Int) Bool:=⟨fun x=>[.agg (arC .u64 x.1),.one (.v (.int .i64 x.2))],fun _ y=>(.one (.v (.bool y)),[]),fun x=>ZcG x.1 x.2⟩
theorem i191 : K191.Inj:=by intro a b h; simpa [K191,Prod.ext_iff,and_assoc] using h
theorem ZmQ {a0 a1 y} (h : ZcG a0 a1 = some y) : K191.G (K191.E (a0,a1)) = some (K191.R (a0,a1) y):=i191.eq h
noncomputable abbrev K143 : Con ((Arr 4)×Int) ((Arr 4)):=⟨fun x=>[.agg (arC .u64 x.1),.one (.v (.int .i64 x.2))],fun _ y=>(.agg (arC .u64 y),[]),fun x=>ZcH x.1 x.2⟩
theorem i143 : K143.Inj:=by intro a b h; simpa [K143,Prod.ext_iff,and_assoc] using h
theorem Zrs {a0 a1 y} (h : ZcH a0 a1 = some y) : K143.G (K143.E (a0,a1)) = some (K143.R (a0,a1) y):=i143.eq h
noncomputable abbrev K192 : Con ((Arr 4)) Bool:=⟨fun x=>[.agg (arC .u64 x)],fun _ y=>(.one (.v (.bool y)),[]),fun x=>Zci x⟩
theorem i192 : K192.Inj:=by intro a b h; simpa [K192,Prod.ext_iff,and_assoc] using h
theorem ZmR {a0 y} (h : Zci a0 = some y) : K192.G (K192.E a0) = some (K192.R a0 y):=i192.eq h
noncomputable abbrev K222 : Con Int ((Arr 4)):=⟨fun x=>[.one (.v (.int .u64 x))],fun _ y=>(.agg (arC .u64 y),[]),fun x=>Za5 x⟩
theorem i222 : K222.Inj:=by intro a b h; simpa [K222,Prod.ext_iff,and_assoc] using h
theorem Zrt {a0 y} (h : Za5 a0 = some y) : K222.G (K222.E a0) = some (K222.R a0 y):=i222.eq h
noncomputable abbrev K225 : Con ((Arr 4)) Int:=⟨fun x=>[.agg (arC .u64 x)],fun _ y=>(.one (.v (.int .i64 y)),[]),fun x=>Zdz x⟩
theorem i225 : K225.Inj:=by intro a b h; simpa [K225,Prod.ext_iff,and_assoc] using h
theorem Zru {a0 y} (h : Zdz a0 = some y) : K225.G (K225.E a0) = some (K225.R a0 y):=i225.eq h
def Zke (x : Int×Int×Int) : List PV:=[.one (.v (.int .u64 x.1)),.one (.v (.int .u64 x.2.1)),.one (.v (.int .u64 x.2.2))]
theorem E237i : ∀ a b,Zke a = Zke b→a = b:=by
  rintro ⟨a0,a1,a2⟩ ⟨b0,b1,b2⟩ h
  simpa [Zke,and_assoc] using h
def ZnO (x : Int×Int×Int) (y : Int×Int) : PV×List (List Cell):=(.tup [.one (.v (.int .u64 y.1)),.one (.v (.int .u64 y.2))],[])
noncomputable def G237:=XK Zke fun x=>(ZaM x.1 x.2.1 x.2.2).map (ZnO x)
theorem Zrv {a0 : Int} {a1 : Int} {a2 : Int} {y : Int×Int} (h : ZaM a0 a1 a2 = some y) : G237 (Zke (a0,a1,a2)) = some (ZnO (a0,a1,a2) y):=Xj E237i h
noncomputable abbrev K238 : Con ((Arr 4)×(Arr 4)) ((Arr 4)×Bool):=⟨fun x=>[.agg (arC .u64 x.1),.agg (arC .u64 x.2)],fun _ y=>(.tup [.agg (arC .u64 y.1),.one (.v (.bool y.2))],[]),fun x=>ZdA x.1 x.2⟩
theorem i238 : K238.Inj:=by intro a b h; simpa [K238,Prod.ext_iff,and_assoc] using h
theorem Zrw {a0 a1 y} (h : ZdA a0 a1 = some y) : K238.G (K238.E (a0,a1)) = some (K238.R (a0,a1) y):=i238.eq h
noncomputable abbrev K226 : Con ((Arr 4)×Int) ((Arr 4)):=⟨fun x=>[.agg (arC .u64 x.1),.one (.v (.int .i64 x.2))],fun _ y=>(.agg (arC .u64 y),[]),fun x=>ZdB x.1 x.2⟩
theorem i226 : K226.Inj:=by intro a b h; simpa [K226,Prod.ext_iff,and_assoc] using h
theorem ZmS {a0 a1 y} (h : ZdB a0 a1 = some y) : K226.G (K226.E (a0,a1)) = some (K226.R (a0,a1) y):=i226.eq h
noncomputable abbrev K188 : Con Int ((Arr 4)×Int):=⟨fun x=>[.one (.v (.int .u32 x))],fun _ y=>(.tup [.agg (arC .u64 y.1),.one (.v (.int .i64 y.2))],[]),fun x=>ZbW x⟩
theorem i188 : K188.Inj:=by intro a b h; simpa [K188,Prod.ext_iff,and_assoc] using h
theorem ZuF {a0 y} (h : ZbW a0 = some y) : K188.G (K188.E a0) = some (K188.R a0 y):=i188.eq h
noncomputable abbrev K189 : Con ((Arr 4)×(Arr 4)) Int:=⟨fun x=>[.agg (arC .u64 x.1),.agg (arC .u64 x.2)],fun _ y=>(.one (.v (.int .i64 y)),[]),fun x=>Zdy x.1 x.2⟩
theorem i189 : K189.Inj:=by intro a b h; simpa [K189,Prod.ext_iff,and_assoc] using h
theorem ZuG {a0 a1 y} (h : Zdy a0 a1 = some y) : K189.G (K189.E (a0,a1)) = some (K189.R (a0,a1) y):=i189.eq h
noncomputable abbrev K190 : Con ((Arr 32)) ((Arr 4)):=⟨fun x=>[.agg (arC .u8 x)],fun _ y=>(.agg (arC .u64 y),[]),fun x=>ZaN x⟩
theorem i190 : K190.Inj:=by intro a b h; simpa [K190,Prod.ext_iff,and_assoc] using h
theorem ZuH {a0 y} (h : ZaN a0 = some y) : K190.G (K190.E a0) = some (K190.R a0 y):=i190.eq h
end Go.Proofs.YthpkpciceodioaaGreatDoor
