import Derived.Test.YthpkpciceodioaaGreatDoorLcG3
import Derived.Test.YthpkpciceodioaaGreatDoorLcG1
import Derived.Test.YthpkpciceodioaaGreatDoorLcG1
import Derived.Test.YthpkpciceodioaaGreatDoorLcG3
import Derived.Test.YthpkpciceodioaaGreatDoorTt
namespace Go.Proofs.YthpkpciceodioaaGreatDoor
open Go.RowKit
open Go.Av
open Go.Lc
set_option maxRecDepth 100000
set_option linter.unusedSimpArgs false
set_option linter.unusedVariables false
attribute [simp] tt1 tt2 tt3 tt4 tt5 tt6 tt7 tt8 tt9 tt10 tt11 tt12 tt13 tt14 tt15 tt16 tt17 tt18 tt19 tt21 tt22 tt23 tt24 tt25 tt26 tt27 tt28 tt29 tt30 tt31 tt32 tt33 tt34 tt35 tt37 tt38 tt39 tt40 tt41 tt42 tt44 tt45 tt46 tt47 tt48 tt49 tt50 tt51 tt52 tt53 tt54 tt55 tt56 tt57 tt58 tt59 tt60 tt61 tt62 tt63 tt64 tt65 tt66 tt67 tt68 tt69 tt70 tt72 tt73 tt74 tt75 tt77 tt78 tt79 tt80 tt81 tt82 tt83 tt85 tt86 tt107 tt109 tt119 tt120 tt121 tt122 tt123 tt124 tt126 tt127 tt140 tt151 tt152 tt171 tt172 tt182 tt183 tt189 tt191 tt193 tt199 tt203 tt204 tt207 tt222 tt238 tt246 tt256 tt265 tt266 tt274 tt278 tt280 tt289 tt297 tt301 tt302 tt328 tt329 tt330 tt331 tt332 tt334 tt335 tt336 tt337 tt338 tt339 tt340 tt341 ti1 ti2 ti3 ti4 ti5 ti6 ti7 ti8 ti9 ti10 ti11 ti12 ti13 ti14 ti15 ti16 ti17 ti18 ti19 ti21 ti22 ti23 ti24 ti25 ti26 ti27 ti28 ti29 ti30 ti31 ti32 ti33 ti34 ti35 ti37 ti38 ti39 ti40 ti41 ti42 ti44 ti45 ti46 ti47 ti48 ti49 ti50 ti51 ti52 ti53 ti54 ti55 ti56 ti57 ti58 ti59 ti60 ti61 ti62 ti63 ti64 ti65 ti66 ti67 ti68 ti69 ti70 ti72 ti73 ti74 ti75 ti77 ti78 ti79 ti80 ti81 ti82 ti83 ti85 ti86 ti107 ti109 ti119 ti120 ti121 ti122 ti123 ti124 ti126 ti127 ti140 ti151 ti152 ti171 ti172 ti182 ti183 ti189 ti191 ti193 ti199 ti203 ti204 ti207 ti222 ti238 ti246 ti256 ti265 ti266 ti274 ti278 ti280 ti289 ti297 ti301 ti302 ti328 ti329 ti330 ti331 ti332 ti334 ti335 ti336 ti337 ti338 ti339 ti340 ti341
@[simp] theorem Zs5 {n : Nat} {k : IntKind} {l : List (Arr n)} : l.any ((fun l=>l.any Cell.isSl) ∘ arC k) = false:=by simp [arC,ints]
@[simp↓] theorem ZsK {k : IntKind} (m : List Int) (n : Nat) : (∀ l,l∈List.drop n (Ze k m)→l.length = 1) = True:=eq_true fun l h=>intsR_all l (List.mem_of_mem_drop h)
@[simp↓] theorem ZsL {k : IntKind} (m : List Int) (n : Nat) : (∀ l,l∈List.take n (Ze k m)→l.length = 1) = True:=eq_true fun l h=>intsR_all l (List.mem_of_mem_take h)
@[simp↓] theorem ZsM {k : IntKind} (m : List Int) : (∀ l,l∈(Ze k m).tail→l.length = 1) = True:=eq_true fun l h=>intsR_all l (List.mem_of_mem_tail h)
@[simp↓] theorem Zr9 {k : IntKind} (m : List Int) (n : Nat) : (∀ l,l∈List.take n (Ze k m).tail→l.length = 1) = True:=eq_true fun l h=>intsR_all l (List.mem_of_mem_tail (List.mem_of_mem_take h))
@[simp↓] theorem Zsa {k : IntKind} (m : List Int) (n : Nat) : (∀ l,l∈List.drop n (Ze k m).tail→l.length = 1) = True:=eq_true fun l h=>intsR_all l (List.mem_of_mem_tail (List.mem_of_mem_drop h))
@[simp] theorem arC_z8 : arC .u64 (zA 8) = arC .u64 (zA 4)++arC .u64 (zA 4):=rfl
@[simp] theorem arC_z12 : arC .u64 (zA 12) = arC .u64 (zA 4)++(arC .u64 (zA 4)++arC .u64 (zA 4)):=rfl
@[simp] def YF (x : (List Int)) : List Cell:=[.slice .no (Ze .u8 x)]
theorem eS_I_u8_inj : ∀ a b,YF a = YF b→a = b:=by
  rintro a b h
  simpa [and_assoc] using h
@[simp↓] theorem Zie (m : List (List Int)) : (∀ l,l∈List.map YF m→l.length = 1) = True:=Zia (fun a=>by simp) m
@[simp↓] theorem Zrw (m : List (List Int)) (k : Nat) : (∀ l,l∈List.drop k (List.map YF m)→l.length = 1) = True:=eq_true fun l h=>of_eq_true (Zie m) l (List.mem_of_mem_drop h)
@[simp↓] theorem Zrx (m : List (List Int)) (k : Nat) : (∀ l,l∈List.take k (List.map YF m)→l.length = 1) = True:=eq_true fun l h=>of_eq_true (Zie m) l (List.mem_of_mem_take h)
@[simp] theorem Zsb {l m : List (List Int)} : List.map YF l = List.map YF m↔l = m:=ZlI eS_I_u8_inj
theorem nfs : (∀ x : (List Int),YF x = [.slice .no (Ze .u8 x)]):=fun _=>rfl
theorem bN {α β : Type} {o : Option α} {f : α→Option β} {y : β} {P P' : α→Prop} (h : o.bind f = some y) (k : ∀ {x},o = some x→P x) (n : ∀ x,P x→P' x:=by intro x h; try simp only [nf,nfs] at h; exact h) : ∃ x,P' x∧f x = some y :=
  let ⟨x,h1,h2⟩:=bs h
  ⟨x,n x (k h1),h2⟩
theorem Y3 {P R : Prop} (k : R) (h : ∀ X : Prop,ZhU X R→Imp X P:=by
  intro X e
  repeat (first
    | (with_reducible refine ZfQ ?_)
    | (with_reducible refine Zdx ?_)
    | (with_reducible refine ZcW ?_)
    | (with_reducible refine Zdy ?_)
    | (with_reducible refine Zeo ?_)
    | (with_reducible refine ZfR ?_)
    | (with_reducible refine Zgp ?_)
    | (with_reducible refine Zgq ?_)
    | (with_reducible refine Zhx ?_)
    | (with_reducible refine ZcX ?_ ?_; · simp [-Int.ofNat_toNat,bV, *]; done)
    | (with_reducible refine ZcY ?_ ?_; · simp [-Int.ofNat_toNat,bV, *]; done)
    | (refine Zen rfl (by first | (simp [-Int.ofNat_toNat,Nat.add_assoc,-Int.natCast_tdiv_eq_ediv, *] <;> rfl) | fail) ?_)
    | (refine Zdw rfl (by simp [-Int.ofNat_toNat,Nat.add_assoc,-Int.natCast_tdiv_eq_ediv, *]; first | exact ⟨rfl,rfl⟩ | rfl) (by kernel_rfl) ?_)
    | (with_reducible refine ZfS ?_ ?_; · simp [-Int.ofNat_toNat,bV, *]; done)
    | (with_reducible refine ZfT ?_ ?_; · simp [-Int.ofNat_toNat,bV, *]; done)
    | (refine Zhw rfl (by first | (simp [-Int.ofNat_toNat,Nat.add_assoc,-Int.natCast_tdiv_eq_ediv, *] <;> rfl) | fail) ?_)
    | (refine Zgo rfl (by simp [-Int.ofNat_toNat,Nat.add_assoc,-Int.natCast_tdiv_eq_ediv, *]; first | exact ⟨rfl,rfl⟩ | rfl) (by kernel_rfl) ?_)
    | (refine ZiW ?_ (by simp only [pq,reduceCtorEq]; rfl)))
  exact Imp.of e) : P:=h R ⟨rfl⟩ k
theorem Za8 {P R : Prop} (k : R) (h : ∀ X : Prop,ZhU X R→Imp X P:=by
  intro X e
  repeat (first
    | (with_reducible refine ZfQ ?_)
    | (with_reducible refine Zdx ?_)
    | (with_reducible refine ZcW ?_)
    | (with_reducible refine Zdy ?_)
    | (with_reducible refine Zeo ?_)
    | (with_reducible refine ZfR ?_)
    | (with_reducible refine Zgp ?_)
    | (with_reducible refine Zgq ?_)
    | (with_reducible refine Zhx ?_)
    | (with_reducible refine ZcX ?_ ?_; · simp [-Int.ofNat_toNat,bV, *]; done)
    | (with_reducible refine ZcY ?_ ?_; · simp [-Int.ofNat_toNat,bV, *]; done)
    | (refine Zen rfl (by first | (simp [-Int.ofNat_toNat,Nat.add_assoc,-Int.natCast_tdiv_eq_ediv,List.range,List.range.loop,-Y6,-List.take_append,-List.drop_append, *] <;> rfl) | fail) ?_)
    | (refine Zdw rfl (by simp [-Int.ofNat_toNat,Nat.add_assoc,-Int.natCast_tdiv_eq_ediv,List.range,List.range.loop,-Y6,-List.take_append,-List.drop_append, *]; first | exact ⟨rfl,rfl⟩ | rfl) (by kernel_rfl) ?_)
    | (with_reducible refine ZfS ?_ ?_; · simp [-Int.ofNat_toNat,bV, *]; done)
    | (with_reducible refine ZfT ?_ ?_; · simp [-Int.ofNat_toNat,bV, *]; done)
    | (refine Zhw rfl (by first | (simp [-Int.ofNat_toNat,Nat.add_assoc,-Int.natCast_tdiv_eq_ediv,List.range,List.range.loop,-Y6,-List.take_append,-List.drop_append, *] <;> rfl) | fail) ?_)
    | (refine Zgo rfl (by simp [-Int.ofNat_toNat,Nat.add_assoc,-Int.natCast_tdiv_eq_ediv,List.range,List.range.loop,-Y6,-List.take_append,-List.drop_append, *]; first | exact ⟨rfl,rfl⟩ | rfl) (by kernel_rfl) ?_)
    | (refine ZiW ?_ (by simp only [pq,reduceCtorEq]; rfl)))
  exact Imp.of e) : P:=h R ⟨rfl⟩ k
theorem goL {P R : Prop} (k : R) (h : ∀ X : Prop,ZhU X R→Imp X P:=by
  intro X e
  repeat (first
    | (with_reducible refine ZfQ ?_)
    | (with_reducible refine Zdx ?_)
    | (with_reducible refine ZcW ?_)
    | (with_reducible refine Zdy ?_)
    | (with_reducible refine Zeo ?_)
    | (with_reducible refine ZfR ?_)
    | (with_reducible refine Zgp ?_)
    | (with_reducible refine Zgq ?_)
    | (with_reducible refine Zhx ?_)
    | (with_reducible refine ZcX ?_ ?_; · simp [-Int.ofNat_toNat,bV, *]; done)
    | (with_reducible refine ZcY ?_ ?_; · simp [-Int.ofNat_toNat,bV, *]; done)
    | (refine Zen rfl (by first | (simp [-Int.ofNat_toNat,-Zb,Za, *] <;> rfl) | fail) ?_)
    | (refine Zdw rfl (by simp [-Int.ofNat_toNat,-Zb,Za, *]; first | exact ⟨rfl,rfl⟩ | rfl) (by kernel_rfl) ?_)
    | (with_reducible refine ZfS ?_ ?_; · simp [-Int.ofNat_toNat,bV, *]; done)
    | (with_reducible refine ZfT ?_ ?_; · simp [-Int.ofNat_toNat,bV, *]; done)
    | (refine Zhw rfl (by first | (simp [-Int.ofNat_toNat,-Zb,Za, *] <;> rfl) | fail) ?_)
    | (refine Zgo rfl (by simp [-Int.ofNat_toNat,-Zb,Za, *]; first | exact ⟨rfl,rfl⟩ | rfl) (by kernel_rfl) ?_)
    | (refine ZiW ?_ (by simp only [pq,reduceCtorEq]; rfl)))
  exact Imp.of e) : P:=h R ⟨rfl⟩ k
theorem goR {P R : Prop} (k : R) (h : ∀ X : Prop,ZhU X R→Imp X P:=by
  intro X e
  repeat (first
    | (with_reducible refine ZfQ ?_)
    | (with_reducible refine Zdx ?_)
    | (with_reducible refine ZcW ?_)
    | (with_reducible refine Zdy ?_)
    | (with_reducible refine Zeo ?_)
    | (with_reducible refine ZfR ?_)
    | (with_reducible refine Zgp ?_)
    | (with_reducible refine Zgq ?_)
    | (with_reducible refine Zhx ?_)
    | (with_reducible refine ZcX ?_ ?_; · simp [-Int.ofNat_toNat,bV, *]; done)
    | (with_reducible refine ZcY ?_ ?_; · simp [-Int.ofNat_toNat,bV, *]; done)
    | (refine Zen rfl (by first | (simp [-Int.ofNat_toNat,List.range,List.range.loop, *] <;> rfl) | fail) ?_)
    | (refine Zdw rfl (by simp [-Int.ofNat_toNat,List.range,List.range.loop, *]; first | exact ⟨rfl,rfl⟩ | rfl) (by kernel_rfl) ?_)
    | (with_reducible refine ZfS ?_ ?_; · simp [-Int.ofNat_toNat,bV, *]; done)
    | (with_reducible refine ZfT ?_ ?_; · simp [-Int.ofNat_toNat,bV, *]; done)
    | (refine Zhw rfl (by first | (simp [-Int.ofNat_toNat,List.range,List.range.loop, *] <;> rfl) | fail) ?_)
    | (refine Zgo rfl (by simp [-Int.ofNat_toNat,List.range,List.range.loop, *]; first | exact ⟨rfl,rfl⟩ | rfl) (by kernel_rfl) ?_)
    | (refine ZiW ?_ (by simp only [pq,reduceCtorEq]; rfl)))
  exact Imp.of e) : P:=h R ⟨rfl⟩ k
def G : Glob:=fun g=>if g = 0 then some (arC .u32 shaInitial) else if g = 1 then some (arC .u32 shaK) else none
@[simp] theorem G_at0 : G 0 = some (arC .u32 shaInitial):=rfl
@[simp] theorem G_at1 : G 1 = some (arC .u32 shaK):=rfl
noncomputable abbrev K9 : Con Unit Bool:=⟨fun _=>[],fun _ y=>(.one (.v (.bool y)),[]),fun _=>Lconst_true⟩
theorem i9 : K9.Inj:=fun _ _ _=>rfl
theorem ZsN { y} (h : Lconst_true  = some y) : K9.G (K9.E ()) = some (K9.R () y):=i9.eq h
noncomputable abbrev K17 : Con ((List (List Int))×Int×Int) Bool:=⟨fun x=>[.one (.slice .no (List.map YF x.1)),.one (.v (.int .i64 x.2.1)),.one (.v (.int .i64 x.2.2))],fun _ y=>(.one (.v (.bool y)),[]),fun x=>ZcE x.1 x.2.1 x.2.2⟩
theorem i17 : K17.Inj:=by intro a b h; simpa [K17,Prod.ext_iff,and_assoc] using h
theorem Zry {a0 a1 a2 y} (h : ZcE a0 a1 a2 = some y) : K17.G (K17.E (a0,a1,a2)) = some (K17.R (a0,a1,a2) y):=i17.eq h
noncomputable abbrev K69 : Con ((List Int)) Int:=⟨fun x=>[.one (.slice .no (Ze .u8 x))],fun _ y=>(.one (.v (.int .u64 y)),[]),fun x=>Zaq x⟩
theorem i69 : K69.Inj:=by intro a b h; simpa [K69,Prod.ext_iff,and_assoc] using h
theorem Zi8 {a0 y} (h : Zaq a0 = some y) : K69.G (K69.E a0) = some (K69.R a0 y):=i69.eq h
noncomputable abbrev K36 : Con ((Arr 32)) ((Arr 2)):=⟨fun x=>[.agg (arC .u8 x)],fun _ y=>(.agg (arC .u64 y),[]),fun x=>ZeE x⟩
theorem i36 : K36.Inj:=by intro a b h; simpa [K36,Prod.ext_iff,and_assoc] using h
theorem Zrz {a0 y} (h : ZeE a0 = some y) : K36.G (K36.E a0) = some (K36.R a0 y):=i36.eq h
noncomputable abbrev K157 : Con Tapi_Bits Bool:=⟨fun x=>[.agg ([.slice .no (Ze .u8 x.1),.v (.int .i64 x.2)])],fun _ y=>(.one (.v (.bool y)),[]),fun x=>ZbX x⟩
theorem i157 : K157.Inj:=by intro a b h; simpa [K157,Prod.ext_iff,and_assoc] using h
theorem ZlW {a0 y} (h : ZbX a0 = some y) : K157.G (K157.E a0) = some (K157.R a0 y):=i157.eq h
noncomputable abbrev K171 : Con (Tapi_Bits×Int) Bool:=⟨fun x=>[.agg ([.slice .no (Ze .u8 x.1.1),.v (.int .i64 x.1.2)]),.one (.v (.int .i64 x.2))],fun _ y=>(.one (.v (.bool y)),[]),fun x=>ZcV x.1 x.2⟩
theorem i171 : K171.Inj:=by intro a b h; simpa [K171,Prod.ext_iff,and_assoc] using h
theorem ZlX {a0 a1 y} (h : ZcV a0 a1 = some y) : K171.G (K171.E (a0,a1)) = some (K171.R (a0,a1) y):=i171.eq h
noncomputable abbrev K172 : Con (Tapi_Bits×Int×Int) Int:=⟨fun x=>[.agg ([.slice .no (Ze .u8 x.1.1),.v (.int .i64 x.1.2)]),.one (.v (.int .i64 x.2.1)),.one (.v (.int .i64 x.2.2))],fun _ y=>(.one (.v (.int .u64 y)),[]),fun x=>Zbw x.1 x.2.1 x.2.2⟩
theorem i172 : K172.Inj:=by intro a b h; simpa [K172,Prod.ext_iff,and_assoc] using h
theorem ZlY {a0 a1 a2 y} (h : Zbw a0 a1 a2 = some y) : K172.G (K172.E (a0,a1,a2)) = some (K172.R (a0,a1,a2) y):=i172.eq h
noncomputable abbrev K120 : Con (Tapi_Bits×Int×Int) (Int×Int×Int):=⟨fun x=>[.agg ([.slice .no (Ze .u8 x.1.1),.v (.int .i64 x.1.2)]),.one (.v (.int .i64 x.2.1)),.one (.v (.int .i64 x.2.2))],fun _ y=>(.tup [.one (.v (.int .u64 y.1)),.one (.v (.int .i64 y.2.1)),.one (.v (.int .i64 y.2.2))],[]),fun x=>Zbi x.1 x.2.1 x.2.2⟩
theorem i120 : K120.Inj:=by intro a b h; simpa [K120,Prod.ext_iff,and_assoc] using h
theorem Zqq {a0 a1 a2 y} (h : Zbi a0 a1 a2 = some y) : K120.G (K120.E (a0,a1,a2)) = some (K120.R (a0,a1,a2) y):=i120.eq h
noncomputable abbrev K121 : Con (Tapi_Bits×Int×Int) (Int×Int×Int):=⟨fun x=>[.agg ([.slice .no (Ze .u8 x.1.1),.v (.int .i64 x.1.2)]),.one (.v (.int .i64 x.2.1)),.one (.v (.int .i64 x.2.2))],fun _ y=>(.tup [.one (.v (.int .u64 y.1)),.one (.v (.int .i64 y.2.1)),.one (.v (.int .i64 y.2.2))],[]),fun x=>Zek x.1 x.2.1 x.2.2⟩
theorem i121 : K121.Inj:=by intro a b h; simpa [K121,Prod.ext_iff,and_assoc] using h
theorem Zqr {a0 a1 a2 y} (h : Zek a0 a1 a2 = some y) : K121.G (K121.E (a0,a1,a2)) = some (K121.R (a0,a1,a2) y):=i121.eq h
noncomputable abbrev K84 : Con (Tapi_Filter×Int) ((List Int)×Int):=⟨fun x=>[.agg ([.v (.int .i64 x.1.1),.slice .no (Ze .u8 x.1.2)]),.one (.v (.int .i64 x.2))],fun _ y=>(.tup [.one (.slice .no (Ze .u64 y.1)),.one (.v (.int .i64 y.2))],[]),fun x=>Zbj x.1 x.2⟩
theorem i84 : K84.Inj:=by intro a b h; simpa [K84,Prod.ext_iff,and_assoc] using h
theorem ZrA {a0 a1 y} (h : Zbj a0 a1 = some y) : K84.G (K84.E (a0,a1)) = some (K84.R (a0,a1) y):=i84.eq h
noncomputable abbrev K161 : Con (Int×Int) (Int×Int):=⟨fun x=>[.one (.v (.int .u64 x.1)),.one (.v (.int .u64 x.2))],fun _ y=>(.tup [.one (.v (.int .u64 y.1)),.one (.v (.int .u64 y.2))],[]),fun x=>Zas x.1 x.2⟩
theorem i161 : K161.Inj:=by intro a b h; simpa [K161,Prod.ext_iff,and_assoc] using h
theorem ZlZ {a0 a1 y} (h : Zas a0 a1 = some y) : K161.G (K161.E (a0,a1)) = some (K161.R (a0,a1) y):=i161.eq h
noncomputable abbrev K111 : Con (Int×Int) Int:=⟨fun x=>[.one (.v (.int .u64 x.1)),.one (.v (.int .u64 x.2))],fun _ y=>(.one (.v (.int .u64 y)),[]),fun x=>Zei x.1 x.2⟩
theorem i111 : K111.Inj:=by intro a b h; simpa [K111,Prod.ext_iff,and_assoc] using h
theorem Zqs {a0 a1 y} (h : Zei a0 a1 = some y) : K111.G (K111.E (a0,a1)) = some (K111.R (a0,a1) y):=i111.eq h
noncomputable abbrev K200 : Con (Int×Int) Int:=⟨fun x=>[.one (.v (.int .u64 x.1)),.one (.v (.int .i64 x.2))],fun _ y=>(.one (.v (.int .u64 y)),[]),fun x=>ZH x.1 x.2⟩
theorem i200 : K200.Inj:=by intro a b h; simpa [K200,Prod.ext_iff,and_assoc] using h
theorem ZbK {a0 a1 y} (h : ZH a0 a1 = some y) : K200.G (K200.E (a0,a1)) = some (K200.R (a0,a1) y):=i200.eq h
noncomputable abbrev K163 : Con ((Arr 4)×Int) ((Arr 4)):=⟨fun x=>[.agg (arC .u64 x.1),.one (.v (.int .i64 x.2))],fun _ y=>(.agg (arC .u64 y),[]),fun x=>ZcD x.1 x.2⟩
theorem i163 : K163.Inj:=by intro a b h; simpa [K163,Prod.ext_iff,and_assoc] using h
theorem Zl0 {a0 a1 y} (h : ZcD a0 a1 = some y) : K163.G (K163.E (a0,a1)) = some (K163.R (a0,a1) y):=i163.eq h
noncomputable abbrev K162 : Con ((Arr 4)×Int) ((Arr 4)):=⟨fun x=>[.agg (arC .u64 x.1),.one (.v (.int .u64 x.2))],fun _ y=>(.agg (arC .u64 y),[]),fun x=>ZbY x.1 x.2⟩
theorem i162 : K162.Inj:=by intro a b h; simpa [K162,Prod.ext_iff,and_assoc] using h
theorem Zl1 {a0 a1 y} (h : ZbY a0 a1 = some y) : K162.G (K162.E (a0,a1)) = some (K162.R (a0,a1) y):=i162.eq h
noncomputable abbrev K112 : Con ((Arr 2)×(List Int)) Int:=⟨fun x=>[.agg (arC .u64 x.1),.one (.slice .no (Ze .u8 x.2))],fun _ y=>(.one (.v (.int .u64 y)),[]),fun x=>ZeD x.1 x.2⟩
theorem i112 : K112.Inj:=by intro a b h; simpa [K112,Prod.ext_iff,and_assoc] using h
theorem Zqt {a0 a1 y} (h : ZeD a0 a1 = some y) : K112.G (K112.E (a0,a1)) = some (K112.R (a0,a1) y):=i112.eq h
noncomputable abbrev K199 : Con Int Bool:=⟨fun x=>[.one (.v (.int .u64 x))],fun _ y=>(.one (.v (.bool y)),[]),fun x=>XV x⟩
theorem i199 : K199.Inj:=by intro a b h; simpa [K199,Prod.ext_iff,and_assoc] using h
theorem Zl2 {a0 y} (h : XV a0 = some y) : K199.G (K199.E a0) = some (K199.R a0 y):=i199.eq h
noncomputable abbrev K156 : Con (Int×Int) Bool:=⟨fun x=>[.one (.v (.int .u64 x.1)),.one (.v (.int .u64 x.2))],fun _ y=>(.one (.v (.bool y)),[]),fun x=>ZM x.1 x.2⟩
theorem i156 : K156.Inj:=by intro a b h; simpa [K156,Prod.ext_iff,and_assoc] using h
theorem Zag {a0 a1 y} (h : ZM a0 a1 = some y) : K156.G (K156.E (a0,a1)) = some (K156.R (a0,a1) y):=i156.eq h
def Zla (x : Int) : List PV:=[.one (.v (.int .u32 x))]
theorem E209i : ∀ a b,Zla a = Zla b→a = b:=by
  rintro a0 b0 h
  simpa [Zla,and_assoc] using h
def R209 (x : Int) (y : Int) : PV×List (List Cell):=(.one (.v (.int .i64 y)),[])
noncomputable def G209:=XG Zla fun x=>(ZdX x).map (R209 x)
theorem ZtY {a0 : Int} {y : Int} (h : ZdX a0 = some y) : G209 (Zla a0) = some (R209 a0 y):=Xh E209i h
def Zjs (x : Int) : List PV:=[.one (.v (.int .u64 x))]
theorem E210i : ∀ a b,Zjs a = Zjs b→a = b:=by
  rintro a0 b0 h
  simpa [Zjs,and_assoc] using h
def Zm4 (x : Int) (y : Int) : PV×List (List Cell):=(.one (.v (.int .i64 y)),[])
noncomputable def G210:=XG Zjs fun x=>(XJ x).map (Zm4 x)
theorem Zqu {a0 : Int} {y : Int} (h : XJ a0 = some y) : G210 (Zjs a0) = some (Zm4 a0 y):=Xh E210i h
noncomputable abbrev K165 : Con Int Int:=⟨fun x=>[.one (.v (.int .u64 x))],fun _ y=>(.one (.v (.int .i64 y)),[]),fun x=>Zat x⟩
theorem i165 : K165.Inj:=by intro a b h; simpa [K165,Prod.ext_iff,and_assoc] using h
theorem Zl3 {a0 y} (h : Zat a0 = some y) : K165.G (K165.E a0) = some (K165.R a0 y):=i165.eq h
noncomputable abbrev K229 : Con Int Int:=⟨fun x=>[.one (.v (.int .i64 x))],fun _ y=>(.one (.v (.int .u64 y)),[]),fun x=>Xt x⟩
theorem i229 : K229.Inj:=by intro a b h; simpa [K229,Prod.ext_iff,and_assoc] using h
theorem Zqv {a0 y} (h : Xt a0 = some y) : K229.G (K229.E a0) = some (K229.R a0 y):=i229.eq h
noncomputable abbrev K230 : Con Int (Int×Int):=⟨fun x=>[.io ([.v (.int .u64 x)])],fun _ y=>(.one (.v (.int .u64 y.1)),[[.v (.int .u64 y.2)]]),fun x=>Zae x⟩
theorem i230 : K230.Inj:=by intro a b h; simpa [K230,Prod.ext_iff,and_assoc] using h
theorem Zqw {a0 y} (h : Zae a0 = some y) : K230.G (K230.E a0) = some (K230.R a0 y):=i230.eq h
noncomputable abbrev K240 : Con ((List Int)×Int×Int×Int) (Int×Int×Int):=⟨fun x=>[.one (.slice .no (Ze .u64 x.1)),.one (.v (.int .i64 x.2.1)),.one (.v (.int .i64 x.2.2.1)),.io ([.v (.int .i64 x.2.2.2)])],fun _ y=>(.tup [.one (.v (.int .i64 y.1)),.one (.v (.int .i64 y.2.1))],[[.v (.int .i64 y.2.2)]]),fun x=>Yp x.1 x.2.1 x.2.2.1 x.2.2.2⟩
theorem i240 : K240.Inj:=by intro a b h; simpa [K240,Prod.ext_iff,and_assoc] using h
theorem Zjt {a0 a1 a2 a3 y} (h : Yp a0 a1 a2 a3 = some y) : K240.G (K240.E (a0,a1,a2,a3)) = some (K240.R (a0,a1,a2,a3) y):=i240.eq h
noncomputable abbrev K232 : Con ((List Int)×Int×Int×Int×Int) (Int×Int):=⟨fun x=>[.one (.slice .no (Ze .u64 x.1)),.one (.v (.int .i64 x.2.1)),.one (.v (.int .i64 x.2.2.1)),.one (.v (.int .i64 x.2.2.2.1)),.io ([.v (.int .i64 x.2.2.2.2)])],fun _ y=>(.one (.v (.int .i64 y.1)),[[.v (.int .i64 y.2)]]),fun x=>YC x.1 x.2.1 x.2.2.1 x.2.2.2.1 x.2.2.2.2⟩
theorem i232 : K232.Inj:=by intro a b h; simpa [K232,Prod.ext_iff,and_assoc] using h
theorem Zl4 {a0 a1 a2 a3 a4 y} (h : YC a0 a1 a2 a3 a4 = some y) : K232.G (K232.E (a0,a1,a2,a3,a4)) = some (K232.R (a0,a1,a2,a3,a4) y):=i232.eq h
noncomputable abbrev K231 : Con ((List Int)×Int×Int) (Int×Int):=⟨fun x=>[.one (.slice .no (Ze .u64 x.1)),.one (.v (.int .i64 x.2.1)),.io ([.v (.int .i64 x.2.2)])],fun _ y=>(.one (.v (.int .i64 y.1)),[[.v (.int .i64 y.2)]]),fun x=>ZV x.1 x.2.1 x.2.2⟩
theorem i231 : K231.Inj:=by intro a b h; simpa [K231,Prod.ext_iff,and_assoc] using h
theorem Zju {a0 a1 a2 y} (h : ZV a0 a1 a2 = some y) : K231.G (K231.E (a0,a1,a2)) = some (K231.R (a0,a1,a2) y):=i231.eq h
noncomputable abbrev K204 : Con ((List Int)×Int×Int) (Int×Int):=⟨fun x=>[.one (.slice .no (Ze .u64 x.1)),.one (.v (.int .i64 x.2.1)),.one (.v (.int .i64 x.2.2))],fun _ y=>(.tup [.one (.v (.int .i64 y.1)),.one (.v (.int .i64 y.2))],[]),fun x=>Yw x.1 x.2.1 x.2.2⟩
theorem i204 : K204.Inj:=by intro a b h; simpa [K204,Prod.ext_iff,and_assoc] using h
theorem Zqx {a0 a1 a2 y} (h : Yw a0 a1 a2 = some y) : K204.G (K204.E (a0,a1,a2)) = some (K204.R (a0,a1,a2) y):=i204.eq h
def Zeu (x : (List Int)×Int×Int) : List PV:=[.rio 1 (Ze .u64 x.1),.one (.v (.int .i64 x.2.1)),.one (.v (.int .i64 x.2.2))]
theorem E201_1i : ∀ a b,Zeu a = Zeu b→a = b:=by
  rintro ⟨a0,a1,a2⟩ ⟨b0,b1,b2⟩ h
  simpa [Zeu,and_assoc] using h
def Zgv (x : (List Int)×Int×Int) (y : (List Int)) : PV×List (List Cell):=(.tup [],[(Ze .u64 y).flatten])
noncomputable def G201_1:=XG Zeu fun x=>(ZX x.1 x.2.1 x.2.2).map (Zgv x)
theorem Zoe {a0 : (List Int)} {a1 : Int} {a2 : Int} {y : (List Int)} (h : ZX a0 a1 a2 = some y) : G201_1 (Zeu (a0,a1,a2)) = some (Zgv (a0,a1,a2) y):=Xh E201_1i h
noncomputable abbrev K228_2 : Con ((List Int)×Int×Int×Int) ((List Int)):=⟨fun x=>[.rio 1 (Ze .u64 x.1),.one (.v (.int .i64 x.2.1)),.one (.v (.int .i64 x.2.2.1)),.one (.v (.int .i64 x.2.2.2))],fun _ y=>(.tup [],[(Ze .u64 y).flatten]),fun x=>YK x.1 x.2.1 x.2.2.1 x.2.2.2⟩
theorem i228_2 : K228_2.Inj:=by intro a b h; simpa [K228_2,Prod.ext_iff,and_assoc] using h
theorem Zj2 {a0 a1 a2 a3 y} (h : YK a0 a1 a2 a3 = some y) : K228_2.G (K228_2.E (a0,a1,a2,a3)) = some (K228_2.R (a0,a1,a2,a3) y):=i228_2.eq h
noncomputable abbrev K202_3 : Con ((List Int)×Int×Int) ((List Int)):=⟨fun x=>[.rio 1 (Ze .u64 x.1),.one (.v (.int .i64 x.2.1)),.one (.v (.int .i64 x.2.2))],fun _ y=>(.tup [],[(Ze .u64 y).flatten]),fun x=>YL x.1 x.2.1 x.2.2⟩
theorem i202_3 : K202_3.Inj:=by intro a b h; simpa [K202_3,Prod.ext_iff,and_assoc] using h
theorem Zof {a0 a1 a2 y} (h : YL a0 a1 a2 = some y) : K202_3.G (K202_3.E (a0,a1,a2)) = some (K202_3.R (a0,a1,a2) y):=i202_3.eq h
noncomputable abbrev K205_4 : Con ((List Int)×Int×Int) ((List Int)):=⟨fun x=>[.rio 1 (Ze .u64 x.1),.one (.v (.int .i64 x.2.1)),.one (.v (.int .i64 x.2.2))],fun _ y=>(.tup [],[(Ze .u64 y).flatten]),fun x=>Yu x.1 x.2.1 x.2.2⟩
theorem i205_4 : K205_4.Inj:=by intro a b h; simpa [K205_4,Prod.ext_iff,and_assoc] using h
theorem Zog {a0 a1 a2 y} (h : Yu a0 a1 a2 = some y) : K205_4.G (K205_4.E (a0,a1,a2)) = some (K205_4.R (a0,a1,a2) y):=i205_4.eq h
noncomputable abbrev K206_5 : Con ((List Int)×Int×Int) (Bool×(List Int)):=⟨fun x=>[.rio 1 (Ze .u64 x.1),.one (.v (.int .i64 x.2.1)),.one (.v (.int .i64 x.2.2))],fun _ y=>(.one (.v (.bool y.1)),[(Ze .u64 y.2).flatten]),fun x=>Ya x.1 x.2.1 x.2.2⟩
theorem i206_5 : K206_5.Inj:=by intro a b h; simpa [K206_5,Prod.ext_iff,and_assoc] using h
theorem Zoh {a0 a1 a2 y} (h : Ya a0 a1 a2 = some y) : K206_5.G (K206_5.E (a0,a1,a2)) = some (K206_5.R (a0,a1,a2) y):=i206_5.eq h
def Zc2 (x : (List Int)×Int×Int×Int) : List PV:=[.rio 1 (Ze .u64 x.1),.one (.v (.int .i64 x.2.1)),.one (.v (.int .i64 x.2.2.1)),.one (.v (.int .i64 x.2.2.2))]
theorem E207_6i : ∀ a b,Zc2 a = Zc2 b→a = b:=by
  rintro ⟨a0,a1,a2,a3⟩ ⟨b0,b1,b2,b3⟩ h
  simpa [Zc2,and_assoc] using h
def Ze0 (x : (List Int)×Int×Int×Int) (y : Int×(List Int)) : PV×List (List Cell):=(.one (.v (.int .i64 y.1)),[(Ze .u64 y.2).flatten])
noncomputable def G207_6:=XG Zc2 fun x=>(ZK x.1 x.2.1 x.2.2.1 x.2.2.2).map (Ze0 x)
theorem ZhI {a0 : (List Int)} {a1 : Int} {a2 : Int} {a3 : Int} {y : Int×(List Int)} (h : ZK a0 a1 a2 a3 = some y) : G207_6 (Zc2 (a0,a1,a2,a3)) = some (Ze0 (a0,a1,a2,a3) y):=Xh E207_6i h
def ZbW (x : (List Int)×Int×Int×Int) : List PV:=[.rio 1 (Ze .u64 x.1),.one (.v (.int .i64 x.2.1)),.one (.v (.int .i64 x.2.2.1)),.one (.v (.int .i64 x.2.2.2))]
theorem E208_7i : ∀ a b,ZbW a = ZbW b→a = b:=by
  rintro ⟨a0,a1,a2,a3⟩ ⟨b0,b1,b2,b3⟩ h
  simpa [ZbW,and_assoc] using h
def Zc3 (x : (List Int)×Int×Int×Int) (y : Int×Bool×(List Int)) : PV×List (List Cell):=(.tup [.one (.v (.int .i64 y.1)),.one (.v (.bool y.2.1))],[(Ze .u64 y.2.2).flatten])
noncomputable def G208_7:=XG ZbW fun x=>(Z2 x.1 x.2.1 x.2.2.1 x.2.2.2).map (Zc3 x)
theorem Zea {a0 : (List Int)} {a1 : Int} {a2 : Int} {a3 : Int} {y : Int×Bool×(List Int)} (h : Z2 a0 a1 a2 a3 = some y) : G208_7 (ZbW (a0,a1,a2,a3)) = some (Zc3 (a0,a1,a2,a3) y):=Xh E208_7i h
def Zev (x : (List Int)×Int×Int) : List PV:=[.rio 1 (Ze .u64 x.1),.one (.v (.int .i64 x.2.1)),.one (.v (.int .i64 x.2.2))]
theorem E203_9i : ∀ a b,Zev a = Zev b→a = b:=by
  rintro ⟨a0,a1,a2⟩ ⟨b0,b1,b2⟩ h
  simpa [Zev,and_assoc] using h
def Zgw (x : (List Int)×Int×Int) (y : (List Int)) : PV×List (List Cell):=(.tup [],[(Ze .u64 y).flatten])
noncomputable def G203_9:=XG Zev fun x=>(ZY x.1 x.2.1 x.2.2).map (Zgw x)
theorem Zoi {a0 : (List Int)} {a1 : Int} {a2 : Int} {y : (List Int)} (h : ZY a0 a1 a2 = some y) : G203_9 (Zev (a0,a1,a2)) = some (Zgw (a0,a1,a2) y):=Xh E203_9i h
def XS (x : (List Int)×Int×Int×Int) : List PV:=[.rio 1 (Ze .u64 x.1),.one (.v (.int .i64 x.2.1)),.one (.v (.int .i64 x.2.2.1)),.one (.v (.int .i64 x.2.2.2))]
theorem E164_8i : ∀ a b,XS a = XS b→a = b:=by
  rintro ⟨a0,a1,a2,a3⟩ ⟨b0,b1,b2,b3⟩ h
  simpa [XS,and_assoc] using h
def Zah (x : (List Int)×Int×Int×Int) (y : (List Int)) : PV×List (List Cell):=(.tup [],[(Ze .u64 y).flatten])
noncomputable def G164_8:=XG XS fun x=>(Xr x.1 x.2.1 x.2.2.1 x.2.2.2).map (Zah x)
theorem Zoj {a0 : (List Int)} {a1 : Int} {a2 : Int} {a3 : Int} {y : (List Int)} (h : Xr a0 a1 a2 a3 = some y) : G164_8 (XS (a0,a1,a2,a3)) = some (Zah (a0,a1,a2,a3) y):=Xh E164_8i h
noncomputable def Zh0 (n : Nat):=XG XS fun x=>(Lslices_pdqsortOrdered_of_uint64_n n x.1 x.2.1 x.2.2.1 x.2.2.2).map (Zah x)
theorem X6 {n : Nat} {a0 : (List Int)} {a1 : Int} {a2 : Int} {a3 : Int} {y : (List Int)} (h : Lslices_pdqsortOrdered_of_uint64_n n a0 a1 a2 a3 = some y) : Zh0 n (XS (a0,a1,a2,a3)) = some (Zah (a0,a1,a2,a3) y):=Xh E164_8i h
noncomputable abbrev K113_10 : Con ((List Int)) ((List Int)):=⟨fun x=>[.rio 1 (Ze .u64 x)],fun _ y=>(.tup [],[(Ze .u64 y).flatten]),fun x=>Y1 x⟩
theorem i113_10 : K113_10.Inj:=by intro a b h; simpa [K113_10,Prod.ext_iff,and_assoc] using h
theorem Zm5 {a0 y} (h : Y1 a0 = some y) : K113_10.G (K113_10.E a0) = some (K113_10.R a0 y):=i113_10.eq h
noncomputable abbrev K71 : Con ((Arr 2)×(List (List Int))×Int×Int) ((List Int)):=⟨fun x=>[.agg (arC .u64 x.1),.one (.slice .no (List.map YF x.2.1)),.one (.v (.int .i64 x.2.2.1)),.one (.v (.int .u64 x.2.2.2))],fun _ y=>(.one (.own 1 (Ze .u64 y)),[]),fun x=>Zbf x.1 x.2.1 x.2.2.1 x.2.2.2⟩
theorem i71 : K71.Inj:=by intro a b h; simpa [K71,Prod.ext_iff,and_assoc] using h
theorem ZrC {a0 a1 a2 a3 y} (h : Zbf a0 a1 a2 a3 = some y) : K71.G (K71.E (a0,a1,a2,a3)) = some (K71.R (a0,a1,a2,a3) y):=i71.eq h
def Zdh (x : (List Int)) : List PV:=[.one (.own 1 (Ze .u64 x))]
theorem E122_11i : ∀ a b,Zdh a = Zdh b→a = b:=by
  rintro a0 b0 h
  simpa [Zdh,and_assoc] using h
def Zfy (x : (List Int)) (y : (List Int)) : PV×List (List Cell):=(.one (.own 1 (Ze .u64 y)),[])
noncomputable def G122_11:=XG Zdh fun x=>(Ye x).map (Zfy x)
theorem Zm6 {a0 : (List Int)} {y : (List Int)} (h : Ye a0 = some y) : G122_11 (Zdh a0) = some (Zfy a0 y):=Xh E122_11i h
noncomputable abbrev K85 : Con ((Arr 2)×(List (List Int))×Int×Int) ((List Int)×Int):=⟨fun x=>[.agg (arC .u64 x.1),.one (.slice .no (List.map YF x.2.1)),.one (.v (.int .i64 x.2.2.1)),.one (.v (.int .u64 x.2.2.2))],fun _ y=>(.tup [.one (.slice .no (Ze .u64 y.1)),.one (.v (.int .i64 y.2))],[]),fun x=>Zbh x.1 x.2.1 x.2.2.1 x.2.2.2⟩
theorem i85 : K85.Inj:=by intro a b h; simpa [K85,Prod.ext_iff,and_assoc] using h
theorem ZrD {a0 a1 a2 a3 y} (h : Zbh a0 a1 a2 a3 = some y) : K85.G (K85.E (a0,a1,a2,a3)) = some (K85.R (a0,a1,a2,a3) y):=i85.eq h
noncomputable abbrev K47 : Con ((Arr 2)×Tapi_Filter×(List (List Int))×Int×Int) (Bool×Int):=⟨fun x=>[.agg (arC .u64 x.1),.agg ([.v (.int .i64 x.2.1.1),.slice .no (Ze .u8 x.2.1.2)]),.one (.slice .no (List.map YF x.2.2.1)),.one (.v (.int .i64 x.2.2.2.1)),.one (.v (.int .u64 x.2.2.2.2))],fun _ y=>(.tup [.one (.v (.bool y.1)),.one (.v (.int .i64 y.2))],[]),fun x=>ZbH x.1 x.2.1 x.2.2.1 x.2.2.2.1 x.2.2.2.2⟩
theorem i47 : K47.Inj:=by intro a b h; simpa [K47,Prod.ext_iff,and_assoc] using h
theorem ZrE {a0 a1 a2 a3 a4 y} (h : ZbH a0 a1 a2 a3 a4 = some y) : K47.G (K47.E (a0,a1,a2,a3,a4)) = some (K47.R (a0,a1,a2,a3,a4) y):=i47.eq h
noncomputable abbrev K18 : Con (Tapi_Filter×(Arr 32)×(List (List Int))) (Bool×Int):=⟨fun x=>[.agg ([.v (.int .i64 x.1.1),.slice .no (Ze .u8 x.1.2)]),.agg (arC .u8 x.2.1),.one (.slice .no (List.map YF x.2.2))],fun _ y=>(.tup [.one (.v (.bool y.1)),.one (.v (.int .i64 y.2))],[]),fun x=>ZbI x.1 x.2.1 x.2.2⟩
theorem i18 : K18.Inj:=by intro a b h; simpa [K18,Prod.ext_iff,and_assoc] using h
theorem ZrF {a0 a1 a2 y} (h : ZbI a0 a1 a2 = some y) : K18.G (K18.E (a0,a1,a2)) = some (K18.R (a0,a1,a2) y):=i18.eq h
noncomputable abbrev K78 : Con ((List Int)) Int:=⟨fun x=>[.one (.slice .no (Ze .u8 x))],fun _ y=>(.one (.v (.int .u64 y)),[]),fun x=>Zbd x⟩
theorem i78 : K78.Inj:=by intro a b h; simpa [K78,Prod.ext_iff,and_assoc] using h
theorem Zi9 {a0 y} (h : Zbd a0 = some y) : K78.G (K78.E a0) = some (K78.R a0 y):=i78.eq h
noncomputable abbrev K41 : Con ((Arr 32)) ((Arr 2)):=⟨fun x=>[.agg (arC .u8 x)],fun _ y=>(.agg (arC .u64 y),[]),fun x=>Zde x⟩
theorem i41 : K41.Inj:=by intro a b h; simpa [K41,Prod.ext_iff,and_assoc] using h
theorem ZrG {a0 y} (h : Zde a0 = some y) : K41.G (K41.E a0) = some (K41.R a0 y):=i41.eq h
noncomputable abbrev K173 : Con (Tapi_Bits×Int) Bool:=⟨fun x=>[.agg ([.slice .no (Ze .u8 x.1.1),.v (.int .i64 x.1.2)]),.one (.v (.int .i64 x.2))],fun _ y=>(.one (.v (.bool y)),[]),fun x=>ZbR x.1 x.2⟩
theorem i173 : K173.Inj:=by intro a b h; simpa [K173,Prod.ext_iff,and_assoc] using h
theorem Zjv {a0 a1 y} (h : ZbR a0 a1 = some y) : K173.G (K173.E (a0,a1)) = some (K173.R (a0,a1) y):=i173.eq h
noncomputable abbrev K169 : Con Tapi_Bits Bool:=⟨fun x=>[.agg ([.slice .no (Ze .u8 x.1),.v (.int .i64 x.2)])],fun _ y=>(.one (.v (.bool y)),[]),fun x=>Zbt x⟩
theorem i169 : K169.Inj:=by intro a b h; simpa [K169,Prod.ext_iff,and_assoc] using h
theorem Zl5 {a0 y} (h : Zbt a0 = some y) : K169.G (K169.E a0) = some (K169.R a0 y):=i169.eq h
noncomputable abbrev K174 : Con (Tapi_Bits×Int×Int) Int:=⟨fun x=>[.agg ([.slice .no (Ze .u8 x.1.1),.v (.int .i64 x.1.2)]),.one (.v (.int .i64 x.2.1)),.one (.v (.int .i64 x.2.2))],fun _ y=>(.one (.v (.int .u64 y)),[]),fun x=>Za1 x.1 x.2.1 x.2.2⟩
theorem i174 : K174.Inj:=by intro a b h; simpa [K174,Prod.ext_iff,and_assoc] using h
theorem Zl6 {a0 a1 a2 y} (h : Za1 a0 a1 a2 = some y) : K174.G (K174.E (a0,a1,a2)) = some (K174.R (a0,a1,a2) y):=i174.eq h
noncomputable abbrev K123 : Con (Tapi_Bits×Int×Int) (Int×Int×Int):=⟨fun x=>[.agg ([.slice .no (Ze .u8 x.1.1),.v (.int .i64 x.1.2)]),.one (.v (.int .i64 x.2.1)),.one (.v (.int .i64 x.2.2))],fun _ y=>(.tup [.one (.v (.int .u64 y.1)),.one (.v (.int .i64 y.2.1)),.one (.v (.int .i64 y.2.2))],[]),fun x=>ZaR x.1 x.2.1 x.2.2⟩
theorem i123 : K123.Inj:=by intro a b h; simpa [K123,Prod.ext_iff,and_assoc] using h
theorem Zqy {a0 a1 a2 y} (h : ZaR a0 a1 a2 = some y) : K123.G (K123.E (a0,a1,a2)) = some (K123.R (a0,a1,a2) y):=i123.eq h
noncomputable abbrev K124 : Con (Tapi_Bits×Int×Int) (Int×Int×Int):=⟨fun x=>[.agg ([.slice .no (Ze .u8 x.1.1),.v (.int .i64 x.1.2)]),.one (.v (.int .i64 x.2.1)),.one (.v (.int .i64 x.2.2))],fun _ y=>(.tup [.one (.v (.int .u64 y.1)),.one (.v (.int .i64 y.2.1)),.one (.v (.int .i64 y.2.2))],[]),fun x=>Zdv x.1 x.2.1 x.2.2⟩
theorem i124 : K124.Inj:=by intro a b h; simpa [K124,Prod.ext_iff,and_assoc] using h
theorem Zqz {a0 a1 a2 y} (h : Zdv a0 a1 a2 = some y) : K124.G (K124.E (a0,a1,a2)) = some (K124.R (a0,a1,a2) y):=i124.eq h
noncomputable abbrev K86 : Con (Tapi_Filter×Int) ((List Int)×Int):=⟨fun x=>[.agg ([.v (.int .i64 x.1.1),.slice .no (Ze .u8 x.1.2)]),.one (.v (.int .i64 x.2))],fun _ y=>(.tup [.one (.slice .no (Ze .u64 y.1)),.one (.v (.int .i64 y.2))],[]),fun x=>ZbG x.1 x.2⟩
theorem i86 : K86.Inj:=by intro a b h; simpa [K86,Prod.ext_iff,and_assoc] using h
theorem ZrH {a0 a1 y} (h : ZbG a0 a1 = some y) : K86.G (K86.E (a0,a1)) = some (K86.R (a0,a1) y):=i86.eq h
noncomputable abbrev K116 : Con (Int×Int) Int:=⟨fun x=>[.one (.v (.int .u64 x.1)),.one (.v (.int .u64 x.2))],fun _ y=>(.one (.v (.int .u64 y)),[]),fun x=>ZcU x.1 x.2⟩
theorem i116 : K116.Inj:=by intro a b h; simpa [K116,Prod.ext_iff,and_assoc] using h
theorem ZqA {a0 a1 y} (h : ZcU a0 a1 = some y) : K116.G (K116.E (a0,a1)) = some (K116.R (a0,a1) y):=i116.eq h
noncomputable abbrev K168 : Con ((Arr 4)) ((Arr 4)):=⟨fun x=>[.agg (arC .u64 x)],fun _ y=>(.agg (arC .u64 y),[]),fun x=>XL x⟩
theorem i168 : K168.Inj:=by intro a b h; simpa [K168,Prod.ext_iff,and_assoc] using h
theorem Zfz {a0 y} (h : XL a0 = some y) : K168.G (K168.E a0) = some (K168.R a0 y):=i168.eq h
def Zgg (x : (Arr 4)×Int) : List PV:=[.agg (arC .u64 x.1),.one (.v (.int .u64 x.2))]
theorem E167i : ∀ a b,Zgg a = Zgg b→a = b:=by
  rintro ⟨a0,a1⟩ ⟨b0,b1⟩ h
  simpa [Zgg,and_assoc] using h
def Ziy (x : (Arr 4)×Int) (y : (Arr 4)) : PV×List (List Cell):=(.agg (arC .u64 y),[])
noncomputable def G167:=XG Zgg fun x=>(X5 x.1 x.2).map (Ziy x)
theorem Zl7 {a0 : (Arr 4)} {a1 : Int} {y : (Arr 4)} (h : X5 a0 a1 = some y) : G167 (Zgg (a0,a1)) = some (Ziy (a0,a1) y):=Xh E167i h
def Zg3 (x : (Arr 2)×(List Int)) : List PV:=[.agg (arC .u64 x.1),.one (.slice .no (Ze .u8 x.2))]
theorem E117i : ∀ a b,Zg3 a = Zg3 b→a = b:=by
  rintro ⟨a0,a1⟩ ⟨b0,b1⟩ h
  simpa [Zg3,and_assoc] using h
def Zjw (x : (Arr 2)×(List Int)) (y : Int) : PV×List (List Cell):=(.one (.v (.int .u64 y)),[])
noncomputable def G117:=XG Zg3 fun x=>(Zcl x.1 x.2).map (Zjw x)
theorem ZqB {a0 : (Arr 2)} {a1 : (List Int)} {y : Int} (h : Zcl a0 a1 = some y) : G117 (Zg3 (a0,a1)) = some (Zjw (a0,a1) y):=Xh E117i h
def E75 (x : (Arr 2)×(List Int)×Int×Int) : List PV:=[.agg (arC .u64 x.1),.one (.slice .no (Ze .u8 x.2.1)),.one (.v (.int .i64 x.2.2.1)),.one (.v (.int .u64 x.2.2.2))]
theorem E75i : ∀ a b,E75 a = E75 b→a = b:=by
  rintro ⟨a0,a1,a2,a3⟩ ⟨b0,b1,b2,b3⟩ h
  simpa [E75,and_assoc] using h
def R75 (x : (Arr 2)×(List Int)×Int×Int) (y : Int) : PV×List (List Cell):=(.one (.v (.int .u64 y)),[])
noncomputable def G75:=XG E75 fun x=>(ZaK x.1 x.2.1 x.2.2.1 x.2.2.2).map (R75 x)
theorem ZrI {a0 : (Arr 2)} {a1 : (List Int)} {a2 : Int} {a3 : Int} {y : Int} (h : ZaK a0 a1 a2 a3 = some y) : G75 (E75 (a0,a1,a2,a3)) = some (R75 (a0,a1,a2,a3) y):=Xh E75i h
def E77 (x : (List Int)) : List PV:=[.one (.slice .no (Ze .u64 x))]
theorem E77i : ∀ a b,E77 a = E77 b→a = b:=by
  rintro a0 b0 h
  simpa [E77,and_assoc] using h
def R77 (x : (List Int)) (y : (List Int)) : PV×List (List Cell):=(.one (.slice .no (Ze .u64 y)),[])
noncomputable def G77:=XG E77 fun x=>(ZdF x).map (R77 x)
theorem ZrJ {a0 : (List Int)} {y : (List Int)} (h : ZdF a0 = some y) : G77 (E77 a0) = some (R77 a0 y):=Xh E77i h
noncomputable def Zm7 (n : Nat):=XG E77 fun x=>(Lref19_sorted_n n x).map (R77 x)
theorem Zl8 {n : Nat} {a0 : (List Int)} {y : (List Int)} (h : Lref19_sorted_n n a0 = some y) : Zm7 n (E77 a0) = some (R77 a0 y):=Xh E77i h
noncomputable abbrev K87 : Con ((Arr 2)×(List (List Int))×Int×Int) ((List Int)×Int):=⟨fun x=>[.agg (arC .u64 x.1),.one (.slice .no (List.map YF x.2.1)),.one (.v (.int .i64 x.2.2.1)),.one (.v (.int .u64 x.2.2.2))],fun _ y=>(.tup [.one (.slice .no (Ze .u64 y.1)),.one (.v (.int .i64 y.2))],[]),fun x=>ZbF x.1 x.2.1 x.2.2.1 x.2.2.2⟩
theorem i87 : K87.Inj:=by intro a b h; simpa [K87,Prod.ext_iff,and_assoc] using h
theorem ZrK {a0 a1 a2 a3 y} (h : ZbF a0 a1 a2 a3 = some y) : K87.G (K87.E (a0,a1,a2,a3)) = some (K87.R (a0,a1,a2,a3) y):=i87.eq h
noncomputable abbrev K48 : Con ((Arr 2)×Tapi_Filter×(List (List Int))×Int×Int) (Bool×Int):=⟨fun x=>[.agg (arC .u64 x.1),.agg ([.v (.int .i64 x.2.1.1),.slice .no (Ze .u8 x.2.1.2)]),.one (.slice .no (List.map YF x.2.2.1)),.one (.v (.int .i64 x.2.2.2.1)),.one (.v (.int .u64 x.2.2.2.2))],fun _ y=>(.tup [.one (.v (.bool y.1)),.one (.v (.int .i64 y.2))],[]),fun x=>Zcb x.1 x.2.1 x.2.2.1 x.2.2.2.1 x.2.2.2.2⟩
theorem i48 : K48.Inj:=by intro a b h; simpa [K48,Prod.ext_iff,and_assoc] using h
theorem ZrL {a0 a1 a2 a3 a4 y} (h : Zcb a0 a1 a2 a3 a4 = some y) : K48.G (K48.E (a0,a1,a2,a3,a4)) = some (K48.R (a0,a1,a2,a3,a4) y):=i48.eq h
noncomputable abbrev K19 : Con (Tapi_Filter×(Arr 32)×(List (List Int))) (Bool×Int):=⟨fun x=>[.agg ([.v (.int .i64 x.1.1),.slice .no (Ze .u8 x.1.2)]),.agg (arC .u8 x.2.1),.one (.slice .no (List.map YF x.2.2))],fun _ y=>(.tup [.one (.v (.bool y.1)),.one (.v (.int .i64 y.2))],[]),fun x=>Zcc x.1 x.2.1 x.2.2⟩
theorem i19 : K19.Inj:=by intro a b h; simpa [K19,Prod.ext_iff,and_assoc] using h
theorem ZrM {a0 a1 a2 y} (h : Zcc a0 a1 a2 = some y) : K19.G (K19.E (a0,a1,a2)) = some (K19.R (a0,a1,a2) y):=i19.eq h
def E4 (x : Tapi_Filter×(Arr 32)×(List (List Int))) : List PV:=[.agg ([.v (.int .i64 x.1.1),.slice .no (Ze .u8 x.1.2)]),.agg (arC .u8 x.2.1),.one (.slice .no (List.map YF x.2.2))]
theorem E4i : ∀ a b,E4 a = E4 b→a = b:=by
  rintro ⟨⟨a0_0,a0_1⟩,a1,a2⟩ ⟨⟨b0_0,b0_1⟩,b1,b2⟩ h
  simpa [E4,and_assoc] using h
def R4 (x : Tapi_Filter×(Arr 32)×(List (List Int))) (y : Bool) : PV×List (List Cell):=(.one (.v (.bool y)),[])
noncomputable def G4:=XG E4 fun x=>(Xj x.1 x.2.1 x.2.2).map (R4 x)
theorem ZsO {a0 : Tapi_Filter} {a1 : (Arr 32)} {a2 : (List (List Int))} {y : Bool} (h : Xj a0 a1 a2 = some y) : G4 (E4 (a0,a1,a2)) = some (R4 (a0,a1,a2) y):=Xh E4i h
noncomputable abbrev K146 : Con Int ((List Int)):=⟨fun x=>[.one (.v (.int .u64 x))],fun _ y=>(.one (.own 1 (Ze .u8 y)),[]),fun x=>Zc9 x⟩
theorem i146 : K146.Inj:=by intro a b h; simpa [K146,Prod.ext_iff,and_assoc] using h
theorem ZqC {a0 y} (h : Zc9 a0 = some y) : K146.G (K146.E a0) = some (K146.R a0 y):=i146.eq h
noncomputable abbrev K147 : Con Unit ((Arr 8)):=⟨fun _=>[],fun _ y=>(.agg (arC .u32 y),[]),fun _=>Lref03_Initial⟩
theorem i147 : K147.Inj:=fun _ _ _=>rfl
theorem ZqD { y} (h : Lref03_Initial  = some y) : K147.G (K147.E ()) = some (K147.R () y):=i147.eq h
noncomputable abbrev K227 : Con (Int×Int) Int:=⟨fun x=>[.one (.v (.int .u32 x.1)),.one (.v (.int .i64 x.2))],fun _ y=>(.one (.v (.int .u32 y)),[]),fun x=>Xc x.1 x.2⟩
theorem i227 : K227.Inj:=by intro a b h; simpa [K227,Prod.ext_iff,and_assoc] using h
theorem Zl9 {a0 a1 y} (h : Xc a0 a1 = some y) : K227.G (K227.E (a0,a1)) = some (K227.R (a0,a1) y):=i227.eq h
noncomputable abbrev K195 : Con (Int×Int) Int:=⟨fun x=>[.one (.v (.int .u32 x.1)),.one (.v (.int .i64 x.2))],fun _ y=>(.one (.v (.int .u32 y)),[]),fun x=>Xi x.1 x.2⟩
theorem i195 : K195.Inj:=by intro a b h; simpa [K195,Prod.ext_iff,and_assoc] using h
theorem ZcF {a0 a1 y} (h : Xi a0 a1 = some y) : K195.G (K195.E (a0,a1)) = some (K195.R (a0,a1) y):=i195.eq h
noncomputable abbrev K193 : Con ((Arr 64)) ((Arr 64)):=⟨fun x=>[.agg (arC .u8 x)],fun _ y=>(.agg (arC .u32 y),[]),fun x=>ZaP x⟩
theorem i193 : K193.Inj:=by intro a b h; simpa [K193,Prod.ext_iff,and_assoc] using h
theorem ZqE {a0 y} (h : ZaP a0 = some y) : K193.G (K193.E a0) = some (K193.R a0 y):=i193.eq h
noncomputable abbrev K194 : Con Unit ((Arr 64)):=⟨fun _=>[],fun _ y=>(.agg (arC .u32 y),[]),fun _=>Lref03_constants⟩
theorem i194 : K194.Inj:=fun _ _ _=>rfl
theorem ZqF { y} (h : Lref03_constants  = some y) : K194.G (K194.E ()) = some (K194.R () y):=i194.eq h
def Zg4 (x : (Arr 8)×(Arr 64)) : List PV:=[.agg (arC .u32 x.1),.agg (arC .u8 x.2)]
theorem E148i : ∀ a b,Zg4 a = Zg4 b→a = b:=by
  rintro ⟨a0,a1⟩ ⟨b0,b1⟩ h
  simpa [Zg4,and_assoc] using h
def Zjx (x : (Arr 8)×(Arr 64)) (y : (Arr 8)) : PV×List (List Cell):=(.agg (arC .u32 y),[])
noncomputable def G148:=XG Zg4 fun x=>(X1 x.1 x.2).map (Zjx x)
theorem ZqG {a0 : (Arr 8)} {a1 : (Arr 64)} {y : (Arr 8)} (h : X1 a0 a1 = some y) : G148 (Zg4 (a0,a1)) = some (Zjx (a0,a1) y):=Xh E148i h
def E95 (x : (List Int)) : List PV:=[.one (.slice .no (Ze .u8 x))]
theorem E95i : ∀ a b,E95 a = E95 b→a = b:=by
  rintro a0 b0 h
  simpa [E95,and_assoc] using h
def R95 (x : (List Int)) (y : (Arr 32)) : PV×List (List Cell):=(.agg (arC .u8 y),[])
noncomputable def G95:=XG E95 fun x=>(Zal x).map (R95 x)
theorem Zok {a0 : (List Int)} {y : (Arr 32)} (h : Zal a0 = some y) : G95 (E95 a0) = some (R95 a0 y):=Xh E95i h
noncomputable abbrev K51 : Con ((List Int)) ((Arr 32)):=⟨fun x=>[.one (.slice .no (Ze .u8 x))],fun _ y=>(.agg (arC .u8 y),[]),fun x=>Zap x⟩
theorem i51 : K51.Inj:=by intro a b h; simpa [K51,Prod.ext_iff,and_assoc] using h
theorem ZrN {a0 y} (h : Zap a0 = some y) : K51.G (K51.E a0) = some (K51.R a0 y):=i51.eq h
noncomputable abbrev K82 : Con ((List Int)×(List Int)) ((List Int)):=⟨fun x=>[.one (.slice .no (Ze .u8 x.1)),.one (.slice .no (Ze .u8 x.2))],fun _ y=>(.one (.own 1 (Ze .u8 y)),[]),fun x=>ZaZ x.1 x.2⟩
theorem i82 : K82.Inj:=by intro a b h; simpa [K82,Prod.ext_iff,and_assoc] using h
theorem Zol {a0 a1 y} (h : ZaZ a0 a1 = some y) : K82.G (K82.E (a0,a1)) = some (K82.R (a0,a1) y):=i82.eq h
noncomputable abbrev K96 : Con (Int×Int) ((List Int)):=⟨fun x=>[.one (.v (.int .u64 x.1)),.one (.v (.int .i64 x.2))],fun _ y=>(.one (.own 1 (Ze .u8 y)),[]),fun x=>Za0 x.1 x.2⟩
theorem i96 : K96.Inj:=by intro a b h; simpa [K96,Prod.ext_iff,and_assoc] using h
theorem ZrO {a0 a1 y} (h : Za0 a0 a1 = some y) : K96.G (K96.E (a0,a1)) = some (K96.R (a0,a1) y):=i96.eq h
noncomputable abbrev K53 : Con ((List Int)×Int) ((List Int)):=⟨fun x=>[.one (.slice .no (Ze .u8 x.1)),.one (.v (.int .u32 x.2))],fun _ y=>(.one (.own 1 (Ze .u8 y)),[]),fun x=>X8 x.1 x.2⟩
theorem i53 : K53.Inj:=by intro a b h; simpa [K53,Prod.ext_iff,and_assoc] using h
theorem Zom {a0 a1 y} (h : X8 a0 a1 = some y) : K53.G (K53.E (a0,a1)) = some (K53.R (a0,a1) y):=i53.eq h
noncomputable abbrev K54 : Con ((List Int)×(Arr 32)) ((List Int)):=⟨fun x=>[.one (.slice .no (Ze .u8 x.1)),.agg (arC .u8 x.2)],fun _ y=>(.one (.own 1 (Ze .u8 y)),[]),fun x=>XY x.1 x.2⟩
theorem i54 : K54.Inj:=by intro a b h; simpa [K54,Prod.ext_iff,and_assoc] using h
theorem Zon {a0 a1 y} (h : XY a0 a1 = some y) : K54.G (K54.E (a0,a1)) = some (K54.R (a0,a1) y):=i54.eq h
noncomputable abbrev K52 : Con Tapi_Header ((List Int)):=⟨fun x=>[.agg ((.v (.int .u32 x.1)) :: ((arC .u8 x.2.1)++((arC .u8 x.2.2.1)++((.v (.int .u32 x.2.2.2.1)) :: ((.v (.int .u32 x.2.2.2.2.1)) :: ((.v (.int .u32 x.2.2.2.2.2)) :: []))))))],fun _ y=>(.one (.own 1 (Ze .u8 y)),[]),fun x=>X3 x⟩
theorem i52 : K52.Inj:=by intro a b h; simpa [K52,Prod.ext_iff,and_assoc] using h
theorem ZrP {a0 y} (h : X3 a0 = some y) : K52.G (K52.E a0) = some (K52.R a0 y):=i52.eq h
noncomputable abbrev K22 : Con Tapi_Header ((Arr 32)):=⟨fun x=>[.agg ((.v (.int .u32 x.1)) :: ((arC .u8 x.2.1)++((arC .u8 x.2.2.1)++((.v (.int .u32 x.2.2.2.1)) :: ((.v (.int .u32 x.2.2.2.2.1)) :: ((.v (.int .u32 x.2.2.2.2.2)) :: []))))))],fun _ y=>(.agg (arC .u8 y),[]),fun x=>Zb2 x⟩
theorem i22 : K22.Inj:=by intro a b h; simpa [K22,Prod.ext_iff,and_assoc] using h
theorem G22_eq {a0 y} (h : Zb2 a0 = some y) : K22.G (K22.E a0) = some (K22.R a0 y):=i22.eq h
noncomputable abbrev K153 : Con ((List (List Int))) ((List Int)):=⟨fun x=>[.one (.slice .no (List.map YF x))],fun _ y=>(.one (.own 1 (Ze .u8 y)),[]),fun x=>ZeA x⟩
theorem i153 : K153.Inj:=by intro a b h; simpa [K153,Prod.ext_iff,and_assoc] using h
theorem ZqH {a0 y} (h : ZeA a0 = some y) : K153.G (K153.E a0) = some (K153.R a0 y):=i153.eq h
noncomputable abbrev K154 : Con Int ((List Int)):=⟨fun x=>[.one (.v (.int .u64 x))],fun _ y=>(.one (.own 1 (Ze .u8 y)),[]),fun x=>ZeB x⟩
theorem i154 : K154.Inj:=by intro a b h; simpa [K154,Prod.ext_iff,and_assoc] using h
theorem ZqI {a0 y} (h : ZeB a0 = some y) : K154.G (K154.E a0) = some (K154.R a0 y):=i154.eq h
noncomputable abbrev K198 : Con (Int×Int) Int:=⟨fun x=>[.one (.v (.int .u32 x.1)),.one (.v (.int .i64 x.2))],fun _ y=>(.one (.v (.int .u32 y)),[]),fun x=>XI x.1 x.2⟩
theorem i198 : K198.Inj:=by intro a b h; simpa [K198,Prod.ext_iff,and_assoc] using h
theorem ZcG {a0 a1 y} (h : XI a0 a1 = some y) : K198.G (K198.E (a0,a1)) = some (K198.R (a0,a1) y):=i198.eq h
noncomputable abbrev K197 : Con ((Arr 64)) ((Arr 64)):=⟨fun x=>[.agg (arC .u8 x)],fun _ y=>(.agg (arC .u32 y),[]),fun x=>ZbC x⟩
theorem i197 : K197.Inj:=by intro a b h; simpa [K197,Prod.ext_iff,and_assoc] using h
theorem ZqJ {a0 y} (h : ZbC a0 = some y) : K197.G (K197.E a0) = some (K197.R a0 y):=i197.eq h
noncomputable abbrev K155 : Con ((Arr 8)×(Arr 64)) ((Arr 8)):=⟨fun x=>[.agg (arC .u32 x.1),.agg (arC .u8 x.2)],fun _ y=>(.agg (arC .u32 y),[]),fun x=>ZbD x.1 x.2⟩
theorem i155 : K155.Inj:=by intro a b h; simpa [K155,Prod.ext_iff,and_assoc] using h
theorem ZqK {a0 a1 y} (h : ZbD a0 a1 = some y) : K155.G (K155.E (a0,a1)) = some (K155.R (a0,a1) y):=i155.eq h
noncomputable abbrev K105 : Con ((List Int)) ((Arr 32)):=⟨fun x=>[.one (.slice .no (Ze .u8 x))],fun _ y=>(.agg (arC .u8 y),[]),fun x=>ZdW x⟩
theorem i105 : K105.Inj:=by intro a b h; simpa [K105,Prod.ext_iff,and_assoc] using h
theorem Zma {a0 y} (h : ZdW a0 = some y) : K105.G (K105.E a0) = some (K105.R a0 y):=i105.eq h
noncomputable abbrev K65 : Con ((List Int)) ((Arr 32)):=⟨fun x=>[.one (.slice .no (Ze .u8 x))],fun _ y=>(.agg (arC .u8 y),[]),fun x=>ZcC x⟩
theorem i65 : K65.Inj:=by intro a b h; simpa [K65,Prod.ext_iff,and_assoc] using h
theorem ZrQ {a0 y} (h : ZcC a0 = some y) : K65.G (K65.E a0) = some (K65.R a0 y):=i65.eq h
noncomputable abbrev K97 : Con ((List Int)×(List Int)) ((List Int)):=⟨fun x=>[.one (.slice .no (Ze .u8 x.1)),.one (.slice .no (Ze .u8 x.2))],fun _ y=>(.one (.own 1 (Ze .u8 y)),[]),fun x=>ZaX x.1 x.2⟩
theorem i97 : K97.Inj:=by intro a b h; simpa [K97,Prod.ext_iff,and_assoc] using h
theorem Zoo {a0 a1 y} (h : ZaX a0 a1 = some y) : K97.G (K97.E (a0,a1)) = some (K97.R (a0,a1) y):=i97.eq h
noncomputable abbrev K119 : Con (Int×Int) ((List Int)):=⟨fun x=>[.one (.v (.int .u64 x.1)),.one (.v (.int .i64 x.2))],fun _ y=>(.one (.own 1 (Ze .u8 y)),[]),fun x=>ZaY x.1 x.2⟩
theorem i119 : K119.Inj:=by intro a b h; simpa [K119,Prod.ext_iff,and_assoc] using h
theorem ZqL {a0 a1 y} (h : ZaY a0 a1 = some y) : K119.G (K119.E (a0,a1)) = some (K119.R (a0,a1) y):=i119.eq h
noncomputable abbrev K80 : Con ((List Int)×Int) ((List Int)):=⟨fun x=>[.one (.slice .no (Ze .u8 x.1)),.one (.v (.int .u32 x.2))],fun _ y=>(.one (.own 1 (Ze .u8 y)),[]),fun x=>Xg x.1 x.2⟩
theorem i80 : K80.Inj:=by intro a b h; simpa [K80,Prod.ext_iff,and_assoc] using h
theorem Zja {a0 a1 y} (h : Xg a0 a1 = some y) : K80.G (K80.E (a0,a1)) = some (K80.R (a0,a1) y):=i80.eq h
noncomputable abbrev K81 : Con ((List Int)×(Arr 32)) ((List Int)):=⟨fun x=>[.one (.slice .no (Ze .u8 x.1)),.agg (arC .u8 x.2)],fun _ y=>(.one (.own 1 (Ze .u8 y)),[]),fun x=>Xu x.1 x.2⟩
theorem i81 : K81.Inj:=by intro a b h; simpa [K81,Prod.ext_iff,and_assoc] using h
theorem Zop {a0 a1 y} (h : Xu a0 a1 = some y) : K81.G (K81.E (a0,a1)) = some (K81.R (a0,a1) y):=i81.eq h
noncomputable abbrev K67 : Con Tapi_Header ((List Int)):=⟨fun x=>[.agg ((.v (.int .u32 x.1)) :: ((arC .u8 x.2.1)++((arC .u8 x.2.2.1)++((.v (.int .u32 x.2.2.2.1)) :: ((.v (.int .u32 x.2.2.2.2.1)) :: ((.v (.int .u32 x.2.2.2.2.2)) :: []))))))],fun _ y=>(.one (.own 1 (Ze .u8 y)),[]),fun x=>X2 x⟩
theorem i67 : K67.Inj:=by intro a b h; simpa [K67,Prod.ext_iff,and_assoc] using h
theorem ZrR {a0 y} (h : X2 a0 = some y) : K67.G (K67.E a0) = some (K67.R a0 y):=i67.eq h
noncomputable abbrev K37 : Con Tapi_Header ((Arr 32)):=⟨fun x=>[.agg ((.v (.int .u32 x.1)) :: ((arC .u8 x.2.1)++((arC .u8 x.2.2.1)++((.v (.int .u32 x.2.2.2.1)) :: ((.v (.int .u32 x.2.2.2.2.1)) :: ((.v (.int .u32 x.2.2.2.2.2)) :: []))))))],fun _ y=>(.agg (arC .u8 y),[]),fun x=>ZbZ x⟩
theorem i37 : K37.Inj:=by intro a b h; simpa [K37,Prod.ext_iff,and_assoc] using h
theorem G37_eq {a0 y} (h : ZbZ a0 = some y) : K37.G (K37.E a0) = some (K37.R a0 y):=i37.eq h
def E42 (x : (List Int)) : List PV:=[.one (.slice .no (Ze .u8 x))]
theorem E42i : ∀ a b,E42 a = E42 b→a = b:=by
  rintro a0 b0 h
  simpa [E42,and_assoc] using h
def R42 (x : (List Int)) (y : (List Int)) : PV×List (List Cell):=(.one (.own 1 (Ze .u8 y)),[])
noncomputable def G42:=XG E42 fun x=>(Xa x).map (R42 x)
theorem G42_eq {a0 : (List Int)} {y : (List Int)} (h : Xa a0 = some y) : G42 (E42 a0) = some (R42 a0 y):=Xh E42i h
noncomputable abbrev K191 : Con ((Arr 4)×Int) Bool:=⟨fun x=>[.agg (arC .u64 x.1),.one (.v (.int .i64 x.2))],fun _ y=>(.one (.v (.bool y)),[]),fun x=>Zcm x.1 x.2⟩
theorem i191 : K191.Inj:=by intro a b h; simpa [K191,Prod.ext_iff,and_assoc] using h
theorem Zmb {a0 a1 y} (h : Zcm a0 a1 = some y) : K191.G (K191.E (a0,a1)) = some (K191.R (a0,a1) y):=i191.eq h
noncomputable abbrev K143 : Con ((Arr 4)×Int) ((Arr 4)):=⟨fun x=>[.agg (arC .u64 x.1),.one (.v (.int .i64 x.2))],fun _ y=>(.agg (arC .u64 y),[]),fun x=>Zcn x.1 x.2⟩
theorem i143 : K143.Inj:=by intro a b h; simpa [K143,Prod.ext_iff,and_assoc] using h
theorem ZqM {a0 a1 y} (h : Zcn a0 a1 = some y) : K143.G (K143.E (a0,a1)) = some (K143.R (a0,a1) y):=i143.eq h
noncomputable abbrev K192 : Con ((Arr 4)) Bool:=⟨fun x=>[.agg (arC .u64 x)],fun _ y=>(.one (.v (.bool y)),[]),fun x=>Zb0 x⟩
theorem i192 : K192.Inj:=by intro a b h; simpa [K192,Prod.ext_iff,and_assoc] using h
theorem Zmc {a0 y} (h : Zb0 a0 = some y) : K192.G (K192.E a0) = some (K192.R a0 y):=i192.eq h
noncomputable abbrev K222 : Con Int ((Arr 4)):=⟨fun x=>[.one (.v (.int .u64 x))],fun _ y=>(.agg (arC .u64 y),[]),fun x=>ZaU x⟩
theorem i222 : K222.Inj:=by intro a b h; simpa [K222,Prod.ext_iff,and_assoc] using h
theorem ZqN {a0 y} (h : ZaU a0 = some y) : K222.G (K222.E a0) = some (K222.R a0 y):=i222.eq h
noncomputable abbrev K225 : Con ((Arr 4)) Int:=⟨fun x=>[.agg (arC .u64 x)],fun _ y=>(.one (.v (.int .i64 y)),[]),fun x=>Zdb x⟩
theorem i225 : K225.Inj:=by intro a b h; simpa [K225,Prod.ext_iff,and_assoc] using h
theorem ZqO {a0 y} (h : Zdb a0 = some y) : K225.G (K225.E a0) = some (K225.R a0 y):=i225.eq h
def Zjy (x : Int×Int×Int) : List PV:=[.one (.v (.int .u64 x.1)),.one (.v (.int .u64 x.2.1)),.one (.v (.int .u64 x.2.2))]
theorem E237i : ∀ a b,Zjy a = Zjy b→a = b:=by
  rintro ⟨a0,a1,a2⟩ ⟨b0,b1,b2⟩ h
  simpa [Zjy,and_assoc] using h
def Zm8 (x : Int×Int×Int) (y : Int×Int) : PV×List (List Cell):=(.tup [.one (.v (.int .u64 y.1)),.one (.v (.int .u64 y.2))],[])
noncomputable def G237:=XG Zjy fun x=>(Zay x.1 x.2.1 x.2.2).map (Zm8 x)
theorem ZqP {a0 : Int} {a1 : Int} {a2 : Int} {y : Int×Int} (h : Zay a0 a1 a2 = some y) : G237 (Zjy (a0,a1,a2)) = some (Zm8 (a0,a1,a2) y):=Xh E237i h
noncomputable abbrev K238 : Con ((Arr 4)×(Arr 4)) ((Arr 4)×Bool):=⟨fun x=>[.agg (arC .u64 x.1),.agg (arC .u64 x.2)],fun _ y=>(.tup [.agg (arC .u64 y.1),.one (.v (.bool y.2))],[]),fun x=>Zdc x.1 x.2⟩
theorem i238 : K238.Inj:=by intro a b h; simpa [K238,Prod.ext_iff,and_assoc] using h
theorem ZqQ {a0 a1 y} (h : Zdc a0 a1 = some y) : K238.G (K238.E (a0,a1)) = some (K238.R (a0,a1) y):=i238.eq h
noncomputable abbrev K226 : Con ((Arr 4)×Int) ((Arr 4)):=⟨fun x=>[.agg (arC .u64 x.1),.one (.v (.int .i64 x.2))],fun _ y=>(.agg (arC .u64 y),[]),fun x=>Zdd x.1 x.2⟩
theorem i226 : K226.Inj:=by intro a b h; simpa [K226,Prod.ext_iff,and_assoc] using h
theorem Zmd {a0 a1 y} (h : Zdd a0 a1 = some y) : K226.G (K226.E (a0,a1)) = some (K226.R (a0,a1) y):=i226.eq h
noncomputable abbrev K188 : Con Int ((Arr 4)×Int):=⟨fun x=>[.one (.v (.int .u32 x))],fun _ y=>(.tup [.agg (arC .u64 y.1),.one (.v (.int .i64 y.2))],[]),fun x=>ZbJ x⟩
theorem i188 : K188.Inj:=by intro a b h; simpa [K188,Prod.ext_iff,and_assoc] using h
theorem ZtZ {a0 y} (h : ZbJ a0 = some y) : K188.G (K188.E a0) = some (K188.R a0 y):=i188.eq h
noncomputable abbrev K189 : Con ((Arr 4)×(Arr 4)) Int:=⟨fun x=>[.agg (arC .u64 x.1),.agg (arC .u64 x.2)],fun _ y=>(.one (.v (.int .i64 y)),[]),fun x=>Zda x.1 x.2⟩
theorem i189 : K189.Inj:=by intro a b h; simpa [K189,Prod.ext_iff,and_assoc] using h
theorem Zt0 {a0 a1 y} (h : Zda a0 a1 = some y) : K189.G (K189.E (a0,a1)) = some (K189.R (a0,a1) y):=i189.eq h
noncomputable abbrev K190 : Con ((Arr 32)) ((Arr 4)):=⟨fun x=>[.agg (arC .u8 x)],fun _ y=>(.agg (arC .u64 y),[]),fun x=>Zaz x⟩
theorem i190 : K190.Inj:=by intro a b h; simpa [K190,Prod.ext_iff,and_assoc] using h
theorem Zt1 {a0 y} (h : Zaz a0 = some y) : K190.G (K190.E a0) = some (K190.R a0 y):=i190.eq h
end Go.Proofs.YthpkpciceodioaaGreatDoor
