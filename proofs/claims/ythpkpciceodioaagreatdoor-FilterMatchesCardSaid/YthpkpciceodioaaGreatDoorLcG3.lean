import Derived.Test.YthpkpciceodioaaGreatDoorLcG2
import Derived.Test.YthpkpciceodioaaGreatDoorLcG1
import Derived.IntWalk
section
namespace Go.Lc
open Go.RowKit
open Go.Av
set_option maxRecDepth 100000
set_option linter.unusedSimpArgs false
set_option linter.unusedVariables false
abbrev Tapi_Header:=Int×(Arr 32)×(Arr 32)×Int×Int×Int
noncomputable def Xd (a0 : (List Int)) : Option (List Int) :=
 (chk (a0.length≤140737488355328)).bind fun _=>some (a0)
noncomputable def Zab (a0 : Tapi_Header) : Option ((List Int)) :=
 (Xi ([] : (List Int)) a0.1).bind fun y1=>(Xy y1 a0.2.1).bind fun y2=>(Xy y2 a0.2.2.1).bind fun y3=>(Xi y3 a0.2.2.2.1).bind fun y4=>(Xi y4 a0.2.2.2.2.1).bind fun y5=>(Xi y5 a0.2.2.2.2.2).bind fun y6=>some (y6)
noncomputable def Ze4 (a0 : (Arr 32)) : Option ((Arr 2)) :=
 (ZaB ((a0.l).take 8)).bind fun y1=>(ZaB (((a0.l).drop 8).take 8)).bind fun y2=>some ((⟨[y1,y2],rfl⟩ : Arr 2))
noncomputable def Zch (a0 : Tapi_Header) : Option ((Arr 32)) :=
 (Zab a0).bind fun y1=>(Zbr y1).bind fun y2=>some (y2)
noncomputable def Zel (a1 : (Arr 32)) (a0 : Tapi_Filter) (p9 : (List (List Int))) : Option (Bool×Int) :=
 (Ze4 a1).bind fun y13=>(ZbU y13 a0 p9 10 1533).bind fun y14=>some ((y14.1,y14.2))
noncomputable def ZaL (p8 : Int) (p17 : (List (List Int))) : Option ((Int×(List (List Int))) ⊕ (Bool×Int)) :=
 some (.inl (IntKind.i64.wrap (p8 + 1),p17))
noncomputable def ZcI (a2 : (List (List Int))) (a1 : (Arr 32)) (a0 : Tapi_Filter) : (Int×(List (List Int)))→Option ((Int×(List (List Int))) ⊕ (Bool×Int))
 | (p8,p9)=>(if p8 < (a2.length : Int) then (idx (a2) (p8)).bind fun x15=>(if 0 < (x15.length : Int) then (chk (p9.length + 1≤5864062014805)).bind fun _=>ZaL p8 (p9++[x15]) else ZaL p8 p9) else (Zel a1 a0 p9).map Sum.inr)
noncomputable def ZbV (a0 : Tapi_Filter) (a1 : (Arr 32)) (a2 : (List (List Int))) : Option (Bool×Int) :=
 Zj (ZcI a2 a1 a0) (0,[])
noncomputable def Zci (a0 : (Arr 4)) : Option (Bool) :=
 some (decide (a0 = zA 4))
noncomputable def Lref02_Len_k1 : Option Int :=
 some (0)
noncomputable def Zd4 (a0 : (Arr 4)) : Int→Option ((Int) ⊕ (Int))
 | p4=>(if 0≤p4 then (ZcG a0 p4).bind fun y6=>(if y6 = true then some (.inr (IntKind.i64.wrap (p4 + 1))) else some (.inl (IntKind.i64.wrap (p4 - 1)))) else (Lref02_Len_k1).map Sum.inr)
noncomputable def Zdz (a0 : (Arr 4)) : Option (Int) :=
 Zj (Zd4 a0) 255
noncomputable def ZaM (a0 : Int) (a1 : Int) (a2 : Int) : Option (Int×Int) :=
 (chk ((0≤a0∧0≤a1)∧(a1≤18446744073709551615∧0≤a2)∧a2≤1)).bind fun _=>some ((a0 + a1 + a2) % 18446744073709551616,(a0 + a1 + a2) / 18446744073709551616)
noncomputable def Zd5 (p9 : (Arr 4)) (p7 : Int) : Option ((Arr 4)×Bool) :=
 some ((p9,decide (p7 = 1)))
noncomputable def Zd6 (a0 : (Arr 4)) (a1 : (Arr 4)) : (Int×Int×(Arr 4))→Option ((Int×Int×(Arr 4)) ⊕ ((Arr 4)×Bool))
 | (p7,p8,p9)=>(if p8 < 4 then (inA (4) (p8)).bind fun j12=>(ZaM (a0.at j12) (a1.at j12) p7).bind fun y13=>some (.inl (y13.2,IntKind.i64.wrap (p8 + 1),p9.put j12 y13.1)) else (Zd5 p9 p7).map Sum.inr)
noncomputable def ZdA (a0 : (Arr 4)) (a1 : (Arr 4)) : Option ((Arr 4)×Bool) :=
 Zj (Zd6 a0 a1) (0,0,zA 4)
noncomputable def Zd7 (p6 : (Arr 4)) : Option (Arr 4) :=
 some (p6)
noncomputable def Lref02_Shl_s1 : (Int×(Arr 4))→Option ((Int×(Arr 4)) ⊕ ((Arr 4)))
 | (p5,p6)=>(if 0 < p5 then (ZdA p6 p6).bind fun y8=>some (.inl (IntKind.i64.wrap (p5 - 1),y8.1)) else (Zd7 p6).map Sum.inr)
noncomputable def ZdB (a0 : (Arr 4)) (a1 : Int) : Option ((Arr 4)) :=
 (if 256≤a1 then some (zA 4) else Zj (Lref02_Shl_s1) (a1,a0))
noncomputable def Zal (p7 : (Arr 4)) : Option ((Arr 4)×Int) :=
 (Zci p7).bind fun y8=>(if y8 = true then some ((zA 4,120)) else some ((p7,0)))
noncomputable def ZbW (a0 : Int) : Option ((Arr 4)×Int) :=
 (Za5 (IntKind.u64.wrap (bits .and .u32 a0 16777215))).bind fun y1=>(if ¬ (bits .and .u32 a0 8388608 = 0) then some ((zA 4,120)) else (if IntKind.i64.wrap ((a0).fdiv 16777216) < 3 then (ZcH y1 (IntKind.i64.wrap (8 * (IntKind.i64.wrap (3 - (IntKind.i64.wrap ((a0).fdiv 16777216))))))).bind fun y9=>Zal y9 else (Zci y1).bind fun y10=>((if ¬ (y10 = true) then (Zdz y1).bind fun y11=>some (decide (256 < IntKind.i64.wrap (y11 + (IntKind.i64.wrap (8 * (IntKind.i64.wrap ((IntKind.i64.wrap ((a0).fdiv 16777216)) - 3))))))) else some (false))).bind fun z12=>(if (¬ (y10 = true)∧z12 = true) then some ((zA 4,120)) else (ZdB y1 (IntKind.i64.wrap (8 * (IntKind.i64.wrap ((IntKind.i64.wrap ((a0).fdiv 16777216)) - 3))))).bind fun y13=>Zal y13)))
noncomputable def Zcj (p11 : (List Int)) : Option (List Int) :=
 some (p11)
noncomputable def YZ (a0 : Tapi_Header) : (Int×(List Int))→Option ((Int×(List Int)) ⊕ ((List Int)))
 | (p10,p11)=>(if p10 < (3 : Int) then (inA (3) (p10)).bind fun j15=>(([a0.2.2.2.1,a0.2.2.2.2.1,a0.2.2.2.2.2])[j15]?).bind fun x16=>(Zah p11 x16).bind fun y17=>some (.inl (IntKind.i64.wrap (p10 + 1),y17)) else (Zcj p11).map Sum.inr)
noncomputable def Zac (a0 : Tapi_Header) : Option ((List Int)) :=
 (Zah ([] : (List Int)) a0.1).bind fun y1=>(X6 y1 a0.2.1).bind fun y2=>(X6 y2 a0.2.2.1).bind fun y3=>Zj (YZ a0) (0,y3)
noncomputable def Zck (a0 : Tapi_Header) : Option ((Arr 32)) :=
 (Zac a0).bind fun y1=>(XY y1).bind fun y2=>some (y2)
noncomputable def ZbO (p9 : (Arr 4)) : Option (Arr 4) :=
 some (p9)
noncomputable def ZbP (a0 : (Arr 32)) : (Int×(Arr 4))→Option ((Int×(Arr 4)) ⊕ ((Arr 4)))
 | (p8,p9)=>(if p8 < 32 then (inA (4) (IntKind.i64.wrap ((IntKind.i64.wrap (31 - p8)).tdiv 8))).bind fun j13=>(inA (32) (p8)).bind fun j14=>(chk (¬ (IntKind.i64.wrap (8 * ((IntKind.i64.wrap (31 - p8)).tmod 8)) < 0))).bind fun _=>some (.inl (IntKind.i64.wrap (p8 + 1),p9.put j13 (bits .or .u64 (p9.at j13) (IntKind.u64.wrap ((IntKind.u64.wrap (a0.at j14)) * (2 ^ (min (IntKind.i64.wrap (8 * ((IntKind.i64.wrap (31 - p8)).tmod 8))).toNat 64))))))) else (ZbO p9).map Sum.inr)
noncomputable def ZaN (a0 : (Arr 32)) : Option ((Arr 4)) :=
 Zj (ZbP a0) (0,zA 4)
noncomputable def ZdC (a0 : (Arr 32)) : Option ((Arr 2)) :=
 (Zbs ((a0.l).take 8)).bind fun y1=>(Zbs (((a0.l).drop 8).take 8)).bind fun y2=>some ((⟨[y1,y2],rfl⟩ : Arr 2))
noncomputable def ZeM (a1 : (Arr 32)) (a0 : Tapi_Filter) (p9 : (List (List Int))) : Option (Bool×Int) :=
 (ZdC a1).bind fun y13=>(Zct y13 a0 p9 10 1533).bind fun y14=>some ((y14.1,y14.2))
noncomputable def Za6 (p8 : Int) (p17 : (List (List Int))) : Option ((Int×(List (List Int))) ⊕ (Bool×Int)) :=
 some (.inl (IntKind.i64.wrap (p8 + 1),p17))
noncomputable def Zc6 (a2 : (List (List Int))) (a1 : (Arr 32)) (a0 : Tapi_Filter) : (Int×(List (List Int)))→Option ((Int×(List (List Int))) ⊕ (Bool×Int))
 | (p8,p9)=>(if p8 < (a2.length : Int) then (idx (a2) (p8)).bind fun x15=>(if 0 < (x15.length : Int) then (chk (p9.length + 1≤5864062014805)).bind fun _=>Za6 p8 (p9++[x15]) else Za6 p8 p9) else (ZeM a1 a0 p9).map Sum.inr)
noncomputable def Zcu (a0 : Tapi_Filter) (a1 : (Arr 32)) (a2 : (List (List Int))) : Option (Bool×Int) :=
 Zj (Zc6 a2 a1 a0) (0,[])
end Go.Lc
end
section
namespace Go.Lc
open Go.RowKit
open Go.Av
set_option maxRecDepth 100000
set_option linter.unusedSimpArgs false
set_option linter.unusedVariables false
noncomputable def Lconst_true : Option Bool :=
 some true
noncomputable def Xk (a0 : Tapi_Filter) (a1 : (Arr 32)) (a2 : (List (List Int))) : Option (Bool) :=
 (Lconst_true).bind fun y1=>(if ¬ (y1 = true) then some (false) else ((if 400 < (a0.2.length : Int) then some (false) else (ZcW a2 30 100).bind fun y2=>some (!(y2)))).bind fun z3=>(if (400 < (a0.2.length : Int)∨z3 = true) then some (true) else (ZbV a0 a1 a2).bind fun y4=>(Zcu a0 a1 a2).bind fun y5=>some (((y4.1 == y5.1) && decide (y4.2 = y5.2)))))
end Go.Lc
end
section
namespace Go.Av
open Go.RowKit
set_option linter.unusedVariables false
theorem bA {β : Type} {n : Nat} {i : Int} {f : Nat→Option β} {y : β} (h : (inA n i).bind f = some y) : ∃ j,(0≤i∧i.toNat = j∧j < n)∧f j = some y :=
 let ⟨j,h1,h2⟩:=bs h
 ⟨j,Zp h1,h2⟩
theorem bI {α β : Type} {l : List α} {i : Int} {f : α→Option β} {y : β} (h : (idx l i).bind f = some y) : ∃ x,(0≤i∧l[i.toNat]? = some x∧∀ h' : i.toNat < l.length,l[i.toNat] = x)∧f x = some y :=
 let ⟨x,h1,h2⟩:=bs h
 ⟨x,⟨(Zi6 h1).1,(Zi6 h1).2,Zl (Zi6 h1).2⟩,h2⟩
theorem bC {β : Type} {p : Prop} [Decidable p] {f : Unit→Option β} {y : β} (h : (chk p).bind f = some y) : p∧f () = some y :=
 let ⟨_,h1,h2⟩:=bs h
 ⟨ZC h1,h2⟩
theorem bG {α β : Type} {o : Option α} {f : α→Option β} {y : β} {P : α→Prop} (h : o.bind f = some y) (k : ∀ x,o = some x→P x) : ∃ x,P x∧f x = some y :=
 let ⟨x,h1,h2⟩:=bs h
 ⟨x,k x h1,h2⟩
theorem eqT (p : Prop) : (p = True)∨¬ p:=(Classical.em p).imp eq_true id
theorem ifP {α : Type} {c : Prop} [Decidable c] {a b r : α} (h : (if c then a else b) = r) (hc : c:=by simp [-Int.ofNat_toNat, *]) : a = r:=by rwa [if_pos hc] at h
theorem ZgJ {α β : Type} {c : Prop} [Decidable c] {a b : Option α} {f : α→Option β} {r : Option β} (h : (if c then a else b).bind f = r) (hc : c:=by simp [-Int.ofNat_toNat, *]) : a.bind f = r:=by rwa [if_pos hc] at h
theorem ZgK {α β : Type} {c : Prop} [Decidable c] {a b : Option α} {f : α→Option β} {r : Option β} (h : (if c then a else b).bind f = r) (hc : ¬ c:=by simp [-Int.ofNat_toNat, *]) : b.bind f = r:=by rwa [if_neg hc] at h
theorem ifN {α : Type} {c : Prop} [Decidable c] {a b r : α} (h : (if c then a else b) = r) (hc : ¬ c:=by simp [-Int.ofNat_toNat, *]) : b = r:=by rwa [if_neg hc] at h
attribute [simp] YJ YR Xf
structure Con (α β : Type) where
 E : α→List PV
 R : α→β→PV×List (List Cell)
 g : α→Option β
section
variable {α β : Type} {K : Con α β}
noncomputable def Con.G (K : Con α β) : List PV→Option (PV×List (List Cell)):=XK K.E fun x=>(K.g x).map (K.R x)
def Con.Inj (K : Con α β) : Prop:=∀ a b,K.E a = K.E b→a = b
theorem Con.Inj.eq (hi : K.Inj) {x : α} {y : β} (h : K.g x = some y) : K.G (K.E x) = some (K.R x y):=Xj hi h
theorem Con.none {ps : List PV} (h : ∀ a,K.E a = ps→False) : K.G ps = none:=Zoh h
def Zs (T : Tab) : List (Nat×(List PV→Option (PV×List (List Cell))))→Prop
 | []=>True
 | (g,F) :: l=>T g = some F∧Zs T l
theorem Znv {l m : List (Nat×(List PV→Option (PV×List (List Cell))))} {own : Nat→List (List Nat)} (h : ∀ p∈m,(tab l own).fn p.1 = some p.2) : Zs (tab l own) m:=by
 induction m with
 | nil=>trivial
 | cons p m ih=>exact ⟨h p (by simp),ih fun q hq=>h q (by simp [hq])⟩
def Walk (tt : TT) (G : Glob) (l : List (Nat×(List PV→Option (PV×List (List Cell))))) (own : Nat→List (List Nat)) (fn : Func) (K : Con α β) : Prop :=
 ∀ T : Tab,T.own = own→Zs T l→∀ x y,K.g x = some y→∃ kp fl n,Zi tt T G kp fl n fn (K.E x) = some (K.R x y)
def kpL : List (Nat×Kp)→Keep
 | [],_=>⟨[],[],[]⟩
 | (j,q) :: l,i=>if i = j then q else kpL l i
theorem Walk.of {tt : TT} {G : Glob} {l : List (Nat×(List PV→Option (PV×List (List Cell))))} {own : Nat→List (List Nat)} {fn : Func} {c : Code} {n : Nat} (kl : List (Nat×Kp)) (w : Bool) (hb : fn.body = some c) (hn : fn.ntmps = n)
  (h : ∀ T : Tab,T.own = own→Zs T l→∀ x y,K.g x = some y→Ziu (K.E x) = true∧ZY tt T G (kpL kl) c ⟨(ioIn 0 0 (K.E x)).1++List.replicate (n - (K.E x).length) .skip,Zhe (K.E x)⟩ (Zat tt w fn (K.E x) (K.R x y))) : Walk tt G l own fn K :=
 fun T h1 h2 x y h3=>fnE (kp:=kpL kl) (w:=w) hb (h T h1 h2 x y h3).1 (by rw [hn]; exact (h T h1 h2 x y h3).2)
def distinctF : List (Nat×(List PV→Option (PV×List (List Cell))))→Bool
 | []=>true
 | (g,_) :: l=>l.all (fun q=>!(q.1 == g)) && distinctF l
theorem ZjB {own : Nat→List (List Nat)} : ∀ {l : List (Nat×(List PV→Option (PV×List (List Cell))))},distinctF l = true→∀ p∈l,tabF l p.1 = some p.2
 | [],_,p,hp=>by simp at hp
 | (g,F) :: l,h,p,hp=>by
  simp only [distinctF,Bool.and_eq_true,List.all_eq_true] at h;simp only [tabF];rcases List.mem_cons.1 hp with rfl | hp
  ·simp
  ·have:=h.1 p hp
   rw [if_neg (by simpa using this)];exact ZjB (own:=own) h.2 p hp
theorem mkW {P : Program} {tt : TT} {G : Glob} {l : List (Nat×(List PV→Option (PV×List (List Cell))))} {own : Nat→List (List Nat)} (hm : P.follows .mixedOrders = true) (htt : ∀ t i,tt t = some i→Yt P t = some i)
  {f : FuncId} {fn : Func} {c : Code} (w : Walk tt G l own fn K) (hT : Znp P G l) (hf : P.funcs[f]? = some fn) (hb : fn.body = some c) (hname : (!(fn.name == "runtime.NumGoroutine") && distinctF l) = true) : Zh P G f K.G:=by
 simp only [Bool.and_eq_true,Bool.not_eq_true'] at hname;exact mkI (T:=tab l own) hm htt (tab_ok hT) hf hb hname.1 fun x y hy=>w _ rfl (Znv (ZjB (own:=own) hname.2)) x y hy
end
attribute [simp] kpL
section
variable {tt : TT} {T : Tab} {G : Glob} {kp : Keep} {st st0 st1 : ASt} {a b c d : Code} {Q Q' : AE→ASt→Prop} {P R H : Prop}
def Imp (R P : Prop) : Prop:=R→P
structure ZiC (X R : Prop) : Prop where
 h : X = R
theorem Imp.of (e : ZiC P R) : Imp P R:=fun p=>e.h ▸ p
theorem ZeN {id : Nat} {ops : Array Oper} (hc : c = .region id ops false) (h : Zft tt T G ops.toList ops.toList st = some st1) (hq : Imp R (ZY tt T G kp b st1 Q)) (hj : (kp (id + 1000000)).ks.isEmpty = true:=by rfl) : Imp R (ZY tt T G kp (.seq c b) st Q):=fun r=>Zd hc h (hq r) hj
theorem ZdQ {id : Nat} {ops : Array Oper} {fs : List Foot} (hc : c = .region id ops true) (h : Zfu tt T G ops.toList ops.toList st = some (st1,fs)) (hd : Zc8 ops.toList fs = true) (hq : Imp R (ZY tt T G kp b st1 Q)) (hj : (kp (id + 1000000)).ks.isEmpty = true:=by rfl) : Imp R (ZY tt T G kp (.seq c b) st Q):=fun r=>Z1 hc h hd (hq r) hj
theorem Zie {id : Nat} {ops : Array Oper} (hc : c = .region id ops false) (h : Zft tt T G ops.toList ops.toList st = some st1) (hq : Imp R (Q .normal st1)) (hj : (kp (id + 1000000)).ks.isEmpty = true:=by rfl) : Imp R (ZY tt T G kp c st Q):=fun r=>Y7 hc h (hq r) hj
theorem Zg4 {id : Nat} {ops : Array Oper} {fs : List Foot} (hc : c = .region id ops true) (h : Zfu tt T G ops.toList ops.toList st = some (st1,fs)) (hd : Zc8 ops.toList fs = true) (hq : Imp R (Q .normal st1)) (hj : (kp (id + 1000000)).ks.isEmpty = true:=by rfl) : Imp R (ZY tt T G kp c st Q):=fun r=>Zf6 hc h hd (hq r) hj
theorem Zgo (h : Imp R (ZY tt T G kp (.seq a (.seq b d)) st Q)) : Imp R (ZY tt T G kp (.seq (.seq a b) d) st Q):=fun r=>ZA (h r)
theorem Zg5 (h : Imp R (Q .normal st)) : Imp R (ZY tt T G kp .skip st Q):=fun r=>Zg1 (h r)
theorem Zif (h : Imp R (Q .ret st)) : Imp R (ZY tt T G kp .ret st Q):=fun r=>ZbB (h r)
theorem Zg6 {id : Nat} (h : Imp R (Q (.exit id) st)) : Imp R (ZY tt T G kp (.exit id) st Q):=fun r=>Zml (h r)
theorem ZdR (h : Imp R (ZY tt T G kp b st Q)) : Imp R (ZY tt T G kp (.seq .skip b) st Q):=fun r=>ZB (h r)
theorem ZeO (h : Imp R (Q .ret st)) : Imp R (ZY tt T G kp (.seq .ret b) st Q):=fun r=>ZaR (h r)
theorem ZdS {id : Nat} (h : Imp R (Q (.exit id) st)) : Imp R (ZY tt T G kp (.seq (.exit id) b) st Q):=fun r=>Z2 (h r)
theorem Zgp {id : Nat} (h : Imp R (ZY tt T G kp c st (Zf1 id Q))) : Imp R (ZY tt T G kp (.block id c) st Q):=fun r=>XL (h r)
theorem Zdg {id : Nat} (h : Imp R (ZY tt T G kp c st (Zf1 id (ZeH (fun s=>ZY tt T G kp d s Q) Q)))) : Imp R (ZY tt T G kp (.seq (.block id c) d) st Q):=fun r=>Yf (h r)
theorem Zgq {x : Operand} (h : rd G st.get x = some (bV true)) (h1 : Imp R (ZY tt T G kp a st Q)) : Imp R (ZY tt T G kp (.cond x a b) st Q):=fun r=>ZbC h (h1 r)
theorem Zgr {x : Operand} (h : rd G st.get x = some (bV false)) (h1 : Imp R (ZY tt T G kp b st Q)) : Imp R (ZY tt T G kp (.cond x a b) st Q):=fun r=>ZbD h (h1 r)
theorem Zdh {x : Operand} (h : rd G st.get x = some (bV true)) (h1 : Imp R (ZY tt T G kp (.seq a d) st Q)) : Imp R (ZY tt T G kp (.seq (.cond x a b) d) st Q):=fun r=>ZD h (h1 r)
theorem Zdi {x : Operand} (h : rd G st.get x = some (bV false)) (h1 : Imp R (ZY tt T G kp (.seq b d) st Q)) : Imp R (ZY tt T G kp (.seq (.cond x a b) d) st Q):=fun r=>Zn h (h1 r)
theorem ZjC (h : Imp R P) (e : H = P) : Imp R H:=fun r=>e ▸ h r
theorem go (k : R) (h : ∀ X : Prop,ZiC X R→Imp X P:=by
 intro X e
 repeat (first
  | (with_reducible refine Zgo ?_)
  | (with_reducible refine ZdR ?_)
  | (with_reducible refine Zdg ?_)
  | (with_reducible refine ZdS ?_)
  | (with_reducible refine ZeO ?_)
  | (with_reducible refine Zgp ?_)
  | (with_reducible refine Zg5 ?_)
  | (with_reducible refine Zg6 ?_)
  | (with_reducible refine Zif ?_)
  | (with_reducible refine Zdh ?_ ?_; · simp [-Int.ofNat_toNat,bV, *]; done)
  | (with_reducible refine Zdi ?_ ?_; · simp [-Int.ofNat_toNat,bV, *]; done)
  | (refine ZeN rfl (by first | (simp [-Int.ofNat_toNat, *] <;> rfl) | fail) ?_)
  | (refine ZdQ rfl (by simp [-Int.ofNat_toNat, *]; first | exact ⟨rfl,rfl⟩ | rfl) (by kernel_rfl) ?_)
  | (with_reducible refine Zgq ?_ ?_; · simp [-Int.ofNat_toNat,bV, *]; done)
  | (with_reducible refine Zgr ?_ ?_; · simp [-Int.ofNat_toNat,bV, *]; done)
  | (refine Zie rfl (by first | (simp [-Int.ofNat_toNat, *] <;> rfl) | fail) ?_)
  | (refine Zg4 rfl (by simp [-Int.ofNat_toNat, *]; first | exact ⟨rfl,rfl⟩ | rfl) (by kernel_rfl) ?_)
  | (refine ZjC ?_ (by simp only [pq,reduceCtorEq]; rfl)))
 exact Imp.of e) : P:=h R ⟨rfl⟩ k
theorem nrm {p q : Prop} (c : p) (h : p→q:=by
 intro h;try simp [-Int.ofNat_toNat] at h
 first | exact (eq_true h : (_ = _) = True) | exact h) : q:=h c
theorem nst (k : R) (h : P = R:=by simp only [und,List.replicate,List.cons_append,List.nil_append]; rfl) : P:=h ▸ k
theorem fin (h : H) (k : H→P:=by
 intro h;obtain rfl:=Option.some.inj h
 repeat (simp only [pq,reduceCtorEq]; rintro rfl)
 simp [-Int.ofNat_toNat,Zat, *]) : P:=k h
theorem bk (h : H) (k : H→P:=by
 intro h;obtain rfl:=Option.some.inj h
 repeat (simp only [pq,reduceCtorEq]; rintro rfl)
 simp only [pq,reduceCtorEq]
 simp [-Int.ofNat_toNat,und,List.replicate,Nat.add_assoc, *]) : P:=k h
theorem lp {σ ρ : Type} {step : σ→Option (σ ⊕ ρ)} (n : Nat) (H : σ→ASt) {s : σ} {r : ρ}
  (hr : Zj step s = some r)
  (hb : ∀ s x,step s = some x→ZY tt T G kp c (H s) (QL (kp n) H Q r x)) (hn : firstId c = n:=by kernel_rfl) (hf : Zbj (kp n) st = H s:=by simp [-Int.ofNat_toNat,und,List.replicate, *]) : ZY tt T G kp (.loop c) st Q :=
 XF (by rw [hn]) hr hf hb
theorem ua (h : ZY tt T G kp (.seq (.seq a b) d) st Q) : ZY tt T G kp (.seq a (.seq b d)) st Q:=by
 obtain ⟨n0,e,s,h1,h2⟩:=h;refine ⟨n0,e,s,fun n hn=>?_,h2⟩;rw [← h1 n hn];simp only [Y0];cases Y0 tt T G kp n a st with
 | none=>rfl
 | some x=>obtain ⟨e,s⟩:=x; cases e <;> rfl
theorem jn {H : ASt} (key : Nat) (h0 : ZY tt T G kp d H Q) (h : ZY tt T G kp d H Q→ZY tt T G kp c H Q:=by first | exact id | exact ua | exact fun h=>ua (ua h)) (hc : firstJ c = some key:=by rfl) (ha : (kp key).ks.isEmpty = false:=by rfl) (hf : Zbj (kp key) st = Zbj (kp key) H:=by simp [-Int.ofNat_toNat,und,List.replicate, *]) : ZY tt T G kp c st Q :=
 Xb hc rfl ha hf (h h0)
end
abbrev kk (fn : Func) (F : (Nat→Code)→Code) : Code:=F (reg fn)
abbrev co (n : Nat) (a b : Code) : Code:=.cond (.tmp n) a b
abbrev rt : Code:=.ret
end Go.Av
end
section
namespace Go.Lc
open Go.RowKit
open Go.Av
set_option linter.unusedVariables false
theorem ZI {σ ρ : Type} {step : σ→Option (σ ⊕ ρ)} {s s' : σ} (h : step s = some (.inl s')) : Zj step s = Zj step s' := by rw [Zhy,h]
theorem Yo {σ ρ : Type} {step : σ→Option (σ ⊕ ρ)} {s : σ} {x : Option ρ} (h : step s = x.map .inr) : Zj step s = x:=by
 rw [Zhy,h];cases x <;> rfl
theorem Yh {σ ρ : Type} {step : σ→Option (σ ⊕ ρ)} {s : σ} {r : ρ} (h : step s = some (.inr r)) : Zj step s = some r:=by rw [Zhy,h]
theorem Xh {σ ρ : Type} {step : σ→Option (σ ⊕ ρ)} (enc : Nat→σ) (n : Nat) {x : Option ρ} (h : ∀ i,i < n→step (enc i) = some (.inl (enc (i + 1)))) (he : step (enc n) = x.map .inr) : Zj step (enc 0) = x:=by
 have key : ∀ k,k≤n→Zj step (enc (n - k)) = x:=by
  intro k;induction k with
  | zero=>intro _; exact Yo he
  | succ k ih =>
   intro hk;rw [ZI (h (n - (k + 1)) (by omega)),show n - (k + 1) + 1 = n - k by omega];exact ih (by omega)
 have:=key n (Nat.le_refl _)
 rwa [Nat.sub_self] at this
theorem Xl {σ ρ : Type} {step : σ→Option (σ ⊕ ρ)} (I : Nat→σ→Prop) (Q : ρ→Prop) (h : ∀ i s,I i s→(∃ j s',j < i∧step s = some (.inl s')∧I j s')∨∃ r,step s = some (.inr r)∧Q r) : ∀ (n : Nat) (s : σ),I n s→∃ r,Zj step s = some r∧Q r:=by
 intro n;induction n using Nat.strongRecOn with
 | _ n ih =>
  intro s hs;rcases h n s hs with ⟨j,s',hj,h1,h2⟩ | ⟨r,h1,h2⟩
  ·obtain ⟨r,h3,h4⟩:=ih j hj s' h2
   exact ⟨r,(ZI h1).trans h3,h4⟩
  ·exact ⟨r,Yh h1,h2⟩
def Tot {α : Type} (x : Option α) (Q : α→Prop) : Prop:=∃ a,x = some a∧Q a
section
variable {α β : Type} {x : Option α} {f : α→Option β} {P : α→Prop} {Q : β→Prop}
theorem Tot.bind (h : Tot x P) (k : ∀ a,P a→Tot (f a) Q) : Tot (x.bind f) Q:=by
 obtain ⟨a,rfl,ha⟩:=h;exact k a ha
theorem Tot.mono {P' : α→Prop} (h : Tot x P) (k : ∀ a,P a→P' a) : Tot x P' := by
 obtain ⟨a,h1,ha⟩:=h;exact ⟨a,h1,k a ha⟩
theorem Zem {a : α} (h : P a) : Tot (some a) P:=⟨a,rfl,h⟩
theorem Zg7 {c : Prop} [Decidable c] {a b : Option α} (h1 : c→Tot a P) (h2 : ¬ c→Tot b P) : Tot (if c then a else b) P:=by
 by_cases h : c
 ·rw [if_pos h]; exact h1 h
 ·rw [if_neg h]; exact h2 h
theorem Tot.inr {ρ σ : Type} {x : Option ρ} {Q : ρ→Prop} (h : Tot x Q) : ∃ r,(x.map Sum.inr : Option (σ ⊕ ρ)) = some (.inr r)∧Q r:=by
 obtain ⟨a,rfl,ha⟩:=h;exact ⟨a,rfl,ha⟩
end
theorem Zf {α β : Type} (a : α) (f : α→Option β) : (some a).bind f = f a:=rfl
theorem Zk {p : Prop} [Decidable p] {α : Type} {f : Unit→Option α} (h : p) : (chk p).bind f = f ():=by rw [Zmm h]; rfl
theorem Zqz {α : Type} {l : List α} {i : Nat} (h : i < l.length) : idx l (i : Int) = some l[i]:=by simp [idx,h]
theorem Xm {α β : Type} {l : List α} {i : Nat} {f : α→Option β} (h : i < l.length) : (idx l (i : Int)).bind f = f l[i]:=by rw [Zqz h]; rfl
theorem ZqA {n i : Nat} (h : i < n) : inA n (i : Int) = some i:=by simp [inA,h]
theorem Xn {β : Type} {n i : Nat} {f : Nat→Option β} (h : i < n) : (inA n (i : Int)).bind f = f i:=by rw [ZqA h]; rfl
theorem Zgs {α β : Type} {l : List α} {i : Nat} {f : α→Option β} (h : i < l.length) : (l[i]?).bind f = f l[i]:=by rw [List.getElem?_eq_getElem h]; rfl
theorem wi (n : Int) (h : -9223372036854775808≤n∧n≤9223372036854775807) : IntKind.i64.wrap n = n:=IntWalk.i64_in n h
theorem Zbz {i n : Nat} (h : i < n) (hn : n≤9223372036854775807) : IntKind.i64.wrap ((i : Int) + 1) = ((i + 1 : Nat) : Int):=by rw [wi _ (by omega)]; omega
theorem wu (n : Int) (h : 0≤n∧n≤18446744073709551615) : IntKind.u64.wrap n = n:=IntWalk.u64_in n h
theorem Zkx {α : Type} (f : Nat→α) (z : α) {i k : Nat} (h : i < k) : (((List.range i).map f)++List.replicate (k - i) z).set i (f i) = ((List.range (i + 1)).map f)++List.replicate (k - (i + 1)) z:=by
 rw [List.set_append_right _ _ (by simp)];simp only [List.length_map,List.length_range,Nat.sub_self];rw [show k - i = (k - (i + 1)) + 1 by omega,List.replicate_succ,List.set_cons_zero,List.range_succ,List.map_append];simp
theorem Zlw {α : Type} (f : Nat→α) (z : α) {i k : Nat} (h : i≤k) : (((List.range i).map f)++List.replicate (k - i) z).length = k:=by simp; omega
end Go.Lc
end
section
namespace Go.Lc
open Go.RowKit
open Go.Av
set_option linter.unusedVariables false
set_option linter.unusedSimpArgs false
class YL (α : Type) where
 force : {β : Type}→α→(α→β)→β
 eq : ∀ {β : Type} (a : α) (k : α→β),force a k = k a
noncomputable def ZE {β : Type} (n : Nat) (k : Nat→β) : β:=Nat.rec (motive:=fun _=>β) (k Nat.zero) (fun m _=>k (Nat.succ m)) n
theorem Yi {β : Type} (n : Nat) (k : Nat→β) : ZE n k = k n:=by cases n <;> rfl
noncomputable instance : YL Nat:=⟨ZE,Yi⟩
noncomputable def Zol {β : Type} (i : Int) (k : Int→β) : β:=Int.rec (motive:=fun _=>β) (fun n=>ZE n fun m=>k (Int.ofNat m)) (fun n=>ZE n fun m=>k (Int.negSucc m)) i
theorem Zom {β : Type} (i : Int) (k : Int→β) : Zol i k = k i:=by
 cases i with
 | ofNat n=>exact Yi n fun m=>k (Int.ofNat m)
 | negSucc n=>exact Yi n fun m=>k (Int.negSucc m)
noncomputable instance : YL Int:=⟨Zol,Zom⟩
noncomputable def Zon {β : Type} (b : Bool) (k : Bool→β) : β:=Bool.rec (motive:=fun _=>β) (k false) (k true) b
theorem Zoo {β : Type} (b : Bool) (k : Bool→β) : Zon b k = k b:=by cases b <;> rfl
noncomputable instance : YL Bool:=⟨Zon,Zoo⟩
noncomputable instance : YL Unit:=⟨fun _ k=>k (),fun _ _=>rfl⟩
noncomputable def Zop {α γ β : Type} [YL α] [YL γ] (p : α×γ) (k : α×γ→β) : β:=Prod.rec (motive:=fun _=>β) (fun a c=>YL.force a fun a=>YL.force c fun c=>k (a,c)) p
theorem Zoq {α γ β : Type} [YL α] [YL γ] (p : α×γ) (k : α×γ→β) : Zop p k = k p:=by
 obtain ⟨a,c⟩:=p;exact (YL.eq a _).trans (YL.eq c _)
noncomputable instance {α γ : Type} [YL α] [YL γ] : YL (α×γ):=⟨Zop,Zoq⟩
noncomputable def Zlx {α β : Type} [YL α] (l : List α) (k : List α→β) : β:=List.rec (motive:=fun _=>(List α→β)→β) (fun k=>k []) (fun a _ ih k=>YL.force a fun a=>ih fun l=>k (a :: l)) l k
theorem Zky {α β : Type} [YL α] (l : List α) (k : List α→β) : Zlx l k = k l:=by
 induction l generalizing k with
 | nil=>rfl
 | cons a l ih =>
  refine (YL.eq (β:=β) a _).trans ?_;exact ih fun l=>k (a :: l)
noncomputable instance {α : Type} [YL α] : YL (List α):=⟨Zlx,Zky⟩
noncomputable def Zly {n : Nat} {β : Type} (a : Arr n) (k : Arr n→β) : β:=Zlx a.l fun l=>if h : Nat.beq l.length n = true then k ⟨l,Nat.eq_of_beq_eq_true h⟩ else k a
theorem Zor {n : Nat} {β : Type} (a : Arr n) (k : Arr n→β) : Zly a k = k a:=by
 unfold Zly;rw [Zky];split <;> rfl
noncomputable instance {n : Nat} : YL (Arr n):=⟨Zly,Zor⟩
noncomputable def _root_.Option.bindF {α β : Type} [YL α] (o : Option α) (f : α→Option β) : Option β:=Option.rec (motive:=fun _=>Option β) none (fun x=>YL.force x f) o
theorem Zlz {α β : Type} [YL α] (o : Option α) (f : α→Option β) : o.bindF f = o.bind f:=by
 cases o with
 | none=>rfl
 | some x=>exact YL.eq x f
noncomputable def ZbQ {σ ρ : Type} [YL σ] (step : σ→Option (σ ⊕ ρ)) (s : σ) : Option ρ :=
 Nat.rec (motive:=fun _=>σ→Option ρ) (fun _=>none) (fun _ ih s=>Option.rec (motive:=fun _=>Option ρ) none (fun x=>Sum.rec (motive:=fun _=>Option ρ) (fun s'=>YL.force s' ih) (fun r=>some r) x) (step s)) 1000000 s
noncomputable instance {α γ : Type} [YL α] [YL γ] : YL (α ⊕ γ):=⟨fun x k=>Sum.rec (motive:=fun _=>_) (fun a=>YL.force a fun a=>k (.inl a)) (fun c=>YL.force c fun c=>k (.inr c)) x,fun x k=>by cases x <;> exact YL.eq _ _⟩
noncomputable instance {α : Type} [YL α] : YL (Option α):=⟨fun x k=>Option.rec (motive:=fun _=>_) (k none) (fun a=>YL.force a fun a=>k (some a)) x,fun x k=>by cases x <;> first | rfl | exact YL.eq _ _⟩
def Le {α : Type} (o o' : Option α) : Prop:=∀ x,o = some x→o' = some x
theorem Le.refl {α : Type} (o : Option α) : Le o o:=fun _ h=>h
theorem ZqB {α β : Type} [YL α] {o o' : Option α} {f f' : α→Option β} (h : Le o o') (hf : ∀ x,Le (f x) (f' x)) : Le (o.bindF f) (o'.bind f'):=by
 intro y hy;rw [Zlz] at hy;obtain ⟨x,hx,hy⟩:=Option.bind_eq_some_iff.1 hy;rw [h _ hx];exact hf x _ hy
theorem ZrR {α β : Type} {o o' : Option α} {f : α→β} (h : Le o o') : Le (o.map f) (o'.map f):=by
 intro y hy;obtain ⟨x,hx,rfl⟩:=Option.map_eq_some_iff.1 hy;rw [h _ hx];rfl
theorem ZrS {α : Type} {p : Prop} [Decidable p] {a a' b b' : Option α} (h : Le a a') (h' : Le b b') : Le (if p then a else b) (if p then a' else b'):=by
 split
 ·exact h
 ·exact h'
theorem ZrT {σ ρ : Type} [YL σ] {step step' : σ→Option (σ ⊕ ρ)} {s : σ} (h : ∀ s,Le (step s) (step' s)) : Le (ZbQ step s) (Zj step' s):=by
 have key : ∀ (n : Nat) (s : σ) (r : ρ),(Nat.rec (motive:=fun _=>σ→Option ρ) (fun _=>none) (fun _ ih s=>Option.rec (motive:=fun _=>Option ρ) none (fun x=>Sum.rec (motive:=fun _=>Option ρ) (fun s'=>YL.force s' ih) (fun r=>some r) x) (step s)) n s : Option ρ) = some r→Zj step' s = some r:=by
  intro n;induction n with
  | zero=>intro s r h; cases h
  | succ n ih =>
   intro s r hr;simp only at hr;rcases hs : step s with _ | (s' | r')
   ·rw [hs] at hr; cases hr
   ·rw [hs] at hr
    have hr:=(YL.eq s' _).symm.trans hr;rw [ZI (h s _ hs)];exact ih s' r hr
   ·rw [hs] at hr
    obtain rfl:=Option.some.inj hr;exact Yh (h s _ hs)
 intro r hr;exact key 1000000 s r hr
class Lec {α : Type} (o o' : Option α) : Prop where
 h : Le o o'
theorem Lec.mk' {α : Type} {o o' p p' : Option α} (e : o = p) (e' : o' = p') (h : Le p p' := by
 repeat' (first
  | (with_reducible exact Le.refl _)
  | (with_reducible exact Lec.h)
  | (with_reducible refine ZrT fun s=>?_; repeat (first | (with_reducible exact Lec.h) | (rcases s with ⟨_,s⟩)))
  | (with_reducible refine ZqB ?_ fun _=>?_)
  | (with_reducible refine ZrS ?_ ?_)
  | (with_reducible refine ZrR ?_))) : Lec o o' := ⟨by rw [e,e']; exact h⟩
end Go.Lc
end
section
namespace Go.Lc
open Go.RowKit
open Go.Av
set_option maxRecDepth 100000
set_option linter.unusedVariables false
noncomputable def Zf2 (a0 : (Arr 4)) (a1 : Int) : Option (Bool) :=
 (inA (4) (IntKind.i64.wrap ((a1).tdiv 64))).bindF fun j1=>(chk (¬ ((a1).tmod 64 < 0))).bindF fun _=>some (decide (bits .and .u64 ((a0.at j1).fdiv (2 ^ (min ((a1).tmod 64).toNat 64))) 1 = 1))
instance {a0 a1} : Lec (Zf2 a0 a1) (ZcG a0 a1):=.mk' (Zf2.eq_1 ..) (ZcG.eq_1 ..)
noncomputable def Zfy (p12 : (Arr 4)) : Option (Arr 4) :=
 some (p12)
instance {p12} : Lec (Zfy p12) (Zd2 p12):=.mk' (Zfy.eq_1 ..) (Zd2.eq_1 ..)
noncomputable def Zd8 (p11 : Int) (p20 : (Arr 4)) : Option ((Int×(Arr 4)) ⊕ ((Arr 4))) :=
 some (.inl (IntKind.i64.wrap (p11 + 1),p20))
instance {p11 p20} : Lec (Zd8 p11 p20) (Zbg p11 p20):=.mk' (Zd8.eq_1 ..) (Zbg.eq_1 ..)
noncomputable def Zfz (a1 : Int) (a0 : (Arr 4)) : (Int×(Arr 4))→Option ((Int×(Arr 4)) ⊕ ((Arr 4)))
 | (p11,p12)=>(if IntKind.i64.wrap (p11 + a1) < 256 then (Zf2 a0 (IntKind.i64.wrap (p11 + a1))).bindF fun y17=>(if y17 = true then (inA (4) (IntKind.i64.wrap ((p11).tdiv 64))).bindF fun j21=>(chk (¬ ((p11).tmod 64 < 0))).bindF fun _=>Zd8 p11 (p12.put j21 (bits .or .u64 (p12.at j21) (IntKind.u64.wrap (1 * (2 ^ (min ((p11).tmod 64).toNat 64)))))) else Zd8 p11 p12) else (Zfy p12).map Sum.inr)
instance {a1 a0 p11 p12} : Lec (Zfz a1 a0 (p11,p12)) (Zd3 a1 a0 (p11,p12)):=.mk' (Zfz.eq_1 ..) (Zd3.eq_1 ..)
noncomputable def ZeP (a0 : (Arr 4)) (a1 : Int) : Option ((Arr 4)) :=
 (if a1≤0 then some (a0) else (if 256≤a1 then some (zA 4) else ZbQ (Zfz a1 a0) (0,zA 4)))
instance {a0 a1} : Lec (ZeP a0 a1) (ZcH a0 a1):=.mk' (ZeP.eq_1 ..) (ZcH.eq_1 ..)
noncomputable def Zen (a0 : Int) (a1 : Int) (a2 : Int) : Option (Int×Int) :=
 (chk ((0≤a0∧0≤a1)∧(a1≤18446744073709551615∧0≤a2)∧a2≤1)).bindF fun _=>some ((a0 + a1 + a2) % 18446744073709551616,(a0 + a1 + a2) / 18446744073709551616)
instance {a0 a1 a2} : Lec (Zen a0 a1 a2) (ZaM a0 a1 a2):=.mk' (Zen.eq_1 ..) (ZaM.eq_1 ..)
noncomputable def ZfA (p9 : (Arr 4)) (p7 : Int) : Option ((Arr 4)×Bool) :=
 some ((p9,decide (p7 = 1)))
instance {p9 p7} : Lec (ZfA p9 p7) (Zd5 p9 p7):=.mk' (ZfA.eq_1 ..) (Zd5.eq_1 ..)
noncomputable def ZfB (a0 : (Arr 4)) (a1 : (Arr 4)) : (Int×Int×(Arr 4))→Option ((Int×Int×(Arr 4)) ⊕ ((Arr 4)×Bool))
 | (p7,p8,p9)=>(if p8 < 4 then (inA (4) (p8)).bindF fun j12=>(Zen (a0.at j12) (a1.at j12) p7).bindF fun y13=>some (.inl (y13.2,IntKind.i64.wrap (p8 + 1),p9.put j12 y13.1)) else (ZfA p9 p7).map Sum.inr)
instance {a0 a1 p7 p8 p9} : Lec (ZfB a0 a1 (p7,p8,p9)) (Zd6 a0 a1 (p7,p8,p9)):=.mk' (ZfB.eq_1 ..) (Zd6.eq_1 ..)
noncomputable def ZhB (a0 : (Arr 4)) (a1 : (Arr 4)) : Option ((Arr 4)×Bool) :=
 ZbQ (ZfB a0 a1) (0,0,zA 4)
instance {a0 a1} : Lec (ZhB a0 a1) (ZdA a0 a1):=.mk' (ZhB.eq_1 ..) (ZdA.eq_1 ..)
noncomputable def ZfC (p6 : (Arr 4)) : Option (Arr 4) :=
 some (p6)
instance {p6} : Lec (ZfC p6) (Zd7 p6):=.mk' (ZfC.eq_1 ..) (Zd7.eq_1 ..)
noncomputable def Fref02_Shl_s1 : (Int×(Arr 4))→Option ((Int×(Arr 4)) ⊕ ((Arr 4)))
 | (p5,p6)=>(if 0 < p5 then (ZhB p6 p6).bindF fun y8=>some (.inl (IntKind.i64.wrap (p5 - 1),y8.1)) else (ZfC p6).map Sum.inr)
instance {p5 p6} : Lec (Fref02_Shl_s1 (p5,p6)) (Lref02_Shl_s1 (p5,p6)):=.mk' (Fref02_Shl_s1.eq_1 ..) (Lref02_Shl_s1.eq_1 ..)
noncomputable def ZhC (a0 : (Arr 4)) (a1 : Int) : Option ((Arr 4)) :=
 (if 256≤a1 then some (zA 4) else ZbQ (Fref02_Shl_s1) (a1,a0))
instance {a0 a1} : Lec (ZhC a0 a1) (ZdB a0 a1):=.mk' (ZhC.eq_1 ..) (ZdB.eq_1 ..)
noncomputable def Fref02_Cmp_k1 : Option Int :=
 some (0)
instance : Lec (Fref02_Cmp_k1) (Lref02_Cmp_k1):=.mk' (Fref02_Cmp_k1.eq_1 ..) (Lref02_Cmp_k1.eq_1 ..)
noncomputable def ZfD (a0 : (Arr 4)) (a1 : (Arr 4)) : Int→Option ((Int) ⊕ (Int))
 | p3=>(if 0≤p3 then (inA (4) (p3)).bindF fun j5=>(if a0.at j5 < a1.at j5 then some (.inr ((-1))) else (if a1.at j5 < a0.at j5 then some (.inr (1)) else some (.inl (IntKind.i64.wrap (p3 - 1))))) else (Fref02_Cmp_k1).map Sum.inr)
instance {a0 a1 p3} : Lec (ZfD a0 a1 p3) (Zd1 a0 a1 p3):=.mk' (ZfD.eq_1 ..) (Zd1.eq_1 ..)
noncomputable def Zf3 (a0 : (Arr 4)) (a1 : (Arr 4)) : Option (Int) :=
 ZbQ (ZfD a0 a1) 3
instance {a0 a1} : Lec (Zf3 a0 a1) (Zdy a0 a1):=.mk' (Zf3.eq_1 ..) (Zdy.eq_1 ..)
noncomputable def Zff (a0 : (Arr 4)) : Option (Bool) :=
 some (decide (a0 = zA 4))
instance {a0} : Lec (Zff a0) (Zci a0):=.mk' (Zff.eq_1 ..) (Zci.eq_1 ..)
noncomputable def ZeQ (a0 : Int) : Option ((Arr 4)) :=
 some ((zA 4).put 0 a0)
instance {a0} : Lec (ZeQ a0) (Za5 a0):=.mk' (ZeQ.eq_1 ..) (Za5.eq_1 ..)
noncomputable def Fref02_Len_k1 : Option Int :=
 some (0)
instance : Lec (Fref02_Len_k1) (Lref02_Len_k1):=.mk' (Fref02_Len_k1.eq_1 ..) (Lref02_Len_k1.eq_1 ..)
noncomputable def ZfE (a0 : (Arr 4)) : Int→Option ((Int) ⊕ (Int))
 | p4=>(if 0≤p4 then (Zf2 a0 p4).bindF fun y6=>(if y6 = true then some (.inr (IntKind.i64.wrap (p4 + 1))) else some (.inl (IntKind.i64.wrap (p4 - 1)))) else (Fref02_Len_k1).map Sum.inr)
instance {a0 p4} : Lec (ZfE a0 p4) (Zd4 a0 p4):=.mk' (ZfE.eq_1 ..) (Zd4.eq_1 ..)
noncomputable def ZhD (a0 : (Arr 4)) : Option (Int) :=
 ZbQ (ZfE a0) 255
instance {a0} : Lec (ZhD a0) (Zdz a0):=.mk' (ZhD.eq_1 ..) (Zdz.eq_1 ..)
noncomputable def ZcJ (p7 : (Arr 4)) : Option ((Arr 4)×Int) :=
 (Zff p7).bindF fun y8=>(if y8 = true then some ((zA 4,120)) else some ((p7,0)))
instance {p7} : Lec (ZcJ p7) (Zal p7):=.mk' (ZcJ.eq_1 ..) (Zal.eq_1 ..)
noncomputable def Zd9 (a0 : Int) : Option ((Arr 4)×Int) :=
 (ZeQ (IntKind.u64.wrap (bits .and .u32 a0 16777215))).bindF fun y1=>(if ¬ (bits .and .u32 a0 8388608 = 0) then some ((zA 4,120)) else (if IntKind.i64.wrap ((a0).fdiv 16777216) < 3 then (ZeP y1 (IntKind.i64.wrap (8 * (IntKind.i64.wrap (3 - (IntKind.i64.wrap ((a0).fdiv 16777216))))))).bindF fun y9=>ZcJ y9 else (Zff y1).bindF fun y10=>((if ¬ (y10 = true) then (ZhD y1).bindF fun y11=>some (decide (256 < IntKind.i64.wrap (y11 + (IntKind.i64.wrap (8 * (IntKind.i64.wrap ((IntKind.i64.wrap ((a0).fdiv 16777216)) - 3))))))) else some (false))).bindF fun z12=>(if (¬ (y10 = true)∧z12 = true) then some ((zA 4,120)) else (ZhC y1 (IntKind.i64.wrap (8 * (IntKind.i64.wrap ((IntKind.i64.wrap ((a0).fdiv 16777216)) - 3))))).bindF fun y13=>ZcJ y13)))
instance {a0} : Lec (Zd9 a0) (ZbW a0):=.mk' (Zd9.eq_1 ..) (ZbW.eq_1 ..)
noncomputable def Zc0 (p9 : (Arr 4)) : Option (Arr 4) :=
 some (p9)
instance {p9} : Lec (Zc0 p9) (ZbO p9):=.mk' (Zc0.eq_1 ..) (ZbO.eq_1 ..)
noncomputable def Zc1 (a0 : (Arr 32)) : (Int×(Arr 4))→Option ((Int×(Arr 4)) ⊕ ((Arr 4)))
 | (p8,p9)=>(if p8 < 32 then (inA (4) (IntKind.i64.wrap ((IntKind.i64.wrap (31 - p8)).tdiv 8))).bindF fun j13=>(inA (32) (p8)).bindF fun j14=>(chk (¬ (IntKind.i64.wrap (8 * ((IntKind.i64.wrap (31 - p8)).tmod 8)) < 0))).bindF fun _=>some (.inl (IntKind.i64.wrap (p8 + 1),p9.put j13 (bits .or .u64 (p9.at j13) (IntKind.u64.wrap ((IntKind.u64.wrap (a0.at j14)) * (2 ^ (min (IntKind.i64.wrap (8 * ((IntKind.i64.wrap (31 - p8)).tmod 8))).toNat 64))))))) else (Zc0 p9).map Sum.inr)
instance {a0 p8 p9} : Lec (Zc1 a0 (p8,p9)) (ZbP a0 (p8,p9)):=.mk' (Zc1.eq_1 ..) (ZbP.eq_1 ..)
noncomputable def ZcK (a0 : (Arr 32)) : Option ((Arr 4)) :=
 ZbQ (Zc1 a0) (0,zA 4)
instance {a0} : Lec (ZcK a0) (ZaN a0):=.mk' (ZcK.eq_1 ..) (ZaN.eq_1 ..)
noncomputable def ZaD (a0 : Int) (a1 : Int) : Option (Int) :=
 (chk (¬ (bits .and .u64 (IntKind.u64.wrap (a1)) 31 < 0))).bindF fun _=>(chk (¬ (IntKind.u64.wrap (32 - (bits .and .u64 (IntKind.u64.wrap (a1)) 31)) < 0))).bindF fun _=>some (bits .or .u32 (IntKind.u32.wrap (a0 * (2 ^ (min (bits .and .u64 (IntKind.u64.wrap (a1)) 31).toNat 32)))) ((a0).fdiv (2 ^ (min (IntKind.u64.wrap (32 - (bits .and .u64 (IntKind.u64.wrap (a1)) 31))).toNat 32))))
instance {a0 a1} : Lec (ZaD a0 a1) (YO a0 a1):=.mk' (ZaD.eq_1 ..) (YO.eq_1 ..)
noncomputable def ZaC (a0 : Int) (a1 : Int) : Option (Int) :=
 (ZaD a0 (IntKind.i64.wrap (-a1))).bindF fun y1=>some (y1)
instance {a0 a1} : Lec (ZaC a0 a1) (Xt a0 a1):=.mk' (ZaC.eq_1 ..) (Xt.eq_1 ..)
noncomputable def Zeo (p52 : (Arr 64)) : Option (Arr 64) :=
 some (p52)
instance {p52} : Lec (Zeo p52) (ZcC p52):=.mk' (Zeo.eq_1 ..) (ZcC.eq_1 ..)
noncomputable def Fsha_schedule_s2 : (Int×(Arr 64))→Option ((Int×(Arr 64)) ⊕ ((Arr 64)))
 | (p51,p52)=>(if p51 < 64 then (inA (64) (IntKind.i64.wrap (p51 - 15))).bindF fun j62=>(ZaC (p52.at j62) 7).bindF fun y63=>(ZaC (p52.at j62) 18).bindF fun y64=>(inA (64) (IntKind.i64.wrap (p51 - 2))).bindF fun j65=>(ZaC (p52.at j65) 17).bindF fun y66=>(ZaC (p52.at j65) 19).bindF fun y67=>(inA (64) (IntKind.i64.wrap (p51 - 16))).bindF fun j68=>(inA (64) (IntKind.i64.wrap (p51 - 7))).bindF fun j69=>(inA (64) (p51)).bindF fun j70=>some (.inl (IntKind.i64.wrap (p51 + 1),p52.put j70 (IntKind.u32.wrap ((IntKind.u32.wrap ((IntKind.u32.wrap ((p52.at j68) + (bits .xor .u32 (bits .xor .u32 y63 y64) ((p52.at j62).fdiv 8)))) + (p52.at j69))) + (bits .xor .u32 (bits .xor .u32 y66 y67) ((p52.at j65).fdiv 1024)))))) else (Zeo p52).map Sum.inr)
instance {p51 p52} : Lec (Fsha_schedule_s2 (p51,p52)) (Lsha_schedule_s2 (p51,p52)):=.mk' (Fsha_schedule_s2.eq_1 ..) (Lsha_schedule_s2.eq_1 ..)
noncomputable def Zep (p21 : (Arr 64)) : Option (Arr 64) :=
 ZbQ (Fsha_schedule_s2) (16,p21)
instance {p21} : Lec (Zep p21) (ZaF p21):=.mk' (Zep.eq_1 ..) (ZaF.eq_1 ..)
noncomputable def Zeq (p20 : Int) (p78 : (Arr 64)) : Option ((Int×(Arr 64)) ⊕ ((Arr 64))) :=
 some (.inl (IntKind.i64.wrap (p20 + 1),p78))
instance {p20 p78} : Lec (Zeq p20 p78) (ZbG p20 p78):=.mk' (Zeq.eq_1 ..) (ZbG.eq_1 ..)
noncomputable def Zer (p20 : Int) (a0 : (Arr 64)) : (Int×(Arr 64))→Option ((Int×(Arr 64)) ⊕ ((Int×(Arr 64)) ⊕ ((Arr 64))))
 | (p77,p78)=>(if p77 < 4 then (inA (64) (p20)).bindF fun j81=>(inA (64) (IntKind.i64.wrap ((IntKind.i64.wrap (4 * p20)) + p77))).bindF fun j82=>some (.inl (IntKind.i64.wrap (p77 + 1),p78.put j81 (bits .or .u32 (IntKind.u32.wrap ((p78.at j81) * 256)) (IntKind.u32.wrap (a0.at j82))))) else (Zeq p20 p78).map Sum.inr)
instance {p20 a0 p77 p78} : Lec (Zer p20 a0 (p77,p78)) (Xu p20 a0 (p77,p78)):=.mk' (Zer.eq_1 ..) (Xu.eq_1 ..)
noncomputable def Zes (a0 : (Arr 64)) : (Int×(Arr 64))→Option ((Int×(Arr 64)) ⊕ ((Arr 64)))
 | (p20,p21)=>(if p20 < 16 then ZbQ (Zer p20 a0) (0,p21) else (Zep p21).map Sum.inr)
instance {a0 p20 p21} : Lec (Zes a0 (p20,p21)) (Zai a0 (p20,p21)):=.mk' (Zes.eq_1 ..) (Zai.eq_1 ..)
noncomputable def ZfF (a0 : (Arr 64)) : Option ((Arr 64)) :=
 ZbQ (Zes a0) (0,zA 64)
instance {a0} : Lec (ZfF a0) (Zay a0):=.mk' (ZfF.eq_1 ..) (Zay.eq_1 ..)
noncomputable def Zet (a0 : (Arr 8)) (p24 : Int) (p25 : Int) (p26 : Int) (p27 : Int) (p28 : Int) (p29 : Int) (p30 : Int) (p31 : Int) : Option (Arr 8) :=
 some (((((((((zA 8).put 0 (IntKind.u32.wrap ((a0.at 0) + p24))).put 1 (IntKind.u32.wrap ((a0.at 1) + p25))).put 2 (IntKind.u32.wrap ((a0.at 2) + p26))).put 3 (IntKind.u32.wrap ((a0.at 3) + p27))).put 4 (IntKind.u32.wrap ((a0.at 4) + p28))).put 5 (IntKind.u32.wrap ((a0.at 5) + p29))).put 6 (IntKind.u32.wrap ((a0.at 6) + p30))).put 7 (IntKind.u32.wrap ((a0.at 7) + p31)))
instance {a0 p24 p25 p26 p27 p28 p29 p30 p31} : Lec (Zet a0 p24 p25 p26 p27 p28 p29 p30 p31) (ZcD a0 p24 p25 p26 p27 p28 p29 p30 p31):=.mk' (Zet.eq_1 ..) (ZcD.eq_1 ..)
noncomputable def Zeu (y1 : ((Arr 64))) (a0 : (Arr 8)) : (Int×Int×Int×Int×Int×Int×Int×Int×Int)→Option ((Int×Int×Int×Int×Int×Int×Int×Int×Int) ⊕ ((Arr 8)))
 | (p24,p25,p26,p27,p28,p29,p30,p31,p32)=>(if p32 < 64 then (ZaC p28 6).bindF fun y40=>(ZaC p28 11).bindF fun y41=>(ZaC p28 25).bindF fun y42=>(inA (64) (p32)).bindF fun j43=>(ZaC p24 2).bindF fun y44=>(ZaC p24 13).bindF fun y45=>(ZaC p24 22).bindF fun y46=>some (.inl (IntKind.u32.wrap ((IntKind.u32.wrap ((IntKind.u32.wrap ((IntKind.u32.wrap ((IntKind.u32.wrap (p31 + (bits .xor .u32 (bits .xor .u32 y40 y41) y42))) + (bits .xor .u32 (bits .and .u32 p28 p29) (bits .and .u32 (bits .xor .u32 4294967295 p28) p30)))) + (shaK.at j43))) + (y1.at j43))) + (IntKind.u32.wrap ((bits .xor .u32 (bits .xor .u32 y44 y45) y46) + (bits .xor .u32 (bits .xor .u32 (bits .and .u32 p24 p25) (bits .and .u32 p24 p26)) (bits .and .u32 p25 p26))))),p24,p25,p26,IntKind.u32.wrap (p27 + (IntKind.u32.wrap ((IntKind.u32.wrap ((IntKind.u32.wrap ((IntKind.u32.wrap (p31 + (bits .xor .u32 (bits .xor .u32 y40 y41) y42))) + (bits .xor .u32 (bits .and .u32 p28 p29) (bits .and .u32 (bits .xor .u32 4294967295 p28) p30)))) + (shaK.at j43))) + (y1.at j43)))),p28,p29,p30,IntKind.i64.wrap (p32 + 1))) else (Zet a0 p24 p25 p26 p27 p28 p29 p30 p31).map Sum.inr)
instance {y1 a0 p24 p25 p26 p27 p28 p29 p30 p31 p32} : Lec (Zeu y1 a0 (p24,p25,p26,p27,p28,p29,p30,p31,p32)) (Zaj y1 a0 (p24,p25,p26,p27,p28,p29,p30,p31,p32)):=.mk' (Zeu.eq_1 ..) (Zaj.eq_1 ..)
noncomputable def ZfG (a0 : (Arr 8)) (a1 : (Arr 64)) : Option ((Arr 8)) :=
 (ZfF a1).bindF fun y1=>ZbQ (Zeu y1 a0) (a0.at 0,a0.at 1,a0.at 2,a0.at 3,a0.at 4,a0.at 5,a0.at 6,a0.at 7,0)
instance {a0 a1} : Lec (ZfG a0 a1) (Zaz a0 a1):=.mk' (ZfG.eq_1 ..) (Zaz.eq_1 ..)
noncomputable def ZgL (p10 : (List Int)) : Option (List Int) :=
 some (p10)
instance {p10} : Lec (ZgL p10) (Zfd p10):=.mk' (ZgL.eq_1 ..) (Zfd.eq_1 ..)
noncomputable def ZgM (a0 : Int) : (Int×(List Int))→Option ((Int×(List Int)) ⊕ ((List Int)))
 | (p9,p10)=>(if p9 < 8 then (chk (¬ (IntKind.i64.wrap (56 - (IntKind.i64.wrap (8 * p9))) < 0))).bindF fun _=>(chk (p10.length + 1≤140737488355328)).bindF fun _=>some (.inl (IntKind.i64.wrap (p9 + 1),p10++[IntKind.u8.wrap ((IntKind.u64.wrap (8 * a0)).fdiv (2 ^ (min (IntKind.i64.wrap (56 - (IntKind.i64.wrap (8 * p9)))).toNat 64)))])) else (ZgL p10).map Sum.inr)
instance {a0 p9 p10} : Lec (ZgM a0 (p9,p10)) (Zcc a0 (p9,p10)):=.mk' (ZgM.eq_1 ..) (Zcc.eq_1 ..)
noncomputable def Zi7 (a0 : Int) : Option ((List Int)) :=
 (chk (0≤IntKind.u64.wrap (1 + ((IntKind.u64.wrap (64 - ((IntKind.u64.wrap (a0 + 9)).tmod 64))).tmod 64))∧IntKind.u64.wrap (1 + ((IntKind.u64.wrap (64 - ((IntKind.u64.wrap (a0 + 9)).tmod 64))).tmod 64))≤IntKind.u64.wrap (9 + ((IntKind.u64.wrap (64 - ((IntKind.u64.wrap (a0 + 9)).tmod 64))).tmod 64))∧IntKind.u64.wrap (9 + ((IntKind.u64.wrap (64 - ((IntKind.u64.wrap (a0 + 9)).tmod 64))).tmod 64))≤140737488355328)).bindF fun _=>(chk (0 < (List.replicate ((IntKind.u64.wrap (1 + ((IntKind.u64.wrap (64 - ((IntKind.u64.wrap (a0 + 9)).tmod 64))).tmod 64))).toNat) 0).length)).bindF fun _=>ZbQ (ZgM a0) (0,(List.replicate ((IntKind.u64.wrap (1 + ((IntKind.u64.wrap (64 - ((IntKind.u64.wrap (a0 + 9)).tmod 64))).tmod 64))).toNat) 0).set 0 128)
instance {a0} : Lec (Zi7 a0) (Zdc a0):=.mk' (Zi7.eq_1 ..) (Zdc.eq_1 ..)
noncomputable def ZgN (p8 : (List Int)) : Option (List Int) :=
 some (p8)
instance {p8} : Lec (ZgN p8) (Zfc p8):=.mk' (ZgN.eq_1 ..) (Zfc.eq_1 ..)
noncomputable def ZgO (a0 : (List (List Int))) : (Int×(List Int))→Option ((Int×(List Int)) ⊕ ((List Int)))
 | (p7,p8)=>(if p7 < (a0.length : Int) then (idx (a0) (p7)).bindF fun x11=>(chk (p8.length + x11.length≤140737488355328)).bindF fun _=>some (.inl (IntKind.i64.wrap (p7 + 1),p8++x11)) else (ZgN p8).map Sum.inr)
instance {a0 p7 p8} : Lec (ZgO a0 (p7,p8)) (Zcb a0 (p7,p8)):=.mk' (ZgO.eq_1 ..) (Zcb.eq_1 ..)
noncomputable def Zi8 (a0 : (List (List Int))) : Option ((List Int)) :=
 ZbQ (ZgO a0) (0,[])
instance {a0} : Lec (Zi8 a0) (Zdb a0):=.mk' (Zi8.eq_1 ..) (Zdb.eq_1 ..)
noncomputable def ZgP (p24 : (Arr 32)) : Option (Arr 32) :=
 some (p24)
instance {p24} : Lec (ZgP p24) (Zfe p24):=.mk' (ZgP.eq_1 ..) (Zfe.eq_1 ..)
noncomputable def ZgQ (p12 : (Arr 8)) : (Int×(Arr 32))→Option ((Int×(Arr 32)) ⊕ ((Arr 32)))
 | (p23,p24)=>(if p23 < 32 then (inA (8) (IntKind.i64.wrap ((p23).tdiv 4))).bindF fun j28=>(chk (¬ (IntKind.i64.wrap (24 - (IntKind.i64.wrap (((p23).tmod 4) * 8))) < 0))).bindF fun _=>(inA (32) (p23)).bindF fun j30=>some (.inl (IntKind.i64.wrap (p23 + 1),p24.put j30 (IntKind.u8.wrap ((p12.at j28).fdiv (2 ^ (min (IntKind.i64.wrap (24 - (IntKind.i64.wrap (((p23).tmod 4) * 8)))).toNat 32)))))) else (ZgP p24).map Sum.inr)
instance {p12 p23 p24} : Lec (ZgQ p12 (p23,p24)) (Zcd p12 (p23,p24)):=.mk' (ZgQ.eq_1 ..) (Zcd.eq_1 ..)
noncomputable def ZgR (p12 : (Arr 8)) : Option (Arr 32) :=
 ZbQ (ZgQ p12) (0,zA 32)
instance {p12} : Lec (ZgR p12) (ZcU p12):=.mk' (ZgR.eq_1 ..) (ZcU.eq_1 ..)
noncomputable def ZgS (y2 : ((List Int))) : (Int×(Arr 8))→Option ((Int×(Arr 8)) ⊕ ((Arr 32)))
 | (p11,p12)=>(if p11 < IntKind.i64.wrap (((y2.length : Int)).tdiv 64) then (chk (0≤IntKind.i64.wrap (64 * p11)∧IntKind.i64.wrap (64 * p11)≤(y2.length : Int))).bindF fun _=>(chk (64≤(y2.length - (IntKind.i64.wrap (64 * p11)).toNat))).bindF fun _=>(ZfG p12 (Zia 64 ((y2).drop ((IntKind.i64.wrap (64 * p11)).toNat)))).bindF fun y33=>some (.inl (IntKind.i64.wrap (p11 + 1),y33)) else (ZgR p12).map Sum.inr)
instance {y2 p11 p12} : Lec (ZgS y2 (p11,p12)) (Zce y2 (p11,p12)):=.mk' (ZgS.eq_1 ..) (Zce.eq_1 ..)
noncomputable def ZhE (a0 : (List Int)) : Option ((Arr 32)) :=
 (Zi7 (IntKind.u64.wrap ((a0.length : Int)))).bindF fun y1=>(Zi8 [a0,y1]).bindF fun y2=>ZbQ (ZgS y2) (0,shaInitial)
instance {a0} : Lec (ZhE a0) (ZcE a0):=.mk' (ZhE.eq_1 ..) (ZcE.eq_1 ..)
noncomputable def ZiT (a0 : (List Int)) : Option ((Arr 32)) :=
 (ZhE a0).bindF fun y1=>(ZhE y1.l).bindF fun y2=>some (y2)
instance {a0} : Lec (ZiT a0) (Zbr a0):=.mk' (ZiT.eq_1 ..) (Zbr.eq_1 ..)
noncomputable def XZ (a0 : Int) (a1 : Int) : Option (Int) :=
 (ZaD a0 (IntKind.i64.wrap (-a1))).bindF fun y1=>some (y1)
instance {a0 a1} : Lec (XZ a0 a1) (Xa a0 a1):=.mk' (XZ.eq_1 ..) (Xa.eq_1 ..)
noncomputable def Zdj (p39 : (Arr 64)) : Option (Arr 64) :=
 some (p39)
instance {p39} : Lec (Zdj p39) (Zb4 p39):=.mk' (Zdj.eq_1 ..) (Zb4.eq_1 ..)
noncomputable def Fref03_schedule_s2 : (Int×(Arr 64))→Option ((Int×(Arr 64)) ⊕ ((Arr 64)))
 | (p38,p39)=>(if p38 < 64 then (inA (64) (IntKind.i64.wrap (p38 - 15))).bindF fun j49=>(XZ (p39.at j49) 7).bindF fun y50=>(XZ (p39.at j49) 18).bindF fun y51=>(inA (64) (IntKind.i64.wrap (p38 - 2))).bindF fun j52=>(XZ (p39.at j52) 17).bindF fun y53=>(XZ (p39.at j52) 19).bindF fun y54=>(inA (64) (IntKind.i64.wrap (p38 - 16))).bindF fun j55=>(inA (64) (IntKind.i64.wrap (p38 - 7))).bindF fun j56=>(inA (64) (p38)).bindF fun j57=>some (.inl (IntKind.i64.wrap (p38 + 1),p39.put j57 (IntKind.u32.wrap ((IntKind.u32.wrap ((IntKind.u32.wrap ((p39.at j55) + (bits .xor .u32 (bits .xor .u32 y50 y51) ((p39.at j49).fdiv 8)))) + (p39.at j56))) + (bits .xor .u32 (bits .xor .u32 y53 y54) ((p39.at j52).fdiv 1024)))))) else (Zdj p39).map Sum.inr)
instance {p38 p39} : Lec (Fref03_schedule_s2 (p38,p39)) (Lref03_schedule_s2 (p38,p39)):=.mk' (Fref03_schedule_s2.eq_1 ..) (Lref03_schedule_s2.eq_1 ..)
noncomputable def Zdk (p13 : (Arr 64)) : Option (Arr 64) :=
 ZbQ (Fref03_schedule_s2) (16,p13)
instance {p13} : Lec (Zdk p13) (Zan p13):=.mk' (Zdk.eq_1 ..) (Zan.eq_1 ..)
noncomputable def Zdl (a0 : (Arr 64)) : (Int×(Arr 64))→Option ((Int×(Arr 64)) ⊕ ((Arr 64)))
 | (p12,p13)=>(if p12 < 16 then (inA (64) (IntKind.i64.wrap (4 * p12))).bindF fun j58=>(inA (64) (IntKind.i64.wrap ((IntKind.i64.wrap (4 * p12)) + 1))).bindF fun j59=>(inA (64) (IntKind.i64.wrap ((IntKind.i64.wrap (4 * p12)) + 2))).bindF fun j60=>(inA (64) (IntKind.i64.wrap ((IntKind.i64.wrap (4 * p12)) + 3))).bindF fun j61=>(inA (64) (p12)).bindF fun j62=>some (.inl (IntKind.i64.wrap (p12 + 1),p13.put j62 (bits .or .u32 (bits .or .u32 (bits .or .u32 (IntKind.u32.wrap ((IntKind.u32.wrap (a0.at j58)) * 16777216)) (IntKind.u32.wrap ((IntKind.u32.wrap (a0.at j59)) * 65536))) (IntKind.u32.wrap ((IntKind.u32.wrap (a0.at j60)) * 256))) (IntKind.u32.wrap (a0.at j61))))) else (Zdk p13).map Sum.inr)
instance {a0 p12 p13} : Lec (Zdl a0 (p12,p13)) (XM a0 (p12,p13)):=.mk' (Zdl.eq_1 ..) (XM.eq_1 ..)
noncomputable def ZeR (a0 : (Arr 64)) : Option ((Arr 64)) :=
 ZbQ (Zdl a0) (0,zA 64)
instance {a0} : Lec (ZeR a0) (Zaa a0):=.mk' (ZeR.eq_1 ..) (Zaa.eq_1 ..)
noncomputable def Fref03_constants : Option ((Arr 64)) :=
 some (((((((((((((((((((((((((((((((((((((((((((((((((((((((((((((((((zA 64).put 0 1116352408).put 1 1899447441).put 2 3049323471).put 3 3921009573).put 4 961987163).put 5 1508970993).put 6 2453635748).put 7 2870763221).put 8 3624381080).put 9 310598401).put 10 607225278).put 11 1426881987).put 12 1925078388).put 13 2162078206).put 14 2614888103).put 15 3248222580).put 16 3835390401).put 17 4022224774).put 18 264347078).put 19 604807628).put 20 770255983).put 21 1249150122).put 22 1555081692).put 23 1996064986).put 24 2554220882).put 25 2821834349).put 26 2952996808).put 27 3210313671).put 28 3336571891).put 29 3584528711).put 30 113926993).put 31 338241895).put 32 666307205).put 33 773529912).put 34 1294757372).put 35 1396182291).put 36 1695183700).put 37 1986661051).put 38 2177026350).put 39 2456956037).put 40 2730485921).put 41 2820302411).put 42 3259730800).put 43 3345764771).put 44 3516065817).put 45 3600352804).put 46 4094571909).put 47 275423344).put 48 430227734).put 49 506948616).put 50 659060556).put 51 883997877).put 52 958139571).put 53 1322822218).put 54 1537002063).put 55 1747873779).put 56 1955562222).put 57 2024104815).put 58 2227730452).put 59 2361852424).put 60 2428436474).put 61 2756734187).put 62 3204031479).put 63 3329325298)
instance : Lec (Fref03_constants) (Lref03_constants):=.mk' (Fref03_constants.eq_1 ..) (Lref03_constants.eq_1 ..)
noncomputable def Zdm (a0 : (Arr 8)) (p25 : Int) (p26 : Int) (p27 : Int) (p28 : Int) (p29 : Int) (p30 : Int) (p31 : Int) (p32 : Int) : Option (Arr 8) :=
 some (((((((((zA 8).put 0 (IntKind.u32.wrap ((a0.at 0) + p25))).put 1 (IntKind.u32.wrap ((a0.at 1) + p26))).put 2 (IntKind.u32.wrap ((a0.at 2) + p27))).put 3 (IntKind.u32.wrap ((a0.at 3) + p28))).put 4 (IntKind.u32.wrap ((a0.at 4) + p29))).put 5 (IntKind.u32.wrap ((a0.at 5) + p30))).put 6 (IntKind.u32.wrap ((a0.at 6) + p31))).put 7 (IntKind.u32.wrap ((a0.at 7) + p32)))
instance {a0 p25 p26 p27 p28 p29 p30 p31 p32} : Lec (Zdm a0 p25 p26 p27 p28 p29 p30 p31 p32) (Zb5 a0 p25 p26 p27 p28 p29 p30 p31 p32):=.mk' (Zdm.eq_1 ..) (Zb5.eq_1 ..)
noncomputable def Zdn (y2 : ((Arr 64))) (y1 : ((Arr 64))) (a0 : (Arr 8)) : (Int×Int×Int×Int×Int×Int×Int×Int×Int)→Option ((Int×Int×Int×Int×Int×Int×Int×Int×Int) ⊕ ((Arr 8)))
 | (p25,p26,p27,p28,p29,p30,p31,p32,p33)=>(if p33 < 64 then (XZ p29 6).bindF fun y41=>(XZ p29 11).bindF fun y42=>(XZ p29 25).bindF fun y43=>(inA (64) (p33)).bindF fun j44=>(XZ p25 2).bindF fun y45=>(XZ p25 13).bindF fun y46=>(XZ p25 22).bindF fun y47=>some (.inl (IntKind.u32.wrap ((IntKind.u32.wrap ((IntKind.u32.wrap ((IntKind.u32.wrap ((IntKind.u32.wrap (p32 + (bits .xor .u32 (bits .xor .u32 y41 y42) y43))) + (bits .xor .u32 (bits .and .u32 p29 p30) (bits .and .u32 (bits .xor .u32 4294967295 p29) p31)))) + (y2.at j44))) + (y1.at j44))) + (IntKind.u32.wrap ((bits .xor .u32 (bits .xor .u32 y45 y46) y47) + (bits .xor .u32 (bits .xor .u32 (bits .and .u32 p25 p26) (bits .and .u32 p25 p27)) (bits .and .u32 p26 p27))))),p25,p26,p27,IntKind.u32.wrap (p28 + (IntKind.u32.wrap ((IntKind.u32.wrap ((IntKind.u32.wrap ((IntKind.u32.wrap (p32 + (bits .xor .u32 (bits .xor .u32 y41 y42) y43))) + (bits .xor .u32 (bits .and .u32 p29 p30) (bits .and .u32 (bits .xor .u32 4294967295 p29) p31)))) + (y2.at j44))) + (y1.at j44)))),p29,p30,p31,IntKind.i64.wrap (p33 + 1))) else (Zdm a0 p25 p26 p27 p28 p29 p30 p31 p32).map Sum.inr)
instance {y2 y1 a0 p25 p26 p27 p28 p29 p30 p31 p32 p33} : Lec (Zdn y2 y1 a0 (p25,p26,p27,p28,p29,p30,p31,p32,p33)) (XN y2 y1 a0 (p25,p26,p27,p28,p29,p30,p31,p32,p33)):=.mk' (Zdn.eq_1 ..) (XN.eq_1 ..)
noncomputable def ZeS (a0 : (Arr 8)) (a1 : (Arr 64)) : Option ((Arr 8)) :=
 (ZeR a1).bindF fun y1=>(Fref03_constants).bindF fun y2=>ZbQ (Zdn y2 y1 a0) (a0.at 0,a0.at 1,a0.at 2,a0.at 3,a0.at 4,a0.at 5,a0.at 6,a0.at 7,0)
instance {a0 a1} : Lec (ZeS a0 a1) (Xs a0 a1):=.mk' (ZeS.eq_1 ..) (Xs.eq_1 ..)
noncomputable def ZfH (p13 : (List Int)) : Option (List Int) :=
 some (p13)
instance {p13} : Lec (ZfH p13) (ZdY p13):=.mk' (ZfH.eq_1 ..) (ZdY.eq_1 ..)
noncomputable def ZfI (a0 : Int) : (Int×(List Int))→Option ((Int×(List Int)) ⊕ ((List Int)))
 | (p12,p13)=>(if 0≤p12 then (chk (¬ (IntKind.i64.wrap (8 * p12) < 0))).bindF fun _=>(chk (p13.length + 1≤140737488355328)).bindF fun _=>some (.inl (IntKind.i64.wrap (p12 - 1),p13++[IntKind.u8.wrap ((IntKind.u64.wrap (8 * a0)).fdiv (2 ^ (min (IntKind.i64.wrap (8 * p12)).toNat 64)))])) else (ZfH p13).map Sum.inr)
instance {a0 p12 p13} : Lec (ZfI a0 (p12,p13)) (ZaA a0 (p12,p13)):=.mk' (ZfI.eq_1 ..) (ZaA.eq_1 ..)
noncomputable def ZfJ (a0 : Int) (p4 : (List Int)) : Option (List Int) :=
 ZbQ (ZfI a0) (7,p4)
instance {a0 p4} : Lec (ZfJ a0 p4) (ZcN a0 p4):=.mk' (ZfJ.eq_1 ..) (ZcN.eq_1 ..)
noncomputable def ZfK (a0 : Int) : (List Int)→Option (((List Int)) ⊕ ((List Int)))
 | p4=>(if ¬ ((IntKind.u64.wrap ((IntKind.u64.wrap (a0 + (IntKind.u64.wrap ((p4.length : Int))))) + 8)).tmod 64 = 0) then (chk (p4.length + 1≤140737488355328)).bindF fun _=>some (.inl (p4++[0])) else (ZfJ a0 p4).map Sum.inr)
instance {a0 p4} : Lec (ZfK a0 p4) (Zbc a0 p4):=.mk' (ZfK.eq_1 ..) (Zbc.eq_1 ..)
noncomputable def ZhF (a0 : Int) : Option ((List Int)) :=
 ZbQ (ZfK a0) [128]
instance {a0} : Lec (ZhF a0) (Zb3 a0):=.mk' (ZhF.eq_1 ..) (Zb3.eq_1 ..)
noncomputable def Fref03_Initial : Option ((Arr 8)) :=
 some (((((((((zA 8).put 0 1779033703).put 1 3144134277).put 2 1013904242).put 3 2773480762).put 4 1359893119).put 5 2600822924).put 6 528734635).put 7 1541459225)
instance : Lec (Fref03_Initial) (Lref03_Initial):=.mk' (Fref03_Initial.eq_1 ..) (Lref03_Initial.eq_1 ..)
noncomputable def ZfL (p27 : (Arr 32)) : Option (Arr 32) :=
 some (p27)
instance {p27} : Lec (ZfL p27) (ZdZ p27):=.mk' (ZfL.eq_1 ..) (ZdZ.eq_1 ..)
noncomputable def ZfM (p12 : (Arr 8)) : (Int×(Arr 32))→Option ((Int×(Arr 32)) ⊕ ((Arr 32)))
 | (p26,p27)=>(if p26 < 8 then (inA (8) (p26)).bindF fun j33=>(inA (32) (IntKind.i64.wrap (4 * p26))).bindF fun j34=>(inA (32) (IntKind.i64.wrap ((IntKind.i64.wrap (4 * p26)) + 1))).bindF fun j35=>(inA (32) (IntKind.i64.wrap ((IntKind.i64.wrap (4 * p26)) + 2))).bindF fun j36=>(inA (32) (IntKind.i64.wrap ((IntKind.i64.wrap (4 * p26)) + 3))).bindF fun j37=>some (.inl (IntKind.i64.wrap (p26 + 1),(((p27.put j34 (IntKind.u8.wrap ((p12.at j33).fdiv 16777216))).put j35 (IntKind.u8.wrap ((p12.at j33).fdiv 65536))).put j36 (IntKind.u8.wrap ((p12.at j33).fdiv 256))).put j37 (IntKind.u8.wrap (p12.at j33)))) else (ZfL p27).map Sum.inr)
instance {p12 p26 p27} : Lec (ZfM p12 (p26,p27)) (Zbd p12 (p26,p27)):=.mk' (ZfM.eq_1 ..) (Zbd.eq_1 ..)
noncomputable def ZfN (p12 : (Arr 8)) : Option (Arr 32) :=
 ZbQ (ZfM p12) (0,zA 32)
instance {p12} : Lec (ZfN p12) (ZbR p12):=.mk' (ZfN.eq_1 ..) (ZbR.eq_1 ..)
noncomputable def ZfO (a0 : (List Int)) (y2 : ((List Int))) : (Int×(Arr 8))→Option ((Int×(Arr 8)) ⊕ ((Arr 32)))
 | (p11,p12)=>(if IntKind.i64.wrap (p11 + 64)≤(a0.length + y2.length : Int) then (chk (0≤p11∧p11≤((a0++y2).length : Int))).bindF fun _=>(ZeS p12 ((zA 64).over ((a0++y2).drop (p11).toNat))).bindF fun y39=>some (.inl (IntKind.i64.wrap (p11 + 64),y39)) else (ZfN p12).map Sum.inr)
instance {a0 y2 p11 p12} : Lec (ZfO a0 y2 (p11,p12)) (Zbe a0 y2 (p11,p12)):=.mk' (ZfO.eq_1 ..) (Zbe.eq_1 ..)
noncomputable def Zf4 (a0 : (List Int)) : Option ((Arr 32)) :=
 (chk (a0.length≤140737488355328)).bindF fun _=>(ZhF (IntKind.u64.wrap ((a0.length : Int)))).bindF fun y2=>(chk (a0.length + y2.length≤140737488355328)).bindF fun _=>(Fref03_Initial).bindF fun y4=>ZbQ (ZfO a0 y2) (0,y4)
instance {a0} : Lec (Zf4 a0) (X2 a0):=.mk' (Zf4.eq_1 ..) (X2.eq_1 ..)
noncomputable def ZhP (a0 : (List Int)) : Option ((Arr 32)) :=
 (Zf4 a0).bindF fun y1=>(Zf4 y1.l).bindF fun y2=>some (y2)
instance {a0} : Lec (ZhP a0) (XY a0):=.mk' (ZhP.eq_1 ..) (XY.eq_1 ..)
end Go.Lc
end
section
namespace Go.Lc
open Go.RowKit
open Go.Av
set_option linter.unusedVariables false
theorem ZlA {α β : Type} {l : List α} (f : α→List β) {i : Nat} (h : i < l.length) : (l.take (i + 1)).flatMap f = (l.take i).flatMap f++f l[i]:=by
 rw [List.take_succ_eq_append_getElem h,List.flatMap_append];simp
def X4 (n : Int) (k : Nat) : List Int:=(List.range k).map fun i=>IntKind.u8.wrap (n.fdiv (2 ^ (8 * i)))
@[simp] theorem Zt6 (n : Int) (k : Nat) : (X4 n k).length = k:=by simp [X4]
theorem Zmo {i : Nat} (h : i < 8) : min (IntKind.i64.wrap (8 * (i : Int))).toNat 64 = 8 * i:=by
 rw [wi _ (by omega)];omega
theorem Zos (n : Int) (k : Nat) (hk : k≤8) : Za9 n k = some (X4 n k):=by
 unfold Za9;rw [Zk (by omega)]
 have:=Xh (step:=ZbE k n) (fun i=>((i : Int),((List.range i).map fun i=>IntKind.u8.wrap (n.fdiv (2 ^ (8 * i))))++List.replicate (k - i) 0)) k (x:=some (X4 n k)) (fun i hi=>by
  simp only [ZbE];rw [if_pos (by omega),Zk (by rw [wi _ (by omega)]; omega),Zlw _ _ (by omega),Xn hi,Zmo (by omega),Zkx (fun i=>IntKind.u8.wrap (n.fdiv (2 ^ (8 * i)))) 0 hi,Zbz hi (by omega)]) (by
  simp only [ZbE];rw [if_neg (by omega)]
  simp [Zee,X4])
 simpa using this
theorem Zot (n : Int) (k : Nat) (hk : k≤8) : Zbb n k = some (X4 n k):=by
 unfold Zbb;rw [Zk (by omega)]
 have:=Xh (step:=ZbF k n) (fun i=>((i : Int),((List.range i).map fun i=>IntKind.u8.wrap (n.fdiv (2 ^ (8 * i))))++List.replicate (k - i) 0)) k (x:=some (X4 n k)) (fun i hi=>by
  simp only [ZbF];rw [if_pos (by simp; omega),Zk (by rw [wi _ (by omega)]; omega),Zlw _ _ (by omega),Xn hi,Zmo (by omega),Zkx (fun i=>IntKind.u8.wrap (n.fdiv (2 ^ (8 * i)))) 0 hi,Zbz hi (by omega)]) (by
  simp only [ZbF];rw [if_neg (by simp)]
  simp [Zef,X4])
 simpa using this
theorem Zkz {a b : List Int} (h : a.length + b.length≤140737488355328) : Za8 a b = some (a++b):=by
 unfold Za8;rw [wi _ (by omega),Zk (by omega),Zk (by omega),Zk (by omega)]
theorem ZkA {a b : List Int} (h : a.length + b.length≤140737488355328) : Zba a b = some (a++b):=by
 unfold Zba;rw [wi _ (by omega),Zk (by omega),Zk (by omega),Zk (by omega)]
section
variable {b : List Int} {n : Int}
theorem Zig (h : b.length≤140737488355000) : Xi b n = some (b++X4 (IntKind.u64.wrap n) 4):=by
 unfold Xi;have this : Za9 (IntKind.u64.wrap n) 4 = some (X4 (IntKind.u64.wrap n) 4):=Zos _ 4 (by omega);rw [this,Zf,Zkz (by simp; omega)];rfl
theorem ZiD (h : b.length≤140737488355000) : Zah b n = some (b++X4 (IntKind.u64.wrap n) 4):=by
 unfold Zah;have this : Zbb (IntKind.u64.wrap n) 4 = some (X4 (IntKind.u64.wrap n) 4):=Zot _ 4 (by omega);rw [this,Zf,ZkA (by simp; omega)];rfl
def Zs9 (n : Int) : List Int:=if n < 253 then X4 n 1 else if n < 65536 then 253 :: X4 n 2 else if n < 4294967296 then 254 :: X4 n 4 else 255 :: X4 n 8
end
def ZrU (s : List Int) : List Int:=Zs9 s.length++s
theorem Zj1 {b : List Int} {a : Arr 32} (h : b.length≤140737488355000) : Xy b a = some (b++a.l):=by
 unfold Xy;rw [Zkz (by rw [a.hl]; omega)];rfl
theorem ZlB {b : List Int} {a : Arr 32} (h : b.length≤140737488355000) : X6 b a = some (b++a.l):=by
 unfold X6;rw [ZkA (by rw [a.hl]; omega)];rfl
def ZjD (o : Tapi_OutPoint) : List Int:=o.1.l++X4 (IntKind.u64.wrap o.2) 4
@[simp] theorem Zta (o : Tapi_OutPoint) : (ZjD o).length = 36:=by simp [ZjD,o.1.hl]
theorem Zt7 (o : Tapi_OutPoint) : Zkw o = some (ZjD o):=by
 unfold Zkw;rw [Zj1 (by simp),Zf,Zig (by simp [o.1.hl])];rfl
end Go.Lc
end
section
namespace Go.Lc
open Go.RowKit
open Go.Av
set_option linter.unusedVariables false
def inB (x : Tapi_Input) : List Int:=ZjD x.1++X4 (IntKind.u64.wrap x.2.1) 4
@[simp] theorem ZuD (x : Tapi_Input) : (inB x).length = 40:=by simp [inB]
def outB (o : Tapi_Output) : List Int:=X4 (IntKind.u64.wrap o.1) 8++ZrU o.2
section
variable {t : Tapi_Tx} {w : Bool}
end
section
variable {t : Tapi_Tx} {w : Bool}
end
section
end
end Go.Lc
end
section
namespace Go.Lc
open Go.RowKit
open Go.Av
set_option linter.unusedVariables false
def Nx {σ ρ : Type} (I : Nat→σ→Prop) (Q : ρ→Prop) (n : Nat) : σ ⊕ ρ→Prop
 | .inl s=>∃ j,j < n∧I j s
 | .inr r=>Q r
theorem Tot.out {σ ρ : Type} {I : Nat→σ→Prop} {Q : ρ→Prop} {n : Nat} {x : Option ρ} (h : Tot x Q) : Tot (x.map .inr) (Nx I Q n):=by
 obtain ⟨r,rfl,h⟩:=h;exact ⟨_,rfl,h⟩
end Go.Lc
end
