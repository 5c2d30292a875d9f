import Derived.Test.YthpkpciceodioaaGreatDoorLcG2
import Derived.Test.YthpkpciceodioaaGreatDoorLcG1
import Derived.IntWalk
section
namespace Go.Lc
open Go.RowKit
open Go.Av
set_option maxRecDepth 100000
set_option linter.unusedSimpArgs false
set_option linter.unusedVariables false
abbrev Tapi_Header:=Int×(Arr 32)×(Arr 32)×Int×Int×Int
noncomputable def Xa (a0 : (List Int)) : Option (List Int) :=
 (chk (a0.length≤140737488355328)).bind fun _=>some (a0)
noncomputable def X2 (a0 : Tapi_Header) : Option ((List Int)) :=
 (Xg ([] : (List Int)) a0.1).bind fun y1=>(Xu y1 a0.2.1).bind fun y2=>(Xu y2 a0.2.2.1).bind fun y3=>(Xg y3 a0.2.2.2.1).bind fun y4=>(Xg y4 a0.2.2.2.2.1).bind fun y5=>(Xg y5 a0.2.2.2.2.2).bind fun y6=>some (y6)
noncomputable def ZeE (a0 : (Arr 32)) : Option ((Arr 2)) :=
 (Zaq ((a0.l).take 8)).bind fun y1=>(Zaq (((a0.l).drop 8).take 8)).bind fun y2=>some ((⟨[y1,y2],rfl⟩ : Arr 2))
noncomputable def ZbZ (a0 : Tapi_Header) : Option ((Arr 32)) :=
 (X2 a0).bind fun y1=>(ZcC y1).bind fun y2=>some (y2)
noncomputable def Zd2 (a1 : (Arr 32)) (a0 : Tapi_Filter) (p9 : (List (List Int))) : Option (Bool×Int) :=
 (ZeE a1).bind fun y13=>(ZbH y13 a0 p9 10 1533).bind fun y14=>some ((y14.1,y14.2))
noncomputable def Zax (p8 : Int) (p17 : (List (List Int))) : Option ((Int×(List (List Int))) ⊕ (Bool×Int)) :=
 some (.inl (IntKind.i64.wrap (p8 + 1),p17))
noncomputable def Zco (a2 : (List (List Int))) (a1 : (Arr 32)) (a0 : Tapi_Filter) : (Int×(List (List Int)))→Option ((Int×(List (List Int))) ⊕ (Bool×Int))
 | (p8,p9)=>(if p8 < (a2.length : Int) then (idx (a2) (p8)).bind fun x15=>(if 0 < (x15.length : Int) then (chk (p9.length + 1≤5864062014805)).bind fun _=>Zax p8 (p9++[x15]) else Zax p8 p9) else (Zd2 a1 a0 p9).map Sum.inr)
noncomputable def ZbI (a0 : Tapi_Filter) (a1 : (Arr 32)) (a2 : (List (List Int))) : Option (Bool×Int) :=
 Zg (Zco a2 a1 a0) (0,[])
noncomputable def Zb0 (a0 : (Arr 4)) : Option (Bool) :=
 some (decide (a0 = zA 4))
noncomputable def Lref02_Len_k1 : Option Int :=
 some (0)
noncomputable def ZdJ (a0 : (Arr 4)) : Int→Option ((Int) ⊕ (Int))
 | p4=>(if 0≤p4 then (Zcm a0 p4).bind fun y6=>(if y6 = true then some (.inr (IntKind.i64.wrap (p4 + 1))) else some (.inl (IntKind.i64.wrap (p4 - 1)))) else (Lref02_Len_k1).map Sum.inr)
noncomputable def Zdb (a0 : (Arr 4)) : Option (Int) :=
 Zg (ZdJ a0) 255
noncomputable def Zay (a0 : Int) (a1 : Int) (a2 : Int) : Option (Int×Int) :=
 (chk ((0≤a0∧0≤a1)∧(a1≤18446744073709551615∧0≤a2)∧a2≤1)).bind fun _=>some ((a0 + a1 + a2) % 18446744073709551616,(a0 + a1 + a2) / 18446744073709551616)
noncomputable def ZdK (p9 : (Arr 4)) (p7 : Int) : Option ((Arr 4)×Bool) :=
 some ((p9,decide (p7 = 1)))
noncomputable def ZdL (a0 : (Arr 4)) (a1 : (Arr 4)) : (Int×Int×(Arr 4))→Option ((Int×Int×(Arr 4)) ⊕ ((Arr 4)×Bool))
 | (p7,p8,p9)=>(if p8 < 4 then (inA (4) (p8)).bind fun j12=>(Zay (a0.at j12) (a1.at j12) p7).bind fun y13=>some (.inl (y13.2,IntKind.i64.wrap (p8 + 1),p9.put j12 y13.1)) else (ZdK p9 p7).map Sum.inr)
noncomputable def Zdc (a0 : (Arr 4)) (a1 : (Arr 4)) : Option ((Arr 4)×Bool) :=
 Zg (ZdL a0 a1) (0,0,zA 4)
noncomputable def ZdM (p6 : (Arr 4)) : Option (Arr 4) :=
 some (p6)
noncomputable def Lref02_Shl_s1 : (Int×(Arr 4))→Option ((Int×(Arr 4)) ⊕ ((Arr 4)))
 | (p5,p6)=>(if 0 < p5 then (Zdc p6 p6).bind fun y8=>some (.inl (IntKind.i64.wrap (p5 - 1),y8.1)) else (ZdM p6).map Sum.inr)
noncomputable def Zdd (a0 : (Arr 4)) (a1 : Int) : Option ((Arr 4)) :=
 (if 256≤a1 then some (zA 4) else Zg (Lref02_Shl_s1) (a1,a0))
noncomputable def Zac (p7 : (Arr 4)) : Option ((Arr 4)×Int) :=
 (Zb0 p7).bind fun y8=>(if y8 = true then some ((zA 4,120)) else some ((p7,0)))
noncomputable def ZbJ (a0 : Int) : Option ((Arr 4)×Int) :=
 (ZaU (IntKind.u64.wrap (bits .and .u32 a0 16777215))).bind fun y1=>(if ¬ (bits .and .u32 a0 8388608 = 0) then some ((zA 4,120)) else (if IntKind.i64.wrap ((a0).fdiv 16777216) < 3 then (Zcn y1 (IntKind.i64.wrap (8 * (IntKind.i64.wrap (3 - (IntKind.i64.wrap ((a0).fdiv 16777216))))))).bind fun y9=>Zac y9 else (Zb0 y1).bind fun y10=>((if ¬ (y10 = true) then (Zdb y1).bind fun y11=>some (decide (256 < IntKind.i64.wrap (y11 + (IntKind.i64.wrap (8 * (IntKind.i64.wrap ((IntKind.i64.wrap ((a0).fdiv 16777216)) - 3))))))) else some (false))).bind fun z12=>(if (¬ (y10 = true)∧z12 = true) then some ((zA 4,120)) else (Zdd y1 (IntKind.i64.wrap (8 * (IntKind.i64.wrap ((IntKind.i64.wrap ((a0).fdiv 16777216)) - 3))))).bind fun y13=>Zac y13)))
noncomputable def Zb1 (p11 : (List Int)) : Option (List Int) :=
 some (p11)
noncomputable def YW (a0 : Tapi_Header) : (Int×(List Int))→Option ((Int×(List Int)) ⊕ ((List Int)))
 | (p10,p11)=>(if p10 < (3 : Int) then (inA (3) (p10)).bind fun j15=>(([a0.2.2.2.1,a0.2.2.2.2.1,a0.2.2.2.2.2])[j15]?).bind fun x16=>(X8 p11 x16).bind fun y17=>some (.inl (IntKind.i64.wrap (p10 + 1),y17)) else (Zb1 p11).map Sum.inr)
noncomputable def X3 (a0 : Tapi_Header) : Option ((List Int)) :=
 (X8 ([] : (List Int)) a0.1).bind fun y1=>(XY y1 a0.2.1).bind fun y2=>(XY y2 a0.2.2.1).bind fun y3=>Zg (YW a0) (0,y3)
noncomputable def Zb2 (a0 : Tapi_Header) : Option ((Arr 32)) :=
 (X3 a0).bind fun y1=>(Zap y1).bind fun y2=>some (y2)
noncomputable def ZbA (p9 : (Arr 4)) : Option (Arr 4) :=
 some (p9)
noncomputable def ZbB (a0 : (Arr 32)) : (Int×(Arr 4))→Option ((Int×(Arr 4)) ⊕ ((Arr 4)))
 | (p8,p9)=>(if p8 < 32 then (inA (4) (IntKind.i64.wrap ((IntKind.i64.wrap (31 - p8)).tdiv 8))).bind fun j13=>(inA (32) (p8)).bind fun j14=>(chk (¬ (IntKind.i64.wrap (8 * ((IntKind.i64.wrap (31 - p8)).tmod 8)) < 0))).bind fun _=>some (.inl (IntKind.i64.wrap (p8 + 1),p9.put j13 (bits .or .u64 (p9.at j13) (IntKind.u64.wrap ((IntKind.u64.wrap (a0.at j14)) * (2 ^ (min (IntKind.i64.wrap (8 * ((IntKind.i64.wrap (31 - p8)).tmod 8))).toNat 64))))))) else (ZbA p9).map Sum.inr)
noncomputable def Zaz (a0 : (Arr 32)) : Option ((Arr 4)) :=
 Zg (ZbB a0) (0,zA 4)
noncomputable def Zde (a0 : (Arr 32)) : Option ((Arr 2)) :=
 (Zbd ((a0.l).take 8)).bind fun y1=>(Zbd (((a0.l).drop 8).take 8)).bind fun y2=>some ((⟨[y1,y2],rfl⟩ : Arr 2))
noncomputable def Zem (a1 : (Arr 32)) (a0 : Tapi_Filter) (p9 : (List (List Int))) : Option (Bool×Int) :=
 (Zde a1).bind fun y13=>(Zcb y13 a0 p9 10 1533).bind fun y14=>some ((y14.1,y14.2))
noncomputable def ZaV (p8 : Int) (p17 : (List (List Int))) : Option ((Int×(List (List Int))) ⊕ (Bool×Int)) :=
 some (.inl (IntKind.i64.wrap (p8 + 1),p17))
noncomputable def ZcO (a2 : (List (List Int))) (a1 : (Arr 32)) (a0 : Tapi_Filter) : (Int×(List (List Int)))→Option ((Int×(List (List Int))) ⊕ (Bool×Int))
 | (p8,p9)=>(if p8 < (a2.length : Int) then (idx (a2) (p8)).bind fun x15=>(if 0 < (x15.length : Int) then (chk (p9.length + 1≤5864062014805)).bind fun _=>ZaV p8 (p9++[x15]) else ZaV p8 p9) else (Zem a1 a0 p9).map Sum.inr)
noncomputable def Zcc (a0 : Tapi_Filter) (a1 : (Arr 32)) (a2 : (List (List Int))) : Option (Bool×Int) :=
 Zg (ZcO a2 a1 a0) (0,[])
end Go.Lc
end
section
namespace Go.Lc
open Go.RowKit
open Go.Av
set_option maxRecDepth 100000
set_option linter.unusedSimpArgs false
set_option linter.unusedVariables false
noncomputable def Lconst_true : Option Bool :=
 some true
noncomputable def Xj (a0 : Tapi_Filter) (a1 : (Arr 32)) (a2 : (List (List Int))) : Option (Bool) :=
 (Lconst_true).bind fun y1=>(if ¬ (y1 = true) then some (false) else ((if 400 < (a0.2.length : Int) then some (false) else (ZcE a2 30 100).bind fun y2=>some (!(y2)))).bind fun z3=>(if (400 < (a0.2.length : Int)∨z3 = true) then some (true) else (ZbI a0 a1 a2).bind fun y4=>(Zcc a0 a1 a2).bind fun y5=>some (((y4.1 == y5.1) && decide (y4.2 = y5.2)))))
end Go.Lc
end
section
namespace Go.Av
open Go.RowKit
set_option linter.unusedVariables false
theorem bA {β : Type} {n : Nat} {i : Int} {f : Nat→Option β} {y : β} (h : (inA n i).bind f = some y) : ∃ j,(0≤i∧i.toNat = j∧j < n)∧f j = some y :=
 let ⟨j,h1,h2⟩:=bs h
 ⟨j,Zn h1,h2⟩
theorem bI {α β : Type} {l : List α} {i : Int} {f : α→Option β} {y : β} (h : (idx l i).bind f = some y) : ∃ x,(0≤i∧l[i.toNat]? = some x∧∀ h' : i.toNat < l.length,l[i.toNat] = x)∧f x = some y :=
 let ⟨x,h1,h2⟩:=bs h
 ⟨x,⟨(Ziq h1).1,(Ziq h1).2,Zj (Ziq h1).2⟩,h2⟩
theorem bC {β : Type} {p : Prop} [Decidable p] {f : Unit→Option β} {y : β} (h : (chk p).bind f = some y) : p∧f () = some y :=
 let ⟨_,h1,h2⟩:=bs h
 ⟨ZA h1,h2⟩
theorem bG {α β : Type} {o : Option α} {f : α→Option β} {y : β} {P : α→Prop} (h : o.bind f = some y) (k : ∀ x,o = some x→P x) : ∃ x,P x∧f x = some y :=
 let ⟨x,h1,h2⟩:=bs h
 ⟨x,k x h1,h2⟩
theorem eqT (p : Prop) : (p = True)∨¬ p:=(Classical.em p).imp eq_true id
theorem ifP {α : Type} {c : Prop} [Decidable c] {a b r : α} (h : (if c then a else b) = r) (hc : c:=by simp [-Int.ofNat_toNat, *]) : a = r:=by rwa [if_pos hc] at h
theorem Zgb {α β : Type} {c : Prop} [Decidable c] {a b : Option α} {f : α→Option β} {r : Option β} (h : (if c then a else b).bind f = r) (hc : c:=by simp [-Int.ofNat_toNat, *]) : a.bind f = r:=by rwa [if_pos hc] at h
theorem Zgc {α β : Type} {c : Prop} [Decidable c] {a b : Option α} {f : α→Option β} {r : Option β} (h : (if c then a else b).bind f = r) (hc : ¬ c:=by simp [-Int.ofNat_toNat, *]) : b.bind f = r:=by rwa [if_neg hc] at h
theorem ifN {α : Type} {c : Prop} [Decidable c] {a b r : α} (h : (if c then a else b) = r) (hc : ¬ c:=by simp [-Int.ofNat_toNat, *]) : b = r:=by rwa [if_neg hc] at h
attribute [simp] YH YO Xd
structure Con (α β : Type) where
 E : α→List PV
 R : α→β→PV×List (List Cell)
 g : α→Option β
section
variable {α β : Type} {K : Con α β}
noncomputable def Con.G (K : Con α β) : List PV→Option (PV×List (List Cell)):=XG K.E fun x=>(K.g x).map (K.R x)
def Con.Inj (K : Con α β) : Prop:=∀ a b,K.E a = K.E b→a = b
theorem Con.Inj.eq (hi : K.Inj) {x : α} {y : β} (h : K.g x = some y) : K.G (K.E x) = some (K.R x y):=Xh hi h
theorem Con.none {ps : List PV} (h : ∀ a,K.E a = ps→False) : K.G ps = none:=ZnB h
def Zq (T : Tab) : List (Nat×(List PV→Option (PV×List (List Cell))))→Prop
 | []=>True
 | (g,F) :: l=>T g = some F∧Zq T l
theorem ZmP {l m : List (Nat×(List PV→Option (PV×List (List Cell))))} {own : Nat→List (List Nat)} (h : ∀ p∈m,(tab l own).fn p.1 = some p.2) : Zq (tab l own) m:=by
 induction m with
 | nil=>trivial
 | cons p m ih=>exact ⟨h p (by simp),ih fun q hq=>h q (by simp [hq])⟩
def Walk (tt : TT) (G : Glob) (l : List (Nat×(List PV→Option (PV×List (List Cell))))) (own : Nat→List (List Nat)) (fn : Func) (K : Con α β) : Prop :=
 ∀ T : Tab,T.own = own→Zq T l→∀ x y,K.g x = some y→∃ kp fl n,Y8 tt T G kp fl n fn (K.E x) = some (K.R x y)
def kpL : List (Nat×Kp)→Keep
 | [],_=>⟨[],[],[]⟩
 | (j,q) :: l,i=>if i = j then q else kpL l i
theorem Walk.of {tt : TT} {G : Glob} {l : List (Nat×(List PV→Option (PV×List (List Cell))))} {own : Nat→List (List Nat)} {fn : Func} {c : Code} {n : Nat} (kl : List (Nat×Kp)) (w : Bool) (hb : fn.body = some c) (hn : fn.ntmps = n)
  (h : ∀ T : Tab,T.own = own→Zq T l→∀ x y,K.g x = some y→ZhM (K.E x) = true∧ZW tt T G (kpL kl) c ⟨(ioIn 0 0 (K.E x)).1++List.replicate (n - (K.E x).length) .skip,Zgy (K.E x)⟩ (Zaj tt w fn (K.E x) (K.R x y))) : Walk tt G l own fn K :=
 fun T h1 h2 x y h3=>fnE (kp:=kpL kl) (w:=w) hb (h T h1 h2 x y h3).1 (by rw [hn]; exact (h T h1 h2 x y h3).2)
def distinctF : List (Nat×(List PV→Option (PV×List (List Cell))))→Bool
 | []=>true
 | (g,_) :: l=>l.all (fun q=>!(q.1 == g)) && distinctF l
theorem ZiV {own : Nat→List (List Nat)} : ∀ {l : List (Nat×(List PV→Option (PV×List (List Cell))))},distinctF l = true→∀ p∈l,tabF l p.1 = some p.2
 | [],_,p,hp=>by simp at hp
 | (g,F) :: l,h,p,hp=>by
  simp only [distinctF,Bool.and_eq_true,List.all_eq_true] at h;simp only [tabF];rcases List.mem_cons.1 hp with rfl | hp
  ·simp
  ·have:=h.1 p hp
   rw [if_neg (by simpa using this)];exact ZiV (own:=own) h.2 p hp
theorem mkW {P : Program} {tt : TT} {G : Glob} {l : List (Nat×(List PV→Option (PV×List (List Cell))))} {own : Nat→List (List Nat)} (hm : P.follows .mixedOrders = true) (htt : ∀ t i,tt t = some i→Yr P t = some i)
  {f : FuncId} {fn : Func} {c : Code} (w : Walk tt G l own fn K) (hT : ZkC P G l) (hf : P.funcs[f]? = some fn) (hb : fn.body = some c) (hname : (!(fn.name == "runtime.NumGoroutine") && distinctF l) = true) : Zi P G f K.G:=by
 simp only [Bool.and_eq_true,Bool.not_eq_true'] at hname;exact mkI (T:=tab l own) hm htt (tab_ok hT) hf hb hname.1 fun x y hy=>w _ rfl (ZmP (ZiV (own:=own) hname.2)) x y hy
end
attribute [simp] kpL
section
variable {tt : TT} {T : Tab} {G : Glob} {kp : Keep} {st st0 st1 : ASt} {a b c d : Code} {Q Q' : AE→ASt→Prop} {P R H : Prop}
def Imp (R P : Prop) : Prop:=R→P
structure ZhU (X R : Prop) : Prop where
 h : X = R
theorem Imp.of (e : ZhU P R) : Imp P R:=fun p=>e.h ▸ p
theorem Zen {id : Nat} {ops : Array Oper} (hc : c = .region id ops false) (h : Ze3 tt T G ops.toList ops.toList st = some st1) (hq : Imp R (ZW tt T G kp b st1 Q)) (hj : (kp (id + 1000000)).ks.isEmpty = true:=by rfl) : Imp R (ZW tt T G kp (.seq c b) st Q):=fun r=>Zd hc h (hq r) hj
theorem Zdw {id : Nat} {ops : Array Oper} {fs : List Foot} (hc : c = .region id ops true) (h : Ze4 tt T G ops.toList ops.toList st = some (st1,fs)) (hd : ZcQ ops.toList fs = true) (hq : Imp R (ZW tt T G kp b st1 Q)) (hj : (kp (id + 1000000)).ks.isEmpty = true:=by rfl) : Imp R (ZW tt T G kp (.seq c b) st Q):=fun r=>ZZ hc h hd (hq r) hj
theorem Zhw {id : Nat} {ops : Array Oper} (hc : c = .region id ops false) (h : Ze3 tt T G ops.toList ops.toList st = some st1) (hq : Imp R (Q .normal st1)) (hj : (kp (id + 1000000)).ks.isEmpty = true:=by rfl) : Imp R (ZW tt T G kp c st Q):=fun r=>Y4 hc h (hq r) hj
theorem Zgo {id : Nat} {ops : Array Oper} {fs : List Foot} (hc : c = .region id ops true) (h : Ze4 tt T G ops.toList ops.toList st = some (st1,fs)) (hd : ZcQ ops.toList fs = true) (hq : Imp R (Q .normal st1)) (hj : (kp (id + 1000000)).ks.isEmpty = true:=by rfl) : Imp R (ZW tt T G kp c st Q):=fun r=>Zfw hc h hd (hq r) hj
theorem ZfQ (h : Imp R (ZW tt T G kp (.seq a (.seq b d)) st Q)) : Imp R (ZW tt T G kp (.seq (.seq a b) d) st Q):=fun r=>Zy (h r)
theorem Zgp (h : Imp R (Q .normal st)) : Imp R (ZW tt T G kp .skip st Q):=fun r=>Zgl (h r)
theorem Zhx (h : Imp R (Q .ret st)) : Imp R (ZW tt T G kp .ret st Q):=fun r=>Zbm (h r)
theorem Zgq {id : Nat} (h : Imp R (Q (.exit id) st)) : Imp R (ZW tt T G kp (.exit id) st Q):=fun r=>ZlG (h r)
theorem Zdx (h : Imp R (ZW tt T G kp b st Q)) : Imp R (ZW tt T G kp (.seq .skip b) st Q):=fun r=>Zz (h r)
theorem Zeo (h : Imp R (Q .ret st)) : Imp R (ZW tt T G kp (.seq .ret b) st Q):=fun r=>ZaD (h r)
theorem Zdy {id : Nat} (h : Imp R (Q (.exit id) st)) : Imp R (ZW tt T G kp (.seq (.exit id) b) st Q):=fun r=>Z0 (h r)
theorem ZfR {id : Nat} (h : Imp R (ZW tt T G kp c st (Zfs id Q))) : Imp R (ZW tt T G kp (.block id c) st Q):=fun r=>XH (h r)
theorem ZcW {id : Nat} (h : Imp R (ZW tt T G kp c st (Zfs id (Zeh (fun s=>ZW tt T G kp d s Q) Q)))) : Imp R (ZW tt T G kp (.seq (.block id c) d) st Q):=fun r=>Yd (h r)
theorem ZfS {x : Operand} (h : rd G st.get x = some (bV true)) (h1 : Imp R (ZW tt T G kp a st Q)) : Imp R (ZW tt T G kp (.cond x a b) st Q):=fun r=>Zbn h (h1 r)
theorem ZfT {x : Operand} (h : rd G st.get x = some (bV false)) (h1 : Imp R (ZW tt T G kp b st Q)) : Imp R (ZW tt T G kp (.cond x a b) st Q):=fun r=>Zbo h (h1 r)
theorem ZcX {x : Operand} (h : rd G st.get x = some (bV true)) (h1 : Imp R (ZW tt T G kp (.seq a d) st Q)) : Imp R (ZW tt T G kp (.seq (.cond x a b) d) st Q):=fun r=>ZB h (h1 r)
theorem ZcY {x : Operand} (h : rd G st.get x = some (bV false)) (h1 : Imp R (ZW tt T G kp (.seq b d) st Q)) : Imp R (ZW tt T G kp (.seq (.cond x a b) d) st Q):=fun r=>Zl h (h1 r)
theorem ZiW (h : Imp R P) (e : H = P) : Imp R H:=fun r=>e ▸ h r
theorem go (k : R) (h : ∀ X : Prop,ZhU X R→Imp X P:=by
 intro X e
 repeat (first
  | (with_reducible refine ZfQ ?_)
  | (with_reducible refine Zdx ?_)
  | (with_reducible refine ZcW ?_)
  | (with_reducible refine Zdy ?_)
  | (with_reducible refine Zeo ?_)
  | (with_reducible refine ZfR ?_)
  | (with_reducible refine Zgp ?_)
  | (with_reducible refine Zgq ?_)
  | (with_reducible refine Zhx ?_)
  | (with_reducible refine ZcX ?_ ?_; · simp [-Int.ofNat_toNat,bV, *]; done)
  | (with_reducible refine ZcY ?_ ?_; · simp [-Int.ofNat_toNat,bV, *]; done)
  | (refine Zen rfl (by first | (simp [-Int.ofNat_toNat, *] <;> rfl) | fail) ?_)
  | (refine Zdw rfl (by simp [-Int.ofNat_toNat, *]; first | exact ⟨rfl,rfl⟩ | rfl) (by kernel_rfl) ?_)
  | (with_reducible refine ZfS ?_ ?_; · simp [-Int.ofNat_toNat,bV, *]; done)
  | (with_reducible refine ZfT ?_ ?_; · simp [-Int.ofNat_toNat,bV, *]; done)
  | (refine Zhw rfl (by first | (simp [-Int.ofNat_toNat, *] <;> rfl) | fail) ?_)
  | (refine Zgo rfl (by simp [-Int.ofNat_toNat, *]; first | exact ⟨rfl,rfl⟩ | rfl) (by kernel_rfl) ?_)
  | (refine ZiW ?_ (by simp only [pq,reduceCtorEq]; rfl)))
 exact Imp.of e) : P:=h R ⟨rfl⟩ k
theorem nrm {p q : Prop} (c : p) (h : p→q:=by
 intro h;try simp [-Int.ofNat_toNat] at h
 first | exact (eq_true h : (_ = _) = True) | exact h) : q:=h c
theorem nst (k : R) (h : P = R:=by simp only [und,List.replicate,List.cons_append,List.nil_append]; rfl) : P:=h ▸ k
theorem fin (h : H) (k : H→P:=by
 intro h;obtain rfl:=Option.some.inj h
 repeat (simp only [pq,reduceCtorEq]; rintro rfl)
 simp [-Int.ofNat_toNat,Zaj, *]) : P:=k h
theorem bk (h : H) (k : H→P:=by
 intro h;obtain rfl:=Option.some.inj h
 repeat (simp only [pq,reduceCtorEq]; rintro rfl)
 simp only [pq,reduceCtorEq]
 simp [-Int.ofNat_toNat,und,List.replicate,Nat.add_assoc, *]) : P:=k h
theorem lp {σ ρ : Type} {step : σ→Option (σ ⊕ ρ)} (n : Nat) (H : σ→ASt) {s : σ} {r : ρ}
  (hr : Zg step s = some r)
  (hb : ∀ s x,step s = some x→ZW tt T G kp c (H s) (QL (kp n) H Q r x)) (hn : firstId c = n:=by kernel_rfl) (hf : Za5 (kp n) st = H s:=by simp [-Int.ofNat_toNat,und,List.replicate, *]) : ZW tt T G kp (.loop c) st Q :=
 XB (by rw [hn]) hr hf hb
theorem ua (h : ZW tt T G kp (.seq (.seq a b) d) st Q) : ZW tt T G kp (.seq a (.seq b d)) st Q:=by
 obtain ⟨n0,e,s,h1,h2⟩:=h;refine ⟨n0,e,s,fun n hn=>?_,h2⟩;rw [← h1 n hn];simp only [YX];cases YX tt T G kp n a st with
 | none=>rfl
 | some x=>obtain ⟨e,s⟩:=x; cases e <;> rfl
theorem jn {H : ASt} (key : Nat) (h0 : ZW tt T G kp d H Q) (h : ZW tt T G kp d H Q→ZW tt T G kp c H Q:=by first | exact id | exact ua | exact fun h=>ua (ua h)) (hc : firstJ c = some key:=by rfl) (ha : (kp key).ks.isEmpty = false:=by rfl) (hf : Za5 (kp key) st = Za5 (kp key) H:=by simp [-Int.ofNat_toNat,und,List.replicate, *]) : ZW tt T G kp c st Q :=
 Y7 hc rfl ha hf (h h0)
end
abbrev kk (fn : Func) (F : (Nat→Code)→Code) : Code:=F (reg fn)
abbrev co (n : Nat) (a b : Code) : Code:=.cond (.tmp n) a b
abbrev rt : Code:=.ret
end Go.Av
end
section
namespace Go.Lc
open Go.RowKit
open Go.Av
set_option linter.unusedVariables false
theorem ZG {σ ρ : Type} {step : σ→Option (σ ⊕ ρ)} {s s' : σ} (h : step s = some (.inl s')) : Zg step s = Zg step s' := by rw [ZgS,h]
theorem Ym {σ ρ : Type} {step : σ→Option (σ ⊕ ρ)} {s : σ} {x : Option ρ} (h : step s = x.map .inr) : Zg step s = x:=by
 rw [ZgS,h];cases x <;> rfl
theorem Yf {σ ρ : Type} {step : σ→Option (σ ⊕ ρ)} {s : σ} {r : ρ} (h : step s = some (.inr r)) : Zg step s = some r:=by rw [ZgS,h]
theorem Xf {σ ρ : Type} {step : σ→Option (σ ⊕ ρ)} (enc : Nat→σ) (n : Nat) {x : Option ρ} (h : ∀ i,i < n→step (enc i) = some (.inl (enc (i + 1)))) (he : step (enc n) = x.map .inr) : Zg step (enc 0) = x:=by
 have key : ∀ k,k≤n→Zg step (enc (n - k)) = x:=by
  intro k;induction k with
  | zero=>intro _; exact Ym he
  | succ k ih =>
   intro hk;rw [ZG (h (n - (k + 1)) (by omega)),show n - (k + 1) + 1 = n - k by omega];exact ih (by omega)
 have:=key n (Nat.le_refl _)
 rwa [Nat.sub_self] at this
theorem Xk {σ ρ : Type} {step : σ→Option (σ ⊕ ρ)} (I : Nat→σ→Prop) (Q : ρ→Prop) (h : ∀ i s,I i s→(∃ j s',j < i∧step s = some (.inl s')∧I j s')∨∃ r,step s = some (.inr r)∧Q r) : ∀ (n : Nat) (s : σ),I n s→∃ r,Zg step s = some r∧Q r:=by
 intro n;induction n using Nat.strongRecOn with
 | _ n ih =>
  intro s hs;rcases h n s hs with ⟨j,s',hj,h1,h2⟩ | ⟨r,h1,h2⟩
  ·obtain ⟨r,h3,h4⟩:=ih j hj s' h2
   exact ⟨r,(ZG h1).trans h3,h4⟩
  ·exact ⟨r,Yf h1,h2⟩
def Tot {α : Type} (x : Option α) (Q : α→Prop) : Prop:=∃ a,x = some a∧Q a
section
variable {α β : Type} {x : Option α} {f : α→Option β} {P : α→Prop} {Q : β→Prop}
theorem Tot.bind (h : Tot x P) (k : ∀ a,P a→Tot (f a) Q) : Tot (x.bind f) Q:=by
 obtain ⟨a,rfl,ha⟩:=h;exact k a ha
theorem Tot.mono {P' : α→Prop} (h : Tot x P) (k : ∀ a,P a→P' a) : Tot x P' := by
 obtain ⟨a,h1,ha⟩:=h;exact ⟨a,h1,k a ha⟩
theorem Zd3 {a : α} (h : P a) : Tot (some a) P:=⟨a,rfl,h⟩
theorem Zgr {c : Prop} [Decidable c] {a b : Option α} (h1 : c→Tot a P) (h2 : ¬ c→Tot b P) : Tot (if c then a else b) P:=by
 by_cases h : c
 ·rw [if_pos h]; exact h1 h
 ·rw [if_neg h]; exact h2 h
theorem Tot.inr {ρ σ : Type} {x : Option ρ} {Q : ρ→Prop} (h : Tot x Q) : ∃ r,(x.map Sum.inr : Option (σ ⊕ ρ)) = some (.inr r)∧Q r:=by
 obtain ⟨a,rfl,ha⟩:=h;exact ⟨a,rfl,ha⟩
end
theorem Zf {α β : Type} (a : α) (f : α→Option β) : (some a).bind f = f a:=rfl
theorem Zh {p : Prop} [Decidable p] {α : Type} {f : Unit→Option α} (h : p) : (chk p).bind f = f ():=by rw [ZlH h]; rfl
theorem ZpT {α : Type} {l : List α} {i : Nat} (h : i < l.length) : idx l (i : Int) = some l[i]:=by simp [idx,h]
theorem Xl {α β : Type} {l : List α} {i : Nat} {f : α→Option β} (h : i < l.length) : (idx l (i : Int)).bind f = f l[i]:=by rw [ZpT h]; rfl
theorem ZpU {n i : Nat} (h : i < n) : inA n (i : Int) = some i:=by simp [inA,h]
theorem Xm {β : Type} {n i : Nat} {f : Nat→Option β} (h : i < n) : (inA n (i : Int)).bind f = f i:=by rw [ZpU h]; rfl
theorem ZfU {α β : Type} {l : List α} {i : Nat} {f : α→Option β} (h : i < l.length) : (l[i]?).bind f = f l[i]:=by rw [List.getElem?_eq_getElem h]; rfl
theorem wi (n : Int) (h : -9223372036854775808≤n∧n≤9223372036854775807) : IntKind.i64.wrap n = n:=IntWalk.i64_in n h
theorem Zbk {i n : Nat} (h : i < n) (hn : n≤9223372036854775807) : IntKind.i64.wrap ((i : Int) + 1) = ((i + 1 : Nat) : Int):=by rw [wi _ (by omega)]; omega
theorem wu (n : Int) (h : 0≤n∧n≤18446744073709551615) : IntKind.u64.wrap n = n:=IntWalk.u64_in n h
theorem ZjR {α : Type} (f : Nat→α) (z : α) {i k : Nat} (h : i < k) : (((List.range i).map f)++List.replicate (k - i) z).set i (f i) = ((List.range (i + 1)).map f)++List.replicate (k - (i + 1)) z:=by
 rw [List.set_append_right _ _ (by simp)];simp only [List.length_map,List.length_range,Nat.sub_self];rw [show k - i = (k - (i + 1)) + 1 by omega,List.replicate_succ,List.set_cons_zero,List.range_succ,List.map_append];simp
theorem ZkR {α : Type} (f : Nat→α) (z : α) {i k : Nat} (h : i≤k) : (((List.range i).map f)++List.replicate (k - i) z).length = k:=by simp; omega
end Go.Lc
end
section
namespace Go.Lc
open Go.RowKit
open Go.Av
set_option linter.unusedVariables false
set_option linter.unusedSimpArgs false
class YJ (α : Type) where
 force : {β : Type}→α→(α→β)→β
 eq : ∀ {β : Type} (a : α) (k : α→β),force a k = k a
noncomputable def ZC {β : Type} (n : Nat) (k : Nat→β) : β:=Nat.rec (motive:=fun _=>β) (k Nat.zero) (fun m _=>k (Nat.succ m)) n
theorem Yg {β : Type} (n : Nat) (k : Nat→β) : ZC n k = k n:=by cases n <;> rfl
noncomputable instance : YJ Nat:=⟨ZC,Yg⟩
noncomputable def ZnF {β : Type} (i : Int) (k : Int→β) : β:=Int.rec (motive:=fun _=>β) (fun n=>ZC n fun m=>k (Int.ofNat m)) (fun n=>ZC n fun m=>k (Int.negSucc m)) i
theorem ZnG {β : Type} (i : Int) (k : Int→β) : ZnF i k = k i:=by
 cases i with
 | ofNat n=>exact Yg n fun m=>k (Int.ofNat m)
 | negSucc n=>exact Yg n fun m=>k (Int.negSucc m)
noncomputable instance : YJ Int:=⟨ZnF,ZnG⟩
noncomputable def ZnH {β : Type} (b : Bool) (k : Bool→β) : β:=Bool.rec (motive:=fun _=>β) (k false) (k true) b
theorem ZnI {β : Type} (b : Bool) (k : Bool→β) : ZnH b k = k b:=by cases b <;> rfl
noncomputable instance : YJ Bool:=⟨ZnH,ZnI⟩
noncomputable instance : YJ Unit:=⟨fun _ k=>k (),fun _ _=>rfl⟩
noncomputable def ZnJ {α γ β : Type} [YJ α] [YJ γ] (p : α×γ) (k : α×γ→β) : β:=Prod.rec (motive:=fun _=>β) (fun a c=>YJ.force a fun a=>YJ.force c fun c=>k (a,c)) p
theorem ZnK {α γ β : Type} [YJ α] [YJ γ] (p : α×γ) (k : α×γ→β) : ZnJ p k = k p:=by
 obtain ⟨a,c⟩:=p;exact (YJ.eq a _).trans (YJ.eq c _)
noncomputable instance {α γ : Type} [YJ α] [YJ γ] : YJ (α×γ):=⟨ZnJ,ZnK⟩
noncomputable def ZkS {α β : Type} [YJ α] (l : List α) (k : List α→β) : β:=List.rec (motive:=fun _=>(List α→β)→β) (fun k=>k []) (fun a _ ih k=>YJ.force a fun a=>ih fun l=>k (a :: l)) l k
theorem ZjS {α β : Type} [YJ α] (l : List α) (k : List α→β) : ZkS l k = k l:=by
 induction l generalizing k with
 | nil=>rfl
 | cons a l ih =>
  refine (YJ.eq (β:=β) a _).trans ?_;exact ih fun l=>k (a :: l)
noncomputable instance {α : Type} [YJ α] : YJ (List α):=⟨ZkS,ZjS⟩
noncomputable def ZkT {n : Nat} {β : Type} (a : Arr n) (k : Arr n→β) : β:=ZkS a.l fun l=>if h : Nat.beq l.length n = true then k ⟨l,Nat.eq_of_beq_eq_true h⟩ else k a
theorem ZnL {n : Nat} {β : Type} (a : Arr n) (k : Arr n→β) : ZkT a k = k a:=by
 unfold ZkT;rw [ZjS];split <;> rfl
noncomputable instance {n : Nat} : YJ (Arr n):=⟨ZkT,ZnL⟩
noncomputable def _root_.Option.bindF {α β : Type} [YJ α] (o : Option α) (f : α→Option β) : Option β:=Option.rec (motive:=fun _=>Option β) none (fun x=>YJ.force x f) o
theorem ZkU {α β : Type} [YJ α] (o : Option α) (f : α→Option β) : o.bindF f = o.bind f:=by
 cases o with
 | none=>rfl
 | some x=>exact YJ.eq x f
noncomputable def Zis {σ ρ : Type} [YJ σ] (step : σ→Option (σ ⊕ ρ)) (s : σ) : Option ρ :=
 Nat.rec (motive:=fun _=>σ→Option ρ) (fun _=>none) (fun _ ih s=>Option.rec (motive:=fun _=>Option ρ) none (fun x=>Sum.rec (motive:=fun _=>Option ρ) (fun s'=>YJ.force s' ih) (fun r=>some r) x) (step s)) 1000000 s
noncomputable instance {α γ : Type} [YJ α] [YJ γ] : YJ (α ⊕ γ):=⟨fun x k=>Sum.rec (motive:=fun _=>_) (fun a=>YJ.force a fun a=>k (.inl a)) (fun c=>YJ.force c fun c=>k (.inr c)) x,fun x k=>by cases x <;> exact YJ.eq _ _⟩
noncomputable instance {α : Type} [YJ α] : YJ (Option α):=⟨fun x k=>Option.rec (motive:=fun _=>_) (k none) (fun a=>YJ.force a fun a=>k (some a)) x,fun x k=>by cases x <;> first | rfl | exact YJ.eq _ _⟩
def Le {α : Type} (o o' : Option α) : Prop:=∀ x,o = some x→o' = some x
theorem Le.refl {α : Type} (o : Option α) : Le o o:=fun _ h=>h
theorem ZpV {α β : Type} [YJ α] {o o' : Option α} {f f' : α→Option β} (h : Le o o') (hf : ∀ x,Le (f x) (f' x)) : Le (o.bindF f) (o'.bind f'):=by
 intro y hy;rw [ZkU] at hy;obtain ⟨x,hx,hy⟩:=Option.bind_eq_some_iff.1 hy;rw [h _ hx];exact hf x _ hy
theorem Zrb {α β : Type} {o o' : Option α} {f : α→β} (h : Le o o') : Le (o.map f) (o'.map f):=by
 intro y hy;obtain ⟨x,hx,rfl⟩:=Option.map_eq_some_iff.1 hy;rw [h _ hx];rfl
theorem Zrc {α : Type} {p : Prop} [Decidable p] {a a' b b' : Option α} (h : Le a a') (h' : Le b b') : Le (if p then a else b) (if p then a' else b'):=by
 split
 ·exact h
 ·exact h'
theorem Zrd {σ ρ : Type} [YJ σ] {step step' : σ→Option (σ ⊕ ρ)} {s : σ} (h : ∀ s,Le (step s) (step' s)) : Le (Zis step s) (Zg step' s):=by
 have key : ∀ (n : Nat) (s : σ) (r : ρ),(Nat.rec (motive:=fun _=>σ→Option ρ) (fun _=>none) (fun _ ih s=>Option.rec (motive:=fun _=>Option ρ) none (fun x=>Sum.rec (motive:=fun _=>Option ρ) (fun s'=>YJ.force s' ih) (fun r=>some r) x) (step s)) n s : Option ρ) = some r→Zg step' s = some r:=by
  intro n;induction n with
  | zero=>intro s r h; cases h
  | succ n ih =>
   intro s r hr;simp only at hr;rcases hs : step s with _ | (s' | r')
   ·rw [hs] at hr; cases hr
   ·rw [hs] at hr
    have hr:=(YJ.eq s' _).symm.trans hr;rw [ZG (h s _ hs)];exact ih s' r hr
   ·rw [hs] at hr
    obtain rfl:=Option.some.inj hr;exact Yf (h s _ hs)
 intro r hr;exact key 1000000 s r hr
class Lec {α : Type} (o o' : Option α) : Prop where
 h : Le o o'
theorem Lec.mk' {α : Type} {o o' p p' : Option α} (e : o = p) (e' : o' = p') (h : Le p p' := by
 repeat' (first
  | (with_reducible exact Le.refl _)
  | (with_reducible exact Lec.h)
  | (with_reducible refine Zrd fun s=>?_; repeat (first | (with_reducible exact Lec.h) | (rcases s with ⟨_,s⟩)))
  | (with_reducible refine ZpV ?_ fun _=>?_)
  | (with_reducible refine Zrc ?_ ?_)
  | (with_reducible refine Zrb ?_))) : Lec o o' := ⟨by rw [e,e']; exact h⟩
end Go.Lc
end
section
namespace Go.Lc
open Go.RowKit
open Go.Av
set_option maxRecDepth 100000
set_option linter.unusedVariables false
noncomputable def Zft (a0 : (Arr 4)) (a1 : Int) : Option (Bool) :=
 (inA (4) (IntKind.i64.wrap ((a1).tdiv 64))).bindF fun j1=>(chk (¬ ((a1).tmod 64 < 0))).bindF fun _=>some (decide (bits .and .u64 ((a0.at j1).fdiv (2 ^ (min ((a1).tmod 64).toNat 64))) 1 = 1))
instance {a0 a1} : Lec (Zft a0 a1) (Zcm a0 a1):=.mk' (Zft.eq_1 ..) (Zcm.eq_1 ..)
noncomputable def Ze9 (p12 : (Arr 4)) : Option (Arr 4) :=
 some (p12)
instance {p12} : Lec (Ze9 p12) (ZdH p12):=.mk' (Ze9.eq_1 ..) (ZdH.eq_1 ..)
noncomputable def ZdN (p11 : Int) (p20 : (Arr 4)) : Option ((Int×(Arr 4)) ⊕ ((Arr 4))) :=
 some (.inl (IntKind.i64.wrap (p11 + 1),p20))
instance {p11 p20} : Lec (ZdN p11 p20) (Za2 p11 p20):=.mk' (ZdN.eq_1 ..) (Za2.eq_1 ..)
noncomputable def Zfa (a1 : Int) (a0 : (Arr 4)) : (Int×(Arr 4))→Option ((Int×(Arr 4)) ⊕ ((Arr 4)))
 | (p11,p12)=>(if IntKind.i64.wrap (p11 + a1) < 256 then (Zft a0 (IntKind.i64.wrap (p11 + a1))).bindF fun y17=>(if y17 = true then (inA (4) (IntKind.i64.wrap ((p11).tdiv 64))).bindF fun j21=>(chk (¬ ((p11).tmod 64 < 0))).bindF fun _=>ZdN p11 (p12.put j21 (bits .or .u64 (p12.at j21) (IntKind.u64.wrap (1 * (2 ^ (min ((p11).tmod 64).toNat 64)))))) else ZdN p11 p12) else (Ze9 p12).map Sum.inr)
instance {a1 a0 p11 p12} : Lec (Zfa a1 a0 (p11,p12)) (ZdI a1 a0 (p11,p12)):=.mk' (Zfa.eq_1 ..) (ZdI.eq_1 ..)
noncomputable def Zep (a0 : (Arr 4)) (a1 : Int) : Option ((Arr 4)) :=
 (if a1≤0 then some (a0) else (if 256≤a1 then some (zA 4) else Zis (Zfa a1 a0) (0,zA 4)))
instance {a0 a1} : Lec (Zep a0 a1) (Zcn a0 a1):=.mk' (Zep.eq_1 ..) (Zcn.eq_1 ..)
noncomputable def Zd4 (a0 : Int) (a1 : Int) (a2 : Int) : Option (Int×Int) :=
 (chk ((0≤a0∧0≤a1)∧(a1≤18446744073709551615∧0≤a2)∧a2≤1)).bindF fun _=>some ((a0 + a1 + a2) % 18446744073709551616,(a0 + a1 + a2) / 18446744073709551616)
instance {a0 a1 a2} : Lec (Zd4 a0 a1 a2) (Zay a0 a1 a2):=.mk' (Zd4.eq_1 ..) (Zay.eq_1 ..)
noncomputable def Zfb (p9 : (Arr 4)) (p7 : Int) : Option ((Arr 4)×Bool) :=
 some ((p9,decide (p7 = 1)))
instance {p9 p7} : Lec (Zfb p9 p7) (ZdK p9 p7):=.mk' (Zfb.eq_1 ..) (ZdK.eq_1 ..)
noncomputable def Zfc (a0 : (Arr 4)) (a1 : (Arr 4)) : (Int×Int×(Arr 4))→Option ((Int×Int×(Arr 4)) ⊕ ((Arr 4)×Bool))
 | (p7,p8,p9)=>(if p8 < 4 then (inA (4) (p8)).bindF fun j12=>(Zd4 (a0.at j12) (a1.at j12) p7).bindF fun y13=>some (.inl (y13.2,IntKind.i64.wrap (p8 + 1),p9.put j12 y13.1)) else (Zfb p9 p7).map Sum.inr)
instance {a0 a1 p7 p8 p9} : Lec (Zfc a0 a1 (p7,p8,p9)) (ZdL a0 a1 (p7,p8,p9)):=.mk' (Zfc.eq_1 ..) (ZdL.eq_1 ..)
noncomputable def ZgV (a0 : (Arr 4)) (a1 : (Arr 4)) : Option ((Arr 4)×Bool) :=
 Zis (Zfc a0 a1) (0,0,zA 4)
instance {a0 a1} : Lec (ZgV a0 a1) (Zdc a0 a1):=.mk' (ZgV.eq_1 ..) (Zdc.eq_1 ..)
noncomputable def Zfd (p6 : (Arr 4)) : Option (Arr 4) :=
 some (p6)
instance {p6} : Lec (Zfd p6) (ZdM p6):=.mk' (Zfd.eq_1 ..) (ZdM.eq_1 ..)
noncomputable def Fref02_Shl_s1 : (Int×(Arr 4))→Option ((Int×(Arr 4)) ⊕ ((Arr 4)))
 | (p5,p6)=>(if 0 < p5 then (ZgV p6 p6).bindF fun y8=>some (.inl (IntKind.i64.wrap (p5 - 1),y8.1)) else (Zfd p6).map Sum.inr)
instance {p5 p6} : Lec (Fref02_Shl_s1 (p5,p6)) (Lref02_Shl_s1 (p5,p6)):=.mk' (Fref02_Shl_s1.eq_1 ..) (Lref02_Shl_s1.eq_1 ..)
noncomputable def ZgW (a0 : (Arr 4)) (a1 : Int) : Option ((Arr 4)) :=
 (if 256≤a1 then some (zA 4) else Zis (Fref02_Shl_s1) (a1,a0))
instance {a0 a1} : Lec (ZgW a0 a1) (Zdd a0 a1):=.mk' (ZgW.eq_1 ..) (Zdd.eq_1 ..)
noncomputable def Fref02_Cmp_k1 : Option Int :=
 some (0)
instance : Lec (Fref02_Cmp_k1) (Lref02_Cmp_k1):=.mk' (Fref02_Cmp_k1.eq_1 ..) (Lref02_Cmp_k1.eq_1 ..)
noncomputable def Zfe (a0 : (Arr 4)) (a1 : (Arr 4)) : Int→Option ((Int) ⊕ (Int))
 | p3=>(if 0≤p3 then (inA (4) (p3)).bindF fun j5=>(if a0.at j5 < a1.at j5 then some (.inr ((-1))) else (if a1.at j5 < a0.at j5 then some (.inr (1)) else some (.inl (IntKind.i64.wrap (p3 - 1))))) else (Fref02_Cmp_k1).map Sum.inr)
instance {a0 a1 p3} : Lec (Zfe a0 a1 p3) (ZdG a0 a1 p3):=.mk' (Zfe.eq_1 ..) (ZdG.eq_1 ..)
noncomputable def Zfu (a0 : (Arr 4)) (a1 : (Arr 4)) : Option (Int) :=
 Zis (Zfe a0 a1) 3
instance {a0 a1} : Lec (Zfu a0 a1) (Zda a0 a1):=.mk' (Zfu.eq_1 ..) (Zda.eq_1 ..)
noncomputable def ZeN (a0 : (Arr 4)) : Option (Bool) :=
 some (decide (a0 = zA 4))
instance {a0} : Lec (ZeN a0) (Zb0 a0):=.mk' (ZeN.eq_1 ..) (Zb0.eq_1 ..)
noncomputable def Zeq (a0 : Int) : Option ((Arr 4)) :=
 some ((zA 4).put 0 a0)
instance {a0} : Lec (Zeq a0) (ZaU a0):=.mk' (Zeq.eq_1 ..) (ZaU.eq_1 ..)
noncomputable def Fref02_Len_k1 : Option Int :=
 some (0)
instance : Lec (Fref02_Len_k1) (Lref02_Len_k1):=.mk' (Fref02_Len_k1.eq_1 ..) (Lref02_Len_k1.eq_1 ..)
noncomputable def Zff (a0 : (Arr 4)) : Int→Option ((Int) ⊕ (Int))
 | p4=>(if 0≤p4 then (Zft a0 p4).bindF fun y6=>(if y6 = true then some (.inr (IntKind.i64.wrap (p4 + 1))) else some (.inl (IntKind.i64.wrap (p4 - 1)))) else (Fref02_Len_k1).map Sum.inr)
instance {a0 p4} : Lec (Zff a0 p4) (ZdJ a0 p4):=.mk' (Zff.eq_1 ..) (ZdJ.eq_1 ..)
noncomputable def ZgX (a0 : (Arr 4)) : Option (Int) :=
 Zis (Zff a0) 255
instance {a0} : Lec (ZgX a0) (Zdb a0):=.mk' (ZgX.eq_1 ..) (Zdb.eq_1 ..)
noncomputable def Zcp (p7 : (Arr 4)) : Option ((Arr 4)×Int) :=
 (ZeN p7).bindF fun y8=>(if y8 = true then some ((zA 4,120)) else some ((p7,0)))
instance {p7} : Lec (Zcp p7) (Zac p7):=.mk' (Zcp.eq_1 ..) (Zac.eq_1 ..)
noncomputable def ZdO (a0 : Int) : Option ((Arr 4)×Int) :=
 (Zeq (IntKind.u64.wrap (bits .and .u32 a0 16777215))).bindF fun y1=>(if ¬ (bits .and .u32 a0 8388608 = 0) then some ((zA 4,120)) else (if IntKind.i64.wrap ((a0).fdiv 16777216) < 3 then (Zep y1 (IntKind.i64.wrap (8 * (IntKind.i64.wrap (3 - (IntKind.i64.wrap ((a0).fdiv 16777216))))))).bindF fun y9=>Zcp y9 else (ZeN y1).bindF fun y10=>((if ¬ (y10 = true) then (ZgX y1).bindF fun y11=>some (decide (256 < IntKind.i64.wrap (y11 + (IntKind.i64.wrap (8 * (IntKind.i64.wrap ((IntKind.i64.wrap ((a0).fdiv 16777216)) - 3))))))) else some (false))).bindF fun z12=>(if (¬ (y10 = true)∧z12 = true) then some ((zA 4,120)) else (ZgW y1 (IntKind.i64.wrap (8 * (IntKind.i64.wrap ((IntKind.i64.wrap ((a0).fdiv 16777216)) - 3))))).bindF fun y13=>Zcp y13)))
instance {a0} : Lec (ZdO a0) (ZbJ a0):=.mk' (ZdO.eq_1 ..) (ZbJ.eq_1 ..)
noncomputable def ZcI (p9 : (Arr 4)) : Option (Arr 4) :=
 some (p9)
instance {p9} : Lec (ZcI p9) (ZbA p9):=.mk' (ZcI.eq_1 ..) (ZbA.eq_1 ..)
noncomputable def ZcJ (a0 : (Arr 32)) : (Int×(Arr 4))→Option ((Int×(Arr 4)) ⊕ ((Arr 4)))
 | (p8,p9)=>(if p8 < 32 then (inA (4) (IntKind.i64.wrap ((IntKind.i64.wrap (31 - p8)).tdiv 8))).bindF fun j13=>(inA (32) (p8)).bindF fun j14=>(chk (¬ (IntKind.i64.wrap (8 * ((IntKind.i64.wrap (31 - p8)).tmod 8)) < 0))).bindF fun _=>some (.inl (IntKind.i64.wrap (p8 + 1),p9.put j13 (bits .or .u64 (p9.at j13) (IntKind.u64.wrap ((IntKind.u64.wrap (a0.at j14)) * (2 ^ (min (IntKind.i64.wrap (8 * ((IntKind.i64.wrap (31 - p8)).tmod 8))).toNat 64))))))) else (ZcI p9).map Sum.inr)
instance {a0 p8 p9} : Lec (ZcJ a0 (p8,p9)) (ZbB a0 (p8,p9)):=.mk' (ZcJ.eq_1 ..) (ZbB.eq_1 ..)
noncomputable def Zcq (a0 : (Arr 32)) : Option ((Arr 4)) :=
 Zis (ZcJ a0) (0,zA 4)
instance {a0} : Lec (Zcq a0) (Zaz a0):=.mk' (Zcq.eq_1 ..) (Zaz.eq_1 ..)
end Go.Lc
end
section
namespace Go.Lc
open Go.RowKit
open Go.Av
set_option linter.unusedVariables false
theorem ZkV {α β : Type} {l : List α} (f : α→List β) {i : Nat} (h : i < l.length) : (l.take (i + 1)).flatMap f = (l.take i).flatMap f++f l[i]:=by
 rw [List.take_succ_eq_append_getElem h,List.flatMap_append];simp
def XW (n : Int) (k : Nat) : List Int:=(List.range k).map fun i=>IntKind.u8.wrap (n.fdiv (2 ^ (8 * i)))
@[simp] theorem Ztq (n : Int) (k : Nat) : (XW n k).length = k:=by simp [XW]
theorem ZlJ {i : Nat} (h : i < 8) : min (IntKind.i64.wrap (8 * (i : Int))).toNat 64 = 8 * i:=by
 rw [wi _ (by omega)];omega
theorem ZnM (n : Int) (k : Nat) (hk : k≤8) : ZaY n k = some (XW n k):=by
 unfold ZaY;rw [Zh (by omega)]
 have:=Xf (step:=Zbp k n) (fun i=>((i : Int),((List.range i).map fun i=>IntKind.u8.wrap (n.fdiv (2 ^ (8 * i))))++List.replicate (k - i) 0)) k (x:=some (XW n k)) (fun i hi=>by
  simp only [Zbp];rw [if_pos (by omega),Zh (by rw [wi _ (by omega)]; omega),ZkR _ _ (by omega),Xm hi,ZlJ (by omega),ZjR (fun i=>IntKind.u8.wrap (n.fdiv (2 ^ (8 * i)))) 0 hi,Zbk hi (by omega)]) (by
  simp only [Zbp];rw [if_neg (by omega)]
  simp [ZdT,XW])
 simpa using this
theorem ZnN (n : Int) (k : Nat) (hk : k≤8) : Za0 n k = some (XW n k):=by
 unfold Za0;rw [Zh (by omega)]
 have:=Xf (step:=Zbq k n) (fun i=>((i : Int),((List.range i).map fun i=>IntKind.u8.wrap (n.fdiv (2 ^ (8 * i))))++List.replicate (k - i) 0)) k (x:=some (XW n k)) (fun i hi=>by
  simp only [Zbq];rw [if_pos (by simp; omega),Zh (by rw [wi _ (by omega)]; omega),ZkR _ _ (by omega),Xm hi,ZlJ (by omega),ZjR (fun i=>IntKind.u8.wrap (n.fdiv (2 ^ (8 * i)))) 0 hi,Zbk hi (by omega)]) (by
  simp only [Zbq];rw [if_neg (by simp)]
  simp [ZdU,XW])
 simpa using this
theorem ZjT {a b : List Int} (h : a.length + b.length≤140737488355328) : ZaX a b = some (a++b):=by
 unfold ZaX;rw [wi _ (by omega),Zh (by omega),Zh (by omega),Zh (by omega)]
theorem ZjU {a b : List Int} (h : a.length + b.length≤140737488355328) : ZaZ a b = some (a++b):=by
 unfold ZaZ;rw [wi _ (by omega),Zh (by omega),Zh (by omega),Zh (by omega)]
section
variable {b : List Int} {n : Int}
theorem Zhy (h : b.length≤140737488355000) : Xg b n = some (b++XW (IntKind.u64.wrap n) 4):=by
 unfold Xg;have this : ZaY (IntKind.u64.wrap n) 4 = some (XW (IntKind.u64.wrap n) 4):=ZnM _ 4 (by omega);rw [this,Zf,ZjT (by simp; omega)];rfl
theorem ZhV (h : b.length≤140737488355000) : X8 b n = some (b++XW (IntKind.u64.wrap n) 4):=by
 unfold X8;have this : Za0 (IntKind.u64.wrap n) 4 = some (XW (IntKind.u64.wrap n) 4):=ZnN _ 4 (by omega);rw [this,Zf,ZjU (by simp; omega)];rfl
def Zst (n : Int) : List Int:=if n < 253 then XW n 1 else if n < 65536 then 253 :: XW n 2 else if n < 4294967296 then 254 :: XW n 4 else 255 :: XW n 8
end
def Zre (s : List Int) : List Int:=Zst s.length++s
theorem Zjl {b : List Int} {a : Arr 32} (h : b.length≤140737488355000) : Xu b a = some (b++a.l):=by
 unfold Xu;rw [ZjT (by rw [a.hl]; omega)];rfl
theorem ZkW {b : List Int} {a : Arr 32} (h : b.length≤140737488355000) : XY b a = some (b++a.l):=by
 unfold XY;rw [ZjU (by rw [a.hl]; omega)];rfl
def ZiX (o : Tapi_OutPoint) : List Int:=o.1.l++XW (IntKind.u64.wrap o.2) 4
@[simp] theorem Zsu (o : Tapi_OutPoint) : (ZiX o).length = 36:=by simp [ZiX,o.1.hl]
theorem Ztr (o : Tapi_OutPoint) : ZjQ o = some (ZiX o):=by
 unfold ZjQ;rw [Zjl (by simp),Zf,Zhy (by simp [o.1.hl])];rfl
end Go.Lc
end
section
namespace Go.Lc
open Go.RowKit
open Go.Av
set_option linter.unusedVariables false
def inB (x : Tapi_Input) : List Int:=ZiX x.1++XW (IntKind.u64.wrap x.2.1) 4
@[simp] theorem ZtX (x : Tapi_Input) : (inB x).length = 40:=by simp [inB]
def outB (o : Tapi_Output) : List Int:=XW (IntKind.u64.wrap o.1) 8++Zre o.2
section
variable {t : Tapi_Tx} {w : Bool}
end
section
variable {t : Tapi_Tx} {w : Bool}
end
section
end
end Go.Lc
end
section
namespace Go.Lc
open Go.RowKit
open Go.Av
set_option linter.unusedVariables false
def Nx {σ ρ : Type} (I : Nat→σ→Prop) (Q : ρ→Prop) (n : Nat) : σ ⊕ ρ→Prop
 | .inl s=>∃ j,j < n∧I j s
 | .inr r=>Q r
theorem Tot.out {σ ρ : Type} {I : Nat→σ→Prop} {Q : ρ→Prop} {n : Nat} {x : Option ρ} (h : Tot x Q) : Tot (x.map .inr) (Nx I Q n):=by
 obtain ⟨r,rfl,h⟩:=h;exact ⟨_,rfl,h⟩
end Go.Lc
end
