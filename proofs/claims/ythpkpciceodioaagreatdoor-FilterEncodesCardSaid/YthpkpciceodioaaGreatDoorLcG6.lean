import Derived.Test.YthpkpciceodioaaGreatDoorLcG5
import Derived.Test.YthpkpciceodioaaGreatDoorLcG1
import Derived.Test.YthpkpciceodioaaGreatDoorLcG3
import Derived.Test.YthpkpciceodioaaGreatDoorLcG4
import Derived.Test.YthpkpciceodioaaGreatDoorAvP3
section
/- blocks,their elements and filters,both sides -/
namespace Go.Lc
open Go.RowKit
open Go.Av
set_option linter.unusedVariables false
set_option linter.unusedSimpArgs false
set_option maxRecDepth 100000

/-! headers -/
def hdrB (h : Tapi_Header) : List Int:=lowB (IntKind.u64.wrap h.1) 4++h.2.1.l++h.2.2.1.l++lowB (IntKind.u64.wrap h.2.2.2.1) 4++lowB (IntKind.u64.wrap h.2.2.2.2.1) 4++lowB (IntKind.u64.wrap h.2.2.2.2.2) 4
theorem hdrB_len (h : Tapi_Header) : (hdrB h).length = 80:=by simp [hdrB,h.2.1.hl,h.2.2.1.hl]
theorem header_enc (h : Tapi_Header) : Lblock_EncodeHeader h = some (hdrB h):=by
 unfold Lblock_EncodeHeader;have l1:=h.2.1.hl;have l2:=h.2.2.1.hl;rw [u32_eq (by simp),bind_some',List.nil_append,hash_eq (by simp),bind_some',hash_eq (by simp [l1]),bind_some',u32_eq (by simp [l1,l2]),bind_some',u32_eq (by simp [l1,l2]),bind_some',u32_eq (by simp [l1,l2]),bind_some'];rfl
theorem rheader_enc (h : Tapi_Header) : Lref11_EncodeHeader h = some (hdrB h):=by
 unfold Lref11_EncodeHeader;have l1:=h.2.1.hl;have l2:=h.2.2.1.hl;rw [ru32_eq (by simp),bind_some',List.nil_append,rhash_eq (by simp),bind_some',rhash_eq (by simp [l1]),bind_some']
 have h0 : Lref11_EncodeHeader_s1 h (0,lowB (IntKind.u64.wrap h.1) 4++h.2.1.l++h.2.2.1.l) = some (.inl (1,lowB (IntKind.u64.wrap h.1) 4++h.2.1.l++h.2.2.1.l++lowB (IntKind.u64.wrap h.2.2.2.1) 4)):=by
  simp only [Lref11_EncodeHeader_s1];rw [if_pos (by omega),show (0 : Int) = ((0 : Nat) : Int) from rfl,inA_bind (by omega)];simp only [List.getElem?_cons_zero,bind_some'];rw [ru32_eq (by simp [l1,l2]),bind_some'];rfl
 have h1 : Lref11_EncodeHeader_s1 h (1,lowB (IntKind.u64.wrap h.1) 4++h.2.1.l++h.2.2.1.l++lowB (IntKind.u64.wrap h.2.2.2.1) 4) = some (.inl (2,lowB (IntKind.u64.wrap h.1) 4++h.2.1.l++h.2.2.1.l++lowB (IntKind.u64.wrap h.2.2.2.1) 4++lowB (IntKind.u64.wrap h.2.2.2.2.1) 4)):=by
  simp only [Lref11_EncodeHeader_s1];rw [if_pos (by omega),show (1 : Int) = ((1 : Nat) : Int) from rfl,inA_bind (by omega)];simp only [List.getElem?_cons_zero,List.getElem?_cons_succ,bind_some'];rw [ru32_eq (by simp [l1,l2]),bind_some'];rfl
 have h2 : Lref11_EncodeHeader_s1 h (2,lowB (IntKind.u64.wrap h.1) 4++h.2.1.l++h.2.2.1.l++lowB (IntKind.u64.wrap h.2.2.2.1) 4++lowB (IntKind.u64.wrap h.2.2.2.2.1) 4) = some (.inl (3,hdrB h)):=by
  simp only [Lref11_EncodeHeader_s1];rw [if_pos (by omega),show (2 : Int) = ((2 : Nat) : Int) from rfl,inA_bind (by omega)];simp only [List.getElem?_cons_zero,List.getElem?_cons_succ,bind_some'];rw [ru32_eq (by simp [l1,l2]),bind_some'];rfl
 rw [runLoop_step h0,runLoop_step h1,runLoop_step h2];exact runLoop_end (by simp [Lref11_EncodeHeader_s1,Lref11_EncodeHeader_k1])
noncomputable def hdrH (h : Tapi_Header) : Arr 32:=shaS (shaS (hdrB h)).l
theorem bhash_eq (h : Tapi_Header) : Lblock_Hash h = some (hdrH h):=by
 unfold Lblock_Hash;rw [header_enc,bind_some',dbl_eq (by rw [hdrB_len]; omega)];rfl
theorem rbhash_eq (h : Tapi_Header) : Lref11_Hash h = some (hdrH h):=by
 unfold Lref11_Hash;rw [rheader_enc,bind_some',rdbl_eq (by rw [hdrB_len]; omega)];rfl
/-! encodings of blocks -/
/-! elements -/
/-! matching -/
/-! the laws -/
end Go.Lc
end
section
namespace Go.Av
open Go.RowKit
open Go.Lc
set_option linter.unusedVariables false
/-! contracts for what is run at given values alone -/
theorem impl_exec {P : Program} {tt : TT} {T : Tab} {G : Glob} {kp : Keep} {w : Bool} {n : Nat} (hm : P.follows .mixedOrders = true) (htt : ∀ t i,tt t = some i→tinfo P t = some i) (hT : ∀ f F,T f = some F→ImplE P G (f % 1000000) F) {f : FuncId} {fn : Func}
  (hf : P.funcs[f]? = some fn) (hb : (fn.body.isSome && !(fn.name == "runtime.NumGoroutine")) = true) : Impl P G f (execFn tt T G kp w n fn):=by
 obtain ⟨h1,h2⟩:=Bool.and_eq_true_iff.1 hb;obtain ⟨c,hc⟩:=Option.isSome_iff_exists.1 h1;exact impl_of hm htt hT hf hc (by simpa using h2) fun ps r _ h=>⟨_,_,_,h⟩
theorem impl_weak {P : Program} {G : Glob} {f : FuncId} {F F' : List PV→Option (PV×List (List Cell))} (h : Impl P G f F) (hw : ∀ ps r,F' ps = some r→F ps = some r) : Impl P G f F' :=
 ⟨h.1,fun S w ks hh ps vs r outs a1 a2 a3 a4 hF=>h.2 S w ks hh ps vs r outs a1 a2 a3 a4 (hw _ _ hF)⟩
/-! reading arguments -/
def dInt (k : IntKind) : PV→Option Int
 | .one (.v (.int k' i))=>if k = k' then some i else none
 | _=>none
theorem dInt_ok {k : IntKind} {p : PV} {i : Int} (h : dInt k p = some i) : p = .one (.v (.int k i)):=by
 unfold dInt at h;split at h
 ·split at h
  ·rename_i e; subst e; cases h; rfl
  ·cases h
 ·cases h
def dCs (k : IntKind) : List Cell→Option (List Int)
 | []=>some []
 | c :: t=>match c with
  | .v (.int k' i)=>if k = k' then (dCs k t).map (i :: ·) else none
  | _=>none
theorem dCs_ok {k : IntKind} : ∀ {cs : List Cell} {l : List Int},dCs k cs = some l→cs = ints k l
 | [],l,h=>by cases h; rfl
 | c :: t,l,h=>by
  unfold dCs at h;split at h
  ·split at h
   ·rename_i e
    subst e;obtain ⟨m,hm,rfl⟩:=Option.map_eq_some_iff.1 h;rw [dCs_ok hm]; rfl
   ·cases h
  ·cases h
def dArr (k : IntKind) (n : Nat) : PV→Option (Arr n)
 | .agg cs=>match dCs k cs with
  | some l=>if h : l.length = n then some ⟨l,h⟩ else none
  | none=>none
 | _=>none
theorem dArr_ok {k : IntKind} {n : Nat} {p : PV} {a : Arr n} (h : dArr k n p = some a) : p = .agg (arC k a):=by
 unfold dArr at h;split at h
 ·split at h
  ·rename_i e
   split at h
   ·cases h; rw [dCs_ok e]; rfl
   ·cases h
  ·cases h
 ·cases h
def dRs (k : IntKind) : List (List Cell)→Option (List Int)
 | []=>some []
 | r :: t=>match r with
  | [.v (.int k' i)]=>if k = k' then (dRs k t).map (i :: ·) else none
  | _=>none
theorem dRs_ok {k : IntKind} : ∀ {cs : List (List Cell)} {l : List Int},dRs k cs = some l→cs = intsR k l
 | [],l,h=>by cases h; rfl
 | c :: t,l,h=>by
  unfold dRs at h;split at h
  ·split at h
   ·rename_i e
    subst e;obtain ⟨m,hm,rfl⟩:=Option.map_eq_some_iff.1 h;rw [dRs_ok hm]; rfl
   ·cases h
  ·cases h
def dRow (k : IntKind) : PV→Option (List Int)
 | .one (.slice .no rs)=>dRs k rs
 | _=>none
theorem dRow_ok {k : IntKind} {p : PV} {l : List Int} (h : dRow k p = some l) : p = .one (.slice .no (intsR k l)):=by
 unfold dRow at h;split at h
 ·rw [dRs_ok h]
 ·cases h
def d1 {α : Type} (d : PV→Option α) : List PV→Option α
 | [p]=>d p
 | _=>none
def d2 {α β : Type} (d : PV→Option α) (e : PV→Option β) : List PV→Option (α×β)
 | [p,q]=>match d p,e q with
  | some x,some y=>some (x,y)
  | _,_=>none
 | _=>none
theorem d1_ok {α : Type} {d : PV→Option α} {ea : α→PV} (h : ∀ p x,d p = some x→p = ea x) {ps : List PV} {x : α} (hx : d1 d ps = some x) : ps = [ea x]:=by
 unfold d1 at hx;split at hx
 ·rw [h _ _ hx]
 ·cases hx
theorem d2_ok {α β : Type} {d : PV→Option α} {e : PV→Option β} {ea : α→PV} {eb : β→PV} (h : ∀ p x,d p = some x→p = ea x) (k : ∀ p x,e p = some x→p = eb x) {ps : List PV} {x : α×β} (hx : d2 d e ps = some x) : ps = [ea x.1,eb x.2]:=by
 unfold d2 at hx;split at hx
 ·split at hx
  ·rename_i h1 h2
   cases hx
   rw [h _ _ h1,k _ _ h2]
  ·cases hx
 ·cases hx
end Go.Av
end
section
/- hashes of headers,for the kernel -/
namespace Go.Av
open Go.RowKit
open Go.Lc
set_option linter.unusedVariables false
def dHdr : PV→Option Tapi_Header
 | .agg (.v (.int .u32 a) :: l)=>match dCs .u8 (l.take 32),dCs .u8 ((l.drop 32).take 32),l.drop 64 with
  | some p,some q,[.v (.int .u32 t),.v (.int .u32 b),.v (.int .u32 n)]=>if h : p.length = 32 then if k : q.length = 32 then some (a,⟨p,h⟩,⟨q,k⟩,t,b,n) else none else none
  | _,_,_=>none
 | _=>none
theorem dHdr_ok {p : PV} {x : Tapi_Header} (h : dHdr p = some x) : p = .agg (.v (.int .u32 x.1) :: (arC .u8 x.2.1++(arC .u8 x.2.2.1++[.v (.int .u32 x.2.2.2.1),.v (.int .u32 x.2.2.2.2.1),.v (.int .u32 x.2.2.2.2.2)]))):=by
 unfold dHdr at h;split at h
 ·rename_i a l
  split at h
  ·rename_i p q t b n h1 h2 h3
   split at h
   ·split at h
    ·injection h with h
     subst h;have e1:=dCs_ok h1;have e2:=dCs_ok h2
     have e3 : l = l.take 32++((l.drop 32).take 32++l.drop 64):=by
      have : l.drop 64 = (l.drop 32).drop 32:=by rw [List.drop_drop]
      rw [this,List.take_append_drop,List.take_append_drop]
     rw [e1,e2,h3] at e3;rw [e3];rfl
    ·cases h
   ·cases h
  ·cases h
 ·cases h
end Go.Av
namespace Go.Lc
open Go.Av
theorem hdrF_le (x : Tapi_Header) : Le (dblF (hdrB x)) (Lblock_Hash x):=fun r h=>by
 obtain ⟨rfl,_⟩:=dblF_some h;exact bhash_eq x
theorem rhdrF_le (x : Tapi_Header) : Le (dblF (hdrB x)) (Lref11_Hash x):=fun r h=>by
 obtain ⟨rfl,_⟩:=dblF_some h;exact rbhash_eq x
end Go.Lc
end
section
/- contracts at one given argument -/
namespace Go.Av
open Go.RowKit
open Go.Lc
set_option linter.unusedVariables false
def eqL {α : Type} (f : α→α→Bool) : List α→List α→Bool
 | [],[]=>true
 | a :: l,b :: m=>f a b && eqL f l m
 | _,_=>false
theorem eqL_ok {α : Type} {f : α→α→Bool} (h : ∀ a b,f a b = true→a = b) : ∀ {l m : List α},eqL f l m = true→l = m
 | [],[],_=>rfl
 | a :: l,b :: m,k=>by
  obtain ⟨k1,k2⟩:=Bool.and_eq_true_iff.1 k;rw [h _ _ k1,eqL_ok h k2]
 | [],_ :: _,k=>by cases k
 | _ :: _,[],k=>by cases k
def eqI : Int→Int→Bool
 | .ofNat a,.ofNat b=>Nat.beq a b
 | .negSucc a,.negSucc b=>Nat.beq a b
 | _,_=>false
theorem eqI_ok : ∀ {a b : Int},eqI a b = true→a = b
 | .ofNat a,.ofNat b,h=>by rw [Nat.eq_of_beq_eq_true h]
 | .negSucc a,.negSucc b,h=>by rw [Nat.eq_of_beq_eq_true h]
 | .ofNat _,.negSucc _,h=>by cases h
 | .negSucc _,.ofNat _,h=>by cases h
def eqC : Nat→Cell→Cell→Bool
 | 0,_,_=>false
 | n + 1,c,d=>match c,d with
  | .v (.int k a),.v (.int k' b)=>decide (k = k') && eqI a b
  | .v (.bool a),.v (.bool b)=>decide (a = b)
  | .slice o r,.slice o' s=>decide (o = o') && eqL (eqL (eqC n)) r s
  | .own e r,.own e' s=>Nat.beq e e' && eqL (eqL (eqC n)) r s
  | _,_=>false
theorem eqC_ok : ∀ {n : Nat} {c d : Cell},eqC n c d = true→c = d:=by
 intro n;induction n with
 | zero=>intro c d h; simp [eqC] at h
 | succ n ih =>
  intro c d h;simp only [eqC] at h;split at h
  ·obtain ⟨h1,h2⟩:=Bool.and_eq_true_iff.1 h; rw [of_decide_eq_true h1,eqI_ok h2]
  ·rw [of_decide_eq_true h]
  ·obtain ⟨h1,h2⟩:=Bool.and_eq_true_iff.1 h; rw [of_decide_eq_true h1,eqL_ok (fun _ _ k=>eqL_ok (fun _ _ q=>ih q) k) h2]
  ·obtain ⟨h1,h2⟩:=Bool.and_eq_true_iff.1 h; rw [Nat.eq_of_beq_eq_true h1,eqL_ok (fun _ _ k=>eqL_ok (fun _ _ q=>ih q) k) h2]
  ·cases h
def eqP : PV→PV→Bool
 | .one c,.one d=>eqC 6 c d
 | .agg l,.agg m=>eqL (eqC 6) l m
 | .io l,.io m=>eqL (eqC 6) l m
 | .ref l,.ref m=>eqL (eqC 6) l m
 | _,_=>false
theorem eqP_ok : ∀ {p q : PV},eqP p q = true→p = q:=by
 intro p q h;unfold eqP at h;split at h
 ·rw [eqC_ok h]
 ·rw [eqL_ok (fun _ _ k=>eqC_ok k) h]
 ·rw [eqL_ok (fun _ _ k=>eqC_ok k) h]
 ·rw [eqL_ok (fun _ _ k=>eqC_ok k) h]
 ·cases h
noncomputable def cst (A : List PV) (V : PV×List (List Cell)) : List PV→Option (PV×List (List Cell)):=fun ps=>Bool.rec (motive:=fun _=>Option (PV×List (List Cell))) none (some V) (eqL eqP ps A)
theorem impl_cst {P : Program} {G : Glob} {f : FuncId} {F : List PV→Option (PV×List (List Cell))} {A : List PV} {V : PV×List (List Cell)} (h : Impl P G f F) (hv : F A = some V) : Impl P G f (cst A V):=impl_weak h fun ps r k=>by
 unfold cst at k;cases e : eqL eqP ps A with
 | false=>rw [e] at k; cases k
 | true =>
  rw [e] at k;obtain rfl:=Option.some.inj k;rw [eqL_ok (fun _ _ q=>eqP_ok q) e];exact hv
noncomputable def gvF {α β : Type} (dec : List PV→Option α) (g : α→Option β) (R : α→β→PV×List (List Cell)) : List PV→Option (PV×List (List Cell)):=fun ps=>match dec ps with
 | some x=>(g x).map (R x)
 | none=>none
theorem impl_gvF {P : Program} {G : Glob} {f : FuncId} {α β : Type} {enc : α→List PV} {g g' : α→Option β} {R : α→β→PV×List (List Cell)} (hi : ∀ a b,enc a = enc b→a = b) (v : Impl P G f (lift enc fun x=>(g x).map (R x))) (dec : List PV→Option α) (hd : ∀ ps x,dec ps = some x→ps = enc x) (hle : ∀ x,Le (g' x) (g x)) : Impl P G f (gvF dec g' R):=by
 refine impl_weak v fun ps r h=>?_
 unfold gvF at h;split at h
 ·rename_i x hx
  obtain ⟨y,hy,rfl⟩:=Option.map_eq_some_iff.1 h;rw [hd _ _ hx];exact lift_som hi (hle x y hy)
 ·cases h
end Go.Av
end
section
/- Ranges of numbers of a type. -/
namespace Go.Av
theorem wfi_i64 {x : Int} (h : (Lit.int .i64 x).wf = true) : -9223372036854775808≤x∧x≤9223372036854775807:=by simpa [Lit.wf,IntKind.has,IntKind.min,IntKind.max,IntKind.signed,IntKind.bits] using h
theorem wfi_u8 {x : Int} (h : (Lit.int .u8 x).wf = true) : 0≤x∧x≤255:=by simpa [Lit.wf,IntKind.has,IntKind.min,IntKind.max,IntKind.signed,IntKind.bits] using h
end Go.Av
end
