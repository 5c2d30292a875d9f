import Derived.Test.YthpkpciceodioaaGreatDoorLcG4
import Derived.Test.YthpkpciceodioaaGreatDoorLcG3
section
namespace Go.Lc
open Go.RowKit
open Go.Av
set_option linter.unusedVariables false
set_option linter.unusedSimpArgs false
set_option maxRecDepth 100000
theorem mask_byte : ∀ (x : Fin 256) (k : Fin 8),(∀ j : Fin 8,k≤j→bb (x.val : Int) j.val = false)→bits .and .u8 (x.val : Int) ((255 : Int).fdiv (2 ^ (min k.val 8))) = 0:=by decide +kernel
theorem nlen (n : Nat) (hn : n≤2000000) : IntKind.i64.wrap ((IntKind.i64.wrap ((n : Int) + 7)).tdiv 8) = (((n + 7) / 8 : Nat) : Int):=by
 rw [wi ((n : Int) + 7) (by omega),show (n : Int) + 7 = ((n + 7 : Nat) : Int) by omega,Zkb,wI _ (by omega)]
theorem Zi1 {d : List Int} {n : Nat} (h : VB d n) (hn : n≤1600000) : ZbX (d,(n : Int)) = some true:=by
 have hlen:=h.len;simp only [ZbX,nlen n (by omega),ZmU];rw [if_neg (by omega)];by_cases h0 : n % 8 = 0
 ·rw [if_pos (by omega),Zf]
  simp [h0]
 ·have hl : d.length - 1 < d.length:=by omega
  have hx:=h.byt.get (d.length - 1);rw [if_neg (by omega),show IntKind.i64.wrap ((d.length : Int) - 1) = ((d.length - 1 : Nat) : Int) by rw [wi _ (by omega)]; omega,Xl hl,Zh (by omega),Zf,show (((n % 8 : Nat) : Int)).toNat = n % 8 by omega];obtain ⟨x,hxe⟩ : ∃ x : Fin 256,d.getD (d.length - 1) 0 = (x.val : Int):=⟨⟨(d.getD (d.length - 1) 0).toNat,by omega⟩,by simp only; omega⟩
  have hg : d[d.length - 1] = (x.val : Int):=by rw [← hxe]; simp [List.getD_eq_getElem?_getD,hl]
  have hm:=mask_byte x ⟨n % 8,Nat.mod_lt _ (by omega)⟩ (fun j hj=>by
   have:=h.rest (8 * (d.length - 1) + j.val) (by have : n % 8≤j.val:=hj; omega);rw [bt,show (8 * (d.length - 1) + j.val) / 8 = d.length - 1 by omega,show (8 * (d.length - 1) + j.val) % 8 = j.val by omega,hxe] at this
   exact this)
  simp only at hm;rw [hg,hm];simp
theorem and1_byte : ∀ (x : Fin 256) (k : Fin 8),decide (bits .and .u8 ((x.val : Int).fdiv (2 ^ (min (7 - k.val) 8))) 1 = 1) = bb (x.val : Int) k.val:=by decide +kernel
theorem and128_byte : ∀ (x : Fin 256) (k : Fin 8),(!decide (bits .and .u8 (x.val : Int) ((128 : Int).fdiv (2 ^ (min k.val 8))) = 0)) = bb (x.val : Int) k.val:=by decide +kernel
theorem Zk1 {d : List Int} {i : Nat} {n : Int} (h : Byt d) (hi : i < 8 * d.length) (hs : i≤4000000) : ZcV (d,n) (i : Int) = some (bt d i):=by
 have hl : i / 8 < d.length:=by omega
 have hx:=h.get (i / 8);obtain ⟨x,hxe⟩ : ∃ x : Fin 256,d.getD (i / 8) 0 = (x.val : Int):=⟨⟨(d.getD (i / 8) 0).toNat,by omega⟩,by simp only; omega⟩
 have hg : d[i / 8] = (x.val : Int):=by rw [← hxe]; simp [List.getD_eq_getElem?_getD,hl]
 simp only [ZcV,ZmU,Zkb,wI (i / 8) (by omega)];rw [Xl hl,Zh (by omega),show (((i % 8 : Nat) : Int)).toNat = i % 8 by omega,hg,bt,hxe];have:=and128_byte x ⟨i % 8,Nat.mod_lt _ (by omega)⟩;simp only at this;rw [this]
theorem ZhY {d : List Int} {i : Nat} {n : Int} (h : Byt d) (hi : i < 8 * d.length) (hs : i≤4000000) : ZbR (d,n) (i : Int) = some (bt d i):=by
 have hl : i / 8 < d.length:=by omega
 have hx:=h.get (i / 8);obtain ⟨x,hxe⟩ : ∃ x : Fin 256,d.getD (i / 8) 0 = (x.val : Int):=⟨⟨(d.getD (i / 8) 0).toNat,by omega⟩,by simp only; omega⟩
 have hg : d[i / 8] = (x.val : Int):=by rw [← hxe]; simp [List.getD_eq_getElem?_getD,hl]
 have e7 : IntKind.i64.wrap (7 - ((i % 8 : Nat) : Int)) = ((7 - i % 8 : Nat) : Int):=by rw [wi _ (by omega)]; omega
 simp only [ZbR,ZmU,Zkb,wI (i / 8) (by omega),e7];rw [Xl hl,Zh (by omega),show (((7 - i % 8 : Nat) : Int)).toNat = 7 - i % 8 by omega,hg,bt,hxe];have:=and1_byte x ⟨i % 8,Nat.mod_lt _ (by omega)⟩;simp only at this;rw [this]
theorem ZjY {d : List Int} {n : Nat} (h : VB d n) (hn : n≤1600000) : Zbt (d,(n : Int)) = some true:=by
 have hlen:=h.len;simp only [Zbt,nlen n (by omega)];rw [if_neg (by omega)]
 obtain ⟨r,h1,rfl⟩:=Xk (step:=ZbS (d,(n : Int))) (fun m (s : Int)=>∃ i : Nat,s = (i : Int)∧n≤i∧i≤8 * d.length∧m = 8 * d.length - i) (fun r=>r = true) (by
  rintro m s ⟨i,rfl,h1,h2,rfl⟩
  have e8 : IntKind.i64.wrap (8 * (d.length : Int)) = ((8 * d.length : Nat) : Int):=by rw [wi _ (by omega)]; omega
  by_cases hi : i < 8 * d.length
  ·refine .inl ⟨8 * d.length - (i + 1),((i + 1 : Nat) : Int),by omega,?_,i + 1,rfl,by omega,by omega,rfl⟩
   simp only [ZbS,e8,if_pos (show (i : Int) < ((8 * d.length : Nat) : Int) by omega)];rw [ZhY h.byt hi (by omega),Zf,h.rest i h1,if_neg (by simp),wS (by omega)]
  ·refine .inr ⟨true,?_,rfl⟩
   simp only [ZbS,e8,if_neg (show ¬ (i : Int) < ((8 * d.length : Nat) : Int) by omega),Lref18_Valid_k1]
   rfl) _ (n : Int) ⟨n,rfl,Nat.le_refl _,by omega,rfl⟩
 exact h1
def Wr (d : List Int) (n : Nat) (B : List Bool) (x : List Int×Int) : Prop:=x.2 = ((n + B.length : Nat) : Int)∧VB x.1 (n + B.length)∧bl x.1 (n + B.length) = bl d n++B
theorem Wr.nil {d : List Int} {n : Nat} (h : VB d n) : Wr d n [] (d,(n : Int)):=⟨rfl,by simpa using h,by simp⟩
theorem fd {v : Int} (h : 0≤v) (k : Nat) : v.fdiv (2 ^ k) = v / 2 ^ k:=Int.fdiv_eq_ediv_of_nonneg _ (by have : (0 : Int) < 2 ^ k:=Int.pow_pos (by omega); omega)
end Go.Lc
end
section
namespace Go.Lc
open Go.RowKit
open Go.Av
set_option linter.unusedVariables false
set_option linter.unusedSimpArgs false
set_option maxRecDepth 100000
def ZsJ (a : Int) : List Int→Prop
 | []=>True
 | v :: l=>a≤v∧ZsJ v l
end Go.Lc
end
section
namespace Go.Lc
open Go.RowKit
open Go.Av
set_option linter.unusedVariables false
set_option linter.unusedSimpArgs false
set_option maxRecDepth 100000
theorem Zk2 (x : Int) : 0≤IntKind.u64.wrap x∧IntKind.u64.wrap x≤18446744073709551615:=by
 simp [IntKind.wrap,IntKind.signed,IntKind.bits]
 omega
theorem Zpd (op : BinOp) (x y : Int) : 0≤bits op .u64 x y∧bits op .u64 x y≤18446744073709551615:=Zk2 _
def rt (a0 a1 : Int) : Int:=bits .or .u64 (IntKind.u64.wrap (a0 * (2 ^ (min (bits .and .u64 (IntKind.u64.wrap (a1)) 63).toNat 64)))) ((a0).fdiv (2 ^ (min (IntKind.u64.wrap (64 - (bits .and .u64 (IntKind.u64.wrap (a1)) 63))).toNat 64)))
theorem Zpt (a b : Int) : ZH a b = some (rt a b):=by
 have h1:=Zpd .and (IntKind.u64.wrap b) 63;have h2:=Zk2 (64 - (bits .and .u64 (IntKind.u64.wrap b) 63));rw [ZH,Zh (by omega),Zh (by omega)];rfl
def q4 (a b c d : Int) : Arr 4:=⟨[a,b,c,d],rfl⟩
theorem ZnV (v : Arr 4) : ∃ a b c d,v = q4 a b c d:=by
 obtain ⟨l,hl⟩:=v
 match l,hl with
 | [a,b,c,d],_=>exact ⟨a,b,c,d,rfl⟩
section
variable {a b c d x : Int}
theorem q4p0 : (q4 a b c d).put 0 x = q4 x b c d:=rfl
theorem q4p1 : (q4 a b c d).put 1 x = q4 a x c d:=rfl
theorem q4p2 : (q4 a b c d).put 2 x = q4 a b x d:=rfl
theorem q4p3 : (q4 a b c d).put 3 x = q4 a b c x:=rfl
theorem q4a0 : (q4 a b c d).at 0 = a:=rfl
theorem q4a1 : (q4 a b c d).at 1 = b:=rfl
theorem q4a2 : (q4 a b c d).at 2 = c:=rfl
theorem q4a3 : (q4 a b c d).at 3 = d:=rfl
end
def Zk3 (v : Arr 4) : Arr 4 :=
 let a1:=IntKind.u64.wrap (v.at 0 + v.at 1)
 let b1:=bits .xor .u64 (rt (v.at 1) 13) a1
 let c1:=IntKind.u64.wrap (v.at 2 + v.at 3)
 let d1:=bits .xor .u64 (rt (v.at 3) 16) c1
 let a3:=IntKind.u64.wrap (rt a1 32 + d1)
 let c2:=IntKind.u64.wrap (c1 + b1)
 q4 a3 (bits .xor .u64 (rt b1 17) c2) (rt c2 32) (bits .xor .u64 (rt d1 21) a3)
theorem Zd8 (v : Arr 4) : XL v = some (Zk3 v):=by
 obtain ⟨a,b,c,d,rfl⟩:=ZnV v;simp only [XL,Zpt,Zf,q4p0,q4p1,q4p2,q4p3,q4a0,q4a1,q4a2,q4a3,Zk3]
def rndN : Nat→Arr 4→Arr 4
 | 0,v=>v
 | n + 1,v=>rndN n (Zk3 v)
theorem Zls (n : Nat) (hn : n < 100) : ∀ (k i : Nat) (v : Arr 4),n - i = k→i≤n→Zg (Zca (n : Int)) ((i : Int),v) = some (rndN k v):=by
 intro k;induction k with
 | zero =>
  intro i v h hi;refine Yf ?_;simp only [Zca,if_neg (show ¬ (i : Int) < (n : Int) by omega),ZeC];rfl
 | succ k ih =>
  intro i v h hi;rw [rndN,← ih (i + 1) (Zk3 v) (by omega) (by omega)];refine ZG ?_;obtain ⟨a,b,c,d,rfl⟩:=ZnV v;simp only [Zca,if_pos (show (i : Int) < (n : Int) by omega),Zpt,Zf,q4p0,q4p1,q4p2,q4p3,q4a0,q4a1,q4a2,q4a3,Zk3,wS (show i < 9223372036854775807 by omega)]
theorem ZjZ (n : Nat) (hn : n < 100) (v : Arr 4) : ZcD v (n : Int) = some (rndN n v):=Zls n hn n 0 v (by omega) (by omega)
def Zk4 (v : Arr 4) (m : Int) : Arr 4 :=
 let w:=rndN 2 (v.put 3 (bits .xor .u64 (v.at 3) m))
 w.put 0 (bits .xor .u64 (w.at 0) m)
theorem Zj0 (v : Arr 4) (m : Int) : ZbY v m = some (Zk4 v m):=by
 rw [ZbY,show (2 : Int) = ((2 : Nat) : Int) from rfl,ZjZ 2 (by omega),Zf];rfl
theorem Zi2 (v : Arr 4) (m : Int) : X5 v m = some (Zk4 v m):=by
 rw [X5,Zd8,Zf,Zd8,Zf];rfl
theorem Zf3 (l : List Int) : Zbd l = Zaq l:=rfl
theorem Zpe (l : List Int) (h : l.length≤100000) : ∃ w,Zaq l = some w:=by
 rw [Zaq]
 obtain ⟨r,h1,_⟩:=Xk (step:=ZcT l) (fun m s=>∃ (w : Int) (i : Nat),s = (w,(i : Int))∧i≤l.length∧m = l.length - i) (fun _=>True) (by
  rintro m s ⟨w,i,rfl,hi,rfl⟩
  by_cases hil : i < l.length
  ·refine .inl ⟨l.length - (i + 1),(bits .or .u64 w (IntKind.u64.wrap ((IntKind.u64.wrap l[i]) * (2 ^ (min (IntKind.i64.wrap (8 * (i : Int))).toNat 64)))),((i + 1 : Nat) : Int)),by omega,?_,_,i + 1,rfl,by omega,rfl⟩
   ·simp only [ZcT,if_pos (show (i : Int) < (l.length : Int) by omega)]
    rw [Xl hil,Zh (by rw [wi _ (by omega)]; omega),wS (by omega)]
  ·refine .inr ⟨w,?_,trivial⟩
   simp only [ZcT,if_neg (show ¬ (i : Int) < (l.length : Int) by omega),ZfP]
   rfl) _ (0,0) ⟨0,0,rfl,by omega,rfl⟩
 exact ⟨r,h1⟩
noncomputable def wdv (l : List Int) : Int:=(Zaq l).getD 0
theorem Zd9 (l : List Int) (h : l.length≤100000) : Zaq l = some (wdv l):=by
 obtain ⟨w,hw⟩:=Zpe l h;rw [wdv,hw];rfl
noncomputable def sumE (l : List Int) (v : Arr 4) (t : List Int) : Int :=
 let w:=Zk4 v (bits .or .u64 (wdv t) (IntKind.u64.wrap ((IntKind.u64.wrap (((l.length : Int)).tmod 256)) * 72057594037927936)))
 let z:=rndN 4 (w.put 2 (bits .xor .u64 (w.at 2) 255))
 bits .xor .u64 (bits .xor .u64 (bits .xor .u64 (z.at 0) (z.at 1)) (z.at 2)) (z.at 3)
noncomputable def Zjp (l : List Int) : Nat→Arr 4→List Int→Int
 | 0,v,t=>sumE l v t
 | n + 1,v,t=>Zjp l n (Zk4 v (wdv (t.take 8))) (t.drop 8)
theorem Zpf (l : List Int) (hl : l.length≤100000) : ∀ (n i : Nat) (v : Arr 4),l.length / 8 - i = n→i≤l.length / 8→Zg (Zdu l) ((i : Int),v) = some (Zjp l n v (l.drop (8 * i))):=by
 have e8 : IntKind.i64.wrap (((l.length : Int)).tdiv 8) = ((l.length / 8 : Nat) : Int):=by rw [Zkb,wI _ (by omega)]
 intro n;induction n with
 | zero =>
  intro i v h hi;have e : i = l.length / 8:=by omega
  subst e;have e3 : IntKind.i64.wrap (8 * ((l.length / 8 : Nat) : Int)) = ((8 * (l.length / 8) : Nat) : Int):=by rw [wi _ (by omega)]; omega
  refine Ym ?_;simp only [Zdu,e8,if_neg (show ¬ ((l.length / 8 : Nat) : Int) < ((l.length / 8 : Nat) : Int) by omega),Zga,e3];rw [Zh (by omega),show (((8 * (l.length / 8) : Nat) : Int)).toNat = 8 * (l.length / 8) by omega,Zd9 _ (by simp; omega),Zf,Zj0,Zf,show (4 : Int) = ((4 : Nat) : Int) from rfl,ZjZ 4 (by omega),Zf];rfl
 | succ n ih =>
  intro i v h hi;have e3 : IntKind.i64.wrap (8 * (i : Int)) = ((8 * i : Nat) : Int):=by rw [wi _ (by omega)]; omega
  have e4 : IntKind.i64.wrap (((8 * i : Nat) : Int) + 8) = ((8 * i + 8 : Nat) : Int):=by rw [wi _ (by omega)]; omega
  have:=ih (i + 1) (Zk4 v (wdv ((l.drop (8 * i)).take 8))) (by omega) (by omega);rw [Zjp,List.drop_drop,show 8 * i + 8 = 8 * (i + 1) by omega,← this];refine ZG ?_;simp only [Zdu,e8,if_pos (show (i : Int) < ((l.length / 8 : Nat) : Int) by omega),e3,e4];rw [Zh (by omega),show (((8 * i + 8 : Nat) : Int)).toNat = 8 * i + 8 by omega,show (((8 * i : Nat) : Int)).toNat = 8 * i by omega,List.drop_take,show 8 * i + 8 - 8 * i = 8 by omega,Zd9 _ (by simp; omega),Zf,Zj0,Zf,wS (by omega)]
theorem ZnW (l : List Int) (hl : l.length≤100000) : ∀ (n : Nat) (t : List Int) (v : Arr 4),t.length / 8 = n→t.length≤l.length→Zg (Zcw l) (t,v) = some (Zjp l n v t):=by
 intro n;induction n with
 | zero =>
  intro t v h ht;refine Ym ?_;simp only [Zcw,if_neg (show ¬ (8 : Int)≤(t.length : Int) by omega),Ze8];rw [Zf3,Zd9 _ (by omega),Zf,Zi2,Zf,Zd8,Zf,Zd8,Zf,Zd8,Zf,Zd8,Zf];rfl
 | succ n ih =>
  intro t v h ht;rw [Zjp,← ih (t.drop 8) _ (by simp; omega) (by simp; omega)];refine ZG ?_;simp only [Zcw,if_pos (show (8 : Int)≤(t.length : Int) by omega)];rw [Zh (by omega),Zf3,Zd9 _ (by simp; omega),Zf,Zi2,Zf,Zh (by omega)]
noncomputable def Zpg (k : Arr 2) (l : List Int) : Int:=Zjp l (l.length / 8) (((((zA 4).put 0 (bits .xor .u64 (k.at 0) 8317987319222330741)).put 1 (bits .xor .u64 (k.at 1) 7237128888997146477)).put 2 (bits .xor .u64 (k.at 0) 7816392313619706465)).put 3 (bits .xor .u64 (k.at 1) 8387220255154660723)) l
theorem Zrr (k : Arr 2) (l : List Int) (hl : l.length≤100000) : ZeD k l = some (Zpg k l):=by
 have:=Zpf l hl (l.length / 8) 0 (((((zA 4).put 0 (bits .xor .u64 (k.at 0) 8317987319222330741)).put 1 (bits .xor .u64 (k.at 1) 7237128888997146477)).put 2 (bits .xor .u64 (k.at 0) 7816392313619706465)).put 3 (bits .xor .u64 (k.at 1) 8387220255154660723)) (by omega) (by omega);rw [ZeD,show (0 : Int) = ((0 : Nat) : Int) from rfl,this];rfl
theorem Zqk (k : Arr 2) (l : List Int) (hl : l.length≤100000) : Zcl k l = some (Zpg k l):=ZnW l hl _ l _ rfl (Nat.le_refl _)
noncomputable def scl (h n : Int) : Int:=((Zas h n).map (·.1)).getD 0
theorem Zph (h n : Int) : Zei h n = some (scl h n):=rfl
theorem ZnX (h n : Int) : ZcU h n = some (scl h n):=rfl
noncomputable def ZeF (k : Arr 2) (n m : Int) (x : List Int) : Int:=scl (Zpg k x) (IntKind.u64.wrap ((IntKind.u64.wrap n) * m))
theorem ZnY (k : Arr 2) (x : List Int) (n m : Int) (hx : x.length≤100000) : ZaK k x n m = some (ZeF k n m x):=by
 rw [ZaK,Zqk k x hx,Zf,ZnX,Zf];rfl
end Go.Lc
end
section
namespace Go.Lc
open Go.RowKit
open Go.Av
set_option linter.unusedVariables false
set_option linter.unusedSimpArgs false
set_option maxRecDepth 100000
def ZeP (l : List (List Int)) : Prop:=∀ x∈l,Byt x∧x.length≤100000
theorem Zix (l : List Int) : (srt l).Perm l:=List.mergeSort_perm _ _
theorem Zg0 (l : List Int) : (srt l).Pairwise (·≤·):=by
 have:=List.pairwise_mergeSort (le:=fun x y : Int=>decide (x≤y)) (fun a b c h1 h2=>by simp at *; omega) (fun a b=>by simp; omega) l;exact this.imp (fun h=>by simpa using h)
theorem ZnZ {l l' : List Int} (hp : l'.Perm l) (hs : l'.Pairwise (·≤·)) : l' = srt l :=
 List.Perm.eq_of_pairwise (le:=(·≤·)) (fun a b _ _ h1 h2=>Int.le_antisymm h1 h2) hs (Zg0 l) (hp.trans (Zix l).symm)
theorem Zg9 {α β : Type} (f : α→β) (l : List α) (i : Nat) (h : i < l.length) : (l.take (i + 1)).map f = (l.take i).map f++[f l[i]]:=by
 rw [List.take_succ_eq_append_getElem h,List.map_append];rfl
theorem Zn0 (k : Arr 2) (l : List (List Int)) (n m : Int) (hi : ZeP l) (hl : l.length≤100000) : Zbf k l n m = some (srt (l.map (ZeF k n m))):=by
 rw [Zbf]
 obtain ⟨r,h1,rfl⟩:=Xk (step:=Za7 l k n m) (fun q s=>∃ i : Nat,s = ((i : Int),(l.take i).map (ZeF k n m))∧i≤l.length∧q = l.length - i) (fun r=>r = srt (l.map (ZeF k n m))) (by
  rintro q s ⟨i,rfl,hil,rfl⟩
  by_cases h : i < l.length
  ·refine .inl ⟨l.length - (i + 1),(((i + 1 : Nat) : Int),(l.take (i + 1)).map (ZeF k n m)),by omega,?_,i + 1,rfl,by omega,rfl⟩
   simp only [Za7,if_pos (show (i : Int) < (l.length : Int) by omega)];rw [Xl h,Zrr k _ (hi _ (List.getElem_mem h)).2,Zf,Zph,Zf,Zh (by simp; omega),wS (by omega),Zg9 _ _ _ h];rfl
  ·refine .inr ⟨_,?_,rfl⟩
   simp only [Za7,if_neg (show ¬ (i : Int) < (l.length : Int) by omega),Zdj];rw [List.take_of_length_le (by omega),Zqi _ (by simp; omega),Zf,Zh (Zcr _)]
   rfl) _ (0,[]) ⟨0,rfl,by omega,rfl⟩
 exact h1
theorem merge_loop : ∀ (n : Nat) (a b out : List Int),a.length + b.length = n→out.length + a.length + b.length≤1000000→a.Pairwise (·≤·)→b.Pairwise (·≤·)→∃ r,Zg Lref19_sorted_s1 (a,b,out) = some (out++r)∧r.Perm (a++b)∧r.Pairwise (·≤·):=by
 intro n;induction n with
 | zero =>
  intro a b out h hn ha hb;obtain rfl : a = []:=List.length_eq_zero_iff.1 (by omega);obtain rfl : b = []:=List.length_eq_zero_iff.1 (by omega);refine ⟨[],Yf ?_,List.Perm.refl _,List.Pairwise.nil⟩;have ho : out.length≤1000000:=by simpa using hn
  simp only [Lref19_sorted_s1,Zab,List.length_nil];rw [if_neg (by omega),Zh (by omega),Zh (by omega)];simp
 | succ n ih =>
  intro a b out h hn ha hb
  match a,b with
  | [],b =>
   refine ⟨b,Yf ?_,List.Perm.refl _,hb⟩;simp only [Lref19_sorted_s1,List.length_nil,Zab];rw [if_neg (by omega),Zh (by simp at hn; omega),Zh (by simp at hn; omega)];simp
  | x :: a,[] =>
   refine ⟨x :: a,Yf ?_,by simp,ha⟩;simp only [Lref19_sorted_s1,List.length_nil,Zab];rw [if_neg (by omega),Zh (by simp at hn ⊢; omega),Zh (by simp at hn ⊢; omega)];simp
  | x :: a,y :: b =>
   simp only [List.length_cons] at h hn;obtain ⟨hxa,ha'⟩:=List.pairwise_cons.1 ha;obtain ⟨hyb,hb'⟩:=List.pairwise_cons.1 hb;by_cases hxy : x≤y
   ·obtain ⟨r,h1,h2,h3⟩:=ih a (y :: b) (out++[x]) (by simp; omega) (by simp; omega) ha' hb
    refine ⟨x :: r,?_,by simpa using h2,?_⟩
    ·rw [ZG (s' := (a,y :: b,out++[x])),h1]
     ·simp
     ·simp only [Lref19_sorted_s1,List.length_cons]
      rw [if_pos (by omega)];simp only [List.getElem?_cons_zero,Zf,if_pos hxy];rw [Zh (by omega),Zh (by omega)];rfl
    ·refine List.pairwise_cons.2 ⟨fun z hz=>?_,h3⟩
     rcases List.mem_append.1 (h2.mem_iff.1 hz) with h | h
     ·exact hxa z h
     ·rcases List.mem_cons.1 h with rfl | h
      ·exact hxy
      ·exact Int.le_trans hxy (hyb z h)
   ·obtain ⟨r,h1,h2,h3⟩:=ih (x :: a) b (out++[y]) (by simp; omega) (by simp; omega) ha hb'
    refine ⟨y :: r,?_,?_,?_⟩
    ·rw [ZG (s' := (x :: a,b,out++[y])),h1]
     ·simp
     ·simp only [Lref19_sorted_s1,List.length_cons]
      rw [if_pos (by omega)];simp only [List.getElem?_cons_zero,Zf,if_neg hxy];rw [Zh (by omega),Zh (by omega)];rfl
    ·exact (h2.cons y).trans List.perm_middle.symm
    ·refine List.pairwise_cons.2 ⟨fun z hz=>?_,h3⟩
     rcases List.mem_append.1 (h2.mem_iff.1 hz) with h | h
     ·rcases List.mem_cons.1 h with rfl | h
      ·omega
      ·exact Int.le_trans (by omega) (hxa z h)
     ·exact hyb z h
theorem rsorted_n : ∀ (n : Nat) (l : List Int),l.length < n→l.length≤1000000→Lref19_sorted_n n l = some (srt l):=by
 intro n;induction n with
 | zero=>intro l h; omega
 | succ n ih =>
  intro l h hl;rw [Lref19_sorted_n,ZbT];by_cases h2 : l.length < 2
  ·rw [if_pos (by omega)]
   congr 1
   refine ZnZ (List.Perm.refl _) ?_
   match l,h2 with
   | [],_=>exact List.Pairwise.nil
   | [x],_=>simp
  ·have e : IntKind.i64.wrap (((l.length : Int)).tdiv 2) = ((l.length / 2 : Nat) : Int):=by
    rw [Int.tdiv_eq_ediv_of_nonneg (by omega),wi _ (by omega)]; omega
   rw [if_neg (by omega),e,Zh (by omega),show (((l.length / 2 : Nat) : Int)).toNat = l.length / 2 by omega,ih _ (by simp; omega) (by simp; omega),Zf,Zh (by omega),ih _ (by simp; omega) (by simp; omega),Zf];obtain ⟨r,h1,h2,h3⟩:=merge_loop _ (srt (l.take (l.length / 2))) (srt (l.drop (l.length / 2))) [] rfl (by simp [Zcr]; omega) (Zg0 _) (Zg0 _);rw [h1,List.nil_append]
   congr 1
   refine ZnZ ?_ h3;refine h2.trans (((Zix _).append (Zix _)).trans ?_);rw [List.take_append_drop]
theorem rsorted_more : ∀ (n k : Nat) (l x : List Int),Lref19_sorted_n n l = some x→Lref19_sorted_n (n + k) l = some x:=by
 intro n;induction n with
 | zero=>intro k l x h; simp [Lref19_sorted_n] at h
 | succ n ih =>
  intro k l x h;rw [show n + 1 + k = n + k + 1 by omega];rw [Lref19_sorted_n,ZbT] at h ⊢;split
  ·rename_i g
   rw [if_pos g] at h;exact h
  ·rename_i g
   rw [if_neg g] at h;refine Zdf h fun _ h=>?_
   cases h1 : Lref19_sorted_n n (l.take ((IntKind.i64.wrap (((l.length : Int)).tdiv 2)).toNat)) with
   | none=>rw [h1] at h; cases h
   | some y =>
    rw [h1] at h;rw [ih k _ _ h1];refine Zdf (x:=some y) h fun y2 h=>Zdf h fun _ h=>?_
    cases h2 : Lref19_sorted_n n (l.drop ((IntKind.i64.wrap (((l.length : Int)).tdiv 2)).toNat)) with
    | none=>rw [h2] at h; cases h
    | some z =>
     rw [h2] at h;rw [ih k _ _ h2];exact h
theorem ZmV (l : List Int) (hl : l.length≤1000000) : ZdF l = some (srt l) :=
 ZjX (g:=fun n=>Lref19_sorted_n n l) (fun n k x h=>rsorted_more n k l x h) (rsorted_n (l.length + 1) l (by omega) hl)
theorem Zn1 {α : Type} (l : List α) (i : Nat) (h : i < l.length) : l.take (i + 1) = l.take i++[l[i]]:=List.take_succ_eq_append_getElem h
end Go.Lc
end
section
namespace Go.Lc
open Go.RowKit
open Go.Av
set_option linter.unusedVariables false
set_option linter.unusedSimpArgs false
set_option maxRecDepth 100000
theorem Zql (l : List (List Int)) (n m : Int) (hl : l.length≤9223372036854775807) : ∃ b,ZcE l n m = some b∧(b = true→(l.length : Int)≤n∧∀ x∈l,(x.length : Int)≤m):=by
 rw [ZcE];by_cases h1 : n < (l.length : Int)
 ·rw [if_pos h1]
  exact ⟨false,rfl,by simp⟩
 ·rw [if_neg h1]
  refine Xk (step:=Zbg l m) (fun q s=>∃ i : Nat,s = (i : Int)∧i≤l.length∧(∀ x∈l.take i,(x.length : Int)≤m)∧q = l.length - i) _ ?_ _ _ ⟨0,rfl,by omega,by simp,rfl⟩;rintro q s ⟨i,rfl,hi,hx,rfl⟩
  by_cases h : i < l.length
  ·by_cases hm : m < (l[i].length : Int)
   ·refine .inr ⟨false,?_,by simp⟩
    simp only [Zbg,if_pos (show (i : Int) < (l.length : Int) by omega)];rw [Xl h,if_pos hm]
   ·refine .inl ⟨l.length - (i + 1),((i + 1 : Nat) : Int),by omega,?_,i + 1,rfl,by omega,?_,rfl⟩
    ·simp only [Zbg,if_pos (show (i : Int) < (l.length : Int) by omega)]
     rw [Xl h,if_neg hm,wS (by omega)]
    ·intro x hxm
     rw [Zn1 _ _ h] at hxm;rcases List.mem_append.1 hxm with hxm | hxm
     ·exact hx x hxm
     ·rw [List.mem_singleton.1 hxm]; omega
  ·refine .inr ⟨true,?_,fun _=>⟨by omega,fun x hxm=>hx x (by rwa [List.take_of_length_le (by omega)])⟩⟩
   simp only [Zbg,if_neg (show ¬ (i : Int) < (l.length : Int) by omega),Lkeep_Items_k1];rfl
def ZlS (l : List (List Int)) : Prop:=l.length≤9223372036854775807∧∀ x∈l,x.length≤9223372036854775807∧∀ b∈x,0≤b∧b≤255
theorem Zpi {l : List (List Int)} {m : Int} (h : ZlS l) (hm : m≤100000) (hx : ∀ x∈l,(x.length : Int)≤m) : ZeP l:=fun x hxm=>⟨(h.2 x hxm).2,by have:=hx x hxm; omega⟩
end Go.Lc
end
section
namespace Go.Lc
open Go.RowKit
open Go.Av
set_option linter.unusedVariables false
set_option linter.unusedSimpArgs false
set_option maxRecDepth 100000
def XR (out : List Int) : List Int→List Int
 | []=>out
 | v :: l=>if out.getLast? = some v then XR out l else XR (out++[v]) l
theorem adjF_snoc : ∀ (l out : List Int) (v : Int),XR out (l++[v]) = if (XR out l).getLast? = some v then XR out l else XR out l++[v]
 | [],out,v=>by by_cases h : out.getLast? = some v <;> simp [XR,h]
 | w :: l,out,v=>by
  simp only [List.cons_append,XR];split <;> exact adjF_snoc l _ v
theorem Zk5 (l : List Int) (v : Int) : (l++[v]).getLast? = some v:=by simp
theorem Zn2 (l : List Int) (v : Int) : (XR [] (l++[v])).getLast? = some v:=by
 rw [adjF_snoc];split
 ·assumption
 ·exact Zk5 _ _
theorem adjF_len : ∀ (l out : List Int),(XR out l).length≤out.length + l.length
 | [],out=>by simp [XR]
 | v :: l,out=>by
  simp only [XR];split
  ·have:=adjF_len l out; simp; omega
  ·have:=adjF_len l (out++[v]); simp at this ⊢; omega
theorem Zf4 (l : List Int) (i : Nat) (h : i < l.length) : l.take (i + 1) = l.take i++[l[i]]:=List.take_succ_eq_append_getElem h
theorem Zdg (l : List Int) (i : Nat) (h : i < l.length) : (XR [] (l.take (i + 1))).getLast? = some l[i]:=by
 rw [Zf4 _ _ h];exact Zn2 _ _
theorem ZmW (l : List Int) (hl : l.length≤1000000) : Ye l = some (XR [] l):=by
 rw [Ye];by_cases h2 : l.length < 2
 ·rw [if_pos (by omega)]
  match l,h2 with
  | [],_=>rfl
  | [x],_=>simp [XR]
 ·rw [if_neg (by omega)]
  obtain ⟨r,h1,rfl⟩:=Xk (step:=YA l) (fun m s=>∃ k : Nat,s = ((k + 1 : Nat) : Int)∧k + 1≤l.length∧XR [] (l.take (k + 1)) = l.take (k + 1)∧m = l.length - k) (fun r=>r = XR [] l) (by
   rintro m s ⟨k,rfl,hk,ha,rfl⟩
   by_cases h : k + 1 < l.length
   ·have h0 : k < l.length:=by omega
    have hst : YA l ((k + 1 : Nat) : Int) = if l[k + 1] = l[k] then (chk (0≤((k + 1 : Nat) : Int)∧((k + 1 : Nat) : Int)≤(l.length : Int))).bind fun _=>Zg (Yl l ((k + 1 : Nat) : Int)) (((k + 1 : Nat) : Int),1,l) else some (.inl ((k + 1 + 1 : Nat) : Int)):=by
     simp only [YA,if_pos (show ((k + 1 : Nat) : Int) < (l.length : Int) by omega),wP (show k < 9223372036854775807 by omega),wS (show k + 1 < 9223372036854775807 by omega)];rw [Xm h,ZfU h,Xm h0,ZfU h0]
    by_cases he : l[k + 1] = l[k]
    ·refine .inr ⟨XR [] l,?_,rfl⟩
     rw [hst,if_pos he,Zh (by omega)]
     obtain ⟨r,g1,rfl⟩:=Xk (step:=Yl l ((k + 1 : Nat) : Int)) (fun m s=>∃ (p j : Nat) (q : List Int),s = ((p : Int),((j + 1 : Nat) : Int),q)∧k + 1 + (j + 1)≤l.length∧p≤k + 1 + j∧q.length = l.length∧q.take p = XR [] (l.take (k + 1 + (j + 1)))∧(∀ i (hi : i < l.length) (hq : i < q.length),k + 1 + j≤i→q[i] = l[i])∧m = l.length - j) (fun r=>r = .inr (XR [] l)) (by
      rintro m s ⟨p,j,q,rfl,hj,hp,hql,hqt,hqi,rfl⟩
      have en : (((k + 1 : Nat) : Int)).toNat = k + 1:=by omega
      by_cases hlt : k + 1 + (j + 1) < l.length
      ·have i1 : k + 1 + (j + 1) < q.length:=by omega
       have i0 : k + 1 + j < q.length:=by omega
       have i2 : k + 1 + j < l.length:=by omega
       have hn : j + 1 < l.length - (k + 1):=by omega
       have hn0 : j < l.length - (k + 1):=by omega
       have e1:=hqi (k + 1 + (j + 1)) hlt i1 (by omega);have e0:=hqi (k + 1 + j) i2 i0 (by omega);have hlast:=Zdg l (k + 1 + j) i2;rw [show k + 1 + j + 1 = k + 1 + (j + 1) by omega] at hlast
       have hsn : XR [] (l.take (k + 1 + (j + 1 + 1))) = if l[k + 1 + j] = l[k + 1 + (j + 1)] then XR [] (l.take (k + 1 + (j + 1))) else XR [] (l.take (k + 1 + (j + 1)))++[l[k + 1 + (j + 1)]]:=by
        rw [show k + 1 + (j + 1 + 1) = k + 1 + (j + 1) + 1 by omega,Zf4 _ _ hlt,adjF_snoc,hlast];by_cases e : l[k + 1 + j] = l[k + 1 + (j + 1)] <;> simp [e]
       have hst2 : Yl l ((k + 1 : Nat) : Int) ((p : Int),((j + 1 : Nat) : Int),q) = if ¬ (l[k + 1 + (j + 1)] = l[k + 1 + j]) then (inA q.length (p : Int)).bind fun j150=>ZU ((j + 1 : Nat) : Int) (IntKind.i64.wrap ((p : Int) + 1)) (q.set j150 l[k + 1 + (j + 1)]) else ZU ((j + 1 : Nat) : Int) (p : Int) q:=by
        simp only [Yl,en,if_pos (show ((j + 1 : Nat) : Int) < ((l.length - (k + 1) : Nat) : Int) by omega),wP (show j < 9223372036854775807 by omega)];rw [Xm hn,ZfU i1,Xm hn0,ZfU i0,e1,e0]
       by_cases hv : l[k + 1 + (j + 1)] = l[k + 1 + j]
       ·refine .inl ⟨l.length - (j + 1),((p : Int),((j + 1 + 1 : Nat) : Int),q),by omega,?_,p,j + 1,q,rfl,by omega,by omega,hql,?_,fun i hi hq hk=>hqi i hi hq (by omega),rfl⟩
        ·rw [hst2,if_neg (by simp [hv]),ZU,wS (by omega)]
        ·rw [hqt,hsn,if_pos hv.symm]
       ·have hpq : p < q.length:=by omega
        refine .inl ⟨l.length - (j + 1),(((p + 1 : Nat) : Int),((j + 1 + 1 : Nat) : Int),q.set p l[k + 1 + (j + 1)]),by omega,?_,p + 1,j + 1,_,rfl,by omega,by omega,by simpa using hql,?_,?_,rfl⟩
        ·rw [hst2,if_pos hv,Xm hpq,ZU,wS (by omega),wS (by omega)]
        ·rw [Zf4 _ _ (by simpa using hpq),List.take_set_of_le (Nat.le_refl _),hqt,hsn,if_neg (fun e=>hv e.symm)]
         simp
        ·intro i hi hq hk
         rw [List.getElem_set_ne (by omega)];exact hqi i hi (by omega) (by omega)
      ·have e : k + 1 + (j + 1) = l.length:=by omega
       refine .inr ⟨_,?_,rfl⟩;simp only [Yl,en,if_neg (show ¬ ((j + 1 : Nat) : Int) < ((l.length - (k + 1) : Nat) : Int) by omega),XN];rw [Zh (by omega),Zh (by rw [ZmO]; omega),show ((p : Int)).toNat = p by omega,ZkQ,hqt,e,List.take_of_length_le (Nat.le_refl _)]
       rfl) _ (((k + 1 : Nat) : Int),1,l) ⟨k + 1,0,l,rfl,by omega,by omega,rfl,by
       rw [show k + 1 + (0 + 1) = k + 1 + 1 by omega,Zf4 _ _ h,adjF_snoc,Zdg l k h0,he,if_pos rfl,ha],fun i hi hq hk=>rfl,rfl⟩
     exact g1
    ·refine .inl ⟨l.length - (k + 1),((k + 1 + 1 : Nat) : Int),by omega,by rw [hst,if_neg he],k + 1,rfl,by omega,?_,rfl⟩
     rw [Zf4 _ _ h,adjF_snoc,Zdg l k h0,if_neg (by simp; exact fun e=>he e.symm),ha]
   ·refine .inr ⟨l,?_,?_⟩
    ·simp only [YA,if_neg (show ¬ ((k + 1 : Nat) : Int) < (l.length : Int) by omega),XM]
     rfl
    ·rw [List.take_of_length_le (by omega)] at ha
     exact ha.symm) _ 1 ⟨0,rfl,by omega,by
    have h0 : 0 < l.length:=by omega
    rw [Zf4 _ _ h0]
    simp [XR],rfl⟩
  exact h1
noncomputable def VR (k : Arr 2) (l : List (List Int)) (n m : Int) : List Int×Int:=if 4096 < l.length then ([],4) else if ((n < 0∨4096 < n)∨m < 1)∨1099511627776 < m then ([],5) else (XR [] (srt (l.map (ZeF k n m))),0)
theorem ZmX (k : Arr 2) (l : List (List Int)) (n m : Int) (hi : ZeP l) (hl : l.length≤100000) : Zbh k l n m = some (VR k l n m):=by
 rw [Zbh,VR];by_cases h1 : 4096 < l.length
 ·rw [if_pos (by omega),if_pos h1]
 ·rw [if_neg (by omega),if_neg h1]
  by_cases h2 : ((n < 0∨4096 < n)∨m < 1)∨1099511627776 < m
  ·rw [if_pos h2,if_pos h2]
  ·rw [if_neg h2,if_neg h2,Zn0 k l n m hi hl,Zf,ZmW _ (by rw [Zcr]; simp; omega),Zf]
theorem ZmY (k : Arr 2) (l : List (List Int)) (n m : Int) (hi : ZeP l) (hl : l.length≤100000) : ZbF k l n m = some (VR k l n m):=by
 rw [ZbF,VR];by_cases h1 : 4096 < l.length
 ·rw [if_pos (by omega),if_pos h1]
 ·rw [if_neg (by omega),if_neg h1]
  by_cases h2 : ((n < 0∨4096 < n)∨m < 1)∨1099511627776 < m
  ·rw [if_pos h2,if_pos h2]
  ·rw [if_neg h2,if_neg h2]
   obtain ⟨r,h3,rfl⟩:=Xk (step:=Zbv l k n m) (fun q s=>∃ i : Nat,s = ((i : Int),(l.take i).map (ZeF k n m))∧i≤l.length∧q = l.length - i) (fun r=>r = (XR [] (srt (l.map (ZeF k n m))),0)) (by
    rintro q s ⟨i,rfl,hil,rfl⟩
    by_cases h : i < l.length
    ·refine .inl ⟨l.length - (i + 1),(((i + 1 : Nat) : Int),(l.take (i + 1)).map (ZeF k n m)),by omega,?_,i + 1,rfl,by omega,rfl⟩
     simp only [Zbv,if_pos (show (i : Int) < (l.length : Int) by omega)];rw [Xl h,ZnY k _ _ _ (hi _ (List.getElem_mem h)).2,Zf,Zh (by simp; omega),wS (by omega),Zg9 _ _ _ h]
    ·refine .inr ⟨_,?_,rfl⟩
     simp only [Zbv,if_neg (show ¬ (i : Int) < (l.length : Int) by omega),ZdZ];rw [List.take_of_length_le (by omega),ZmV _ (by simp; omega),Zf];have hsl : (srt (l.map (ZeF k n m))).length = l.length:=by rw [Zcr]; simp
     generalize srt (l.map (ZeF k n m)) = y at hsl
     obtain ⟨r,g1,rfl⟩:=Xk (step:=Zbu y) (fun q s=>∃ i : Nat,s = ((i : Int),XR [] (y.take i))∧i≤y.length∧q = y.length - i) (fun r=>r = (XR [] y,0)) (by
      rintro q s ⟨i,rfl,hil,rfl⟩
      by_cases h : i < y.length
      ·refine .inl ⟨y.length - (i + 1),(((i + 1 : Nat) : Int),XR [] (y.take (i + 1))),by omega,?_,i + 1,rfl,by omega,rfl⟩
       have hal:=adjF_len (y.take i) [];simp at hal
       simp only [Zbu,if_pos (show (i : Int) < (y.length : Int) by omega)];rw [Xl h,Zf4 _ _ h,adjF_snoc];rcases Nat.eq_zero_or_pos i with h0 | h0
       ·subst h0
        simp only [show ((0 : Nat) : Int) = 0 from rfl,if_true,Zf,true_or];rw [Zh (by simp [XR]),Xs];simp [XR]
        rfl
       ·obtain ⟨j,rfl⟩ : ∃ j,i = j + 1:=⟨i - 1,by omega⟩
        have hj : j < y.length:=by omega
        have hlast:=Zdg y j hj;generalize XR [] (y.take (j + 1)) = out at hlast hal;have hne : out≠[]:=by rintro rfl; simp at hlast
        have hol : 0 < out.length:=List.length_pos_iff.2 hne;have ho : out.length - 1 < out.length:=by omega
        have hov : out[out.length - 1] = y[j]:=by
         rw [List.getLast?_eq_getElem?,List.getElem?_eq_getElem ho] at hlast;exact Option.some.inj hlast
        rw [if_neg (by omega),show IntKind.i64.wrap ((out.length : Int) - 1) = ((out.length - 1 : Nat) : Int) by rw [wi _ (by omega)]; omega,Xm ho,ZfU ho,hov,Zf,hlast];by_cases e : y[j + 1] = y[j]
        ·rw [if_neg (by simp [e]; omega),if_pos (by rw [e]),Xs,wS (by omega)]
        ·rw [if_pos (by simp [e]),Zh (by omega),if_neg (by simp; exact fun h=>e h.symm),Xs,wS (by omega)]
      ·refine .inr ⟨_,?_,rfl⟩
       simp only [Zbu,if_neg (show ¬ (i : Int) < (y.length : Int) by omega),ZdY];rw [List.take_of_length_le (by omega)]
       rfl) _ (0,[]) ⟨0,rfl,by omega,rfl⟩
     rw [g1]
     rfl) _ (0,[]) ⟨0,rfl,by omega,rfl⟩
   exact h3
theorem Zn3 (k : Arr 2) (l : List (List Int)) (n m : Int) (hl : l.length≤100000) : (VR k l n m).1.length≤100000:=by
 unfold VR;split
 ·simp
 ·split
  ·simp
  ·have:=adjF_len (srt (l.map (ZeF k n m))) []
   rw [Zcr] at this;simp at this ⊢
   omega
end Go.Lc
end
section
namespace Go.Lc
open Go.RowKit
open Go.Av
set_option linter.unusedVariables false
set_option linter.unusedSimpArgs false
set_option maxRecDepth 100000
theorem ZlT {d : List Int} (h : Byt d) : VB d (8 * d.length):=⟨h,by omega,fun i hi=>by
 rw [bt,show d.getD (i / 8) 0 = 0 by rw [List.getD_eq_getElem?_getD,List.getElem?_eq_none (by omega)]; rfl]
 exact Zqj _⟩
def Za3 (d : List Int) (a : Nat) : Nat→Int
 | 0=>0
 | p + 1=>2 * Za3 d a p + (if bt d (a + p) = true then 1 else 0)
theorem Zg1 (d : List Int) (a : Nat) : ∀ p,0≤Za3 d a p∧Za3 d a p < 2 ^ p
 | 0=>by simp [Za3]
 | p + 1=>by
  have:=Zg1 d a p;rw [Za3,Int.pow_succ];split <;> omega
theorem or1 {x : Nat} (h : 2 * x + 1≤18446744073709551615) : bits .or .u64 (2 * (x : Int)) 1 = 2 * (x : Int) + 1:=by
 show IntKind.u64.wrap ((BitVec.ofInt 64 (2 * (x : Int)) ||| BitVec.ofInt 64 1).toNat : Int) = _
 rw [BitVec.toNat_or]
 have e1 : (BitVec.ofInt 64 (2 * (x : Int))).toNat = 2 * x:=by
  simp [BitVec.toNat_ofInt]
  omega
 have e2 : (BitVec.ofInt 64 1).toNat = 1:=rfl;have e3:=Nat.two_pow_add_eq_or_of_lt (i:=1) (b:=1) (by omega) x;rw [e1,e2,show 2 * x ||| 1 = 2 * x + 1 by simpa using e3.symm,wu _ (by omega)];omega
theorem Zn4 {p q : Nat} (h : p≤q) : (2 : Int) ^ p≤2 ^ q:=by
 have:=Nat.pow_le_pow_right (n:=2) (by omega) h
 exact_mod_cast this
theorem Zj1 (d : List Int) (n : Int) (a p : Nat) (hb : Byt d) (hp : p≤40) (hl : a + p≤8 * d.length) (hd : d.length≤400000) : Zbw (d,n) (a : Int) (p : Int) = some (Za3 d a p):=by
 rw [Zbw]
 obtain ⟨r,h,rfl⟩:=Xk (step:=ZbU (p : Int) (d,n) (a : Int)) (fun q s=>∃ i : Nat,s = (Za3 d a i,(i : Int))∧i≤p∧q = p - i) (fun r=>r = Za3 d a p) (by
  rintro q s ⟨i,rfl,hi,rfl⟩
  by_cases h : i < p
  ·have hr:=Zg1 d a i
   have hpw : (2 : Int) ^ i≤2 ^ 39:=Zn4 (by omega);have e39 : (2 : Int) ^ 39 = 549755813888:=rfl;refine .inl ⟨p - (i + 1),(Za3 d a (i + 1),((i + 1 : Nat) : Int)),by omega,?_,i + 1,rfl,by omega,rfl⟩;simp only [ZbU,if_pos (show (i : Int) < (p : Int) by omega),ZaQ];rw [wA (by omega),Zk1 hb (by omega) (by omega),Zf,wS (by omega),Za3];obtain ⟨x,hx⟩ : ∃ x : Nat,Za3 d a i = (x : Int):=⟨(Za3 d a i).toNat,by omega⟩
   rw [hx] at hr ⊢;rw [wu _ (by omega),Int.mul_comm (x : Int) 2];by_cases hbt : bt d (a + i) = true
   ·rw [if_pos hbt,if_pos hbt,or1 (by omega)]
   ·rw [if_neg hbt,if_neg hbt,Int.add_zero]
  ·refine .inr ⟨_,?_,rfl⟩
   simp only [ZbU,if_neg (show ¬ (i : Int) < (p : Int) by omega),Zej];rw [show i = p by omega]
   rfl) _ (0,0) ⟨0,rfl,by omega,rfl⟩
 exact h
theorem Zi3 (d : List Int) (n : Int) (a p : Nat) (hb : Byt d) (hp : p≤40) (hl : a + p≤8 * d.length) (hd : d.length≤400000) : Za1 (d,n) (a : Int) (p : Int) = some (Za3 d a p):=by
 rw [Za1]
 obtain ⟨r,h,rfl⟩:=Xk (step:=Zbx (a : Int) (p : Int) (d,n)) (fun q s=>∃ i : Nat,s = (Za3 d a i,((a + i : Nat) : Int))∧i≤p∧q = p - i) (fun r=>r = Za3 d a p) (by
  rintro q s ⟨i,rfl,hi,rfl⟩
  have ea : IntKind.i64.wrap ((a : Int) + (p : Int)) = ((a + p : Nat) : Int):=wA (by omega);by_cases h : i < p
  ·have hr:=Zg1 d a i
   have hpw : (2 : Int) ^ i≤2 ^ 39:=Zn4 (by omega);have e39 : (2 : Int) ^ 39 = 549755813888:=rfl;refine .inl ⟨p - (i + 1),(Za3 d a (i + 1),((a + (i + 1) : Nat) : Int)),by omega,?_,i + 1,rfl,by omega,rfl⟩;simp only [Zbx,ea,if_pos (show ((a + i : Nat) : Int) < ((a + p : Nat) : Int) by omega),Zau];rw [ZhY hb (by omega) (by omega),Zf,wS (by omega),Za3];rw [wu (Za3 d a i * 2) (by omega),Int.mul_comm _ 2];by_cases hbt : bt d (a + i) = true
   ·rw [if_pos hbt,if_pos hbt,wu _ (by omega)]
    rfl
   ·rw [if_neg hbt,if_neg hbt,Int.add_zero]
    rfl
  ·refine .inr ⟨_,?_,rfl⟩
   simp only [Zbx,ea,if_neg (show ¬ ((a + i : Nat) : Int) < ((a + p : Nat) : Int) by omega),Zd0];rw [show i = p by omega]
   rfl) _ (0,(a : Int)) ⟨0,by simp [Za3],by omega,rfl⟩
 exact h
def ones (d : List Int) : Nat→Nat→Nat
 | 0,_=>0
 | f + 1,a=>if bt d a = true then ones d f (a + 1) + 1 else 0
theorem ZeZ (d : List Int) : ∀ (j f a : Nat),j≤f→(∀ i,i < j→bt d (a + i) = true)→ones d f a = ones d (f - j) (a + j) + j
 | 0,f,a,_,_=>rfl
 | j + 1,f,a,h,hb=>by
  obtain ⟨f,rfl⟩ : ∃ g,f = g + 1:=⟨f - 1,by omega⟩
  rw [ones,if_pos (by simpa using hb 0 (by omega)),ZeZ d j f (a + 1) (by omega) (fun i hi=>by have:=hb (i + 1) (by omega); rwa [show a + (i + 1) = a + 1 + i by omega] at this)];rw [show f + 1 - (j + 1) = f - j by omega,show a + 1 + j = a + (j + 1) by omega];omega
def RRS (d : List Int) (n a p : Nat) : Int×Nat×Int :=
 if 65536 < ones d (n - a) a then (0,0,4) else if n - (a + ones d (n - a) a) < 1 + p then (0,0,1) else
  (bits .or .u64 (IntKind.u64.wrap ((ones d (n - a) a : Int) * 2 ^ p)) (Za3 d (a + ones d (n - a) a + 1) p),a + ones d (n - a) a + 1 + p,0)
theorem Zn5 {d : List Int} {n a p : Nat} (h : (RRS d n a p).2.2 = 0) (ha : a≤n) : (RRS d n a p).2.1≤n:=by
 unfold RRS at h ⊢;split
 ·simp
 ·split
  ·simp
  ·simp only
   omega
theorem Zqm (d : List Int) (n a p : Nat) (hv : VB d n) (hn : n≤1600000) (ha : a≤n) (hp : p≤32) : Zbi (d,(n : Int)) (a : Int) (p : Int) = some ((RRS d n a p).1,(((RRS d n a p).2.1 : Nat) : Int),(RRS d n a p).2.2):=by
 have hlen:=hv.len;rw [Zbi,Zi1 hv hn,Zf,if_neg (by simp),if_neg (by simp only; omega)]
 obtain ⟨r,h,rfl⟩:=Xk (step:=XZ (d,(n : Int)) (a : Int) (p : Int)) (fun q s=>∃ j : Nat,s = ((a + j : Nat) : Int)∧a + j≤n∧j≤65536∧(∀ i,i < j→bt d (a + i) = true)∧q = n - (a + j)) (fun r=>r = ((RRS d n a p).1,(((RRS d n a p).2.1 : Nat) : Int),(RRS d n a p).2.2)) (by
  rintro q s ⟨j,rfl,hj,hj6,hb,rfl⟩
  have hsp:=ZeZ d j (n - a) a (by omega) hb;by_cases h : a + j < n∧bt d (a + j) = true
  ·obtain ⟨h1,h2⟩:=h
   have hsp1:=ZeZ d (j + 1) (n - a) a (by omega) (fun i hi=>by
    by_cases e : i = j
    ·subst e; exact h2
    ·exact hb i (by omega))
   have hst : XZ (d,(n : Int)) (a : Int) (p : Int) ((a + j : Nat) : Int) = if 65536 < ((j + 1 : Nat) : Int) then some (.inr (0,0,4)) else some (.inl ((a + (j + 1) : Nat) : Int)):=by
    simp only [XZ,if_pos (show ((a + j : Nat) : Int) < (n : Int) by omega)];rw [Zk1 hv.byt (by omega) (by omega),Zf,h2,Zf,if_pos ⟨by omega,rfl⟩,wS (by omega),wi _ (by omega),show ((a + j + 1 : Nat) : Int) - (a : Int) = ((j + 1 : Nat) : Int) by omega];rfl
   by_cases h6 : 65536 < j + 1
   ·refine .inr ⟨(0,0,4),by rw [hst,if_pos (by omega)],?_⟩
    unfold RRS;rw [if_pos (by omega)];rfl
   ·exact .inl ⟨n - (a + (j + 1)),_,by omega,by rw [hst,if_neg (by omega)],j + 1,rfl,by omega,by omega,fun i hi=>by
     by_cases e : i = j
     ·subst e; exact h2
     ·exact hb i (by omega),rfl⟩
  ·have hk : ones d (n - a) a = j:=by
    rw [hsp]
    have : ones d (n - a - j) (a + j) = 0:=by
     rcases Nat.eq_zero_or_pos (n - a - j) with h0 | h0
     ·rw [h0]; rfl
     ·obtain ⟨f,hf⟩ : ∃ f,n - a - j = f + 1:=⟨n - a - j - 1,by omega⟩
      rw [hf,ones,if_neg (fun e=>h ⟨by omega,e⟩)]
    omega
   have hst : XZ (d,(n : Int)) (a : Int) (p : Int) ((a + j : Nat) : Int) = (Zan (d,(n : Int)) ((a + j : Nat) : Int) (p : Int) (a : Int)).map Sum.inr:=by
    simp only [XZ];by_cases h1 : a + j < n
    ·have h2 : bt d (a + j) = false:=by
      cases e : bt d (a + j) with
      | false=>rfl
      | true=>exact absurd ⟨h1,e⟩ h
     rw [if_pos (by omega),Zk1 hv.byt (by omega) (by omega),Zf,h2,Zf,if_neg (by simp)]
    ·rw [if_neg (by omega),Zf,if_neg (by simp)]
   have hR : RRS d n a p = if n - (a + j) < 1 + p then (0,0,1) else (bits .or .u64 (IntKind.u64.wrap ((j : Int) * 2 ^ p)) (Za3 d (a + j + 1) p),a + j + 1 + p,0):=by
    unfold RRS;rw [hk,if_neg (by omega)]
   refine .inr ⟨_,?_,rfl⟩;rw [hst,Zan,hR];simp only;rw [wi ((n : Int) - ((a + j : Nat) : Int)) (by omega),wi (1 + (p : Int)) (by omega)];by_cases h2 : n - (a + j) < 1 + p
   ·rw [if_pos (by omega),if_pos h2]
    rfl
   ·rw [if_neg (by omega),if_neg h2,Zh (by omega),wS (by omega),Zj1 d _ (a + j + 1) p hv.byt (by omega) (by omega) (by omega),Zf,wA (by omega),wi (((a + j : Nat) : Int) - (a : Int)) (by omega),show ((a + j : Nat) : Int) - (a : Int) = (j : Int) by omega,wu (j : Int) (by omega),show min ((p : Int)).toNat 64 = p by omega]
    rfl) _ (a : Int) ⟨0,rfl,by omega,by omega,fun i hi=>by omega,rfl⟩
 exact h
theorem Zrs (d : List Int) (n a p : Nat) (hv : VB d n) (hn : n≤1600000) (ha : a≤n) (hp : p≤32) : ZaR (d,(n : Int)) (a : Int) (p : Int) = some ((RRS d n a p).1,(((RRS d n a p).2.1 : Nat) : Int),(RRS d n a p).2.2):=by
 have hlen:=hv.len;rw [ZaR,ZjY hv hn,Zf,if_neg (by simp),if_neg (by simp only; omega)]
 obtain ⟨r,h,rfl⟩:=Xk (step:=XO (a : Int) (d,(n : Int)) (p : Int)) (fun q s=>∃ j : Nat,s = (j : Int)∧a + j≤n∧j≤65536∧(∀ i,i < j→bt d (a + i) = true)∧q = n - (a + j)) (fun r=>r = ((RRS d n a p).1,(((RRS d n a p).2.1 : Nat) : Int),(RRS d n a p).2.2)) (by
  rintro q s ⟨j,rfl,hj,hj6,hb,rfl⟩
  have hsp:=ZeZ d j (n - a) a (by omega) hb;have eaj : IntKind.i64.wrap ((a : Int) + (j : Int)) = ((a + j : Nat) : Int):=wA (by omega);by_cases h : a + j < n∧bt d (a + j) = true
  ·obtain ⟨h1,h2⟩:=h
   have hsp1:=ZeZ d (j + 1) (n - a) a (by omega) (fun i hi=>by
    by_cases e : i = j
    ·subst e; exact h2
    ·exact hb i (by omega))
   have hst : XO (a : Int) (d,(n : Int)) (p : Int) (j : Int) = if 65536 < ((j + 1 : Nat) : Int) then some (.inr (0,0,4)) else some (.inl ((j + 1 : Nat) : Int)):=by
    simp only [XO,eaj,if_pos (show ((a + j : Nat) : Int) < (n : Int) by omega)];rw [ZhY hv.byt (by omega) (by omega),Zf,h2,Zf,if_pos ⟨by omega,rfl⟩,wS (by omega)]
   by_cases h6 : 65536 < j + 1
   ·refine .inr ⟨(0,0,4),by rw [hst,if_pos (by omega)],?_⟩
    unfold RRS;rw [if_pos (by omega)];rfl
   ·exact .inl ⟨n - (a + (j + 1)),_,by omega,by rw [hst,if_neg (by omega)],j + 1,rfl,by omega,by omega,fun i hi=>by
     by_cases e : i = j
     ·subst e; exact h2
     ·exact hb i (by omega),rfl⟩
  ·have hk : ones d (n - a) a = j:=by
    rw [hsp]
    have : ones d (n - a - j) (a + j) = 0:=by
     rcases Nat.eq_zero_or_pos (n - a - j) with h0 | h0
     ·rw [h0]; rfl
     ·obtain ⟨f,hf⟩ : ∃ f,n - a - j = f + 1:=⟨n - a - j - 1,by omega⟩
      rw [hf,ones,if_neg (fun e=>h ⟨by omega,e⟩)]
    omega
   have hst : XO (a : Int) (d,(n : Int)) (p : Int) (j : Int) = (Zaf (d,(n : Int)) (a : Int) (j : Int) (p : Int)).map Sum.inr:=by
    simp only [XO,eaj];by_cases h1 : a + j < n
    ·have h2 : bt d (a + j) = false:=by
      cases e : bt d (a + j) with
      | false=>rfl
      | true=>exact absurd ⟨h1,e⟩ h
     rw [if_pos (by omega),ZhY hv.byt (by omega) (by omega),Zf,h2,Zf,if_neg (by simp)]
    ·rw [if_neg (by omega),Zf,if_neg (by simp)]
   have hR : RRS d n a p = if n - (a + j) < 1 + p then (0,0,1) else (bits .or .u64 (IntKind.u64.wrap ((j : Int) * 2 ^ p)) (Za3 d (a + j + 1) p),a + j + 1 + p,0):=by
    unfold RRS;rw [hk,if_neg (by omega)]
   refine .inr ⟨_,?_,rfl⟩;rw [hst,Zaf,hR];simp only [eaj];rw [wi ((n : Int) - (a : Int)) (by omega),wi (_ - (j : Int)) (by omega),wi (1 + (p : Int)) (by omega)];by_cases h2 : n - (a + j) < 1 + p
   ·rw [if_pos (by omega),if_pos h2]
    rfl
   ·rw [if_neg (by omega),if_neg h2,Zh (by omega),wS (by omega),Zi3 d _ (a + j + 1) p hv.byt (by omega) (by omega) (by omega),Zf,wA (by omega),wu (j : Int) (by omega),show min ((p : Int)).toNat 64 = p by omega]
    rfl) _ 0 ⟨0,rfl,by omega,by omega,fun i hi=>by omega,rfl⟩
 exact h
def Zes (d : List Int) (n p : Nat) : Nat→Nat→Int→List Int→List Int×Int
 | 0,a,_,out=>if 8≤n - a then ([],2) else if Za3 d a (n - a) = 0 then (out,0) else ([],3)
 | c + 1,a,s,out=>if (RRS d n a p).2.2 = 0 then (if IntKind.u64.wrap (s + (RRS d n a p).1) < s then ([],5) else Zes d n p c (RRS d n a p).2.1 (IntKind.u64.wrap (s + (RRS d n a p).1)) (out++[IntKind.u64.wrap (s + (RRS d n a p).1)])) else ([],(RRS d n a p).2.2)
theorem Zpj (c : Int) (d : List Int) (p : Nat) (hb : Byt d) (hd : d.length≤200000) (hc : c≤4096) (hp : p≤32) : ∀ (k i a : Nat) (s : Int) (out : List Int),c - (i : Int) = (k : Int)→a≤8 * d.length→out.length≤i→Zg (Zao (c,d) (p : Int)) (s,(a : Int),(i : Int),out) = some (Zes d (8 * d.length) p k a s out):=by
 have hv:=ZlT hb;have e8 : IntKind.i64.wrap (8 * (d.length : Int)) = ((8 * d.length : Nat) : Int):=by rw [wi _ (by omega)]; omega
 intro k;induction k with
 | zero =>
  intro i a s out hk ha ho;refine Ym ?_;simp only [Zao,if_neg (show ¬ (i : Int) < c by omega),Zdk,e8,Zes];rw [wi _ (by omega),show ((8 * d.length : Nat) : Int) - (a : Int) = ((8 * d.length - a : Nat) : Int) by omega];by_cases h8 : 8≤8 * d.length - a
  ·rw [if_pos (by omega),if_pos h8]
  ·rw [if_neg (by omega),if_neg h8,Zek,Zi1 hv (by omega),Zf,if_neg (by simp),if_neg (by simp only; omega),wi _ (by omega),if_neg (by simp only; omega),Zj1 d _ a _ hb (by omega) (by omega) (by omega),Zf,Zf,if_neg (by simp)]
   by_cases h0 : Za3 d a (8 * d.length - a) = 0
   ·rw [if_neg (by simp [h0]),if_pos h0]
   ·rw [if_pos h0,if_neg h0]
 | succ k ih =>
  intro i a s out hk ha ho
  have hst : Zao (c,d) (p : Int) (s,(a : Int),(i : Int),out) = (if (RRS d (8 * d.length) a p).2.2 = 0 then (if IntKind.u64.wrap (s + (RRS d (8 * d.length) a p).1) < s then some (.inr ([],5)) else some (.inl (IntKind.u64.wrap (s + (RRS d (8 * d.length) a p).1),(((RRS d (8 * d.length) a p).2.1 : Nat) : Int),((i + 1 : Nat) : Int),out++[IntKind.u64.wrap (s + (RRS d (8 * d.length) a p).1)]))) else some (.inr ([],(RRS d (8 * d.length) a p).2.2))):=by
   simp only [Zao,if_pos (show (i : Int) < c by omega),e8];rw [Zqm d _ a p hv (by omega) ha hp,Zf];by_cases h0 : (RRS d (8 * d.length) a p).2.2 = 0
   ·rw [if_neg (by simp [h0]),if_pos h0]
    simp only;split
    ·rfl
    ·rw [Zh (by omega),wS (by omega)]
   ·rw [if_pos h0,if_neg h0]
  rw [Zes];by_cases h0 : (RRS d (8 * d.length) a p).2.2 = 0
  ·rw [if_pos h0] at hst ⊢
   by_cases h1 : IntKind.u64.wrap (s + (RRS d (8 * d.length) a p).1) < s
   ·rw [if_pos h1] at hst ⊢
    exact Yf hst
   ·rw [if_neg h1] at hst ⊢
    rw [ZG hst];exact ih (i + 1) _ _ _ (by omega) (Zn5 h0 ha) (by simp; omega)
  ·rw [if_neg h0] at hst ⊢
   exact Yf hst
theorem Zn6 (c : Int) (d : List Int) (p : Nat) (hb : Byt d) (hd : d.length≤200000) (hc : c≤4096) (hp : p≤32) : ∀ (k a : Nat) (s : Int) (out : List Int),c - (out.length : Int) = (k : Int)→a≤8 * d.length→Zg (Zav (c,d) (p : Int)) ((a : Int),s,out) = some (Zes d (8 * d.length) p k a s out):=by
 have hv:=ZlT hb;have e8 : IntKind.i64.wrap (8 * (d.length : Int)) = ((8 * d.length : Nat) : Int):=by rw [wi _ (by omega)]; omega
 intro k;induction k with
 | zero =>
  intro a s out hk ha;refine Ym ?_;simp only [Zav,if_neg (show ¬ (out.length : Int) < c by omega),Zd1,e8,Zes];rw [wi _ (by omega),show ((8 * d.length : Nat) : Int) - (a : Int) = ((8 * d.length - a : Nat) : Int) by omega];by_cases h8 : 8≤8 * d.length - a
  ·rw [if_pos (by omega),if_pos h8]
  ·rw [if_neg (by omega),if_neg h8,Zdv,ZjY hv (by omega),Zf,if_neg (by simp),if_neg (by simp only; omega),wi _ (by omega),if_neg (by simp only; omega),Zi3 d _ a _ hb (by omega) (by omega) (by omega),Zf,Zf]
   by_cases h0 : Za3 d a (8 * d.length - a) = 0
   ·rw [if_neg (by simp [h0]),if_pos h0]
   ·rw [if_pos h0,if_neg h0]
 | succ k ih =>
  intro a s out hk ha
  have hst : Zav (c,d) (p : Int) ((a : Int),s,out) = (if (RRS d (8 * d.length) a p).2.2 = 0 then (if IntKind.u64.wrap (s + (RRS d (8 * d.length) a p).1) < s then some (.inr ([],5)) else some (.inl ((((RRS d (8 * d.length) a p).2.1 : Nat) : Int),IntKind.u64.wrap (s + (RRS d (8 * d.length) a p).1),out++[IntKind.u64.wrap (s + (RRS d (8 * d.length) a p).1)]))) else some (.inr ([],(RRS d (8 * d.length) a p).2.2))):=by
   simp only [Zav,if_pos (show (out.length : Int) < c by omega),e8];rw [Zrs d _ a p hv (by omega) ha hp,Zf];by_cases h0 : (RRS d (8 * d.length) a p).2.2 = 0
   ·rw [if_neg (by simp [h0]),if_pos h0]
    simp only;split
    ·rfl
    ·rw [Zh (by omega)]
   ·rw [if_pos h0,if_neg h0]
  rw [Zes];by_cases h0 : (RRS d (8 * d.length) a p).2.2 = 0
  ·rw [if_pos h0] at hst ⊢
   by_cases h1 : IntKind.u64.wrap (s + (RRS d (8 * d.length) a p).1) < s
   ·rw [if_pos h1] at hst ⊢
    exact Yf hst
   ·rw [if_neg h1] at hst ⊢
    rw [ZG hst];exact ih _ _ _ (by simp; omega) (Zn5 h0 ha)
  ·rw [if_neg h0] at hst ⊢
   exact Yf hst
def DR (f : Tapi_Filter) (p : Int) : List Int×Int:=if 4096 < f.1∨200000 < (f.2.length : Int) then ([],4) else if (f.1 < 0∨p < 0)∨32 < p then ([],5) else Zes f.2 (8 * f.2.length) p.toNat f.1.toNat 0 0 []
theorem Zn7 (f : Tapi_Filter) (p : Int) (hb : Byt f.2) : Zbj f p = some (DR f p):=by
 obtain ⟨c,d⟩:=f;rw [Zbj,DR];simp only at hb ⊢;by_cases h1 : 4096 < c∨200000 < (d.length : Int)
 ·rw [if_pos h1,if_pos h1]
 ·rw [if_neg h1,if_neg h1]
  by_cases h2 : (c < 0∨p < 0)∨32 < p
  ·rw [if_pos h2,if_pos h2]
  ·rw [if_neg h2,if_neg h2,Zh (by omega)]
   obtain ⟨q,rfl⟩ : ∃ q : Nat,p = (q : Int):=⟨p.toNat,by omega⟩
   exact Zpj c d q hb (by omega) (by omega) (by omega) c.toNat 0 0 0 [] (by omega) (by omega) (by simp)
theorem ZmZ (f : Tapi_Filter) (p : Int) (hb : Byt f.2) : ZbG f p = some (DR f p):=by
 obtain ⟨c,d⟩:=f;rw [ZbG,DR];simp only at hb ⊢;by_cases h1 : 4096 < c∨200000 < (d.length : Int)
 ·rw [if_pos h1,if_pos h1]
 ·rw [if_neg h1,if_neg h1]
  by_cases h2 : (c < 0∨p < 0)∨32 < p
  ·rw [if_pos h2,if_pos h2]
  ·rw [if_neg h2,if_neg h2]
   obtain ⟨q,rfl⟩ : ∃ q : Nat,p = (q : Int):=⟨p.toNat,by omega⟩
   exact Zn6 c d q hb (by omega) (by omega) (by omega) c.toNat 0 0 [] (by simp; omega) (by omega)
theorem Zk6 (d : List Int) (n p : Nat) : ∀ (c a : Nat) (s : Int) (out : List Int),(Zes d n p c a s out).1.length≤out.length + c
 | 0,a,s,out=>by
  rw [Zes];split
  ·simp
  ·split <;> simp
 | c + 1,a,s,out=>by
  rw [Zes];split
  ·split
   ·simp
   ·have:=Zk6 d n p c (RRS d n a p).2.1 (IntKind.u64.wrap (s + (RRS d n a p).1)) (out++[IntKind.u64.wrap (s + (RRS d n a p).1)])
    simp at this
    omega
  ·simp
theorem Zn8 (f : Tapi_Filter) (p : Int) : (DR f p).1.length≤4096:=by
 unfold DR;split
 ·simp
 ·split
  ·simp
  ·have:=Zk6 f.2 (8 * f.2.length) p.toNat f.1.toNat 0 0 []
   simp at this
   omega
end Go.Lc
end
section
namespace Go.Lc
open Go.RowKit
open Go.Av
set_option linter.unusedVariables false
set_option linter.unusedSimpArgs false
set_option maxRecDepth 100000
theorem Zk7 (d : List Int) (n p : Nat) : ∀ (c a : Nat) (s : Int) (out : List Int),out.Pairwise (·≤·)→(∀ x∈out,x≤s)→(Zes d n p c a s out).1.Pairwise (·≤·)
 | 0,a,s,out,h,_=>by
  rw [Zes];split
  ·exact List.Pairwise.nil
  ·split
   ·exact h
   ·exact List.Pairwise.nil
 | c + 1,a,s,out,h,hs=>by
  rw [Zes];split
  ·split
   ·exact List.Pairwise.nil
   ·rename_i h1
    refine Zk7 d n p c _ _ _ ?_ ?_
    ·rw [List.pairwise_append]
     exact ⟨h,by simp,fun x hx y hy=>by have:=hs x hx; rw [List.mem_singleton.1 hy]; omega⟩
    ·intro x hx
     rcases List.mem_append.1 hx with hx | hx
     ·have:=hs x hx; omega
     ·rw [List.mem_singleton.1 hx]; exact Int.le_refl _
  ·exact List.Pairwise.nil
theorem Zrt (f : Tapi_Filter) (p : Int) : (DR f p).1.Pairwise (·≤·):=by
 unfold DR;split
 ·exact List.Pairwise.nil
 ·split
  ·exact List.Pairwise.nil
  ·exact Zk7 _ _ _ _ _ _ _ List.Pairwise.nil (by simp)
theorem adjF_sub : ∀ (l out : List Int),(XR out l).Sublist (out++l)
 | [],out=>by simp [XR]
 | v :: l,out=>by
  simp only [XR];split
  ·exact (adjF_sub l out).trans (List.Sublist.append_left (List.sublist_cons_self v l) out)
  ·have:=adjF_sub l (out++[v])
   simpa using this
theorem Zru (k : Arr 2) (l : List (List Int)) (n m : Int) : (VR k l n m).1.Pairwise (·≤·):=by
 unfold VR;split
 ·exact List.Pairwise.nil
 ·split
  ·exact List.Pairwise.nil
  ·exact (Zg0 _).sublist (by simpa using adjF_sub (srt (l.map (ZeF k n m))) [])
def Zi4 (w l : List Int) : Bool:=w.any fun v=>decide (v∈l)
theorem Zi5 (v : Int) (w l : List Int) : Zi4 (v :: w) l = (decide (v∈l) || Zi4 w l):=rfl
theorem Zm0 (w l : List Int) (b c : Int) (hl : l.Pairwise (·≤·)) (hw : w.Pairwise (·≤·)) (hll : l.length≤1000000) (hwl : w.length≤1000000) : ∀ (t : List Int) (i j : Nat),w.drop j = t→j≤w.length→i≤l.length→(∀ x (hx : x < l.length),x < i→∀ v∈t,l[x] < v)→Zg (Zaw (w,b) (l,c)) ((i : Int),(j : Int)) = some (Zi4 t l,0):=by
 intro t;induction t with
 | nil =>
  intro i j ht hj hi hlt;have hjw : w.length≤j:=List.drop_eq_nil_iff.1 ht;refine Ym ?_;simp only [Zaw,if_neg (show ¬ (j : Int) < (w.length : Int) by omega),Lgolomb_Match_k1];rfl
 | cons v t ih =>
  intro i j ht hj hi hlt
  have hjw : j < w.length:=by
   rcases Nat.lt_or_ge j w.length with h | h
   ·exact h
   ·rw [List.drop_eq_nil_of_le h] at ht; cases ht
  have hv : w[j] = v∧w.drop (j + 1) = t:=by
   rw [List.drop_eq_getElem_cons hjw] at ht;injection ht with h1 h2;exact ⟨h1,h2⟩
  have hvt : ∀ u∈t,v≤u:=by
   have hp : (w.drop j).Pairwise (·≤·):=hw.sublist (List.drop_sublist j w);rw [ht] at hp;exact (List.pairwise_cons.1 hp).1
  have hinner : ∃ r,Zg (XQ (l,c) v (j : Int)) (i : Int) = some r∧((v∈l∧r = .inr (true,0))∨(v ∉ l∧∃ i',r = .inl (((i' : Nat) : Int),((j + 1 : Nat) : Int))∧i'≤l.length∧∀ x (hx : x < l.length),x < i'→l[x] < v)):=by
   refine Xk (step:=XQ (l,c) v (j : Int)) (fun q s=>∃ e : Nat,s = (e : Int)∧e≤l.length∧(∀ x (hx : x < l.length),x < e→l[x] < v)∧q = l.length - e) _ ?_ _ _ ⟨i,rfl,hi,fun x hx hxi=>hlt x hx hxi v (by simp),rfl⟩;rintro q s ⟨e,rfl,he,hex,rfl⟩
   by_cases h1 : e < l.length
   ·have hc : (e : Int) < (l.length : Int):=by omega
    by_cases h2 : l[e] < v
    ·refine .inl ⟨l.length - (e + 1),((e + 1 : Nat) : Int),by omega,?_,e + 1,rfl,by omega,?_,rfl⟩
     ·simp only [XQ,hc,if_true,true_and]
      rw [Xl h1,Zf,if_pos (by simp [h2]),wS (by omega)]
     ·intro x hx hxe
      by_cases ee : x = e
      ·subst ee; exact h2
      ·exact hex x hx (by omega)
    ·have hst : XQ (l,c) v (j : Int) (e : Int) = (XP (e : Int) (l,c) v (j : Int)).map Sum.inr:=by
      simp only [XQ,hc,if_true,true_and];rw [Xl h1,Zf,if_neg (by simp; omega)]
     have hk : XP (e : Int) (l,c) v (j : Int) = if l[e] = v then some (.inr (true,0)) else some (.inl ((e : Int),((j + 1 : Nat) : Int))):=by
      simp only [XP,hc,if_true,true_and];rw [Xl h1,Zf,wS (by omega)];by_cases h3 : l[e] = v <;> simp [h3]
     by_cases h3 : l[e] = v
     ·exact .inr ⟨_,by rw [hst,hk,if_pos h3]; rfl,.inl ⟨h3 ▸ List.getElem_mem h1,rfl⟩⟩
     ·refine .inr ⟨_,by rw [hst,hk,if_neg h3]; rfl,.inr ⟨?_,e,rfl,he,hex⟩⟩
      intro hm;obtain ⟨x,hx,hxv⟩:=List.getElem_of_mem hm;rcases Nat.lt_or_ge x e with h | h
      ·have:=hex x hx h; omega
      ·rcases Nat.lt_or_ge e x with h' | h'
       ·have:=List.pairwise_iff_getElem.1 hl e x h1 hx h'; omega
       ·obtain rfl : x = e:=by omega
        exact h3 hxv
   ·have hc : ¬ (e : Int) < (l.length : Int):=by omega
    refine .inr ⟨_,?_,.inr ⟨?_,e,rfl,he,hex⟩⟩
    ·simp only [XQ,hc,if_false,Zf,false_and,XP]
     rw [wS (by omega)];rfl
    ·intro hm
     obtain ⟨x,hx,hxv⟩:=List.getElem_of_mem hm;have:=hex x hx (by omega); omega
  obtain ⟨r,h1,h2⟩:=hinner
  have hst : Zaw (w,b) (l,c) ((i : Int),(j : Int)) = some r:=by
   simp only [Zaw,if_pos (show (j : Int) < (w.length : Int) by omega)];rw [Xl hjw,hv.1,h1]
  rw [Zi5];rcases h2 with ⟨hm,rfl⟩ | ⟨hm,i',rfl,hi',hlt'⟩
  ·rw [Yf hst]
   simp [hm]
  ·rw [ZG hst,ih i' (j + 1) hv.2 (by omega) hi' (fun x hx hxi u hu=>by have:=hlt' x hx hxi; have:=hvt u hu; omega)]
   simp [hm]
theorem Zlt (w l : List Int) (b c : Int) (hll : l.length≤1000000) (hwl : w.length≤1000000) : ∀ (t : List Int) (j : Nat),w.drop j = t→j≤w.length→Zg (ZaT (w,b) (l,c)) (j : Int) = some (Zi4 t l,0):=by
 intro t;induction t with
 | nil =>
  intro j ht hj;have hjw : w.length≤j:=List.drop_eq_nil_iff.1 ht;refine Ym ?_;simp only [ZaT,if_neg (show ¬ (j : Int) < (w.length : Int) by omega),Lref19_Match_k1];rfl
 | cons v t ih =>
  intro j ht hj
  have hjw : j < w.length:=by
   rcases Nat.lt_or_ge j w.length with h | h
   ·exact h
   ·rw [List.drop_eq_nil_of_le h] at ht; cases ht
  have hv : w[j] = v∧w.drop (j + 1) = t:=by
   rw [List.drop_eq_getElem_cons hjw] at ht;injection ht with h1 h2;exact ⟨h1,h2⟩
  obtain ⟨r,h1,h2⟩:=Xk (step:=ZaS (l,c) v (j : Int)) (fun q s=>∃ e : Nat,s = (e : Int)∧e≤l.length∧v ∉ l.take e∧q = l.length - e) (fun r=>(v∈l∧r = .inr (true,0))∨(v ∉ l∧r = .inl ((j + 1 : Nat) : Int))) (by
   rintro q s ⟨e,rfl,he,hex,rfl⟩
   by_cases h1 : e < l.length
   ·by_cases h2 : v = l[e]
    ·refine .inr ⟨_,?_,.inl ⟨h2 ▸ List.getElem_mem h1,rfl⟩⟩
     simp only [ZaS,if_pos (show (e : Int) < (l.length : Int) by omega)];rw [Xl h1,if_pos h2]
    ·refine .inl ⟨l.length - (e + 1),((e + 1 : Nat) : Int),by omega,?_,e + 1,rfl,by omega,?_,rfl⟩
     ·simp only [ZaS,if_pos (show (e : Int) < (l.length : Int) by omega)]
      rw [Xl h1,if_neg h2,wS (by omega)]
     ·intro hm
      rw [Zf4 _ _ h1] at hm;rcases List.mem_append.1 hm with h | h
      ·exact hex h
      ·exact h2 (List.mem_singleton.1 h)
   ·refine .inr ⟨_,?_,.inr ⟨by rwa [List.take_of_length_le (by omega)] at hex,rfl⟩⟩
    simp only [ZaS,if_neg (show ¬ (e : Int) < (l.length : Int) by omega),Zel];rw [wS (by omega)]
    rfl) _ 0 ⟨0,rfl,by omega,by simp,rfl⟩
  have hst : ZaT (w,b) (l,c) (j : Int) = some r:=by
   simp only [ZaT,if_pos (show (j : Int) < (w.length : Int) by omega)];rw [Xl hjw,hv.1,h1]
  rw [Zi5];rcases h2 with ⟨hm,rfl⟩ | ⟨hm,rfl⟩
  ·rw [Yf hst]
   simp [hm]
  ·rw [ZG hst,ih (j + 1) hv.2 (by omega)]
   simp [hm]
noncomputable def MR (k : Arr 2) (f : Tapi_Filter) (l : List (List Int)) (p m : Int) : Bool×Int:=if (DR f p).2 = 0 then (if (VR k l f.1 m).2 = 0 then (Zi4 (VR k l f.1 m).1 (DR f p).1,0) else (false,(VR k l f.1 m).2)) else (false,(DR f p).2)
theorem Zn9 (k : Arr 2) (f : Tapi_Filter) (l : List (List Int)) (p m : Int) (hb : Byt f.2) (hi : ZeP l) (hl : l.length≤100000) : ZbH k f l p m = some (MR k f l p m):=by
 rw [ZbH,Zn7 f p hb,Zf,MR];by_cases h1 : (DR f p).2 = 0
 ·rw [if_neg (by simp [h1]),if_pos h1,ZmX k l f.1 m hi hl,Zf]
  by_cases h2 : (VR k l f.1 m).2 = 0
  ·rw [if_neg (by simp [h2]),if_pos h2]
   exact Zm0 (VR k l f.1 m).1 (DR f p).1 (VR k l f.1 m).2 (DR f p).2 (Zrt f p) (Zru k l f.1 m) (by have:=Zn8 f p; omega) (by have:=Zn3 k l f.1 m hl; omega) _ 0 0 rfl (by omega) (by omega) (fun x hx h=>by omega)
  ·rw [if_pos h2,if_neg h2]
 ·rw [if_pos h1,if_neg h1]
theorem Zoa (k : Arr 2) (f : Tapi_Filter) (l : List (List Int)) (p m : Int) (hb : Byt f.2) (hi : ZeP l) (hl : l.length≤100000) : Zcb k f l p m = some (MR k f l p m):=by
 rw [Zcb,ZmZ f p hb,Zf,MR];by_cases h1 : (DR f p).2 = 0
 ·rw [if_neg (by simp [h1]),if_pos h1,ZmY k l f.1 m hi hl,Zf]
  by_cases h2 : (VR k l f.1 m).2 = 0
  ·rw [if_neg (by simp [h2]),if_pos h2]
   exact Zlt (VR k l f.1 m).1 (DR f p).1 (VR k l f.1 m).2 (DR f p).2 (by have:=Zn8 f p; omega) (by have:=Zn3 k l f.1 m hl; omega) _ 0 rfl (by omega)
  ·rw [if_pos h2,if_neg h2]
 ·rw [if_pos h1,if_neg h1]
end Go.Lc
end
section
namespace Go.Lc
open Go.RowKit
open Go.Av
set_option linter.unusedVariables false
set_option linter.unusedSimpArgs false
set_option maxRecDepth 100000
end Go.Lc
end
section
namespace Go.Lc
open Go.RowKit
open Go.Av
set_option linter.unusedVariables false
set_option linter.unusedSimpArgs false
set_option maxRecDepth 100000
def leV : List Int→Int
 | []=>0
 | x :: l=>x + 256 * leV l
def rdS (d : List Int) (a : Int) (k : Nat) : Int×Int×Int :=
 if a < 0∨(d.length : Int) < a then (0,0,5) else if (d.length : Int) - a < k then (0,0,1) else (leV ((d.drop a.toNat).take k),a + k,0)
end Go.Lc
end
section
namespace Go.Lc
open Go.RowKit
open Go.Av
set_option linter.unusedVariables false
set_option linter.unusedSimpArgs false
set_option maxRecDepth 100000
theorem const_true : Lconst_true = some true:=rfl
end Go.Lc
end
section
namespace Go.Lc
open Go.RowKit
open Go.Av
set_option linter.unusedVariables false
end Go.Lc
end
section
namespace Go.Lc
open Go.RowKit
open Go.Av
set_option linter.unusedVariables false
section
variable {l : List Tapi_Entry} {t : Tapi_Tx} {f : Int}
end
end Go.Lc
end
