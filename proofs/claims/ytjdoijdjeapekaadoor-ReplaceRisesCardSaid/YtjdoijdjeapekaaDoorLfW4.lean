import Derived.Test.YtjdoijdjeapekaaDoorLfK
import Derived.Test.YtjdoijdjeapekaaDoorCode
namespace Go.Proofs.YtjdoijdjeapekaaDoor
open Go.RowKit
open Go.Av
open Go.Lc
set_option maxRecDepth 100000
set_option linter.unusedSimpArgs false
set_option linter.unusedVariables false
set_option maxHeartbeats 4000000
theorem cnil63 (c : Nat) (w : World) : Calls Tryd.prog 63 #[.slice none 0 c] w fun e w'=>e = .returned (.slice none 0 0)∧w' = w:=by
 have h1 : ∀ w,(binOp .eql 31 (.slice none 0 c) (.slice none 0 0)).run Tryd.prog w = .ok (.bool true) w:=fun w=>by
  have h : ∀ d : Nat,(Op.equalIn (d + 1) 31 (.slice none 0 c) (.slice none 0 0)).run Tryd.prog w = .ok true w:=fun d=>by
   simp [Op.equalIn,run_underlying Tryd.underlying31]
  have h' : (Op.equal 31 (.slice none 0 c) (.slice none 0 0)).run Tryd.prog w = .ok true w:=h 9999;simp [binOp,h']
 go_enter Tryd.func63,Tryd.ntmps63
 go_wp2
 go_ret
 exact ⟨rfl,rfl⟩
theorem csome63 (b : Addr) (c : Nat) (w : World) : Calls Tryd.prog 63 #[.slice (some b) 0 c] w fun e w'=>e = .returned (.slice (some ⟨w.heap.size,0,none⟩) 0 0)∧w' = w.alloc (.cells #[] 68):=by
 have h1 : ∀ w,(binOp .eql 31 (.slice (some b) 0 c) (.slice none 0 0)).run Tryd.prog w = .ok (.bool false) w:=fun w=>by
  have h : (Op.equal 31 (.slice (some b) 0 c) (.slice none 0 0)).run Tryd.prog w = .ok false w:=eqIn_slice 9999 Tryd.underlying31;simp [binOp,h]
 have h2 : ∀ w,(Instr.buildSlice 31 0 #[]).run Tryd.prog w = .ok (.slice (some ⟨w.heap.size,0,none⟩) 0 0) (w.alloc (.cells #[] 68)):=fun w=>by kernel_rfl
 have hi0 : (Tryd.prog.info? 68).isSome = true:=by kernel_rfl
 obtain ⟨i,hi⟩:=Option.isSome_iff_exists.1 hi0;have h3 : ∀ (w : World) (x : Option Addr) ty,(Builtin.append_ #[31,31] ty #[.slice x 0 0,.slice (some b) 0 c]).run Tryd.prog w = .ok (.slice x 0 0) w:=fun w x ty=>run_append_zero w 31 ty 68 i Tryd.underlying31 hi x (some b) 0 0 c (Nat.le_refl _)
 clear hi hi0
 go_enter Tryd.func63,Tryd.ntmps63
 go_wp2
 go_ret
 exact ⟨rfl,rfl⟩
def kp63 : Keep:=fun i=>⟨[],[],[]⟩
theorem w63 {T : Tab} (a0 : (List Tapi_Coin)) (hne : a0≠[]) (x : (List Tapi_Coin)) (hr : Lslices_Clone_of__api_Coin_api_Coin a0 = some x) : ∃ kp fl n,execFn tt T G kp fl n Tryd.f63 [.one (.slice .no (List.map eapi_Coin a0))] = some (.one (.own 37 (List.map eapi_Coin a0)),[]):=by
 refine fnE (kp:=kp63) (w:=true) body63 (by simp) ?_;unfold c63;rw [Tryd.ntmps63];unfold Lslices_Clone_of__api_Coin_api_Coin at hr;obtain ⟨_,u1,hr⟩:=bs hr;have u2:=chk_some u1;have n1 : a0.length * 88≤140737488355328:=by omega
 have n2 : a0.length≤9223372036854775807:=by omega
 have ne : List.map eapi_Coin a0≠[]:=fun h=>hne (by simpa [intsR] using h)
 refine ee_seq_reg rfl (by simp; rfl) ?_
 first
 | (refine ee_assoc ?_; refine ee_seq_reg rfl (by simp [hne,ne]; rfl) ?_)
 | refine ee_seq_reg rfl (by simp [hne,ne]; rfl) ?_
 refine ee_seq_condF (by simp [bV]) ?_;refine ee_seq_skip ?_;refine ee_seq_reg rfl (by simp [n1,n2]; rfl) ?_;refine ee_ret ?_;simp [FinQ]
theorem v63 : Impl Tryd.prog G 63 G63:=by
 refine clone_impl (e:=37) (t:=68) (N:=0) (rows:=fun l : (List Tapi_Coin)=>List.map eapi_Coin l) Tryd.func63 (by kernel_rfl) (by kernel_rfl) G63 (fun ps r hF=>?_) rfl (fun l hl r hF=>?_) (fun x c w=>?_)
 ·obtain ⟨x,rfl,h⟩:=lift_inv hF
  obtain ⟨y,hy,rfl⟩:=Option.map_eq_some_iff.1 h;unfold Lslices_Clone_of__api_Coin_api_Coin at hy;obtain ⟨_,u1,hy⟩:=bs hy;obtain rfl:=Option.some.inj hy;exact ⟨x,rfl,rfl⟩
 ·refine impl_of (T:=Av.tab []) mixed htt (Av.tab_ok trivial) Tryd.func63 body63 (by kernel_rfl) fun ps r' ho hF'=>?_
  split at hF'
  ·rename_i hps
   subst hps;injection hF' with hF';subst hF';obtain ⟨x,hx,h⟩:=lift_inv hF;obtain rfl:=E63i l x hx;obtain ⟨y,hy,rfl⟩:=Option.map_eq_some_iff.1 h;have hy' := hy;unfold Lslices_Clone_of__api_Coin_api_Coin at hy';obtain ⟨_,u1,hy'⟩:=bs hy';obtain rfl:=Option.some.inj hy';exact w63 l hl _ hy
  ·cases hF'
 ·cases x with
  | none=>exact (cnil63 c w).mono fun e w' h=>⟨none,h.1,.inl h.2⟩
  | some b=>exact (csome63 b c w).mono fun e w' h=>⟨_,h.1,.inr h.2⟩
theorem w26 : Walk tt G [(62,K62.G),(63,G63),(64,G64)] (fun _=>[]) Tryd.f26 K26:=by
 refine .of [(3,⟨[1,2,14,15,16],[1,2,7,10,100007],[]⟩)] true body26 Tryd.ntmps26 fun T hO hT a0 x hr=>⟨by simp,?_⟩
 simp only [tabAll] at hT; simp only at hr ⊢; unfold c26;unfold Lreplace_clonePlan at hr;refine go ?_;obtain ⟨y20,ehy20,hr⟩:=bN hr G62_eq;obtain ⟨y21,ehy21,hr⟩:=bG hr fun _=>G63_eq
 simp only [E63,R63,nf,nfs] at ehy21;refine go ?_;refine lp 3 (fun (⟨p12,p13⟩ : Int×(List Tapi_Coin))=>⟨(und 1++([.ptr 1 0 0 0 7,.ptr 2 0 0 0 7]++(und 11++([.one (.ms 10 0 0 (p13.length) 37),.one (.v (.int .i64 (y21.length : Int))),.one (.v (.int .i64 p12))]++(und 16)))) : List PV),([(1,⟨0,7,[[.v (.int .u32 y20.1),.ms 7 0 0 (y20.2.1.length) 35,.ms 100007 0 0 (y20.2.2.1.length) 2,.v (.int .u32 y20.2.2.2),.ms 10 0 0 (p13.length) 37,.v (.int .i64 a0.2.2.1),.v (.int .i64 a0.2.2.2)]],false,false⟩),(2,⟨0,7,[[.v (.int .u32 0),.slice .nil [],.slice .nil [],.v (.int .u32 0),.slice .nil [],.v (.int .i64 0),.v (.int .i64 0)]],false,false⟩),(7,⟨0,35,List.map eapi_Input y20.2.1,false,true⟩),(10,⟨0,37,List.map eapi_Coin p13,false,true⟩),(100007,⟨0,2,List.map eapi_Output y20.2.2.1,false,true⟩)] : Boxes)⟩) hr ?_;rintro ⟨p12,p13⟩ x28r hr28
 simp only [Lreplace_clonePlan_s1] at hr28;unfold b26_1;refine nst ?_;refine go ?_;by_cases c29 : p12 < (y21.length : Int)
 ·have c29N:=nrm c29
  replace hr28:=ifP hr28
  refine go ?_;obtain ⟨_,⟨_,_,_⟩,hr28⟩:=bA hr28;obtain ⟨_,hx31,hr28⟩:=bs hr28;have ghx31:=getE_of hx31;refine go ?_;obtain ⟨_,ehy32,hr28⟩:=bG hr28 fun _=>G64_eq
  simp only [E64,R64,nf,nfs] at ehy32;have ghx31:=getE_of hx31;refine go ?_;exact bk hr28
 ·have c29N:=nrm c29
  replace hr28:=ifN hr28
  refine go ?_;obtain ⟨r33,q33,rfl⟩:=ms hr28;refine go ?_;rintro rfl
  refine go ?_;unfold Lreplace_clonePlan_k1 at q33;refine go ?_;exact fin q33
theorem cdel27_29 (w : World) (k n C i j : Nat) (arr : Array Value) (T : TypeId) (hb : w.heap[k]? = some (.cells arr T (0,0))) (hC : C * 2≤arr.size) (hn : n≤C) (hm : C≤maxLen) (hij : i < j) (hj : j≤n) (h1 : ∀ q v,q < n * 2→arr[q]? = some v→v.oneCell' = true) :
  Calls Tryd.prog 27 #[.slice (some ⟨k,0,none⟩) n C,.int .i64 i,.int .i64 j] w fun e w'=>e = .returned (.slice (some ⟨k,0,none⟩) (i + (n - j)) C)∧DelW w w' k 2 n i j arr T:=by
 have mixed:=mixed;have hic : i≤C:=by omega
 have hjc : j≤C:=by omega
 have hm' : C≤9223372036854775807:=hm;have hne : ¬ (i = j):=by omega
 obtain ⟨info,dd,z,k1,k2,k3,k4,k5,k6,k7,_⟩:=(tinfo_spec (htt 51 _ rfl)).ex;have hzw : ∀ w',(zeroValue 51).run Tryd.prog w' = .ok z w' := fun w'=>by simp [zeroValue,typeInfo,k1,k3]
 have hz2:=zcs_vals k6;have k4' : info.size = 2:=k4;obtain ⟨news,hnews⟩ : ∃ news,news = (arr.toList.drop (j * 2)).take ((n - j) * 2):=⟨_,rfl⟩
 have hnl : news.length = (n - j) * 2:=by rw [hnews]; simp; omega
 have h1c : ∀ u∈news,u.oneCell' = true:=by
  intro u hu;obtain ⟨q,hq⟩:=List.getElem?_of_mem hu;have hql:=getElem_pos hq;rw [hnews,List.getElem?_take_of_lt (by omega),List.getElem?_drop,Array.getElem?_toList] at hq;exact h1 _ u (by omega) hq
 obtain ⟨o2,hA,hsrc⟩ : ∃ o2,(if C = j then (some (⟨k,0,none⟩ : Addr)) else some ⟨k,j * 2,none⟩) = some ⟨k,o2,none⟩∧Lies w.drew k o2 news:=by
  by_cases h : C = j
  ·refine ⟨0,by simp [h],fun q u hu=>?_⟩
   have:=getElem_pos hu;omega
  ·refine ⟨j * 2,by simp [h],fun q u hu=>?_⟩
   have hql:=getElem_pos hu;rw [hnews,List.getElem?_take_of_lt (by omega),List.getElem?_drop,Array.getElem?_toList] at hu;show (w.cell? _) = _
   simp [World.cell?,hb,hu]
 have hsr:=src_row (P:=Tryd.prog) (size:=info.size) (c:=C - j) (m:=n - j) Tryd.underlying28 (by rw [k4']; exact hnl) hsrc;obtain ⟨W1,hW1⟩ : ∃ W1,W1 = w.drew.setRow k (arr.toList.take (0 + i * info.size)++news++arr.toList.drop (0 + i * info.size + news.length)).toArray:=⟨_,rfl⟩
 have hb1 : W1.heap[k]? = some (.cells (arr.toList.take (0 + i * info.size)++news++arr.toList.drop (0 + i * info.size + news.length)).toArray T (0,0)):=by rw [hW1]; exact setRow_heap w.drew k arr _ T (0,0) hb
 obtain ⟨zl,hzl,hcl⟩:=run_clear_row (m:=n - (i + (n - j))) (lo:=(i + (n - j)) * 2) Tryd.underlying28 hzw hz2 (C - (i + (n - j))) hb1 (by omega) (by rw [k4',show ti51.zero.length = 2 from rfl]; simp only [List.size_toArray,List.length_append,List.length_take,List.length_drop,Array.length_toList]; omega);have hzl' : zl.length = (n - (i + (n - j))) * 2:=hzl;have hD:=del_world (zl:=zl) (news:=news) (a1:=0 + i * info.size) hb hij hj (by omega) hnews hzl' (by rw [k4']; omega) (a2:=(i + (n - j)) * 2) rfl rfl;rw [← hW1] at hD;obtain ⟨W2,hcl2,hD2⟩ : ∃ W2,(∀ ty,(Builtin.clear_ #[28] ty #[.slice (some ⟨k,(i + (n - j)) * 2,none⟩) (n - (i + (n - j))) (C - (i + (n - j)))]).run Tryd.prog W1 = .ok (.tuple #[]) W2)∧DelW w W2 k 2 n i j arr T:=⟨_,hcl,hD⟩
 have hW : Hid (W1 = w.drew.setRow k (arr.toList.take (0 + i * info.size)++news++arr.toList.drop (0 + i * info.size + news.length)).toArray):=hW1;have s1 : Hid (∀ u∈news,u.oneCell' = true):=h1c;have s2' : 0 + i * info.size + news.length≤arr.size:=by rw [k4',hnl]; omega
 have s2 : Hid (0 + i * info.size + news.length≤arr.size):=s2';have sD : Hid (DelW w W2 k 2 n i j arr T):=hD2;have sr : Hid (Src _ _ _ _ _ _ news):=hsr;clear hb1 hzl hzl' hzw hz2 k3 k4 k4' k5 k6 k7 hW1 hnews hnl h1c hsrc hD hsr h1 s2' hcl hD2
 go_enter Tryd.func27,Tryd.ntmps27
 go_wp2_with fail
 go_region_law_o (refine step_app_in rfl (.tmp 22) (.tmp 25) 28 rfl 51 info Tryd.underlying28 k1 k i C (by simp [Act.eval,Act.put]) _ (n - j) news (by simp [Act.eval,Act.put,hA]) sr.out arr T hb s1.out (by omega) s2.out ?_; rw [← hW.out])
 go_wp2
 go_ret
 exact ⟨rfl,sD.out⟩
theorem w12 : Walk tt G [(18,K18.G),(23,K23.G),(24,K24.G),(25,K25.G),(26,K26.G),(27,G27_29)] (fun d=>if d = 86 then [[2]] else []) Tryd.f12 K12:=by
 refine .of [] false body12 Tryd.ntmps12 fun T hO hT ⟨a0,a1,a2⟩ x hr=>⟨by simp,?_⟩
 simp only [tabAll] at hT; simp only at hr ⊢; unfold c12;unfold Lreplace_Bump at hr;refine go ?_;obtain ⟨y15,ehy15,hr⟩:=bN hr G23_eq;refine go ?_;by_cases c16 : y15 = true
 ·replace hr:=ifN hr
  refine go ?_;by_cases c17 : a2 < 0
  ·replace hr:=ifPb hr
   obtain ⟨_,hz18,hr⟩:=bs hr;obtain rfl:=Option.some.inj hz18;refine go ?_
   replace hr:=ifP hr
   refine go ?_;exact fin hr
  ·by_cases c19 : 1048576 < a2
   ·replace hr:=ifPb hr
    obtain ⟨_,hz20,hr⟩:=bs hr;obtain rfl:=Option.some.inj hz20;refine go ?_
    replace hr:=ifP hr
    refine go ?_;exact fin hr
   ·replace hr:=ifNb hr
    obtain ⟨_,hz21,hr⟩:=bs hr;obtain ⟨y22,ehy22,hz21⟩:=bN hz21 G24_eq;obtain rfl:=Option.some.inj hz21;by_cases c23 : a1 < y22
    ·refine go ?_
     replace hr:=ifP hr
     refine go ?_;exact fin hr
    ·refine go ?_
     by_cases c24 : 80000 < a1
     ·replace hr:=ifP hr
      refine go ?_;exact fin hr
     ·replace hr:=ifN hr
      refine go ?_;obtain ⟨y25,ehy25,hr⟩:=bN hr G18_eq;refine go ?_;by_cases c26 : y25 = true
      ·replace hr:=ifN hr
       refine go ?_;by_cases c27 : a0.2.2.2 < 0
       ·replace hr:=ifP hr
        refine go ?_;exact fin hr
       ·replace hr:=ifN hr
        refine go ?_;obtain ⟨y28,ehy28,hr⟩:=bN hr G25_eq;obtain ⟨y29,ehy29,hr⟩:=bN hr G25_eq;refine go ?_;obtain ⟨y30,ehy30,hr⟩:=bN hr G26_eq;refine go ?_;obtain ⟨_,⟨_,_,_⟩,hr⟩:=bA hr;refine go ?_;obtain ⟨x32,hx32,hr⟩:=bs hr;have ghx32:=getE_of hx32;refine go ?_;by_cases c33 : 300≤IntKind.i64.wrap (x32.1 - (IntKind.i64.wrap ((if (if y28 < IntKind.i64.wrap (a0.2.2.1 + y29) then IntKind.i64.wrap (a0.2.2.1 + y29) else y28) < IntKind.i64.wrap (a0.2.2.1 + 1) then IntKind.i64.wrap (a0.2.2.1 + 1) else (if y28 < IntKind.i64.wrap (a0.2.2.1 + y29) then IntKind.i64.wrap (a0.2.2.1 + y29) else y28)) - a0.2.2.1)))
        ·replace hr:=ifP hr
         refine go ?_;have ghx32:=getE_of hx32;have ghx32:=getE_of hx32;refine go ?_;unfold Lreplace_Bump_k1 at hr;refine go ?_;by_cases c34 : 2100000000000000 < (if (if y28 < IntKind.i64.wrap (a0.2.2.1 + y29) then IntKind.i64.wrap (a0.2.2.1 + y29) else y28) < IntKind.i64.wrap (a0.2.2.1 + 1) then IntKind.i64.wrap (a0.2.2.1 + 1) else (if y28 < IntKind.i64.wrap (a0.2.2.1 + y29) then IntKind.i64.wrap (a0.2.2.1 + y29) else y28))
         ·replace hr:=ifP hr
          refine go ?_;exact fin hr
         ·replace hr:=ifN hr
          refine go ?_;exact fin hr
        ·replace hr:=ifN hr
         refine go ?_;have ghx32:=getE_of hx32;by_cases c35 : x32.1 < IntKind.i64.wrap ((if (if y28 < IntKind.i64.wrap (a0.2.2.1 + y29) then IntKind.i64.wrap (a0.2.2.1 + y29) else y28) < IntKind.i64.wrap (a0.2.2.1 + 1) then IntKind.i64.wrap (a0.2.2.1 + 1) else (if y28 < IntKind.i64.wrap (a0.2.2.1 + y29) then IntKind.i64.wrap (a0.2.2.1 + y29) else y28)) - a0.2.2.1)
         ·refine go ?_
          replace hr:=ifP hr
          refine go ?_;exact fin hr
         ·refine go ?_
          rcases eqT ((y30.1.2.2.1.length : Int) = 1) with c36 | c36
          ·have c36N:=nrm c36
           replace hr:=ifP hr
           refine go ?_;exact fin hr
          ·have c36N:=nrm c36
           replace hr:=ifN hr
           refine go ?_;have ghx32:=getE_of hx32;refine go ?_;obtain ⟨_,ehy37,hr⟩:=bG hr fun _=>G27_29_eq
           simp only [E27_29,R27_29,nf,nfs] at ehy37;refine go ?_;unfold Lreplace_Bump_k1 at hr;refine go ?_;by_cases c38 : 2100000000000000 < IntKind.i64.wrap (y30.2.2.1 + x32.1)
           ·replace hr:=ifP hr
            refine go ?_;exact fin hr
           ·replace hr:=ifN hr
            refine go ?_;exact fin hr
      ·replace hr:=ifP hr
       refine go ?_;exact fin hr
 ·replace hr:=ifP hr
  refine go ?_;exact fin hr
theorem w65 : Walk tt G [] (fun _=>[]) Tryd.f65 K65:=by
 refine .of [] false body65 Tryd.ntmps65 fun T hO hT a0 x hr=>⟨by simp,?_⟩
 simp only [tabAll] at hT; simp only at hr ⊢; unfold c65;unfold Lref09_Null at hr;refine go ?_;exact fin hr
theorem w34 : Walk tt G [(65,K65.G)] (fun _=>[]) Tryd.f34 K34:=by
 refine .of [] false body34 Tryd.ntmps34 fun T hO hT a0 x hr=>⟨by simp,?_⟩
 simp only [tabAll] at hT; simp only at hr ⊢; unfold c34;unfold Lref09_Coinbase at hr;refine go ?_;rcases eqT ((a0.2.1.length : Int) = 1) with c4 | c4
 ·have c4N:=nrm c4
  replace hr:=ifPb hr
  obtain ⟨_,hz5,hr⟩:=bs hr;obtain ⟨_,hx6,hz5⟩:=bs hz5;have hx6c:=getE_of hx6;obtain ⟨_,ehy7,hz5⟩:=bN hz5 G65_eq;obtain rfl:=Option.some.inj hz5;refine go ?_;exact fin hr
 ·have c4N:=nrm c4
  replace hr:=ifNb hr
  obtain ⟨_,hz8,hr⟩:=bs hr;obtain rfl:=Option.some.inj hz8;refine go ?_;exact fin hr
theorem w33 : Walk tt G [(21,K21.G),(34,K34.G),(65,K65.G)] (fun _=>[]) Tryd.f33 K33:=by
 refine .of [(7,⟨[1,3,24,25,26],[1],[]⟩),(16,⟨[1,42,43],[1],[]⟩),(19,⟨[1,6,7,42,43],[1],[]⟩),(25,⟨[1,66,67,68],[1],[]⟩)] false body33 Tryd.ntmps33 fun T hO hT a0 x hr=>⟨by simp,?_⟩
 simp only [tabAll] at hT; simp only at hr ⊢; unfold c33;unfold Lref09_Check at hr;refine go ?_;obtain ⟨y63,ehy63,hr⟩:=bN hr G21_eq;refine go ?_;by_cases c64 : y63 = true
 ·replace hr:=ifN hr
  refine go ?_;rcases eqT ((a0.2.1.length : Int) = 0) with c65 | c65
  ·have c65N:=nrm c65
   refine go ?_
   replace hr:=ifP hr
   refine go ?_;exact fin hr
  ·have c65N:=nrm c65
   refine go ?_;rcases eqT ((a0.2.2.1.length : Int) = 0) with c66 | c66
   ·have c66N:=nrm c66
    replace hr:=ifP hr
    refine go ?_;exact fin hr
   ·have c66N:=nrm c66
    replace hr:=ifN hr
    refine go ?_;refine lp 7 (fun (⟨p6,p7⟩ : Int×Int)=>⟨(und 1++([.ptr 1 0 0 0 4]++(und 1++([.one (.v (.int .i64 p6))]++(und 20++([.one (.slice .no (List.map eapi_Output a0.2.2.1)),.one (.v (.int .i64 (a0.2.2.1.length : Int))),.one (.v (.int .i64 p7))]++(und 54)))))) : List PV),([(1,⟨0,4,[[.v (.int .u32 a0.1),.slice .no (List.map eapi_Input a0.2.1),.slice .no (List.map eapi_Output a0.2.2.1),.v (.int .u32 a0.2.2.2)]],false,false⟩)] : Boxes)⟩) hr ?_;rintro ⟨p6,p7⟩ x72r hr72
    simp only [Lref09_Check_s1] at hr72;unfold b33_1;refine nst ?_;refine go ?_;by_cases c73 : p7 < (a0.2.2.1.length : Int)
    ·have c73N:=nrm c73
     replace hr72:=ifP hr72
     refine go ?_;obtain ⟨x74,⟨_,_,_⟩,hr72⟩:=bI hr72;refine go ?_;by_cases c75 : 2100000000000000 < x74.1
     ·replace hr72:=ifP hr72
      refine go ?_;exact fin hr72
     ·replace hr72:=ifN hr72
      refine go ?_;exact bk hr72
    ·have c73N:=nrm c73
     replace hr72:=ifN hr72
     refine go ?_;obtain ⟨r76,q76,rfl⟩:=ms hr72;refine go ?_;rintro rfl
     refine go ?_;unfold Lref09_Check_k1 at q76;refine go ?_;by_cases c77 : 2100000000000000 < p6
     ·replace q76:=ifP q76
      refine go ?_;exact fin q76
     ·replace q76:=ifN q76
      refine go ?_;refine lp 16 (fun (p25 : Int)=>⟨(und 1++([.ptr 1 0 0 0 4]++(und 40++([.one (.v (.int .i64 (a0.2.1.length : Int))),.one (.v (.int .i64 p25))]++(und 37)))) : List PV),([(1,⟨0,4,[[.v (.int .u32 a0.1),.slice .no (List.map eapi_Input a0.2.1),.slice .no (List.map eapi_Output a0.2.2.1),.v (.int .u32 a0.2.2.2)]],false,false⟩)] : Boxes)⟩) q76 ?_;rintro p25 x95r hr95
      simp only [Lref09_Check_s2] at hr95;unfold b33_2;refine nst ?_;refine go ?_;by_cases c96 : p25 < (a0.2.1.length : Int)
      ·have c96N:=nrm c96
       replace hr95:=ifP hr95
       refine go ?_;refine lp 19 (fun (p57 : Int)=>⟨(und 1++([.ptr 1 0 0 0 4]++(und 4++([.one (.v (.int .i64 p25)),.one (.v (.int .i64 p57))]++(und 34++([.one (.v (.int .i64 (a0.2.1.length : Int))),.one (.v (.int .i64 p25))]++(und 37)))))) : List PV),([(1,⟨0,4,[[.v (.int .u32 a0.1),.slice .no (List.map eapi_Input a0.2.1),.slice .no (List.map eapi_Output a0.2.2.1),.v (.int .u32 a0.2.2.2)]],false,false⟩)] : Boxes)⟩) hr95 ?_;rintro p57 x104r hr104
       simp only [Lref09_Check_s4] at hr104;unfold b33_3;refine nst ?_;refine go ?_;by_cases c105 : p57 < p25
       ·replace hr104:=ifP hr104
        refine go ?_;obtain ⟨x106,⟨_,_,_⟩,hr104⟩:=bI hr104;obtain ⟨x107,⟨_,_,_⟩,hr104⟩:=bI hr104;refine go ?_;rcases eqT (x106.1.1 = x107.1.1) with c108 | c108
        ·rcases eqT (x106.1.2 = x107.1.2) with c109 | c109
         ·replace hr104:=ifP hr104
          refine go ?_;exact fin hr104
         ·replace hr104:=ifN hr104
          refine go ?_;exact bk hr104
        ·replace hr104:=ifN hr104
         refine go ?_;exact bk hr104
       ·replace hr104:=ifN hr104
        refine go ?_;obtain ⟨r110,q110,rfl⟩:=ms hr104;refine go ?_;rintro rfl
        refine go ?_;unfold Lref09_Check_k4 at q110;refine go ?_;exact bk q110
      ·have c96N:=nrm c96
       replace hr95:=ifN hr95
       refine go ?_;obtain ⟨r111,q111,rfl⟩:=ms hr95;refine go ?_;rintro rfl
       refine go ?_;unfold Lref09_Check_k2 at q111;refine go ?_;refine lp 25 (fun (p43 : Int)=>⟨(und 1++([.ptr 1 0 0 0 4]++(und 64++([.one (.slice .no (List.map eapi_Input a0.2.1)),.one (.v (.int .i64 (a0.2.1.length : Int))),.one (.v (.int .i64 p43))]++(und 12)))) : List PV),([(1,⟨0,4,[[.v (.int .u32 a0.1),.slice .no (List.map eapi_Input a0.2.1),.slice .no (List.map eapi_Output a0.2.2.1),.v (.int .u32 a0.2.2.2)]],false,false⟩)] : Boxes)⟩) q111 ?_;rintro p43 x122r hr122
       simp only [Lref09_Check_s3] at hr122;unfold b33_4;refine nst ?_;refine go ?_;by_cases c123 : p43 < (a0.2.1.length : Int)
       ·have c123N:=nrm c123
        replace hr122:=ifP hr122
        refine go ?_;obtain ⟨_,⟨_,_,_⟩,hr122⟩:=bI hr122;refine go ?_;obtain ⟨y125,ehy125,hr122⟩:=bN hr122 G65_eq;by_cases c126 : y125 = true
        ·replace hr122:=ifPb hr122
         obtain ⟨_,hz127,hr122⟩:=bs hr122;obtain ⟨y128,ehy128,hz127⟩:=bN hz127 G34_eq;obtain rfl:=Option.some.inj hz127;refine go ?_;by_cases c129 : y128 = true
         ·replace hr122:=ifN hr122
          refine go ?_;exact bk hr122
         ·replace hr122:=ifP hr122
          refine go ?_;exact fin hr122
        ·replace hr122:=ifNb hr122
         obtain ⟨_,hz130,hr122⟩:=bs hr122;obtain rfl:=Option.some.inj hz130;refine go ?_
         replace hr122:=ifN hr122
         refine go ?_;exact bk hr122
       ·have c123N:=nrm c123
        replace hr122:=ifN hr122
        refine go ?_;obtain ⟨r131,q131,rfl⟩:=ms hr122;refine go ?_;rintro rfl
        refine go ?_;unfold Lref09_Check_k3 at q131;refine go ?_;exact fin q131
 ·replace hr:=ifP hr
  refine go ?_;exact fin hr
theorem w35 : Walk tt G [] (fun _=>[]) Tryd.f35 K35:=by
 refine .of [] false body35 Tryd.ntmps35 fun T hO hT ⟨a0,a1,a2⟩ x hr=>⟨by simp,?_⟩
 simp only [tabAll] at hT; simp only at hr ⊢; unfold c35;unfold Lref34_in at hr;refine go ?_;by_cases c1 : a1≤a0
 ·refine go ?_
  exact fin hr
 ·refine go ?_
  exact fin hr
theorem w36 : Walk tt G [(33,K33.G)] (fun _=>[]) Tryd.f36 K36:=by
 refine .of [(7,⟨[1,2,25,26],[2],[]⟩),(14,⟨[2,8,42,43,44],[2],[]⟩),(23,⟨[8,67,68,69],[],[]⟩)] false body36 Tryd.ntmps36 fun T hO hT ⟨a0,a1⟩ x hr=>⟨by simp,?_⟩
 simp only [tabAll] at hT; simp only at hr ⊢; unfold c36;unfold Lref10_Fee at hr;refine go ?_;obtain ⟨y28,ehy28,hr⟩:=bN hr G33_eq;refine go ?_;rcases eqT (y28 = 0) with c29 | c29
 ·replace hr:=ifN hr
  refine go ?_;rcases eqT ((a1.length : Int) = (a0.2.1.length : Int)) with c30 | c30
  ·have c30N:=nrm c30
   replace hr:=ifN hr
   refine go ?_;refine lp 7 (fun (p7 : Int)=>⟨(und 1++([.one (.slice .no (List.map eapi_Coin a1)),.ptr 2 0 0 0 4]++(und 22++([.one (.v (.int .i64 (a1.length : Int))),.one (.v (.int .i64 p7))]++(und 54)))) : List PV),([(2,⟨0,4,[[.v (.int .u32 a0.1),.slice .no (List.map eapi_Input a0.2.1),.slice .no (List.map eapi_Output a0.2.2.1),.v (.int .u32 a0.2.2.2)]],false,false⟩)] : Boxes)⟩) hr ?_;rintro p7 x38r hr38
   simp only [Lref10_Fee_s1] at hr38;unfold b36_1;refine nst ?_;refine go ?_;by_cases c39 : p7 < (a1.length : Int)
   ·have c39N:=nrm c39
    replace hr38:=ifP hr38
    refine go ?_;obtain ⟨x40,⟨_,_,_⟩,hr38⟩:=bI hr38;obtain ⟨x41,⟨_,_,_⟩,hr38⟩:=bI hr38;refine go ?_;rcases eqT (x40.1.1 = x41.1.1) with c42 | c42
    ·rcases eqT (x40.1.2 = x41.1.2) with c43 | c43
     ·replace hr38:=ifN hr38
      refine go ?_;exact bk hr38
     ·replace hr38:=ifP hr38
      refine go ?_;exact fin hr38
    ·replace hr38:=ifP hr38
     refine go ?_;exact fin hr38
   ·have c39N:=nrm c39
    replace hr38:=ifN hr38
    refine go ?_;obtain ⟨r44,q44,rfl⟩:=ms hr38;refine go ?_;rintro rfl
    refine go ?_;unfold Lref10_Fee_k1 at q44;refine go ?_;refine lp 14 (fun (⟨p14,p15⟩ : Int×Int)=>⟨(und 2++([.ptr 2 0 0 0 4]++(und 5++([.one (.v (.int .i64 p14))]++(und 33++([.one (.slice .no (List.map eapi_Coin a1)),.one (.v (.int .i64 (a1.length : Int))),.one (.v (.int .i64 p15))]++(und 36)))))) : List PV),([(2,⟨0,4,[[.v (.int .u32 a0.1),.slice .no (List.map eapi_Input a0.2.1),.slice .no (List.map eapi_Output a0.2.2.1),.v (.int .u32 a0.2.2.2)]],false,false⟩)] : Boxes)⟩) q44 ?_;rintro ⟨p14,p15⟩ x51r hr51
    simp only [Lref10_Fee_s2] at hr51;unfold b36_2;refine nst ?_;refine go ?_;by_cases c52 : p15 < (a1.length : Int)
    ·have c52N:=nrm c52
     replace hr51:=ifP hr51
     refine go ?_;obtain ⟨x53,⟨_,_,_⟩,hr51⟩:=bI hr51;refine go ?_;by_cases c54 : x53.2.1.1 < 0
     ·refine go ?_
      replace hr51:=ifP hr51
      refine go ?_;exact fin hr51
     ·refine go ?_
      by_cases c55 : 2100000000000000 < x53.2.1.1
      ·replace hr51:=ifP hr51
       refine go ?_;exact fin hr51
      ·replace hr51:=ifN hr51
       refine go ?_;exact bk hr51
    ·have c52N:=nrm c52
     replace hr51:=ifN hr51
     refine go ?_;obtain ⟨r56,q56,rfl⟩:=ms hr51;refine go ?_;rintro rfl
     refine go ?_;unfold Lref10_Fee_k2 at q56;refine go ?_;by_cases c57 : 2100000000000000 < p14
     ·replace q56:=ifP q56
      refine go ?_;exact fin q56
     ·replace q56:=ifN q56
      refine go ?_;refine lp 23 (fun (⟨p21,p22⟩ : Int×Int)=>⟨(und 8++([.one (.v (.int .i64 p21))]++(und 58++([.one (.slice .no (List.map eapi_Output a0.2.2.1)),.one (.v (.int .i64 (a0.2.2.1.length : Int))),.one (.v (.int .i64 p22))]++(und 11)))) : List PV),([] : Boxes)⟩) q56 ?_;rintro ⟨p21,p22⟩ x62r hr62
      simp only [Lref10_Fee_s3] at hr62;unfold b36_3;refine nst ?_;refine go ?_;by_cases c63 : p22 < (a0.2.2.1.length : Int)
      ·have c63N:=nrm c63
       replace hr62:=ifP hr62
       refine go ?_;obtain ⟨_,⟨_,_,_⟩,hr62⟩:=bI hr62;refine go ?_;exact bk hr62
      ·have c63N:=nrm c63
       replace hr62:=ifN hr62
       refine go ?_;obtain ⟨r65,q65,rfl⟩:=ms hr62;refine go ?_;rintro rfl
       refine go ?_;unfold Lref10_Fee_k3 at q65;refine go ?_;by_cases c66 : p21 < 0
       ·replace q65:=ifP q65
        refine go ?_;exact fin q65
       ·replace q65:=ifN q65
        refine go ?_;exact fin q65
  ·have c30N:=nrm c30
   replace hr:=ifP hr
   refine go ?_;exact fin hr
 ·replace hr:=ifP hr
  refine go ?_;exact fin hr
theorem w15 : Walk tt G [(33,K33.G),(34,K34.G),(35,K35.G),(36,K36.G)] (fun _=>[]) Tryd.f15 K15:=by
 refine .of [(4,⟨[1,3],[1],[]⟩)] false body15 Tryd.ntmps15 fun T hO hT a0 x hr=>⟨by simp,?_⟩
 simp only [tabAll] at hT; simp only at hr ⊢; unfold c15;unfold Lref34_Valid at hr;refine go ?_;obtain ⟨y13,ehy13,hr⟩:=bN hr G33_eq;rcases eqT (y13 = 0) with c14 | c14
 ·replace hr:=ifNb hr
  obtain ⟨_,hz15,hr⟩:=bs hr;obtain ⟨y16,ehy16,hz15⟩:=bN hz15 G34_eq;obtain rfl:=Option.some.inj hz15;by_cases c17 : y16 = true
  ·replace hr:=ifPb hr
   obtain ⟨_,hz18,hr⟩:=bs hr;obtain rfl:=Option.some.inj hz18;refine go ?_
   replace hr:=ifP hr
   refine go ?_;exact fin hr
  ·replace hr:=ifNb hr
   obtain ⟨_,hz19,hr⟩:=bs hr;obtain ⟨y20,ehy20,hz19⟩:=bN hz19 G35_eq;obtain rfl:=Option.some.inj hz19;refine go ?_;by_cases c21 : y20 = true
   ·replace hr:=ifN hr
    refine go ?_;refine lp 4 (fun (p9 : Int)=>⟨(und 1++([.ptr 1 0 0 0 7]++(und 1++([.one (.v (.int .i64 p9))]++(und 55)))) : List PV),([(1,⟨0,7,[[.v (.int .u32 a0.1.1),.slice .no (List.map eapi_Input a0.1.2.1),.slice .no (List.map eapi_Output a0.1.2.2.1),.v (.int .u32 a0.1.2.2.2),.slice .no (List.map eapi_Coin a0.2.1),.v (.int .i64 a0.2.2.1),.v (.int .i64 a0.2.2.2)]],false,false⟩)] : Boxes)⟩) hr ?_;rintro p9 x27r hr27
    simp only [Lref34_Valid_s1] at hr27;unfold b15_1;refine nst ?_;refine go ?_;by_cases c28 : p9 < (a0.1.2.1.length : Int)
    ·have c28N:=nrm c28
     replace hr27:=ifP hr27
     refine go ?_;obtain ⟨x29,⟨_,_,_⟩,hr27⟩:=bI hr27;refine go ?_;by_cases c30 : 0 < (x29.2.2.length : Int)
     ·have c30N:=nrm c30
      replace hr27:=ifP hr27
      refine go ?_;exact fin hr27
     ·have c30N:=nrm c30
      have c30L : ¬ 0 < x29.2.2.length:=by omega
      replace hr27:=ifN hr27
      refine go ?_;exact bk hr27
    ·have c28N:=nrm c28
     replace hr27:=ifN hr27
     refine go ?_;obtain ⟨r31,q31,rfl⟩:=ms hr27;refine go ?_;rintro rfl
     refine go ?_;unfold Lref34_Valid_k1 at q31;obtain ⟨y32,ehy32,q31⟩:=bN q31 G36_eq;refine go ?_;rcases eqT (y32.2 = 0) with c33 | c33
     ·refine go ?_
      exact fin q31
     ·refine go ?_
      exact fin q31
   ·replace hr:=ifP hr
    refine go ?_;exact fin hr
 ·replace hr:=ifPb hr
  obtain ⟨_,hz34,hr⟩:=bs hr;obtain rfl:=Option.some.inj hz34
  replace hr:=ifPb hr
  obtain ⟨_,hz35,hr⟩:=bs hr;obtain rfl:=Option.some.inj hz35;refine go ?_
  replace hr:=ifP hr
  refine go ?_;exact fin hr
theorem w37 : Walk tt G [] (fun _=>[]) Tryd.f37 K37:=by
 refine .of [] false body37 Tryd.ntmps37 fun T hO hT ⟨a0,a1⟩ x hr=>⟨by simp,?_⟩
 simp only [tabAll] at hT; simp only at hr ⊢; unfold c37;unfold Lref01_Same at hr;refine go ?_;exact fin hr
theorem w16 : Walk tt G [(37,K37.G)] (fun _=>[]) Tryd.f16 K16:=by
 refine .of [] false body16 Tryd.ntmps16 fun T hO hT ⟨a0,a1⟩ x hr=>⟨by simp,?_⟩
 simp only [tabAll] at hT; simp only at hr ⊢; unfold c16;unfold Lref09_SameOut at hr;refine go ?_;rcases eqT (a0.1 = a1.1) with c3 | c3
 ·replace hr:=ifPb hr
  obtain ⟨_,hz4,hr⟩:=bs hr;obtain ⟨_,ehy5,hz4⟩:=bN hz4 G37_eq;obtain rfl:=Option.some.inj hz4;refine go ?_;exact fin hr
 ·replace hr:=ifNb hr
  obtain ⟨_,hz6,hr⟩:=bs hr;obtain rfl:=Option.some.inj hz6;refine go ?_;exact fin hr
theorem w4 : Walk tt G [(5,K5.G),(6,K6.G),(7,K7.G),(8,K8.G),(10,K10.G),(11,K11.G),(12,K12.G),(15,K15.G),(16,K16.G),(17,K17.G)] (fun _=>[]) Tryd.f4 K4:=by
 refine .of [(6,⟨[1,6,7],[6],[]⟩)] false body4 Tryd.ntmps4 fun T hO hT ⟨a0,a1⟩ x hr=>⟨by simp,?_⟩
 simp only [tabAll] at hT; simp only at hr ⊢; unfold c4;unfold Llaw36_ReplaceRises at hr;refine goR ?_;obtain ⟨y50,ehy50,hr⟩:=bN hr G5_eq;refine goR ?_;by_cases c51 : y50 = true
 ·replace hr:=ifN hr
  refine goR ?_;obtain ⟨_,ehy52,hr⟩:=bN hr G6_eq;refine goR ?_;obtain ⟨_,ehy53,hr⟩:=bN hr G8_eq;obtain ⟨_,ehy54,hr⟩:=bN hr G8_eq;obtain ⟨_,ehy55,hr⟩:=bN hr G7_eq;refine goR ?_;refine lp 6 (fun (⟨p28,p29⟩ : Int×Tapi_Plan)=>⟨(und 1++([.one (.v (.int .i64 a1))]++(und 4++([.ptr 6 0 0 0 7,.one (.v (.int .i64 p28))]++(und 76)))) : List PV),([(6,⟨0,7,[[.v (.int .u32 p29.1.1),.slice .no (List.map eapi_Input p29.1.2.1),.slice .no (List.map eapi_Output p29.1.2.2.1),.v (.int .u32 p29.1.2.2.2),.slice .no (List.map eapi_Coin p29.2.1),.v (.int .i64 p29.2.2.1),.v (.int .i64 p29.2.2.2)]],false,false⟩)] : Boxes)⟩) hr ?_;rintro ⟨p28,p29⟩ x83r hr83
  simp only [Llaw36_ReplaceRises_s1] at hr83;unfold b4_1;refine nst ?_;refine goR ?_;by_cases c84 : p28 < 400
  ·replace hr83:=ifP hr83
   refine goR ?_;obtain ⟨_,ehy85,hr83⟩:=bN hr83 G10_eq;obtain ⟨_,ehy86,hr83⟩:=bN hr83 G11_eq;obtain ⟨y87,ehy87,hr83⟩:=bN hr83 G12_eq;refine goR ?_;rcases eqT (y87.2 = 0) with c88 | c88
   ·replace hr83:=ifN hr83
    refine goR ?_;obtain ⟨y89,ehy89,hr83⟩:=bN hr83 G15_eq;by_cases c90 : y89 = true
    ·by_cases c91 : y87.1.2.2.1≤p29.2.2.1
     ·replace hr83:=ifPb hr83
      obtain ⟨_,hz92,hr83⟩:=bs hr83;obtain rfl:=Option.some.inj hz92
      replace hr83:=ifPb hr83
      obtain ⟨_,hz93,hr83⟩:=bs hr83;obtain rfl:=Option.some.inj hz93;refine goR ?_
      replace hr83:=ifP hr83
      refine goR ?_;exact fin hr83
     ·rcases eqT ((y87.1.2.1.length : Int) = (p29.2.1.length : Int)) with c94 | c94
      ·have c94N:=nrm c94
       replace hr83:=ifNb hr83
       obtain ⟨_,hz95,hr83⟩:=bs hr83;obtain ⟨_,hx96,hz95⟩:=bs hz95;have hx96c:=getE_of hx96;obtain ⟨_,hx97,hz95⟩:=bs hz95;have hx97c:=getE_of hx97;obtain ⟨y98,ehy98,hz95⟩:=bN hz95 G16_eq;obtain rfl:=Option.some.inj hz95;by_cases c99 : y98 = true
       ·replace hr83:=ifNb hr83
        obtain ⟨_,hz100,hr83⟩:=bs hr83;obtain ⟨y101,ehy101,hz100⟩:=bN hz100 G17_eq;obtain rfl:=Option.some.inj hz100;refine goR ?_;by_cases c102 : y101 = true
        ·replace hr83:=ifN hr83
         refine goR ?_;exact bk hr83
        ·replace hr83:=ifP hr83
         refine goR ?_;exact fin hr83
       ·replace hr83:=ifPb hr83
        obtain ⟨_,hz103,hr83⟩:=bs hr83;obtain rfl:=Option.some.inj hz103;refine goR ?_
        replace hr83:=ifP hr83
        refine goR ?_;exact fin hr83
      ·have c94N:=nrm c94
       replace hr83:=ifPb hr83
       obtain ⟨_,hz104,hr83⟩:=bs hr83;obtain rfl:=Option.some.inj hz104
       replace hr83:=ifPb hr83
       obtain ⟨_,hz105,hr83⟩:=bs hr83;obtain rfl:=Option.some.inj hz105;refine goR ?_
       replace hr83:=ifP hr83
       refine goR ?_;exact fin hr83
    ·replace hr83:=ifPb hr83
     obtain ⟨_,hz106,hr83⟩:=bs hr83;obtain rfl:=Option.some.inj hz106
     replace hr83:=ifPb hr83
     obtain ⟨_,hz107,hr83⟩:=bs hr83;obtain rfl:=Option.some.inj hz107;refine goR ?_
     replace hr83:=ifP hr83
     refine goR ?_;exact fin hr83
   ·replace hr83:=ifP hr83
    refine goR ?_;rcases eqT (y87.2 = 320) with c108 | c108
    ·refine goR ?_
     exact fin hr83
    ·refine goR ?_
     exact fin hr83
  ·replace hr83:=ifN hr83
   refine goR ?_;obtain ⟨r109,q109,rfl⟩:=ms hr83;refine goR ?_;rintro rfl
   refine goR ?_;unfold Llaw36_ReplaceRises_k1 at q109;refine goR ?_;exact fin q109
 ·replace hr:=ifP hr
  refine goR ?_;exact fin hr
end Go.Proofs.YtjdoijdjeapekaaDoor
