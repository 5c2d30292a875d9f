import Derived.Test.YtjdoijdjeapekaaLfK
import Derived.Test.YtjdoijdjeapekaaCode
namespace Go.Proofs.Ytjdoijdjeapekaa
open Go.RowKit
open Go.Av
open Go.Lc
set_option maxRecDepth 100000
set_option linter.unusedSimpArgs false
set_option linter.unusedVariables false
set_option maxHeartbeats 4000000
variable {G : Glob}
theorem cnil30 (c : Nat) (w : World) : Calls Try.prog 30 #[.slice none 0 c] w fun e w'=>e = .returned (.slice none 0 0)∧w' = w:=by
 have h1 : ∀ w,(binOp .eql 34 (.slice none 0 c) (.slice none 0 0)).run Try.prog w = .ok (.bool true) w:=fun w=>by
  have h : ∀ d : Nat,(Op.equalIn (d + 1) 34 (.slice none 0 c) (.slice none 0 0)).run Try.prog w = .ok true w:=fun d=>by
   simp [Op.equalIn,run_underlying Try.underlying34]
  have h' : (Op.equal 34 (.slice none 0 c) (.slice none 0 0)).run Try.prog w = .ok true w:=h 9999;simp [binOp,h']
 go_enter Try.func30,Try.ntmps30
 go_wp2
 go_ret
 exact ⟨rfl,rfl⟩
theorem csome30 (b : Addr) (c : Nat) (w : World) : Calls Try.prog 30 #[.slice (some b) 0 c] w fun e w'=>e = .returned (.slice (some ⟨w.heap.size,0,none⟩) 0 0)∧w' = w.alloc (.cells #[] 73):=by
 have h1 : ∀ w,(binOp .eql 34 (.slice (some b) 0 c) (.slice none 0 0)).run Try.prog w = .ok (.bool false) w:=fun w=>by
  have h : (Op.equal 34 (.slice (some b) 0 c) (.slice none 0 0)).run Try.prog w = .ok false w:=eqIn_slice 9999 Try.underlying34;simp [binOp,h]
 have h2 : ∀ w,(Instr.buildSlice 34 0 #[]).run Try.prog w = .ok (.slice (some ⟨w.heap.size,0,none⟩) 0 0) (w.alloc (.cells #[] 73)):=fun w=>by kernel_rfl
 have hi0 : (Try.prog.info? 73).isSome = true:=by kernel_rfl
 obtain ⟨i,hi⟩:=Option.isSome_iff_exists.1 hi0;have h3 : ∀ (w : World) (x : Option Addr) ty,(Builtin.append_ #[34,34] ty #[.slice x 0 0,.slice (some b) 0 c]).run Try.prog w = .ok (.slice x 0 0) w:=fun w x ty=>run_append_zero w 34 ty 73 i Try.underlying34 hi x (some b) 0 0 c (Nat.le_refl _)
 clear hi hi0
 go_enter Try.func30,Try.ntmps30
 go_wp2
 go_ret
 exact ⟨rfl,rfl⟩
def kp30 : Keep:=fun i=>⟨[],[],[]⟩
theorem w30 {T : Tab} (a0 : (List Tapi_Input)) (hne : a0≠[]) (x : (List Tapi_Input)) (hr : Lslices_Clone_of__api_Input_api_Input a0 = some x) : ∃ kp fl n,execFn tt T G kp fl n Try.f30 [.one (.slice .no (List.map eapi_Input a0))] = some (.one (.own 35 (List.map eapi_Input a0)),[]):=by
 refine fnE (kp:=kp30) (w:=true) body30 (by simp) ?_;unfold c30;rw [Try.ntmps30];unfold Lslices_Clone_of__api_Input_api_Input at hr;obtain ⟨_,u1,hr⟩:=bs hr;have u2:=chk_some u1;have n1 : a0.length * 64≤140737488355328:=by omega
 have n2 : a0.length≤9223372036854775807:=by omega
 have ne : List.map eapi_Input a0≠[]:=fun h=>hne (by simpa [intsR] using h)
 refine ee_seq_reg rfl (by simp; rfl) ?_
 first
 | (refine ee_assoc ?_; refine ee_seq_reg rfl (by simp [hne,ne]; rfl) ?_)
 | refine ee_seq_reg rfl (by simp [hne,ne]; rfl) ?_
 refine ee_seq_condF (by simp [bV]) ?_;refine ee_seq_skip ?_;refine ee_seq_reg rfl (by simp [n1,n2]; rfl) ?_;refine ee_ret ?_;simp [FinQ]
theorem v30 : Impl Try.prog G 30 G30:=by
 refine clone_impl (e:=35) (t:=73) (N:=0) (rows:=fun l : (List Tapi_Input)=>List.map eapi_Input l) Try.func30 (by kernel_rfl) (by kernel_rfl) G30 (fun ps r hF=>?_) rfl (fun l hl r hF=>?_) (fun x c w=>?_)
 ·obtain ⟨x,rfl,h⟩:=lift_inv hF
  obtain ⟨y,hy,rfl⟩:=Option.map_eq_some_iff.1 h;unfold Lslices_Clone_of__api_Input_api_Input at hy;obtain ⟨_,u1,hy⟩:=bs hy;obtain rfl:=Option.some.inj hy;exact ⟨x,rfl,rfl⟩
 ·refine impl_of (T:=Av.tab []) mixed htt (Av.tab_ok trivial) Try.func30 body30 (by kernel_rfl) fun ps r' ho hF'=>?_
  split at hF'
  ·rename_i hps
   subst hps;injection hF' with hF';subst hF';obtain ⟨x,hx,h⟩:=lift_inv hF;obtain rfl:=E30i l x hx;obtain ⟨y,hy,rfl⟩:=Option.map_eq_some_iff.1 h;have hy' := hy;unfold Lslices_Clone_of__api_Input_api_Input at hy';obtain ⟨_,u1,hy'⟩:=bs hy';obtain rfl:=Option.some.inj hy';exact w30 l hl _ hy
  ·cases hF'
 ·cases x with
  | none=>exact (cnil30 c w).mono fun e w' h=>⟨none,h.1,.inl h.2⟩
  | some b=>exact (csome30 b c w).mono fun e w' h=>⟨_,h.1,.inr h.2⟩
theorem w15 : Walk tt G [(24,K24.G),(30,G30)] (fun _=>[]) Try.f15 K15:=by
 refine .of [(3,⟨[1,2,15,16],[2,11],[]⟩),(9,⟨[6,27,28,29],[],[]⟩)] false body15 Try.ntmps15 fun T hO hT ⟨a0,a1⟩ x hr=>⟨by simp,?_⟩
 simp only [tabAll] at hT; simp only at hr ⊢; unfold c15;unfold Lbuild_Weight at hr;refine go ?_;obtain ⟨y23,ehy23,hr⟩:=bG hr fun _=>G30_eq
 simp only [E30,R30,nf,nfs] at ehy23;refine go ?_;refine lp 3 (fun (⟨p8,p9⟩ : Int×(List Tapi_Input))=>⟨(und 1++([.one (.slice .no (List.map eapi_Spendable a1)),.ptr 2 0 0 0 4]++(und 12++([.one (.v (.int .i64 (y23.length : Int))),.one (.v (.int .i64 p8))]++(und 22)))) : List PV),([(2,⟨0,4,[[.v (.int .u32 a0.1),.ms 11 0 0 (p9.length) 35,.slice .no (List.map eapi_Output a0.2.2.1),.v (.int .u32 a0.2.2.2)]],false,false⟩),(11,⟨0,35,List.map eapi_Input p9,false,true⟩)] : Boxes)⟩) hr ?_;rintro ⟨p8,p9⟩ x29r hr29
 simp only [Lbuild_Weight_s1] at hr29;unfold b15_1;refine nst ?_;refine go ?_;by_cases c30 : p8 < (y23.length : Int)
 ·have c30N:=nrm c30
  replace hr29:=ifP hr29
  refine go ?_;obtain ⟨_,⟨_,_,_⟩,hr29⟩:=bA hr29;obtain ⟨_,hx32,hr29⟩:=bs hr29;have ghx32:=getE_of hx32;refine go ?_;exact bk hr29
 ·have c30N:=nrm c30
  replace hr29:=ifN hr29
  refine go ?_;obtain ⟨r33,q33,rfl⟩:=ms hr29;refine go ?_;rintro rfl
  refine go ?_;unfold Lbuild_Weight_k1 at q33;obtain ⟨_,ehy34,q33⟩:=bN q33 G24_eq;refine go ?_;refine lp 9 (fun (⟨p17,p18⟩ : Int×Int)=>⟨(und 6++([.one (.v (.int .i64 p17))]++(und 20++([.one (.slice .no (List.map eapi_Spendable a1)),.one (.v (.int .i64 (a1.length : Int))),.one (.v (.int .i64 p18))]++(und 9)))) : List PV),([] : Boxes)⟩) q33 ?_;rintro ⟨p17,p18⟩ x39r hr39
  simp only [Lbuild_Weight_s2] at hr39;unfold b15_2;refine nst ?_;refine go ?_;by_cases c40 : p18 < (a1.length : Int)
  ·have c40N:=nrm c40
   replace hr39:=ifP hr39
   refine go ?_;obtain ⟨_,⟨_,_,_⟩,hr39⟩:=bI hr39;refine go ?_;exact bk hr39
  ·have c40N:=nrm c40
   replace hr39:=ifN hr39
   refine go ?_;obtain ⟨r42,q42,rfl⟩:=ms hr39;refine go ?_;rintro rfl
   refine go ?_;unfold Lbuild_Weight_k2 at q42;refine go ?_;exact fin q42
theorem w32 : Walk tt G [] (fun _=>[]) Try.f32 K32:=by
 refine .of [(4,⟨[0,1,13,14,15],[],[]⟩),(13,⟨[7,31,32,33],[],[]⟩)] false body32 Try.ntmps32 fun T hO hT ⟨a0,a1⟩ x hr=>⟨by simp,?_⟩
 simp only [tabAll] at hT; simp only at hr ⊢; unfold c32;unfold Lbuild_checkOutputs at hr;refine go ?_;rcases eqT ((a0.length : Int) = 0) with c15 | c15
 ·have c15N:=nrm c15
  replace hr:=ifP hr
  refine go ?_;exact fin hr
 ·have c15N:=nrm c15
  replace hr:=ifN hr
  refine go ?_;refine lp 4 (fun (p4 : Int)=>⟨([.one (.slice .no (List.map eapi_Output a0)),.one (.slice .no (intsR .u8 a1))]++(und 11++([.one (.slice .no (List.map eapi_Output a0)),.one (.v (.int .i64 (a0.length : Int))),.one (.v (.int .i64 p4))]++(und 31))) : List PV),([] : Boxes)⟩) hr ?_;rintro p4 x21r hr21
  simp only [Lbuild_checkOutputs_s1] at hr21;unfold b32_1;refine nst ?_;refine go ?_;by_cases c22 : p4 < (a0.length : Int)
  ·have c22N:=nrm c22
   replace hr21:=ifP hr21
   refine go ?_;obtain ⟨x23,⟨_,_,_⟩,hr21⟩:=bI hr21;refine go ?_;by_cases c24 : x23.1 < 300
   ·replace hr21:=ifP hr21
    refine go ?_;exact fin hr21
   ·replace hr21:=ifN hr21
    refine go ?_;exact bk hr21
  ·have c22N:=nrm c22
   replace hr21:=ifN hr21
   refine go ?_;obtain ⟨r25,q25,rfl⟩:=ms hr21;refine go ?_;rintro rfl
   refine go ?_;unfold Lbuild_checkOutputs_k1 at q25;refine go ?_;by_cases c26 : 252 < (a1.length : Int)
   ·have c26N:=nrm c26
    refine go ?_
    replace q25:=ifP q25
    refine go ?_;exact fin q25
   ·have c26N:=nrm c26
    refine go ?_;by_cases c27 : 63 < (a0.length : Int)
    ·have c27N:=nrm c27
     replace q25:=ifP q25
     refine go ?_;exact fin q25
    ·have c27N:=nrm c27
     replace q25:=ifN q25
     refine go ?_;refine lp 13 (fun (⟨p10,p11⟩ : Int×Int)=>⟨(und 7++([.one (.v (.int .i64 p10))]++(und 23++([.one (.slice .no (List.map eapi_Output a0)),.one (.v (.int .i64 (a0.length : Int))),.one (.v (.int .i64 p11))]++(und 13)))) : List PV),([] : Boxes)⟩) q25 ?_;rintro ⟨p10,p11⟩ x33r hr33
     simp only [Lbuild_checkOutputs_s2] at hr33;unfold b32_2;refine nst ?_;refine go ?_;by_cases c34 : p11 < (a0.length : Int)
     ·have c34N:=nrm c34
      replace hr33:=ifP hr33
      refine go ?_;obtain ⟨x35,⟨_,_,_⟩,hr33⟩:=bI hr33;refine go ?_;by_cases c36 : IntKind.i64.wrap (2100000000000000 - p10) < x35.1
      ·replace hr33:=ifP hr33
       refine go ?_;exact fin hr33
      ·replace hr33:=ifN hr33
       refine go ?_;exact bk hr33
     ·have c34N:=nrm c34
      replace hr33:=ifN hr33
      refine go ?_;obtain ⟨r37,q37,rfl⟩:=ms hr33;refine go ?_;rintro rfl
      refine go ?_;unfold Lbuild_checkOutputs_k2 at q37;refine go ?_;exact fin q37
theorem w33 : Walk tt G [] (fun _=>[]) Try.f33 K33:=by
 refine .of [] false body33 Try.ntmps33 fun T hO hT a0 x hr=>⟨by simp,?_⟩
 simp only [tabAll] at hT; simp only at hr ⊢; unfold c33;unfold Lbuild_null at hr;refine go ?_;exact fin hr
end Go.Proofs.Ytjdoijdjeapekaa
