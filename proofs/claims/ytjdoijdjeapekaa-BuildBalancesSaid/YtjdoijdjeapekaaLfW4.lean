import Derived.Test.YtjdoijdjeapekaaLfK
import Derived.Test.YtjdoijdjeapekaaCode
namespace Go.Proofs.Ytjdoijdjeapekaa
open Go.RowKit
open Go.Av
open Go.Lc
set_option maxRecDepth 100000
set_option linter.unusedSimpArgs false
set_option linter.unusedVariables false
set_option maxHeartbeats 4000000
variable {G : Glob}
theorem w20 : Walk tt G [(32,K32.G),(33,K33.G)] (fun _=>[]) Try.f20 K20:=by
 refine .of [(4,⟨[0,1,2,24,25,26],[],[]⟩),(14,⟨[0,57,58,59],[],[]⟩),(21,⟨[15,69,70,71],[1000000000068],[]⟩)] false body20 Try.ntmps20 fun T hO hT ⟨a0,a1,a2,a3⟩ x hr=>⟨by simp,?_⟩
 simp only [tabAll] at hT; simp only at hr ⊢; unfold c20;unfold Lbuild_check at hr;refine go ?_;by_cases c26 : a3 < 0
 ·refine go ?_
  replace hr:=ifP hr
  refine go ?_;exact fin hr
 ·refine go ?_
  by_cases c27 : 1048576 < a3
  ·replace hr:=ifP hr
   refine go ?_;exact fin hr
  ·replace hr:=ifN hr
   refine go ?_;refine lp 4 (fun (p4 : Int)=>⟨([.one (.slice .no (List.map eapi_Spendable a0)),.one (.slice .no (List.map eapi_Output a1)),.one (.slice .no (intsR .u8 a2))]++(und 21++([.one (.slice .no (List.map eapi_Spendable a0)),.one (.v (.int .i64 (a0.length : Int))),.one (.v (.int .i64 p4))]++(und 58))) : List PV),([] : Boxes)⟩) hr ?_;rintro p4 x36r hr36
   simp only [Lbuild_check_s1] at hr36;unfold b20_1;refine nst ?_;refine go ?_;by_cases c37 : p4 < (a0.length : Int)
   ·have c37N:=nrm c37
    replace hr36:=ifP hr36
    refine go ?_;obtain ⟨x38,⟨_,_,_⟩,hr36⟩:=bI hr36;refine go ?_;by_cases c39 : x38.1.2.1.1 < 0
    ·refine go ?_
     replace hr36:=ifP hr36
     refine go ?_;exact fin hr36
    ·by_cases c40 : 2100000000000000 < x38.1.2.1.1
     ·refine go ?_
      replace hr36:=ifP hr36
      refine go ?_;exact fin hr36
     ·by_cases c41 : x38.2 < 0
      ·refine go ?_
       replace hr36:=ifP hr36
       refine go ?_;exact fin hr36
      ·refine go ?_
       by_cases c42 : 4000 < x38.2
       ·replace hr36:=ifP hr36
        refine go ?_;exact fin hr36
       ·replace hr36:=ifN hr36
        refine go ?_;exact bk hr36
   ·have c37N:=nrm c37
    replace hr36:=ifN hr36
    refine go ?_;obtain ⟨r43,q43,rfl⟩:=ms hr36;refine go ?_;rintro rfl
    refine go ?_;unfold Lbuild_check_k1 at q43;refine go ?_;obtain ⟨y44,ehy44,q43⟩:=bN q43 G32_eq;refine go ?_;rcases eqT (y44 = 0) with c45 | c45
    ·replace q43:=ifN q43
     refine go ?_;refine lp 14 (fun (p12 : Int)=>⟨([.one (.slice .no (List.map eapi_Spendable a0))]++(und 56++([.one (.slice .no (List.map eapi_Spendable a0)),.one (.v (.int .i64 (a0.length : Int))),.one (.v (.int .i64 p12))]++(und 25))) : List PV),([] : Boxes)⟩) q43 ?_;rintro p12 x52r hr52
     simp only [Lbuild_check_s2] at hr52;unfold b20_2;refine nst ?_;refine go ?_;by_cases c53 : p12 < (a0.length : Int)
     ·have c53N:=nrm c53
      replace hr52:=ifP hr52
      refine go ?_;obtain ⟨_,⟨_,_,_⟩,hr52⟩:=bI hr52;refine go ?_;obtain ⟨y55,ehy55,hr52⟩:=bN hr52 G33_eq;refine go ?_;by_cases c56 : y55 = true
      ·replace hr52:=ifP hr52
       refine go ?_;exact fin hr52
      ·replace hr52:=ifN hr52
       refine go ?_;exact bk hr52
     ·have c53N:=nrm c53
      replace hr52:=ifN hr52
      refine go ?_;obtain ⟨r57,q57,rfl⟩:=ms hr52;refine go ?_;rintro rfl
      refine go ?_;unfold Lbuild_check_k2 at q57;refine go ?_;refine lp 21 (fun (⟨p19,p20⟩ : Int×(List (Tapi_OutPoint×Bool)))=>⟨(und 15++([.one (.mp 1000000000068 0)]++(und 53++([.one (.slice .no (List.map eapi_Spendable a0)),.one (.v (.int .i64 (a0.length : Int))),.one (.v (.int .i64 p19))]++(und 13)))) : List PV),([(1000000000068,⟨0,6,((arC .u8 (zA 32))++((.v (.int .u32 0)) :: [])) :: List.map eM_api_OutPoint_B p20,false,false⟩)] : Boxes)⟩) q57 ?_;rintro ⟨p19,p20⟩ x63r hr63
      simp only [Lbuild_check_s3] at hr63;unfold b20_3;refine nst ?_;refine go ?_;by_cases c64 : p19 < (a0.length : Int)
      ·have c64N:=nrm c64
       replace hr63:=ifP hr63
       refine go ?_;obtain ⟨x65,⟨_,_,_⟩,hr63⟩:=bI hr63;refine go ?_;by_cases c66 : (mget x65.1.1 p20).getD false = true
       ·replace hr63:=ifP hr63
        refine go ?_;exact fin hr63
       ·replace hr63:=ifN hr63
        refine go ?_;exact bk hr63
      ·have c64N:=nrm c64
       replace hr63:=ifN hr63
       refine go ?_;obtain ⟨r67,q67,rfl⟩:=ms hr63;refine go ?_;rintro rfl
       refine go ?_;unfold Lbuild_check_k3 at q67;refine go ?_;exact fin q67
    ·replace q43:=ifP q43
     refine go ?_;exact fin q43
theorem cnil21 (c : Nat) (w : World) : Calls Try.prog 21 #[.slice none 0 c] w fun e w'=>e = .returned (.slice none 0 0)∧w' = w:=by
 have h1 : ∀ w,(binOp .eql 32 (.slice none 0 c) (.slice none 0 0)).run Try.prog w = .ok (.bool true) w:=fun w=>by
  have h : ∀ d : Nat,(Op.equalIn (d + 1) 32 (.slice none 0 c) (.slice none 0 0)).run Try.prog w = .ok true w:=fun d=>by
   simp [Op.equalIn,run_underlying Try.underlying32]
  have h' : (Op.equal 32 (.slice none 0 c) (.slice none 0 0)).run Try.prog w = .ok true w:=h 9999;simp [binOp,h']
 go_enter Try.func21,Try.ntmps21
 go_wp2
 go_ret
 exact ⟨rfl,rfl⟩
theorem csome21 (b : Addr) (c : Nat) (w : World) : Calls Try.prog 21 #[.slice (some b) 0 c] w fun e w'=>e = .returned (.slice (some ⟨w.heap.size,0,none⟩) 0 0)∧w' = w.alloc (.cells #[] 5):=by
 have h1 : ∀ w,(binOp .eql 32 (.slice (some b) 0 c) (.slice none 0 0)).run Try.prog w = .ok (.bool false) w:=fun w=>by
  have h : (Op.equal 32 (.slice (some b) 0 c) (.slice none 0 0)).run Try.prog w = .ok false w:=eqIn_slice 9999 Try.underlying32;simp [binOp,h]
 have h2 : ∀ w,(Instr.buildSlice 32 0 #[]).run Try.prog w = .ok (.slice (some ⟨w.heap.size,0,none⟩) 0 0) (w.alloc (.cells #[] 5)):=fun w=>by kernel_rfl
 have hi0 : (Try.prog.info? 5).isSome = true:=by kernel_rfl
 obtain ⟨i,hi⟩:=Option.isSome_iff_exists.1 hi0;have h3 : ∀ (w : World) (x : Option Addr) ty,(Builtin.append_ #[32,32] ty #[.slice x 0 0,.slice (some b) 0 c]).run Try.prog w = .ok (.slice x 0 0) w:=fun w x ty=>run_append_zero w 32 ty 5 i Try.underlying32 hi x (some b) 0 0 c (Nat.le_refl _)
 clear hi hi0
 go_enter Try.func21,Try.ntmps21
 go_wp2
 go_ret
 exact ⟨rfl,rfl⟩
def kp21 : Keep:=fun i=>⟨[],[],[]⟩
theorem w21 {T : Tab} (a0 : (List Int)) (hne : a0≠[]) (x : (List Int)) (hr : Lbytes_Clone a0 = some x) : ∃ kp fl n,execFn tt T G kp fl n Try.f21 [.one (.slice .no (intsR .u8 a0))] = some (.one (.own 1 (intsR .u8 a0)),[]):=by
 refine fnE (kp:=kp21) (w:=true) body21 (by simp) ?_;unfold c21;rw [Try.ntmps21];unfold Lbytes_Clone at hr;obtain ⟨_,u1,hr⟩:=bs hr;have u2:=chk_some u1;have n1 : a0.length≤140737488355328:=by omega
 have n2 : a0.length≤9223372036854775807:=by omega
 have ne : intsR .u8 a0≠[]:=fun h=>hne (by simpa [intsR] using h)
 refine ee_seq_reg rfl (by simp; rfl) ?_
 first
 | (refine ee_assoc ?_; refine ee_seq_reg rfl (by simp [hne,ne]; rfl) ?_)
 | refine ee_seq_reg rfl (by simp [hne,ne]; rfl) ?_
 refine ee_seq_condF (by simp [bV]) ?_;refine ee_seq_skip ?_;refine ee_seq_reg rfl (by simp [n1,n2]; rfl) ?_;refine ee_ret ?_;simp [FinQ]
theorem v21 : Impl Try.prog G 21 G21:=by
 refine clone_impl (e:=1) (t:=5) (N:=0) (rows:=fun l : (List Int)=>intsR .u8 l) Try.func21 (by kernel_rfl) (by kernel_rfl) G21 (fun ps r hF=>?_) rfl (fun l hl r hF=>?_) (fun x c w=>?_)
 ·obtain ⟨x,rfl,h⟩:=lift_inv hF
  obtain ⟨y,hy,rfl⟩:=Option.map_eq_some_iff.1 h;unfold Lbytes_Clone at hy;obtain ⟨_,u1,hy⟩:=bs hy;obtain rfl:=Option.some.inj hy;exact ⟨x,rfl,rfl⟩
 ·refine impl_of (T:=Av.tab []) mixed htt (Av.tab_ok trivial) Try.func21 body21 (by kernel_rfl) fun ps r' ho hF'=>?_
  split at hF'
  ·rename_i hps
   subst hps;injection hF' with hF';subst hF';obtain ⟨x,hx,h⟩:=lift_inv hF;obtain rfl:=E21i l x hx;obtain ⟨y,hy,rfl⟩:=Option.map_eq_some_iff.1 h;have hy' := hy;unfold Lbytes_Clone at hy';obtain ⟨_,u1,hy'⟩:=bs hy';obtain rfl:=Option.some.inj hy';exact w21 l hl _ hy
  ·cases hF'
 ·cases x with
  | none=>exact (cnil21 c w).mono fun e w' h=>⟨none,h.1,.inl h.2⟩
  | some b=>exact (csome21 b c w).mono fun e w' h=>⟨_,h.1,.inr h.2⟩
theorem w43 : Walk tt G [] (fun _=>[]) Try.f43 K43:=by
 refine .of [(4,⟨[1,10,11,12],[],[]⟩)] false body43 Try.ntmps43 fun T hO hT ⟨a0,a1⟩ x hr=>⟨by simp,?_⟩
 simp only [tabAll] at hT; simp only at hr ⊢; unfold c43;unfold Lselection_check at hr;refine go ?_;by_cases c7 : 16 < (a0.length : Int)
 ·have c7N:=nrm c7
  replace hr:=ifP hr
  refine go ?_;exact fin hr
 ·have c7N:=nrm c7
  replace hr:=ifN hr
  refine go ?_;refine lp 4 (fun (p4 : Int)=>⟨(und 1++([.one (.v (.int .i64 a1))]++(und 8++([.one (.slice .no (intsR .i64 a0)),.one (.v (.int .i64 (a0.length : Int))),.one (.v (.int .i64 p4))]++(und 16)))) : List PV),([] : Boxes)⟩) hr ?_;rintro p4 x14r hr14
  simp only [Lselection_check_s1] at hr14;unfold b43_1;refine nst ?_;refine go ?_;by_cases c15 : p4 < (a0.length : Int)
  ·have c15N:=nrm c15
   replace hr14:=ifP hr14
   refine go ?_;obtain ⟨x16,⟨_,_,_⟩,hr14⟩:=bI hr14;refine go ?_;by_cases c17 : x16 < 1
   ·refine go ?_
    replace hr14:=ifP hr14
    refine go ?_;exact fin hr14
   ·refine go ?_
    by_cases c18 : 2100000000000000 < x16
    ·replace hr14:=ifP hr14
     refine go ?_;exact fin hr14
    ·replace hr14:=ifN hr14
     refine go ?_;exact bk hr14
  ·have c15N:=nrm c15
   replace hr14:=ifN hr14
   refine go ?_;obtain ⟨r19,q19,rfl⟩:=ms hr14;refine go ?_;rintro rfl
   refine go ?_;unfold Lselection_check_k1 at q19;refine go ?_;by_cases c20 : a1 < 1
   ·refine go ?_
    replace q19:=ifP q19
    refine go ?_;exact fin q19
   ·refine go ?_
    by_cases c21 : 2100000000000000 < a1
    ·replace q19:=ifP q19
     refine go ?_;exact fin q19
    ·replace q19:=ifN q19
     refine go ?_;exact fin q19
theorem w44 : Walk tt G [] (fun _=>[]) Try.f44 K44:=by
 refine .of [(3,⟨[3,6,7,8],[],[]⟩)] false body44 Try.ntmps44 fun T hO hT a0 x hr=>⟨by simp,?_⟩
 simp only [tabAll] at hT; simp only at hr ⊢; unfold c44;unfold Lselection_total at hr;refine go ?_;refine lp 3 (fun (⟨p5,p6⟩ : Int×Int)=>⟨(und 3++([.one (.v (.int .i64 p5))]++(und 2++([.one (.slice .no (intsR .i64 a0)),.one (.v (.int .i64 (a0.length : Int))),.one (.v (.int .i64 p6))]++(und 8)))) : List PV),([] : Boxes)⟩) hr ?_;rintro ⟨p5,p6⟩ x13r hr13
 simp only [Lselection_total_s1] at hr13;unfold b44_1;refine nst ?_;refine go ?_;by_cases c14 : p6 < (a0.length : Int)
 ·have c14N:=nrm c14
  replace hr13:=ifP hr13
  refine go ?_;obtain ⟨_,⟨_,_,_⟩,hr13⟩:=bI hr13;refine go ?_;exact bk hr13
 ·have c14N:=nrm c14
  replace hr13:=ifN hr13
  refine go ?_;obtain ⟨r16,q16,rfl⟩:=ms hr13;refine go ?_;rintro rfl
  refine go ?_;unfold Lselection_total_k1 at q16;refine go ?_;exact fin q16
end Go.Proofs.Ytjdoijdjeapekaa
