import Derived.Test.YthpkpciceodioaaGreatDoorLfK
import Derived.Test.YthpkpciceodioaaGreatDoorCode
import Derived.Test.YthpkpciceodioaaGreatDoorBl
namespace Go.Proofs.YthpkpciceodioaaGreatDoor
open Go.RowKit
open Go.Av
open Go.Lc
set_option maxRecDepth 100000
set_option linter.unusedSimpArgs false
set_option linter.unusedVariables false
set_option maxHeartbeats 4000000
def kp7 : Keep:=fun i=>if i = 1000010 then ⟨[1],[],[]⟩ else ⟨[],[],[]⟩
theorem w7 {T : Tab} (hO : T.own = fun _=>[]) (hT9 : T 9 = some K9.G) (hT16 : T 16 = some K16.G) (hT25 : T 25 = some K25.G) (hT26 : T 26 = some K26.G) (hT27 : T 27 = some K27.G) (a0 : Tapi_Filter) (a1 : (List Int)) (x : Bool) (hr : Llaw20_FilterBack_c a0 a1 = some x) : ∃ kp fl n,execFn tt T G kp fl n Tryz.f7 (E7 (a0,a1)) = some (R7 (a0,a1) x):=by
 simp only [E7,R7];refine fnE (kp:=kp7) (w:=false) body7 (by simp) ?_;unfold c7;rw [Tryz.ntmps7];unfold Llaw20_FilterBack_c at hr;refine ee_seq_reg rfl (by simp []; rfl) ?_;refine ee_assoc ?_;obtain ⟨y13,hy13,hr⟩:=bs hr;have ehy13:=G9_eq hy13;simp only [K9,nf,nfs] at ehy13;refine ee_seq_reg rfl (by simp [hO,hT9,ehy13]; rfl) ?_;by_cases c14 : y13 = true
 ·skip
  rw [if_neg (not_not_intro c14)] at hr;refine ee_seq_condF (by simp [bV,c14]) ?_;refine ee_seq_skip ?_;refine ee_assoc ?_;by_cases c15 : 1000 < (a0.2.length : Int)
  ·skip
   have c15N:=c15;try simp at c15N
   first | have c15M : (_ = _) = True:=eq_true c15N | have c15M:=c15N
   refine ee_seq_reg rfl (by simp [c14,c15,c15M] <;> rfl) ?_;rw [if_pos] at hr;rotate_left
   ·simp [c14,c15,c15M]
   refine ee_seq_condT (by simp [bV,c14,c15,c15M]) ?_;refine ee_assoc ?_;refine ee_seq_reg rfl (by simp [c14,c15,c15M] <;> rfl) ?_;refine ee_seq_ret ?_;obtain rfl:=Option.some.inj hr;simp [FinQ,c14,c15,c15M,c15N]
  ·skip
   have c15N:=c15;try simp at c15N
   first | have c15M : (_ = _) = True:=eq_true c15N | have c15M:=c15N
   refine ee_seq_reg rfl (by simp [c14,c15,c15M] <;> rfl) ?_;by_cases c16 : 1000 < (a1.length : Int)
   ·skip
    have c16N:=c16;try simp at c16N
    first | have c16M : (_ = _) = True:=eq_true c16N | have c16M:=c16N
    rw [if_pos] at hr;rotate_left
    ·simp [c14,c15,c15M,c16,c16M]
    refine ee_seq_condT (by simp [bV,c14,c15,c15M,c16,c16M]) ?_;refine ee_assoc ?_;refine ee_seq_reg rfl (by simp [c14,c15,c15M,c16,c16M] <;> rfl) ?_;refine ee_seq_ret ?_;obtain rfl:=Option.some.inj hr;simp [FinQ,c14,c15,c15M,c16,c16M,c15N,c16N]
   ·skip
    have c16N:=c16;try simp at c16N
    first | have c16M : (_ = _) = True:=eq_true c16N | have c16M:=c16N
    rw [if_neg] at hr;rotate_left
    ·simp [c14,c15,c15M,c16,c16M]
    refine ee_seq_condF (by simp [bV,c14,c15,c15M,c16,c16M]) ?_;refine ee_seq_skip ?_;refine ee_assoc ?_;obtain ⟨y17,hy17,hr⟩:=bs hr;have ehy17:=G26_eq hy17;simp only [K26,nf,nfs] at ehy17;refine ee_seq_reg rfl (by simp [hO,hT26,ehy17,c14,c15,c15M,c16,c16M] <;> rfl) ?_;refine ee_assoc ?_;refine ee_seq_reg rfl (by simp [c14,c15,c15M,c16,c16M] <;> rfl) ?_;refine ee_seq_J hr (fun (s : Unit)=>match s with | ()=>(⟨(und 1++([.one (.slice .no (intsR .u8 a1))]++(und 70)) : List PV),([] : Boxes)⟩ : ASt)) (fun (s : Unit)=>match s with | ()=>Llaw20_FilterBack_c_k1 a1) ?_ ?_
    ·skip
     rintro ⟨⟩ hk25
     change Llaw20_FilterBack_c_k1 a1 = _ at hk25
     simp only [und,List.replicate,List.cons_append,List.nil_append];unfold Llaw20_FilterBack_c_k1 at hk25;obtain ⟨y26,hy26,hk25⟩:=bs hk25;have ehy26:=G27_eq hy26;simp only [K27,nf,nfs] at ehy26;refine ee_seq_regJ rfl (kq:=⟨[1],[],[]⟩) rfl (by simp [joinSt,hO,hT27,ehy26,c14,c15,c15M,c16,c16M]; rfl) (by simp [hO,hT27,ehy26,c14,c15,c15M,c16,c16M] <;> rfl) ?_;refine ee_assoc ?_;refine ee_seq_reg rfl (by simp [c14,c15,c15M,c16,c16M] <;> rfl) ?_;by_cases c27 : y26.2 = 0
     ·skip
      rw [if_neg (not_not_intro c27)] at hk25;refine ee_seq_condF (by simp [bV,c14,c15,c15M,c16,c16M,eq_true c27]) ?_;refine ee_seq_skip ?_;obtain ⟨y28,hy28,hk25⟩:=bs hk25;have ehy28:=G26_eq hy28;simp only [K26,nf,nfs] at ehy28;refine ee_seq_reg rfl (by simp [hO,hT26,ehy28,c14,c15,c15M,c16,c16M,eq_true c27] <;> rfl) ?_;by_cases c29 : y28.2 = 0
      ·skip
       rw [if_pos] at hk25;rotate_left
       ·simp [c14,c15,c15M,c16,c16M,eq_true c27,eq_true c29]
       obtain ⟨z30,hz30,hk25⟩:=bs hk25;obtain ⟨y31,hy31,hz30⟩:=bs hz30;have ehy31:=G25_eq hy31;simp only [K25,nf,nfs] at ehy31;obtain rfl:=Option.some.inj hz30;refine ee_seq_reg rfl (by simp [hO,hT25,ehy31,c14,c15,c15M,c16,c16M,eq_true c27,eq_true c29] <;> rfl) ?_;refine ee_ret ?_;obtain rfl:=Option.some.inj hk25;simp [FinQ,hO,hT25,ehy31,c14,c15,c15M,c16,c16M,eq_true c27,eq_true c29,c15N,c16N]
      ·skip
       rw [if_neg] at hk25;rotate_left
       ·simp [c14,c15,c15M,c16,c16M,eq_true c27,c29]
       obtain ⟨z32,hz32,hk25⟩:=bs hk25;obtain rfl:=Option.some.inj hz32;refine ee_seq_reg rfl (by simp [c14,c15,c15M,c16,c16M,eq_true c27,c29] <;> rfl) ?_;refine ee_ret ?_;obtain rfl:=Option.some.inj hk25;simp [FinQ,c14,c15,c15M,c16,c16M,eq_true c27,c29,c15N,c16N]
     ·skip
      rw [if_pos c27] at hk25;refine ee_seq_condT (by simp [bV,c14,c15,c15M,c16,c16M,c27]) ?_;refine ee_assoc ?_;by_cases c33 : y26.1.1 = 0
      ·skip
       refine ee_seq_reg rfl (by simp [c14,c15,c15M,c16,c16M,c27,eq_true c33] <;> rfl) ?_;refine ee_seq_ret ?_;obtain rfl:=Option.some.inj hk25;simp [FinQ,c14,c15,c15M,c16,c16M,c27,eq_true c33,c15N,c16N]
      ·skip
       refine ee_seq_reg rfl (by simp [c14,c15,c15M,c16,c16M,c27,c33] <;> rfl) ?_;refine ee_seq_ret ?_;obtain rfl:=Option.some.inj hk25;simp [FinQ,c14,c15,c15M,c16,c16M,c27,c33,c15N,c16N]
    ·skip
     intro J25;by_cases c34 : y17.2 = 0
     ·skip
      rw [if_pos c34] at hr;refine ee_seq_condT (by simp [bV,c14,c15,c15M,c16,c16M,eq_true c34]) ?_;refine ee_assoc ?_;obtain ⟨y35,hy35,hr⟩:=bs hr;have ehy35:=G27_eq hy35;simp only [K27,nf,nfs] at ehy35;refine ee_seq_reg rfl (by simp [hO,hT27,ehy35,c14,c15,c15M,c16,c16M,eq_true c34] <;> rfl) ?_;refine ee_assoc ?_;by_cases c36 : y35.2 = 0
      ·skip
       rw [if_neg] at hr;rotate_left
       ·simp [c14,c15,c15M,c16,c16M,eq_true c34,eq_true c36]
       obtain ⟨z37,hz37,hr⟩:=bs hr;obtain ⟨y38,hy38,hz37⟩:=bs hz37;have ehy38:=G16_eq hy38;simp only [K16,nf,nfs] at ehy38;obtain rfl:=Option.some.inj hz37;refine ee_seq_reg rfl (by simp [hO,hT16,ehy38,c14,c15,c15M,c16,c16M,eq_true c34,eq_true c36] <;> rfl) ?_;by_cases c39 : y38 = true
       ·skip
        rw [if_neg] at hr;rotate_left
        ·simp [c14,c15,c15M,c16,c16M,eq_true c34,eq_true c36,c39]
        refine ee_seq_condF (by simp [bV,c14,c15,c15M,c16,c16M,eq_true c34,eq_true c36,c39]) ?_;refine ee_seq_skip ?_;exact ee_join (key:=1000010) (kq:=⟨[1],[],[]⟩) rfl rfl rfl (by simp [und,List.replicate,c14,c15,c15M,c16,c16M,eq_true c34,eq_true c36,c39]) (J25 () hr)
       ·skip
        rw [if_pos] at hr;rotate_left
        ·simp [c14,c15,c15M,c16,c16M,eq_true c34,eq_true c36,c39]
        refine ee_seq_condT (by simp [bV,c14,c15,c15M,c16,c16M,eq_true c34,eq_true c36,c39]) ?_;refine ee_assoc ?_;refine ee_seq_reg rfl (by simp [c14,c15,c15M,c16,c16M,eq_true c34,eq_true c36,c39] <;> rfl) ?_;refine ee_seq_ret ?_;obtain rfl:=Option.some.inj hr;simp [FinQ,c14,c15,c15M,c16,c16M,eq_true c34,eq_true c36,c39,c15N,c16N]
      ·skip
       rw [if_pos] at hr;rotate_left
       ·simp [c14,c15,c15M,c16,c16M,eq_true c34,c36]
       obtain ⟨z40,hz40,hr⟩:=bs hr;obtain rfl:=Option.some.inj hz40;refine ee_seq_reg rfl (by simp [c14,c15,c15M,c16,c16M,eq_true c34,c36] <;> rfl) ?_;rw [if_pos] at hr;rotate_left
       ·simp [c14,c15,c15M,c16,c16M,eq_true c34,c36]
       refine ee_seq_condT (by simp [bV,c14,c15,c15M,c16,c16M,eq_true c34,c36]) ?_;refine ee_assoc ?_;refine ee_seq_reg rfl (by simp [c14,c15,c15M,c16,c16M,eq_true c34,c36] <;> rfl) ?_;refine ee_seq_ret ?_;obtain rfl:=Option.some.inj hr;simp [FinQ,c14,c15,c15M,c16,c16M,eq_true c34,c36,c15N,c16N]
     ·skip
      rw [if_neg c34] at hr;refine ee_seq_condF (by simp [bV,c14,c15,c15M,c16,c16M,c34]) ?_;refine ee_seq_skip ?_;exact ee_join (key:=1000010) (kq:=⟨[1],[],[]⟩) rfl rfl rfl (by simp [und,List.replicate,c14,c15,c15M,c16,c16M,c34]) (J25 () hr)
 ·skip
  rw [if_pos c14] at hr;refine ee_seq_condT (by simp [bV,c14]) ?_;refine ee_assoc ?_;refine ee_seq_reg rfl (by simp [c14]; rfl) ?_;refine ee_seq_ret ?_;obtain rfl:=Option.some.inj hr;simp [FinQ,c14]
theorem w146 : Walk tt G [] (fun _=>[]) Tryz.f146 K146:=by
 refine .of [(2,⟨[0,3],[5],[]⟩),(5,⟨[0,3,4],[5],[]⟩)] true body146 Tryz.ntmps146 fun T hO hT a0 x hr=>⟨by simp,?_⟩
 simp only [tabAll] at hT; simp only at hr ⊢; unfold c146;unfold Lref03_Pad at hr;refine go ?_;refine lp 2 (fun (p4 : (List Int))=>⟨([.one (.v (.int .u64 a0))]++(und 2++([.one (.ms 5 0 0 (p4.length) 1)]++(und 27))) : List PV),([(5,⟨0,1,intsR .u8 p4,false,true⟩)] : Boxes)⟩) hr ?_;rintro p4 x23r hr23
 simp only [Lref03_Pad_s1] at hr23;unfold b146_1;refine nst ?_;refine go ?_;rcases eqT ((IntKind.u64.wrap ((IntKind.u64.wrap (a0 + (IntKind.u64.wrap ((p4.length : Int))))) + 8)).tmod 64 = 0) with c24 | c24
 ·have c24N:=nrm c24
  replace hr23:=ifN hr23
  refine go ?_;obtain ⟨r25,q25,rfl⟩:=ms hr23;refine go ?_;rintro rfl
  refine go ?_;unfold Lref03_Pad_k1 at q25;refine go ?_;refine lp 5 (fun (⟨p12,p13⟩ : Int×(List Int))=>⟨([.one (.v (.int .u64 a0))]++(und 2++([.one (.ms 5 0 0 (p13.length) 1),.one (.v (.int .i64 p12))]++(und 26))) : List PV),([(5,⟨0,1,intsR .u8 p13,false,true⟩)] : Boxes)⟩) q25 ?_;rintro ⟨p12,p13⟩ x31r hr31
  simp only [Lref03_Pad_s2] at hr31;unfold b146_2;refine nst ?_;refine go ?_;by_cases c32 : 0≤p12
  ·replace hr31:=ifP hr31
   refine go ?_;obtain ⟨_,hr31⟩:=bC hr31;obtain ⟨_,hr31⟩:=bC hr31;have n1_u34_0 : p13.length + 1≤140737488355328:=by omega
   have n2_u34_0 : p13.length + 1≤9223372036854775807:=by omega
   refine go ?_;exact bk hr31
  ·replace hr31:=ifN hr31
   refine go ?_;obtain ⟨r35,q35,rfl⟩:=ms hr31;refine go ?_;rintro rfl
   refine go ?_;unfold Lref03_Pad_k2 at q35;refine go ?_;exact fin q35
 ·have c24N:=nrm c24
  replace hr23:=ifP hr23
  refine go ?_;obtain ⟨_,hr23⟩:=bC hr23;have n1_u36_0 : p4.length + 1≤140737488355328:=by omega
  have n2_u36_0 : p4.length + 1≤9223372036854775807:=by omega
  refine go ?_;exact bk hr23
theorem w147 : Walk tt G [] (fun _=>[]) Tryz.f147 K147:=by
 refine .of [] false body147 Tryz.ntmps147 fun T hO hT _ x hr=>⟨by simp,?_⟩
 simp only [tabAll] at hT; simp only at hr ⊢; unfold c147;unfold Lref03_Initial at hr;refine go ?_;exact fin hr
theorem w227 : Walk tt G [] (fun _=>[]) Tryz.f227 K227:=by
 refine .of [] false body227 Tryz.ntmps227 fun T hO hT ⟨a0,a1⟩ x hr=>⟨by simp,?_⟩
 simp only [tabAll] at hT; simp only at hr ⊢; unfold c227;unfold Lmath_bits_RotateLeft32 at hr;refine go ?_;obtain ⟨_,hr⟩:=bC hr;obtain ⟨_,hr⟩:=bC hr;refine go ?_;exact fin hr
theorem w195 : Walk tt G [(227,K227.G)] (fun _=>[]) Tryz.f195 K195:=by
 refine .of [] false body195 Tryz.ntmps195 fun T hO hT ⟨a0,a1⟩ x hr=>⟨by simp,?_⟩
 simp only [tabAll] at hT; simp only at hr ⊢; unfold c195;unfold Lref03_rotr at hr;refine go ?_;obtain ⟨_,ehy2,hr⟩:=bN hr G227_eq;refine go ?_;exact fin hr
end Go.Proofs.YthpkpciceodioaaGreatDoor
