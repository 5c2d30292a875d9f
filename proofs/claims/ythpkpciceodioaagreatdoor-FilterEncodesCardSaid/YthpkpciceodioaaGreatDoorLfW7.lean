import Derived.Test.YthpkpciceodioaaGreatDoorLfK
import Derived.Test.YthpkpciceodioaaGreatDoorCode
import Derived.Test.YthpkpciceodioaaGreatDoorBl
namespace Go.Proofs.YthpkpciceodioaaGreatDoor
open Go.RowKit
open Go.Av
open Go.Lc
set_option maxRecDepth 100000
set_option linter.unusedSimpArgs false
set_option linter.unusedVariables false
set_option maxHeartbeats 4000000
def kp66 : Keep:=fun i=>if i = 3 then ⟨[0,3,9,10,11],[],[]⟩ else if i = 11 then ⟨[6,25,26,27],[24],[]⟩ else ⟨[],[],[]⟩
theorem w66 {T : Tab} (hO : T.own = fun _=>[]) (hN106 : T 106 = none) (hZ106 : T 1000106 = some G106) (a0 : (List (List Int))) (x : (List Int)) (hr : Lslices_Concat_of__byte_byte a0 = some x) : ∃ kp fl n,execFn tt T G kp fl n Tryz.f66 (E66 a0) = some (R66 a0 x):=by
 simp only [E66,R66];refine fnE (kp:=kp66) (w:=true) body66 (by simp) ?_;unfold c66;rw [Tryz.ntmps66];unfold Lslices_Concat_of__byte_byte at hr;refine ee_seq_reg rfl (by simp []; rfl) ?_;refine ee_seq_reg rfl (by simp []; rfl) ?_;refine ee_assoc ?_;refine ee_seq_reg rfl (by simp []; rfl) ?_;refine ee_seq_block ?_;refine ee_loop (kq:=⟨[0,3,9,10,11],[],[]⟩) (H:=fun (s : Int×Int)=>match s with | (p5,p6)=>(⟨([.one (.slice .no (List.map eS_I_u8 a0))]++(und 2++([.one (.v (.int .i64 p5))]++(und 5++([.one (.slice .no (List.map eS_I_u8 a0)),.one (.v (.int .i64 (a0.length : Int))),.one (.v (.int .i64 p6))]++(und 24))))) : List PV),([] : Boxes)⟩ : ASt)) (by kernel_rfl) hr (by simp [und,List.replicate,]) ?_;rintro ⟨p5,p6⟩ x28r hr28
 simp only [Lslices_Concat_of__byte_byte_s1] at hr28;unfold b66_1;simp only [und,List.replicate,List.cons_append,List.nil_append];refine ee_seq_reg rfl (by simp []; rfl) ?_;by_cases c29 : p6 < (a0.length : Int)
 ·skip
  have c29N:=c29;try simp at c29N
  first | have c29M : (_ = _) = True:=eq_true c29N | have c29M:=c29N
  rw [if_pos] at hr28;rotate_left
  ·simp [c29,c29M]
  refine ee_seq_condT (by simp [bV,c29,c29M]) ?_;refine ee_seq_skip ?_;refine ee_seq_block ?_;obtain ⟨x30,hx30,hr28⟩:=bs hr28;obtain ⟨hx30a,hx30b⟩:=idx_some hx30;have hx30c:=getE_of hx30b;refine ee_seq_reg rfl (by simp [hx30a,hx30b,hx30c,c29,c29M] <;> rfl) ?_;refine ee_seq_reg rfl (by simp [c29,c29M] <;> rfl) ?_;refine ee_seq_reg rfl (by simp [c29,c29M] <;> rfl) ?_;by_cases c32 : IntKind.i64.wrap (p5 + (x30.length : Int)) < 0
  ·skip
   have c32N:=c32;try simp at c32N
   first | have c32M : (_ = _) = True:=eq_true c32N | have c32M:=c32N
   rw [if_pos] at hr28;rotate_left
   ·simp [c29,c29M,c32,c32M]
   refine ee_condT (by simp [bV,c29,c29M,c32,c32M]) ?_;simp at hr28
  ·skip
   have c32N:=c32;try simp at c32N
   first | have c32M : (_ = _) = True:=eq_true c32N | have c32M:=c32N
   rw [if_neg] at hr28;rotate_left
   ·simp [c29,c29M,c32,c32M]
   refine ee_condF (by simp [bV,c29,c29M,c32,c32M]) ?_;refine ee_skip ?_;simp only [pq,reduceCtorEq];unfold Lslices_Concat_of__byte_byte_k3 at hr28;refine ee_reg rfl (by simp [c29,c29M,c32,c32M] <;> rfl) ?_;obtain rfl:=Option.some.inj hr28;simp only [pq,reduceCtorEq];simp [und,List.replicate,Nat.add_assoc,c29,c29M,c32,c32M]
 ·skip
  have c29N:=c29;try simp at c29N
  first | have c29M : (_ = _) = True:=eq_true c29N | have c29M:=c29N
  rw [if_neg] at hr28;rotate_left
  ·simp [c29,c29M]
  refine ee_seq_condF (by simp [bV,c29,c29M]) ?_;refine ee_seq_exit ?_;obtain ⟨r33,q33,rfl⟩:=ms hr28;simp only [pq,reduceCtorEq];rintro rfl
  try simp only [pq,reduceCtorEq]
  unfold Lslices_Concat_of__byte_byte_k1 at q33;obtain ⟨_,u34,q33⟩:=bs q33;obtain ⟨u34_0,u34_1⟩:=chk_some u34;have eg35:=G106_eq (n:=p5) ⟨u34_0,u34_1⟩;refine ee_seq_reg rfl (by simp [hO,hN106,hZ106,eg35,c29,c29M] <;> rfl) ?_;refine ee_assoc ?_;refine ee_seq_reg rfl (by simp [c29,c29M] <;> rfl) ?_;refine ee_seq_block ?_;refine ee_loop (kq:=⟨[6,25,26,27],[24],[]⟩) (H:=fun (s : Int×(List Int))=>match s with | (p15,p16)=>(⟨(und 6++([.one (.ms 24 0 0 (p16.length) 1)]++(und 18++([.one (.slice .no (List.map eS_I_u8 a0)),.one (.v (.int .i64 (a0.length : Int))),.one (.v (.int .i64 p15))]++(und 8)))) : List PV),([(24,⟨0,1,intsR .u8 p16,false,true⟩)] : Boxes)⟩ : ASt)) (by kernel_rfl) q33 (by simp [und,List.replicate,c29,c29M]) ?_;rintro ⟨p15,p16⟩ x41r hr41
  simp only [Lslices_Concat_of__byte_byte_s2] at hr41;unfold b66_2;simp only [und,List.replicate,List.cons_append,List.nil_append];refine ee_seq_reg rfl (by simp [c29,c29M] <;> rfl) ?_;by_cases c42 : p15 < (a0.length : Int)
  ·skip
   have c42N:=c42;try simp at c42N
   first | have c42M : (_ = _) = True:=eq_true c42N | have c42M:=c42N
   rw [if_pos] at hr41;rotate_left
   ·simp [c29,c29M,c42,c42M]
   refine ee_seq_condT (by simp [bV,c29,c29M,c42,c42M]) ?_;refine ee_seq_skip ?_;refine ee_seq_block ?_;obtain ⟨x43,hx43,hr41⟩:=bs hr41;obtain ⟨hx43a,hx43b⟩:=idx_some hx43;have hx43c:=getE_of hx43b;refine ee_seq_reg rfl (by simp [hx43a,hx43b,hx43c,c29,c29M,c42,c42M] <;> rfl) ?_;obtain ⟨_,u44,hr41⟩:=bs hr41;have u44_0:=chk_some u44;have n1_u44_0 : p16.length + x43.length≤140737488355328:=by omega
   have n2_u44_0 : p16.length + x43.length≤9223372036854775807:=by omega
   refine ee_reg rfl (by simp [n1_u44_0,n2_u44_0,c29,c29M,c42,c42M] <;> rfl) ?_;simp only [pq,reduceCtorEq];refine ee_reg rfl (by simp [c29,c29M,c42,c42M] <;> rfl) ?_;obtain rfl:=Option.some.inj hr41;simp only [pq,reduceCtorEq];simp [und,List.replicate,Nat.add_assoc,c29,c29M,c42,c42M]
  ·skip
   have c42N:=c42;try simp at c42N
   first | have c42M : (_ = _) = True:=eq_true c42N | have c42M:=c42N
   rw [if_neg] at hr41;rotate_left
   ·simp [c29,c29M,c42,c42M]
   refine ee_seq_condF (by simp [bV,c29,c29M,c42,c42M]) ?_;refine ee_seq_exit ?_;obtain ⟨r45,q45,rfl⟩:=ms hr41;simp only [pq,reduceCtorEq];rintro rfl
   try simp only [pq,reduceCtorEq]
   unfold Lslices_Concat_of__byte_byte_k2 at q45;refine ee_seq_reg rfl (by simp [c29,c29M,c42,c42M] <;> rfl) ?_;refine ee_ret ?_;obtain rfl:=Option.some.inj q45;simp [FinQ,c29,c29M,c42,c42M,c29N,c42N]
theorem w32 : Walk tt G [(65,K65.G),(66,G66)] (fun _=>[]) Tryz.f32 K32:=by
 refine .of [] false body32 Tryz.ntmps32 fun T hO hT ⟨a0,a1⟩ x hr=>⟨by simp,?_⟩
 simp only [tabAll] at hT; simp only at hr ⊢; unfold c32;unfold Lfilter_Header at hr;refine goR ?_;obtain ⟨_,ehy3,hr⟩:=bG hr fun _=>G66_eq
 simp only [E66,R66,nf,nfs] at ehy3;obtain ⟨_,ehy4,hr⟩:=bN hr G65_eq;refine goR ?_;exact fin hr
theorem w45 : Walk tt G [(82,K82.G)] (fun _=>[]) Tryz.f45 K45:=by
 refine .of [(3,⟨[3,6,7,8],[900003],[(3,none,900003,0),(3,none,900003,1)]⟩)] true body45 Tryz.ntmps45 fun T hO hT a0 x hr=>⟨by simp,?_⟩
 simp only [tabAll] at hT; simp only at hr ⊢; unfold c45;unfold Lref01_Join at hr;refine go ?_;refine lp 3 (fun (⟨p7,p8⟩ : Int×(List Int))=>⟨(und 3++([.one (.ms 900003 0 0 (p8.length) 1)]++(und 2++([.one (.slice .no (List.map eS_I_u8 a0)),.one (.v (.int .i64 (a0.length : Int))),.one (.v (.int .i64 p7))]++(und 8)))) : List PV),([(900003,⟨0,1,intsR .u8 p8,false,true⟩)] : Boxes)⟩) hr ?_;rintro ⟨p7,p8⟩ x18r hr18
 simp only [Lref01_Join_s1] at hr18;unfold b45_1;refine nst ?_;refine go ?_;by_cases c19 : p7 < (a0.length : Int)
 ·have c19N:=nrm c19
  replace hr18:=ifP hr18
  refine go ?_;obtain ⟨_,⟨_,_,_⟩,hr18⟩:=bI hr18;refine go ?_;obtain ⟨_,ehy21,hr18⟩:=bN hr18 G82_eq;refine go ?_;exact bk hr18
 ·have c19N:=nrm c19
  replace hr18:=ifN hr18
  refine go ?_;obtain ⟨r22,q22,rfl⟩:=ms hr18;refine go ?_;rintro rfl
  refine go ?_;unfold Lref01_Join_k1 at q22;refine go ?_;exact fin q22
theorem w33 : Walk tt G [(45,K45.G),(51,K51.G)] (fun _=>[]) Tryz.f33 K33:=by
 refine .of [] false body33 Tryz.ntmps33 fun T hO hT ⟨a0,a1⟩ x hr=>⟨by simp,?_⟩
 simp only [tabAll] at hT; simp only at hr ⊢; unfold c33;unfold Lref20_Header at hr;refine goR ?_;obtain ⟨_,ehy3,hr⟩:=bN hr G45_eq;obtain ⟨_,ehy4,hr⟩:=bN hr G51_eq;refine goR ?_;exact fin hr
end Go.Proofs.YthpkpciceodioaaGreatDoor
