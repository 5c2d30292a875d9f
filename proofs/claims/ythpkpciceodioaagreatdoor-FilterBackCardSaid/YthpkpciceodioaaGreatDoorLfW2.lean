import Derived.Test.YthpkpciceodioaaGreatDoorLfK
import Derived.Test.YthpkpciceodioaaGreatDoorCode
import Derived.Test.YthpkpciceodioaaGreatDoorBl
namespace Go.Proofs.YthpkpciceodioaaGreatDoor
open Go.RowKit
open Go.Av
open Go.Lc
set_option maxRecDepth 100000
set_option linter.unusedSimpArgs false
set_option linter.unusedVariables false
set_option maxHeartbeats 4000000
theorem w57 : Walk tt G [(100,K100.G),(101,K101.G),(102,K102.G),(103,K103.G)] (fun _=>[]) Tryz.f57 K57:=by
 refine .of [(1000017,⟨[2,10,11,12,13],[],[]⟩)] false body57 Tryz.ntmps57 fun T hO hT ⟨a0,a1,a2⟩ x hr=>⟨by simp,?_⟩
 simp only [tabAll] at hT; simp only at hr ⊢; unfold c57;unfold Lcodec_Size at hr;refine go ?_;obtain ⟨y12,ehy12,hr⟩:=bN hr G100_eq;refine go ?_;rcases eqT (y12.2.2 = 0) with c13 | c13
 ·replace hr:=ifN hr
  refine go ?_;refine ee_J hr (.normal) (fun (s : Int×Int×Int×Int)=>match s with | (p5,p6,p7,p8)=>(⟨(und 2++([.one (.v (.int .u64 a2))]++(und 7++([.one (.v (.int .i64 p5)),.one (.v (.int .i64 p6)),.one (.v (.int .u64 p7)),.one (.v (.int .u64 p8))]++(und 60)))) : List PV),([] : Boxes)⟩ : ASt)) (fun (s : Int×Int×Int×Int)=>match s with | (p5,p6,p7,p8)=>Lcodec_Size_k1 a2 p5 p6 p7 p8) ?_ ?_
  ·rintro ⟨p5,p6,p7,p8⟩ hk20
   change Lcodec_Size_k1 a2 p5 p6 p7 p8 = _ at hk20
   refine go ?_;refine nst ?_;unfold Lcodec_Size_k1 at hk20;refine go ?_;refine ee_seq_regJ rfl (kq:=⟨[2,10,11,12,13],[],[]⟩) rfl (by simp [joinSt, *]; rfl) (by simp [*]; rfl) ?_;rcases eqT (p6 = 0) with c21 | c21
   ·replace hk20:=ifN hk20
    refine go ?_;by_cases c22 : p7 < p8
    ·replace hk20:=ifP hk20
     refine go ?_;exact fin hk20
    ·replace hk20:=ifN hk20
     refine go ?_;by_cases c23 : a2 < p7
     ·replace hk20:=ifP hk20
      refine go ?_;exact fin hk20
     ·replace hk20:=ifN hk20
      refine go ?_;exact fin hk20
   ·replace hk20:=ifP hk20
    refine go ?_;exact fin hk20
  ·intro J20
   simp only [pq,reduceCtorEq] at J20;rcases eqT (y12.1 = 253) with c24 | c24
   ·replace hr:=ifP hr
    refine go ?_;obtain ⟨y25,ehy25,hr⟩:=bN hr G101_eq;refine go ?_;exact jn 1000017 (J20 (y25.2.1,y25.2.2,IntKind.u64.wrap (y25.1),253) hr)
   ·replace hr:=ifN hr
    refine go ?_;rcases eqT (y12.1 = 254) with c26 | c26
    ·replace hr:=ifP hr
     refine go ?_;obtain ⟨y27,ehy27,hr⟩:=bN hr G102_eq;refine go ?_;exact jn 1000017 (J20 (y27.2.1,y27.2.2,IntKind.u64.wrap (y27.1),65536) hr)
    ·replace hr:=ifN hr
     refine go ?_;rcases eqT (y12.1 = 255) with c28 | c28
     ·replace hr:=ifP hr
      refine go ?_;obtain ⟨y29,ehy29,hr⟩:=bN hr G103_eq;refine go ?_;exact jn 1000017 (J20 (y29.2.1,y29.2.2,y29.1,4294967296) hr)
     ·replace hr:=ifN hr
      refine go ?_;exact jn 1000017 (J20 (y12.2.1,y12.2.2,IntKind.u64.wrap (y12.1),0) hr)
 ·replace hr:=ifP hr
  refine go ?_;exact fin hr
theorem w58 : Walk tt G [(57,K57.G),(97,K97.G)] (fun _=>[]) Tryz.f58 K58:=by
 refine .of [] false body58 Tryz.ntmps58 fun T hO hT ⟨a0,a1,a2⟩ x hr=>⟨by simp,?_⟩
 simp only [tabAll] at hT; simp only at hr ⊢; unfold c58;unfold Lcodec_Bytes at hr;refine go ?_;by_cases c4 : a2 < 0
 ·replace hr:=ifP hr
  refine go ?_;exact fin hr
 ·replace hr:=ifN hr
  refine go ?_;obtain ⟨y5,ehy5,hr⟩:=bN hr G57_eq;refine go ?_;rcases eqT (y5.2.2 = 0) with c6 | c6
  ·replace hr:=ifN hr
   refine go ?_;by_cases c7 : IntKind.u64.wrap (IntKind.i64.wrap ((a0.length : Int) - y5.2.1)) < y5.1
   ·have c7N:=nrm c7
    replace hr:=ifP hr
    refine go ?_;exact fin hr
   ·have c7N:=nrm c7
    replace hr:=ifN hr
    refine go ?_;obtain ⟨⟨_,_,_⟩,hr⟩:=bC hr;have sf9 : (y5.2.1).toNat≤(IntKind.i64.wrap (y5.2.1 + (IntKind.i64.wrap (y5.1)))).toNat:=by omega
    have sf10 : (IntKind.i64.wrap (y5.2.1 + (IntKind.i64.wrap (y5.1)))).toNat≤a0.length:=by omega
    have sf11 : 0≤IntKind.i64.wrap (y5.2.1 + (IntKind.i64.wrap (y5.1))):=by omega
    obtain ⟨_,ehy12,hr⟩:=bN hr G97_eq;refine go ?_;exact fin hr
  ·replace hr:=ifP hr
   refine go ?_;exact fin hr
theorem w59 : Walk tt G [] (fun _=>[]) Tryz.f59 K59:=by
 refine .of [] false body59 Tryz.ntmps59 fun T hO hT ⟨a0,a1⟩ x hr=>⟨by simp,?_⟩
 simp only [tabAll] at hT; simp only at hr ⊢; unfold c59;unfold Lcodec_End at hr;refine go ?_;by_cases c1 : a1 < 0
 ·refine go ?_
  replace hr:=ifP hr
  refine go ?_;exact fin hr
 ·refine go ?_
  by_cases c2 : (a0.length : Int) < a1
  ·have c2N:=nrm c2
   replace hr:=ifP hr
   refine go ?_;exact fin hr
  ·have c2N:=nrm c2
   replace hr:=ifN hr
   refine go ?_;by_cases c3 : a1 < (a0.length : Int)
   ·have c3N:=nrm c3
    replace hr:=ifP hr
    refine go ?_;exact fin hr
   ·have c3N:=nrm c3
    replace hr:=ifN hr
    refine go ?_;exact fin hr
theorem w27 : Walk tt G [(57,K57.G),(58,K58.G),(59,K59.G)] (fun _=>[]) Tryz.f27 K27:=by
 refine .of [] false body27 Tryz.ntmps27 fun T hO hT a0 x hr=>⟨by simp,?_⟩
 simp only [tabAll] at hT; simp only at hr ⊢; unfold c27;unfold Lfilter_Decode at hr;refine go ?_;obtain ⟨y4,ehy4,hr⟩:=bN hr G57_eq;refine go ?_;rcases eqT (y4.2.2 = 0) with c5 | c5
 ·replace hr:=ifN hr
  refine go ?_;obtain ⟨y6,ehy6,hr⟩:=bN hr G58_eq;refine go ?_;rcases eqT (y6.2.2 = 0) with c7 | c7
  ·replace hr:=ifN hr
   refine go ?_;obtain ⟨y8,ehy8,hr⟩:=bN hr G59_eq;refine go ?_;rcases eqT (y8 = 0) with c9 | c9
   ·replace hr:=ifN hr
    refine go ?_;exact fin hr
   ·replace hr:=ifP hr
    refine go ?_;exact fin hr
  ·replace hr:=ifP hr
   refine go ?_;exact fin hr
 ·replace hr:=ifP hr
  refine go ?_;exact fin hr
theorem w7 : Walk tt G [(9,K9.G),(16,K16.G),(25,K25.G),(26,K26.G),(27,K27.G)] (fun _=>[]) Tryz.f7 K7:=by
 refine .of [(1000010,⟨[1],[],[]⟩)] false body7 Tryz.ntmps7 fun T hO hT ⟨a0,a1⟩ x hr=>⟨by simp,?_⟩
 simp only [tabAll] at hT; simp only at hr ⊢; unfold c7;unfold Llaw20_FilterBack_c at hr;refine go ?_;obtain ⟨y13,ehy13,hr⟩:=bN hr G9_eq;refine go ?_;by_cases c14 : y13 = true
 ·replace hr:=ifN hr
  refine go ?_;by_cases c15 : 1000 < (a0.2.length : Int)
  ·have c15N:=nrm c15
   refine go ?_
   replace hr:=ifP hr
   refine go ?_;exact fin hr
  ·have c15N:=nrm c15
   refine go ?_;by_cases c16 : 1000 < (a1.length : Int)
   ·have c16N:=nrm c16
    replace hr:=ifP hr
    refine go ?_;exact fin hr
   ·have c16N:=nrm c16
    replace hr:=ifN hr
    refine go ?_;obtain ⟨y17,ehy17,hr⟩:=bN hr G26_eq;refine go ?_;refine ee_seq_J hr (fun (s : Unit)=>match s with | ()=>(⟨(und 1++([.one (.slice .no (intsR .u8 a1))]++(und 70)) : List PV),([] : Boxes)⟩ : ASt)) (fun (s : Unit)=>match s with | ()=>Llaw20_FilterBack_c_k1 a1) ?_ ?_
    ·rintro ⟨⟩ hk25
     change Llaw20_FilterBack_c_k1 a1 = _ at hk25
     refine nst ?_;unfold Llaw20_FilterBack_c_k1 at hk25;obtain ⟨y26,ehy26,hk25⟩:=bN hk25 G27_eq;refine ee_seq_regJ rfl (kq:=⟨[1],[],[]⟩) rfl (by simp [joinSt, *]; rfl) (by simp [*] <;> rfl) ?_;refine go ?_;rcases eqT (y26.2 = 0) with c27 | c27
     ·replace hk25:=ifN hk25
      refine go ?_;obtain ⟨y28,ehy28,hk25⟩:=bN hk25 G26_eq;refine go ?_;rcases eqT (y28.2 = 0) with c29 | c29
      ·replace hk25:=ifPb hk25
       obtain ⟨_,hz30,hk25⟩:=bs hk25;obtain ⟨_,ehy31,hz30⟩:=bN hz30 G25_eq;obtain rfl:=Option.some.inj hz30;refine go ?_;exact fin hk25
      ·replace hk25:=ifNb hk25
       obtain ⟨_,hz32,hk25⟩:=bs hk25;obtain rfl:=Option.some.inj hz32;refine go ?_;exact fin hk25
     ·replace hk25:=ifP hk25
      refine go ?_;rcases eqT (y26.1.1 = 0) with c33 | c33
      ·refine go ?_
       exact fin hk25
      ·refine go ?_
       exact fin hk25
    ·intro J25
     rcases eqT (y17.2 = 0) with c34 | c34
     ·replace hr:=ifP hr
      refine go ?_;obtain ⟨y35,ehy35,hr⟩:=bN hr G27_eq;refine go ?_;rcases eqT (y35.2 = 0) with c36 | c36
      ·replace hr:=ifNb hr
       obtain ⟨_,hz37,hr⟩:=bs hr;obtain ⟨y38,ehy38,hz37⟩:=bN hz37 G16_eq;obtain rfl:=Option.some.inj hz37;refine go ?_;by_cases c39 : y38 = true
       ·replace hr:=ifN hr
        refine go ?_;exact jn 1000010 (J25 () hr)
       ·replace hr:=ifP hr
        refine go ?_;exact fin hr
      ·replace hr:=ifPb hr
       obtain ⟨_,hz40,hr⟩:=bs hr;obtain rfl:=Option.some.inj hz40;refine go ?_
       replace hr:=ifP hr
       refine go ?_;exact fin hr
     ·replace hr:=ifN hr
      refine go ?_;exact jn 1000010 (J25 () hr)
 ·replace hr:=ifP hr
  refine go ?_;exact fin hr
theorem w146 : Walk tt G [] (fun _=>[]) Tryz.f146 K146:=by
 refine .of [(2,⟨[0,3],[5],[]⟩),(5,⟨[0,3,4],[5],[]⟩)] true body146 Tryz.ntmps146 fun T hO hT a0 x hr=>⟨by simp,?_⟩
 simp only [tabAll] at hT; simp only at hr ⊢; unfold c146;unfold Lref03_Pad at hr;refine go ?_;refine lp 2 (fun (p4 : (List Int))=>⟨([.one (.v (.int .u64 a0))]++(und 2++([.one (.ms 5 0 0 (p4.length) 1)]++(und 27))) : List PV),([(5,⟨0,1,intsR .u8 p4,false,true⟩)] : Boxes)⟩) hr ?_;rintro p4 x23r hr23
 simp only [Lref03_Pad_s1] at hr23;unfold b146_1;refine nst ?_;refine go ?_;rcases eqT ((IntKind.u64.wrap ((IntKind.u64.wrap (a0 + (IntKind.u64.wrap ((p4.length : Int))))) + 8)).tmod 64 = 0) with c24 | c24
 ·have c24N:=nrm c24
  replace hr23:=ifN hr23
  refine go ?_;obtain ⟨r25,q25,rfl⟩:=ms hr23;refine go ?_;rintro rfl
  refine go ?_;unfold Lref03_Pad_k1 at q25;refine go ?_;refine lp 5 (fun (⟨p12,p13⟩ : Int×(List Int))=>⟨([.one (.v (.int .u64 a0))]++(und 2++([.one (.ms 5 0 0 (p13.length) 1),.one (.v (.int .i64 p12))]++(und 26))) : List PV),([(5,⟨0,1,intsR .u8 p13,false,true⟩)] : Boxes)⟩) q25 ?_;rintro ⟨p12,p13⟩ x31r hr31
  simp only [Lref03_Pad_s2] at hr31;unfold b146_2;refine nst ?_;refine go ?_;by_cases c32 : 0≤p12
  ·replace hr31:=ifP hr31
   refine go ?_;obtain ⟨_,hr31⟩:=bC hr31;obtain ⟨_,hr31⟩:=bC hr31;have n1_u34_0 : p13.length + 1≤140737488355328:=by omega
   have n2_u34_0 : p13.length + 1≤9223372036854775807:=by omega
   refine go ?_;exact bk hr31
  ·replace hr31:=ifN hr31
   refine go ?_;obtain ⟨r35,q35,rfl⟩:=ms hr31;refine go ?_;rintro rfl
   refine go ?_;unfold Lref03_Pad_k2 at q35;refine go ?_;exact fin q35
 ·have c24N:=nrm c24
  replace hr23:=ifP hr23
  refine go ?_;obtain ⟨_,hr23⟩:=bC hr23;have n1_u36_0 : p4.length + 1≤140737488355328:=by omega
  have n2_u36_0 : p4.length + 1≤9223372036854775807:=by omega
  refine go ?_;exact bk hr23
theorem w147 : Walk tt G [] (fun _=>[]) Tryz.f147 K147:=by
 refine .of [] false body147 Tryz.ntmps147 fun T hO hT _ x hr=>⟨by simp,?_⟩
 simp only [tabAll] at hT; simp only at hr ⊢; unfold c147;unfold Lref03_Initial at hr;refine go ?_;exact fin hr
theorem w227 : Walk tt G [] (fun _=>[]) Tryz.f227 K227:=by
 refine .of [] false body227 Tryz.ntmps227 fun T hO hT ⟨a0,a1⟩ x hr=>⟨by simp,?_⟩
 simp only [tabAll] at hT; simp only at hr ⊢; unfold c227;unfold Lmath_bits_RotateLeft32 at hr;refine go ?_;obtain ⟨_,hr⟩:=bC hr;obtain ⟨_,hr⟩:=bC hr;refine go ?_;exact fin hr
theorem w195 : Walk tt G [(227,K227.G)] (fun _=>[]) Tryz.f195 K195:=by
 refine .of [] false body195 Tryz.ntmps195 fun T hO hT ⟨a0,a1⟩ x hr=>⟨by simp,?_⟩
 simp only [tabAll] at hT; simp only at hr ⊢; unfold c195;unfold Lref03_rotr at hr;refine go ?_;obtain ⟨_,ehy2,hr⟩:=bN hr G227_eq;refine go ?_;exact fin hr
end Go.Proofs.YthpkpciceodioaaGreatDoor
