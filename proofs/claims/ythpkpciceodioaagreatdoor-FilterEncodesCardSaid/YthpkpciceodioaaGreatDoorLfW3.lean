import Derived.Test.YthpkpciceodioaaGreatDoorLfK
import Derived.Test.YthpkpciceodioaaGreatDoorCode
import Derived.Test.YthpkpciceodioaaGreatDoorBl
namespace Go.Proofs.YthpkpciceodioaaGreatDoor
open Go.RowKit
open Go.Av
open Go.Lc
set_option maxRecDepth 100000
set_option linter.unusedSimpArgs false
set_option linter.unusedVariables false
set_option maxHeartbeats 4000000
theorem w28 : Walk tt G [(60,K60.G),(61,K61.G)] (fun _=>[]) Tryz.f28 K28:=by
 refine .of [] false body28 Tryz.ntmps28 fun T hO hT a0 x hr=>⟨by simp,?_⟩
 simp only [tabAll] at hT; simp only at hr ⊢; unfold c28;unfold Lref20_Encode at hr;refine go ?_;by_cases c3 : a0.1 < 0
 ·refine go ?_
  replace hr:=ifP hr
  refine go ?_;exact fin hr
 ·by_cases c4 : 4096 < a0.1
  ·refine go ?_
   replace hr:=ifP hr
   refine go ?_;exact fin hr
  ·refine go ?_
   by_cases c5 : 200000 < (a0.2.length : Int)
   ·have c5N:=nrm c5
    replace hr:=ifP hr
    refine go ?_;exact fin hr
   ·have c5N:=nrm c5
    replace hr:=ifN hr
    refine go ?_;obtain ⟨_,ehy6,hr⟩:=bN hr G61_eq;obtain ⟨_,ehy7,hr⟩:=bN hr G60_eq;refine go ?_;exact fin hr
theorem w104 : Walk tt G [] (fun _=>[]) Tryz.f104 K104:=by
 refine .of [(7,⟨[0,1,2,9,10],[],[]⟩)] false body104 Tryz.ntmps104 fun T hO hT ⟨a0,a1,a2⟩ x hr=>⟨by simp,?_⟩
 simp only [tabAll] at hT; simp only at hr ⊢; unfold c104;unfold Lref01_number at hr;refine go ?_;by_cases c9 : a1 < 0
 ·refine go ?_
  replace hr:=ifP hr
  refine go ?_;exact fin hr
 ·refine go ?_
  by_cases c10 : (a0.length : Int) < a1
  ·have c10N:=nrm c10
   replace hr:=ifP hr
   refine go ?_;exact fin hr
  ·have c10N:=nrm c10
   replace hr:=ifN hr
   refine go ?_;by_cases c11 : IntKind.i64.wrap ((a0.length : Int) - a1) < a2
   ·have c11N:=nrm c11
    replace hr:=ifP hr
    refine go ?_;exact fin hr
   ·have c11N:=nrm c11
    replace hr:=ifN hr
    refine go ?_;refine lp 7 (fun (⟨p5,p6⟩ : Int×Int)=>⟨([.one (.slice .no (intsR .u8 a0)),.one (.v (.int .i64 a1)),.one (.v (.int .i64 a2))]++(und 6++([.one (.v (.int .u64 p5)),.one (.v (.int .i64 p6))]++(und 34))) : List PV),([] : Boxes)⟩) hr ?_;rintro ⟨p5,p6⟩ x16r hr16
    simp only [Lref01_number_s1] at hr16;unfold b104_1;refine nst ?_;refine go ?_;by_cases c17 : 0≤p6
    ·replace hr16:=ifP hr16
     refine go ?_;obtain ⟨_,⟨_,_,_⟩,hr16⟩:=bI hr16;refine go ?_;exact bk hr16
    ·replace hr16:=ifN hr16
     refine go ?_;obtain ⟨r19,q19,rfl⟩:=ms hr16;refine go ?_;rintro rfl
     refine go ?_;unfold Lref01_number_k1 at q19;refine go ?_;exact fin q19
theorem w62 : Walk tt G [(104,K104.G)] (fun _=>[]) Tryz.f62 K62:=by
 refine .of [(1000012,⟨[2,10,12],[],[]⟩)] false body62 Tryz.ntmps62 fun T hO hT ⟨a0,a1,a2⟩ x hr=>⟨by simp,?_⟩
 simp only [tabAll] at hT; simp only at hr ⊢; unfold c62;unfold Lref01_Size at hr;refine go ?_;obtain ⟨y8,ehy8,hr⟩:=bN hr G104_eq;refine go ?_;rcases eqT (y8.2.2 = 0) with c9 | c9
 ·replace hr:=ifN hr
  refine go ?_;refine ee_seq_J hr (fun (s : Int×Int)=>match s with | (p4,p5)=>(⟨(und 2++([.one (.v (.int .u64 a2))]++(und 7++([.one (.v (.int .i64 p4))]++(und 1++([.one (.v (.int .u64 p5))]++(und 55)))))) : List PV),([] : Boxes)⟩ : ASt)) (fun (s : Int×Int)=>match s with | (p4,p5)=>Lref01_Size_k1 a2 p4 p5) ?_ ?_
  ·rintro ⟨p4,p5⟩ hk28
   change Lref01_Size_k1 a2 p4 p5 = _ at hk28
   refine nst ?_;unfold Lref01_Size_k1 at hk28;refine go ?_;refine ee_seq_regJ rfl (kq:=⟨[2,10,12],[],[]⟩) rfl (by simp [joinSt, *]; rfl) (by simp [*]; rfl) ?_;by_cases c29 : a2 < p5
   ·replace hk28:=ifP hk28
    refine go ?_;exact fin hk28
   ·replace hk28:=ifN hk28
    refine go ?_;exact fin hk28
  ·intro J28
   by_cases c30 : 253≤y8.1
   ·replace hr:=ifP hr
    refine go ?_;obtain ⟨_,hr⟩:=bC hr;refine go ?_;obtain ⟨y32,ehy32,hr⟩:=bN hr G104_eq;refine go ?_;rcases eqT (y32.2.2 = 0) with c33 | c33
    ·replace hr:=ifN hr
     refine go ?_;rcases eqT (y8.1 = 253) with c34 | c34
     ·by_cases c35 : y32.1 < 253
      ·refine go ?_
       replace hr:=ifP hr
       refine go ?_;exact fin hr
      ·rcases eqT (y8.1 = 254) with c36 | c36
       ·by_cases c37 : y32.1 < 65536
        ·refine go ?_
         replace hr:=ifP hr
         refine go ?_;exact fin hr
        ·rcases eqT (y8.1 = 255) with c38 | c38
         ·refine go ?_
          by_cases c39 : y32.1 < 4294967296
          ·replace hr:=ifP hr
           refine go ?_;exact fin hr
          ·replace hr:=ifN hr
           refine go ?_;exact jn 1000012 (J28 (y32.2.1,y32.1) hr)
         ·refine go ?_
          replace hr:=ifN hr
          refine go ?_;exact jn 1000012 (J28 (y32.2.1,y32.1) hr)
       ·rcases eqT (y8.1 = 255) with c40 | c40
        ·refine go ?_
         by_cases c41 : y32.1 < 4294967296
         ·replace hr:=ifP hr
          refine go ?_;exact fin hr
         ·replace hr:=ifN hr
          refine go ?_;exact jn 1000012 (J28 (y32.2.1,y32.1) hr)
        ·refine go ?_
         replace hr:=ifN hr
         refine go ?_;exact jn 1000012 (J28 (y32.2.1,y32.1) hr)
     ·rcases eqT (y8.1 = 254) with c42 | c42
      ·by_cases c43 : y32.1 < 65536
       ·refine go ?_
        replace hr:=ifP hr
        refine go ?_;exact fin hr
       ·rcases eqT (y8.1 = 255) with c44 | c44
        ·refine go ?_
         by_cases c45 : y32.1 < 4294967296
         ·replace hr:=ifP hr
          refine go ?_;exact fin hr
         ·replace hr:=ifN hr
          refine go ?_;exact jn 1000012 (J28 (y32.2.1,y32.1) hr)
        ·refine go ?_
         replace hr:=ifN hr
         refine go ?_;exact jn 1000012 (J28 (y32.2.1,y32.1) hr)
      ·rcases eqT (y8.1 = 255) with c46 | c46
       ·refine go ?_
        by_cases c47 : y32.1 < 4294967296
        ·replace hr:=ifP hr
         refine go ?_;exact fin hr
        ·replace hr:=ifN hr
         refine go ?_;exact jn 1000012 (J28 (y32.2.1,y32.1) hr)
       ·refine go ?_
        replace hr:=ifN hr
        refine go ?_;exact jn 1000012 (J28 (y32.2.1,y32.1) hr)
    ·replace hr:=ifP hr
     refine go ?_;exact fin hr
   ·replace hr:=ifN hr
    refine go ?_;exact jn 1000012 (J28 (y8.2.1,y8.1) hr)
 ·replace hr:=ifP hr
  refine go ?_;exact fin hr
theorem w63 : Walk tt G [(62,K62.G),(82,K82.G)] (fun _=>[]) Tryz.f63 K63:=by
 refine .of [] false body63 Tryz.ntmps63 fun T hO hT ⟨a0,a1,a2⟩ x hr=>⟨by simp,?_⟩
 simp only [tabAll] at hT; simp only at hr ⊢; unfold c63;unfold Lref01_Bytes at hr;refine go ?_;by_cases c4 : a2 < 0
 ·replace hr:=ifP hr
  refine go ?_;exact fin hr
 ·replace hr:=ifN hr
  refine go ?_;obtain ⟨y5,ehy5,hr⟩:=bN hr G62_eq;refine go ?_;rcases eqT (y5.2.2 = 0) with c6 | c6
  ·replace hr:=ifN hr
   refine go ?_;by_cases c7 : IntKind.u64.wrap (IntKind.i64.wrap ((a0.length : Int) - y5.2.1)) < y5.1
   ·have c7N:=nrm c7
    replace hr:=ifP hr
    refine go ?_;exact fin hr
   ·have c7N:=nrm c7
    replace hr:=ifN hr
    refine go ?_;obtain ⟨⟨_,_,_⟩,hr⟩:=bC hr;have sf9 : (y5.2.1).toNat≤(IntKind.i64.wrap (y5.2.1 + (IntKind.i64.wrap (y5.1)))).toNat:=by omega
    have sf10 : (IntKind.i64.wrap (y5.2.1 + (IntKind.i64.wrap (y5.1)))).toNat≤a0.length:=by omega
    have sf11 : 0≤IntKind.i64.wrap (y5.2.1 + (IntKind.i64.wrap (y5.1))):=by omega
    obtain ⟨_,ehy12,hr⟩:=bN hr G82_eq;refine go ?_;exact fin hr
  ·replace hr:=ifP hr
   refine go ?_;exact fin hr
theorem w64 : Walk tt G [] (fun _=>[]) Tryz.f64 K64:=by
 refine .of [] false body64 Tryz.ntmps64 fun T hO hT ⟨a0,a1⟩ x hr=>⟨by simp,?_⟩
 simp only [tabAll] at hT; simp only at hr ⊢; unfold c64;unfold Lref01_End at hr;refine go ?_;by_cases c1 : a1 < 0
 ·refine go ?_
  replace hr:=ifP hr
  refine go ?_;exact fin hr
 ·refine go ?_
  by_cases c2 : (a0.length : Int) < a1
  ·have c2N:=nrm c2
   replace hr:=ifP hr
   refine go ?_;exact fin hr
  ·have c2N:=nrm c2
   replace hr:=ifN hr
   refine go ?_;by_cases c3 : a1 < (a0.length : Int)
   ·have c3N:=nrm c3
    replace hr:=ifP hr
    refine go ?_;exact fin hr
   ·have c3N:=nrm c3
    replace hr:=ifN hr
    refine go ?_;exact fin hr
theorem w29 : Walk tt G [(62,K62.G),(63,K63.G),(64,K64.G)] (fun _=>[]) Tryz.f29 K29:=by
 refine .of [(1000007,⟨[2,4,6,7],[2],[]⟩)] false body29 Tryz.ntmps29 fun T hO hT a0 x hr=>⟨by simp,?_⟩
 simp only [tabAll] at hT; simp only at hr ⊢; unfold c29;unfold Lref20_Decode at hr;refine go ?_;obtain ⟨y6,ehy6,hr⟩:=bN hr G62_eq;refine go ?_;rcases eqT (y6.2.2 = 0) with c7 | c7
 ·replace hr:=ifN hr
  refine go ?_;obtain ⟨y8,ehy8,hr⟩:=bN hr G63_eq;refine go ?_;refine ee_seq_J hr (fun (s : Int)=>match s with | p4=>(⟨(und 2++([.ptr 2 0 0 0 2]++(und 1++([.one (.v (.int .u64 y6.1))]++(und 1++([.one (.v (.int .i64 p4)),.one (.slice .no (intsR .u8 y8.1))]++(und 30)))))) : List PV),([(2,⟨0,2,[[.v (.int .i64 0),.slice .nil []]],false,false⟩)] : Boxes)⟩ : ASt)) (fun (s : Int)=>match s with | p4=>Lref20_Decode_k1 y6 y8 p4) ?_ ?_
  ·rintro p4 hk11
   change Lref20_Decode_k1 y6 y8 p4 = _ at hk11
   refine nst ?_;unfold Lref20_Decode_k1 at hk11;refine go ?_;refine ee_seq_regJ rfl (kq:=⟨[2,4,6,7],[2],[]⟩) rfl (by simp [joinSt, *]; rfl) (by simp [*]; rfl) ?_;rcases eqT (p4 = 0) with c12 | c12
   ·replace hk11:=ifN hk11
    refine go ?_;exact fin hk11
   ·replace hk11:=ifP hk11
    refine go ?_;exact fin hk11
  ·intro J11
   rcases eqT (y8.2.2 = 0) with c13 | c13
   ·replace hr:=ifP hr
    refine go ?_;obtain ⟨y14,ehy14,hr⟩:=bN hr G64_eq;refine go ?_;exact jn 1000007 (J11 y14 hr)
   ·replace hr:=ifN hr
    refine go ?_;exact jn 1000007 (J11 y8.2.2 hr)
 ·replace hr:=ifP hr
  refine go ?_;exact fin hr
theorem w153 : Walk tt G [] (fun _=>[]) Tryz.f153 K153:=by
 refine .of [(3,⟨[3,6,7,8],[14],[(3,none,14,1)]⟩)] true body153 Tryz.ntmps153 fun T hO hT a0 x hr=>⟨by simp,?_⟩
 simp only [tabAll] at hT; simp only at hr ⊢; unfold c153;unfold Lsha_row at hr;refine go ?_;refine lp 3 (fun (⟨p7,p8⟩ : Int×(List Int))=>⟨(und 3++([.one (.ms 14 0 0 (p8.length) 1)]++(und 2++([.one (.slice .no (List.map eS_I_u8 a0)),.one (.v (.int .i64 (a0.length : Int))),.one (.v (.int .i64 p7))]++(und 8)))) : List PV),([(14,⟨0,1,intsR .u8 p8,false,true⟩)] : Boxes)⟩) hr ?_;rintro ⟨p7,p8⟩ x18r hr18
 simp only [Lsha_row_s1] at hr18;unfold b153_1;refine nst ?_;refine go ?_;by_cases c19 : p7 < (a0.length : Int)
 ·have c19N:=nrm c19
  replace hr18:=ifP hr18
  refine go ?_;obtain ⟨x20,⟨_,_,_⟩,hr18⟩:=bI hr18;refine go ?_;obtain ⟨_,hr18⟩:=bC hr18;have n1_u21_0 : p8.length + x20.length≤140737488355328:=by omega
  have n2_u21_0 : p8.length + x20.length≤9223372036854775807:=by omega
  refine go ?_;exact bk hr18
 ·have c19N:=nrm c19
  replace hr18:=ifN hr18
  refine go ?_;obtain ⟨r22,q22,rfl⟩:=ms hr18;refine go ?_;rintro rfl
  refine go ?_;unfold Lsha_row_k1 at q22;refine go ?_;exact fin q22
theorem w154 : Walk tt G [] (fun _=>[]) Tryz.f154 K154:=by
 refine .of [(5,⟨[0,4,18],[15],[]⟩)] true body154 Tryz.ntmps154 fun T hO hT a0 x hr=>⟨by simp,?_⟩
 simp only [tabAll] at hT; simp only at hr ⊢; unfold c154;unfold Lsha_Pad at hr;refine go ?_;obtain ⟨⟨_,_,_⟩,hr⟩:=bC hr;have mf16 : (IntKind.u64.wrap (1 + ((IntKind.u64.wrap (64 - ((IntKind.u64.wrap (a0 + 9)).tmod 64))).tmod 64))).toNat≤(IntKind.u64.wrap (9 + ((IntKind.u64.wrap (64 - ((IntKind.u64.wrap (a0 + 9)).tmod 64))).tmod 64))).toNat:=by omega
 have mf17 : (IntKind.u64.wrap (9 + ((IntKind.u64.wrap (64 - ((IntKind.u64.wrap (a0 + 9)).tmod 64))).tmod 64))).toNat≤140737488355328:=by omega
 have mf18 : (IntKind.u64.wrap (9 + ((IntKind.u64.wrap (64 - ((IntKind.u64.wrap (a0 + 9)).tmod 64))).tmod 64))).toNat≤9223372036854775807:=by omega
 have mf19 : 0≤IntKind.u64.wrap (9 + ((IntKind.u64.wrap (64 - ((IntKind.u64.wrap (a0 + 9)).tmod 64))).tmod 64)):=by omega
 refine go ?_;obtain ⟨u20_0,hr⟩:=bC hr;have su20_0 : 0 < IntKind.u64.wrap (1 + ((IntKind.u64.wrap (64 - ((IntKind.u64.wrap (a0 + 9)).tmod 64))).tmod 64)):=by have h:=u20_0; rw [List.length_replicate] at h; omega
 refine go ?_;refine lp 5 (fun (⟨p9,p10⟩ : Int×(List Int))=>⟨([.one (.v (.int .u64 a0))]++(und 3++([.one (.ms 15 0 0 (p10.length) 1)]++(und 13++([.one (.v (.int .i64 p9))]++(und 14))))) : List PV),([(15,⟨0,1,intsR .u8 p10,false,true⟩)] : Boxes)⟩) hr ?_;rintro ⟨p9,p10⟩ x26r hr26
 simp only [Lsha_Pad_s1] at hr26;unfold b154_1;refine nst ?_;refine go ?_;by_cases c27 : p9 < 8
 ·replace hr26:=ifP hr26
  refine go ?_;obtain ⟨_,hr26⟩:=bC hr26;obtain ⟨_,hr26⟩:=bC hr26;have n1_u29_0 : p10.length + 1≤140737488355328:=by omega
  have n2_u29_0 : p10.length + 1≤9223372036854775807:=by omega
  refine go ?_;exact bk hr26
 ·replace hr26:=ifN hr26
  refine go ?_;obtain ⟨r30,q30,rfl⟩:=ms hr26;refine go ?_;rintro rfl
  refine go ?_;unfold Lsha_Pad_k1 at q30;refine go ?_;exact fin q30
theorem w227 : Walk tt G [] (fun _=>[]) Tryz.f227 K227:=by
 refine .of [] false body227 Tryz.ntmps227 fun T hO hT ⟨a0,a1⟩ x hr=>⟨by simp,?_⟩
 simp only [tabAll] at hT; simp only at hr ⊢; unfold c227;unfold Lmath_bits_RotateLeft32 at hr;refine go ?_;obtain ⟨_,hr⟩:=bC hr;obtain ⟨_,hr⟩:=bC hr;refine go ?_;exact fin hr
end Go.Proofs.YthpkpciceodioaaGreatDoor
