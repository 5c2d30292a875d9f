import Derived.Test.YthpkpciceodioaaGreatDoorLfK
import Derived.Test.YthpkpciceodioaaGreatDoorCode
import Derived.Test.YthpkpciceodioaaGreatDoorBl
namespace Go.Proofs.YthpkpciceodioaaGreatDoor
open Go.RowKit
open Go.Av
open Go.Lc
set_option maxRecDepth 100000
set_option linter.unusedSimpArgs false
set_option linter.unusedVariables false
set_option maxHeartbeats 4000000
theorem w113_12:Walk tt G [(164,G164_10),(165,K165.G)] (fun d=>if d=10 then [[1000001]] else []) Tryz.f113 K113_12:=by
 refine .of [] false body113 Tryz.ntmps113 fun T hO hT a0 x hr=>⟨by simp,?_⟩
 simp only [Zi] at hT; simp only at hr ⊢; unfold c113;unfold Xb at hr;refine goL ?_;obtain ⟨_,ehy4,hr⟩:=bN hr ZoM;try simp only [Zj] at ehy4
 obtain ⟨_,ehy5,hr⟩:=bG hr fun _=>ZpM
 simp only [Xz,XS,nf,nfs] at ehy5;try simp only [Zj] at ehy5
 obtain ⟨u6_0,hr⟩:=bC hr;have ck7:=Z5 (k:=.u64) u6_0;refine goL ?_;obtain ⟨u8_0,hr⟩:=bC hr;try simp only [u6_0] at u8_0
 exact fin hr
theorem w71:Walk tt G [(111,K111.G),(112,K112.G),(113,K113_12.G)] (fun d=>if d=31 then [[1000001]] else []) Tryz.f71 K71:=by
 refine .of [(3,⟨[2,3,4,9,12,13,14],[4,28],[(9,none,28,1)]⟩)] true body71 Tryz.ntmps71 fun T hO hT ⟨a0,a1,a2,a3⟩ x hr=>⟨by simp,?_⟩
 simp only [Zi] at hT; simp only at hr ⊢; unfold c71;unfold ZbO at hr;refine go ?_;refine lp 3 (fun (⟨p10,p11⟩:Int×(List Int))=>⟨(und 2++([.one (.v (.int .i64 a2)),.one (.v (.int .u64 a3)),.ptr 4 0 0 0 2]++(und 4++([.one (.ms 28 0 0 (p11.length) 1)]++(und 2++([.one (.slice .no (List.map ZJ a1)),.one (.v (.int .i64 (a1.length:Int))),.one (.v (.int .i64 p10))]++(und 18)))))):List PV),([(4,⟨0,2,[arC .u64 a0],false,false⟩),(28,⟨0,1,Zd .u64 p11,false,true⟩)]:Boxes)⟩) hr ?_;rintro ⟨p10,p11⟩ x29r hr29
 simp only [ZbB] at hr29;unfold b71_1;refine nst ?_;refine go ?_;by_cases c30:p10<(a1.length:Int)
 ·have c30N:=nrm c30
  replace hr29:=ifP hr29
  refine go ?_;obtain ⟨_,⟨_,_,_⟩,hr29⟩:=bI hr29;refine go ?_;obtain ⟨_,ehy32,hr29⟩:=bN hr29 ZtP;obtain ⟨_,ehy33,hr29⟩:=bN hr29 ZtO;obtain ⟨_,hr29⟩:=bC hr29;have n1_u34_0:(p11.length+1) * 8≤140737488355328:=by omega
  have n2_u34_0:p11.length+1≤9223372036854775807:=by omega
  refine go ?_;exact bk hr29
 ·have c30N:=nrm c30
  replace hr29:=ifN hr29
  refine go ?_;obtain ⟨r35,q35,rfl⟩:=ms hr29;refine go ?_;rintro rfl
  refine go ?_;unfold ZeC at q35;obtain ⟨_,ehy36,q35⟩:=bN q35 ZpN;obtain ⟨u37_0,q35⟩:=bC q35;have ck38:=Z5 (k:=.u64) u37_0;refine go ?_;exact fin q35
theorem w38:Walk tt G [(70,K70.G),(71,K71.G)] (fun _=>[]) Tryz.f38 K38:=by
 refine .of [(8,⟨[2,3,4,8,10,11,34,35,36],[4,8,51,1000000000033],[(11,none,51,1)]⟩),(1000013,⟨[2,3,4,8,10,11,34,35,36],[4,8,51,1000000000033],[]⟩)] false body38 Tryz.ntmps38 fun T hO hT ⟨a0,a1,a2,a3⟩ x hr=>⟨by simp,?_⟩
 simp only [Zi] at hT; simp only at hr ⊢; unfold c38;unfold Zbu at hr;refine go ?_;by_cases c25:4096<(a1.length:Int)
 ·have c25N:=nrm c25
  replace hr:=ifP hr
  refine go ?_;exact fin hr
 ·have c25N:=nrm c25
  replace hr:=ifN hr
  refine go ?_;by_cases c26:a3<1
  ·refine go ?_
   replace hr:=ifP hr
   refine go ?_;exact fin hr
  ·by_cases c27:1099511627776<a3
   ·refine go ?_
    replace hr:=ifP hr
    refine go ?_;exact fin hr
   ·by_cases c28:a2<0
    ·refine go ?_
     replace hr:=ifP hr
     refine go ?_;exact fin hr
    ·refine go ?_
     by_cases c29:32<a2
     ·replace hr:=ifP hr
      refine go ?_;exact fin hr
     ·replace hr:=ifN hr
      refine go ?_;refine lp 8 (fun (⟨p11,p12,p13⟩:Int×(List (ByteArray×Bool))×(List (List Int)))=>⟨(und 2++([.one (.v (.int .i64 a2)),.one (.v (.int .u64 a3)),.ptr 4 0 0 0 2]++(und 3++([.ptr 8 0 0 0 2]++(und 1++([.one (.mp 1000000000033 0),.one (.ms 51 0 0 (p13.length) 1)]++(und 22++([.one (.slice .no (List.map ZJ a1)),.one (.v (.int .i64 (a1.length:Int))),.one (.v (.int .i64 p11))]++(und 26)))))))):List PV),([(4,⟨0,2,[arC .u64 a0],false,false⟩),(8,⟨0,2,[[.v (.int .i64 0),.slice .nil []]],false,false⟩),(51,⟨0,1,List.map ZJ p13,false,true⟩),(1000000000033,⟨0,4,([.v (.string (⟨#[]⟩))]) :: List.map Zgg p12,false,false⟩)]:Boxes)⟩) hr ?_;rintro ⟨p11,p12,p13⟩ x39r hr39
      simp only [Za2] at hr39;unfold b38_1;refine nst ?_;refine go ?_;by_cases c40:p11<(a1.length:Int)
      ·have c40N:=nrm c40
       replace hr39:=ifP hr39
       refine go ?_;obtain ⟨x41,⟨_,_,_⟩,hr39⟩:=bI hr39;refine go ?_;refine ZeA hr39 (.normal) (fun (s:(List (ByteArray×Bool))×(List (List Int)))=>match s with | (p22,p23)=>(⟨(und 2++([.one (.v (.int .i64 a2)),.one (.v (.int .u64 a3)),.ptr 4 0 0 0 2]++(und 3++([.ptr 8 0 0 0 2]++(und 1++([.one (.mp 1000000000033 0),.one (.ms 51 0 0 (p23.length) 1)]++(und 22++([.one (.slice .no (List.map ZJ a1)),.one (.v (.int .i64 (a1.length:Int))),.one (.v (.int .i64 p11))]++(und 26)))))))):List PV),([(4,⟨0,2,[arC .u64 a0],false,false⟩),(8,⟨0,2,[[.v (.int .i64 0),.slice .nil []]],false,false⟩),(51,⟨0,1,List.map ZJ p23,false,true⟩),(1000000000033,⟨0,4,([.v (.string (⟨#[]⟩))]) :: List.map Zgg p22,false,false⟩)]:Boxes)⟩:ASt)) (fun (s:(List (ByteArray×Bool))×(List (List Int)))=>match s with | (p22,p23)=>Zav p11 p22 p23) ?_ ?_
       ·rintro ⟨p22,p23⟩ hk44
        change Zav p11 p22 p23=_ at hk44
        refine go ?_;refine nst ?_;unfold Zav at hk44;refine Zeh rfl (kq:=⟨[2,3,4,8,10,11,34,35,36],[4,8,51,1000000000033],[]⟩) rfl (by simp [Yq, *]; rfl) (by simp [*] <;> rfl) ?_;exact bk hk44
       ·intro J44
        simp only [pq,reduceCtorEq] at J44;by_cases c45:(ZfE (ZcZ x41) p12).getD false=true
        ·replace hr39:=ifN hr39
         refine go ?_;exact jn 1000013 (J44 (p12,p13) hr39)
        ·replace hr39:=ifP hr39
         refine go ?_;obtain ⟨_,hr39⟩:=bC hr39;have n1_u46_0:(p13.length+1) * 24≤140737488355328:=by omega
         have n2_u46_0:p13.length+1≤9223372036854775807:=by omega
         refine go ?_;exact jn 1000013 (J44 (ZfF (ZcZ x41) true p12,p13++[x41]) hr39)
      ·have c40N:=nrm c40
       replace hr39:=ifN hr39
       refine go ?_;obtain ⟨r47,q47,rfl⟩:=ms hr39;refine go ?_;rintro rfl
       refine go ?_;unfold Zfh at q47;obtain ⟨_,ehy48,q47⟩:=bN q47 Zvf;obtain ⟨_,ehy49,q47⟩:=bN q47 Zve;refine go ?_;exact fin q47
theorem w11:Walk tt G [(14,K14.G),(35,K35.G),(36,K36.G),(37,K37.G),(38,K38.G)] (fun _=>[]) Tryz.f11 K11:=by
 refine .of [] false body11 Tryz.ntmps11 fun T hO hT a0 x hr=>⟨by simp,?_⟩
 simp only [Zi] at hT; simp only at hr ⊢; unfold c11;unfold Zep at hr;refine go ?_;obtain ⟨y6,ehy6,hr⟩:=bN hr Zva;refine go ?_;rcases eqT (y6.2=0) with c7 | c7
 ·replace hr:=ifN hr
  refine go ?_;obtain ⟨_,ehy8,hr⟩:=bN hr Zvd;obtain ⟨_,ehy9,hr⟩:=bN hr Zvb;refine go ?_;obtain ⟨_,ehy10,hr⟩:=bN hr ZqW;obtain ⟨_,ehy11,hr⟩:=bN hr Zvg;refine go ?_;exact fin hr
 ·replace hr:=ifP hr
  refine go ?_;exact fin hr
theorem w82:Walk tt G [] (fun _=>[]) Tryz.f82 K82:=by
 refine .of [] true body82 Tryz.ntmps82 fun T hO hT ⟨a0,a1⟩ x hr=>⟨by simp,?_⟩
 simp only [Zi] at hT; simp only at hr ⊢; unfold c82;unfold YQ at hr;refine go ?_;obtain ⟨⟨_,_⟩,hr⟩:=bC hr;have mf5:0≤(IntKind.i64.wrap ((a0.length:Int)+(a1.length:Int))).toNat:=by omega
 have mf6:(IntKind.i64.wrap ((a0.length:Int)+(a1.length:Int))).toNat≤140737488355328:=by omega
 have mf7:(IntKind.i64.wrap ((a0.length:Int)+(a1.length:Int))).toNat≤9223372036854775807:=by omega
 have mf8:0≤IntKind.i64.wrap ((a0.length:Int)+(a1.length:Int)):=by omega
 refine go ?_;obtain ⟨_,hr⟩:=bC hr;have n1_u9_0:a0.length≤140737488355328:=by omega
 have n2_u9_0:a0.length≤9223372036854775807:=by omega
 obtain ⟨_,hr⟩:=bC hr;have n1_u10_0:a0.length+a1.length≤140737488355328:=by omega
 have n2_u10_0:a0.length+a1.length≤9223372036854775807:=by omega
 refine go ?_;exact fin hr
theorem w96:Walk tt G [] (fun _=>[]) Tryz.f96 K96:=by
 refine .of [(3,⟨[0,5,10,11],[8],[]⟩)] true body96 Tryz.ntmps96 fun T hO hT ⟨a0,a1⟩ x hr=>⟨by simp,?_⟩
 simp only [Zi] at hT; simp only at hr ⊢; unfold c96;unfold YR at hr;refine go ?_;obtain ⟨⟨_,_⟩,hr⟩:=bC hr;have mf15:(a1).toNat≤140737488355328:=by omega
 have mf16:(a1).toNat≤9223372036854775807:=by omega
 have mf17:0≤a1:=by omega
 refine go ?_;refine lp 3 (fun (⟨p8,p9⟩:Int×(List Int))=>⟨([.one (.v (.int .u64 a0))]++(und 4++([.one (.ms 8 0 0 (p9.length) 1)]++(und 4++([.one (.v (.int .i64 ((List.replicate ((a1).toNat) 0).length:Int))),.one (.v (.int .i64 p8))]++(und 12))))):List PV),([(8,⟨0,1,Zd .u8 p9,false,true⟩)]:Boxes)⟩) hr ?_;rintro ⟨p8,p9⟩ x23r hr23
 simp only [ZbT] at hr23;unfold b96_1;refine nst ?_;refine go ?_;by_cases c24:p8<((List.replicate ((a1).toNat) 0).length:Int)
 ·have c24N:=nrm c24
  replace hr23:=ifP hr23
  refine go ?_;obtain ⟨_,hr23⟩:=bC hr23;obtain ⟨_,⟨_,_,_⟩,hr23⟩:=bA hr23;refine go ?_;exact bk hr23
 ·have c24N:=nrm c24
  replace hr23:=ifN hr23
  refine go ?_;obtain ⟨r27,q27,rfl⟩:=ms hr23;refine go ?_;rintro rfl
  refine go ?_;unfold Zfd at q27;refine go ?_;exact fin q27
theorem w53:Walk tt G [(82,K82.G),(96,K96.G)] (fun _=>[]) Tryz.f53 K53:=by
 refine .of [] true body53 Tryz.ntmps53 fun T hO hT ⟨a0,a1⟩ x hr=>⟨by simp,?_⟩
 simp only [Zi] at hT; simp only at hr ⊢; unfold c53;unfold Xk at hr;refine go ?_;obtain ⟨_,ehy3,hr⟩:=bN hr Ziz;obtain ⟨_,ehy4,hr⟩:=bN hr Zdn;refine go ?_;exact fin hr
theorem w54:Walk tt G [(82,K82.G)] (fun _=>[]) Tryz.f54 K54:=by
 refine .of [] true body54 Tryz.ntmps54 fun T hO hT ⟨a0,a1⟩ x hr=>⟨by simp,?_⟩
 simp only [Zi] at hT; simp only at hr ⊢; unfold c54;unfold XG at hr;refine go ?_;obtain ⟨_,ehy2,hr⟩:=bN hr Zdn;refine go ?_;exact fin hr
theorem w23:Walk tt G [(53,K53.G),(54,K54.G)] (fun _=>[]) Tryz.f23 K23:=by
 refine .of [] true body23 Tryz.ntmps23 fun T hO hT a0 x hr=>⟨by simp,?_⟩
 simp only [Zi] at hT; simp only at hr ⊢; unfold c23;unfold Zbf at hr;refine go ?_;obtain ⟨_,ehy3,hr⟩:=bN hr ZnQ;obtain ⟨_,ehy4,hr⟩:=bN hr ZiA;refine go ?_;exact fin hr
theorem w45:Walk tt G [(82,K82.G)] (fun _=>[]) Tryz.f45 K45:=by
 refine .of [(3,⟨[3,6,7,8],[900003],[(3,none,900003,0),(3,none,900003,1)]⟩)] true body45 Tryz.ntmps45 fun T hO hT a0 x hr=>⟨by simp,?_⟩
 simp only [Zi] at hT; simp only at hr ⊢; unfold c45;unfold ZbH at hr;refine go ?_;refine lp 3 (fun (⟨p7,p8⟩:Int×(List Int))=>⟨(und 3++([.one (.ms 900003 0 0 (p8.length) 1)]++(und 2++([.one (.slice .no (List.map ZJ a0)),.one (.v (.int .i64 (a0.length:Int))),.one (.v (.int .i64 p7))]++(und 8)))):List PV),([(900003,⟨0,1,Zd .u8 p8,false,true⟩)]:Boxes)⟩) hr ?_;rintro ⟨p7,p8⟩ x18r hr18
 simp only [Zeo] at hr18;unfold b45_1;refine nst ?_;refine go ?_;by_cases c19:p7<(a0.length:Int)
 ·have c19N:=nrm c19
  replace hr18:=ifP hr18
  refine go ?_;obtain ⟨_,⟨_,_,_⟩,hr18⟩:=bI hr18;refine go ?_;obtain ⟨_,ehy21,hr18⟩:=bN hr18 Zdn;refine go ?_;exact bk hr18
 ·have c19N:=nrm c19
  replace hr18:=ifN hr18
  refine go ?_;obtain ⟨r22,q22,rfl⟩:=ms hr18;refine go ?_;rintro rfl
  refine go ?_;unfold Zf5 at q22;refine go ?_;exact fin q22
theorem w83:Walk tt G [] (fun _=>[]) Tryz.f83 K83:=by
 refine .of [] false body83 Tryz.ntmps83 fun T hO hT a0 x hr=>⟨by simp,?_⟩
 simp only [Zi] at hT; simp only at hr ⊢; unfold c83;unfold Zgp at hr;refine go ?_;exact fin hr
theorem w46:Walk tt G [(83,K83.G)] (fun _=>[]) Tryz.f46 K46:=by
 refine .of [] false body46 Tryz.ntmps46 fun T hO hT a0 x hr=>⟨by simp,?_⟩
 simp only [Zi] at hT; simp only at hr ⊢; unfold c46;unfold Zcl at hr;refine go ?_;rcases eqT ((a0.2.1.length:Int)=1) with c4 | c4
 ·have c4N:=nrm c4
  replace hr:=ZiY hr
  obtain ⟨_,hz5,hr⟩:=bs hr;obtain ⟨_,hx6,hz5⟩:=bs hz5;have hx6c:=Zk hx6;obtain ⟨_,ehy7,hz5⟩:=bN hz5 Zvi;obtain rfl:=Option.some.inj hz5;refine go ?_;exact fin hr
 ·have c4N:=nrm c4
  replace hr:=ZiZ hr
  obtain ⟨_,hz8,hr⟩:=bs hr;obtain rfl:=Option.some.inj hz8;refine go ?_;exact fin hr
theorem w15:Walk tt G [(23,K23.G),(45,K45.G),(46,K46.G)] (fun _=>[]) Tryz.f15 K15:=by
 refine .of [(3,⟨[3,11,12,13],[34],[(3,none,34,1)]⟩),(6,⟨[3,5,11,12,13,18,19,20],[5,34],[]⟩),(1000010,⟨[3,5,11,12,13,18,19,20],[5,34],[]⟩),(13,⟨[3,11,12,13,39,40,41],[34],[]⟩)] true body15 Tryz.ntmps15 fun T hO hT a0 x hr=>⟨by simp,?_⟩
 simp only [Zi] at hT; simp only at hr ⊢; unfold c15;unfold ZaG at hr;refine go ?_;refine lp 3 (fun (⟨p64,p65⟩:Int×(List (List Int)))=>⟨(und 3++([.one (.ms 34 0 0 (p65.length) 1)]++(und 7++([.one (.slice .no (List.map YD a0.2)),.one (.v (.int .i64 (a0.2.length:Int))),.one (.v (.int .i64 p64))]++(und 40)))):List PV),([(34,⟨0,1,List.map ZJ p65,false,true⟩)]:Boxes)⟩) hr ?_;rintro ⟨p64,p65⟩ x177r hr177
 simp only [Zct] at hr177;unfold b15_1;refine nst ?_;refine go ?_;by_cases c178:p64<(a0.2.length:Int)
 ·have c178N:=nrm c178
  replace hr177:=ifP hr177
  refine go ?_;obtain ⟨x179,⟨_,_,_⟩,hr177⟩:=bI hr177;refine go ?_;refine lp 6 (fun (⟨p108,p109⟩:Int×(List (List Int)))=>⟨(und 3++([.one (.ms 34 0 0 (p109.length) 1)]++(und 1++([.ptr 5 0 0 0 4]++(und 5++([.one (.slice .no (List.map YD a0.2)),.one (.v (.int .i64 (a0.2.length:Int))),.one (.v (.int .i64 p64))]++(und 4++([.one (.slice .no (List.map Zr x179.2.2.1)),.one (.v (.int .i64 (x179.2.2.1.length:Int))),.one (.v (.int .i64 p108))]++(und 33)))))))):List PV),([(5,⟨0,4,[[.v (.int .u32 x179.1),.slice .no (List.map Zs x179.2.1),.slice .no (List.map Zr x179.2.2.1),.v (.int .u32 x179.2.2.2)]],false,false⟩),(34,⟨0,1,List.map ZJ p109,false,true⟩)]:Boxes)⟩) hr177 ?_;rintro ⟨p108,p109⟩ x191r hr191
  simp only [ZgG] at hr191;unfold b15_2;refine nst ?_;refine go ?_;by_cases c192:p108<(x179.2.2.1.length:Int)
  ·have c192N:=nrm c192
   replace hr191:=ifP hr191
   refine go ?_;obtain ⟨x193,⟨_,_,_⟩,hr191⟩:=bI hr191;refine go ?_;refine ZeA hr191 (.normal) (fun (s:(List (List Int)))=>match s with | p134=>(⟨(und 3++([.one (.ms 34 0 0 (p134.length) 1)]++(und 1++([.ptr 5 0 0 0 4]++(und 5++([.one (.slice .no (List.map YD a0.2)),.one (.v (.int .i64 (a0.2.length:Int))),.one (.v (.int .i64 p64))]++(und 4++([.one (.slice .no (List.map Zr x179.2.2.1)),.one (.v (.int .i64 (x179.2.2.1.length:Int))),.one (.v (.int .i64 p108))]++(und 33)))))))):List PV),([(5,⟨0,4,[[.v (.int .u32 x179.1),.slice .no (List.map Zs x179.2.1),.slice .no (List.map Zr x179.2.2.1),.v (.int .u32 x179.2.2.2)]],false,false⟩),(34,⟨0,1,List.map ZJ p134,false,true⟩)]:Boxes)⟩:ASt)) (fun (s:(List (List Int)))=>match s with | p134=>Zbj p108 p134) ?_ ?_
   ·rintro p134 hk197
    change Zbj p108 p134=_ at hk197
    refine go ?_;refine nst ?_;unfold Zbj at hk197;refine Zeh rfl (kq:=⟨[3,5,11,12,13,18,19,20],[5,34],[]⟩) rfl (by simp [Yq, *]; rfl) (by simp [*] <;> rfl) ?_;exact bk hk197
   ·intro J197
    simp only [pq,reduceCtorEq] at J197;by_cases c198:0<(x193.2.length:Int)
    ·have c198N:=nrm c198
     replace hr191:=ifP hr191
     refine go ?_;obtain ⟨y199,ehy199,hr191⟩:=bN hr191 Zq6;obtain ⟨_,hr191⟩:=bC hr191;have n1_u200_0:(p109.length+1) * 24≤140737488355328:=by omega
     have n2_u200_0:p109.length+1≤9223372036854775807:=by omega
     refine go ?_;exact jn 1000010 (J197 (p109++[y199]) hr191)
    ·have c198N:=nrm c198
     have c198L:¬ 0<x193.2.length:=by omega
     replace hr191:=ifN hr191
     refine go ?_;exact jn 1000010 (J197 p109 hr191)
  ·have c192N:=nrm c192
   replace hr191:=ifN hr191
   refine go ?_;obtain ⟨r201,q201,rfl⟩:=ms hr191;refine go ?_;rintro rfl
   refine go ?_;unfold Zcs at q201;refine go ?_;obtain ⟨y202,ehy202,q201⟩:=bN q201 Zvj;refine go ?_;by_cases c203:y202=true
   ·replace q201:=ifP q201
    refine go ?_;exact bk q201
   ·replace q201:=ifN q201
    refine go ?_;refine lp 13 (fun (⟨p123,p124⟩:Int×(List (List Int)))=>⟨(und 3++([.one (.ms 34 0 0 (p124.length) 1)]++(und 7++([.one (.slice .no (List.map YD a0.2)),.one (.v (.int .i64 (a0.2.length:Int))),.one (.v (.int .i64 p64))]++(und 25++([.one (.slice .no (List.map Zs x179.2.1)),.one (.v (.int .i64 (x179.2.1.length:Int))),.one (.v (.int .i64 p123))]++(und 12)))))):List PV),([(34,⟨0,1,List.map ZJ p124,false,true⟩)]:Boxes)⟩) q201 ?_;rintro ⟨p123,p124⟩ x210r hr210
    simp only [ZgF] at hr210;unfold b15_3;refine nst ?_;refine go ?_;by_cases c211:p123<(x179.2.1.length:Int)
    ·have c211N:=nrm c211
     replace hr210:=ifP hr210
     refine go ?_;obtain ⟨_,⟨_,_,_⟩,hr210⟩:=bI hr210;refine go ?_;obtain ⟨_,ehy213,hr210⟩:=bN hr210 Zq5;obtain ⟨_,hr210⟩:=bC hr210;have n1_u214_0:(p124.length+1) * 24≤140737488355328:=by omega
     have n2_u214_0:p124.length+1≤9223372036854775807:=by omega
     refine go ?_;exact bk hr210
    ·have c211N:=nrm c211
     replace hr210:=ifN hr210
     refine go ?_;obtain ⟨r215,q215,rfl⟩:=ms hr210;refine go ?_;rintro rfl
     refine go ?_;unfold Zcr at q215;refine go ?_;exact bk q215
 ·have c178N:=nrm c178
  replace hr177:=ifN hr177
  refine go ?_;obtain ⟨r216,q216,rfl⟩:=ms hr177;refine go ?_;rintro rfl
  refine go ?_;unfold ZgE at q216;refine go ?_;exact fin q216
theorem w146:Walk tt G [] (fun _=>[]) Tryz.f146 K146:=by
 refine .of [(2,⟨[0,3],[5],[]⟩),(5,⟨[0,3,4],[5],[]⟩)] true body146 Tryz.ntmps146 fun T hO hT a0 x hr=>⟨by simp,?_⟩
 simp only [Zi] at hT; simp only at hr ⊢; unfold c146;unfold Zem at hr;refine go ?_;refine lp 2 (fun (p4:(List Int))=>⟨([.one (.v (.int .u64 a0))]++(und 2++([.one (.ms 5 0 0 (p4.length) 1)]++(und 27))):List PV),([(5,⟨0,1,Zd .u8 p4,false,true⟩)]:Boxes)⟩) hr ?_;rintro p4 x23r hr23
 simp only [Zdi] at hr23;unfold b146_1;refine nst ?_;refine go ?_;rcases eqT ((IntKind.u64.wrap ((IntKind.u64.wrap (a0+(IntKind.u64.wrap ((p4.length:Int)))))+8)).tmod 64=0) with c24 | c24
 ·have c24N:=nrm c24
  replace hr23:=ifN hr23
  refine go ?_;obtain ⟨r25,q25,rfl⟩:=ms hr23;refine go ?_;rintro rfl
  refine go ?_;unfold ZgQ at q25;refine go ?_;refine lp 5 (fun (⟨p12,p13⟩:Int×(List Int))=>⟨([.one (.v (.int .u64 a0))]++(und 2++([.one (.ms 5 0 0 (p13.length) 1),.one (.v (.int .i64 p12))]++(und 26))):List PV),([(5,⟨0,1,Zd .u8 p13,false,true⟩)]:Boxes)⟩) q25 ?_;rintro ⟨p12,p13⟩ x31r hr31
  simp only [Zca] at hr31;unfold b146_2;refine nst ?_;refine go ?_;by_cases c32:0≤p12
  ·replace hr31:=ifP hr31
   refine go ?_;obtain ⟨_,hr31⟩:=bC hr31;obtain ⟨_,hr31⟩:=bC hr31;have n1_u34_0:p13.length+1≤140737488355328:=by omega
   have n2_u34_0:p13.length+1≤9223372036854775807:=by omega
   refine go ?_;exact bk hr31
  ·replace hr31:=ifN hr31
   refine go ?_;obtain ⟨r35,q35,rfl⟩:=ms hr31;refine go ?_;rintro rfl
   refine go ?_;unfold Zjf at q35;refine go ?_;exact fin q35
 ·have c24N:=nrm c24
  replace hr23:=ifP hr23
  refine go ?_;obtain ⟨_,hr23⟩:=bC hr23;have n1_u36_0:p4.length+1≤140737488355328:=by omega
  have n2_u36_0:p4.length+1≤9223372036854775807:=by omega
  refine go ?_;exact bk hr23
theorem w147:Walk tt G [] (fun _=>[]) Tryz.f147 K147:=by
 refine .of [] false body147 Tryz.ntmps147 fun T hO hT _ x hr=>⟨by simp,?_⟩
 simp only [Zi] at hT; simp only at hr ⊢; unfold c147;unfold Lref03_Initial at hr;refine go ?_;exact fin hr
theorem w195:Walk tt G [(227,K227.G)] (fun _=>[]) Tryz.f195 K195:=by
 refine .of [] false body195 Tryz.ntmps195 fun T hO hT ⟨a0,a1⟩ x hr=>⟨by simp,?_⟩
 simp only [Zi] at hT; simp only at hr ⊢; unfold c195;unfold Xs at hr;refine go ?_;obtain ⟨_,ehy2,hr⟩:=bN hr ZoG;refine go ?_;exact fin hr
theorem w193:Walk tt G [(195,K195.G)] (fun _=>[]) Tryz.f193 K193:=by
 refine .of [(3,⟨[1,2,3,4],[1,2,3],[]⟩),(7,⟨[2,3,5],[2,3],[]⟩)] false body193 Tryz.ntmps193 fun T hO hT a0 x hr=>⟨by simp,?_⟩
 simp only [Zi] at hT; simp only at hr ⊢; unfold c193;unfold Zbq at hr;refine go ?_;refine lp 3 (fun (⟨p12,p13⟩:Int×(Arr 64))=>⟨(und 1++([.ptr 1 0 0 0 64,.ptr 2 0 0 0 64,.ptr 3 0 0 0 64,.one (.v (.int .i64 p12))]++(und 92)):List PV),([(1,⟨0,64,[arC .u8 a0],false,false⟩),(2,⟨0,64,[arC .u32 (zA 64)],false,false⟩),(3,⟨0,64,[arC .u32 p13],false,false⟩)]:Boxes)⟩) hr ?_;rintro ⟨p12,p13⟩ x80r hr80
 simp only [Zbg] at hr80;unfold b193_1;refine nst ?_;refine go ?_;by_cases c81:p12<16
 ·replace hr80:=ifP hr80
  refine go ?_;obtain ⟨j82,⟨_,_,_⟩,hr80⟩:=bA hr80;have j82d:j82≤63:=by omega
  obtain ⟨j85,⟨_,_,_⟩,hr80⟩:=bA hr80;have j85d:j85≤63:=by omega
  obtain ⟨j88,⟨_,_,_⟩,hr80⟩:=bA hr80;have j88d:j88≤63:=by omega
  obtain ⟨j91,⟨_,_,_⟩,hr80⟩:=bA hr80;have j91d:j91≤63:=by omega
  obtain ⟨j94,⟨_,_,_⟩,hr80⟩:=bA hr80;have j94d:j94≤63:=by omega
  refine go ?_;exact bk hr80
 ·replace hr80:=ifN hr80
  refine go ?_;obtain ⟨r96,q96,rfl⟩:=ms hr80;refine go ?_;rintro rfl
  refine go ?_;unfold Zcm at q96;refine go ?_;refine lp 7 (fun (⟨p38,p39⟩:Int×(Arr 64))=>⟨(und 2++([.ptr 2 0 0 0 64,.ptr 3 0 0 0 64]++(und 1++([.one (.v (.int .i64 p38))]++(und 91)))):List PV),([(2,⟨0,64,[arC .u32 (zA 64)],false,false⟩),(3,⟨0,64,[arC .u32 p39],false,false⟩)]:Boxes)⟩) q96 ?_;rintro ⟨p38,p39⟩ x126r hr126
  simp only [Lref03_schedule_s2] at hr126;unfold b193_2;refine nst ?_;refine go ?_;by_cases c127:p38<64
  ·replace hr126:=ifP hr126
   refine go ?_;obtain ⟨j128,⟨_,_,_⟩,hr126⟩:=bA hr126;have j128d:j128≤63:=by omega
   obtain ⟨_,ehy131,hr126⟩:=bN hr126 ZdK;have j128d:j128≤63:=by omega
   obtain ⟨_,ehy134,hr126⟩:=bN hr126 ZdK;have j128d:j128≤63:=by omega
   refine go ?_;obtain ⟨j137,⟨_,_,_⟩,hr126⟩:=bA hr126;have j137d:j137≤63:=by omega
   obtain ⟨_,ehy140,hr126⟩:=bN hr126 ZdK;have j137d:j137≤63:=by omega
   obtain ⟨_,ehy143,hr126⟩:=bN hr126 ZdK;have j137d:j137≤63:=by omega
   refine go ?_;obtain ⟨j146,⟨_,_,_⟩,hr126⟩:=bA hr126;have j146d:j146≤63:=by omega
   obtain ⟨j149,⟨_,_,_⟩,hr126⟩:=bA hr126;have j149d:j149≤63:=by omega
   obtain ⟨j152,⟨_,_,_⟩,hr126⟩:=bA hr126;have j152d:j152≤63:=by omega
   refine go ?_;exact bk hr126
  ·replace hr126:=ifN hr126
   refine go ?_;obtain ⟨r154,q154,rfl⟩:=ms hr126;refine go ?_;rintro rfl
   refine go ?_;unfold ZgC at q154;refine go ?_;exact fin q154
theorem w194:Walk tt G [] (fun _=>[]) Tryz.f194 K194:=by
 refine .of [] false body194 Tryz.ntmps194 fun T hO hT _ x hr=>⟨by simp,?_⟩
 simp only [Zi] at hT; simp only at hr ⊢; unfold c194;unfold Lref03_constants at hr;refine go ?_;exact fin hr
end Go.Proofs.YthpkpciceodioaaGreatDoor
