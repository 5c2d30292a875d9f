import Derived.Test.YthpkpciceodioaaGreatDoorLfK
import Derived.Test.YthpkpciceodioaaGreatDoorCode
import Derived.Test.YthpkpciceodioaaGreatDoorBl
namespace Go.Proofs.YthpkpciceodioaaGreatDoor
open Go.RowKit
open Go.Av
open Go.Lc
set_option maxRecDepth 100000
set_option linter.unusedSimpArgs false
set_option linter.unusedVariables false
set_option maxHeartbeats 4000000
theorem w153 : Walk tt G [] (fun _=>[]) Tryz.f153 K153:=by
 refine .of [(3,⟨[3,6,7,8],[14],[(3,none,14,1)]⟩)] true body153 Tryz.ntmps153 fun T hO hT a0 x hr=>⟨by simp,?_⟩
 simp only [Zq] at hT; simp only at hr ⊢; unfold c153;unfold ZeA at hr;refine go ?_;refine lp 3 (fun (⟨p7,p8⟩ : Int×(List Int))=>⟨(und 3++([.one (.ms 14 0 0 (p8.length) 1)]++(und 2++([.one (.slice .no (List.map YF a0)),.one (.v (.int .i64 (a0.length : Int))),.one (.v (.int .i64 p7))]++(und 8)))) : List PV),([(14,⟨0,1,Ze .u8 p8,false,true⟩)] : Boxes)⟩) hr ?_;rintro ⟨p7,p8⟩ x18r hr18
 simp only [Zdq] at hr18;unfold b153_1;refine nst ?_;refine go ?_;by_cases c19 : p7 < (a0.length : Int)
 ·have c19N:=nrm c19
  replace hr18:=ifP hr18
  refine go ?_;obtain ⟨x20,⟨_,_,_⟩,hr18⟩:=bI hr18;refine go ?_;obtain ⟨_,hr18⟩:=bC hr18;have n1_u21_0 : p8.length + x20.length≤140737488355328:=by omega
  have n2_u21_0 : p8.length + x20.length≤9223372036854775807:=by omega
  refine go ?_;exact bk hr18
 ·have c19N:=nrm c19
  replace hr18:=ifN hr18
  refine go ?_;obtain ⟨r22,q22,rfl⟩:=ms hr18;refine go ?_;rintro rfl
  refine go ?_;unfold Zib at q22;refine go ?_;exact fin q22
theorem w154 : Walk tt G [] (fun _=>[]) Tryz.f154 K154:=by
 refine .of [(5,⟨[0,4,18],[15],[]⟩)] true body154 Tryz.ntmps154 fun T hO hT a0 x hr=>⟨by simp,?_⟩
 simp only [Zq] at hT; simp only at hr ⊢; unfold c154;unfold ZeB at hr;refine go ?_;obtain ⟨⟨_,_,_⟩,hr⟩:=bC hr;have mf16 : (IntKind.u64.wrap (1 + ((IntKind.u64.wrap (64 - ((IntKind.u64.wrap (a0 + 9)).tmod 64))).tmod 64))).toNat≤(IntKind.u64.wrap (9 + ((IntKind.u64.wrap (64 - ((IntKind.u64.wrap (a0 + 9)).tmod 64))).tmod 64))).toNat:=by omega
 have mf17 : (IntKind.u64.wrap (9 + ((IntKind.u64.wrap (64 - ((IntKind.u64.wrap (a0 + 9)).tmod 64))).tmod 64))).toNat≤140737488355328:=by omega
 have mf18 : (IntKind.u64.wrap (9 + ((IntKind.u64.wrap (64 - ((IntKind.u64.wrap (a0 + 9)).tmod 64))).tmod 64))).toNat≤9223372036854775807:=by omega
 have mf19 : 0≤IntKind.u64.wrap (9 + ((IntKind.u64.wrap (64 - ((IntKind.u64.wrap (a0 + 9)).tmod 64))).tmod 64)):=by omega
 refine go ?_;obtain ⟨u20_0,hr⟩:=bC hr;have su20_0 : 0 < IntKind.u64.wrap (1 + ((IntKind.u64.wrap (64 - ((IntKind.u64.wrap (a0 + 9)).tmod 64))).tmod 64)):=by have h:=u20_0; rw [List.length_replicate] at h; omega
 refine go ?_;refine lp 5 (fun (⟨p9,p10⟩ : Int×(List Int))=>⟨([.one (.v (.int .u64 a0))]++(und 3++([.one (.ms 15 0 0 (p10.length) 1)]++(und 13++([.one (.v (.int .i64 p9))]++(und 14))))) : List PV),([(15,⟨0,1,Ze .u8 p10,false,true⟩)] : Boxes)⟩) hr ?_;rintro ⟨p9,p10⟩ x26r hr26
 simp only [Zdr] at hr26;unfold b154_1;refine nst ?_;refine go ?_;by_cases c27 : p9 < 8
 ·replace hr26:=ifP hr26
  refine go ?_;obtain ⟨_,hr26⟩:=bC hr26;obtain ⟨_,hr26⟩:=bC hr26;have n1_u29_0 : p10.length + 1≤140737488355328:=by omega
  have n2_u29_0 : p10.length + 1≤9223372036854775807:=by omega
  refine go ?_;exact bk hr26
 ·replace hr26:=ifN hr26
  refine go ?_;obtain ⟨r30,q30,rfl⟩:=ms hr26;refine go ?_;rintro rfl
  refine go ?_;unfold Zic at q30;refine go ?_;exact fin q30
theorem w198 : Walk tt G [(227,K227.G)] (fun _=>[]) Tryz.f198 K198:=by
 refine .of [] false body198 Tryz.ntmps198 fun T hO hT ⟨a0,a1⟩ x hr=>⟨by simp,?_⟩
 simp only [Zq] at hT; simp only at hr ⊢; unfold c198;unfold XI at hr;refine go ?_;obtain ⟨_,ehy2,hr⟩:=bN hr Zl9;refine go ?_;exact fin hr
theorem w197 : Walk tt G [(198,K198.G)] (fun _=>[]) Tryz.f197 K197:=by
 refine .of [(3,⟨[1,2,3,9],[1,2,3],[]⟩),(6,⟨[1,2,3,4,9,12],[1,2,3],[]⟩),(12,⟨[2,3,6],[2,3],[]⟩)] false body197 Tryz.ntmps197 fun T hO hT a0 x hr=>⟨by simp,?_⟩
 simp only [Zq] at hT; simp only at hr ⊢; unfold c197;unfold ZbC at hr;refine go ?_;refine lp 3 (fun (⟨p20,p21⟩ : Int×(Arr 64))=>⟨(und 1++([.ptr 1 0 0 0 64,.ptr 2 0 0 0 64,.ptr 3 0 0 0 64]++(und 5++([.one (.v (.int .i64 p20))]++(und 75)))) : List PV),([(1,⟨0,64,[arC .u8 a0],false,false⟩),(2,⟨0,64,[arC .u32 (zA 64)],false,false⟩),(3,⟨0,64,[arC .u32 p21],false,false⟩)] : Boxes)⟩) hr ?_;rintro ⟨p20,p21⟩ x106r hr106
 simp only [Zbr] at hr106;unfold b197_1;refine nst ?_;refine go ?_;by_cases c107 : p20 < 16
 ·replace hr106:=ifP hr106
  refine go ?_;refine lp 6 (fun (⟨p77,p78⟩ : Int×(Arr 64))=>⟨(und 1++([.ptr 1 0 0 0 64,.ptr 2 0 0 0 64,.ptr 3 0 0 0 64,.one (.v (.int .i64 p20))]++(und 4++([.one (.v (.int .i64 p20))]++(und 2++([.one (.v (.int .i64 p77))]++(und 72)))))) : List PV),([(1,⟨0,64,[arC .u8 a0],false,false⟩),(2,⟨0,64,[arC .u32 (zA 64)],false,false⟩),(3,⟨0,64,[arC .u32 p78],false,false⟩)] : Boxes)⟩) hr106 ?_;rintro ⟨p77,p78⟩ x118r hr118
  simp only [Zaa] at hr118;unfold b197_2;refine nst ?_;refine go ?_;by_cases c119 : p77 < 4
  ·replace hr118:=ifP hr118
   refine go ?_;obtain ⟨j120,⟨_,_,_⟩,hr118⟩:=bA hr118;have j120d : j120≤63:=by omega
   obtain ⟨j123,⟨_,_,_⟩,hr118⟩:=bA hr118;have j123d : j123≤63:=by omega
   have j120d : j120≤63:=by omega
   refine go ?_;exact bk hr118
  ·replace hr118:=ifN hr118
   refine go ?_;obtain ⟨r127,q127,rfl⟩:=ms hr118;refine go ?_;rintro rfl
   refine go ?_;unfold ZdV at q127;refine go ?_;exact bk q127
 ·replace hr106:=ifN hr106
  refine go ?_;obtain ⟨r128,q128,rfl⟩:=ms hr106;refine go ?_;rintro rfl
  refine go ?_;unfold Zck at q128;refine go ?_;refine lp 12 (fun (⟨p51,p52⟩ : Int×(Arr 64))=>⟨(und 2++([.ptr 2 0 0 0 64,.ptr 3 0 0 0 64]++(und 2++([.one (.v (.int .i64 p51))]++(und 78)))) : List PV),([(2,⟨0,64,[arC .u32 (zA 64)],false,false⟩),(3,⟨0,64,[arC .u32 p52],false,false⟩)] : Boxes)⟩) q128 ?_;rintro ⟨p51,p52⟩ x158r hr158
  simp only [Lsha_schedule_s2] at hr158;unfold b197_3;refine nst ?_;refine go ?_;by_cases c159 : p51 < 64
  ·replace hr158:=ifP hr158
   refine go ?_;obtain ⟨j160,⟨_,_,_⟩,hr158⟩:=bA hr158;have j160d : j160≤63:=by omega
   obtain ⟨_,ehy163,hr158⟩:=bN hr158 ZcG;have j160d : j160≤63:=by omega
   obtain ⟨_,ehy166,hr158⟩:=bN hr158 ZcG;have j160d : j160≤63:=by omega
   refine go ?_;obtain ⟨j169,⟨_,_,_⟩,hr158⟩:=bA hr158;have j169d : j169≤63:=by omega
   obtain ⟨_,ehy172,hr158⟩:=bN hr158 ZcG;have j169d : j169≤63:=by omega
   obtain ⟨_,ehy175,hr158⟩:=bN hr158 ZcG;have j169d : j169≤63:=by omega
   refine go ?_;obtain ⟨j178,⟨_,_,_⟩,hr158⟩:=bA hr158;have j178d : j178≤63:=by omega
   obtain ⟨j181,⟨_,_,_⟩,hr158⟩:=bA hr158;have j181d : j181≤63:=by omega
   obtain ⟨j184,⟨_,_,_⟩,hr158⟩:=bA hr158;have j184d : j184≤63:=by omega
   refine go ?_;exact bk hr158
  ·replace hr158:=ifN hr158
   refine go ?_;obtain ⟨r186,q186,rfl⟩:=ms hr158;refine go ?_;rintro rfl
   refine go ?_;unfold ZfN at q186;refine go ?_;exact fin q186
theorem w155 : Walk tt G [(197,K197.G),(198,K198.G)] (fun _=>[]) Tryz.f155 K155:=by
 refine .of [(5,⟨[2,4,5,6,7,8,9,10,11,12,13,35],[2,4,5],[]⟩)] false body155 Tryz.ntmps155 fun T hO hT ⟨a0,a1⟩ x hr=>⟨by simp,?_⟩
 simp only [Zq] at hT; simp only at hr ⊢; unfold c155;unfold ZbD at hr;refine go ?_;obtain ⟨y47,ehy47,hr⟩:=bN hr ZqJ;refine go ?_;refine lp 5 (fun (⟨p24,p25,p26,p27,p28,p29,p30,p31,p32⟩ : Int×Int×Int×Int×Int×Int×Int×Int×Int)=>⟨(und 2++([.ptr 2 0 0 0 8]++(und 1++([.ptr 4 0 0 0 8,.ptr 5 0 0 0 64,.one (.v (.int .u32 p24)),.one (.v (.int .u32 p25)),.one (.v (.int .u32 p26)),.one (.v (.int .u32 p27)),.one (.v (.int .u32 p28)),.one (.v (.int .u32 p29)),.one (.v (.int .u32 p30)),.one (.v (.int .u32 p31))]++(und 21++([.one (.v (.int .i64 p32))]++(und 95)))))) : List PV),([(2,⟨0,8,[arC .u32 a0],false,false⟩),(4,⟨0,8,[arC .u32 (zA 8)],false,false⟩),(5,⟨0,64,[arC .u32 y47],false,false⟩)] : Boxes)⟩) hr ?_;rintro ⟨p24,p25,p26,p27,p28,p29,p30,p31,p32⟩ x78r hr78
 simp only [Zbs] at hr78;unfold b155_1;refine nst ?_;refine go ?_;by_cases c79 : p32 < 64
 ·replace hr78:=ifP hr78
  refine go ?_;obtain ⟨_,ehy80,hr78⟩:=bN hr78 ZcG;obtain ⟨_,ehy81,hr78⟩:=bN hr78 ZcG;obtain ⟨_,ehy82,hr78⟩:=bN hr78 ZcG;obtain ⟨j83,⟨_,_,_⟩,hr78⟩:=bA hr78;have j83d : j83≤63:=by omega
  have j83d : j83≤63:=by omega
  refine go ?_;obtain ⟨_,ehy88,hr78⟩:=bN hr78 ZcG;obtain ⟨_,ehy89,hr78⟩:=bN hr78 ZcG;obtain ⟨_,ehy90,hr78⟩:=bN hr78 ZcG;refine go ?_;exact bk hr78
 ·replace hr78:=ifN hr78
  refine go ?_;obtain ⟨r91,q91,rfl⟩:=ms hr78;refine go ?_;rintro rfl
  refine go ?_;unfold ZfO at q91;refine go ?_;exact fin q91
theorem w105 : Walk tt G [(153,K153.G),(154,K154.G),(155,K155.G)] (fun _=>[]) Tryz.f105 K105:=by
 refine .of [(4,⟨[2,3,4,18,19],[2,4,14],[]⟩),(10,⟨[2,4,6,31],[2,4,6],[]⟩)] false body105 Tryz.ntmps105 fun T hO hT a0 x hr=>⟨by simp,?_⟩
 simp only [Zq] at hT; simp only at hr ⊢; unfold c105;unfold ZdW at hr;refine Za8 ?_;obtain ⟨_,ehy34,hr⟩:=bN hr ZqI;obtain ⟨y35,ehy35,hr⟩:=bN hr ZqH;refine Za8 ?_;refine lp 4 (fun (⟨p11,p12⟩ : Int×(Arr 8))=>⟨(und 2++([.ptr 2 0 0 0 32,.one (.ms 14 0 0 (y35.length) 1),.ptr 4 0 0 0 8]++(und 13++([.one (.v (.int .i64 (IntKind.i64.wrap (((y35.length : Int)).tdiv 64)))),.one (.v (.int .i64 p11))]++(und 28)))) : List PV),([(2,⟨0,32,[arC .u8 (zA 32)],false,false⟩),(4,⟨0,8,[arC .u32 p12],false,false⟩),(14,⟨0,1,Ze .u8 y35,false,true⟩)] : Boxes)⟩) hr ?_;rintro ⟨p11,p12⟩ x44r hr44
 simp only [Zdt] at hr44;unfold b105_1;refine nst ?_;refine Za8 ?_;by_cases c45 : p11 < IntKind.i64.wrap (((y35.length : Int)).tdiv 64)
 ·have c45N:=nrm c45
  replace hr44:=ifP hr44
  refine Za8 ?_;obtain ⟨⟨_,_⟩,hr44⟩:=bC hr44;have sf47 : (IntKind.i64.wrap (64 * p11)).toNat≤y35.length:=by omega
  obtain ⟨_,hr44⟩:=bC hr44;have fp49:=ZnC (k:=.u8) (l:=y35) (o:=(IntKind.i64.wrap (64 * p11)).toNat) (n:=64) (by omega);have fp49l : (IntKind.i64.wrap (64 * p11)).toNat + 64≤y35.length:=by omega
  obtain ⟨_,ehy50,hr44⟩:=bN hr44 ZqK;refine Za8 ?_;exact bk hr44
 ·have c45N:=nrm c45
  replace hr44:=ifN hr44
  refine Za8 ?_;obtain ⟨r51,q51,rfl⟩:=ms hr44;refine Za8 ?_;rintro rfl
  refine Za8 ?_;unfold ZeM at q51;refine Za8 ?_;refine lp 10 (fun (⟨p23,p24⟩ : Int×(Arr 32))=>⟨(und 2++([.ptr 2 0 0 0 32]++(und 1++([.ptr 4 0 0 0 8]++(und 1++([.ptr 6 0 0 0 32]++(und 24++([.one (.v (.int .i64 p23))]++(und 16)))))))) : List PV),([(2,⟨0,32,[arC .u8 (zA 32)],false,false⟩),(4,⟨0,8,[arC .u32 p12],false,false⟩),(6,⟨0,32,[arC .u8 p24],false,false⟩)] : Boxes)⟩) q51 ?_;rintro ⟨p23,p24⟩ x61r hr61
  simp only [Zds] at hr61;unfold b105_2;refine nst ?_;refine Za8 ?_;by_cases c62 : p23 < 32
  ·replace hr61:=ifP hr61
   refine Za8 ?_;obtain ⟨j63,⟨_,_,_⟩,hr61⟩:=bA hr61;have j63d : j63≤7:=by omega
   obtain ⟨_,hr61⟩:=bC hr61;obtain ⟨j67,⟨_,_,_⟩,hr61⟩:=bA hr61;have j67d : j67≤31:=by omega
   refine Za8 ?_;exact bk hr61
  ·replace hr61:=ifN hr61
   refine Za8 ?_;obtain ⟨r69,q69,rfl⟩:=ms hr61;refine Za8 ?_;rintro rfl
   refine Za8 ?_;unfold Zid at q69;refine Za8 ?_;exact fin q69
theorem w65 : Walk tt G [(105,K105.G)] (fun _=>[]) Tryz.f65 K65:=by
 refine .of [] false body65 Tryz.ntmps65 fun T hO hT a0 x hr=>⟨by simp,?_⟩
 simp only [Zq] at hT; simp only at hr ⊢; unfold c65;unfold ZcC at hr;refine go ?_;obtain ⟨_,ehy3,hr⟩:=bN hr Zma;refine go ?_;obtain ⟨_,ehy4,hr⟩:=bN hr Zma;refine go ?_;exact fin hr
theorem w97 : Walk tt G [] (fun _=>[]) Tryz.f97 K97:=by
 refine .of [] true body97 Tryz.ntmps97 fun T hO hT ⟨a0,a1⟩ x hr=>⟨by simp,?_⟩
 simp only [Zq] at hT; simp only at hr ⊢; unfold c97;unfold ZaX at hr;refine go ?_;obtain ⟨⟨_,_⟩,hr⟩:=bC hr;have mf5 : 0≤(IntKind.i64.wrap ((a0.length : Int) + (a1.length : Int))).toNat:=by omega
 have mf6 : (IntKind.i64.wrap ((a0.length : Int) + (a1.length : Int))).toNat≤140737488355328:=by omega
 have mf7 : (IntKind.i64.wrap ((a0.length : Int) + (a1.length : Int))).toNat≤9223372036854775807:=by omega
 have mf8 : 0≤IntKind.i64.wrap ((a0.length : Int) + (a1.length : Int)):=by omega
 refine go ?_;obtain ⟨_,hr⟩:=bC hr;have n1_u9_0 : a0.length≤140737488355328:=by omega
 have n2_u9_0 : a0.length≤9223372036854775807:=by omega
 refine go ?_;obtain ⟨_,hr⟩:=bC hr;have n1_u10_0 : a0.length + a1.length≤140737488355328:=by omega
 have n2_u10_0 : a0.length + a1.length≤9223372036854775807:=by omega
 refine go ?_;exact fin hr
theorem w119 : Walk tt G [] (fun _=>[]) Tryz.f119 K119:=by
 refine .of [(3,⟨[0,5,9,10],[8],[]⟩)] true body119 Tryz.ntmps119 fun T hO hT ⟨a0,a1⟩ x hr=>⟨by simp,?_⟩
 simp only [Zq] at hT; simp only at hr ⊢; unfold c119;unfold ZaY at hr;refine go ?_;obtain ⟨⟨_,_⟩,hr⟩:=bC hr;have mf15 : (a1).toNat≤140737488355328:=by omega
 have mf16 : (a1).toNat≤9223372036854775807:=by omega
 have mf17 : 0≤a1:=by omega
 refine go ?_;refine lp 3 (fun (⟨p8,p9⟩ : Int×(List Int))=>⟨([.one (.v (.int .u64 a0))]++(und 4++([.one (.ms 8 0 0 (p9.length) 1)]++(und 3++([.one (.v (.int .i64 a1)),.one (.v (.int .i64 p8))]++(und 12))))) : List PV),([(8,⟨0,1,Ze .u8 p9,false,true⟩)] : Boxes)⟩) hr ?_;rintro ⟨p8,p9⟩ x23r hr23
 simp only [Zbp] at hr23;unfold b119_1;refine nst ?_;refine go ?_;by_cases c24 : p8 < a1
 ·replace hr23:=ifP hr23
  refine go ?_;obtain ⟨_,hr23⟩:=bC hr23;obtain ⟨_,⟨_,_,_⟩,hr23⟩:=bA hr23;refine go ?_;exact bk hr23
 ·replace hr23:=ifN hr23
  refine go ?_;obtain ⟨r27,q27,rfl⟩:=ms hr23;refine go ?_;rintro rfl
  refine go ?_;unfold ZdT at q27;refine go ?_;exact fin q27
theorem w80 : Walk tt G [(97,K97.G),(119,K119.G)] (fun _=>[]) Tryz.f80 K80:=by
 refine .of [] true body80 Tryz.ntmps80 fun T hO hT ⟨a0,a1⟩ x hr=>⟨by simp,?_⟩
 simp only [Zq] at hT; simp only at hr ⊢; unfold c80;unfold Xg at hr;refine go ?_;obtain ⟨_,ehy3,hr⟩:=bN hr ZqL;obtain ⟨_,ehy4,hr⟩:=bN hr Zoo;refine go ?_;exact fin hr
theorem w81 : Walk tt G [(97,K97.G)] (fun _=>[]) Tryz.f81 K81:=by
 refine .of [] true body81 Tryz.ntmps81 fun T hO hT ⟨a0,a1⟩ x hr=>⟨by simp,?_⟩
 simp only [Zq] at hT; simp only at hr ⊢; unfold c81;unfold Xu at hr;refine go ?_;obtain ⟨_,ehy2,hr⟩:=bN hr Zoo;refine go ?_;exact fin hr
theorem w67 : Walk tt G [(80,K80.G),(81,K81.G)] (fun _=>[]) Tryz.f67 K67:=by
 refine .of [] true body67 Tryz.ntmps67 fun T hO hT a0 x hr=>⟨by simp,?_⟩
 simp only [Zq] at hT; simp only at hr ⊢; unfold c67;unfold X2 at hr;refine go ?_;obtain ⟨_,ehy7,hr⟩:=bN hr Zja;refine go ?_;obtain ⟨_,ehy8,hr⟩:=bN hr Zop;refine go ?_;obtain ⟨_,ehy9,hr⟩:=bN hr Zop;refine go ?_;obtain ⟨_,ehy10,hr⟩:=bN hr Zja;refine go ?_;obtain ⟨_,ehy11,hr⟩:=bN hr Zja;refine go ?_;obtain ⟨_,ehy12,hr⟩:=bN hr Zja;refine go ?_;exact fin hr
theorem w37 : Walk tt G [(65,K65.G),(67,K67.G)] (fun _=>[]) Tryz.f37 K37:=by
 refine .of [] false body37 Tryz.ntmps37 fun T hO hT a0 x hr=>⟨by simp,?_⟩
 simp only [Zq] at hT; simp only at hr ⊢; unfold c37;unfold ZbZ at hr;refine go ?_;obtain ⟨_,ehy3,hr⟩:=bN hr ZrR;obtain ⟨_,ehy4,hr⟩:=bN hr ZrQ;refine go ?_;exact fin hr
theorem ZrT (c : Nat) (w : World) : Calls Tryz.prog 42 #[.slice none 0 c] w fun e w'=>e = .returned (.slice none 0 0)∧w' = w:=by
 have h1 : ∀ w,(binOp .eql 32 (.slice none 0 c) (.slice none 0 0)).run Tryz.prog w = .ok (.bool true) w:=fun w=>by
  have h : ∀ d : Nat,(Op.equalIn (d + 1) 32 (.slice none 0 c) (.slice none 0 0)).run Tryz.prog w = .ok true w:=fun d=>by
   simp [Op.equalIn,run_underlying Tryz.underlying32]
  have h' : (Op.equal 32 (.slice none 0 c) (.slice none 0 0)).run Tryz.prog w = .ok true w:=h 9999;simp [binOp,h']
 go_enter Tryz.func42,Tryz.ntmps42
 go_wp2
 go_ret
 exact ⟨rfl,rfl⟩
theorem ZqR (b : Addr) (c : Nat) (w : World) : Calls Tryz.prog 42 #[.slice (some b) 0 c] w fun e w'=>e = .returned (.slice (some ⟨w.heap.size,0,none⟩) 0 0)∧w' = w.alloc (.cells #[] 5):=by
 have h1 : ∀ w,(binOp .eql 32 (.slice (some b) 0 c) (.slice none 0 0)).run Tryz.prog w = .ok (.bool false) w:=fun w=>by
  have h : (Op.equal 32 (.slice (some b) 0 c) (.slice none 0 0)).run Tryz.prog w = .ok false w:=ZiC 9999 Tryz.underlying32;simp [binOp,h]
 have h2 : ∀ w,(Instr.buildSlice 32 0 #[]).run Tryz.prog w = .ok (.slice (some ⟨w.heap.size,0,none⟩) 0 0) (w.alloc (.cells #[] 5)):=fun w=>by kernel_rfl
 have hi0 : (Tryz.prog.info? 5).isSome = true:=by kernel_rfl
 obtain ⟨i,hi⟩:=Option.isSome_iff_exists.1 hi0;have h3 : ∀ (w : World) (x : Option Addr) ty,(Builtin.append_ #[32,32] ty #[.slice x 0 0,.slice (some b) 0 c]).run Tryz.prog w = .ok (.slice x 0 0) w:=fun w x ty=>ZiQ w 32 ty 5 i Tryz.underlying32 hi x (some b) 0 0 c (Nat.le_refl _)
 clear hi hi0
 go_enter Tryz.func42,Tryz.ntmps42
 go_wp2
 go_ret
 exact ⟨rfl,rfl⟩
def kp42 : Keep:=fun i=>⟨[],[],[]⟩
theorem w42 {T : Tab} (a0 : (List Int)) (hne : a0≠[]) (x : (List Int)) (hr : Xa a0 = some x) : ∃ kp fl n,Y8 tt T G kp fl n Tryz.f42 [.one (.slice .no (Ze .u8 a0))] = some (.one (.own 1 (Ze .u8 a0)),[]):=by
 refine fnE (kp:=kp42) (w:=true) body42 (by simp) ?_;unfold c42;rw [Tryz.ntmps42];unfold Xa at hr;obtain ⟨_,u1,hr⟩:=bs hr;have u2:=ZA u1;have n1 : a0.length≤140737488355328:=by omega
 have n2 : a0.length≤9223372036854775807:=by omega
 have ne : Ze .u8 a0≠[]:=fun h=>hne (by simpa [Ze] using h)
 refine Zd rfl (by simp; rfl) ?_
 first
 | (refine Zy ?_; refine Zd rfl (by simp [hne,ne]; rfl) ?_)
 | refine Zd rfl (by simp [hne,ne]; rfl) ?_
 refine Zl (by simp [bV]) ?_;refine Zz ?_;refine Zd rfl (by simp [n1,n2]; rfl) ?_;refine Zbm ?_;simp [Zaj]
theorem v42 : Zi Tryz.prog G 42 G42:=by
 refine ZmM (e:=1) (t:=5) (N:=0) (rows:=fun l : (List Int)=>Ze .u8 l) Tryz.func42 (by kernel_rfl) (by kernel_rfl) G42 (fun ps r hF=>?_) rfl (fun l hl r hF=>?_) (fun x c w=>?_)
 ·obtain ⟨x,rfl,h⟩:=ZcS hF
  obtain ⟨y,hy,rfl⟩:=Option.map_eq_some_iff.1 h;unfold Xa at hy;obtain ⟨_,u1,hy⟩:=bs hy;obtain rfl:=Option.some.inj hy;exact ⟨x,rfl,rfl⟩
 ·refine Zjj (T:=Av.tab []) mixed htt (Av.tab_ok trivial) Tryz.func42 body42 (by kernel_rfl) fun ps r' ho hF'=>?_
  split at hF'
  ·rename_i hps
   subst hps;injection hF' with hF';subst hF';obtain ⟨x,hx,h⟩:=ZcS hF;obtain rfl:=E42i l x hx;obtain ⟨y,hy,rfl⟩:=Option.map_eq_some_iff.1 h;have hy' := hy;unfold Xa at hy';obtain ⟨_,u1,hy'⟩:=bs hy';obtain rfl:=Option.some.inj hy';exact w42 l hl _ hy
  ·cases hF'
 ·cases x with
  | none=>exact (ZrT c w).mono fun e w' h=>⟨none,h.1,.inl h.2⟩
  | some b=>exact (ZqR b c w).mono fun e w' h=>⟨_,h.1,.inr h.2⟩
theorem w191 : Walk tt G [] (fun _=>[]) Tryz.f191 K191:=by
 refine .of [] false body191 Tryz.ntmps191 fun T hO hT ⟨a0,a1⟩ x hr=>⟨by simp,?_⟩
 simp only [Zq] at hT; simp only at hr ⊢; unfold c191;unfold Zcm at hr;refine go ?_;obtain ⟨j3,⟨_,_,_⟩,hr⟩:=bA hr;have j3d : j3≤3:=by omega
 obtain ⟨_,hr⟩:=bC hr;refine go ?_;exact fin hr
end Go.Proofs.YthpkpciceodioaaGreatDoor
