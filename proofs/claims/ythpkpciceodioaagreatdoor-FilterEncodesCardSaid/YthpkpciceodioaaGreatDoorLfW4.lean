import Derived.Test.YthpkpciceodioaaGreatDoorLfK
import Derived.Test.YthpkpciceodioaaGreatDoorCode
import Derived.Test.YthpkpciceodioaaGreatDoorBl
namespace Go.Proofs.YthpkpciceodioaaGreatDoor
open Go.RowKit
open Go.Av
open Go.Lc
set_option maxRecDepth 100000
set_option linter.unusedSimpArgs false
set_option linter.unusedVariables false
set_option maxHeartbeats 4000000
theorem w198 : Walk tt G [(227,K227.G)] (fun _=>[]) Tryz.f198 K198:=by
 refine .of [] false body198 Tryz.ntmps198 fun T hO hT ⟨a0,a1⟩ x hr=>⟨by simp,?_⟩
 simp only [tabAll] at hT; simp only at hr ⊢; unfold c198;unfold Lsha_rotr at hr;refine go ?_;obtain ⟨_,ehy2,hr⟩:=bN hr G227_eq;refine go ?_;exact fin hr
theorem w197 : Walk tt G [(198,K198.G)] (fun _=>[]) Tryz.f197 K197:=by
 refine .of [(3,⟨[1,2,3,9],[1,2,3],[]⟩),(6,⟨[1,2,3,4,9,12],[1,2,3],[]⟩),(12,⟨[2,3,6],[2,3],[]⟩)] false body197 Tryz.ntmps197 fun T hO hT a0 x hr=>⟨by simp,?_⟩
 simp only [tabAll] at hT; simp only at hr ⊢; unfold c197;unfold Lsha_schedule at hr;refine go ?_;refine lp 3 (fun (⟨p20,p21⟩ : Int×(Arr 64))=>⟨(und 1++([.ptr 1 0 0 0 64,.ptr 2 0 0 0 64,.ptr 3 0 0 0 64]++(und 5++([.one (.v (.int .i64 p20))]++(und 75)))) : List PV),([(1,⟨0,64,[arC .u8 a0],false,false⟩),(2,⟨0,64,[arC .u32 (zA 64)],false,false⟩),(3,⟨0,64,[arC .u32 p21],false,false⟩)] : Boxes)⟩) hr ?_;rintro ⟨p20,p21⟩ x106r hr106
 simp only [Lsha_schedule_s1] at hr106;unfold b197_1;refine nst ?_;refine go ?_;by_cases c107 : p20 < 16
 ·replace hr106:=ifP hr106
  refine go ?_;refine lp 6 (fun (⟨p77,p78⟩ : Int×(Arr 64))=>⟨(und 1++([.ptr 1 0 0 0 64,.ptr 2 0 0 0 64,.ptr 3 0 0 0 64,.one (.v (.int .i64 p20))]++(und 4++([.one (.v (.int .i64 p20))]++(und 2++([.one (.v (.int .i64 p77))]++(und 72)))))) : List PV),([(1,⟨0,64,[arC .u8 a0],false,false⟩),(2,⟨0,64,[arC .u32 (zA 64)],false,false⟩),(3,⟨0,64,[arC .u32 p78],false,false⟩)] : Boxes)⟩) hr106 ?_;rintro ⟨p77,p78⟩ x118r hr118
  simp only [Lsha_schedule_s3] at hr118;unfold b197_2;refine nst ?_;refine go ?_;by_cases c119 : p77 < 4
  ·replace hr118:=ifP hr118
   refine go ?_;obtain ⟨j120,⟨_,_,_⟩,hr118⟩:=bA hr118;have j120d : j120≤63:=by omega
   obtain ⟨j123,⟨_,_,_⟩,hr118⟩:=bA hr118;have j123d : j123≤63:=by omega
   have j120d : j120≤63:=by omega
   refine go ?_;exact bk hr118
  ·replace hr118:=ifN hr118
   refine go ?_;obtain ⟨r127,q127,rfl⟩:=ms hr118;refine go ?_;rintro rfl
   refine go ?_;unfold Lsha_schedule_k3 at q127;refine go ?_;exact bk q127
 ·replace hr106:=ifN hr106
  refine go ?_;obtain ⟨r128,q128,rfl⟩:=ms hr106;refine go ?_;rintro rfl
  refine go ?_;unfold Lsha_schedule_k1 at q128;refine go ?_;refine lp 12 (fun (⟨p51,p52⟩ : Int×(Arr 64))=>⟨(und 2++([.ptr 2 0 0 0 64,.ptr 3 0 0 0 64]++(und 2++([.one (.v (.int .i64 p51))]++(und 78)))) : List PV),([(2,⟨0,64,[arC .u32 (zA 64)],false,false⟩),(3,⟨0,64,[arC .u32 p52],false,false⟩)] : Boxes)⟩) q128 ?_;rintro ⟨p51,p52⟩ x158r hr158
  simp only [Lsha_schedule_s2] at hr158;unfold b197_3;refine nst ?_;refine go ?_;by_cases c159 : p51 < 64
  ·replace hr158:=ifP hr158
   refine go ?_;obtain ⟨j160,⟨_,_,_⟩,hr158⟩:=bA hr158;have j160d : j160≤63:=by omega
   obtain ⟨_,ehy163,hr158⟩:=bN hr158 G198_eq;have j160d : j160≤63:=by omega
   obtain ⟨_,ehy166,hr158⟩:=bN hr158 G198_eq;have j160d : j160≤63:=by omega
   refine go ?_;obtain ⟨j169,⟨_,_,_⟩,hr158⟩:=bA hr158;have j169d : j169≤63:=by omega
   obtain ⟨_,ehy172,hr158⟩:=bN hr158 G198_eq;have j169d : j169≤63:=by omega
   obtain ⟨_,ehy175,hr158⟩:=bN hr158 G198_eq;have j169d : j169≤63:=by omega
   refine go ?_;obtain ⟨j178,⟨_,_,_⟩,hr158⟩:=bA hr158;have j178d : j178≤63:=by omega
   obtain ⟨j181,⟨_,_,_⟩,hr158⟩:=bA hr158;have j181d : j181≤63:=by omega
   obtain ⟨j184,⟨_,_,_⟩,hr158⟩:=bA hr158;have j184d : j184≤63:=by omega
   refine go ?_;exact bk hr158
  ·replace hr158:=ifN hr158
   refine go ?_;obtain ⟨r186,q186,rfl⟩:=ms hr158;refine go ?_;rintro rfl
   refine go ?_;unfold Lsha_schedule_k2 at q186;refine go ?_;exact fin q186
theorem w155 : Walk tt G [(197,K197.G),(198,K198.G)] (fun _=>[]) Tryz.f155 K155:=by
 refine .of [(5,⟨[2,4,5,6,7,8,9,10,11,12,13,35],[2,4,5],[]⟩)] false body155 Tryz.ntmps155 fun T hO hT ⟨a0,a1⟩ x hr=>⟨by simp,?_⟩
 simp only [tabAll] at hT; simp only at hr ⊢; unfold c155;unfold Lsha_Compress at hr;refine go ?_;obtain ⟨y47,ehy47,hr⟩:=bN hr G197_eq;refine go ?_;refine lp 5 (fun (⟨p24,p25,p26,p27,p28,p29,p30,p31,p32⟩ : Int×Int×Int×Int×Int×Int×Int×Int×Int)=>⟨(und 2++([.ptr 2 0 0 0 8]++(und 1++([.ptr 4 0 0 0 8,.ptr 5 0 0 0 64,.one (.v (.int .u32 p24)),.one (.v (.int .u32 p25)),.one (.v (.int .u32 p26)),.one (.v (.int .u32 p27)),.one (.v (.int .u32 p28)),.one (.v (.int .u32 p29)),.one (.v (.int .u32 p30)),.one (.v (.int .u32 p31))]++(und 21++([.one (.v (.int .i64 p32))]++(und 95)))))) : List PV),([(2,⟨0,8,[arC .u32 a0],false,false⟩),(4,⟨0,8,[arC .u32 (zA 8)],false,false⟩),(5,⟨0,64,[arC .u32 y47],false,false⟩)] : Boxes)⟩) hr ?_;rintro ⟨p24,p25,p26,p27,p28,p29,p30,p31,p32⟩ x78r hr78
 simp only [Lsha_Compress_s1] at hr78;unfold b155_1;refine nst ?_;refine go ?_;by_cases c79 : p32 < 64
 ·replace hr78:=ifP hr78
  refine go ?_;obtain ⟨_,ehy80,hr78⟩:=bN hr78 G198_eq;obtain ⟨_,ehy81,hr78⟩:=bN hr78 G198_eq;obtain ⟨_,ehy82,hr78⟩:=bN hr78 G198_eq;obtain ⟨j83,⟨_,_,_⟩,hr78⟩:=bA hr78;have j83d : j83≤63:=by omega
  have j83d : j83≤63:=by omega
  refine go ?_;obtain ⟨_,ehy88,hr78⟩:=bN hr78 G198_eq;obtain ⟨_,ehy89,hr78⟩:=bN hr78 G198_eq;obtain ⟨_,ehy90,hr78⟩:=bN hr78 G198_eq;refine go ?_;exact bk hr78
 ·replace hr78:=ifN hr78
  refine go ?_;obtain ⟨r91,q91,rfl⟩:=ms hr78;refine go ?_;rintro rfl
  refine go ?_;unfold Lsha_Compress_k1 at q91;refine go ?_;exact fin q91
theorem w105 : Walk tt G [(153,K153.G),(154,K154.G),(155,K155.G)] (fun _=>[]) Tryz.f105 K105:=by
 refine .of [(4,⟨[2,3,4,18,19],[2,4,14],[]⟩),(10,⟨[2,4,6,31],[2,4,6],[]⟩)] false body105 Tryz.ntmps105 fun T hO hT a0 x hr=>⟨by simp,?_⟩
 simp only [tabAll] at hT; simp only at hr ⊢; unfold c105;unfold Lsha_Sum at hr;refine goADRT ?_;obtain ⟨_,ehy34,hr⟩:=bN hr G154_eq;obtain ⟨y35,ehy35,hr⟩:=bN hr G153_eq;refine goADRT ?_;refine lp 4 (fun (⟨p11,p12⟩ : Int×(Arr 8))=>⟨(und 2++([.ptr 2 0 0 0 32,.one (.ms 14 0 0 (y35.length) 1),.ptr 4 0 0 0 8]++(und 13++([.one (.v (.int .i64 (IntKind.i64.wrap (((y35.length : Int)).tdiv 64)))),.one (.v (.int .i64 p11))]++(und 28)))) : List PV),([(2,⟨0,32,[arC .u8 (zA 32)],false,false⟩),(4,⟨0,8,[arC .u32 p12],false,false⟩),(14,⟨0,1,intsR .u8 y35,false,true⟩)] : Boxes)⟩) hr ?_;rintro ⟨p11,p12⟩ x44r hr44
 simp only [Lsha_Sum_s1] at hr44;unfold b105_1;refine nst ?_;refine goADRT ?_;by_cases c45 : p11 < IntKind.i64.wrap (((y35.length : Int)).tdiv 64)
 ·have c45N:=nrm c45
  replace hr44:=ifP hr44
  refine goADRT ?_;obtain ⟨⟨_,_⟩,hr44⟩:=bC hr44;have sf47 : (IntKind.i64.wrap (64 * p11)).toNat≤y35.length:=by omega
  obtain ⟨_,hr44⟩:=bC hr44;have fp49:=flat_part (k:=.u8) (l:=y35) (o:=(IntKind.i64.wrap (64 * p11)).toNat) (n:=64) (by omega);have fp49l : (IntKind.i64.wrap (64 * p11)).toNat + 64≤y35.length:=by omega
  obtain ⟨_,ehy50,hr44⟩:=bN hr44 G155_eq;refine goADRT ?_;exact bk hr44
 ·have c45N:=nrm c45
  replace hr44:=ifN hr44
  refine goADRT ?_;obtain ⟨r51,q51,rfl⟩:=ms hr44;refine goADRT ?_;rintro rfl
  refine goADRT ?_;unfold Lsha_Sum_k1 at q51;refine goADRT ?_;refine lp 10 (fun (⟨p23,p24⟩ : Int×(Arr 32))=>⟨(und 2++([.ptr 2 0 0 0 32]++(und 1++([.ptr 4 0 0 0 8]++(und 1++([.ptr 6 0 0 0 32]++(und 24++([.one (.v (.int .i64 p23))]++(und 16)))))))) : List PV),([(2,⟨0,32,[arC .u8 (zA 32)],false,false⟩),(4,⟨0,8,[arC .u32 p12],false,false⟩),(6,⟨0,32,[arC .u8 p24],false,false⟩)] : Boxes)⟩) q51 ?_;rintro ⟨p23,p24⟩ x61r hr61
  simp only [Lsha_Sum_s2] at hr61;unfold b105_2;refine nst ?_;refine goADRT ?_;by_cases c62 : p23 < 32
  ·replace hr61:=ifP hr61
   refine goADRT ?_;obtain ⟨j63,⟨_,_,_⟩,hr61⟩:=bA hr61;have j63d : j63≤7:=by omega
   obtain ⟨_,hr61⟩:=bC hr61;obtain ⟨j67,⟨_,_,_⟩,hr61⟩:=bA hr61;have j67d : j67≤31:=by omega
   refine goADRT ?_;exact bk hr61
  ·replace hr61:=ifN hr61
   refine goADRT ?_;obtain ⟨r69,q69,rfl⟩:=ms hr61;refine goADRT ?_;rintro rfl
   refine goADRT ?_;unfold Lsha_Sum_k2 at q69;refine goADRT ?_;exact fin q69
theorem w65 : Walk tt G [(105,K105.G)] (fun _=>[]) Tryz.f65 K65:=by
 refine .of [] false body65 Tryz.ntmps65 fun T hO hT a0 x hr=>⟨by simp,?_⟩
 simp only [tabAll] at hT; simp only at hr ⊢; unfold c65;unfold Lsha_Double at hr;refine go ?_;obtain ⟨_,ehy3,hr⟩:=bN hr G105_eq;refine go ?_;obtain ⟨_,ehy4,hr⟩:=bN hr G105_eq;refine go ?_;exact fin hr
theorem w30 : Walk tt G [(26,K26.G),(65,K65.G)] (fun _=>[]) Tryz.f30 K30:=by
 refine .of [] false body30 Tryz.ntmps30 fun T hO hT a0 x hr=>⟨by simp,?_⟩
 simp only [tabAll] at hT; simp only at hr ⊢; unfold c30;unfold Lfilter_Hash at hr;refine go ?_;obtain ⟨y3,ehy3,hr⟩:=bN hr G26_eq;refine go ?_;rcases eqT (y3.2 = 0) with c4 | c4
 ·replace hr:=ifN hr
  refine go ?_;obtain ⟨_,ehy5,hr⟩:=bN hr G65_eq;refine go ?_;exact fin hr
 ·replace hr:=ifP hr
  refine go ?_;exact fin hr
theorem w146 : Walk tt G [] (fun _=>[]) Tryz.f146 K146:=by
 refine .of [(2,⟨[0,3],[5],[]⟩),(5,⟨[0,3,4],[5],[]⟩)] true body146 Tryz.ntmps146 fun T hO hT a0 x hr=>⟨by simp,?_⟩
 simp only [tabAll] at hT; simp only at hr ⊢; unfold c146;unfold Lref03_Pad at hr;refine go ?_;refine lp 2 (fun (p4 : (List Int))=>⟨([.one (.v (.int .u64 a0))]++(und 2++([.one (.ms 5 0 0 (p4.length) 1)]++(und 27))) : List PV),([(5,⟨0,1,intsR .u8 p4,false,true⟩)] : Boxes)⟩) hr ?_;rintro p4 x23r hr23
 simp only [Lref03_Pad_s1] at hr23;unfold b146_1;refine nst ?_;refine go ?_;rcases eqT ((IntKind.u64.wrap ((IntKind.u64.wrap (a0 + (IntKind.u64.wrap ((p4.length : Int))))) + 8)).tmod 64 = 0) with c24 | c24
 ·have c24N:=nrm c24
  replace hr23:=ifN hr23
  refine go ?_;obtain ⟨r25,q25,rfl⟩:=ms hr23;refine go ?_;rintro rfl
  refine go ?_;unfold Lref03_Pad_k1 at q25;refine go ?_;refine lp 5 (fun (⟨p12,p13⟩ : Int×(List Int))=>⟨([.one (.v (.int .u64 a0))]++(und 2++([.one (.ms 5 0 0 (p13.length) 1),.one (.v (.int .i64 p12))]++(und 26))) : List PV),([(5,⟨0,1,intsR .u8 p13,false,true⟩)] : Boxes)⟩) q25 ?_;rintro ⟨p12,p13⟩ x31r hr31
  simp only [Lref03_Pad_s2] at hr31;unfold b146_2;refine nst ?_;refine go ?_;by_cases c32 : 0≤p12
  ·replace hr31:=ifP hr31
   refine go ?_;obtain ⟨_,hr31⟩:=bC hr31;obtain ⟨_,hr31⟩:=bC hr31;have n1_u34_0 : p13.length + 1≤140737488355328:=by omega
   have n2_u34_0 : p13.length + 1≤9223372036854775807:=by omega
   refine go ?_;exact bk hr31
  ·replace hr31:=ifN hr31
   refine go ?_;obtain ⟨r35,q35,rfl⟩:=ms hr31;refine go ?_;rintro rfl
   refine go ?_;unfold Lref03_Pad_k2 at q35;refine go ?_;exact fin q35
 ·have c24N:=nrm c24
  replace hr23:=ifP hr23
  refine go ?_;obtain ⟨_,hr23⟩:=bC hr23;have n1_u36_0 : p4.length + 1≤140737488355328:=by omega
  have n2_u36_0 : p4.length + 1≤9223372036854775807:=by omega
  refine go ?_;exact bk hr23
theorem w147 : Walk tt G [] (fun _=>[]) Tryz.f147 K147:=by
 refine .of [] false body147 Tryz.ntmps147 fun T hO hT _ x hr=>⟨by simp,?_⟩
 simp only [tabAll] at hT; simp only at hr ⊢; unfold c147;unfold Lref03_Initial at hr;refine go ?_;exact fin hr
theorem w195 : Walk tt G [(227,K227.G)] (fun _=>[]) Tryz.f195 K195:=by
 refine .of [] false body195 Tryz.ntmps195 fun T hO hT ⟨a0,a1⟩ x hr=>⟨by simp,?_⟩
 simp only [tabAll] at hT; simp only at hr ⊢; unfold c195;unfold Lref03_rotr at hr;refine go ?_;obtain ⟨_,ehy2,hr⟩:=bN hr G227_eq;refine go ?_;exact fin hr
end Go.Proofs.YthpkpciceodioaaGreatDoor
