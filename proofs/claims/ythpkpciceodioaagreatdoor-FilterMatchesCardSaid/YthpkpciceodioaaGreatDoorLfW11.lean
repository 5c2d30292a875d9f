import Derived.Test.YthpkpciceodioaaGreatDoorLfK
import Derived.Test.YthpkpciceodioaaGreatDoorCode
import Derived.Test.YthpkpciceodioaaGreatDoorBl
namespace Go.Proofs.YthpkpciceodioaaGreatDoor
open Go.RowKit
open Go.Av
open Go.Lc
set_option maxRecDepth 100000
set_option linter.unusedSimpArgs false
set_option linter.unusedVariables false
set_option maxHeartbeats 4000000
theorem w48 : Walk tt G [(86,K86.G),(87,K87.G)] (fun _=>[]) Tryz.f48 K48:=by
 refine .of [(8,⟨[12,40,41,42],[],[]⟩),(11,⟨[12,16,40,41,42,46,47,48],[],[]⟩)] false body48 Tryz.ntmps48 fun T hO hT ⟨a0,a1,a2,a3,a4⟩ x hr=>⟨by simp,?_⟩
 simp only [Zq] at hT; simp only at hr ⊢; unfold c48;unfold Zcb at hr;refine go ?_;obtain ⟨y30,ehy30,hr⟩:=bN hr ZrH;refine go ?_;rcases eqT (y30.2 = 0) with c31 | c31
 ·replace hr:=ifN hr
  refine go ?_;obtain ⟨y32,ehy32,hr⟩:=bN hr ZrK;refine go ?_;rcases eqT (y32.2 = 0) with c33 | c33
  ·replace hr:=ifN hr
   refine go ?_;refine lp 8 (fun (p16 : Int)=>⟨(und 12++([.one (.slice .no (Ze .u64 y30.1))]++(und 27++([.one (.slice .no (Ze .u64 y32.1)),.one (.v (.int .i64 (y32.1.length : Int))),.one (.v (.int .i64 p16))]++(und 14)))) : List PV),([] : Boxes)⟩) hr ?_;rintro p16 x48r hr48
   simp only [ZaT] at hr48;unfold b48_1;refine nst ?_;refine go ?_;by_cases c49 : p16 < (y32.1.length : Int)
   ·have c49N:=nrm c49
    replace hr48:=ifP hr48
    refine go ?_;obtain ⟨x50,⟨_,_,_⟩,hr48⟩:=bI hr48;refine go ?_;refine lp 11 (fun (p27 : Int)=>⟨(und 12++([.one (.slice .no (Ze .u64 y30.1))]++(und 3++([.one (.v (.int .u64 x50))]++(und 23++([.one (.slice .no (Ze .u64 y32.1)),.one (.v (.int .i64 (y32.1.length : Int))),.one (.v (.int .i64 p16))]++(und 3++([.one (.slice .no (Ze .u64 y30.1)),.one (.v (.int .i64 (y30.1.length : Int))),.one (.v (.int .i64 p27))]++(und 8)))))))) : List PV),([] : Boxes)⟩) hr48 ?_;rintro p27 x56r hr56
    simp only [ZaS] at hr56;unfold b48_2;refine nst ?_;refine go ?_;by_cases c57 : p27 < (y30.1.length : Int)
    ·have c57N:=nrm c57
     replace hr56:=ifP hr56
     refine go ?_;obtain ⟨x58,⟨_,_,_⟩,hr56⟩:=bI hr56;refine go ?_;rcases eqT (x50 = x58) with c59 | c59
     ·replace hr56:=ifP hr56
      refine go ?_;exact fin hr56
     ·replace hr56:=ifN hr56
      refine go ?_;exact bk hr56
    ·have c57N:=nrm c57
     replace hr56:=ifN hr56
     refine go ?_;obtain ⟨r60,q60,rfl⟩:=ms hr56;refine go ?_;rintro rfl
     refine go ?_;unfold Zel at q60;refine go ?_;exact bk q60
   ·have c49N:=nrm c49
    replace hr48:=ifN hr48
    refine go ?_;obtain ⟨r61,q61,rfl⟩:=ms hr48;refine go ?_;rintro rfl
    refine go ?_;unfold Lref19_Match_k1 at q61;refine go ?_;exact fin q61
  ·replace hr:=ifP hr
   refine go ?_;exact fin hr
 ·replace hr:=ifP hr
  refine go ?_;exact fin hr
theorem w19 : Walk tt G [(41,K41.G),(48,K48.G)] (fun _=>[]) Tryz.f19 K19:=by
 refine .of [(3,⟨[3,4,8,11,12,13],[3,4,23],[(8,none,23,1)]⟩),(1000007,⟨[3,4,8,11,12,13],[3,4,23],[]⟩)] false body19 Tryz.ntmps19 fun T hO hT ⟨a0,a1,a2⟩ x hr=>⟨by simp,?_⟩
 simp only [Zq] at hT; simp only at hr ⊢; unfold c19;unfold Zcc at hr;refine go ?_;refine lp 3 (fun (⟨p8,p9⟩ : Int×(List (List Int)))=>⟨(und 3++([.ptr 3 0 0 0 2,.ptr 4 0 0 0 32]++(und 3++([.one (.ms 23 0 0 (p9.length) 1)]++(und 2++([.one (.slice .no (List.map YF a2)),.one (.v (.int .i64 (a2.length : Int))),.one (.v (.int .i64 p8))]++(und 18)))))) : List PV),([(3,⟨0,2,[[.v (.int .i64 a0.1),.slice .no (Ze .u8 a0.2)]],false,false⟩),(4,⟨0,32,[arC .u8 a1],false,false⟩),(23,⟨0,1,List.map YF p9,false,true⟩)] : Boxes)⟩) hr ?_;rintro ⟨p8,p9⟩ x28r hr28
 simp only [ZcO] at hr28;unfold b19_1;refine nst ?_;refine go ?_;by_cases c29 : p8 < (a2.length : Int)
 ·have c29N:=nrm c29
  replace hr28:=ifP hr28
  refine go ?_;obtain ⟨x30,⟨_,_,_⟩,hr28⟩:=bI hr28;refine go ?_;refine Zb7 hr28 (.normal) (fun (s : (List (List Int)))=>match s with | p17=>(⟨(und 3++([.ptr 3 0 0 0 2,.ptr 4 0 0 0 32]++(und 3++([.one (.ms 23 0 0 (p17.length) 1)]++(und 2++([.one (.slice .no (List.map YF a2)),.one (.v (.int .i64 (a2.length : Int))),.one (.v (.int .i64 p8))]++(und 18)))))) : List PV),([(3,⟨0,2,[[.v (.int .i64 a0.1),.slice .no (Ze .u8 a0.2)]],false,false⟩),(4,⟨0,32,[arC .u8 a1],false,false⟩),(23,⟨0,1,List.map YF p17,false,true⟩)] : Boxes)⟩ : ASt)) (fun (s : (List (List Int)))=>match s with | p17=>ZaV p8 p17) ?_ ?_
  ·rintro p17 hk33
   change ZaV p8 p17 = _ at hk33
   refine go ?_;refine nst ?_;unfold ZaV at hk33;refine Zb8 rfl (kq:=⟨[3,4,8,11,12,13],[3,4,23],[]⟩) rfl (by simp [Yk, *]; rfl) (by simp [*] <;> rfl) ?_;exact bk hk33
  ·intro J33
   simp only [pq,reduceCtorEq] at J33;by_cases c34 : 0 < (x30.length : Int)
   ·have c34N:=nrm c34
    replace hr28:=ifP hr28
    refine go ?_;obtain ⟨_,hr28⟩:=bC hr28;have n1_u35_0 : (p9.length + 1) * 24≤140737488355328:=by omega
    have n2_u35_0 : p9.length + 1≤9223372036854775807:=by omega
    refine go ?_;exact jn 1000007 (J33 (p9++[x30]) hr28)
   ·have c34N:=nrm c34
    have c34L : ¬ 0 < x30.length:=by omega
    replace hr28:=ifN hr28
    refine go ?_;exact jn 1000007 (J33 p9 hr28)
 ·have c29N:=nrm c29
  replace hr28:=ifN hr28
  refine go ?_;obtain ⟨r36,q36,rfl⟩:=ms hr28;refine go ?_;rintro rfl
  refine go ?_;unfold Zem at q36;obtain ⟨_,ehy37,q36⟩:=bN q36 ZrG;obtain ⟨_,ehy38,q36⟩:=bN q36 ZrL;refine go ?_;exact fin q36
def kp4 : Keep:=fun i=>⟨[],[],[]⟩
theorem w4 {T : Tab} (hO : T.own = fun _=>[]) (hT9 : T 9 = some K9.G) (hT17 : T 17 = some K17.G) (hT18 : T 18 = some K18.G) (hT19 : T 19 = some K19.G) (a0 : Tapi_Filter) (a1 : (Arr 32)) (a2 : (List (List Int))) (x : Bool) (hr : Xj a0 a1 a2 = some x) : ∃ kp fl n,Y8 tt T G kp fl n Tryz.f4 (E4 (a0,a1,a2)) = some (R4 (a0,a1,a2) x):=by
 simp only [E4,R4];refine fnE (kp:=kp4) (w:=false) body4 (by simp) ?_;unfold c4;rw [Tryz.ntmps4];unfold Xj at hr;refine Zd rfl (by simp []; rfl) ?_;refine Zy ?_;obtain ⟨y6,hy6,hr⟩:=bs hr;have ehy6:=ZsN hy6;simp only [K9,nf,nfs] at ehy6;refine Zd rfl (by simp [hO,hT9,ehy6]; rfl) ?_;by_cases c7 : y6 = true
 ·skip
  rw [if_neg (not_not_intro c7)] at hr;refine Zl (by simp [bV,c7]) ?_;refine Zz ?_;refine Zy ?_;by_cases c8 : 400 < (a0.2.length : Int)
  ·skip
   have c8N:=c8;try simp at c8N
   first | have c8M : (_ = _) = True:=eq_true c8N | have c8M:=c8N
   rw [if_pos] at hr;rotate_left
   ·simp [c7,c8,c8M]
   obtain ⟨z9,hz9,hr⟩:=bs hr;obtain rfl:=Option.some.inj hz9;refine Zd rfl (by simp [c7,c8,c8M] <;> rfl) ?_;rw [if_pos] at hr;rotate_left
   ·simp [c7,c8,c8M]
   refine ZB (by simp [bV,c7,c8,c8M]) ?_;refine Zy ?_;refine Zd rfl (by simp [c7,c8,c8M] <;> rfl) ?_;refine ZaD ?_;obtain rfl:=Option.some.inj hr;simp [Zaj,c7,c8,c8M,c8N]
  ·skip
   have c8N:=c8;try simp at c8N
   first | have c8M : (_ = _) = True:=eq_true c8N | have c8M:=c8N
   rw [if_neg] at hr;rotate_left
   ·simp [c7,c8,c8M]
   obtain ⟨z10,hz10,hr⟩:=bs hr;obtain ⟨y11,hy11,hz10⟩:=bs hz10;have ehy11:=Zry hy11;simp only [K17,nf,nfs] at ehy11;obtain rfl:=Option.some.inj hz10;refine Zd rfl (by simp [hO,hT17,ehy11,c7,c8,c8M] <;> rfl) ?_;by_cases c12 : y11 = true
   ·skip
    rw [if_neg] at hr;rotate_left
    ·simp [c7,c8,c8M,c12]
    refine Zl (by simp [bV,c7,c8,c8M,c12]) ?_;refine Zz ?_;obtain ⟨y13,hy13,hr⟩:=bs hr;have ehy13:=ZrF hy13;simp only [K18,nf,nfs] at ehy13;refine Zd rfl (by simp [hO,hT18,ehy13,c7,c8,c8M,c12] <;> rfl) ?_;obtain ⟨y14,hy14,hr⟩:=bs hr;have ehy14:=ZrM hy14;simp only [K19,nf,nfs] at ehy14;refine Zd rfl (by simp [hO,hT19,ehy14,c7,c8,c8M,c12] <;> rfl) ?_;by_cases c15 : (y13.1 == y14.1) = true
    ·skip
     refine Zd rfl (by simp [c7,c8,c8M,c12,c15] <;> rfl) ?_;refine Zbm ?_;obtain rfl:=Option.some.inj hr;simp [Zaj,c7,c8,c8M,c12,c15,c8N]
    ·skip
     refine Zd rfl (by simp [c7,c8,c8M,c12,c15] <;> rfl) ?_;refine Zbm ?_;obtain rfl:=Option.some.inj hr;simp [Zaj,c7,c8,c8M,c12,c15,c8N]
   ·skip
    rw [if_pos] at hr;rotate_left
    ·simp [c7,c8,c8M,c12]
    refine ZB (by simp [bV,c7,c8,c8M,c12]) ?_;refine Zy ?_;refine Zd rfl (by simp [c7,c8,c8M,c12] <;> rfl) ?_;refine ZaD ?_;obtain rfl:=Option.some.inj hr;simp [Zaj,c7,c8,c8M,c12,c8N]
 ·skip
  rw [if_pos c7] at hr;refine ZB (by simp [bV,c7]) ?_;refine Zy ?_;refine Zd rfl (by simp [c7]; rfl) ?_;refine ZaD ?_;obtain rfl:=Option.some.inj hr;simp [Zaj,c7]
theorem w146 : Walk tt G [] (fun _=>[]) Tryz.f146 K146:=by
 refine .of [(2,⟨[0,3],[5],[]⟩),(5,⟨[0,3,4],[5],[]⟩)] true body146 Tryz.ntmps146 fun T hO hT a0 x hr=>⟨by simp,?_⟩
 simp only [Zq] at hT; simp only at hr ⊢; unfold c146;unfold Zc9 at hr;refine go ?_;refine lp 2 (fun (p4 : (List Int))=>⟨([.one (.v (.int .u64 a0))]++(und 2++([.one (.ms 5 0 0 (p4.length) 1)]++(und 27))) : List PV),([(5,⟨0,1,Ze .u8 p4,false,true⟩)] : Boxes)⟩) hr ?_;rintro p4 x23r hr23
 simp only [Zct] at hr23;unfold b146_1;refine nst ?_;refine go ?_;rcases eqT ((IntKind.u64.wrap ((IntKind.u64.wrap (a0 + (IntKind.u64.wrap ((p4.length : Int))))) + 8)).tmod 64 = 0) with c24 | c24
 ·have c24N:=nrm c24
  replace hr23:=ifN hr23
  refine go ?_;obtain ⟨r25,q25,rfl⟩:=ms hr23;refine go ?_;rintro rfl
  refine go ?_;unfold Ze7 at q25;refine go ?_;refine lp 5 (fun (⟨p12,p13⟩ : Int×(List Int))=>⟨([.one (.v (.int .u64 a0))]++(und 2++([.one (.ms 5 0 0 (p13.length) 1),.one (.v (.int .i64 p12))]++(und 26))) : List PV),([(5,⟨0,1,Ze .u8 p13,false,true⟩)] : Boxes)⟩) q25 ?_;rintro ⟨p12,p13⟩ x31r hr31
  simp only [ZbE] at hr31;unfold b146_2;refine nst ?_;refine go ?_;by_cases c32 : 0≤p12
  ·replace hr31:=ifP hr31
   refine go ?_;obtain ⟨_,hr31⟩:=bC hr31;obtain ⟨_,hr31⟩:=bC hr31;have n1_u34_0 : p13.length + 1≤140737488355328:=by omega
   have n2_u34_0 : p13.length + 1≤9223372036854775807:=by omega
   refine go ?_;exact bk hr31
  ·replace hr31:=ifN hr31
   refine go ?_;obtain ⟨r35,q35,rfl⟩:=ms hr31;refine go ?_;rintro rfl
   refine go ?_;unfold Zg7 at q35;refine go ?_;exact fin q35
 ·have c24N:=nrm c24
  replace hr23:=ifP hr23
  refine go ?_;obtain ⟨_,hr23⟩:=bC hr23;have n1_u36_0 : p4.length + 1≤140737488355328:=by omega
  have n2_u36_0 : p4.length + 1≤9223372036854775807:=by omega
  refine go ?_;exact bk hr23
theorem w147 : Walk tt G [] (fun _=>[]) Tryz.f147 K147:=by
 refine .of [] false body147 Tryz.ntmps147 fun T hO hT _ x hr=>⟨by simp,?_⟩
 simp only [Zq] at hT; simp only at hr ⊢; unfold c147;unfold Lref03_Initial at hr;refine go ?_;exact fin hr
theorem w227 : Walk tt G [] (fun _=>[]) Tryz.f227 K227:=by
 refine .of [] false body227 Tryz.ntmps227 fun T hO hT ⟨a0,a1⟩ x hr=>⟨by simp,?_⟩
 simp only [Zq] at hT; simp only at hr ⊢; unfold c227;unfold Xc at hr;refine go ?_;obtain ⟨_,hr⟩:=bC hr;obtain ⟨_,hr⟩:=bC hr;refine go ?_;exact fin hr
theorem w195 : Walk tt G [(227,K227.G)] (fun _=>[]) Tryz.f195 K195:=by
 refine .of [] false body195 Tryz.ntmps195 fun T hO hT ⟨a0,a1⟩ x hr=>⟨by simp,?_⟩
 simp only [Zq] at hT; simp only at hr ⊢; unfold c195;unfold Xi at hr;refine go ?_;obtain ⟨_,ehy2,hr⟩:=bN hr Zl9;refine go ?_;exact fin hr
theorem w193 : Walk tt G [(195,K195.G)] (fun _=>[]) Tryz.f193 K193:=by
 refine .of [(3,⟨[1,2,3,4],[1,2,3],[]⟩),(7,⟨[2,3,5],[2,3],[]⟩)] false body193 Tryz.ntmps193 fun T hO hT a0 x hr=>⟨by simp,?_⟩
 simp only [Zq] at hT; simp only at hr ⊢; unfold c193;unfold ZaP at hr;refine go ?_;refine lp 3 (fun (⟨p12,p13⟩ : Int×(Arr 64))=>⟨(und 1++([.ptr 1 0 0 0 64,.ptr 2 0 0 0 64,.ptr 3 0 0 0 64,.one (.v (.int .i64 p12))]++(und 92)) : List PV),([(1,⟨0,64,[arC .u8 a0],false,false⟩),(2,⟨0,64,[arC .u32 (zA 64)],false,false⟩),(3,⟨0,64,[arC .u32 p13],false,false⟩)] : Boxes)⟩) hr ?_;rintro ⟨p12,p13⟩ x80r hr80
 simp only [ZaI] at hr80;unfold b193_1;refine nst ?_;refine go ?_;by_cases c81 : p12 < 16
 ·replace hr80:=ifP hr80
  refine go ?_;obtain ⟨j82,⟨_,_,_⟩,hr80⟩:=bA hr80;have j82d : j82≤63:=by omega
  obtain ⟨j85,⟨_,_,_⟩,hr80⟩:=bA hr80;have j85d : j85≤63:=by omega
  obtain ⟨j88,⟨_,_,_⟩,hr80⟩:=bA hr80;have j88d : j88≤63:=by omega
  obtain ⟨j91,⟨_,_,_⟩,hr80⟩:=bA hr80;have j91d : j91≤63:=by omega
  obtain ⟨j94,⟨_,_,_⟩,hr80⟩:=bA hr80;have j94d : j94≤63:=by omega
  refine go ?_;exact bk hr80
 ·replace hr80:=ifN hr80
  refine go ?_;obtain ⟨r96,q96,rfl⟩:=ms hr80;refine go ?_;rintro rfl
  refine go ?_;unfold ZbQ at q96;refine go ?_;refine lp 7 (fun (⟨p38,p39⟩ : Int×(Arr 64))=>⟨(und 2++([.ptr 2 0 0 0 64,.ptr 3 0 0 0 64]++(und 1++([.one (.v (.int .i64 p38))]++(und 91)))) : List PV),([(2,⟨0,64,[arC .u32 (zA 64)],false,false⟩),(3,⟨0,64,[arC .u32 p39],false,false⟩)] : Boxes)⟩) q96 ?_;rintro ⟨p38,p39⟩ x126r hr126
  simp only [Lref03_schedule_s2] at hr126;unfold b193_2;refine nst ?_;refine go ?_;by_cases c127 : p38 < 64
  ·replace hr126:=ifP hr126
   refine go ?_;obtain ⟨j128,⟨_,_,_⟩,hr126⟩:=bA hr126;have j128d : j128≤63:=by omega
   obtain ⟨_,ehy131,hr126⟩:=bN hr126 ZcF;have j128d : j128≤63:=by omega
   obtain ⟨_,ehy134,hr126⟩:=bN hr126 ZcF;have j128d : j128≤63:=by omega
   refine go ?_;obtain ⟨j137,⟨_,_,_⟩,hr126⟩:=bA hr126;have j137d : j137≤63:=by omega
   obtain ⟨_,ehy140,hr126⟩:=bN hr126 ZcF;have j137d : j137≤63:=by omega
   obtain ⟨_,ehy143,hr126⟩:=bN hr126 ZcF;have j137d : j137≤63:=by omega
   refine go ?_;obtain ⟨j146,⟨_,_,_⟩,hr126⟩:=bA hr126;have j146d : j146≤63:=by omega
   obtain ⟨j149,⟨_,_,_⟩,hr126⟩:=bA hr126;have j149d : j149≤63:=by omega
   obtain ⟨j152,⟨_,_,_⟩,hr126⟩:=bA hr126;have j152d : j152≤63:=by omega
   refine go ?_;exact bk hr126
  ·replace hr126:=ifN hr126
   refine go ?_;obtain ⟨r154,q154,rfl⟩:=ms hr126;refine go ?_;rintro rfl
   refine go ?_;unfold ZeX at q154;refine go ?_;exact fin q154
theorem w194 : Walk tt G [] (fun _=>[]) Tryz.f194 K194:=by
 refine .of [] false body194 Tryz.ntmps194 fun T hO hT _ x hr=>⟨by simp,?_⟩
 simp only [Zq] at hT; simp only at hr ⊢; unfold c194;unfold Lref03_constants at hr;refine go ?_;exact fin hr
end Go.Proofs.YthpkpciceodioaaGreatDoor
