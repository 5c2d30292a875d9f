import Derived.Test.YthpkpciceodioaaGreatDoorLfK
import Derived.Test.YthpkpciceodioaaGreatDoorCode
import Derived.Test.YthpkpciceodioaaGreatDoorBl
namespace Go.Proofs.YthpkpciceodioaaGreatDoor
open Go.RowKit
open Go.Av
open Go.Lc
set_option maxRecDepth 100000
set_option linter.unusedSimpArgs false
set_option linter.unusedVariables false
set_option maxHeartbeats 4000000
theorem w17 : Walk tt G [] (fun _=>[]) Tryz.f17 K17:=by
 refine .of [(4,⟨[2,13,14,15],[],[]⟩)] false body17 Tryz.ntmps17 fun T hO hT ⟨a0,a1,a2⟩ x hr=>⟨by simp,?_⟩
 simp only [Zq] at hT; simp only at hr ⊢; unfold c17;unfold ZcE at hr;refine go ?_;by_cases c7 : a1 < (a0.length : Int)
 ·have c7N:=nrm c7
  replace hr:=ifP hr
  refine go ?_;exact fin hr
 ·have c7N:=nrm c7
  replace hr:=ifN hr
  refine go ?_;refine lp 4 (fun (p4 : Int)=>⟨(und 2++([.one (.v (.int .i64 a2))]++(und 10++([.one (.slice .no (List.map YF a0)),.one (.v (.int .i64 (a0.length : Int))),.one (.v (.int .i64 p4))]++(und 8)))) : List PV),([] : Boxes)⟩) hr ?_;rintro p4 x13r hr13
  simp only [Zbg] at hr13;unfold b17_1;refine nst ?_;refine go ?_;by_cases c14 : p4 < (a0.length : Int)
  ·have c14N:=nrm c14
   replace hr13:=ifP hr13
   refine go ?_;obtain ⟨x15,⟨_,_,_⟩,hr13⟩:=bI hr13;refine go ?_;by_cases c16 : a2 < (x15.length : Int)
   ·have c16N:=nrm c16
    replace hr13:=ifP hr13
    refine go ?_;exact fin hr13
   ·have c16N:=nrm c16
    replace hr13:=ifN hr13
    refine go ?_;exact bk hr13
  ·have c14N:=nrm c14
   replace hr13:=ifN hr13
   refine go ?_;obtain ⟨r17,q17,rfl⟩:=ms hr13;refine go ?_;rintro rfl
   refine go ?_;unfold Lkeep_Items_k1 at q17;refine go ?_;exact fin q17
theorem w69 : Walk tt G [] (fun _=>[]) Tryz.f69 K69:=by
 refine .of [(3,⟨[3,6,7,8],[],[]⟩)] false body69 Tryz.ntmps69 fun T hO hT a0 x hr=>⟨by simp,?_⟩
 simp only [Zq] at hT; simp only at hr ⊢; unfold c69;unfold Zaq at hr;refine go ?_;refine lp 3 (fun (⟨p7,p8⟩ : Int×Int)=>⟨(und 3++([.one (.v (.int .u64 p7))]++(und 2++([.one (.slice .no (Ze .u8 a0)),.one (.v (.int .i64 (a0.length : Int))),.one (.v (.int .i64 p8))]++(und 13)))) : List PV),([] : Boxes)⟩) hr ?_;rintro ⟨p7,p8⟩ x18r hr18
 simp only [ZcT] at hr18;unfold b69_1;refine nst ?_;refine go ?_;by_cases c19 : p8 < (a0.length : Int)
 ·have c19N:=nrm c19
  replace hr18:=ifP hr18
  refine go ?_;obtain ⟨_,⟨_,_,_⟩,hr18⟩:=bI hr18;refine go ?_;obtain ⟨_,hr18⟩:=bC hr18;refine go ?_;exact bk hr18
 ·have c19N:=nrm c19
  replace hr18:=ifN hr18
  refine go ?_;obtain ⟨r22,q22,rfl⟩:=ms hr18;refine go ?_;rintro rfl
  refine go ?_;unfold ZfP at q22;refine go ?_;exact fin q22
theorem w36 : Walk tt G [(69,K69.G)] (fun _=>[]) Tryz.f36 K36:=by
 refine .of [] false body36 Tryz.ntmps36 fun T hO hT a0 x hr=>⟨by simp,?_⟩
 simp only [Zq] at hT; simp only at hr ⊢; unfold c36;unfold ZeE at hr;refine go ?_;obtain ⟨_,ehy3,hr⟩:=bN hr Zi8;obtain ⟨_,ehy4,hr⟩:=bN hr Zi8;refine go ?_;exact fin hr
theorem w157 : Walk tt G [] (fun _=>[]) Tryz.f157 K157:=by
 refine .of [] false body157 Tryz.ntmps157 fun T hO hT a0 x hr=>⟨by simp,?_⟩
 simp only [Zq] at hT; simp only at hr ⊢; unfold c157;unfold ZbX at hr;refine Y3 ?_;by_cases c4 : a0.2 < 0
 ·refine Y3 ?_
  replace hr:=ifP hr
  refine Y3 ?_;exact fin hr
 ·by_cases c5 : 1600000 < a0.2
  ·refine Y3 ?_
   replace hr:=ifP hr
   refine Y3 ?_;exact fin hr
  ·refine Y3 ?_
   rcases eqT ((a0.1.length : Int) = IntKind.i64.wrap ((IntKind.i64.wrap (a0.2 + 7)).tdiv 8)) with c6 | c6
   ·have c6N:=nrm c6
    replace hr:=ifN hr
    refine Y3 ?_;rcases eqT ((a0.2).tmod 8 = 0) with c7 | c7
    ·replace hr:=Zgb hr
     obtain ⟨_,hz8,hr⟩:=bs hr;obtain rfl:=Option.some.inj hz8;refine Y3 ?_;exact fin hr
    ·replace hr:=Zgc hr
     obtain ⟨_,hz9,hr⟩:=bs hr;obtain ⟨_,⟨_,_,_⟩,hz9⟩:=bI hz9;obtain ⟨_,hz9⟩:=bC hz9;obtain rfl:=Option.some.inj hz9;refine Y3 ?_;exact fin hr
   ·have c6N:=nrm c6
    replace hr:=ifP hr
    refine Y3 ?_;exact fin hr
theorem w171 : Walk tt G [] (fun _=>[]) Tryz.f171 K171:=by
 refine .of [] false body171 Tryz.ntmps171 fun T hO hT ⟨a0,a1⟩ x hr=>⟨by simp,?_⟩
 simp only [Zq] at hT; simp only at hr ⊢; unfold c171;unfold ZcV at hr;refine go ?_;obtain ⟨_,⟨_,_,_⟩,hr⟩:=bI hr;obtain ⟨_,hr⟩:=bC hr;refine go ?_;exact fin hr
theorem w172 : Walk tt G [(171,K171.G)] (fun _=>[]) Tryz.f172 K172:=by
 refine .of [(3,⟨[1,3,7,9,10],[3],[]⟩),(1000008,⟨[1,3,7,9,10],[3],[]⟩)] false body172 Tryz.ntmps172 fun T hO hT ⟨a0,a1,a2⟩ x hr=>⟨by simp,?_⟩
 simp only [Zq] at hT; simp only at hr ⊢; unfold c172;unfold Zbw at hr;refine go ?_;refine lp 3 (fun (⟨p7,p8⟩ : Int×Int)=>⟨(und 1++([.one (.v (.int .i64 a1))]++(und 1++([.ptr 3 0 0 0 2]++(und 3++([.one (.v (.int .u64 p7))]++(und 1++([.one (.v (.int .i64 a2)),.one (.v (.int .i64 p8))]++(und 13)))))))) : List PV),([(3,⟨0,2,[[.slice .no (Ze .u8 a0.1),.v (.int .i64 a0.2)]],false,false⟩)] : Boxes)⟩) hr ?_;rintro ⟨p7,p8⟩ x20r hr20
 simp only [ZbU] at hr20;unfold b172_1;refine nst ?_;refine go ?_;by_cases c21 : p8 < a2
 ·replace hr20:=ifP hr20
  refine go ?_;obtain ⟨y22,ehy22,hr20⟩:=bN hr20 ZlX;refine go ?_;refine Zb7 hr20 (.normal) (fun (s : Int)=>match s with | p12=>(⟨(und 1++([.one (.v (.int .i64 a1))]++(und 1++([.ptr 3 0 0 0 2]++(und 3++([.one (.v (.int .u64 p12))]++(und 1++([.one (.v (.int .i64 a2)),.one (.v (.int .i64 p8))]++(und 13)))))))) : List PV),([(3,⟨0,2,[[.slice .no (Ze .u8 a0.1),.v (.int .i64 a0.2)]],false,false⟩)] : Boxes)⟩ : ASt)) (fun (s : Int)=>match s with | p12=>ZaQ p8 p12) ?_ ?_
  ·rintro p12 hk24
   change ZaQ p8 p12 = _ at hk24
   refine go ?_;refine nst ?_;unfold ZaQ at hk24;refine Zb8 rfl (kq:=⟨[1,3,7,9,10],[3],[]⟩) rfl (by simp [Yk, *]; rfl) (by simp [*]; rfl) ?_;exact bk hk24
  ·intro J24
   simp only [pq,reduceCtorEq] at J24;by_cases c25 : y22 = true
   ·replace hr20:=ifP hr20
    refine go ?_;exact jn 1000008 (J24 (bits .or .u64 (IntKind.u64.wrap (p7 * 2)) 1) hr20)
   ·replace hr20:=ifN hr20
    refine go ?_;exact jn 1000008 (J24 (IntKind.u64.wrap (p7 * 2)) hr20)
 ·replace hr20:=ifN hr20
  refine go ?_;obtain ⟨r26,q26,rfl⟩:=ms hr20;refine go ?_;rintro rfl
  refine go ?_;unfold Zej at q26;refine go ?_;exact fin q26
theorem w120 : Walk tt G [(157,K157.G),(171,K171.G),(172,K172.G)] (fun _=>[]) Tryz.f120 K120:=by
 refine .of [(1000010,⟨[1,2,3,9],[3],[]⟩),(6,⟨[1,2,3,9],[3],[]⟩)] false body120 Tryz.ntmps120 fun T hO hT ⟨a0,a1,a2⟩ x hr=>⟨by simp,?_⟩
 simp only [Zq] at hT; simp only at hr ⊢; unfold c120;unfold Zbi at hr;refine go ?_;obtain ⟨y14,ehy14,hr⟩:=bN hr ZlW;refine go ?_;by_cases c15 : y14 = true
 ·replace hr:=ifN hr
  refine go ?_;by_cases c16 : a2 < 0
  ·refine go ?_
   replace hr:=ifP hr
   refine go ?_;exact fin hr
  ·by_cases c17 : 32 < a2
   ·refine go ?_
    replace hr:=ifP hr
    refine go ?_;exact fin hr
   ·by_cases c18 : a1 < 0
    ·refine go ?_
     replace hr:=ifP hr
     refine go ?_;exact fin hr
    ·refine go ?_
     by_cases c19 : a0.2 < a1
     ·replace hr:=ifP hr
      refine go ?_;exact fin hr
     ·replace hr:=ifN hr
      refine go ?_;refine Zb7 hr (.exit 0) (fun (s : Int)=>match s with | p7=>(⟨(und 1++([.one (.v (.int .i64 a1)),.one (.v (.int .i64 a2)),.ptr 3 0 0 0 2]++(und 5++([.one (.v (.int .i64 p7))]++(und 60)))) : List PV),([(3,⟨0,2,[[.slice .no (Ze .u8 a0.1),.v (.int .i64 a0.2)]],false,false⟩)] : Boxes)⟩ : ASt)) (fun (s : Int)=>match s with | p7=>Zan a0 p7 a2 a1) ?_ ?_
      ·rintro p7 hk29
       change Zan a0 p7 a2 a1 = _ at hk29
       refine go ?_;refine nst ?_;unfold Zan at hk29;refine go ?_;refine Y5 rfl (kq:=⟨[1,2,3,9],[3],[]⟩) rfl (by simp [Yk, *]; rfl) (by simp [*]; rfl) ?_;by_cases c30 : IntKind.i64.wrap (a0.2 - p7) < IntKind.i64.wrap (1 + a2)
       ·replace hk29:=ifP hk29
        refine go ?_;exact fin hk29
       ·replace hk29:=ifN hk29
        refine go ?_;obtain ⟨_,hk29⟩:=bC hk29;obtain ⟨_,ehy32,hk29⟩:=bN hk29 ZlY;refine go ?_;exact fin hk29
      ·intro J29
       simp only [pq,reduceCtorEq] at J29;refine lp 6 (fun (p7 : Int)=>⟨(und 1++([.one (.v (.int .i64 a1)),.one (.v (.int .i64 a2)),.ptr 3 0 0 0 2]++(und 5++([.one (.v (.int .i64 p7))]++(und 60)))) : List PV),([(3,⟨0,2,[[.slice .no (Ze .u8 a0.1),.v (.int .i64 a0.2)]],false,false⟩)] : Boxes)⟩) hr ?_;rintro p7 x33r hr33
       simp only [XZ] at hr33;unfold b120_1;refine nst ?_;refine go ?_;by_cases c34 : p7 < a0.2
       ·replace hr33:=Zgb hr33
        obtain ⟨_,hz35,hr33⟩:=bs hr33;obtain ⟨y36,ehy36,hz35⟩:=bN hz35 ZlX;obtain rfl:=Option.some.inj hz35;refine go ?_;by_cases c37 : y36 = true
        ·replace hr33:=ifP hr33
         refine go ?_;by_cases c38 : 65536 < IntKind.i64.wrap ((IntKind.i64.wrap (p7 + 1)) - a1)
         ·replace hr33:=ifP hr33
          refine go ?_;exact fin hr33
         ·replace hr33:=ifN hr33
          refine go ?_;exact bk hr33
        ·replace hr33:=ifN hr33
         refine go ?_;obtain ⟨r39,q39,rfl⟩:=ms hr33;refine go ?_;rintro rfl
         refine go ?_;exact jn 1000010 (J29 p7 q39)
       ·replace hr33:=Zgc hr33
        obtain ⟨_,hz40,hr33⟩:=bs hr33;obtain rfl:=Option.some.inj hz40;refine go ?_
        replace hr33:=ifN hr33
        refine go ?_;obtain ⟨r41,q41,rfl⟩:=ms hr33;refine go ?_;rintro rfl
        refine go ?_;exact jn 1000010 (J29 p7 q41)
 ·replace hr:=ifP hr
  refine go ?_;exact fin hr
theorem w121 : Walk tt G [(157,K157.G),(172,K172.G)] (fun _=>[]) Tryz.f121 K121:=by
 refine .of [] false body121 Tryz.ntmps121 fun T hO hT ⟨a0,a1,a2⟩ x hr=>⟨by simp,?_⟩
 simp only [Zq] at hT; simp only at hr ⊢; unfold c121;unfold Zek at hr;refine go ?_;obtain ⟨y3,ehy3,hr⟩:=bN hr ZlW;refine go ?_;by_cases c4 : y3 = true
 ·replace hr:=ifN hr
  refine go ?_;by_cases c5 : a2 < 0
  ·refine go ?_
   replace hr:=ifP hr
   refine go ?_;exact fin hr
  ·by_cases c6 : 64 < a2
   ·refine go ?_
    replace hr:=ifP hr
    refine go ?_;exact fin hr
   ·by_cases c7 : a1 < 0
    ·refine go ?_
     replace hr:=ifP hr
     refine go ?_;exact fin hr
    ·refine go ?_
     by_cases c8 : a0.2 < a1
     ·replace hr:=ifP hr
      refine go ?_;exact fin hr
     ·replace hr:=ifN hr
      refine go ?_;by_cases c9 : IntKind.i64.wrap (a0.2 - a1) < a2
      ·replace hr:=ifP hr
       refine go ?_;exact fin hr
      ·replace hr:=ifN hr
       refine go ?_;obtain ⟨_,ehy10,hr⟩:=bN hr ZlY;refine go ?_;exact fin hr
 ·replace hr:=ifP hr
  refine go ?_;exact fin hr
theorem w84 : Walk tt G [(120,K120.G),(121,K121.G)] (fun _=>[]) Tryz.f84 K84:=by
 refine .of [(9,⟨[1,6,7,8,9,48,49],[6,46],[]⟩)] false body84 Tryz.ntmps84 fun T hO hT ⟨a0,a1⟩ x hr=>⟨by simp,?_⟩
 simp only [Zq] at hT; simp only at hr ⊢; unfold c84;unfold Zbj at hr;refine go ?_;by_cases c18 : 4096 < a0.1
 ·refine go ?_
  replace hr:=ifP hr
  refine go ?_;exact fin hr
 ·refine go ?_
  by_cases c19 : 200000 < (a0.2.length : Int)
  ·have c19N:=nrm c19
   replace hr:=ifP hr
   refine go ?_;exact fin hr
  ·have c19N:=nrm c19
   replace hr:=ifN hr
   refine go ?_;by_cases c20 : a0.1 < 0
   ·refine go ?_
    replace hr:=ifP hr
    refine go ?_;exact fin hr
   ·by_cases c21 : a1 < 0
    ·refine go ?_
     replace hr:=ifP hr
     refine go ?_;exact fin hr
    ·refine go ?_
     by_cases c22 : 32 < a1
     ·replace hr:=ifP hr
      refine go ?_;exact fin hr
     ·replace hr:=ifN hr
      refine go ?_;obtain ⟨⟨_,_⟩,hr⟩:=bC hr;have mf24 : 0≤(a0.1).toNat:=by omega
      have mf25 : (a0.1).toNat * 8≤140737488355328:=by omega
      have mf26 : (a0.1).toNat≤9223372036854775807:=by omega
      have mf27 : 0≤a0.1:=by omega
      refine go ?_;refine lp 9 (fun (⟨p9,p10,p11,p12⟩ : Int×Int×Int×(List Int))=>⟨(und 1++([.one (.v (.int .i64 a1))]++(und 4++([.ptr 6 0 0 0 2,.one (.ms 46 0 0 (p12.length) 1),.one (.v (.int .u64 p9)),.one (.v (.int .i64 p10))]++(und 38++([.one (.v (.int .i64 a0.1)),.one (.v (.int .i64 p11))]++(und 46)))))) : List PV),([(6,⟨0,2,[[.slice .no (Ze .u8 a0.2),.v (.int .i64 (IntKind.i64.wrap (8 * (a0.2.length : Int))))]],false,false⟩),(46,⟨0,1,Ze .u64 p12,false,true⟩)] : Boxes)⟩) hr ?_;rintro ⟨p9,p10,p11,p12⟩ x35r hr35
      simp only [Zao] at hr35;unfold b84_1;refine nst ?_;refine go ?_;by_cases c36 : p11 < a0.1
      ·replace hr35:=ifP hr35
       refine go ?_;obtain ⟨y37,ehy37,hr35⟩:=bN hr35 Zqq;refine go ?_;rcases eqT (y37.2.2 = 0) with c38 | c38
       ·replace hr35:=ifN hr35
        refine go ?_;by_cases c39 : IntKind.u64.wrap (p9 + y37.1) < p9
        ·replace hr35:=ifP hr35
         refine go ?_;exact fin hr35
        ·replace hr35:=ifN hr35
         refine go ?_;obtain ⟨_,hr35⟩:=bC hr35;have n1_u40_0 : (p12.length + 1) * 8≤140737488355328:=by omega
         have n2_u40_0 : p12.length + 1≤9223372036854775807:=by omega
         refine go ?_;exact bk hr35
       ·replace hr35:=ifP hr35
        refine go ?_;exact fin hr35
      ·replace hr35:=ifN hr35
       refine go ?_;obtain ⟨r41,q41,rfl⟩:=ms hr35;refine go ?_;rintro rfl
       refine go ?_;unfold Zdk at q41;refine go ?_;by_cases c42 : 8≤IntKind.i64.wrap ((IntKind.i64.wrap (8 * (a0.2.length : Int))) - p10)
       ·have c42N:=nrm c42
        replace q41:=ifP q41
        refine go ?_;exact fin q41
       ·have c42N:=nrm c42
        replace q41:=ifN q41
        refine go ?_;obtain ⟨y43,ehy43,q41⟩:=bN q41 Zqr;refine go ?_;rcases eqT (y43.2.2 = 0) with c44 | c44
        ·replace q41:=ifN q41
         refine go ?_;rcases eqT (y43.1 = 0) with c45 | c45
         ·replace q41:=ifN q41
          refine go ?_;exact fin q41
         ·replace q41:=ifP q41
          refine go ?_;exact fin q41
        ·replace q41:=ifP q41
         refine go ?_;exact fin q41
theorem w161 : Walk tt G [] (fun _=>[]) Tryz.f161 K161:=by
 refine .of [] false body161 Tryz.ntmps161 fun T hO hT ⟨a0,a1⟩ x hr=>⟨by simp,?_⟩
 simp only [Zq] at hT; simp only at hr ⊢; unfold c161;unfold Zas at hr;refine go ?_;exact fin hr
theorem w111 : Walk tt G [(161,K161.G)] (fun _=>[]) Tryz.f111 K111:=by
 refine .of [] false body111 Tryz.ntmps111 fun T hO hT ⟨a0,a1⟩ x hr=>⟨by simp,?_⟩
 simp only [Zq] at hT; simp only at hr ⊢; unfold c111;unfold Zei at hr;refine go ?_;obtain ⟨_,ehy2,hr⟩:=bN hr ZlZ;refine go ?_;exact fin hr
theorem w200 : Walk tt G [] (fun _=>[]) Tryz.f200 K200:=by
 refine .of [] false body200 Tryz.ntmps200 fun T hO hT ⟨a0,a1⟩ x hr=>⟨by simp,?_⟩
 simp only [Zq] at hT; simp only at hr ⊢; unfold c200;unfold ZH at hr;refine go ?_;obtain ⟨_,hr⟩:=bC hr;obtain ⟨_,hr⟩:=bC hr;refine go ?_;exact fin hr
theorem w163 : Walk tt G [(200,K200.G)] (fun _=>[]) Tryz.f163 K163:=by
 refine .of [(2,⟨[2,4,5,6],[2,4],[]⟩)] false body163 Tryz.ntmps163 fun T hO hT ⟨a0,a1⟩ x hr=>⟨by simp,?_⟩
 simp only [Zq] at hT; simp only at hr ⊢; unfold c163;unfold ZcD at hr;refine go ?_;refine lp 2 (fun (⟨p19,p20⟩ : Int×(Arr 4))=>⟨(und 2++([.ptr 2 0 0 0 4]++(und 1++([.ptr 4 0 0 0 4,.one (.v (.int .i64 a1)),.one (.v (.int .i64 p19))]++(und 75)))) : List PV),([(2,⟨0,4,[arC .u64 p20],false,false⟩),(4,⟨0,4,[arC .u64 (zA 4)],false,false⟩)] : Boxes)⟩) hr ?_;rintro ⟨p19,p20⟩ x106r hr106
 simp only [Zca] at hr106;unfold b163_1;refine nst ?_;refine go ?_;by_cases c107 : p19 < a1
 ·replace hr106:=ifP hr106
  refine go ?_;obtain ⟨y115,ehy115,hr106⟩:=bN hr106 ZbK;refine go ?_;obtain ⟨y124,ehy124,hr106⟩:=bN hr106 ZbK;refine go ?_;obtain ⟨x130,hx130,hr106⟩:=bs hr106;have qhx130:=Option.some.inj hx130;have ap131:=(Xd (k:=.u64) ((((p20.put 0 (IntKind.u64.wrap ((p20.at 0) + (p20.at 1)))).put 1 y115).put 1 (bits .xor .u64 (((p20.put 0 (IntKind.u64.wrap ((p20.at 0) + (p20.at 1)))).put 1 y115).at 1) (((p20.put 0 (IntKind.u64.wrap ((p20.at 0) + (p20.at 1)))).put 1 y115).at 0))).put 0 y124) (i:=2) (by decide) (IntKind.u64.wrap ((((((p20.put 0 (IntKind.u64.wrap ((p20.at 0) + (p20.at 1)))).put 1 y115).put 1 (bits .xor .u64 (((p20.put 0 (IntKind.u64.wrap ((p20.at 0) + (p20.at 1)))).put 1 y115).at 1) (((p20.put 0 (IntKind.u64.wrap ((p20.at 0) + (p20.at 1)))).put 1 y115).at 0))).put 0 y124).at 2) + (((((p20.put 0 (IntKind.u64.wrap ((p20.at 0) + (p20.at 1)))).put 1 y115).put 1 (bits .xor .u64 (((p20.put 0 (IntKind.u64.wrap ((p20.at 0) + (p20.at 1)))).put 1 y115).at 1) (((p20.put 0 (IntKind.u64.wrap ((p20.at 0) + (p20.at 1)))).put 1 y115).at 0))).put 0 y124).at 3)))).trans (congrArg _ qhx130);refine go ?_;obtain ⟨y134,ehy134,hr106⟩:=bN hr106 ZbK;refine go ?_;obtain ⟨y148,ehy148,hr106⟩:=bN hr106 ZbK;refine go ?_;obtain ⟨_,hx154,hr106⟩:=bs hr106;have qhx154:=Option.some.inj hx154;have ap155:=(Xd (k:=.u64) ((((x130.put 3 y134).put 3 (bits .xor .u64 ((x130.put 3 y134).at 3) ((x130.put 3 y134).at 2))).put 0 (IntKind.u64.wrap ((((x130.put 3 y134).put 3 (bits .xor .u64 ((x130.put 3 y134).at 3) ((x130.put 3 y134).at 2))).at 0) + (((x130.put 3 y134).put 3 (bits .xor .u64 ((x130.put 3 y134).at 3) ((x130.put 3 y134).at 2))).at 3)))).put 3 y148) (i:=3) (by decide) (bits .xor .u64 (((((x130.put 3 y134).put 3 (bits .xor .u64 ((x130.put 3 y134).at 3) ((x130.put 3 y134).at 2))).put 0 (IntKind.u64.wrap ((((x130.put 3 y134).put 3 (bits .xor .u64 ((x130.put 3 y134).at 3) ((x130.put 3 y134).at 2))).at 0) + (((x130.put 3 y134).put 3 (bits .xor .u64 ((x130.put 3 y134).at 3) ((x130.put 3 y134).at 2))).at 3)))).put 3 y148).at 3) (((((x130.put 3 y134).put 3 (bits .xor .u64 ((x130.put 3 y134).at 3) ((x130.put 3 y134).at 2))).put 0 (IntKind.u64.wrap ((((x130.put 3 y134).put 3 (bits .xor .u64 ((x130.put 3 y134).at 3) ((x130.put 3 y134).at 2))).at 0) + (((x130.put 3 y134).put 3 (bits .xor .u64 ((x130.put 3 y134).at 3) ((x130.put 3 y134).at 2))).at 3)))).put 3 y148).at 0))).trans (congrArg _ qhx154);refine go ?_;obtain ⟨_,ehy163,hr106⟩:=bN hr106 ZbK;refine go ?_;obtain ⟨_,ehy172,hr106⟩:=bN hr106 ZbK;refine go ?_;exact bk hr106
 ·replace hr106:=ifN hr106
  refine go ?_;obtain ⟨r174,q174,rfl⟩:=ms hr106;refine go ?_;rintro rfl
  refine go ?_;unfold ZeC at q174;refine go ?_;exact fin q174
theorem w162 : Walk tt G [(163,K163.G)] (fun _=>[]) Tryz.f162 K162:=by
 refine .of [] false body162 Tryz.ntmps162 fun T hO hT ⟨a0,a1⟩ x hr=>⟨by simp,?_⟩
 simp only [Zq] at hT; simp only at hr ⊢; unfold c162;unfold ZbY at hr;refine go ?_;obtain ⟨_,ehy5,hr⟩:=bN hr Zl0;refine go ?_;exact fin hr
theorem w112 : Walk tt G [(69,K69.G),(162,K162.G),(163,K163.G)] (fun _=>[]) Tryz.f112 K112:=by
 refine .of [(4,⟨[1,5,6,24,25],[5],[]⟩)] false body112 Tryz.ntmps112 fun T hO hT ⟨a0,a1⟩ x hr=>⟨by simp,?_⟩
 simp only [Zq] at hT; simp only at hr ⊢; unfold c112;unfold ZeD at hr;refine Y3 ?_;refine lp 4 (fun (⟨p9,p10⟩ : Int×(Arr 4))=>⟨(und 1++([.one (.slice .no (Ze .u8 a1))]++(und 3++([.ptr 5 0 0 0 4,.one (.v (.int .i64 (IntKind.i64.wrap (((a1.length : Int)).tdiv 8))))]++(und 17++([.one (.v (.int .i64 (IntKind.i64.wrap (((a1.length : Int)).tdiv 8)))),.one (.v (.int .i64 p9))]++(und 43)))))) : List PV),([(5,⟨0,4,[arC .u64 p10],false,false⟩)] : Boxes)⟩) hr ?_;rintro ⟨p9,p10⟩ x42r hr42
 simp only [Zdu] at hr42;unfold b112_1;refine nst ?_;refine Y3 ?_;by_cases c43 : p9 < IntKind.i64.wrap (((a1.length : Int)).tdiv 8)
 ·have c43N:=nrm c43
  replace hr42:=ifP hr42
  refine Y3 ?_;obtain ⟨⟨_,_,_⟩,hr42⟩:=bC hr42;have sf45 : (IntKind.i64.wrap (8 * p9)).toNat≤(IntKind.i64.wrap ((IntKind.i64.wrap (8 * p9)) + 8)).toNat:=by omega
  have sf46 : (IntKind.i64.wrap ((IntKind.i64.wrap (8 * p9)) + 8)).toNat≤a1.length:=by omega
  have sf47 : 0≤IntKind.i64.wrap ((IntKind.i64.wrap (8 * p9)) + 8):=by omega
  obtain ⟨_,ehy48,hr42⟩:=bN hr42 Zi8;obtain ⟨_,ehy49,hr42⟩:=bN hr42 Zl1;refine Y3 ?_;exact bk hr42
 ·have c43N:=nrm c43
  replace hr42:=ifN hr42
  refine Y3 ?_;obtain ⟨r50,q50,rfl⟩:=ms hr42;refine Y3 ?_;rintro rfl
  refine Y3 ?_;unfold Zga at q50;obtain ⟨⟨_,_⟩,q50⟩:=bC q50;have sf52 : (IntKind.i64.wrap (8 * (IntKind.i64.wrap (((a1.length : Int)).tdiv 8)))).toNat≤a1.length:=by omega
  obtain ⟨_,ehy53,q50⟩:=bN q50 Zi8;obtain ⟨_,ehy54,q50⟩:=bN q50 Zl1;refine Y3 ?_;obtain ⟨_,ehy58,q50⟩:=bN q50 Zl0;refine Y3 ?_;exact fin q50
theorem w199 : Walk tt G [] (fun _=>[]) Tryz.f199 K199:=by
 refine .of [] false body199 Tryz.ntmps199 fun T hO hT a0 x hr=>⟨by simp,?_⟩
 simp only [Zq] at hT; simp only at hr ⊢; unfold c199;unfold XV at hr;refine go ?_;exact fin hr
end Go.Proofs.YthpkpciceodioaaGreatDoor
