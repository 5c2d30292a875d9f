import Derived.Test.YthpkpciceodioaaGreatDoorLfK
import Derived.Test.YthpkpciceodioaaGreatDoorCode
import Derived.Test.YthpkpciceodioaaGreatDoorBl
namespace Go.Proofs.YthpkpciceodioaaGreatDoor
open Go.RowKit
open Go.Av
open Go.Lc
set_option maxRecDepth 100000
set_option linter.unusedSimpArgs false
set_option linter.unusedVariables false
set_option maxHeartbeats 4000000
theorem w78 : Walk tt G [] (fun _=>[]) Tryz.f78 K78:=by
 refine .of [(3,⟨[0,3,6,7],[],[]⟩)] false body78 Tryz.ntmps78 fun T hO hT a0 x hr=>⟨by simp,?_⟩
 simp only [Zq] at hT; simp only at hr ⊢; unfold c78;unfold Zbd at hr;refine go ?_;refine lp 3 (fun (⟨p7,p8⟩ : Int×Int)=>⟨([.one (.slice .no (Ze .u8 a0))]++(und 2++([.one (.v (.int .u64 p7))]++(und 2++([.one (.v (.int .i64 (a0.length : Int))),.one (.v (.int .i64 p8))]++(und 14))))) : List PV),([] : Boxes)⟩) hr ?_;rintro ⟨p7,p8⟩ x18r hr18
 simp only [Zgn] at hr18;unfold b78_1;refine nst ?_;refine go ?_;by_cases c19 : p8 < (a0.length : Int)
 ·have c19N:=nrm c19
  replace hr18:=ifP hr18
  refine go ?_;obtain ⟨_,⟨_,_,_⟩,hr18⟩:=bI hr18;obtain ⟨_,hr18⟩:=bC hr18;refine go ?_;exact bk hr18
 ·have c19N:=nrm c19
  replace hr18:=ifN hr18
  refine go ?_;obtain ⟨r22,q22,rfl⟩:=ms hr18;refine go ?_;rintro rfl
  refine go ?_;unfold Zgm at q22;refine go ?_;exact fin q22
theorem w41 : Walk tt G [(78,K78.G)] (fun _=>[]) Tryz.f41 K41:=by
 refine .of [] false body41 Tryz.ntmps41 fun T hO hT a0 x hr=>⟨by simp,?_⟩
 simp only [Zq] at hT; simp only at hr ⊢; unfold c41;unfold Zde at hr;refine go ?_;obtain ⟨_,ehy3,hr⟩:=bN hr Zi9;obtain ⟨_,ehy4,hr⟩:=bN hr Zi9;refine go ?_;exact fin hr
theorem w173 : Walk tt G [] (fun _=>[]) Tryz.f173 K173:=by
 refine .of [] false body173 Tryz.ntmps173 fun T hO hT ⟨a0,a1⟩ x hr=>⟨by simp,?_⟩
 simp only [Zq] at hT; simp only at hr ⊢; unfold c173;unfold ZbR at hr;refine go ?_;obtain ⟨_,⟨_,_,_⟩,hr⟩:=bI hr;obtain ⟨_,hr⟩:=bC hr;refine go ?_;exact fin hr
theorem w169 : Walk tt G [(173,K173.G)] (fun _=>[]) Tryz.f169 K169:=by
 refine .of [(4,⟨[1,3],[1],[]⟩)] false body169 Tryz.ntmps169 fun T hO hT a0 x hr=>⟨by simp,?_⟩
 simp only [Zq] at hT; simp only at hr ⊢; unfold c169;unfold Zbt at hr;refine Y3 ?_;by_cases c7 : a0.2 < 0
 ·refine Y3 ?_
  replace hr:=ifP hr
  refine Y3 ?_;exact fin hr
 ·by_cases c8 : 1600000 < a0.2
  ·refine Y3 ?_
   replace hr:=ifP hr
   refine Y3 ?_;exact fin hr
  ·refine Y3 ?_
   rcases eqT ((a0.1.length : Int) = IntKind.i64.wrap ((IntKind.i64.wrap (a0.2 + 7)).tdiv 8)) with c9 | c9
   ·have c9N:=nrm c9
    replace hr:=ifN hr
    refine Y3 ?_;refine lp 4 (fun (p4 : Int)=>⟨(und 1++([.ptr 1 0 0 0 2]++(und 1++([.one (.v (.int .i64 p4))]++(und 31)))) : List PV),([(1,⟨0,2,[[.slice .no (Ze .u8 a0.1),.v (.int .i64 a0.2)]],false,false⟩)] : Boxes)⟩) hr ?_;rintro p4 x15r hr15
    simp only [ZbS] at hr15;unfold b169_1;refine nst ?_;refine Y3 ?_;by_cases c16 : p4 < IntKind.i64.wrap (8 * (a0.1.length : Int))
    ·have c16N:=nrm c16
     replace hr15:=ifP hr15
     refine Y3 ?_;obtain ⟨y17,ehy17,hr15⟩:=bN hr15 Zjv;refine Y3 ?_;by_cases c18 : y17 = true
     ·replace hr15:=ifP hr15
      refine Y3 ?_;exact fin hr15
     ·replace hr15:=ifN hr15
      refine Y3 ?_;exact bk hr15
    ·have c16N:=nrm c16
     replace hr15:=ifN hr15
     refine Y3 ?_;obtain ⟨r19,q19,rfl⟩:=ms hr15;refine Y3 ?_;rintro rfl
     refine Y3 ?_;unfold Lref18_Valid_k1 at q19;refine Y3 ?_;exact fin q19
   ·have c9N:=nrm c9
    replace hr:=ifP hr
    refine Y3 ?_;exact fin hr
theorem w174 : Walk tt G [(173,K173.G)] (fun _=>[]) Tryz.f174 K174:=by
 refine .of [(3,⟨[1,2,3,7,8],[3],[]⟩),(1000004,⟨[1,2,3,7,8],[3],[]⟩)] false body174 Tryz.ntmps174 fun T hO hT ⟨a0,a1,a2⟩ x hr=>⟨by simp,?_⟩
 simp only [Zq] at hT; simp only at hr ⊢; unfold c174;unfold Za1 at hr;refine go ?_;refine lp 3 (fun (⟨p7,p8⟩ : Int×Int)=>⟨(und 1++([.one (.v (.int .i64 a1)),.one (.v (.int .i64 a2)),.ptr 3 0 0 0 2]++(und 3++([.one (.v (.int .u64 p7)),.one (.v (.int .i64 p8))]++(und 16)))) : List PV),([(3,⟨0,2,[[.slice .no (Ze .u8 a0.1),.v (.int .i64 a0.2)]],false,false⟩)] : Boxes)⟩) hr ?_;rintro ⟨p7,p8⟩ x20r hr20
 simp only [Zbx] at hr20;unfold b174_1;refine nst ?_;refine go ?_;by_cases c21 : p8 < IntKind.i64.wrap (a1 + a2)
 ·replace hr20:=ifP hr20
  refine go ?_;obtain ⟨y22,ehy22,hr20⟩:=bN hr20 Zjv;refine go ?_;refine Zb7 hr20 (.normal) (fun (s : Int)=>match s with | p12=>(⟨(und 1++([.one (.v (.int .i64 a1)),.one (.v (.int .i64 a2)),.ptr 3 0 0 0 2]++(und 3++([.one (.v (.int .u64 p12)),.one (.v (.int .i64 p8))]++(und 16)))) : List PV),([(3,⟨0,2,[[.slice .no (Ze .u8 a0.1),.v (.int .i64 a0.2)]],false,false⟩)] : Boxes)⟩ : ASt)) (fun (s : Int)=>match s with | p12=>Zau p8 p12) ?_ ?_
  ·rintro p12 hk24
   change Zau p8 p12 = _ at hk24
   refine go ?_;refine nst ?_;unfold Zau at hk24;refine Zb8 rfl (kq:=⟨[1,2,3,7,8],[3],[]⟩) rfl (by simp [Yk, *]; rfl) (by simp [*]; rfl) ?_;exact bk hk24
  ·intro J24
   simp only [pq,reduceCtorEq] at J24;by_cases c25 : y22 = true
   ·replace hr20:=ifP hr20
    refine go ?_;exact jn 1000004 (J24 (IntKind.u64.wrap ((IntKind.u64.wrap (p7 * 2)) + 1)) hr20)
   ·replace hr20:=ifN hr20
    refine go ?_;exact jn 1000004 (J24 (IntKind.u64.wrap (p7 * 2)) hr20)
 ·replace hr20:=ifN hr20
  refine go ?_;obtain ⟨r26,q26,rfl⟩:=ms hr20;refine go ?_;rintro rfl
  refine go ?_;unfold Zd0 at q26;refine go ?_;exact fin q26
theorem w123 : Walk tt G [(169,K169.G),(173,K173.G),(174,K174.G)] (fun _=>[]) Tryz.f123 K123:=by
 refine .of [(1000010,⟨[1,2,3,9],[3],[]⟩),(6,⟨[1,2,3,9],[3],[]⟩)] false body123 Tryz.ntmps123 fun T hO hT ⟨a0,a1,a2⟩ x hr=>⟨by simp,?_⟩
 simp only [Zq] at hT; simp only at hr ⊢; unfold c123;unfold ZaR at hr;refine go ?_;obtain ⟨y14,ehy14,hr⟩:=bN hr Zl5;refine go ?_;by_cases c15 : y14 = true
 ·replace hr:=ifN hr
  refine go ?_;by_cases c16 : a2 < 0
  ·refine go ?_
   replace hr:=ifP hr
   refine go ?_;exact fin hr
  ·by_cases c17 : 32 < a2
   ·refine go ?_
    replace hr:=ifP hr
    refine go ?_;exact fin hr
   ·by_cases c18 : a1 < 0
    ·refine go ?_
     replace hr:=ifP hr
     refine go ?_;exact fin hr
    ·refine go ?_
     by_cases c19 : a0.2 < a1
     ·replace hr:=ifP hr
      refine go ?_;exact fin hr
     ·replace hr:=ifN hr
      refine go ?_;refine Zb7 hr (.exit 0) (fun (s : Int)=>match s with | p7=>(⟨(und 1++([.one (.v (.int .i64 a1)),.one (.v (.int .i64 a2)),.ptr 3 0 0 0 2]++(und 5++([.one (.v (.int .i64 p7))]++(und 63)))) : List PV),([(3,⟨0,2,[[.slice .no (Ze .u8 a0.1),.v (.int .i64 a0.2)]],false,false⟩)] : Boxes)⟩ : ASt)) (fun (s : Int)=>match s with | p7=>Zaf a0 a1 p7 a2) ?_ ?_
      ·rintro p7 hk29
       change Zaf a0 a1 p7 a2 = _ at hk29
       refine go ?_;refine nst ?_;unfold Zaf at hk29;refine go ?_;refine Y5 rfl (kq:=⟨[1,2,3,9],[3],[]⟩) rfl (by simp [Yk, *]; rfl) (by simp [*]; rfl) ?_;by_cases c30 : IntKind.i64.wrap ((IntKind.i64.wrap (a0.2 - a1)) - p7) < IntKind.i64.wrap (1 + a2)
       ·replace hk29:=ifP hk29
        refine go ?_;exact fin hk29
       ·replace hk29:=ifN hk29
        refine go ?_;obtain ⟨_,hk29⟩:=bC hk29;obtain ⟨_,ehy32,hk29⟩:=bN hk29 Zl6;refine go ?_;exact fin hk29
      ·intro J29
       simp only [pq,reduceCtorEq] at J29;refine lp 6 (fun (p7 : Int)=>⟨(und 1++([.one (.v (.int .i64 a1)),.one (.v (.int .i64 a2)),.ptr 3 0 0 0 2]++(und 5++([.one (.v (.int .i64 p7))]++(und 63)))) : List PV),([(3,⟨0,2,[[.slice .no (Ze .u8 a0.1),.v (.int .i64 a0.2)]],false,false⟩)] : Boxes)⟩) hr ?_;rintro p7 x33r hr33
       simp only [XO] at hr33;unfold b123_1;refine nst ?_;refine go ?_;by_cases c34 : IntKind.i64.wrap (a1 + p7) < a0.2
       ·replace hr33:=Zgb hr33
        obtain ⟨_,hz35,hr33⟩:=bs hr33;obtain ⟨y36,ehy36,hz35⟩:=bN hz35 Zjv;obtain rfl:=Option.some.inj hz35;refine go ?_;by_cases c37 : y36 = true
        ·replace hr33:=ifP hr33
         refine go ?_;by_cases c38 : 65536 < IntKind.i64.wrap (p7 + 1)
         ·replace hr33:=ifP hr33
          refine go ?_;exact fin hr33
         ·replace hr33:=ifN hr33
          refine go ?_;exact bk hr33
        ·replace hr33:=ifN hr33
         refine go ?_;obtain ⟨r39,q39,rfl⟩:=ms hr33;refine go ?_;rintro rfl
         refine go ?_;exact jn 1000010 (J29 p7 q39)
       ·replace hr33:=Zgc hr33
        obtain ⟨_,hz40,hr33⟩:=bs hr33;obtain rfl:=Option.some.inj hz40;refine go ?_
        replace hr33:=ifN hr33
        refine go ?_;obtain ⟨r41,q41,rfl⟩:=ms hr33;refine go ?_;rintro rfl
        refine go ?_;exact jn 1000010 (J29 p7 q41)
 ·replace hr:=ifP hr
  refine go ?_;exact fin hr
theorem w124 : Walk tt G [(169,K169.G),(174,K174.G)] (fun _=>[]) Tryz.f124 K124:=by
 refine .of [] false body124 Tryz.ntmps124 fun T hO hT ⟨a0,a1,a2⟩ x hr=>⟨by simp,?_⟩
 simp only [Zq] at hT; simp only at hr ⊢; unfold c124;unfold Zdv at hr;refine go ?_;obtain ⟨y3,ehy3,hr⟩:=bN hr Zl5;refine go ?_;by_cases c4 : y3 = true
 ·replace hr:=ifN hr
  refine go ?_;by_cases c5 : a2 < 0
  ·refine go ?_
   replace hr:=ifP hr
   refine go ?_;exact fin hr
  ·by_cases c6 : 64 < a2
   ·refine go ?_
    replace hr:=ifP hr
    refine go ?_;exact fin hr
   ·by_cases c7 : a1 < 0
    ·refine go ?_
     replace hr:=ifP hr
     refine go ?_;exact fin hr
    ·refine go ?_
     by_cases c8 : a0.2 < a1
     ·replace hr:=ifP hr
      refine go ?_;exact fin hr
     ·replace hr:=ifN hr
      refine go ?_;by_cases c9 : IntKind.i64.wrap (a0.2 - a1) < a2
      ·replace hr:=ifP hr
       refine go ?_;exact fin hr
      ·replace hr:=ifN hr
       refine go ?_;obtain ⟨_,ehy10,hr⟩:=bN hr Zl6;refine go ?_;exact fin hr
 ·replace hr:=ifP hr
  refine go ?_;exact fin hr
theorem w86 : Walk tt G [(123,K123.G),(124,K124.G)] (fun _=>[]) Tryz.f86 K86:=by
 refine .of [(8,⟨[1,2,6,7,8,9],[2,6,71],[(7,none,71,1)]⟩)] false body86 Tryz.ntmps86 fun T hO hT ⟨a0,a1⟩ x hr=>⟨by simp,?_⟩
 simp only [Zq] at hT; simp only at hr ⊢; unfold c86;unfold ZbG at hr;refine go ?_;by_cases c15 : 4096 < a0.1
 ·refine go ?_
  replace hr:=ifP hr
  refine go ?_;exact fin hr
 ·refine go ?_
  by_cases c16 : 200000 < (a0.2.length : Int)
  ·have c16N:=nrm c16
   replace hr:=ifP hr
   refine go ?_;exact fin hr
  ·have c16N:=nrm c16
   replace hr:=ifN hr
   refine go ?_;by_cases c17 : a0.1 < 0
   ·refine go ?_
    replace hr:=ifP hr
    refine go ?_;exact fin hr
   ·by_cases c18 : a1 < 0
    ·refine go ?_
     replace hr:=ifP hr
     refine go ?_;exact fin hr
    ·refine go ?_
     by_cases c19 : 32 < a1
     ·replace hr:=ifP hr
      refine go ?_;exact fin hr
     ·replace hr:=ifN hr
      refine go ?_;refine lp 8 (fun (⟨p7,p8,p9⟩ : Int×Int×(List Int))=>⟨(und 1++([.one (.v (.int .i64 a1)),.ptr 2 0 0 0 2]++(und 3++([.ptr 6 0 0 0 2,.one (.ms 71 0 0 (p9.length) 1),.one (.v (.int .i64 p7)),.one (.v (.int .u64 p8))]++(und 81)))) : List PV),([(2,⟨0,2,[[.v (.int .i64 a0.1),.slice .no (Ze .u8 a0.2)]],false,false⟩),(6,⟨0,2,[[.slice .no (Ze .u8 a0.2),.v (.int .i64 (IntKind.i64.wrap (8 * (a0.2.length : Int))))]],false,false⟩),(71,⟨0,1,Ze .u64 p9,false,true⟩)] : Boxes)⟩) hr ?_;rintro ⟨p7,p8,p9⟩ x27r hr27
      simp only [Zav] at hr27;unfold b86_1;refine nst ?_;refine go ?_;by_cases c28 : (p9.length : Int) < a0.1
      ·have c28N:=nrm c28
       replace hr27:=ifP hr27
       refine go ?_;obtain ⟨y29,ehy29,hr27⟩:=bN hr27 Zqy;refine go ?_;rcases eqT (y29.2.2 = 0) with c30 | c30
       ·replace hr27:=ifN hr27
        refine go ?_;by_cases c31 : IntKind.u64.wrap (p8 + y29.1) < p8
        ·replace hr27:=ifP hr27
         refine go ?_;exact fin hr27
        ·replace hr27:=ifN hr27
         refine go ?_;obtain ⟨_,hr27⟩:=bC hr27;have n1_u32_0 : (p9.length + 1) * 8≤140737488355328:=by omega
         have n2_u32_0 : p9.length + 1≤9223372036854775807:=by omega
         refine go ?_;exact bk hr27
       ·replace hr27:=ifP hr27
        refine go ?_;exact fin hr27
      ·have c28N:=nrm c28
       replace hr27:=ifN hr27
       refine go ?_;obtain ⟨r33,q33,rfl⟩:=ms hr27;refine go ?_;rintro rfl
       refine go ?_;unfold Zd1 at q33;refine go ?_;by_cases c34 : 8≤IntKind.i64.wrap ((IntKind.i64.wrap (8 * (a0.2.length : Int))) - p7)
       ·have c34N:=nrm c34
        replace q33:=ifP q33
        refine go ?_;exact fin q33
       ·have c34N:=nrm c34
        replace q33:=ifN q33
        refine go ?_;obtain ⟨y35,ehy35,q33⟩:=bN q33 Zqz;refine go ?_;rcases eqT (y35.1 = 0) with c36 | c36
        ·replace q33:=ifN q33
         refine go ?_;exact fin q33
        ·replace q33:=ifP q33
         refine go ?_;exact fin q33
theorem w116 : Walk tt G [(161,K161.G)] (fun _=>[]) Tryz.f116 K116:=by
 refine .of [] false body116 Tryz.ntmps116 fun T hO hT ⟨a0,a1⟩ x hr=>⟨by simp,?_⟩
 simp only [Zq] at hT; simp only at hr ⊢; unfold c116;unfold ZcU at hr;refine go ?_;obtain ⟨_,ehy2,hr⟩:=bN hr ZlZ;refine go ?_;exact fin hr
theorem w168 : Walk tt G [(200,K200.G)] (fun _=>[]) Tryz.f168 K168:=by
 refine .of [] false body168 Tryz.ntmps168 fun T hO hT a0 x hr=>⟨by simp,?_⟩
 simp only [Zq] at hT; simp only at hr ⊢; unfold c168;unfold XL at hr;refine go ?_;obtain ⟨y16,ehy16,hr⟩:=bN hr ZbK;refine go ?_;obtain ⟨y22,ehy22,hr⟩:=bN hr ZbK;refine go ?_;obtain ⟨y31,ehy31,hr⟩:=bN hr ZbK;obtain ⟨x34,hx34,hr⟩:=bs hr;have qhx34:=Option.some.inj hx34;have ap35:=(Xd (k:=.u64) ((((a0.put 0 (IntKind.u64.wrap ((a0.at 0) + (a0.at 1)))).put 1 (bits .xor .u64 y16 ((a0.put 0 (IntKind.u64.wrap ((a0.at 0) + (a0.at 1)))).at 0))).put 0 y22).put 2 (IntKind.u64.wrap (((((a0.put 0 (IntKind.u64.wrap ((a0.at 0) + (a0.at 1)))).put 1 (bits .xor .u64 y16 ((a0.put 0 (IntKind.u64.wrap ((a0.at 0) + (a0.at 1)))).at 0))).put 0 y22).at 2) + ((((a0.put 0 (IntKind.u64.wrap ((a0.at 0) + (a0.at 1)))).put 1 (bits .xor .u64 y16 ((a0.put 0 (IntKind.u64.wrap ((a0.at 0) + (a0.at 1)))).at 0))).put 0 y22).at 3)))) (i:=3) (by decide) (bits .xor .u64 y31 (((((a0.put 0 (IntKind.u64.wrap ((a0.at 0) + (a0.at 1)))).put 1 (bits .xor .u64 y16 ((a0.put 0 (IntKind.u64.wrap ((a0.at 0) + (a0.at 1)))).at 0))).put 0 y22).put 2 (IntKind.u64.wrap (((((a0.put 0 (IntKind.u64.wrap ((a0.at 0) + (a0.at 1)))).put 1 (bits .xor .u64 y16 ((a0.put 0 (IntKind.u64.wrap ((a0.at 0) + (a0.at 1)))).at 0))).put 0 y22).at 2) + ((((a0.put 0 (IntKind.u64.wrap ((a0.at 0) + (a0.at 1)))).put 1 (bits .xor .u64 y16 ((a0.put 0 (IntKind.u64.wrap ((a0.at 0) + (a0.at 1)))).at 0))).put 0 y22).at 3)))).at 2))).trans (congrArg _ qhx34);refine go ?_;obtain ⟨y43,ehy43,hr⟩:=bN hr ZbK;refine go ?_;obtain ⟨y54,ehy54,hr⟩:=bN hr ZbK;obtain ⟨_,hx57,hr⟩:=bs hr;have qhx57:=Option.some.inj hx57;have ap58:=(Xd (k:=.u64) (((x34.put 0 (IntKind.u64.wrap ((x34.at 0) + (x34.at 3)))).put 3 (bits .xor .u64 y43 ((x34.put 0 (IntKind.u64.wrap ((x34.at 0) + (x34.at 3)))).at 0))).put 2 (IntKind.u64.wrap ((((x34.put 0 (IntKind.u64.wrap ((x34.at 0) + (x34.at 3)))).put 3 (bits .xor .u64 y43 ((x34.put 0 (IntKind.u64.wrap ((x34.at 0) + (x34.at 3)))).at 0))).at 2) + (((x34.put 0 (IntKind.u64.wrap ((x34.at 0) + (x34.at 3)))).put 3 (bits .xor .u64 y43 ((x34.put 0 (IntKind.u64.wrap ((x34.at 0) + (x34.at 3)))).at 0))).at 1)))) (i:=1) (by decide) (bits .xor .u64 y54 ((((x34.put 0 (IntKind.u64.wrap ((x34.at 0) + (x34.at 3)))).put 3 (bits .xor .u64 y43 ((x34.put 0 (IntKind.u64.wrap ((x34.at 0) + (x34.at 3)))).at 0))).put 2 (IntKind.u64.wrap ((((x34.put 0 (IntKind.u64.wrap ((x34.at 0) + (x34.at 3)))).put 3 (bits .xor .u64 y43 ((x34.put 0 (IntKind.u64.wrap ((x34.at 0) + (x34.at 3)))).at 0))).at 2) + (((x34.put 0 (IntKind.u64.wrap ((x34.at 0) + (x34.at 3)))).put 3 (bits .xor .u64 y43 ((x34.put 0 (IntKind.u64.wrap ((x34.at 0) + (x34.at 3)))).at 0))).at 1)))).at 2))).trans (congrArg _ qhx57);refine go ?_;obtain ⟨_,ehy61,hr⟩:=bN hr ZbK;refine go ?_;exact fin hr
def kp167 : Keep:=fun i=>⟨[],[],[]⟩
theorem w167 {T : Tab} (hO : T.own = fun _=>[]) (hT168 : T 168 = some K168.G) (a0 : (Arr 4)) (a1 : Int) (x : (Arr 4)) (hr : X5 a0 a1 = some x) : ∃ kp fl n,Y8 tt T G kp fl n Tryz.f167 (Zgg (a0,a1)) = some (Ziy (a0,a1) x):=by
 simp only [Zgg,Ziy];refine fnE (kp:=kp167) (w:=false) body167 (by simp) ?_;unfold c167;rw [Tryz.ntmps167];unfold X5 at hr;refine Zd rfl (by simp []; rfl) ?_;have ar3:=YH (k:=.u64) (a0) (i:=3) (by decide);have as4:=YO (k:=.u64) (a0) (i:=3) (by decide);have ap5:=Xd (k:=.u64) (a0) (i:=3) (by decide) (bits .xor .u64 (a0.at 3) a1);refine Zd rfl (by simp [ar3,as4,ap5]; rfl) ?_;obtain ⟨y6,hy6,hr⟩:=bs hr;have ehy6:=Zfz hy6;simp only [K168,nf,nfs] at ehy6;obtain ⟨y7,hy7,hr⟩:=bs hr;have ehy7:=Zfz hy7;simp only [K168,nf,nfs] at ehy7;refine Zd rfl (by simp [hO,hT168,ehy6,ehy7]; rfl) ?_;have ar8:=YH (k:=.u64) (y7) (i:=0) (by decide);have as9:=YO (k:=.u64) (y7) (i:=0) (by decide);have ap10:=Xd (k:=.u64) (y7) (i:=0) (by decide) (bits .xor .u64 (y7.at 0) a1);refine Zd rfl (by simp [ar8,as9,ap10]; rfl) ?_;refine Zd rfl (by simp []; rfl) ?_;refine Zbm ?_;obtain rfl:=Option.some.inj hr;simp [Zaj,]
end Go.Proofs.YthpkpciceodioaaGreatDoor
