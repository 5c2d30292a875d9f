import Derived.Test.YtjdoijdjeapekaaLfK
import Derived.Test.YtjdoijdjeapekaaCode
namespace Go.Proofs.Ytjdoijdjeapekaa
open Go.RowKit
open Go.Av
open Go.Lc
set_option maxRecDepth 100000
set_option linter.unusedSimpArgs false
set_option linter.unusedVariables false
set_option maxHeartbeats 4000000
variable {G : Glob}
theorem w34 : Walk tt G [(43,K43.G),(44,K44.G),(45,G45_1),(46,G46_3)] (fun d=>if d = 25 then [[0,0,1]] else if d = 32 then [[0,0,0,1]] else []) Try.f34 K34:=by
 refine .of [] false body34 Try.ntmps34 fun T hO hT ⟨a0,a1⟩ x hr=>⟨by simp,?_⟩
 simp only [tabAll] at hT; simp only at hr ⊢; unfold c34;unfold Lselection_Best at hr;refine go ?_;obtain ⟨y5,ehy5,hr⟩:=bN hr G43_eq;refine go ?_;rcases eqT (y5 = 0) with c6 | c6
 ·replace hr:=ifN hr
  refine go ?_;obtain ⟨y7,ehy7,hr⟩:=bN hr G44_eq;refine go ?_;by_cases c8 : y7 < a1
  ·replace hr:=ifP hr
   refine go ?_;exact fin hr
  ·replace hr:=ifN hr
   refine go ?_;obtain ⟨_,ehy9,hr⟩:=bG hr fun _=>G45_1_eq
   simp only [E45_1,R45_1,nf,nfs] at ehy9;refine go ?_;obtain ⟨y10,ehy10,hr⟩:=bG hr fun _=>G46_3_eq
   simp only [E46_3,R46_3,nf,nfs] at ehy10;refine go ?_;by_cases c11 : 16384 < (y10.2.2.2.length : Int)
   ·have c11N:=nrm c11
    replace hr:=ifP hr
    refine go ?_;exact fin hr
   ·have c11N:=nrm c11
    replace hr:=ifN hr
    refine go ?_;exact fin hr
 ·replace hr:=ifP hr
  refine go ?_;exact fin hr
theorem w22 : Walk tt G [(14,K14.G),(16,K16.G),(34,K34.G)] (fun _=>[]) Try.f22 K22:=by
 refine .of [(4,⟨[1,2,8,9,19,20,21],[39,43],[(8,none,39,38),(9,none,43,1)]⟩),(1000010,⟨[1,2,8,9,19,20,21],[39,43],[]⟩),(16,⟨[8,16,56,57,58],[39,68],[(16,none,68,38)]⟩)] false body22 Try.ntmps22 fun T hO hT ⟨a0,a1,a2⟩ x hr=>⟨by simp,?_⟩
 simp only [tabAll] at hT; simp only at hr ⊢; unfold c22;unfold Lbuild_choose at hr;refine go ?_;refine lp 4 (fun (⟨p16,p17,p18⟩ : Int×(List Tapi_Spendable)×(List Int))=>⟨(und 1++([.one (.v (.int .i64 a1)),.one (.v (.int .i64 a2))]++(und 5++([.one (.ms 39 0 0 (p17.length) 38),.one (.ms 43 0 0 (p18.length) 1)]++(und 9++([.one (.slice .no (List.map eapi_Spendable a0)),.one (.v (.int .i64 (a0.length : Int))),.one (.v (.int .i64 p16))]++(und 49)))))) : List PV),([(39,⟨0,38,List.map eapi_Spendable p17,false,true⟩),(43,⟨0,1,intsR .i64 p18,false,true⟩)] : Boxes)⟩) hr ?_;rintro ⟨p16,p17,p18⟩ x68r hr68
 simp only [Lbuild_choose_s1] at hr68;unfold b22_1;refine nst ?_;refine go ?_;by_cases c69 : p16 < (a0.length : Int)
 ·have c69N:=nrm c69
  replace hr68:=ifP hr68
  refine go ?_;obtain ⟨x70,⟨_,_,_⟩,hr68⟩:=bI hr68;refine go ?_;obtain ⟨_,ehy71,hr68⟩:=bN hr68 G16_eq;obtain ⟨y72,ehy72,hr68⟩:=bN hr68 G14_eq;refine go ?_;refine ee_J hr68 (.normal) (fun (s : (List Tapi_Spendable)×(List Int))=>match s with | (p51,p52)=>(⟨(und 1++([.one (.v (.int .i64 a1)),.one (.v (.int .i64 a2))]++(und 5++([.one (.ms 39 0 0 (p51.length) 38),.one (.ms 43 0 0 (p52.length) 1)]++(und 9++([.one (.slice .no (List.map eapi_Spendable a0)),.one (.v (.int .i64 (a0.length : Int))),.one (.v (.int .i64 p16))]++(und 49)))))) : List PV),([(39,⟨0,38,List.map eapi_Spendable p51,false,true⟩),(43,⟨0,1,intsR .i64 p52,false,true⟩)] : Boxes)⟩ : ASt)) (fun (s : (List Tapi_Spendable)×(List Int))=>match s with | (p51,p52)=>Lbuild_choose_k3 p16 p51 p52) ?_ ?_
  ·rintro ⟨p51,p52⟩ hk76
   change Lbuild_choose_k3 p16 p51 p52 = _ at hk76
   refine go ?_;refine nst ?_;unfold Lbuild_choose_k3 at hk76;refine ee_regJ rfl (kq:=⟨[1,2,8,9,19,20,21],[39,43],[]⟩) rfl (by simp [joinSt, *]; rfl) (by simp [*] <;> rfl) ?_;exact bk hk76
  ·intro J76
   simp only [pq,reduceCtorEq] at J76;by_cases c77 : 1≤IntKind.i64.wrap (x70.1.2.1.1 - y72)
   ·replace hr68:=ifP hr68
    refine go ?_;obtain ⟨_,hr68⟩:=bC hr68;have n1_u78_0 : (p17.length + 1) * 96≤140737488355328:=by omega
    have n2_u78_0 : p17.length + 1≤9223372036854775807:=by omega
    refine go ?_;obtain ⟨_,hr68⟩:=bC hr68;have n1_u79_0 : (p18.length + 1) * 8≤140737488355328:=by omega
    have n2_u79_0 : p18.length + 1≤9223372036854775807:=by omega
    refine go ?_;exact jn 1000010 (J76 (p17++[x70],p18++[IntKind.i64.wrap (x70.1.2.1.1 - y72)]) hr68)
   ·replace hr68:=ifN hr68
    refine go ?_;exact jn 1000010 (J76 (p17,p18) hr68)
 ·have c69N:=nrm c69
  replace hr68:=ifN hr68
  refine go ?_;obtain ⟨r80,q80,rfl⟩:=ms hr68;refine go ?_;rintro rfl
  refine go ?_;unfold Lbuild_choose_k1 at q80;obtain ⟨y81,ehy81,q80⟩:=bN q80 G34_eq;refine go ?_;rcases eqT (y81.2.2 = 0) with c82 | c82
  ·replace q80:=ifN q80
   refine go ?_;refine lp 16 (fun (⟨p36,p37⟩ : Int×(List Tapi_Spendable))=>⟨(und 8++([.one (.ms 39 0 0 (p17.length) 38)]++(und 7++([.one (.ms 68 0 0 (p37.length) 38)]++(und 39++([.one (.slice .no (intsR .i64 y81.1.1)),.one (.v (.int .i64 (y81.1.1.length : Int))),.one (.v (.int .i64 p36))]++(und 12)))))) : List PV),([(39,⟨0,38,List.map eapi_Spendable p17,false,true⟩),(68,⟨0,38,List.map eapi_Spendable p37,false,true⟩)] : Boxes)⟩) q80 ?_;rintro ⟨p36,p37⟩ x90r hr90
   simp only [Lbuild_choose_s2] at hr90;unfold b22_2;refine nst ?_;refine go ?_;by_cases c91 : p36 < (y81.1.1.length : Int)
   ·have c91N:=nrm c91
    replace hr90:=ifP hr90
    refine go ?_;obtain ⟨_,⟨_,_,_⟩,hr90⟩:=bI hr90;refine go ?_;obtain ⟨_,⟨_,_,_⟩,hr90⟩:=bA hr90;obtain ⟨_,hx94,hr90⟩:=bs hr90;have ghx94:=getE_of hx94;obtain ⟨_,hr90⟩:=bC hr90;have n1_u95_0 : (p37.length + 1) * 96≤140737488355328:=by omega
    have n2_u95_0 : p37.length + 1≤9223372036854775807:=by omega
    refine go ?_;exact bk hr90
   ·have c91N:=nrm c91
    replace hr90:=ifN hr90
    refine go ?_;obtain ⟨r96,q96,rfl⟩:=ms hr90;refine go ?_;rintro rfl
    refine go ?_;unfold Lbuild_choose_k2 at q96;refine go ?_;exact fin q96
  ·replace q80:=ifP q80
   refine go ?_;exact fin q80
theorem w23 : Walk tt G [] (fun _=>[]) Try.f23 K23:=by
 refine .of [(3,⟨[3,6,7,8],[],[]⟩)] false body23 Try.ntmps23 fun T hO hT a0 x hr=>⟨by simp,?_⟩
 simp only [tabAll] at hT; simp only at hr ⊢; unfold c23;unfold Lbuild_paid at hr;refine go ?_;refine lp 3 (fun (⟨p5,p6⟩ : Int×Int)=>⟨(und 3++([.one (.v (.int .i64 p5))]++(und 2++([.one (.slice .no (List.map eapi_Output a0)),.one (.v (.int .i64 (a0.length : Int))),.one (.v (.int .i64 p6))]++(und 9)))) : List PV),([] : Boxes)⟩) hr ?_;rintro ⟨p5,p6⟩ x13r hr13
 simp only [Lbuild_paid_s1] at hr13;unfold b23_1;refine nst ?_;refine go ?_;by_cases c14 : p6 < (a0.length : Int)
 ·have c14N:=nrm c14
  replace hr13:=ifP hr13
  refine go ?_;obtain ⟨_,⟨_,_,_⟩,hr13⟩:=bI hr13;refine go ?_;exact bk hr13
 ·have c14N:=nrm c14
  replace hr13:=ifN hr13
  refine go ?_;obtain ⟨r16,q16,rfl⟩:=ms hr13;refine go ?_;rintro rfl
  refine go ?_;unfold Lbuild_paid_k1 at q16;refine go ?_;exact fin q16
theorem w38 : Walk tt G [] (fun _=>[]) Try.f38 K38:=by
 refine .of [] false body38 Try.ntmps38 fun T hO hT a0 x hr=>⟨by simp,?_⟩
 simp only [tabAll] at hT; simp only at hr ⊢; unfold c38;unfold Ltx_null at hr;refine go ?_;exact fin hr
theorem w26 : Walk tt G [(38,K38.G)] (fun _=>[]) Try.f26 K26:=by
 refine .of [] false body26 Try.ntmps26 fun T hO hT a0 x hr=>⟨by simp,?_⟩
 simp only [tabAll] at hT; simp only at hr ⊢; unfold c26;unfold Ltx_Coinbase at hr;refine go ?_;rcases eqT ((a0.2.1.length : Int) = 1) with c4 | c4
 ·have c4N:=nrm c4
  replace hr:=ifPb hr
  obtain ⟨_,hz5,hr⟩:=bs hr;obtain ⟨_,hx6,hz5⟩:=bs hz5;have hx6c:=getE_of hx6;obtain ⟨_,ehy7,hz5⟩:=bN hz5 G38_eq;obtain rfl:=Option.some.inj hz5;refine go ?_;exact fin hr
 ·have c4N:=nrm c4
  replace hr:=ifNb hr
  obtain ⟨_,hz8,hr⟩:=bs hr;obtain rfl:=Option.some.inj hz8;refine go ?_;exact fin hr
theorem w37 : Walk tt G [] (fun _=>[]) Try.f37 K37:=by
 refine .of [(3,⟨[3,6,7,8],[],[]⟩)] false body37 Try.ntmps37 fun T hO hT a0 x hr=>⟨by simp,?_⟩
 simp only [tabAll] at hT; simp only at hr ⊢; unfold c37;unfold Ltx_money at hr;refine go ?_;refine lp 3 (fun (⟨p5,p6⟩ : Int×Int)=>⟨(und 3++([.one (.v (.int .i64 p5))]++(und 2++([.one (.slice .no (List.map eapi_Output a0)),.one (.v (.int .i64 (a0.length : Int))),.one (.v (.int .i64 p6))]++(und 13)))) : List PV),([] : Boxes)⟩) hr ?_;rintro ⟨p5,p6⟩ x14r hr14
 simp only [Ltx_money_s1] at hr14;unfold b37_1;refine nst ?_;refine go ?_;by_cases c15 : p6 < (a0.length : Int)
 ·have c15N:=nrm c15
  replace hr14:=ifP hr14
  refine go ?_;obtain ⟨x16,⟨_,_,_⟩,hr14⟩:=bI hr14;refine go ?_;by_cases c17 : IntKind.i64.wrap (2100000000000000 - p5) < x16.1
  ·replace hr14:=ifP hr14
   refine go ?_;exact fin hr14
  ·replace hr14:=ifN hr14
   refine go ?_;exact bk hr14
 ·have c15N:=nrm c15
  replace hr14:=ifN hr14
  refine go ?_;obtain ⟨r18,q18,rfl⟩:=ms hr14;refine go ?_;rintro rfl
  refine go ?_;unfold Ltx_money_k1 at q18;refine go ?_;exact fin q18
theorem w25 : Walk tt G [(26,K26.G),(35,K35.G),(37,K37.G)] (fun _=>[]) Try.f25 K25:=by
 refine .of [(9,⟨[1,3,25,26,27],[1,1000000000023],[]⟩)] false body25 Try.ntmps25 fun T hO hT a0 x hr=>⟨by simp,?_⟩
 simp only [tabAll] at hT; simp only at hr ⊢; unfold c25;unfold Ltx_Check at hr;refine go ?_;obtain ⟨y13,ehy13,hr⟩:=bN hr G35_eq;refine go ?_;by_cases c14 : y13 = true
 ·replace hr:=ifN hr
  refine go ?_;rcases eqT ((a0.2.1.length : Int) = 0) with c15 | c15
  ·have c15N:=nrm c15
   refine go ?_
   replace hr:=ifP hr
   refine go ?_;exact fin hr
  ·have c15N:=nrm c15
   refine go ?_;rcases eqT ((a0.2.2.1.length : Int) = 0) with c16 | c16
   ·have c16N:=nrm c16
    replace hr:=ifP hr
    refine go ?_;exact fin hr
   ·have c16N:=nrm c16
    replace hr:=ifN hr
    refine go ?_;obtain ⟨y17,ehy17,hr⟩:=bN hr G37_eq;refine go ?_;by_cases c18 : y17 = true
    ·replace hr:=ifN hr
     refine go ?_;refine lp 9 (fun (⟨p7,p8⟩ : Int×(List (Tapi_OutPoint×Bool)))=>⟨(und 1++([.ptr 1 0 0 0 4]++(und 1++([.one (.mp 1000000000023 0)]++(und 21++([.one (.slice .no (List.map eapi_Input a0.2.1)),.one (.v (.int .i64 (a0.2.1.length : Int))),.one (.v (.int .i64 p7))]++(und 19)))))) : List PV),([(1,⟨0,4,[[.v (.int .u32 a0.1),.slice .no (List.map eapi_Input a0.2.1),.slice .no (List.map eapi_Output a0.2.2.1),.v (.int .u32 a0.2.2.2)]],false,false⟩),(1000000000023,⟨0,6,((arC .u8 (zA 32))++((.v (.int .u32 0)) :: [])) :: List.map eM_api_OutPoint_B p8,false,false⟩)] : Boxes)⟩) hr ?_;rintro ⟨p7,p8⟩ x24r hr24
     simp only [Ltx_Check_s1] at hr24;unfold b25_1;refine nst ?_;refine go ?_;by_cases c25 : p7 < (a0.2.1.length : Int)
     ·have c25N:=nrm c25
      replace hr24:=ifP hr24
      refine go ?_;obtain ⟨x26,⟨_,_,_⟩,hr24⟩:=bI hr24;refine go ?_;by_cases c27 : (mget x26.1 p8).getD false = true
      ·replace hr24:=ifP hr24
       refine go ?_;exact fin hr24
      ·replace hr24:=ifN hr24
       refine go ?_;exact bk hr24
     ·have c25N:=nrm c25
      replace hr24:=ifN hr24
      refine go ?_;obtain ⟨r28,q28,rfl⟩:=ms hr24;refine go ?_;rintro rfl
      refine go ?_;unfold Ltx_Check_k1 at q28;refine go ?_;by_cases c29 : (mget (zA 32,4294967295) p8).getD false = true
      ·replace q28:=ifPb q28
       obtain ⟨_,hz30,q28⟩:=bs q28;obtain ⟨y31,ehy31,hz30⟩:=bN hz30 G26_eq;obtain rfl:=Option.some.inj hz30;refine go ?_;by_cases c32 : y31 = true
       ·replace q28:=ifN q28
        refine go ?_;exact fin q28
       ·replace q28:=ifP q28
        refine go ?_;exact fin q28
      ·replace q28:=ifNb q28
       obtain ⟨_,hz33,q28⟩:=bs q28;obtain rfl:=Option.some.inj hz33;refine go ?_
       replace q28:=ifN q28
       refine go ?_;exact fin q28
    ·replace hr:=ifP hr
     refine go ?_;exact fin hr
 ·replace hr:=ifP hr
  refine go ?_;exact fin hr
end Go.Proofs.Ytjdoijdjeapekaa
