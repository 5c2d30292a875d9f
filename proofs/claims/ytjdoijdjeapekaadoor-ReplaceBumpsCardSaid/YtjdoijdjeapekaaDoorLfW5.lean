import Derived.Test.YtjdoijdjeapekaaDoorLfK
import Derived.Test.YtjdoijdjeapekaaDoorCode
namespace Go.Proofs.YtjdoijdjeapekaaDoor
open Go.RowKit
open Go.Av
open Go.Lc
set_option maxRecDepth 100000
set_option linter.unusedSimpArgs false
set_option linter.unusedVariables false
set_option maxHeartbeats 4000000
theorem w31 : Walk tt G [(16,K16.G),(37,K37.G)] (fun _=>[]) Tryd.f31 K31:=by
 refine .of [(4,⟨[2,3,42,43],[2,3],[]⟩),(10,⟨[2,3,6,7,42,43,79,80],[2,3,6,7],[]⟩),(17,⟨[2,3,99,100],[2,3],[]⟩)] false body31 Tryd.ntmps31 fun T hO hT ⟨a0,a1⟩ x hr=>⟨by simp,?_⟩
 simp only [tabAll] at hT; simp only at hr ⊢; unfold c31;unfold Lref09_SameTx at hr;refine go ?_;rcases eqT (a0.1 = a1.1) with c72 | c72
 ·rcases eqT (a0.2.2.2 = a1.2.2.2) with c73 | c73
  ·rcases eqT ((a0.2.1.length : Int) = (a1.2.1.length : Int)) with c74 | c74
   ·have c74N:=nrm c74
    refine go ?_;rcases eqT ((a0.2.2.1.length : Int) = (a1.2.2.1.length : Int)) with c75 | c75
    ·have c75N:=nrm c75
     replace hr:=ifN hr
     refine go ?_;refine lp 4 (fun (p28 : Int)=>⟨(und 2++([.ptr 2 0 0 0 4,.ptr 3 0 0 0 4]++(und 38++([.one (.v (.int .i64 (a0.2.1.length : Int))),.one (.v (.int .i64 p28))]++(und 72)))) : List PV),([(2,⟨0,4,[[.v (.int .u32 a0.1),.slice .no (List.map eapi_Input a0.2.1),.slice .no (List.map eapi_Output a0.2.2.1),.v (.int .u32 a0.2.2.2)]],false,false⟩),(3,⟨0,4,[[.v (.int .u32 a1.1),.slice .no (List.map eapi_Input a1.2.1),.slice .no (List.map eapi_Output a1.2.2.1),.v (.int .u32 a1.2.2.2)]],false,false⟩)] : Boxes)⟩) hr ?_;rintro p28 x99r hr99
     simp only [Lref09_SameTx_s1] at hr99;unfold b31_1;refine nst ?_;refine go ?_;by_cases c100 : p28 < (a0.2.1.length : Int)
     ·have c100N:=nrm c100
      replace hr99:=ifP hr99
      refine go ?_;obtain ⟨x101,⟨_,_,_⟩,hr99⟩:=bI hr99;obtain ⟨x102,⟨_,_,_⟩,hr99⟩:=bI hr99;refine go ?_;rcases eqT (x101.1.1 = x102.1.1) with c103 | c103
      ·rcases eqT (x101.1.2 = x102.1.2) with c104 | c104
       ·rcases eqT (x101.2.1 = x102.2.1) with c105 | c105
        ·refine go ?_
         rcases eqT ((x101.2.2.length : Int) = (x102.2.2.length : Int)) with c106 | c106
         ·have c106N:=nrm c106
          replace hr99:=ifN hr99
          refine go ?_;refine lp 10 (fun (p65 : Int)=>⟨(und 2++([.ptr 2 0 0 0 4,.ptr 3 0 0 0 4]++(und 2++([.ptr 6 0 0 0 35,.ptr 7 0 0 0 35]++(und 34++([.one (.v (.int .i64 (a0.2.1.length : Int))),.one (.v (.int .i64 p28))]++(und 35++([.one (.v (.int .i64 (x101.2.2.length : Int))),.one (.v (.int .i64 p65))]++(und 35)))))))) : List PV),([(2,⟨0,4,[[.v (.int .u32 a0.1),.slice .no (List.map eapi_Input a0.2.1),.slice .no (List.map eapi_Output a0.2.2.1),.v (.int .u32 a0.2.2.2)]],false,false⟩),(3,⟨0,4,[[.v (.int .u32 a1.1),.slice .no (List.map eapi_Input a1.2.1),.slice .no (List.map eapi_Output a1.2.2.1),.v (.int .u32 a1.2.2.2)]],false,false⟩),(6,⟨0,35,[(arC .u8 x101.1.1)++((.v (.int .u32 x101.1.2)) :: ((.v (.int .u32 x101.2.1)) :: ((.slice .no (List.map eS_I_u8 x101.2.2)) :: [])))],false,false⟩),(7,⟨0,35,[(arC .u8 x102.1.1)++((.v (.int .u32 x102.1.2)) :: ((.v (.int .u32 x102.2.1)) :: ((.slice .no (List.map eS_I_u8 x102.2.2)) :: [])))],false,false⟩)] : Boxes)⟩) hr99 ?_;rintro p65 x114r hr114
          simp only [Lref09_SameTx_s3] at hr114;unfold b31_2;refine nst ?_;refine go ?_;by_cases c115 : p65 < (x101.2.2.length : Int)
          ·have c115N:=nrm c115
           replace hr114:=ifP hr114
           refine go ?_;obtain ⟨_,⟨_,_,_⟩,hr114⟩:=bI hr114;obtain ⟨_,⟨_,_,_⟩,hr114⟩:=bI hr114;obtain ⟨y118,ehy118,hr114⟩:=bN hr114 G37_eq;refine go ?_;by_cases c119 : y118 = true
           ·replace hr114:=ifN hr114
            refine go ?_;exact bk hr114
           ·replace hr114:=ifP hr114
            refine go ?_;exact fin hr114
          ·have c115N:=nrm c115
           replace hr114:=ifN hr114
           refine go ?_;obtain ⟨r120,q120,rfl⟩:=ms hr114;refine go ?_;rintro rfl
           refine go ?_;unfold Lref09_SameTx_k3 at q120;refine go ?_;exact bk q120
         ·have c106N:=nrm c106
          replace hr99:=ifP hr99
          refine go ?_;exact fin hr99
        ·refine go ?_
         replace hr99:=ifP hr99
         refine go ?_;exact fin hr99
       ·refine go ?_
        replace hr99:=ifP hr99
        refine go ?_;exact fin hr99
      ·refine go ?_
       replace hr99:=ifP hr99
       refine go ?_;exact fin hr99
     ·have c100N:=nrm c100
      replace hr99:=ifN hr99
      refine go ?_;obtain ⟨r121,q121,rfl⟩:=ms hr99;refine go ?_;rintro rfl
      refine go ?_;unfold Lref09_SameTx_k1 at q121;refine go ?_;refine lp 17 (fun (p49 : Int)=>⟨(und 2++([.ptr 2 0 0 0 4,.ptr 3 0 0 0 4]++(und 95++([.one (.v (.int .i64 (a0.2.2.1.length : Int))),.one (.v (.int .i64 p49))]++(und 15)))) : List PV),([(2,⟨0,4,[[.v (.int .u32 a0.1),.slice .no (List.map eapi_Input a0.2.1),.slice .no (List.map eapi_Output a0.2.2.1),.v (.int .u32 a0.2.2.2)]],false,false⟩),(3,⟨0,4,[[.v (.int .u32 a1.1),.slice .no (List.map eapi_Input a1.2.1),.slice .no (List.map eapi_Output a1.2.2.1),.v (.int .u32 a1.2.2.2)]],false,false⟩)] : Boxes)⟩) q121 ?_;rintro p49 x129r hr129
      simp only [Lref09_SameTx_s2] at hr129;unfold b31_3;refine nst ?_;refine go ?_;by_cases c130 : p49 < (a0.2.2.1.length : Int)
      ·have c130N:=nrm c130
       replace hr129:=ifP hr129
       refine go ?_;obtain ⟨_,⟨_,_,_⟩,hr129⟩:=bI hr129;obtain ⟨_,⟨_,_,_⟩,hr129⟩:=bI hr129;obtain ⟨y133,ehy133,hr129⟩:=bN hr129 G16_eq;refine go ?_;by_cases c134 : y133 = true
       ·replace hr129:=ifN hr129
        refine go ?_;exact bk hr129
       ·replace hr129:=ifP hr129
        refine go ?_;exact fin hr129
      ·have c130N:=nrm c130
       replace hr129:=ifN hr129
       refine go ?_;obtain ⟨r135,q135,rfl⟩:=ms hr129;refine go ?_;rintro rfl
       refine go ?_;unfold Lref09_SameTx_k2 at q135;refine go ?_;exact fin q135
    ·have c75N:=nrm c75
     replace hr:=ifP hr
     refine go ?_;exact fin hr
   ·have c74N:=nrm c74
    refine go ?_
    replace hr:=ifP hr
    refine go ?_;exact fin hr
  ·refine go ?_
   replace hr:=ifP hr
   refine go ?_;exact fin hr
 ·refine go ?_
  replace hr:=ifP hr
  refine go ?_;exact fin hr
theorem w32 : Walk tt G [(16,K16.G)] (fun _=>[]) Tryd.f32 K32:=by
 refine .of [] false body32 Tryd.ntmps32 fun T hO hT ⟨a0,a1⟩ x hr=>⟨by simp,?_⟩
 simp only [tabAll] at hT; simp only at hr ⊢; unfold c32;unfold Lref34_SameCoin at hr;refine go ?_;rcases eqT (a0.1.1 = a1.1.1) with c3 | c3
 ·rcases eqT (a0.1.2 = a1.1.2) with c4 | c4
  ·replace hr:=ifPb hr
   obtain ⟨_,hz5,hr⟩:=bs hr;obtain ⟨y6,ehy6,hz5⟩:=bN hz5 G16_eq;obtain rfl:=Option.some.inj hz5;by_cases c7 : y6 = true
   ·rcases eqT (a0.2.2.1 = a1.2.2.1) with c8 | c8
    ·refine go ?_
     exact fin hr
    ·refine go ?_
     exact fin hr
   ·refine go ?_
    exact fin hr
  ·replace hr:=ifNb hr
   obtain ⟨_,hz9,hr⟩:=bs hr;obtain rfl:=Option.some.inj hz9;refine go ?_;exact fin hr
 ·replace hr:=ifNb hr
  obtain ⟨_,hz10,hr⟩:=bs hr;obtain rfl:=Option.some.inj hz10;refine go ?_;exact fin hr
theorem w14 : Walk tt G [(31,K31.G),(32,K32.G)] (fun _=>[]) Tryd.f14 K14:=by
 refine .of [(4,⟨[2,3,5],[2,3],[]⟩)] false body14 Tryd.ntmps14 fun T hO hT ⟨a0,a1⟩ x hr=>⟨by simp,?_⟩
 simp only [tabAll] at hT; simp only at hr ⊢; unfold c14;unfold Lref34_Same at hr;refine go ?_;obtain ⟨y16,ehy16,hr⟩:=bN hr G31_eq;by_cases c17 : y16 = true
 ·rcases eqT (a0.2.2.1 = a1.2.2.1) with c18 | c18
  ·rcases eqT (a0.2.2.2 = a1.2.2.2) with c19 | c19
   ·refine go ?_
    rcases eqT ((a0.2.1.length : Int) = (a1.2.1.length : Int)) with c20 | c20
    ·have c20N:=nrm c20
     replace hr:=ifN hr
     refine go ?_;refine lp 4 (fun (p9 : Int)=>⟨(und 2++([.ptr 2 0 0 0 7,.ptr 3 0 0 0 7]++(und 1++([.one (.v (.int .i64 p9))]++(und 48)))) : List PV),([(2,⟨0,7,[[.v (.int .u32 a0.1.1),.slice .no (List.map eapi_Input a0.1.2.1),.slice .no (List.map eapi_Output a0.1.2.2.1),.v (.int .u32 a0.1.2.2.2),.slice .no (List.map eapi_Coin a0.2.1),.v (.int .i64 a0.2.2.1),.v (.int .i64 a0.2.2.2)]],false,false⟩),(3,⟨0,7,[[.v (.int .u32 a1.1.1),.slice .no (List.map eapi_Input a1.1.2.1),.slice .no (List.map eapi_Output a1.1.2.2.1),.v (.int .u32 a1.1.2.2.2),.slice .no (List.map eapi_Coin a1.2.1),.v (.int .i64 a1.2.2.1),.v (.int .i64 a1.2.2.2)]],false,false⟩)] : Boxes)⟩) hr ?_;rintro p9 x28r hr28
     simp only [Lref34_Same_s1] at hr28;unfold b14_1;refine nst ?_;refine go ?_;by_cases c29 : p9 < (a0.2.1.length : Int)
     ·have c29N:=nrm c29
      replace hr28:=ifP hr28
      refine go ?_;obtain ⟨_,⟨_,_,_⟩,hr28⟩:=bI hr28;obtain ⟨_,⟨_,_,_⟩,hr28⟩:=bI hr28;obtain ⟨y32,ehy32,hr28⟩:=bN hr28 G32_eq;refine go ?_;by_cases c33 : y32 = true
      ·replace hr28:=ifN hr28
       refine go ?_;exact bk hr28
      ·replace hr28:=ifP hr28
       refine go ?_;exact fin hr28
     ·have c29N:=nrm c29
      replace hr28:=ifN hr28
      refine go ?_;obtain ⟨r34,q34,rfl⟩:=ms hr28;refine go ?_;rintro rfl
      refine go ?_;unfold Lref34_Same_k1 at q34;refine go ?_;exact fin q34
    ·have c20N:=nrm c20
     replace hr:=ifP hr
     refine go ?_;exact fin hr
   ·refine go ?_
    replace hr:=ifP hr
    refine go ?_;exact fin hr
  ·refine go ?_
   replace hr:=ifP hr
   refine go ?_;exact fin hr
 ·refine go ?_
  replace hr:=ifP hr
  refine go ?_;exact fin hr
theorem w3 : Walk tt G [(5,K5.G),(6,K6.G),(7,K7.G),(8,K8.G),(9,K9.G),(10,K10.G),(11,K11.G),(12,K12.G),(13,K13.G),(14,K14.G)] (fun _=>[]) Tryd.f3 K3:=by
 refine .of [(1000008,⟨[1,2,8],[8],[]⟩),(10,⟨[8,68,69,70],[8,68],[]⟩)] false body3 Tryd.ntmps3 fun T hO hT ⟨a0,a1,a2⟩ x hr=>⟨by simp,?_⟩
 simp only [tabAll] at hT; simp only at hr ⊢; unfold c3;unfold Llaw36_ReplaceBumps at hr;refine goR ?_;obtain ⟨y43,ehy43,hr⟩:=bN hr G5_eq;refine goR ?_;by_cases c44 : y43 = true
 ·replace hr:=ifN hr
  refine goR ?_;obtain ⟨_,ehy45,hr⟩:=bN hr G6_eq;refine goR ?_;obtain ⟨y46,ehy46,hr⟩:=bN hr G8_eq;obtain ⟨y47,ehy47,hr⟩:=bN hr G8_eq;obtain ⟨y48,ehy48,hr⟩:=bN hr G9_eq;obtain ⟨⟨u49_0,_⟩,hr⟩:=bC hr
  have lu49_0 : IntKind.i64.wrap (1 + y48.1)≤((2 : Nat) : Int):=by
   have h:=u49_0;try simp at h
   omega
  try simp only [Int.natCast_add] at lu49_0
  have sf50 : (IntKind.i64.wrap (1 + y48.1)).toNat≤[y46,y47].length:=by omega
  have sf51 : 0≤IntKind.i64.wrap (1 + y48.1):=by omega
  have sf52 : (IntKind.i64.wrap (1 + y48.1)).toNat≤2:=by omega
  have sf53 : 0≤IntKind.i64.wrap (1 + y48.1):=by omega
  obtain ⟨y54,ehy54,hr⟩:=bN hr G7_eq;refine goR ?_;obtain ⟨y55,ehy55,hr⟩:=bN hr G9_eq;rcases eqT (y55.1 = 0) with c56 | c56
  ·refine goR ?_
   refine ee_seq_J hr (fun (s : (List Tapi_Output)×Int×Int)=>match s with | (p10,p11,p12)=>(⟨(und 1++([.one (.v (.int .i64 a1)),.one (.v (.int .i64 a2))]++(und 5++([.ptr 8 0 0 0 7]++(und 93)))) : List PV),([(8,⟨0,7,[[.v (.int .u32 y54.1.1.1),.slice .no (List.map eapi_Input y54.1.1.2.1),.slice .no (List.map eapi_Output p10),.v (.int .u32 y54.1.1.2.2.2),.slice .no (List.map eapi_Coin y54.1.2.1),.v (.int .i64 p11),.v (.int .i64 p12)]],false,false⟩)] : Boxes)⟩ : ASt)) (fun (s : (List Tapi_Output)×Int×Int)=>match s with | (p10,p11,p12)=>Llaw36_ReplaceBumps_k1 y54 a1 a2 p10 p11 p12) ?_ ?_
   ·rintro ⟨p10,p11,p12⟩ hk60
    change Llaw36_ReplaceBumps_k1 y54 a1 a2 p10 p11 p12 = _ at hk60
    refine nst ?_;unfold Llaw36_ReplaceBumps_k1 at hk60;obtain ⟨y61,ehy61,hk60⟩:=bN hk60 G10_eq;refine ee_seq_regJ rfl (kq:=⟨[1,2,8],[8],[]⟩) rfl (by simp [joinSt, *]; rfl) (by simp [*]; rfl) ?_;refine goR ?_;obtain ⟨y62,ehy62,hk60⟩:=bN hk60 G11_eq;obtain ⟨y63,ehy63,hk60⟩:=bN hk60 G11_eq;obtain ⟨y64,ehy64,hk60⟩:=bN hk60 G11_eq;obtain ⟨y65,ehy65,hk60⟩:=bN hk60 G11_eq;refine goR ?_;refine lp 10 (fun (p29 : Int)=>⟨(und 8++([.ptr 8 0 0 0 7]++(und 59++([.one (.ms 68 0 0 (3) 2),.one (.v (.int .i64 (3 : Int))),.one (.v (.int .i64 p29))]++(und 31)))) : List PV),([(8,⟨0,7,[[.v (.int .u32 y54.1.1.1),.slice .no (List.map eapi_Input y54.1.1.2.1),.slice .no (List.map eapi_Output p10),.v (.int .u32 y54.1.1.2.2.2),.slice .no (List.map eapi_Coin y54.1.2.1),.v (.int .i64 p11),.v (.int .i64 p12)]],false,false⟩),(68,⟨0,2,List.map (arC .i64) [(⟨[a1,a2],rfl⟩ : Arr 2),(⟨[IntKind.i64.wrap (y61 + y62),y63],rfl⟩ : Arr 2),(⟨[IntKind.i64.wrap (y61 - y64),y65],rfl⟩ : Arr 2)],false,true⟩)] : Boxes)⟩) hk60 ?_;rintro p29 x86r hr86
    simp only [Llaw36_ReplaceBumps_s1] at hr86;unfold b3_1;refine nst ?_;refine goR ?_;by_cases c87 : p29 < (3 : Int)
    ·replace hr86:=ifP hr86
     refine goR ?_;obtain ⟨j88,⟨_,_,_⟩,hr86⟩:=bA hr86;have j88d : j88≤2:=by omega
     obtain ⟨x89,hx89,hr86⟩:=bs hr86;have ghx89:=getE_of hx89;have mhx89 : (List.map (arC .i64) ([(⟨[a1,a2],rfl⟩ : Arr 2),(⟨[IntKind.i64.wrap (y61 + y62),y63],rfl⟩ : Arr 2),(⟨[IntKind.i64.wrap (y61 - y64),y65],rfl⟩ : Arr 2)]))[j88]? = some ((arC .i64) x89):=by rw [List.getElem?_map,hx89]; rfl
     simp only [List.map_cons,List.map_nil,List.map_take,List.map_drop,intsR_tk,intsR_dr,arC_lit,ints_cons,ints_nil] at mhx89;have mghx89:=getE_of mhx89;refine goR ?_;obtain ⟨y94,ehy94,hr86⟩:=bN hr86 G12_eq;refine goR ?_;obtain ⟨y99,ehy99,hr86⟩:=bN hr86 G13_eq;refine goR ?_;rcases eqT (y94.2 = y99.2) with c100 | c100
     ·replace hr86:=ifNb hr86
      obtain ⟨_,hz101,hr86⟩:=bs hr86;obtain ⟨y102,ehy102,hz101⟩:=bN hz101 G14_eq;obtain rfl:=Option.some.inj hz101;refine goR ?_;by_cases c103 : y102 = true
      ·replace hr86:=ifN hr86
       refine goR ?_;exact bk hr86
      ·replace hr86:=ifP hr86
       refine goR ?_;exact fin hr86
     ·replace hr86:=ifPb hr86
      obtain ⟨_,hz104,hr86⟩:=bs hr86;obtain rfl:=Option.some.inj hz104;refine goR ?_
      replace hr86:=ifP hr86
      refine goR ?_;exact fin hr86
    ·replace hr86:=ifN hr86
     refine goR ?_;obtain ⟨r105,q105,rfl⟩:=ms hr86;refine goR ?_;rintro rfl
     refine goR ?_;unfold Llaw36_ReplaceBumps_k2 at q105;refine goR ?_;exact fin q105
   ·intro J60
    rcases eqT (y54.1.2.2.2 = 1) with c106 | c106
    ·replace hr:=ifP hr
     refine goR ?_;obtain ⟨_,hr⟩:=bC hr;have sf108 : 1≤y54.1.1.2.2.1.length:=by omega
     refine goR ?_;exact jn 1000008 (J60 ((y54.1.1.2.2.1).drop 1,IntKind.i64.wrap (y54.1.2.2.1 + 5000),0) hr)
    ·replace hr:=ifN hr
     refine goR ?_;exact jn 1000008 (J60 (y54.1.1.2.2.1,y54.1.2.2.1,y54.1.2.2.2) hr)
  ·refine goR ?_
   replace hr:=ifN hr
   refine goR ?_;unfold Llaw36_ReplaceBumps_k1 at hr;obtain ⟨y109,ehy109,hr⟩:=bN hr G10_eq;refine ee_seq_regJ rfl (kq:=⟨[1,2,8],[8],[]⟩) rfl (by simp [joinSt, *]; rfl) (by simp [*]; rfl) ?_;refine goR ?_;obtain ⟨y110,ehy110,hr⟩:=bN hr G11_eq;obtain ⟨y111,ehy111,hr⟩:=bN hr G11_eq;obtain ⟨y112,ehy112,hr⟩:=bN hr G11_eq;obtain ⟨y113,ehy113,hr⟩:=bN hr G11_eq;refine goR ?_;refine lp 10 (fun (p29 : Int)=>⟨(und 8++([.ptr 8 0 0 0 7]++(und 59++([.one (.ms 68 0 0 (3) 2),.one (.v (.int .i64 (3 : Int))),.one (.v (.int .i64 p29))]++(und 31)))) : List PV),([(8,⟨0,7,[[.v (.int .u32 y54.1.1.1),.slice .no (List.map eapi_Input y54.1.1.2.1),.slice .no (List.map eapi_Output y54.1.1.2.2.1),.v (.int .u32 y54.1.1.2.2.2),.slice .no (List.map eapi_Coin y54.1.2.1),.v (.int .i64 y54.1.2.2.1),.v (.int .i64 y54.1.2.2.2)]],false,false⟩),(68,⟨0,2,List.map (arC .i64) [(⟨[a1,a2],rfl⟩ : Arr 2),(⟨[IntKind.i64.wrap (y109 + y110),y111],rfl⟩ : Arr 2),(⟨[IntKind.i64.wrap (y109 - y112),y113],rfl⟩ : Arr 2)],false,true⟩)] : Boxes)⟩) hr ?_;rintro p29 x134r hr134
   simp only [Llaw36_ReplaceBumps_s1] at hr134;unfold b3_1;refine nst ?_;refine goR ?_;by_cases c135 : p29 < (3 : Int)
   ·replace hr134:=ifP hr134
    refine goR ?_;obtain ⟨j136,⟨_,_,_⟩,hr134⟩:=bA hr134;have j136d : j136≤2:=by omega
    obtain ⟨x137,hx137,hr134⟩:=bs hr134;have ghx137:=getE_of hx137;have mhx137 : (List.map (arC .i64) ([(⟨[a1,a2],rfl⟩ : Arr 2),(⟨[IntKind.i64.wrap (y109 + y110),y111],rfl⟩ : Arr 2),(⟨[IntKind.i64.wrap (y109 - y112),y113],rfl⟩ : Arr 2)]))[j136]? = some ((arC .i64) x137):=by rw [List.getElem?_map,hx137]; rfl
    simp only [List.map_cons,List.map_nil,List.map_take,List.map_drop,intsR_tk,intsR_dr,arC_lit,ints_cons,ints_nil] at mhx137;have mghx137:=getE_of mhx137;refine goR ?_;obtain ⟨y142,ehy142,hr134⟩:=bN hr134 G12_eq;refine goR ?_;obtain ⟨y147,ehy147,hr134⟩:=bN hr134 G13_eq;refine goR ?_;rcases eqT (y142.2 = y147.2) with c148 | c148
    ·replace hr134:=ifNb hr134
     obtain ⟨_,hz149,hr134⟩:=bs hr134;obtain ⟨y150,ehy150,hz149⟩:=bN hz149 G14_eq;obtain rfl:=Option.some.inj hz149;refine goR ?_;by_cases c151 : y150 = true
     ·replace hr134:=ifN hr134
      refine goR ?_;exact bk hr134
     ·replace hr134:=ifP hr134
      refine goR ?_;exact fin hr134
    ·replace hr134:=ifPb hr134
     obtain ⟨_,hz152,hr134⟩:=bs hr134;obtain rfl:=Option.some.inj hz152;refine goR ?_
     replace hr134:=ifP hr134
     refine goR ?_;exact fin hr134
   ·replace hr134:=ifN hr134
    refine goR ?_;obtain ⟨r153,q153,rfl⟩:=ms hr134;refine goR ?_;rintro rfl
    refine goR ?_;unfold Llaw36_ReplaceBumps_k2 at q153;refine goR ?_;exact fin q153
 ·replace hr:=ifP hr
  refine goR ?_;exact fin hr
end Go.Proofs.YtjdoijdjeapekaaDoor
