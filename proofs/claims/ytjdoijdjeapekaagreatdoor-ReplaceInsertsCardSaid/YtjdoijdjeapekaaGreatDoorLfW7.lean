import Derived.Test.YtjdoijdjeapekaaGreatDoorLfK
import Derived.Test.YtjdoijdjeapekaaGreatDoorCode
namespace Go.Proofs.YtjdoijdjeapekaaGreatDoor
open Go.RowKit
open Go.Av
open Go.Lc
set_option maxRecDepth 100000
set_option linter.unusedSimpArgs false
set_option linter.unusedVariables false
set_option maxHeartbeats 4000000
theorem w14 : Walk tt G [(25,K25.G),(28,K28.G),(37,K37_35.G)] (fun _=>[]) Tryz.f14 K14:=by
 refine .of [(3,⟨[0,3,5,14,15,16],[3,1000000000012],[]⟩),(9,⟨[3,5,8,24,25,26],[3,52,1000000000012],[(8,none,52,5)]⟩),(1000014,⟨[3,5,8,24,25,26],[3,52,1000000000012],[]⟩)] false body14 Tryz.ntmps14 fun T hO hT ⟨a0,a1⟩ x hr=>⟨by simp,?_⟩
 simp only [tabAll] at hT; simp only at hr ⊢; unfold c14;unfold Lreplace_Confirm at hr;refine go ?_;refine lp 3 (fun (⟨p7,p8⟩ : Int×(List ((Arr 32)×Bool)))=>⟨([.one (.slice .no (List.map eapi_Entry a0))]++(und 2++([.ptr 3 0 0 0 69]++(und 1++([.one (.mp 1000000000012 0)]++(und 8++([.one (.slice .no (List.map eapi_Tx a1.2)),.one (.v (.int .i64 (a1.2.length : Int))),.one (.v (.int .i64 p7))]++(und 38))))))) : List PV),([(3,⟨0,69,[(.v (.int .u32 a1.1.1)) :: ((arC .u8 a1.1.2.1)++((arC .u8 a1.1.2.2.1)++((.v (.int .u32 a1.1.2.2.2.1)) :: ((.v (.int .u32 a1.1.2.2.2.2.1)) :: ((.v (.int .u32 a1.1.2.2.2.2.2)) :: ((.slice .no (List.map eapi_Tx a1.2)) :: []))))))],false,false⟩),(1000000000012,⟨0,6,(arC .u8 (zA 32)) :: List.map eM_A32_I_u8_B p8,false,false⟩)] : Boxes)⟩) hr ?_;rintro ⟨p7,p8⟩ x51r hr51
 simp only [Lreplace_Confirm_s1] at hr51;unfold b14_1;refine nst ?_;refine go ?_;by_cases c52 : p7 < (a1.2.length : Int)
 ·have c52N:=nrm c52
  replace hr51:=ifP hr51
  refine go ?_;obtain ⟨_,⟨_,_,_⟩,hr51⟩:=bI hr51;refine go ?_;obtain ⟨_,ehy54,hr51⟩:=bN hr51 G25_eq;refine go ?_;exact bk hr51
 ·have c52N:=nrm c52
  replace hr51:=ifN hr51
  refine go ?_;obtain ⟨r55,q55,rfl⟩:=ms hr51;refine go ?_;rintro rfl
  refine go ?_;unfold Lreplace_Confirm_k1 at q55;refine go ?_;refine lp 9 (fun (⟨p26,p27⟩ : Int×(List Tapi_Entry))=>⟨(und 3++([.ptr 3 0 0 0 69]++(und 1++([.one (.mp 1000000000012 0)]++(und 2++([.one (.ms 52 0 0 (p27.length) 5)]++(und 15++([.one (.slice .no (List.map eapi_Entry a0)),.one (.v (.int .i64 (a0.length : Int))),.one (.v (.int .i64 p26))]++(und 28)))))))) : List PV),([(3,⟨0,69,[(.v (.int .u32 a1.1.1)) :: ((arC .u8 a1.1.2.1)++((arC .u8 a1.1.2.2.1)++((.v (.int .u32 a1.1.2.2.2.1)) :: ((.v (.int .u32 a1.1.2.2.2.2.1)) :: ((.v (.int .u32 a1.1.2.2.2.2.2)) :: ((.slice .no (List.map eapi_Tx a1.2)) :: []))))))],false,false⟩),(52,⟨0,5,List.map eapi_Entry p27,false,true⟩),(1000000000012,⟨0,6,(arC .u8 (zA 32)) :: List.map eM_A32_I_u8_B p8,false,false⟩)] : Boxes)⟩) q55 ?_;rintro ⟨p26,p27⟩ x72r hr72
  simp only [Lreplace_Confirm_s2] at hr72;unfold b14_2;refine nst ?_;refine go ?_;by_cases c73 : p26 < (a0.length : Int)
  ·have c73N:=nrm c73
   replace hr72:=ifP hr72
   refine go ?_;obtain ⟨x74,⟨_,_,_⟩,hr72⟩:=bI hr72;refine go ?_;obtain ⟨y75,ehy75,hr72⟩:=bN hr72 G25_eq;by_cases c76 : (mget y75 p8).getD false = true
   ·replace hr72:=ifNb hr72
    obtain ⟨_,hz77,hr72⟩:=bs hr72;obtain rfl:=Option.some.inj hz77;refine go ?_
    replace hr72:=ifN hr72
    refine go ?_;unfold Lreplace_Confirm_k3 at hr72;refine ee_regJ rfl (kq:=⟨[3,5,8,24,25,26],[3,52,1000000000012],[]⟩) rfl (by simp [joinSt, *]; rfl) (by simp [*] <;> rfl) ?_;exact bk hr72
   ·replace hr72:=ifPb hr72
    obtain ⟨_,hz78,hr72⟩:=bs hr72;obtain ⟨y79,ehy79,hz78⟩:=bN hz78 G37_35_eq;obtain rfl:=Option.some.inj hz78;refine go ?_;refine ee_J hr72 (.normal) (fun (s : (List Tapi_Entry))=>match s with | p41=>(⟨(und 3++([.ptr 3 0 0 0 69]++(und 1++([.one (.mp 1000000000012 0)]++(und 2++([.one (.ms 52 0 0 (p41.length) 5)]++(und 15++([.one (.slice .no (List.map eapi_Entry a0)),.one (.v (.int .i64 (a0.length : Int))),.one (.v (.int .i64 p26))]++(und 28)))))))) : List PV),([(3,⟨0,69,[(.v (.int .u32 a1.1.1)) :: ((arC .u8 a1.1.2.1)++((arC .u8 a1.1.2.2.1)++((.v (.int .u32 a1.1.2.2.2.1)) :: ((.v (.int .u32 a1.1.2.2.2.2.1)) :: ((.v (.int .u32 a1.1.2.2.2.2.2)) :: ((.slice .no (List.map eapi_Tx a1.2)) :: []))))))],false,false⟩),(52,⟨0,5,List.map eapi_Entry p41,false,true⟩),(1000000000012,⟨0,6,(arC .u8 (zA 32)) :: List.map eM_A32_I_u8_B p8,false,false⟩)] : Boxes)⟩ : ASt)) (fun (s : (List Tapi_Entry))=>match s with | p41=>Lreplace_Confirm_k3 p26 p41) ?_ ?_
    ·rintro p41 hk83
     change Lreplace_Confirm_k3 p26 p41 = _ at hk83
     refine go ?_;refine nst ?_;unfold Lreplace_Confirm_k3 at hk83;refine ee_regJ rfl (kq:=⟨[3,5,8,24,25,26],[3,52,1000000000012],[]⟩) rfl (by simp [joinSt, *]; rfl) (by simp [*] <;> rfl) ?_;exact bk hk83
    ·intro J83
     simp only [pq,reduceCtorEq] at J83;by_cases c84 : y79 = true
     ·replace hr72:=ifN hr72
      refine go ?_;exact jn 1000014 (J83 p27 hr72)
     ·replace hr72:=ifP hr72
      refine go ?_;obtain ⟨y85,ehy85,hr72⟩:=bN hr72 G28_eq;obtain ⟨_,hr72⟩:=bC hr72;have n1_u86_0 : (p27.length + 1) * 72≤140737488355328:=by omega
      have n2_u86_0 : p27.length + 1≤9223372036854775807:=by omega
      refine go ?_;exact jn 1000014 (J83 (p27++[((y85.1,y85.2.1,y85.2.2.1,y85.2.2.2),x74.2)]) hr72)
  ·have c73N:=nrm c73
   replace hr72:=ifN hr72
   refine go ?_;obtain ⟨r87,q87,rfl⟩:=ms hr72;refine go ?_;rintro rfl
   refine go ?_;unfold Lreplace_Confirm_k2 at q87;refine go ?_;exact fin q87
theorem w15 : Walk tt G [(22,K22.G),(32,K32.G)] (fun _=>[]) Tryz.f15 K15:=by
 refine .of [(3,⟨[0,3,5,6],[3,59],[(5,none,59,5)]⟩),(7,⟨[0,3,5,6,7,8],[3,59],[]⟩),(1000004,⟨[0,3,5,6],[3,59],[]⟩)] false body15 Tryz.ntmps15 fun T hO hT ⟨a0,a1⟩ x hr=>⟨by simp,?_⟩
 simp only [tabAll] at hT; simp only at hr ⊢; unfold c15;unfold Lref36_Confirm at hr;refine go ?_;refine lp 3 (fun (⟨p64,p65⟩ : Int×(List Tapi_Entry))=>⟨([.one (.slice .no (List.map eapi_Entry a0))]++(und 2++([.ptr 3 0 0 0 69]++(und 1++([.one (.ms 59 0 0 (p65.length) 5),.one (.v (.int .i64 p64))]++(und 54))))) : List PV),([(3,⟨0,69,[(.v (.int .u32 a1.1.1)) :: ((arC .u8 a1.1.2.1)++((arC .u8 a1.1.2.2.1)++((.v (.int .u32 a1.1.2.2.2.1)) :: ((.v (.int .u32 a1.1.2.2.2.2.1)) :: ((.v (.int .u32 a1.1.2.2.2.2.2)) :: ((.slice .no (List.map eapi_Tx a1.2)) :: []))))))],false,false⟩),(59,⟨0,5,List.map eapi_Entry p65,false,true⟩)] : Boxes)⟩) hr ?_;rintro ⟨p64,p65⟩ x183r hr183
 simp only [Lref36_Confirm_s1] at hr183;unfold b15_1;refine nst ?_;refine go ?_;by_cases c184 : p64 < (a0.length : Int)
 ·have c184N:=nrm c184
  replace hr183:=ifP hr183
  refine go ?_;refine lp 7 (fun (⟨p114,p115⟩ : Bool×Int)=>⟨([.one (.slice .no (List.map eapi_Entry a0))]++(und 2++([.ptr 3 0 0 0 69]++(und 1++([.one (.ms 59 0 0 (p65.length) 5),.one (.v (.int .i64 p64)),.one (.v (.bool p114)),.one (.v (.int .i64 p115))]++(und 52))))) : List PV),([(3,⟨0,69,[(.v (.int .u32 a1.1.1)) :: ((arC .u8 a1.1.2.1)++((arC .u8 a1.1.2.2.1)++((.v (.int .u32 a1.1.2.2.2.1)) :: ((.v (.int .u32 a1.1.2.2.2.2.1)) :: ((.v (.int .u32 a1.1.2.2.2.2.2)) :: ((.slice .no (List.map eapi_Tx a1.2)) :: []))))))],false,false⟩),(59,⟨0,5,List.map eapi_Entry p65,false,true⟩)] : Boxes)⟩) hr183 ?_;rintro ⟨p114,p115⟩ x202r hr202
  simp only [Lref36_Confirm_s2] at hr202;unfold b15_2;refine nst ?_;refine go ?_;by_cases c203 : p115 < (a1.2.length : Int)
  ·have c203N:=nrm c203
   replace hr202:=ifP hr202
   refine go ?_;by_cases c204 : p114 = true
   ·replace hr202:=ifPb hr202
    obtain ⟨_,hz205,hr202⟩:=bs hr202;obtain ⟨_,⟨_,hx206b,_⟩,hz205⟩:=bI hz205;obtain ⟨y207,ehy207,hz205⟩:=bN hz205 G22_eq;obtain ⟨_,⟨_,hx208b,_⟩,hz205⟩:=bI hz205;obtain ⟨y209,ehy209,hz205⟩:=bN hz205 G22_eq;obtain rfl:=Option.some.inj hz205;rcases eqT (y207 = y209) with c210 | c210
    ·replace hr202:=ifNb hr202
     obtain ⟨_,hz211,hr202⟩:=bs hr202;obtain rfl:=Option.some.inj hz211;refine go ?_;exact bk hr202
    ·replace hr202:=ifPb hr202
     obtain ⟨_,hz212,hr202⟩:=bs hr202;obtain ⟨_,⟨_,hx213b,_⟩,hz212⟩:=bI hz212;obtain rfl:=Option.some.inj (hx206b.symm.trans hx213b);obtain ⟨_,⟨_,hx214b,_⟩,hz212⟩:=bI hz212;obtain rfl:=Option.some.inj (hx208b.symm.trans hx214b);obtain ⟨_,ehy215,hz212⟩:=bN hz212 G32_eq;obtain rfl:=Option.some.inj hz212;refine go ?_;exact bk hr202
   ·replace hr202:=ifNb hr202
    obtain ⟨_,hz216,hr202⟩:=bs hr202;obtain rfl:=Option.some.inj hz216
    replace hr202:=ifNb hr202
    obtain ⟨_,hz217,hr202⟩:=bs hr202;obtain rfl:=Option.some.inj hz217;refine go ?_;exact bk hr202
  ·have c203N:=nrm c203
   replace hr202:=ifN hr202
   refine go ?_;obtain ⟨r218,q218,rfl⟩:=ms hr202;refine go ?_;rintro rfl
   refine go ?_;unfold Lref36_Confirm_k2 at q218;refine go ?_;refine ee_J q218 (.normal) (fun (s : (List Tapi_Entry))=>match s with | p127=>(⟨([.one (.slice .no (List.map eapi_Entry a0))]++(und 2++([.ptr 3 0 0 0 69]++(und 1++([.one (.ms 59 0 0 (p127.length) 5),.one (.v (.int .i64 p64))]++(und 54))))) : List PV),([(3,⟨0,69,[(.v (.int .u32 a1.1.1)) :: ((arC .u8 a1.1.2.1)++((arC .u8 a1.1.2.2.1)++((.v (.int .u32 a1.1.2.2.2.1)) :: ((.v (.int .u32 a1.1.2.2.2.2.1)) :: ((.v (.int .u32 a1.1.2.2.2.2.2)) :: ((.slice .no (List.map eapi_Tx a1.2)) :: []))))))],false,false⟩),(59,⟨0,5,List.map eapi_Entry p127,false,true⟩)] : Boxes)⟩ : ASt)) (fun (s : (List Tapi_Entry))=>match s with | p127=>Lref36_Confirm_k3 p64 p127) ?_ ?_
   ·rintro p127 hk222
    change Lref36_Confirm_k3 p64 p127 = _ at hk222
    refine go ?_;refine nst ?_;unfold Lref36_Confirm_k3 at hk222;refine ee_regJ rfl (kq:=⟨[0,3,5,6],[3,59],[]⟩) rfl (by simp [joinSt, *]; rfl) (by simp [*] <;> rfl) ?_;exact bk hk222
   ·intro J222
    simp only [pq,reduceCtorEq] at J222;by_cases c223 : p114 = true
    ·replace q218:=ifP q218
     refine go ?_;obtain ⟨x224,⟨_,_,_⟩,q218⟩:=bI q218;obtain ⟨_,q218⟩:=bC q218;have n1_u225_0 : (p65.length + 1) * 72≤140737488355328:=by omega
     have n2_u225_0 : p65.length + 1≤9223372036854775807:=by omega
     refine go ?_;exact jn 1000004 (J222 (p65++[x224]) q218)
    ·replace q218:=ifN q218
     refine go ?_;exact jn 1000004 (J222 p65 q218)
 ·have c184N:=nrm c184
  replace hr183:=ifN hr183
  refine go ?_;obtain ⟨r226,q226,rfl⟩:=ms hr183;refine go ?_;rintro rfl
  refine go ?_;unfold Lref36_Confirm_k1 at q226;refine go ?_;exact fin q226
end Go.Proofs.YtjdoijdjeapekaaGreatDoor
