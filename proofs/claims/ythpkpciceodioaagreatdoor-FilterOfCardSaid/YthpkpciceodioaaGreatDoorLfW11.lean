import Derived.Test.YthpkpciceodioaaGreatDoorLfK
import Derived.Test.YthpkpciceodioaaGreatDoorCode
import Derived.Test.YthpkpciceodioaaGreatDoorBl
namespace Go.Proofs.YthpkpciceodioaaGreatDoor
open Go.RowKit
open Go.Av
open Go.Lc
set_option maxRecDepth 100000
set_option linter.unusedSimpArgs false
set_option linter.unusedVariables false
set_option maxHeartbeats 4000000
theorem w72:Walk tt G [(114,K114.G)] (fun _=>[]) Tryz.f72 K72:=by
 refine .of [(4,⟨[1,20,21,22],[1],[]⟩),(10,⟨[1,37,38,39],[1],[]⟩),(15,⟨[1,37,38,39,48,49,50],[1],[]⟩)] false body72 Tryz.ntmps72 fun T hO hT a0 x hr=>⟨by simp,?_⟩
 simp only [Zi] at hT; simp only at hr ⊢; unfold c72;unfold ZcA at hr;refine go ?_;by_cases c35:64<(a0.2.1.length:Int)
 ·have c35N:=nrm c35
  refine go ?_
  replace hr:=ifP hr
  refine go ?_;exact fin hr
 ·have c35N:=nrm c35
  refine go ?_;by_cases c36:64<(a0.2.2.1.length:Int)
  ·have c36N:=nrm c36
   replace hr:=ifP hr
   refine go ?_;exact fin hr
  ·have c36N:=nrm c36
   replace hr:=ifN hr
   refine go ?_;refine lp 4 (fun (p4:Int)=>⟨(und 1++([.ptr 1 0 0 0 4]++(und 18++([.one (.slice .no (List.map Zr a0.2.2.1)),.one (.v (.int .i64 (a0.2.2.1.length:Int))),.one (.v (.int .i64 p4))]++(und 40)))):List PV),([(1,⟨0,4,[[.v (.int .u32 a0.1),.slice .no (List.map Zs a0.2.1),.slice .no (List.map Zr a0.2.2.1),.v (.int .u32 a0.2.2.2)]],false,false⟩)]:Boxes)⟩) hr ?_;rintro p4 x43r hr43
   simp only [ZbN] at hr43;unfold b72_1;refine nst ?_;refine go ?_;by_cases c44:p4<(a0.2.2.1.length:Int)
   ·have c44N:=nrm c44
    replace hr43:=ifP hr43
    refine go ?_;obtain ⟨x45,⟨_,_,_⟩,hr43⟩:=bI hr43;refine go ?_;by_cases c46:x45.1<0
    ·refine go ?_
     replace hr43:=ifP hr43
     refine go ?_;exact fin hr43
    ·refine go ?_
     by_cases c47:520<(x45.2.length:Int)
     ·have c47N:=nrm c47
      replace hr43:=ifP hr43
      refine go ?_;exact fin hr43
     ·have c47N:=nrm c47
      replace hr43:=ifN hr43
      refine go ?_;exact bk hr43
   ·have c44N:=nrm c44
    replace hr43:=ifN hr43
    refine go ?_;obtain ⟨r48,q48,rfl⟩:=ms hr43;refine go ?_;rintro rfl
    refine go ?_;unfold Zek at q48;refine go ?_;refine lp 10 (fun (p19:Int)=>⟨(und 1++([.ptr 1 0 0 0 4]++(und 35++([.one (.slice .no (List.map Zs a0.2.1)),.one (.v (.int .i64 (a0.2.1.length:Int))),.one (.v (.int .i64 p19))]++(und 23)))):List PV),([(1,⟨0,4,[[.v (.int .u32 a0.1),.slice .no (List.map Zs a0.2.1),.slice .no (List.map Zr a0.2.2.1),.v (.int .u32 a0.2.2.2)]],false,false⟩)]:Boxes)⟩) q48 ?_;rintro p19 x64r hr64
    simp only [ZbM] at hr64;unfold b72_2;refine nst ?_;refine go ?_;by_cases c65:p19<(a0.2.1.length:Int)
    ·have c65N:=nrm c65
     replace hr64:=ifP hr64
     refine go ?_;obtain ⟨x66,⟨_,_,_⟩,hr64⟩:=bI hr64;refine go ?_;by_cases c67:32<(x66.2.2.length:Int)
     ·have c67N:=nrm c67
      replace hr64:=ifP hr64
      refine go ?_;exact fin hr64
     ·have c67N:=nrm c67
      replace hr64:=ifN hr64
      refine go ?_;refine lp 15 (fun (p31:Int)=>⟨(und 1++([.ptr 1 0 0 0 4]++(und 35++([.one (.slice .no (List.map Zs a0.2.1)),.one (.v (.int .i64 (a0.2.1.length:Int))),.one (.v (.int .i64 p19))]++(und 8++([.one (.slice .no (List.map ZJ x66.2.2)),.one (.v (.int .i64 (x66.2.2.length:Int))),.one (.v (.int .i64 p31))]++(und 12)))))):List PV),([(1,⟨0,4,[[.v (.int .u32 a0.1),.slice .no (List.map Zs a0.2.1),.slice .no (List.map Zr a0.2.2.1),.v (.int .u32 a0.2.2.2)]],false,false⟩)]:Boxes)⟩) hr64 ?_;rintro p31 x73r hr73
      simp only [ZaY] at hr73;unfold b72_3;refine nst ?_;refine go ?_;by_cases c74:p31<(x66.2.2.length:Int)
      ·have c74N:=nrm c74
       replace hr73:=ifP hr73
       refine go ?_;obtain ⟨x75,⟨_,_,_⟩,hr73⟩:=bI hr73;refine go ?_;by_cases c76:520<(x75.length:Int)
       ·have c76N:=nrm c76
        replace hr73:=ifP hr73
        refine go ?_;exact fin hr73
       ·have c76N:=nrm c76
        replace hr73:=ifN hr73
        refine go ?_;exact bk hr73
      ·have c74N:=nrm c74
       replace hr73:=ifN hr73
       refine go ?_;obtain ⟨r77,q77,rfl⟩:=ms hr73;refine go ?_;rintro rfl
       refine go ?_;unfold Zf0 at q77;refine go ?_;exact bk q77
    ·have c65N:=nrm c65
     replace hr64:=ifN hr64
     refine go ?_;obtain ⟨r78,q78,rfl⟩:=ms hr64;refine go ?_;rintro rfl
     refine go ?_;unfold Zej at q78;obtain ⟨_,ehy79,q78⟩:=bN q78 ZoO;refine go ?_;exact fin q78
theorem w115:Walk tt G [(72,K72.G),(114,K114.G)] (fun _=>[]) Tryz.f115 K115:=by
 refine .of [] false body115 Tryz.ntmps115 fun T hO hT ⟨a0,a1⟩ x hr=>⟨by simp,?_⟩
 simp only [Zi] at hT; simp only at hr ⊢; unfold c115;unfold Zcc at hr;refine go ?_;obtain ⟨y3,ehy3,hr⟩:=bN hr Zrb;refine go ?_;by_cases c4:y3=true
 ·replace hr:=ifN hr
  refine go ?_;obtain ⟨_,ehy5,hr⟩:=bN hr ZoO;refine go ?_;exact fin hr
 ·replace hr:=ifP hr
  refine go ?_;exact fin hr
theorem w73:Walk tt G [(52,K52.G),(61,K61.G),(115,K115.G)] (fun _=>[]) Tryz.f73 K73:=by
 refine .of [(3,⟨[3,17,18,19],[15],[]⟩)] true body73 Tryz.ntmps73 fun T hO hT a0 x hr=>⟨by simp,?_⟩
 simp only [Zi] at hT; simp only at hr ⊢; unfold c73;unfold Zcd at hr;refine go ?_;obtain ⟨_,ehy19,hr⟩:=bN hr Zq9;obtain ⟨_,ehy20,hr⟩:=bN hr ZjX;refine go ?_;refine lp 3 (fun (⟨p11,p12⟩:Int×(List Int))=>⟨(und 3++([.one (.ms 15 0 0 (p12.length) 1)]++(und 13++([.one (.slice .no (List.map YD a0.2)),.one (.v (.int .i64 (a0.2.length:Int))),.one (.v (.int .i64 p11))]++(und 13)))):List PV),([(15,⟨0,1,Zd .u8 p12,false,true⟩)]:Boxes)⟩) hr ?_;rintro ⟨p11,p12⟩ x27r hr27
 simp only [Zda] at hr27;unfold b73_1;refine nst ?_;refine go ?_;by_cases c28:p11<(a0.2.length:Int)
 ·have c28N:=nrm c28
  replace hr27:=ifP hr27
  refine go ?_;obtain ⟨_,⟨_,_,_⟩,hr27⟩:=bI hr27;refine go ?_;obtain ⟨y30,ehy30,hr27⟩:=bN hr27 Zt1;refine go ?_;obtain ⟨_,hr27⟩:=bC hr27;have n1_u31_0:p12.length+y30.1.length≤140737488355328:=by omega
  have n2_u31_0:p12.length+y30.1.length≤9223372036854775807:=by omega
  refine go ?_;exact bk hr27
 ·have c28N:=nrm c28
  replace hr27:=ifN hr27
  refine go ?_;obtain ⟨r32,q32,rfl⟩:=ms hr27;refine go ?_;rintro rfl
  refine go ?_;unfold ZhG at q32;refine go ?_;exact fin q32
theorem w39:Walk tt G [(72,K72.G),(73,K73.G)] (fun _=>[]) Tryz.f39 K39:=by
 refine .of [(4,⟨[1,10,11,12],[1],[]⟩)] false body39 Tryz.ntmps39 fun T hO hT a0 x hr=>⟨by simp,?_⟩
 simp only [Zi] at hT; simp only at hr ⊢; unfold c39;unfold ZdB at hr;refine go ?_;by_cases c12:256<(a0.2.length:Int)
 ·have c12N:=nrm c12
  replace hr:=ifP hr
  refine go ?_;exact fin hr
 ·have c12N:=nrm c12
  replace hr:=ifN hr
  refine go ?_;refine lp 4 (fun (p6:Int)=>⟨(und 1++([.ptr 1 0 0 0 69]++(und 8++([.one (.slice .no (List.map YD a0.2)),.one (.v (.int .i64 (a0.2.length:Int))),.one (.v (.int .i64 p6))]++(und 11)))):List PV),([(1,⟨0,69,[(.v (.int .u32 a0.1.1)) :: ((arC .u8 a0.1.2.1)++((arC .u8 a0.1.2.2.1)++((.v (.int .u32 a0.1.2.2.2.1)) :: ((.v (.int .u32 a0.1.2.2.2.2.1)) :: ((.v (.int .u32 a0.1.2.2.2.2.2)) :: ((.slice .no (List.map YD a0.2)) :: []))))))],false,false⟩)]:Boxes)⟩) hr ?_;rintro p6 x19r hr19
  simp only [XE] at hr19;unfold b39_1;refine nst ?_;refine go ?_;by_cases c20:p6<(a0.2.length:Int)
  ·have c20N:=nrm c20
   replace hr19:=ifP hr19
   refine go ?_;obtain ⟨_,⟨_,_,_⟩,hr19⟩:=bI hr19;refine go ?_;obtain ⟨y22,ehy22,hr19⟩:=bN hr19 Zrb;refine go ?_;by_cases c23:y22=true
   ·replace hr19:=ifN hr19
    refine go ?_;exact bk hr19
   ·replace hr19:=ifP hr19
    refine go ?_;exact fin hr19
  ·have c20N:=nrm c20
   replace hr19:=ifN hr19
   refine go ?_;obtain ⟨r24,q24,rfl⟩:=ms hr19;refine go ?_;rintro rfl
   refine go ?_;unfold ZcN at q24;obtain ⟨_,ehy25,q24⟩:=bN q24 Zvm;refine go ?_;exact fin q24
theorem w25:Walk tt G [] (fun _=>[]) Tryz.f25 K25:=by
 refine .of [] false body25 Tryz.ntmps25 fun T hO hT ⟨a0,a1⟩ x hr=>⟨by simp,?_⟩
 simp only [Zi] at hT; simp only at hr ⊢; unfold c25;unfold Zba at hr;refine go ?_;exact fin hr
def kp74:Keep:=fun i=>if i=3 then ⟨[0,3,9,10,11],[36],[(3,none,36,1)]⟩ else if i=7 then ⟨[0,3,5,6,9,10,11,18,19,20],[36],[]⟩ else if i=1000013 then ⟨[0,3,9,10,11],[36],[]⟩ else ⟨[],[],[]⟩
theorem w74 {T:Tab} (hO:T.own=fun _=>[]) (hT25:T 25=some K25.G) (a0:(List (List Int))) (x:(List (List Int))) (hr:X5 a0=some x):∃ kp fl n,Xj tt T G kp fl n Tryz.f74 (E74 a0)=some (R74 a0 x):=by
 simp only [E74,R74];refine fnE (kp:=kp74) (w:=true) body74 (by simp) ?_;unfold c74;rw [Tryz.ntmps74];unfold X5 at hr;refine Ze rfl (by simp []; rfl) ?_;refine Ze rfl (by simp []; rfl) ?_;refine ZE ?_;refine Ze rfl (by simp []; rfl) ?_;refine Yh ?_;refine XR (kq:=⟨[0,3,9,10,11],[36],[(3,none,36,1)]⟩) (H:=fun (s:Int×(List (List Int)))=>match s with | (p34,p35)=>(⟨([.one (.slice .no (List.map ZJ a0))]++(und 2++([.one (.ms 36 0 0 (p35.length) 1)]++(und 5++([.one (.slice .no (List.map ZJ a0)),.one (.v (.int .i64 (a0.length:Int))),.one (.v (.int .i64 p34))]++(und 27))))):List PV),([(36,⟨0,1,List.map ZJ p35,false,true⟩)]:Boxes)⟩:ASt)) (by kernel_rfl) hr (by simp [und,List.replicate,]) ?_;rintro ⟨p34,p35⟩ x100r hr100
 simp only [ZaQ] at hr100;unfold b74_1;simp only [und,List.replicate,List.cons_append,List.nil_append];refine Ze rfl (by simp []; rfl) ?_;by_cases c101:p34<(a0.length:Int)
 ·skip
  have c101N:=c101;try simp at c101N
  first | have c101M:(_=_)=True:=eq_true c101N | have c101M:=c101N
  rw [if_pos] at hr100;rotate_left
  ·simp [c101]
  refine ZK (by simp [bV,c101]) ?_;refine ZB ?_;refine Yh ?_;obtain ⟨x102,hx102,hr100⟩:=bs hr100;obtain ⟨hx102a,hx102b⟩:=Zhz hx102;have hx102c:=Zk hx102b;refine Ze rfl (by simp [hx102a,hx102c,c101] <;> rfl) ?_;refine Ze rfl (by simp [] <;> rfl) ?_;refine ZE ?_;obtain ⟨_,u103,hr100⟩:=bs hr100;obtain ⟨u103_0,u103_1⟩:=ZC u103;have sf104:(p34).toNat≤a0.length:=by omega
  refine Ze rfl (by simp [u103_1,sf104] <;> rfl) ?_;refine Yh ?_;refine XR (kq:=⟨[0,3,5,6,9,10,11,18,19,20],[36],[]⟩) (H:=fun (s:Bool×Int)=>match s with | (p61,p62)=>(⟨([.one (.slice .no (List.map ZJ a0))]++(und 2++([.one (.ms 36 0 0 (p35.length) 1)]++(und 1++([.one (.slice .no (Zd .u8 x102)),.one (.v (.bool p61))]++(und 2++([.one (.slice .no (List.map ZJ a0)),.one (.v (.int .i64 (a0.length:Int))),.one (.v (.int .i64 p34))]++(und 6++([.one (.slice .no (List.map ZJ ((a0).take ((p34).toNat)))),.one (.v (.int .i64 (((a0).take ((p34).toNat)).length:Int))),.one (.v (.int .i64 p62))]++(und 18))))))))):List PV),([(36,⟨0,1,List.map ZJ p35,false,true⟩)]:Boxes)⟩:ASt)) (by kernel_rfl) hr100 (by simp [und,List.replicate,sf104]) ?_;rintro ⟨p61,p62⟩ x114r hr114
  simp only [ZaP] at hr114;unfold b74_2;simp only [und,List.replicate,List.cons_append,List.nil_append];refine Ze rfl (by simp [] <;> rfl) ?_;by_cases c115:p62<(((a0).take ((p34).toNat)).length:Int)
  ·skip
   have c115N:=c115;try simp at c115N
   first | have c115M:(_=_)=True:=eq_true c115N | have c115M:=c115N
   rw [if_pos] at hr114;rotate_left
   ·simp [c115M]
   refine ZK (by simp [bV,c115M]) ?_;refine ZB ?_;refine Yh ?_;obtain ⟨x116,hx116,hr114⟩:=bs hr114;obtain ⟨hx116a,hx116b⟩:=Zhz hx116;have hx116c:=Zk hx116b;have hx116t:=ZrF hx116b;have hx116u:=Zk hx116t;refine Ze rfl (by simp [hx116a,hx116u,c115M] <;> rfl) ?_;by_cases c117:p61=true
   ·skip
    rw [if_pos] at hr114;rotate_left
    ·simp [c117]
    obtain ⟨z118,hz118,hr114⟩:=bs hr114;obtain rfl:=Option.some.inj hz118;refine Y8 rfl (by simp [c117] <;> rfl) ?_;simp only [pq];refine Y8 rfl (by simp [] <;> rfl) ?_;obtain rfl:=Option.some.inj hr114;simp only [pq];simp [c117]
   ·skip
    rw [if_neg] at hr114;rotate_left
    ·simp [c117]
    obtain ⟨z119,hz119,hr114⟩:=bs hr114;obtain ⟨y120,hy120,hz119⟩:=bs hz119;have ehy120:=ZnR hy120;simp only [K25] at ehy120;obtain rfl:=Option.some.inj hz119;refine Y8 rfl (by simp [hO,hT25,ehy120,c117] <;> rfl) ?_;simp only [pq];refine Y8 rfl (by simp [] <;> rfl) ?_;obtain rfl:=Option.some.inj hr114;simp only [pq];simp [c117]
  ·skip
   have c115N:=c115;try simp at c115N
   first | have c115M:(_=_)=True:=eq_true c115N | have c115M:=c115N
   rw [if_neg] at hr114;rotate_left
   ·simp [c115M]
   refine Zn (by simp [bV,c115M]) ?_;refine Z4 ?_;obtain ⟨r121,q121,rfl⟩:=ms hr114;simp only [pq];rintro rfl
   try simp only [pq,reduceCtorEq]
   unfold ZdO at q121;refine Ze rfl (by simp [] <;> rfl) ?_;refine ZeA q121 (.normal) (fun (s:(List (List Int)))=>match s with | p67=>(⟨([.one (.slice .no (List.map ZJ a0))]++(und 2++([.one (.ms 36 0 0 (p67.length) 1)]++(und 5++([.one (.slice .no (List.map ZJ a0)),.one (.v (.int .i64 (a0.length:Int))),.one (.v (.int .i64 p34))]++(und 27))))):List PV),([(36,⟨0,1,List.map ZJ p67,false,true⟩)]:Boxes)⟩:ASt)) (fun (s:(List (List Int)))=>match s with | p67=>Zak p34 p67) ?_ ?_
   ·skip
    rintro p67 hk124
    change Zak p34 p67=_ at hk124
    simp only [pq];simp only [und,List.replicate,List.cons_append,List.nil_append];unfold Zak at hk124;refine Zeh rfl (kq:=⟨[0,3,9,10,11],[36],[]⟩) rfl (by simp [Yq]; rfl) (by simp [] <;> rfl) ?_;obtain rfl:=Option.some.inj hk124;simp only [pq];simp []
   ·skip
    intro J124;simp only [pq] at J124;by_cases c125:p61=true
    ·skip
     rw [if_neg (not_not_intro c125)] at q121;refine Zcy (by simp [bV,c125]) ?_;refine Zka ?_;simp only [pq];exact Xh (key:=1000013) (kq:=⟨[0,3,9,10,11],[36],[]⟩) rfl rfl rfl (by simp [und,List.replicate,c125]) (J124 p35 q121)
    ·skip
     rw [if_pos c125] at q121;refine Zcx (by simp [bV,c125]) ?_;obtain ⟨_,u126,q121⟩:=bs q121;have u126_0:=ZC u126;have n1_u126_0:(p35.length+1) * 24≤140737488355328:=by omega
     have n2_u126_0:p35.length+1≤9223372036854775807:=by omega
     refine Y8 rfl (by simp [n1_u126_0,n2_u126_0,c125] <;> rfl) ?_;simp only [pq];exact Xh (key:=1000013) (kq:=⟨[0,3,9,10,11],[36],[]⟩) rfl rfl rfl (by simp [und,List.replicate]) (J124 (p35++[x102]) q121)
 ·skip
  have c101N:=c101;try simp at c101N
  first | have c101M:(_=_)=True:=eq_true c101N | have c101M:=c101N
  rw [if_neg] at hr100;rotate_left
  ·simp [c101]
  refine Zn (by simp [bV,c101]) ?_;refine Z4 ?_;obtain ⟨r127,q127,rfl⟩:=ms hr100;simp only [pq];rintro rfl
  try simp only [pq,reduceCtorEq]
  unfold ZdN at q127;refine Ze rfl (by simp [c101] <;> rfl) ?_;refine ZbR ?_;obtain rfl:=Option.some.inj q127;simp [ZaN]
theorem w116:Walk tt G [(161,K161.G)] (fun _=>[]) Tryz.f116 K116:=by
 refine .of [] false body116 Tryz.ntmps116 fun T hO hT ⟨a0,a1⟩ x hr=>⟨by simp,?_⟩
 simp only [Zi] at hT; simp only at hr ⊢; unfold c116;unfold Zd1 at hr;refine go ?_;obtain ⟨_,ehy2,hr⟩:=bN hr ZoJ;refine go ?_;exact fin hr
theorem w78:Walk tt G [] (fun _=>[]) Tryz.f78 K78:=by
 refine .of [(3,⟨[0,3,6,7],[],[]⟩)] false body78 Tryz.ntmps78 fun T hO hT a0 x hr=>⟨by simp,?_⟩
 simp only [Zi] at hT; simp only at hr ⊢; unfold c78;unfold ZbI at hr;refine go ?_;refine lp 3 (fun (⟨p7,p8⟩:Int×Int)=>⟨([.one (.slice .no (Zd .u8 a0))]++(und 2++([.one (.v (.int .u64 p7))]++(und 2++([.one (.v (.int .i64 (a0.length:Int))),.one (.v (.int .i64 p8))]++(und 14))))):List PV),([]:Boxes)⟩) hr ?_;rintro ⟨p7,p8⟩ x18r hr18
 simp only [Zil] at hr18;unfold b78_1;refine nst ?_;refine go ?_;by_cases c19:p8<(a0.length:Int)
 ·have c19N:=nrm c19
  replace hr18:=ifP hr18
  refine go ?_;obtain ⟨_,⟨_,_,_⟩,hr18⟩:=bI hr18;obtain ⟨_,hr18⟩:=bC hr18;refine go ?_;exact bk hr18
 ·have c19N:=nrm c19
  replace hr18:=ifN hr18
  refine go ?_;obtain ⟨r22,q22,rfl⟩:=ms hr18;refine go ?_;rintro rfl
  refine go ?_;unfold Zik at q22;refine go ?_;exact fin q22
theorem w168:Walk tt G [(200,K200.G)] (fun _=>[]) Tryz.f168 K168:=by
 refine .of [] false body168 Tryz.ntmps168 fun T hO hT a0 x hr=>⟨by simp,?_⟩
 simp only [Zi] at hT; simp only at hr ⊢; unfold c168;unfold X6 at hr;refine go ?_;obtain ⟨y16,ehy16,hr⟩:=bN hr Zce;refine go ?_;obtain ⟨y22,ehy22,hr⟩:=bN hr Zce;refine go ?_;obtain ⟨y31,ehy31,hr⟩:=bN hr Zce;obtain ⟨x34,hx34,hr⟩:=bs hr;have qhx34:=Option.some.inj hx34;have ap35:=(Xq (k:=.u64) ((((a0.put 0 (IntKind.u64.wrap ((a0.at 0)+(a0.at 1)))).put 1 (bits .xor .u64 y16 ((a0.put 0 (IntKind.u64.wrap ((a0.at 0)+(a0.at 1)))).at 0))).put 0 y22).put 2 (IntKind.u64.wrap (((((a0.put 0 (IntKind.u64.wrap ((a0.at 0)+(a0.at 1)))).put 1 (bits .xor .u64 y16 ((a0.put 0 (IntKind.u64.wrap ((a0.at 0)+(a0.at 1)))).at 0))).put 0 y22).at 2)+((((a0.put 0 (IntKind.u64.wrap ((a0.at 0)+(a0.at 1)))).put 1 (bits .xor .u64 y16 ((a0.put 0 (IntKind.u64.wrap ((a0.at 0)+(a0.at 1)))).at 0))).put 0 y22).at 3)))) (i:=3) (by decide) (bits .xor .u64 y31 (((((a0.put 0 (IntKind.u64.wrap ((a0.at 0)+(a0.at 1)))).put 1 (bits .xor .u64 y16 ((a0.put 0 (IntKind.u64.wrap ((a0.at 0)+(a0.at 1)))).at 0))).put 0 y22).put 2 (IntKind.u64.wrap (((((a0.put 0 (IntKind.u64.wrap ((a0.at 0)+(a0.at 1)))).put 1 (bits .xor .u64 y16 ((a0.put 0 (IntKind.u64.wrap ((a0.at 0)+(a0.at 1)))).at 0))).put 0 y22).at 2)+((((a0.put 0 (IntKind.u64.wrap ((a0.at 0)+(a0.at 1)))).put 1 (bits .xor .u64 y16 ((a0.put 0 (IntKind.u64.wrap ((a0.at 0)+(a0.at 1)))).at 0))).put 0 y22).at 3)))).at 2))).trans (congrArg _ qhx34);refine go ?_;obtain ⟨y43,ehy43,hr⟩:=bN hr Zce;refine go ?_;obtain ⟨y54,ehy54,hr⟩:=bN hr Zce;obtain ⟨_,hx57,hr⟩:=bs hr;have qhx57:=Option.some.inj hx57;have ap58:=(Xq (k:=.u64) (((x34.put 0 (IntKind.u64.wrap ((x34.at 0)+(x34.at 3)))).put 3 (bits .xor .u64 y43 ((x34.put 0 (IntKind.u64.wrap ((x34.at 0)+(x34.at 3)))).at 0))).put 2 (IntKind.u64.wrap ((((x34.put 0 (IntKind.u64.wrap ((x34.at 0)+(x34.at 3)))).put 3 (bits .xor .u64 y43 ((x34.put 0 (IntKind.u64.wrap ((x34.at 0)+(x34.at 3)))).at 0))).at 2)+(((x34.put 0 (IntKind.u64.wrap ((x34.at 0)+(x34.at 3)))).put 3 (bits .xor .u64 y43 ((x34.put 0 (IntKind.u64.wrap ((x34.at 0)+(x34.at 3)))).at 0))).at 1)))) (i:=1) (by decide) (bits .xor .u64 y54 ((((x34.put 0 (IntKind.u64.wrap ((x34.at 0)+(x34.at 3)))).put 3 (bits .xor .u64 y43 ((x34.put 0 (IntKind.u64.wrap ((x34.at 0)+(x34.at 3)))).at 0))).put 2 (IntKind.u64.wrap ((((x34.put 0 (IntKind.u64.wrap ((x34.at 0)+(x34.at 3)))).put 3 (bits .xor .u64 y43 ((x34.put 0 (IntKind.u64.wrap ((x34.at 0)+(x34.at 3)))).at 0))).at 2)+(((x34.put 0 (IntKind.u64.wrap ((x34.at 0)+(x34.at 3)))).put 3 (bits .xor .u64 y43 ((x34.put 0 (IntKind.u64.wrap ((x34.at 0)+(x34.at 3)))).at 0))).at 1)))).at 2))).trans (congrArg _ qhx57);refine go ?_;obtain ⟨_,ehy61,hr⟩:=bN hr Zce;refine go ?_;exact fin hr
def kp167:Keep:=fun i=>⟨[],[],[]⟩
theorem w167 {T:Tab} (hO:T.own=fun _=>[]) (hT168:T 168=some K168.G) (a0:(Arr 4)) (a1:Int) (x:(Arr 4)) (hr:Zao a0 a1=some x):∃ kp fl n,Xj tt T G kp fl n Tryz.f167 (Zid (a0,a1))=some (ZkT (a0,a1) x):=by
 simp only [Zid,ZkT];refine fnE (kp:=kp167) (w:=false) body167 (by simp) ?_;unfold c167;rw [Tryz.ntmps167];unfold Zao at hr;refine Ze rfl (by simp []; rfl) ?_;have ar3:=YL (k:=.u64) (a0) (i:=3) (by decide);have as4:=YW (k:=.u64) (a0) (i:=3) (by decide);have ap5:=Xq (k:=.u64) (a0) (i:=3) (by decide) (bits .xor .u64 (a0.at 3) a1);refine Ze rfl (by simp [ap5]; rfl) ?_;obtain ⟨y6,hy6,hr⟩:=bs hr;have ehy6:=Zhn hy6;simp only [K168] at ehy6;obtain ⟨y7,hy7,hr⟩:=bs hr;have ehy7:=Zhn hy7;simp only [K168] at ehy7;refine Ze rfl (by simp [hO,hT168,ehy6,ehy7]; rfl) ?_;have ar8:=YL (k:=.u64) (y7) (i:=0) (by decide);have as9:=YW (k:=.u64) (y7) (i:=0) (by decide);have ap10:=Xq (k:=.u64) (y7) (i:=0) (by decide) (bits .xor .u64 (y7.at 0) a1);refine Ze rfl (by simp [ap10]; rfl) ?_;refine Ze rfl (by simp []; rfl) ?_;refine ZbR ?_;obtain rfl:=Option.some.inj hr;simp [ZaN,]
def kp117:Keep:=fun i=>if i=3 then ⟨[1,5,6],[5],[]⟩ else ⟨[],[],[]⟩
theorem w117 {T:Tab} (hO:T.own=fun _=>[]) (hT78:T 78=some K78.G) (hT167:T 167=some G167) (hT168:T 168=some K168.G) (a0:(Arr 2)) (a1:(List Int)) (x:Int) (hr:Zc7 a0 a1=some x):∃ kp fl n,Xj tt T G kp fl n Tryz.f117 (Zjb (a0,a1))=some (ZlV (a0,a1) x):=by
 simp only [Zjb,ZlV];refine fnE (kp:=kp117) (w:=false) body117 (by simp) ?_;unfold c117;rw [Tryz.ntmps117];unfold Zc7 at hr;refine Ze rfl (by simp []; rfl) ?_;have ar27:=YL (k:=.u64) (a0) (i:=0) (by decide);have as28:=YW (k:=.u64) (a0) (i:=0) (by decide);have ar29:=YL (k:=.u64) (a0) (i:=1) (by decide);have as30:=YW (k:=.u64) (a0) (i:=1) (by decide);have ar31:=YL (k:=.u64) (a0) (i:=0) (by decide);have as32:=YW (k:=.u64) (a0) (i:=0) (by decide);have ar33:=YL (k:=.u64) (a0) (i:=1) (by decide);have as34:=YW (k:=.u64) (a0) (i:=1) (by decide);have ap35:=Xq (k:=.u64) (zA 4) (i:=0) (by decide) (bits .xor .u64 (a0.at 0) 8317987319222330741);have ap36:=Xq (k:=.u64) ((zA 4).put 0 (bits .xor .u64 (a0.at 0) 8317987319222330741)) (i:=1) (by decide) (bits .xor .u64 (a0.at 1) 7237128888997146477);have ap37:=Xq (k:=.u64) (((zA 4).put 0 (bits .xor .u64 (a0.at 0) 8317987319222330741)).put 1 (bits .xor .u64 (a0.at 1) 7237128888997146477)) (i:=2) (by decide) (bits .xor .u64 (a0.at 0) 7816392313619706465);have ap38:=Xq (k:=.u64) ((((zA 4).put 0 (bits .xor .u64 (a0.at 0) 8317987319222330741)).put 1 (bits .xor .u64 (a0.at 1) 7237128888997146477)).put 2 (bits .xor .u64 (a0.at 0) 7816392313619706465)) (i:=3) (by decide) (bits .xor .u64 (a0.at 1) 8387220255154660723);refine Ze rfl (by simp [ap35,ap36,ap37,ap38]; rfl) ?_;refine Ze rfl (by simp []; rfl) ?_;refine Yh ?_;refine XR (kq:=⟨[1,5,6],[5],[]⟩) (H:=fun (s:(List Int)×(Arr 4))=>match s with | (p11,p12)=>(⟨(und 1++([.one (.slice .no (Zd .u8 p11))]++(und 3++([.ptr 5 0 0 0 4,.one (.v (.int .i64 (a1.length:Int)))]++(und 54)))):List PV),([(5,⟨0,4,[arC .u64 p12],false,false⟩)]:Boxes)⟩:ASt)) (by kernel_rfl) hr (by simp [und,List.replicate,]) ?_;rintro ⟨p11,p12⟩ x48r hr48
 simp only [Zdl] at hr48;unfold b117_1;simp only [und,List.replicate,List.cons_append,List.nil_append];refine ZE ?_;refine Ze rfl (by simp []; rfl) ?_;by_cases c49:8≤(p11.length:Int)
 ·skip
  have c49N:=c49;try simp at c49N
  first | have c49M:(_=_)=True:=eq_true c49N | have c49M:=c49N
  rw [if_pos] at hr48;rotate_left
  ·simp [c49]
  refine ZK (by simp [bV,c49]) ?_;refine ZB ?_;refine XX ?_;obtain ⟨_,u50,hr48⟩:=bs hr48;have u50_0:=ZC u50;have sf51:8≤p11.length:=by omega
  obtain ⟨y52,hy52,hr48⟩:=bs hr48;have ehy52:=Zlu hy52;simp only [K78,nf] at ehy52;obtain ⟨y53,hy53,hr48⟩:=bs hr48;have ehy53:=ZoP hy53;simp only [Zid,ZkT] at ehy53;obtain ⟨_,u54,hr48⟩:=bs hr48;have u54_0:=ZC u54;refine Zhh rfl (by simp [u50_0,sf51,hO,hT78,ehy52,hT167,ehy53]; first | exact ⟨rfl,rfl⟩ | rfl) (by kernel_rfl) ?_;obtain rfl:=Option.some.inj hr48;simp only [pq];simp []
 ·skip
  have c49N:=c49;try simp at c49N
  first | have c49M:(_=_)=True:=eq_true c49N | have c49M:=c49N
  rw [if_neg] at hr48;rotate_left
  ·simp [c49]
  refine Zn (by simp [bV,c49]) ?_;refine Z4 ?_;obtain ⟨r56,q56,rfl⟩:=ms hr48;simp only [pq];rintro rfl
  try simp only [pq,reduceCtorEq]
  unfold ZgR at q56;obtain ⟨y57,hy57,q56⟩:=bs q56;have ehy57:=Zlu hy57;simp only [K78] at ehy57;obtain ⟨y58,hy58,q56⟩:=bs q56;have ehy58:=ZoP hy58;simp only [Zid,ZkT] at ehy58;refine ZY rfl (by simp [hO,hT78,ehy57,hT167,ehy58,c49]; first | exact ⟨rfl,rfl⟩ | rfl) (by kernel_rfl) ?_;have ar59:=YL (k:=.u64) (y58) (i:=2) (by decide);have as60:=YW (k:=.u64) (y58) (i:=2) (by decide);have ap61:=Xq (k:=.u64) (y58) (i:=2) (by decide) (bits .xor .u64 (y58.at 2) 255);refine Ze rfl (by simp [ap61] <;> rfl) ?_;obtain ⟨y62,hy62,q56⟩:=bs q56;have ehy62:=Zhn hy62;simp only [K168] at ehy62;obtain ⟨y63,hy63,q56⟩:=bs q56;have ehy63:=Zhn hy63;simp only [K168] at ehy63;obtain ⟨y64,hy64,q56⟩:=bs q56;have ehy64:=Zhn hy64;simp only [K168] at ehy64;obtain ⟨y65,hy65,q56⟩:=bs q56;have ehy65:=Zhn hy65;simp only [K168] at ehy65;refine Ze rfl (by simp [hO,hT168,ehy62,ehy63,ehy64,ehy65] <;> rfl) ?_;have ar66:=YL (k:=.u64) (y65) (i:=0) (by decide);have as67:=YW (k:=.u64) (y65) (i:=0) (by decide);have ar68:=YL (k:=.u64) (y65) (i:=1) (by decide);have as69:=YW (k:=.u64) (y65) (i:=1) (by decide);have ar70:=YL (k:=.u64) (y65) (i:=2) (by decide);have as71:=YW (k:=.u64) (y65) (i:=2) (by decide);have ar72:=YL (k:=.u64) (y65) (i:=3) (by decide);have as73:=YW (k:=.u64) (y65) (i:=3) (by decide);refine Ze rfl (by simp [] <;> rfl) ?_;refine ZbR ?_;obtain rfl:=Option.some.inj q56;simp [ZaN]
def kp75:Keep:=fun i=>⟨[],[],[]⟩
theorem w75 {T:Tab} (hO:T.own=fun _=>[]) (hT116:T 116=some K116.G) (hT117:T 117=some G117) (a0:(Arr 2)) (a1:(List Int)) (a2:Int) (a3:Int) (x:Int) (hr:Zbi a0 a1 a2 a3=some x):∃ kp fl n,Xj tt T G kp fl n Tryz.f75 (E75 (a0,a1,a2,a3))=some (R75 (a0,a1,a2,a3) x):=by
 simp only [E75,R75];refine fnE (kp:=kp75) (w:=false) body75 (by simp) ?_;unfold c75;rw [Tryz.ntmps75];unfold Zbi at hr;refine Ze rfl (by simp []; rfl) ?_;obtain ⟨y3,hy3,hr⟩:=bs hr;have ehy3:=Zt3 hy3;simp only [Zjb,ZlV] at ehy3;obtain ⟨y4,hy4,hr⟩:=bs hr;have ehy4:=Zt2 hy4;simp only [K116] at ehy4;refine Ze rfl (by simp [hO,hT117,ehy3,hT116,ehy4]; rfl) ?_;refine ZbR ?_;obtain rfl:=Option.some.inj hr;simp [ZaN]
theorem w173:Walk tt G [] (fun _=>[]) Tryz.f173 K173:=by
 refine .of [] false body173 Tryz.ntmps173 fun T hO hT ⟨a0,a1⟩ x hr=>⟨by simp,?_⟩
 simp only [Zi] at hT; simp only at hr ⊢; unfold c173;unfold Zen at hr;refine go ?_;obtain ⟨_,⟨_,_,_⟩,hr⟩:=bI hr;obtain ⟨_,hr⟩:=bC hr;refine go ?_;exact fin hr
end Go.Proofs.YthpkpciceodioaaGreatDoor
