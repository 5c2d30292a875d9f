import Derived.Test.YthpkpciceodioaaGreatDoorLfK
import Derived.Test.YthpkpciceodioaaGreatDoorCode
import Derived.Test.YthpkpciceodioaaGreatDoorBl
namespace Go.Proofs.YthpkpciceodioaaGreatDoor
open Go.RowKit
open Go.Av
open Go.Lc
set_option maxRecDepth 100000
set_option linter.unusedSimpArgs false
set_option linter.unusedVariables false
set_option maxHeartbeats 4000000
section
attribute [local simp] mzD mzT
theorem w221:Walk tt G [(161,K161.G),(237,G237)] (fun _=>[]) Tryz.f221 K221:=by
 refine .ak [(3,⟨[2,3,4,5,6,15],[2,3,4,5,6],[]⟩),(7,⟨[2,3,4,5,6,7,8,15,18],[2,3,4,5,6],[]⟩)] false Tryz.ntmps221 fun T hO hT ⟨a0,a1⟩ x=>?_
 simp only[Zh] at hT; simp only[kS,nfs,ZgK,Zhx,Zfy];refine au ?_
 intros; refine lpP 3 (fun⟨p48,p49⟩=>([(15,.one (.v (.int .i64 p48)))],[(6,⟨0,8,[arC .u64 p49],false,false⟩)])) ?_; rintro⟨p48,p49⟩ x; simp only[ZjG,Zhx,Zfy]
 refine au ?_
 intros; refine lpP 7 (fun⟨p88,p89,p90⟩=>([(8,.one (.v (.int .u64 p88))),(18,.one (.v (.int .i64 p89)))],[(6,⟨0,8,[arC .u64 p90],false,false⟩)])) ?_; rintro⟨p88,p89,p90⟩ x; simp only[ZjF,Zhx,Zfy]
 exact au
end
theorem v249:ZpZ Tryz.prog G 249 G249:=by
 refine Zpl (k:=.u64) (p:=fun x y b=>(x+18446744073709551616-y-b) % 18446744073709551616) (q:=fun x y b=>if x<y+b then 1 else 0) (ok:=fun x y b=>b≤1) (fun ps r hF=>?_) (fun x y b w hx=>ZyK x y b hx w);obtain⟨⟨x,y,b⟩,rfl,h⟩:=ZdY hF;obtain⟨z,hz,rfl⟩:=Option.map_eq_some_iff.1 h;unfold Zav at hz;obtain⟨_,u1,hz⟩:=bs hz;obtain rfl:=Option.some.inj hz;obtain⟨⟨h1,h2⟩,⟨h3,h4⟩,h5⟩:=ZW u1;obtain⟨x,rfl⟩:=Int.eq_ofNat_of_zero_le h1;obtain⟨y,rfl⟩:=Int.eq_ofNat_of_zero_le h2;obtain⟨b,rfl⟩:=Int.eq_ofNat_of_zero_le h4;have h3':(y:Int)≤18446744073709551615:=h3;have h5':(b:Int)≤1:=h5;refine⟨x,y,b,by omega,rfl,?_⟩;have e1:((x:Int)+18446744073709551616-y-b) % 18446744073709551616=(((x+18446744073709551616-y-b) % 18446744073709551616:Nat):Int):=by omega
 have e2:(if (x:Int)<(y:Int)+(b:Int) then(1:Int) else 0)=((if x<y+b then 1 else 0:Nat):Int):=by split <;> split <;> first | rfl | omega
 simp only[Zll,e1,e2]
theorem w239:Walk tt G [(249,G249)] (fun _=>[]) Tryz.f239 K239:=by
 refine .ak [(4,⟨[2,3,4,6,7,9],[2,3,4,6],[]⟩)] false Tryz.ntmps239 fun T hO hT ⟨a0,a1⟩ x=>?_
 simp only[Zh] at hT; simp only[kS,nfs,ZgG,ZjC];refine au ?_
 intros; refine lpP 4 (fun⟨p7,p8,p9⟩=>([(7,.one (.v (.int .u64 p7))),(9,.one (.v (.int .i64 p8)))],[(6,⟨0,4,[arC .u64 p9],false,false⟩)])) ?_; rintro⟨p7,p8,p9⟩ x; simp only[ZjD,ZjC]
 exact au
theorem w223:Walk tt G [(189,K189.G),(191,K191.G),(238,K238.G),(239,K239.G)] (fun _=>[]) Tryz.f223 K223:=by
 refine .ak [(5,⟨[4,5,6,7,9],[4,5,6,7],[]⟩)] false Tryz.ntmps223 fun T hO hT ⟨a0,a1,a2⟩ x=>?_
 simp only[Zh] at hT; simp only[kS,nfs,ZgL,ZjH,Zfz,ZdH];refine ZhX ?_
 intros; refine lpP 5 (fun⟨p27,p28,p29⟩=>([(9,.one (.v (.int .i64 p27)))],[(6,⟨0,4,[arC .u64 p28],false,false⟩),(7,⟨0,4,[arC .u64 p29],false,false⟩)])) ?_; rintro⟨p27,p28,p29⟩ x; simp only[ZjI,ZjH,Zfz,ZdH]
 exact ZhX
theorem w224:Walk tt G [(143,K143.G),(189,K189.G),(192,K192.G),(225,K225.G),(226,K226.G)] (fun _=>[]) Tryz.f224 K224:=by
 refine .ak [(5,⟨[1,3],[1],[]⟩)] false Tryz.ntmps224 fun T hO hT a0 x=>?_
 simp only[Zh] at hT; simp only[kS,nfs,ZcT,Za0];refine au ?_
 intros; refine lpP 5 (fun p15=>([(3,.one (.v (.int .i64 p15)))],[])) ?_; rintro p15 x; simp only[ZgX,Za0]
 exact au
theorem w187:Walk tt G [(145,K145.G),(188,K188.G),(189,K189.G),(192,K192.G),(221,K221.G),(222,K222.G),(223,K223.G),(224,K224.G)] (fun _=>[]) Tryz.f187 K187:=by
 refine .ak [] false Tryz.ntmps187 fun T hO hT ⟨a0,a1,a2,a3⟩ x=>?_
 simp only[Zh] at hT; simp only[kS,nfs,ZdI,Zdi,Zdj,Zdk];exact ZhX
theorem w139:Walk tt G [(145,K145.G),(187,K187.G)] (fun _=>[]) Tryz.f139 K139:=by
 refine .ak [] false Tryz.ntmps139 fun T hO hT ⟨a0,a1⟩ x=>?_
 simp only[Zh] at hT; simp only[kS,nfs,Zdl];exact au
theorem w190:Walk tt G [] (fun _=>[]) Tryz.f190 K190:=by
 refine .ak [(3,⟨[1,2,3,6],[1,2,3],[]⟩)] false Tryz.ntmps190 fun T hO hT a0 x=>?_
 simp only[Zh] at hT; simp only[kS,nfs,YV,Zbb];refine ZhX ?_
 intros; refine lpP 3 (fun⟨p8,p9⟩=>([(6,.one (.v (.int .i64 p8)))],[(3,⟨0,4,[arC .u64 p9],false,false⟩)])) ?_; rintro⟨p8,p9⟩ x; simp only[Zbc,Zbb]
 exact ZhX
theorem w140:Walk tt G [(188,K188.G),(189,K189.G),(190,K190.G)] (fun _=>[]) Tryz.f140 K140:=by
 refine .ak [] false Tryz.ntmps140 fun T hO hT ⟨a0,a1⟩ x=>?_
 simp only[Zh] at hT; simp only[kS,nfs,Zdc];exact au
section
attribute [local simp] Ztm
theorem w141:Walk tt G [] (fun _=>[]) Tryz.f141 K141:=by
 refine .sk [(3,⟨[3,7,8,9],[37],[(3,none,37,1)]⟩),(1000008,⟨[3,5,6,7,8,9],[37],[]⟩),(6,⟨[3,5,6,7,8,9],[37],[]⟩)] false Tryz.ntmps141 fun T hO hT a0 x hr=>?_
 simp only[Zh] at hT; simp only[kS,nfs] at hr ⊢;unfold Zcb at hr;refine Zdq ?_;refine lp 3 (fun(⟨p28,p29⟩:Int×(List Int))=>⟨(und 3++([.one (.ms 37 0 0 (p29.length) 1)]++(und 3++([.one (.slice .no (Zf .u32 a0)),.one (.v (.int .i64 (a0.length:Int))),.one (.v (.int .i64 p28))]++(und 38)))):List PV),([(37,⟨0,1,Zf .u32 p29,false,true⟩)]:Boxes)⟩) hr ?_;rintro⟨p28,p29⟩ x97r hr97
 simp only[ZhM] at hr97;refine nst ?_;refine Zdq ?_;by_cases c98:p28<(a0.length:Int)
 ·have c98N:=nrm c98
  replace hr97:=ifP hr97
  refine Zdq ?_;obtain⟨x99,⟨_,_,_⟩,hr97⟩:=bI hr97;refine Zdq ?_;refine ZsN hr97 (.exit 2) (fun(s:Int)=>match s with | p56=>(⟨(und 3++([.one (.ms 37 0 0 (p29.length) 1)]++(und 1++([.one (.v (.int .u32 x99)),.one (.v (.int .i64 p56)),.one (.slice .no (Zf .u32 a0)),.one (.v (.int .i64 (a0.length:Int))),.one (.v (.int .i64 p28))]++(und 38)))):List PV),([(37,⟨0,1,Zf .u32 p29,false,true⟩)]:Boxes)⟩:ASt)) (fun(s:Int)=>match s with | p56=>Zdd p56 p29 p28 x99) ?_ ?_
  ·rintro p56 hk109
   change Zdd p56 p29 p28 x99=_ at hk109
   refine Zdq ?_;refine nst ?_;unfold Zdd at hk109;obtain⟨⟨_,_⟩,hk109⟩:=bC hk109;have sf111:(p56).toNat≤p29.length:=by omega
   have sf112:0≤p56:=by omega
   obtain⟨⟨_,_⟩,hk109⟩:=bC hk109;have sf114:(p56).toNat≤p29.length:=by omega
   obtain⟨u115_0,hk109⟩:=bC hk109;have u115_0N:=u115_0;try simp at u115_0N
   have n1_u115_0:(1+(((p29).drop (p56).toNat).take (p29.length-(p56).toNat)).length) * 4≤140737488355328:=by omega
   have n2_u115_0:1+(((p29).drop (p56).toNat).take (p29.length-(p56).toNat)).length≤9223372036854775807:=by omega
   have n1s_u115_0:=n1_u115_0;try simp only[List.length_drop,List.length_take,Nat.min_self,Nat.sub_le_iff_le_add,Nat.min_eq_left,sf111,sf112,sf114] at n1s_u115_0
   have n2s_u115_0:=n2_u115_0;try simp only[List.length_drop,List.length_take,Nat.min_self,Nat.sub_le_iff_le_add,Nat.min_eq_left,sf111,sf112,sf114] at n2s_u115_0
   obtain⟨u116_0,hk109⟩:=bC hk109;have u116_0N:=u116_0;try simp at u116_0N
   have n1_u116_0:(((p29).take (p56).toNat).length+(1+(((p29).drop (p56).toNat).take (p29.length-(p56).toNat)).length)) * 4≤140737488355328:=by
    have h:=u116_0;try simp at h
    first | omega | (simp only[List.length_take,List.length_drop] at h ⊢; omega) | (simp only[List.length_take,List.length_drop]; omega)
   have n2_u116_0:((p29).take (p56).toNat).length+(1+(((p29).drop (p56).toNat).take (p29.length-(p56).toNat)).length)≤9223372036854775807:=by
    have h:=u116_0;try simp at h
    first | omega | (simp only[List.length_take,List.length_drop] at h ⊢; omega) | (simp only[List.length_take,List.length_drop]; omega)
   have n1s_u116_0:=n1_u116_0;try simp only[List.length_drop,List.length_take,Nat.min_self,Nat.sub_le_iff_le_add,Nat.min_eq_left,sf111,sf112,sf114] at n1s_u116_0
   have n2s_u116_0:=n2_u116_0;try simp only[List.length_drop,List.length_take,Nat.min_self,Nat.sub_le_iff_le_add,Nat.min_eq_left,sf111,sf112,sf114] at n2s_u116_0
   have z1:(p56.toNat+(p29.length-p56.toNat+1)) * 4≤140737488355328:=by omega
   have z2:p56.toNat+(p29.length-p56.toNat+1)≤9223372036854775807:=by omega
   refine Zvc rfl (kq:=⟨[3,5,6,7,8,9],[37],[]⟩) rfl (by simp[-Int.natCast_tdiv_eq_ediv,Nat.add_assoc,Za8, *]; rfl) (by simp[-Int.natCast_tdiv_eq_ediv,Nat.add_assoc, *]; first | exact⟨rfl,rfl⟩ | rfl) (by kernel_rfl) ?_;refine Zdq ?_;exact bk hk109
  ·intro J109
   simp only[pq,reduceCtorEq] at J109;refine lp 6 (fun(p56:Int)=>⟨(und 3++([.one (.ms 37 0 0 (p29.length) 1)]++(und 1++([.one (.v (.int .u32 x99)),.one (.v (.int .i64 p56)),.one (.slice .no (Zf .u32 a0)),.one (.v (.int .i64 (a0.length:Int))),.one (.v (.int .i64 p28))]++(und 38)))):List PV),([(37,⟨0,1,Zf .u32 p29,false,true⟩)]:Boxes)⟩) hr97 ?_;rintro p56 x117r hr117
   simp only[ZhL] at hr117;refine nst ?_;refine Zdq ?_;by_cases c118:p56<(p29.length:Int)
   ·have c118N:=nrm c118
    replace hr117:=ZoM hr117
    obtain⟨_,hz119,hr117⟩:=bs hr117;obtain⟨_,⟨_,_,_⟩,hz119⟩:=bA hz119;obtain⟨x121,hx121,hz119⟩:=bs hz119;have ghx121:=YC hx121;obtain rfl:=Option.some.inj hz119;refine Zdq ?_;by_cases c122:x121≤x99
    ·replace hr117:=ifP hr117
     refine Zdq ?_;exact bk hr117
    ·replace hr117:=ifN hr117
     refine Zdq ?_;obtain⟨r123,q123,rfl⟩:=ms hr117;refine Zdq ?_;rintro rfl
     refine Zdq ?_;exact jn 1000008 (J109 p56 q123)
   ·have c118N:=nrm c118
    replace hr117:=ZqD hr117
    obtain⟨_,hz124,hr117⟩:=bs hr117;obtain rfl:=Option.some.inj hz124;refine Zdq ?_
    replace hr117:=ifN hr117
    refine Zdq ?_;obtain⟨r125,q125,rfl⟩:=ms hr117;refine Zdq ?_;rintro rfl
    refine Zdq ?_;exact jn 1000008 (J109 p56 q125)
 ·have c98N:=nrm c98
  replace hr97:=ifN hr97
  refine Zdq ?_;obtain⟨r126,q126,rfl⟩:=ms hr97;refine Zdq ?_;rintro rfl
  refine Zdq ?_;unfold ZhK at q126;refine Zdq ?_;rcases eqT ((p29.length:Int)=0) with c127 | c127
  ·have c127N:=nrm c127
   replace q126:=ifP q126
   refine Zdq ?_;exact fin q126
  ·have c127N:=nrm c127
   replace q126:=ifN q126
   refine Zdq ?_;obtain⟨_,⟨_,_,_⟩,q126⟩:=bA q126;obtain⟨_,hx129,q126⟩:=bs q126;have ghx129:=YC hx129;refine Zdq ?_;exact fin q126
end
section
attribute [local simp] az64 bz4
theorem w128:Walk tt G [(22,K22.G),(139,K139.G),(140,K140.G),(141,K141.G)] (fun _=>[]) Tryz.f128 K128:=by
 refine .sk [(4,⟨[8,9,11],[8,11],[]⟩)] false Tryz.ntmps128 fun T hO hT ⟨a0,a1,a2,a3⟩ x hr=>?_
 simp only[Zh] at hT; simp only[kS,nfs] at hr ⊢;unfold ZfU at hr;refine go ?_;obtain⟨y13,ehy13,hr⟩:=bN hr K139.q2;refine go ?_;obtain⟨y14,ehy14,hr⟩:=bN hr K141.q1;refine go ?_;refine lp 4 (fun(p8:Int)=>⟨(und 8++([.ptr 8 0 0 0 68,.one (.v (.int .u32 y13.1))]++(und 1++([.ptr 11 0 0 0 68]++(und 33)))):List PV),([(8,⟨0,68,[(.v (.int .u32 0)) :: ((arC .u8 (zA 32))++((arC .u8 (zA 32))++((.v (.int .u32 0)) :: ((.v (.int .u32 0)) :: ((.v (.int .u32 0)) :: [])))))],false,false⟩),(11,⟨0,68,[(.v (.int .u32 a0.2.2.2.2.2.1)) :: ((arC .u8 a1.2.1)++((arC .u8 a2)++((.v (.int .u32 (IntKind.u32.wrap ((IntKind.u32.wrap (y14+1))+a3)))) :: ((.v (.int .u32 y13.1)) :: ((.v (.int .u32 p8)) :: [])))))],false,false⟩)]:Boxes)⟩) hr ?_;rintro p8 x21r hr21
 simp only[ZiU] at hr21;refine nst ?_;refine go ?_;by_cases c22:p8<20000
 ·replace hr21:=ifP hr21
  refine go ?_;obtain⟨_,ehy23,hr21⟩:=bN hr21 K22.q1;obtain⟨y24,ehy24,hr21⟩:=bN hr21 K140.q2;refine go ?_;by_cases c25:y24=true
  ·replace hr21:=ifP hr21
   refine go ?_;exact fin hr21
  ·replace hr21:=ifN hr21
   refine go ?_;exact bk hr21
 ·replace hr21:=ifN hr21
  refine go ?_;obtain⟨r26,q26,rfl⟩:=ms hr21;refine go ?_;rintro rfl
  refine go ?_;unfold Zlr at q26;refine go ?_;exact fin q26
end
theorem w178:Walk tt G [(51,K51.G),(72,K72.G),(114,K114.G)] (fun _=>[]) Tryz.f178 K178:=by
 refine .ak [] false Tryz.ntmps178 fun T hO hT a0 x=>?_
 simp only[Zh] at hT; simp only[kS,nfs,ZfN];exact au
theorem w45:Walk tt G [(82,K82.G)] (fun _=>[]) Tryz.f45 K45:=by
 refine .ak [(3,⟨[3,6,7,8],[900003],[(3,none,900003,0),(3,none,900003,1)]⟩)] true Tryz.ntmps45 fun T hO hT a0 x=>?_
 simp only[Zh] at hT; simp only[kS,nfs,ZaI,ZgF];refine au ?_
 intros; refine lpP 3 (fun⟨p7,p8⟩=>([(3,.one (.ms 900003 0 0 (p8.length) 1)),(8,.one (.v (.int .i64 p7)))],[(900003,⟨0,1,Zf .u8 p8,false,true⟩)])) ?_; rintro⟨p7,p8⟩ x; simp only[ZcK,ZgF]
 exact au
theorem w233:Walk tt G [(45,K45.G),(95,G95)] (fun _=>[]) Tryz.f233 K233:=by
 refine .ak [] false Tryz.ntmps233 fun T hO hT ⟨a0,a1⟩ x=>?_
 simp only[Zh] at hT; simp only[kS,nfs,ZfO];exact auR
end Go.Proofs.YthpkpciceodioaaGreatDoor
