import Derived.Test.YtcfpmbefhfbdjaaGreatDoorLfK
import Derived.Test.YtcfpmbefhfbdjaaGreatDoorCode
import Derived.Test.YtcfpmbefhfbdjaaGreatDoorBl
namespace Go.Proofs.YtcfpmbefhfbdjaaGreatDoor
open Go.RowKit
open Go.Av
open Go.Lc
set_option maxRecDepth 100000
set_option linter.unusedSimpArgs false
set_option linter.unusedVariables false
set_option maxHeartbeats 4000000
theorem w65:Walk tt G [] (fun _=>[]) Tryz.f65 K65:=by
 refine .ak [(3,⟨[3,6,7,8],[14],[(3,none,14,1)]⟩)] true Tryz.ntmps65 fun T hO hT a0 x=>?_
 simp only[Zh] at hT; simp only[kS,nfs,Zid,Zkt];refine au ?_
 intros; refine lpP 3 (fun⟨p7,p8⟩=>([(3,.one (.ms 14 0 0 (p8.length) 1)),(8,.one (.v (.int .i64 p7)))],[(14,⟨0,1,Zg .u8 p8,false,true⟩)])) ?_; rintro⟨p7,p8⟩ x; simp only[ZgH,Zkt]
 exact au
theorem w66:Walk tt G [] (fun _=>[]) Tryz.f66 K66:=by
 refine .ak [(5,⟨[0,4,18],[15],[]⟩)] true Tryz.ntmps66 fun T hO hT a0 x=>?_
 simp only[Zh] at hT; simp only[kS,nfs,Zie,Zku];refine au ?_
 intros; refine lpP 5 (fun⟨p9,p10⟩=>([(4,.one (.ms 15 0 0 (p10.length) 1)),(18,.one (.v (.int .i64 p9)))],[(15,⟨0,1,Zg .u8 p10,false,true⟩)])) ?_; rintro⟨p9,p10⟩ x; simp only[ZgI,Zku]
 exact au
theorem w139:Walk tt G [] (fun _=>[]) Tryz.f139 K139:=by
 refine .ak [] false Tryz.ntmps139 fun T hO hT ⟨a0,a1⟩ x=>?_
 simp only[Zh] at hT; simp only[kS,nfs,YR];exact au
theorem w106:Walk tt G [(139,K139.G)] (fun _=>[]) Tryz.f106 K106:=by
 refine .ak [] false Tryz.ntmps106 fun T hO hT ⟨a0,a1⟩ x=>?_
 simp only[Zh] at hT; simp only[kS,nfs,XN];exact au
theorem w105:Walk tt G [(106,K106.G)] (fun _=>[]) Tryz.f105 K105:=by
 refine .ak [(3,⟨[1,2,3,9],[1,2,3],[]⟩),(6,⟨[1,2,3,4,9,12],[1,2,3],[]⟩),(12,⟨[2,3,6],[2,3],[]⟩)] false Tryz.ntmps105 fun T hO hT a0 x=>?_
 simp only[Zh] at hT; simp only[kS,nfs,Zdr,Zc1,Zas,Zbn];refine au ?_
 intros; refine lpP 3 (fun⟨p20,p21⟩=>([(9,.one (.v (.int .i64 p20)))],[(3,⟨0,64,[arC .u32 p21],false,false⟩)])) ?_; rintro⟨p20,p21⟩ x; simp only[Zc2,Zc1,Zas,Zbn]
 refine au ?_ ?_
 ·intros; refine lpP 6 (fun⟨p77,p78⟩=>([(12,.one (.v (.int .i64 p77)))],[(3,⟨0,64,[arC .u32 p78],false,false⟩)])) ?_; rintro⟨p77,p78⟩ x; simp only[Zat,Zc1,Zas,Zbn]
  exact au
 ·intros; refine lpP 12 (fun⟨p51,p52⟩=>([(6,.one (.v (.int .i64 p51)))],[(3,⟨0,64,[arC .u32 p52],false,false⟩)])) ?_; rintro⟨p51,p52⟩ x; simp only[Lsha_schedule_s2,Zc1,Zas,Zbn]
  exact au
theorem w67:Walk tt G [(105,K105.G),(106,K106.G)] (fun _=>[]) Tryz.f67 K67:=by
 refine .ak [(5,⟨[2,4,5,6,7,8,9,10,11,12,13,35],[2,4,5],[]⟩)] false Tryz.ntmps67 fun T hO hT ⟨a0,a1⟩ x=>?_
 simp only[Zh] at hT; simp only[kS,nfs,Zds,Zhb];refine au ?_
 intros; refine lpP 5 (fun⟨p24,p25,p26,p27,p28,p29,p30,p31,p32⟩=>([(6,.one (.v (.int .u32 p24))),(7,.one (.v (.int .u32 p25))),(8,.one (.v (.int .u32 p26))),(9,.one (.v (.int .u32 p27))),(10,.one (.v (.int .u32 p28))),(11,.one (.v (.int .u32 p29))),(12,.one (.v (.int .u32 p30))),(13,.one (.v (.int .u32 p31))),(35,.one (.v (.int .i64 p32)))],[])) ?_; rintro⟨p24,p25,p26,p27,p28,p29,p30,p31,p32⟩ x; simp only[Zc3,Zhb]
 exact au
theorem w41:Walk tt G [(65,K65.G),(66,K66.G),(67,K67.G)] (fun _=>[]) Tryz.f41 K41:=by
 refine .ak [(4,⟨[2,3,4,18,19],[2,4,14],[]⟩),(10,⟨[2,4,6,31],[2,4,6],[]⟩)] false Tryz.ntmps41 fun T hO hT a0 x=>?_
 simp only[Zh] at hT; simp only[kS,nfs,Zhc,ZiL,Zfl];refine Zqd ?_
 intros; refine lpP 4 (fun⟨p11,p12⟩=>([(19,.one (.v (.int .i64 p11)))],[(4,⟨0,8,[arC .u32 p12],false,false⟩)])) ?_; rintro⟨p11,p12⟩ x; simp only[ZgK,ZiL,Zfl]
 refine Zqd ?_
 intros; refine lpP 10 (fun⟨p23,p24⟩=>([(31,.one (.v (.int .i64 p23)))],[(6,⟨0,32,[arC .u8 p24],false,false⟩)])) ?_; rintro⟨p23,p24⟩ x; simp only[ZgJ,ZiL,Zfl]
 exact Zqd
theorem w24:Walk tt G [(41,K41.G)] (fun _=>[]) Tryz.f24 K24:=by
 refine .ak [] false Tryz.ntmps24 fun T hO hT a0 x=>?_
 simp only[Zh] at hT; simp only[kS,nfs,Zcy];exact au
def kp25:Keep:=fun i=>if i=3 then⟨[0,3,9,10,11],[],[]⟩ else if i=11 then⟨[6,25,26,27],[24],[]⟩ else⟨[],[],[]⟩
theorem w25 {T:Tab}(hO:T.own=fun _=>[]) (hN42:T 42=none) (hZ42:T 1000042=some G42) (a0:(List (List Int))) (x:(List Int)) (hr:ZR a0=some x):∃ kp fl n,ZZ tt T G kp fl n Tryz.f25 (E25 a0)=some (R25 a0 x):=by
 simp only[E25,R25];refine fnE (kp:=kp25) (w:=true) body25 (by simp) ?_;unfold c25;rw[Tryz.ntmps25];unfold ZR at hr;refine Zd rfl (by simp[]; rfl) ?_;refine Zd rfl (by simp[]; rfl) ?_;refine ZH ?_;refine Zd rfl (by simp[]; rfl) ?_;refine ZD ?_;refine X8 (kq:=⟨[0,3,9,10,11],[],[]⟩) (H:=fun(s:Int×Int)=>match s with | (p5,p6)=>(⟨([.one (.slice .no (List.map XX a0))]++(und 2++([.one (.v (.int .i64 p5))]++(und 5++([.one (.slice .no (List.map XX a0)),.one (.v (.int .i64 (a0.length:Int))),.one (.v (.int .i64 p6))]++(und 24))))):List PV),([]:Boxes)⟩:ASt)) (by kernel_rfl) hr (by simp[und,List.replicate,]) ?_;rintro⟨p5,p6⟩ x28r hr28
 simp only[YP] at hr28;unfold b25_1;simp only[und,List.replicate,List.cons_append,List.nil_append];refine Zd rfl (by simp[]; rfl) ?_;by_cases c29:p6<(a0.length:Int)
 ·skip
  have c29N:=c29;try simp at c29N
  first | have c29M:(_=_)=True:=eq_true c29N | have c29M:=c29N
  rw[if_pos] at hr28;rotate_left
  ·simp[c29,c29M]
  refine ZC (by simp[bV,c29,c29M]) ?_;refine ZM ?_;refine ZD ?_;obtain⟨x30,hx30,hr28⟩:=bs hr28;obtain⟨hx30a,hx30b⟩:=Zcb hx30;have hx30c:=YL hx30b;refine Zd rfl (by simp[hx30a,hx30b,hx30c,c29,c29M] <;> rfl) ?_;refine Zd rfl (by simp[c29,c29M] <;> rfl) ?_;refine Zd rfl (by simp[c29,c29M] <;> rfl) ?_;by_cases c32:IntKind.i64.wrap (p5+(x30.length:Int))<0
  ·skip
   have c32N:=c32;try simp at c32N
   first | have c32M:(_=_)=True:=eq_true c32N | have c32M:=c32N
   rw[if_pos] at hr28;rotate_left
   ·simp[c29,c29M,c32,c32M]
   refine Zg7 (by simp[bV,c29,c29M,c32,c32M]) ?_;simp at hr28
  ·skip
   have c32N:=c32;try simp at c32N
   first | have c32M:(_=_)=True:=eq_true c32N | have c32M:=c32N
   rw[if_neg] at hr28;rotate_left
   ·simp[c29,c29M,c32,c32M]
   refine Zg8 (by simp[bV,c29,c29M,c32,c32M]) ?_;refine Zic ?_;simp only[pq,reduceCtorEq];unfold YO at hr28;refine XY rfl (by simp[c29,c29M,c32,c32M] <;> rfl) ?_;obtain rfl:=Option.some.inj hr28;simp only[pq,reduceCtorEq];simp[und,List.replicate,Nat.add_assoc,c29,c29M,c32,c32M]
 ·skip
  have c29N:=c29;try simp at c29N
  first | have c29M:(_=_)=True:=eq_true c29N | have c29M:=c29N
  rw[if_neg] at hr28;rotate_left
  ·simp[c29,c29M]
  refine ZF (by simp[bV,c29,c29M]) ?_;refine Ys ?_;obtain⟨r33,q33,rfl⟩:=ms hr28;simp only[pq,reduceCtorEq];rintro rfl
  try simp only[pq,reduceCtorEq]
  unfold ZaI at q33;obtain⟨_,u34,q33⟩:=bs q33;obtain⟨u34_0,u34_1⟩:=ZK u34;have eg35:=ZwJ (n:=p5) ⟨u34_0,u34_1⟩;refine Zd rfl (by simp[hO,hN42,hZ42,eg35,c29,c29M] <;> rfl) ?_;refine ZH ?_;refine Zd rfl (by simp[c29,c29M] <;> rfl) ?_;refine ZD ?_;refine X8 (kq:=⟨[6,25,26,27],[24],[]⟩) (H:=fun(s:Int×(List Int))=>match s with | (p15,p16)=>(⟨(und 6++([.one (.ms 24 0 0 (p16.length) 1)]++(und 18++([.one (.slice .no (List.map XX a0)),.one (.v (.int .i64 (a0.length:Int))),.one (.v (.int .i64 p15))]++(und 8)))):List PV),([(24,⟨0,1,Zg .u8 p16,false,true⟩)]:Boxes)⟩:ASt)) (by kernel_rfl) q33 (by simp[und,List.replicate,c29,c29M]) ?_;rintro⟨p15,p16⟩ x41r hr41
  simp only[Yl] at hr41;unfold b25_2;simp only[und,List.replicate,List.cons_append,List.nil_append];refine Zd rfl (by simp[c29,c29M] <;> rfl) ?_;by_cases c42:p15<(a0.length:Int)
  ·skip
   have c42N:=c42;try simp at c42N
   first | have c42M:(_=_)=True:=eq_true c42N | have c42M:=c42N
   rw[if_pos] at hr41;rotate_left
   ·simp[c29,c29M,c42,c42M]
   refine ZC (by simp[bV,c29,c29M,c42,c42M]) ?_;refine ZM ?_;refine ZD ?_;obtain⟨x43,hx43,hr41⟩:=bs hr41;obtain⟨hx43a,hx43b⟩:=Zcb hx43;have hx43c:=YL hx43b;refine Zd rfl (by simp[hx43a,hx43b,hx43c,c29,c29M,c42,c42M] <;> rfl) ?_;obtain⟨_,u44,hr41⟩:=bs hr41;have u44_0:=ZK u44;have n1_u44_0:p16.length+x43.length≤140737488355328:=by omega
   have n2_u44_0:p16.length+x43.length≤9223372036854775807:=by omega
   refine XY rfl (by simp[n1_u44_0,n2_u44_0,c29,c29M,c42,c42M] <;> rfl) ?_;simp only[pq,reduceCtorEq];refine XY rfl (by simp[c29,c29M,c42,c42M] <;> rfl) ?_;obtain rfl:=Option.some.inj hr41;simp only[pq,reduceCtorEq];simp[und,List.replicate,Nat.add_assoc,c29,c29M,c42,c42M]
  ·skip
   have c42N:=c42;try simp at c42N
   first | have c42M:(_=_)=True:=eq_true c42N | have c42M:=c42N
   rw[if_neg] at hr41;rotate_left
   ·simp[c29,c29M,c42,c42M]
   refine ZF (by simp[bV,c29,c29M,c42,c42M]) ?_;refine Ys ?_;obtain⟨r45,q45,rfl⟩:=ms hr41;simp only[pq,reduceCtorEq];rintro rfl
   try simp only[pq,reduceCtorEq]
   unfold Zdn at q45;refine Zd rfl (by simp[c29,c29M,c42,c42M] <;> rfl) ?_;refine Zaf ?_;obtain rfl:=Option.some.inj q45;simp[YW,c29,c29M,c42,c42M,c29N,c42N]
theorem w8:Walk tt G [(24,K24.G),(25,G25)] (fun _=>[]) Tryz.f8 K8:=by
 refine .ak [] false Tryz.ntmps8 fun T hO hT ⟨a0,a1⟩ x=>?_
 simp only[Zh] at hT; simp only[kS,nfs,Zbq];exact auR
theorem w21:Walk tt G [] (fun _=>[]) Tryz.f21 K21:=by
 refine .sk [] false Tryz.ntmps21 fun T hO hT a0 x hr=>?_
 simp only[Zh] at hT; simp only[kS,nfs] at hr ⊢;unfold Yz at hr;refine go ?_;rcases eqT ((a0.1.length:Int)=(a0.2.length:Int)) with c1 | c1
 ·have c1N:=nrm c1
  refine go ?_;exact fin hr
 ·have c1N:=nrm c1
  refine go ?_;exact fin hr
theorem w23:Walk tt G [] (fun _=>[]) Tryz.f23 K23:=by
 refine .ak [] false Tryz.ntmps23 fun T hO hT ⟨a0,a1⟩ x=>?_
 simp only[Zh] at hT; simp only[kS,nfs,XZ];exact au
theorem w26:Walk tt G [] (fun _=>[]) Tryz.f26 K26:=by
 refine .ak [(3,⟨[3,6,7,8],[14],[(3,none,14,32)]⟩)] true Tryz.ntmps26 fun T hO hT a0 x=>?_
 simp only[Zh] at hT; simp only[kS,nfs,Yx,ZeK];refine au ?_
 intros; refine lpP 3 (fun⟨p7,p8⟩=>([(3,.one (.ms 14 0 0 (p8.length) 32)),(8,.one (.v (.int .i64 p7)))],[(14,⟨0,32,List.map (arC .u8) p8,false,true⟩)])) ?_; rintro⟨p7,p8⟩ x; simp only[Xm,ZeK]
 exact au
end Go.Proofs.YtcfpmbefhfbdjaaGreatDoor
