import Derived.Test.YtbppknpnmjhjpaaGreatDoorLfK
import Derived.Test.YtbppknpnmjhjpaaGreatDoorCode
import Derived.Test.YtbppknpnmjhjpaaGreatDoorBl
namespace Go.Proofs.YtbppknpnmjhjpaaGreatDoor
open Go.RowKit
open Go.Av
open Go.Lc
set_option maxRecDepth 100000
set_option linter.unusedSimpArgs false
set_option linter.unusedVariables false
set_option maxHeartbeats 4000000
theorem w181:Walk tt G [(211,K211.G)] (fun _=>[]) Tryz.f181 K181:=by
 refine .ak [(2,⟨[0,3],[7],[(0,none,1,1)]⟩),(5,⟨[0,3,4,5],[7,900004],[(4,none,900004,32)]⟩)] true Tryz.ntmps181 fun T hO hT a0 x=>?_
 simp only[Zh] at hT; simp only[kS,nfs,ZdB,Ze2,Ze3,Zc7];refine au ?_
 intros; refine lpP 2 (fun⟨p51,p52⟩=>([(0,.one (.slice .no (List.map (arC .u8) p51))),(3,.one (.ms 7 0 0 (p52.length) 1))],[(7,⟨0,1,List.map ZgA p52,false,true⟩)])) ?_; rintro⟨p51,p52⟩ x; simp only[Lmerkle_levels_s1,Ze2,Ze3,Zc7]
 refine au ?_
 intros; refine lpP 5 (fun⟨p91,p92⟩=>([(4,.one (.ms 900004 0 0 (p92.length) 32)),(5,.one (.v (.int .i64 p91)))],[(900004,⟨0,32,List.map (arC .u8) p92,false,true⟩)])) ?_; rintro⟨p91,p92⟩ x; simp only[Ze4,Ze2,Ze3,Zc7]
 exact au
theorem w135:Walk tt G [(181,K181.G)] (fun _=>[]) Tryz.f135 K135:=by
 refine .ak [] false Tryz.ntmps135 fun T hO hT a0 x=>?_
 simp only[Zh] at hT; simp only[kS,nfs,Zfq];exact au
theorem w74:Walk tt G [(134,K134.G),(135,K135.G)] (fun _=>[]) Tryz.f74 K74:=by
 refine .ak [(3,⟨[2,3,6,7,8],[2,16],[(3,none,16,32)]⟩)] false Tryz.ntmps74 fun T hO hT a0 x=>?_
 simp only[Zh] at hT; simp only[kS,nfs,Zgw,Zhv];refine au ?_
 intros; refine lpP 3 (fun⟨p8,p9⟩=>([(3,.one (.ms 16 0 0 (p9.length) 32)),(8,.one (.v (.int .i64 p8)))],[(16,⟨0,32,List.map (arC .u8) p9,false,true⟩)])) ?_; rintro⟨p8,p9⟩ x; simp only[Zhw,Zhv]
 exact au
theorem w36:Walk tt G [(27,K27.G),(67,K67.G),(72,K72.G),(73,K73.G),(74,K74.G)] (fun _=>[]) Tryz.f36 K36:=by
 refine .ak [(7,⟨[1,24,25,26],[1],[]⟩),(13,⟨[1,38,39,40],[1],[]⟩)] false Tryz.ntmps36 fun T hO hT a0 x=>?_
 simp only[Zh] at hT; simp only[kS,nfs,Zfr,ZcN,ZcO];refine au ?_
 intros; refine lpP 7 (fun p7=>([(26,.one (.v (.int .i64 p7)))],[])) ?_; rintro p7 x; simp only[ZgP,ZcN,ZcO]
 refine au ?_
 intros; refine lpP 13 (fun p15=>([(40,.one (.v (.int .i64 p15)))],[])) ?_; rintro p15 x; simp only[ZgO,ZcN,ZcO]
 exact au
theorem w37:Walk tt G [(35,K35.G)] (fun _=>[]) Tryz.f37 K37:=by
 refine .ak [(8,⟨[2,3,4,7,8,23,24,25],[2,3,4,36,41],[(7,none,36,33),(8,none,41,1)]⟩)] false Tryz.ntmps37 fun T hO hT ⟨a0,a1⟩ x=>?_
 simp only[Zh] at hT; simp only[kS,nfs,ZcP,ZeB,Za3];refine au ?_
 intros; refine lpP 8 (fun⟨p13,p14,p15⟩=>([(7,.one (.ms 36 0 0 (p14.length) 33)),(8,.one (.ms 41 0 0 (p15.length) 1)),(25,.one (.v (.int .i64 p13)))],[(36,⟨0,33,List.map eapi_Claim p14,false,true⟩),(41,⟨0,1,Zg .i64 p15,false,true⟩)])) ?_; rintro⟨p13,p14,p15⟩ x; simp only[Zg3,ZeB,Za3]
 exact au
theorem w13:Walk tt G [(10,K10.G),(11,K11.G),(12,K12.G),(29,K29.G),(35,K35.G),(36,K36.G),(37,K37.G)] (fun _=>[]) Tryz.f13 K13:=by
 refine .ak [] false Tryz.ntmps13 fun T hO hT ⟨a0,a1,a2⟩ x=>?_
 simp only[Zh] at hT; simp only[kS,nfs,ZdC];exact au
theorem w41:Walk tt G [(25,K25.G),(88,K88.G)] (fun _=>[]) Tryz.f41 K41:=by
 refine .ak [] false Tryz.ntmps41 fun T hO hT ⟨a0,a1⟩ x=>?_
 simp only[Zh] at hT; simp only[kS,nfs,Zek];exact auR
theorem w16:Walk tt G [(41,K41.G)] (fun _=>[]) Tryz.f16 K16:=by
 refine .ak [(3,⟨[2,5,8,9,10],[2,20],[(5,none,20,32)]⟩)] true Tryz.ntmps16 fun T hO hT ⟨a0,a1⟩ x=>?_
 simp only[Zh] at hT; simp only[kS,nfs,Zfs,Zi8];refine au ?_
 intros; refine lpP 3 (fun⟨p9,p10,p11⟩=>([(5,.one (.ms 20 0 0 (p11.length) 32)),(10,.one (.v (.int .i64 p9)))],[(2,⟨0,32,[arC .u8 p10],false,false⟩),(20,⟨0,32,List.map (arC .u8) p11,false,true⟩)])) ?_; rintro⟨p9,p10,p11⟩ x; simp only[ZeC,Zi8]
 exact au
theorem w44:Walk tt G [] (fun _=>[]) Tryz.f44 K44:=by
 refine .sk [] false Tryz.ntmps44 fun T hO hT ⟨a0,a1,a2,a3⟩ x hr=>?_
 simp only[Zh] at hT; simp only[kS,nfs] at hr ⊢;unfold Zft at hr;refine go ?_;obtain⟨_,hr⟩:=bC hr;refine go ?_;rcases eqT (a1=0) with c7 | c7
 ·replace hr:=ZlP hr
  obtain⟨_,hz8,hr⟩:=bs hr;obtain rfl:=Option.some.inj hz8;refine go ?_
  replace hr:=ifP hr
  refine go ?_;obtain⟨_,⟨_,_,_⟩,hr⟩:=bI hr;refine go ?_;exact fin hr
 ·rcases eqT ((a3.length:Int)=0) with c10 | c10
  ·have c10N:=nrm c10
   replace hr:=ZlP hr
   obtain⟨_,hz11,hr⟩:=bs hr;obtain rfl:=Option.some.inj hz11;refine go ?_
   replace hr:=ifP hr
   refine go ?_;obtain⟨_,⟨_,_,_⟩,hr⟩:=bI hr;refine go ?_;exact fin hr
  ·have c10N:=nrm c10
   replace hr:=ZmO hr
   obtain⟨_,hz13,hr⟩:=bs hr;obtain⟨x14,⟨_,hx14b,_⟩,hz13⟩:=bI hz13;obtain rfl:=Option.some.inj hz13;refine go ?_;rcases eqT ((x14).tmod 3=0) with c15 | c15
   ·replace hr:=ifP hr
    refine go ?_;obtain⟨_,⟨_,_,_⟩,hr⟩:=bI hr;refine go ?_;exact fin hr
   ·replace hr:=ifN hr
    refine go ?_;obtain⟨_,⟨_,hx17b,_⟩,hr⟩:=bI hr;obtain rfl:=Option.some.inj (hx14b.symm.trans hx17b);refine go ?_;exact fin hr
theorem w17:Walk tt G [(44,K44.G)] (fun _=>[]) Tryz.f17 K17:=by
 refine .sk [(3,⟨[0,1,2,3,4,5,13,14],[50],[(13,none,50,33)]⟩)] true Tryz.ntmps17 fun T hO hT ⟨a0,a1,a2,a3,a4,a5⟩ x hr=>?_
 simp only[Zh] at hT; simp only[kS,nfs] at hr ⊢;unfold ZcZ at hr;refine go ?_;refine lp 3 (fun(⟨p10,p11⟩:Int×(List Tapi_Claim))=>⟨([.one (.slice .no (List.map (arC .u8) a0)),.one (.v (.int .i64 a1)),.one (.v (.int .i64 a2)),.one (.slice .no (Zg .u8 a3)),.one (.slice .no (Zg .u8 a4)),.one (.v (.int .i64 a5))]++(und 7++([.one (.ms 50 0 0 (p11.length) 33),.one (.v (.int .i64 p10))]++(und 37))):List PV),([(50,⟨0,33,List.map eapi_Claim p11,false,true⟩)]:Boxes)⟩) hr ?_;rintro⟨p10,p11⟩ x36r hr36
 simp only[Ziu] at hr36;refine nst ?_;refine go ?_;by_cases c37:p10<a1
 ·replace hr36:=ifP hr36
  refine go ?_;by_cases c38:0<p10
  ·by_cases c39:IntKind.i64.wrap (p10+(IntKind.i64.wrap (5 * a5)))<(a4.length:Int)
   ·have c39N:=nrm c39
    replace hr36:=ZlP hr36
    obtain⟨_,hz40,hr36⟩:=bs hr36;obtain⟨x41,⟨_,_,_⟩,hz40⟩:=bI hz40;obtain rfl:=Option.some.inj hz40;refine go ?_;rcases eqT ((x41).tmod 4=0) with c42 | c42
    ·replace hr36:=ifP hr36
     refine go ?_;exact bk hr36
    ·replace hr36:=ifN hr36
     refine go ?_;obtain⟨_,ehy43,hr36⟩:=bN hr36 K44.q4;obtain⟨_,hr36⟩:=bC hr36;have n1_u44_0:(p11.length+1) * 40≤140737488355328:=by omega
     have n2_u44_0:p11.length+1≤9223372036854775807:=by omega
     refine go ?_;exact bk hr36
   ·have c39N:=nrm c39
    replace hr36:=ZmO hr36
    obtain⟨_,hz45,hr36⟩:=bs hr36;obtain rfl:=Option.some.inj hz45;refine go ?_
    replace hr36:=ifN hr36
    refine go ?_;obtain⟨_,ehy46,hr36⟩:=bN hr36 K44.q4;obtain⟨_,hr36⟩:=bC hr36;have n1_u47_0:(p11.length+1) * 40≤140737488355328:=by omega
    have n2_u47_0:p11.length+1≤9223372036854775807:=by omega
    refine go ?_;exact bk hr36
  ·replace hr36:=ZmO hr36
   obtain⟨_,hz48,hr36⟩:=bs hr36;obtain rfl:=Option.some.inj hz48;refine go ?_
   replace hr36:=ifN hr36
   refine go ?_;obtain⟨_,ehy49,hr36⟩:=bN hr36 K44.q4;obtain⟨_,hr36⟩:=bC hr36;have n1_u50_0:(p11.length+1) * 40≤140737488355328:=by omega
   have n2_u50_0:p11.length+1≤9223372036854775807:=by omega
   refine go ?_;exact bk hr36
 ·replace hr36:=ifN hr36
  refine go ?_;obtain⟨r51,q51,rfl⟩:=ms hr36;refine go ?_;rintro rfl
  refine go ?_;unfold Zit at q51;refine go ?_;exact fin q51
end Go.Proofs.YtbppknpnmjhjpaaGreatDoor
