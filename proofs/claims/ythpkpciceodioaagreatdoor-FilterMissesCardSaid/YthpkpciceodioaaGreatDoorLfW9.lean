import Derived.Test.YthpkpciceodioaaGreatDoorLfK
import Derived.Test.YthpkpciceodioaaGreatDoorCode
import Derived.Test.YthpkpciceodioaaGreatDoorBl
namespace Go.Proofs.YthpkpciceodioaaGreatDoor
open Go.RowKit
open Go.Av
open Go.Lc
set_option maxRecDepth 100000
set_option linter.unusedSimpArgs false
set_option linter.unusedVariables false
set_option maxHeartbeats 4000000
theorem w177:Walk tt G [] (fun _=>[]) Tryz.f177 K177:=by
 refine .ak [] false Tryz.ntmps177 fun T hO hT _ x=>?_
 simp only[Zh] at hT; simp only[kS,nfs,Lmade_Null];exact au
theorem w126:Walk tt G [(177,K177.G)] (fun _=>[]) Tryz.f126 K126:=by
 refine .ak [] true Tryz.ntmps126 fun T hO hT ⟨a0,a1,a2⟩ x=>?_
 simp only[Zh] at hT; simp only[kS,nfs,Zew];exact au
theorem w191:Walk tt G [] (fun _=>[]) Tryz.f191 K191:=by
 refine .ak [] false Tryz.ntmps191 fun T hO hT ⟨a0,a1⟩ x=>?_
 simp only[Zh] at hT; simp only[kS,nfs,XW];exact ZhX
theorem w143:Walk tt G [(191,K191.G)] (fun _=>[]) Tryz.f143 K143:=by
 refine .ak [(7,⟨[1,2,4,5,6],[2,4,5],[]⟩)] false Tryz.ntmps143 fun T hO hT ⟨a0,a1⟩ x=>?_
 simp only[Zh] at hT; simp only[kS,nfs,Xw,Zfs,Za7];refine ZhX ?_
 intros; refine lpP 7 (fun⟨p11,p12⟩=>([(6,.one (.v (.int .i64 p11)))],[(5,⟨0,4,[arC .u64 p12],false,false⟩)])) ?_; rintro⟨p11,p12⟩ x; simp only[ZdB,Zfs,Za7]
 exact ZhX
theorem w192:Walk tt G [] (fun _=>[]) Tryz.f192 K192:=by
 refine .ak [] false Tryz.ntmps192 fun T hO hT a0 x=>?_
 simp only[Zh] at hT; simp only[kS,nfs,Zae];exact au
theorem w222:Walk tt G [] (fun _=>[]) Tryz.f222 K222:=by
 refine .ak [] false Tryz.ntmps222 fun T hO hT a0 x=>?_
 simp only[Zh] at hT; simp only[kS,nfs,Y9];exact au
theorem w225:Walk tt G [(191,K191.G)] (fun _=>[]) Tryz.f225 K225:=by
 refine .ak [(2,⟨[1,3],[1],[]⟩)] false Tryz.ntmps225 fun T hO hT a0 x=>?_
 simp only[Zh] at hT; simp only[kS,nfs,Zak,Lref02_Len_k1];refine au ?_
 intros; refine lpP 2 (fun p4=>([(3,.one (.v (.int .i64 p4)))],[])) ?_; rintro p4 x; simp only[ZdD,Lref02_Len_k1]
 exact au
theorem v237:ZpZ Tryz.prog G 237 G237:=by
 refine Zpl (k:=.u64) (p:=fun x y b=>(x+y+b) % 18446744073709551616) (q:=fun x y b=>(x+y+b) / 18446744073709551616) (ok:=fun x y b=>b≤1) (fun ps r hF=>?_) (fun x y b w hx=>ZyJ x y b hx w);obtain⟨⟨x,y,b⟩,rfl,h⟩:=ZdY hF;obtain⟨z,hz,rfl⟩:=Option.map_eq_some_iff.1 h;unfold YE at hz;obtain⟨_,u1,hz⟩:=bs hz;obtain rfl:=Option.some.inj hz;obtain⟨⟨h1,h2⟩,⟨h3,h4⟩,h5⟩:=ZW u1;obtain⟨x,rfl⟩:=Int.eq_ofNat_of_zero_le h1;obtain⟨y,rfl⟩:=Int.eq_ofNat_of_zero_le h2;obtain⟨b,rfl⟩:=Int.eq_ofNat_of_zero_le h4;have h3':(y:Int)≤18446744073709551615:=h3;have h5':(b:Int)≤1:=h5;refine⟨x,y,b,by omega,rfl,?_⟩;have e1:((x:Int)+y+b) % 18446744073709551616=(((x+y+b) % 18446744073709551616:Nat):Int):=by omega
 have e2:((x:Int)+y+b) / 18446744073709551616=(((x+y+b) / 18446744073709551616:Nat):Int):=by omega
 simp only[Zlk,e1,e2]
theorem w238:Walk tt G [(237,G237)] (fun _=>[]) Tryz.f238 K238:=by
 refine .ak [(4,⟨[2,3,4,6,7,9],[2,3,4,6],[]⟩)] false Tryz.ntmps238 fun T hO hT ⟨a0,a1⟩ x=>?_
 simp only[Zh] at hT; simp only[kS,nfs,Zcu,Zft];refine au ?_
 intros; refine lpP 4 (fun⟨p7,p8,p9⟩=>([(7,.one (.v (.int .u64 p7))),(9,.one (.v (.int .i64 p8)))],[(6,⟨0,4,[arC .u64 p9],false,false⟩)])) ?_; rintro⟨p7,p8,p9⟩ x; simp only[Zfu,Zft]
 exact au
theorem w226:Walk tt G [(238,K238.G)] (fun _=>[]) Tryz.f226 K226:=by
 refine .ak [(3,⟨[1,2,4],[2,4],[]⟩)] false Tryz.ntmps226 fun T hO hT ⟨a0,a1⟩ x=>?_
 simp only[Zh] at hT; simp only[kS,nfs,Zcv,Zfv];refine au ?_
 intros; refine lpP 3 (fun⟨p5,p6⟩=>([(1,.one (.v (.int .i64 p5)))],[(2,⟨0,4,[arC .u64 p6],false,false⟩)])) ?_; rintro⟨p5,p6⟩ x; simp only[Lref02_Shl_s1,Zfv]
 exact au
theorem w188:Walk tt G [(143,K143.G),(192,K192.G),(222,K222.G),(225,K225.G),(226,K226.G)] (fun _=>[]) Tryz.f188 K188:=by
 refine .ak [] false Tryz.ntmps188 fun T hO hT a0 x=>?_
 simp only[Zh] at hT; simp only[kS,nfs,Xf,Zax];exact au
theorem w189:Walk tt G [] (fun _=>[]) Tryz.f189 K189:=by
 refine .ak [(2,⟨[2,3,5],[2,3],[]⟩)] false Tryz.ntmps189 fun T hO hT ⟨a0,a1⟩ x=>?_
 simp only[Zh] at hT; simp only[kS,nfs,YJ,Lref02_Cmp_k1];refine au ?_
 intros; refine lpP 2 (fun p3=>([(5,.one (.v (.int .i64 p3)))],[])) ?_; rintro p3 x; simp only[Zfr,Lref02_Cmp_k1]
 exact au
theorem w145:Walk tt G [(188,K188.G),(189,K189.G),(192,K192.G)] (fun _=>[]) Tryz.f145 K145:=by
 refine .sk [(6,⟨[1,59,60,61],[1],[]⟩)] false Tryz.ntmps145 fun T hO hT a0 x hr=>?_
 simp only[Zh] at hT; simp only[kS,nfs] at hr ⊢;unfold Xg at hr;refine go ?_;obtain⟨y23,ehy23,hr⟩:=bN hr K192.q1;by_cases c24:y23=true
 ·refine go ?_
  replace hr:=ifP hr
  refine go ?_;exact fin hr
 ·by_cases c25:a0.2.2.1<1
  ·refine go ?_
   replace hr:=ifP hr
   refine go ?_;exact fin hr
  ·by_cases c26:4096<a0.2.2.1
   ·refine go ?_
    replace hr:=ifP hr
    refine go ?_;exact fin hr
   ·by_cases c27:a0.2.2.2.1<1
    ·refine go ?_
     replace hr:=ifP hr
     refine go ?_;exact fin hr
    ·refine go ?_
     by_cases c28:1048576<a0.2.2.2.1
     ·replace hr:=ifP hr
      refine go ?_;exact fin hr
     ·replace hr:=ifN hr
      refine go ?_;by_cases c29:a0.2.2.2.2.2.2.2.1<0
      ·refine go ?_
       replace hr:=ifP hr
       refine go ?_;exact fin hr
      ·by_cases c30:2100000000000000<a0.2.2.2.2.2.2.2.1
       ·refine go ?_
        replace hr:=ifP hr
        refine go ?_;exact fin hr
       ·by_cases c31:a0.2.2.2.2.2.2.2.2.1<1
        ·refine go ?_
         replace hr:=ifP hr
         refine go ?_;exact fin hr
        ·by_cases c32:16777216<a0.2.2.2.2.2.2.2.2.1
         ·refine go ?_
          replace hr:=ifP hr
          refine go ?_;exact fin hr
         ·by_cases c33:a0.2.2.2.2.2.2.2.2.2<0
          ·refine go ?_
           replace hr:=ifP hr
           refine go ?_;exact fin hr
          ·refine go ?_
           by_cases c34:16777216<a0.2.2.2.2.2.2.2.2.2
           ·replace hr:=ifP hr
            refine go ?_;exact fin hr
           ·replace hr:=ifN hr
            refine go ?_;refine lp 6 (fun(p11:Int)=>⟨(und 1++([.ptr 1 0 0 0 80]++(und 57++([.one (.slice .no (List.map eapi_Checkpoint a0.2.2.2.2.2.2.1)),.one (.v (.int .i64 (a0.2.2.2.2.2.2.1.length:Int))),.one (.v (.int .i64 p11))]++(und 45)))):List PV),([(1,⟨0,80,[(.v (.int .u32 a0.1.1)) :: ((arC .u8 a0.1.2.1)++((arC .u8 a0.1.2.2.1)++((.v (.int .u32 a0.1.2.2.2.1)) :: ((.v (.int .u32 a0.1.2.2.2.2.1)) :: ((.v (.int .u32 a0.1.2.2.2.2.2)) :: ((arC .u64 a0.2.1)++((.v (.int .i64 a0.2.2.1)) :: ((.v (.int .u32 a0.2.2.2.1)) :: ((.v (.int .u32 a0.2.2.2.2.1)) :: ((.v (.int .u32 a0.2.2.2.2.2.1)) :: ((.slice .no (List.map eapi_Checkpoint a0.2.2.2.2.2.2.1)) :: ((.v (.int .i64 a0.2.2.2.2.2.2.2.1)) :: ((.v (.int .i64 a0.2.2.2.2.2.2.2.2.1)) :: ((.v (.int .i64 a0.2.2.2.2.2.2.2.2.2)) :: []))))))))))))))],false,false⟩)]:Boxes)⟩) hr ?_;rintro p11 x49r hr49
            simp only[Zij] at hr49;refine nst ?_;refine go ?_;by_cases c50:p11<(a0.2.2.2.2.2.2.1.length:Int)
            ·have c50N:=nrm c50
             replace hr49:=ifP hr49
             refine go ?_;obtain⟨x51,⟨_,_,_⟩,hr49⟩:=bI hr49;refine go ?_;by_cases c52:x51.1<1
             ·replace hr49:=ZoM hr49
              obtain⟨_,hz53,hr49⟩:=bs hr49;obtain rfl:=Option.some.inj hz53;refine go ?_
              replace hr49:=ifP hr49
              refine go ?_;exact fin hr49
             ·by_cases c54:16777216<x51.1
              ·replace hr49:=ZoM hr49
               obtain⟨_,hz55,hr49⟩:=bs hr49;obtain rfl:=Option.some.inj hz55;refine go ?_
               replace hr49:=ifP hr49
               refine go ?_;exact fin hr49
              ·replace hr49:=ZqD hr49
               obtain⟨_,hz56,hr49⟩:=bs hr49;by_cases c57:0<p11
               ·replace hz56:=ZoM hz56
                obtain⟨_,hz58,hz56⟩:=bs hz56;obtain⟨x59,⟨_,_,_⟩,hz58⟩:=bI hz58;obtain rfl:=Option.some.inj hz58;obtain rfl:=Option.some.inj hz56;refine go ?_;by_cases c60:x51.1≤x59.1
                ·replace hr49:=ifP hr49
                 refine go ?_;exact fin hr49
                ·replace hr49:=ifN hr49
                 refine go ?_;exact bk hr49
               ·replace hz56:=ZqD hz56
                obtain⟨_,hz61,hz56⟩:=bs hz56;obtain rfl:=Option.some.inj hz61;obtain rfl:=Option.some.inj hz56;refine go ?_
                replace hr49:=ifN hr49
                refine go ?_;exact bk hr49
            ·have c50N:=nrm c50
             replace hr49:=ifN hr49
             refine go ?_;obtain⟨r62,q62,rfl⟩:=ms hr49;refine go ?_;rintro rfl
             refine go ?_;unfold Zf6 at q62;obtain⟨y63,ehy63,q62⟩:=bN q62 K188.q1;refine go ?_;rcases eqT (y63.2=0) with c64 | c64
             ·replace q62:=ZoM q62
              obtain⟨_,hz65,q62⟩:=bs q62;obtain⟨_,ehy66,hz65⟩:=bN hz65 K189.q2;obtain rfl:=Option.some.inj hz65;refine go ?_;exact fin q62
             ·replace q62:=ZqD q62
              obtain⟨_,hz67,q62⟩:=bs q62;obtain rfl:=Option.some.inj hz67;refine go ?_;exact fin q62
theorem w127:Walk tt G [(145,K145.G)] (fun _=>[]) Tryz.f127 K127:=by
 refine .ak [(5,⟨[5,6],[],[]⟩)] false Tryz.ntmps127 fun T hO hT ⟨a0,a1⟩ x=>?_
 simp only[Zh] at hT; simp only[kS,nfs,Zbo,ZgR];refine ZhX ?_
 intros; refine lpP 5 (fun⟨p5,p6⟩=>([(5,.one (.v (.int .i64 p5))),(6,.one (.v (.int .i64 p6)))],[])) ?_; rintro⟨p5,p6⟩ x; simp only[Lref23_Subsidy_s1,ZgR]
 exact ZhX
theorem w52:Walk tt G [(53,K53.G),(54,K54.G)] (fun _=>[]) Tryz.f52 K52:=by
 refine .sk [(4,⟨[3,22,23,24],[22,900003],[(3,none,900003,0),(3,none,900003,1)]⟩)] true Tryz.ntmps52 fun T hO hT a0 x hr=>?_
 simp only[Zh] at hT; simp only[kS,nfs] at hr ⊢;unfold Xq at hr;refine goR ?_;obtain⟨_,ehy18,hr⟩:=bN hr K53.q2;refine goR ?_;obtain⟨_,ehy19,hr⟩:=bN hr K54.q2;obtain⟨_,ehy20,hr⟩:=bN hr K54.q2;refine goR ?_;refine lp 4 (fun(⟨p10,p11⟩:Int×(List Int))=>⟨(und 3++([.one (.ms 900003 0 0 (p11.length) 1)]++(und 18++([.one (.ms 22 0 0 (3) 1),.one (.v (.int .i64 (3:Int))),.one (.v (.int .i64 p10))]++(und 8)))):List PV),([(22,⟨0,1,Zf .u32 [a0.2.2.2.1,a0.2.2.2.2.1,a0.2.2.2.2.2],false,true⟩),(900003,⟨0,1,Zf .u8 p11,false,true⟩)]:Boxes)⟩) hr ?_;rintro⟨p10,p11⟩ x27r hr27
 simp only[Yn] at hr27;refine nst ?_;refine goR ?_;by_cases c28:p10<(3:Int)
 ·replace hr27:=ifP hr27
  refine goR ?_;obtain⟨j29,⟨_,_,_⟩,hr27⟩:=bA hr27;have j29d:j29≤2:=by omega
  obtain⟨x30,hx30,hr27⟩:=bs hr27;have ghx30:=YC hx30;have mhx30:(Zf .u32 ([a0.2.2.2.1,a0.2.2.2.2.1,a0.2.2.2.2.2]))[j29]? = some [.v (.int .u32 x30)]:=by rw[ZtK,hx30]; rfl
  simp only[ZlW,ZmB] at mhx30;have mghx30:=YC mhx30;refine goR ?_;obtain⟨_,ehy31,hr27⟩:=bN hr27 K53.q2;refine goR ?_;exact bk hr27
 ·replace hr27:=ifN hr27
  refine goR ?_;obtain⟨r32,q32,rfl⟩:=ms hr27;refine goR ?_;rintro rfl
  refine goR ?_;unfold Zd5 at q32;refine goR ?_;exact fin q32
theorem w22:Walk tt G [(51,K51.G),(52,K52.G)] (fun _=>[]) Tryz.f22 K22:=by
 refine .ak [] false Tryz.ntmps22 fun T hO hT a0 x=>?_
 simp only[Zh] at hT; simp only[kS,nfs,YU];exact au
end Go.Proofs.YthpkpciceodioaaGreatDoor
