import Derived.Test.YtbppknpnmjhjpaaGreatDoorLfK
import Derived.Test.YtbppknpnmjhjpaaGreatDoorCode
import Derived.Test.YtbppknpnmjhjpaaGreatDoorBl
namespace Go.Proofs.YtbppknpnmjhjpaaGreatDoor
open Go.RowKit
open Go.Av
open Go.Lc
set_option maxRecDepth 100000
set_option linter.unusedSimpArgs false
set_option linter.unusedVariables false
set_option maxHeartbeats 4000000
theorem w151:Walk tt G [] (fun _=>[]) Tryz.f151 K151:=by
 refine .ak [] false Tryz.ntmps151 fun T hO hT _ x=>?_
 simp only[Zh] at hT; simp only[kS,nfs,Lmade_Null];exact au
theorem w91:Walk tt G [(151,K151.G)] (fun _=>[]) Tryz.f91 K91:=by
 refine .ak [] true Tryz.ntmps91 fun T hO hT ⟨a0,a1,a2⟩ x=>?_
 simp only[Zh] at hT; simp only[kS,nfs,Zfb];exact au
theorem w162:Walk tt G [] (fun _=>[]) Tryz.f162 K162:=by
 refine .ak [] false Tryz.ntmps162 fun T hO hT ⟨a0,a1⟩ x=>?_
 simp only[Zh] at hT; simp only[kS,nfs,Zbg];exact ZiC
theorem w108:Walk tt G [(162,K162.G)] (fun _=>[]) Tryz.f108 K108:=by
 refine .ak [(7,⟨[1,2,4,5,6],[2,4,5],[]⟩)] false Tryz.ntmps108 fun T hO hT ⟨a0,a1⟩ x=>?_
 simp only[Zh] at hT; simp only[kS,nfs,Zbh,Zkf,Zel];refine ZiC ?_
 intros; refine lpP 7 (fun⟨p11,p12⟩=>([(6,.one (.v (.int .i64 p11)))],[(5,⟨0,4,[arC .u64 p12],false,false⟩)])) ?_; rintro⟨p11,p12⟩ x; simp only[Zie,Zkf,Zel]
 exact ZiC
theorem w163:Walk tt G [] (fun _=>[]) Tryz.f163 K163:=by
 refine .ak [] false Tryz.ntmps163 fun T hO hT a0 x=>?_
 simp only[Zh] at hT; simp only[kS,nfs,Zca];exact au
theorem w194:Walk tt G [] (fun _=>[]) Tryz.f194 K194:=by
 refine .ak [] false Tryz.ntmps194 fun T hO hT a0 x=>?_
 simp only[Zh] at hT; simp only[kS,nfs,Zas];exact au
theorem w197:Walk tt G [(162,K162.G)] (fun _=>[]) Tryz.f197 K197:=by
 refine .ak [(2,⟨[1,3],[1],[]⟩)] false Tryz.ntmps197 fun T hO hT a0 x=>?_
 simp only[Zh] at hT; simp only[kS,nfs,Zcb,Lref02_Len_k1];refine au ?_
 intros; refine lpP 2 (fun p4=>([(3,.one (.v (.int .i64 p4)))],[])) ?_; rintro p4 x; simp only[Zif,Lref02_Len_k1]
 exact au
theorem v221:ZqI Tryz.prog G 221 G221:=by
 refine Zp4 (k:=.u64) (p:=fun x y b=>(x+y+b) % 18446744073709551616) (q:=fun x y b=>(x+y+b) / 18446744073709551616) (ok:=fun x y b=>b≤1) (fun ps r hF=>?_) (fun x y b w hx=>Zzq x y b hx w);obtain⟨⟨x,y,b⟩,rfl,h⟩:=ZcR hF;obtain⟨z,hz,rfl⟩:=Option.map_eq_some_iff.1 h;unfold Xl at hz;obtain⟨_,u1,hz⟩:=bs hz;obtain rfl:=Option.some.inj hz;obtain⟨⟨h1,h2⟩,⟨h3,h4⟩,h5⟩:=ZO u1;obtain⟨x,rfl⟩:=Int.eq_ofNat_of_zero_le h1;obtain⟨y,rfl⟩:=Int.eq_ofNat_of_zero_le h2;obtain⟨b,rfl⟩:=Int.eq_ofNat_of_zero_le h4;have h3':(y:Int)≤18446744073709551615:=h3;have h5':(b:Int)≤1:=h5;refine⟨x,y,b,by omega,rfl,?_⟩;have e1:((x:Int)+y+b) % 18446744073709551616=(((x+y+b) % 18446744073709551616:Nat):Int):=by omega
 have e2:((x:Int)+y+b) / 18446744073709551616=(((x+y+b) / 18446744073709551616:Nat):Int):=by omega
 simp only[ZlZ,e1,e2]
theorem w222:Walk tt G [(221,G221)] (fun _=>[]) Tryz.f222 K222:=by
 refine .ak [(4,⟨[2,3,4,6,7,9],[2,3,4,6],[]⟩)] false Tryz.ntmps222 fun T hO hT ⟨a0,a1⟩ x=>?_
 simp only[Zh] at hT; simp only[kS,nfs,ZfK,Zki];refine au ?_
 intros; refine lpP 4 (fun⟨p7,p8,p9⟩=>([(7,.one (.v (.int .u64 p7))),(9,.one (.v (.int .i64 p8)))],[(6,⟨0,4,[arC .u64 p9],false,false⟩)])) ?_; rintro⟨p7,p8,p9⟩ x; simp only[Zkj,Zki]
 exact au
theorem w198:Walk tt G [(222,K222.G)] (fun _=>[]) Tryz.f198 K198:=by
 refine .ak [(3,⟨[1,2,4],[2,4],[]⟩)] false Tryz.ntmps198 fun T hO hT ⟨a0,a1⟩ x=>?_
 simp only[Zh] at hT; simp only[kS,nfs,ZfL,Zkk];refine au ?_
 intros; refine lpP 3 (fun⟨p5,p6⟩=>([(1,.one (.v (.int .i64 p5)))],[(2,⟨0,4,[arC .u64 p6],false,false⟩)])) ?_; rintro⟨p5,p6⟩ x; simp only[Lref02_Shl_s1,Zkk]
 exact au
theorem w159:Walk tt G [(108,K108.G),(163,K163.G),(194,K194.G),(197,K197.G),(198,K198.G)] (fun _=>[]) Tryz.f159 K159:=by
 refine .ak [] false Tryz.ntmps159 fun T hO hT a0 x=>?_
 simp only[Zh] at hT; simp only[kS,nfs,ZbF,ZdU];exact au
theorem w160:Walk tt G [] (fun _=>[]) Tryz.f160 K160:=by
 refine .ak [(2,⟨[2,3,5],[2,3],[]⟩)] false Tryz.ntmps160 fun T hO hT ⟨a0,a1⟩ x=>?_
 simp only[Zh] at hT; simp only[kS,nfs,Xk,Lref02_Cmp_k1];refine au ?_
 intros; refine lpP 2 (fun p3=>([(5,.one (.v (.int .i64 p3)))],[])) ?_; rintro p3 x; simp only[Zke,Lref02_Cmp_k1]
 exact au
theorem w110:Walk tt G [(159,K159.G),(160,K160.G),(163,K163.G)] (fun _=>[]) Tryz.f110 K110:=by
 refine .sk [(6,⟨[1,59,60,61],[1],[]⟩)] false Tryz.ntmps110 fun T hO hT a0 x hr=>?_
 simp only[Zh] at hT; simp only[kS,nfs] at hr ⊢;unfold Xp at hr;refine go ?_;obtain⟨y23,ehy23,hr⟩:=bN hr K163.q1;by_cases c24:y23=true
 ·refine go ?_
  replace hr:=ifP hr
  refine go ?_;exact fin hr
 ·by_cases c25:a0.2.2.1<1
  ·refine go ?_
   replace hr:=ifP hr
   refine go ?_;exact fin hr
  ·by_cases c26:4096<a0.2.2.1
   ·refine go ?_
    replace hr:=ifP hr
    refine go ?_;exact fin hr
   ·by_cases c27:a0.2.2.2.1<1
    ·refine go ?_
     replace hr:=ifP hr
     refine go ?_;exact fin hr
    ·refine go ?_
     by_cases c28:1048576<a0.2.2.2.1
     ·replace hr:=ifP hr
      refine go ?_;exact fin hr
     ·replace hr:=ifN hr
      refine go ?_;by_cases c29:a0.2.2.2.2.2.2.2.1<0
      ·refine go ?_
       replace hr:=ifP hr
       refine go ?_;exact fin hr
      ·by_cases c30:2100000000000000<a0.2.2.2.2.2.2.2.1
       ·refine go ?_
        replace hr:=ifP hr
        refine go ?_;exact fin hr
       ·by_cases c31:a0.2.2.2.2.2.2.2.2.1<1
        ·refine go ?_
         replace hr:=ifP hr
         refine go ?_;exact fin hr
        ·by_cases c32:16777216<a0.2.2.2.2.2.2.2.2.1
         ·refine go ?_
          replace hr:=ifP hr
          refine go ?_;exact fin hr
         ·by_cases c33:a0.2.2.2.2.2.2.2.2.2<0
          ·refine go ?_
           replace hr:=ifP hr
           refine go ?_;exact fin hr
          ·refine go ?_
           by_cases c34:16777216<a0.2.2.2.2.2.2.2.2.2
           ·replace hr:=ifP hr
            refine go ?_;exact fin hr
           ·replace hr:=ifN hr
            refine go ?_;refine lp 6 (fun(p11:Int)=>⟨(und 1++([.ptr 1 0 0 0 80]++(und 57++([.one (.slice .no (List.map eapi_Checkpoint a0.2.2.2.2.2.2.1)),.one (.v (.int .i64 (a0.2.2.2.2.2.2.1.length:Int))),.one (.v (.int .i64 p11))]++(und 45)))):List PV),([(1,⟨0,80,[(.v (.int .u32 a0.1.1)) :: ((arC .u8 a0.1.2.1)++((arC .u8 a0.1.2.2.1)++((.v (.int .u32 a0.1.2.2.2.1)) :: ((.v (.int .u32 a0.1.2.2.2.2.1)) :: ((.v (.int .u32 a0.1.2.2.2.2.2)) :: ((arC .u64 a0.2.1)++((.v (.int .i64 a0.2.2.1)) :: ((.v (.int .u32 a0.2.2.2.1)) :: ((.v (.int .u32 a0.2.2.2.2.1)) :: ((.v (.int .u32 a0.2.2.2.2.2.1)) :: ((.slice .no (List.map eapi_Checkpoint a0.2.2.2.2.2.2.1)) :: ((.v (.int .i64 a0.2.2.2.2.2.2.2.1)) :: ((.v (.int .i64 a0.2.2.2.2.2.2.2.2.1)) :: ((.v (.int .i64 a0.2.2.2.2.2.2.2.2.2)) :: []))))))))))))))],false,false⟩)]:Boxes)⟩) hr ?_;rintro p11 x49r hr49
            simp only[Zi1] at hr49;refine nst ?_;refine go ?_;by_cases c50:p11<(a0.2.2.2.2.2.2.1.length:Int)
            ·have c50N:=nrm c50
             replace hr49:=ifP hr49
             refine go ?_;obtain⟨x51,⟨_,_,_⟩,hr49⟩:=bI hr49;refine go ?_;by_cases c52:x51.1<1
             ·replace hr49:=ZlP hr49
              obtain⟨_,hz53,hr49⟩:=bs hr49;obtain rfl:=Option.some.inj hz53;refine go ?_
              replace hr49:=ifP hr49
              refine go ?_;exact fin hr49
             ·by_cases c54:16777216<x51.1
              ·replace hr49:=ZlP hr49
               obtain⟨_,hz55,hr49⟩:=bs hr49;obtain rfl:=Option.some.inj hz55;refine go ?_
               replace hr49:=ifP hr49
               refine go ?_;exact fin hr49
              ·replace hr49:=ZmO hr49
               obtain⟨_,hz56,hr49⟩:=bs hr49;by_cases c57:0<p11
               ·replace hz56:=ZlP hz56
                obtain⟨_,hz58,hz56⟩:=bs hz56;obtain⟨x59,⟨_,_,_⟩,hz58⟩:=bI hz58;obtain rfl:=Option.some.inj hz58;obtain rfl:=Option.some.inj hz56;refine go ?_;by_cases c60:x51.1≤x59.1
                ·replace hr49:=ifP hr49
                 refine go ?_;exact fin hr49
                ·replace hr49:=ifN hr49
                 refine go ?_;exact bk hr49
               ·replace hz56:=ZmO hz56
                obtain⟨_,hz61,hz56⟩:=bs hz56;obtain rfl:=Option.some.inj hz61;obtain rfl:=Option.some.inj hz56;refine go ?_
                replace hr49:=ifN hr49
                refine go ?_;exact bk hr49
            ·have c50N:=nrm c50
             replace hr49:=ifN hr49
             refine go ?_;obtain⟨r62,q62,rfl⟩:=ms hr49;refine go ?_;rintro rfl
             refine go ?_;unfold ZgH at q62;obtain⟨y63,ehy63,q62⟩:=bN q62 K159.q1;refine go ?_;rcases eqT (y63.2=0) with c64 | c64
             ·replace q62:=ZlP q62
              obtain⟨_,hz65,q62⟩:=bs q62;obtain⟨_,ehy66,hz65⟩:=bN hz65 K160.q2;obtain rfl:=Option.some.inj hz65;refine go ?_;exact fin q62
             ·replace q62:=ZmO q62
              obtain⟨_,hz67,q62⟩:=bs q62;obtain rfl:=Option.some.inj hz67;refine go ?_;exact fin q62
end Go.Proofs.YtbppknpnmjhjpaaGreatDoor
