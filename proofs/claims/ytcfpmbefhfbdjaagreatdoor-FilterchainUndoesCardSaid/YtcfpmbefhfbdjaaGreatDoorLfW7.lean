import Derived.Test.YtcfpmbefhfbdjaaGreatDoorLfK
import Derived.Test.YtcfpmbefhfbdjaaGreatDoorCode
import Derived.Test.YtcfpmbefhfbdjaaGreatDoorBl
namespace Go.Proofs.YtcfpmbefhfbdjaaGreatDoor
open Go.RowKit
open Go.Av
open Go.Lc
set_option maxRecDepth 100000
set_option linter.unusedSimpArgs false
set_option linter.unusedVariables false
set_option maxHeartbeats 4000000
theorem w109:Walk tt G [] (fun _=>[]) Tryz.f109 K109:=by
 refine .ak [] false Tryz.ntmps109 fun T hO hT _ x=>?_
 simp only[Zh] at hT; simp only[kS,nfs,Lmade_Null];exact au
theorem w69:Walk tt G [(109,K109.G)] (fun _=>[]) Tryz.f69 K69:=by
 refine .ak [] true Tryz.ntmps69 fun T hO hT ⟨a0,a1,a2⟩ x=>?_
 simp only[Zh] at hT; simp only[kS,nfs,Zeg];exact au
theorem w124:Walk tt G [] (fun _=>[]) Tryz.f124 K124:=by
 refine .ak [] false Tryz.ntmps124 fun T hO hT ⟨a0,a1⟩ x=>?_
 simp only[Zh] at hT; simp only[kS,nfs,ZaT];exact Zh3
theorem w87:Walk tt G [(124,K124.G)] (fun _=>[]) Tryz.f87 K87:=by
 refine .ak [(7,⟨[1,2,4,5,6],[2,4,5],[]⟩)] false Tryz.ntmps87 fun T hO hT ⟨a0,a1⟩ x=>?_
 simp only[Zh] at hT; simp only[kS,nfs,ZaU,Zi2,Zdu];refine Zh3 ?_
 intros; refine lpP 7 (fun⟨p11,p12⟩=>([(6,.one (.v (.int .i64 p11)))],[(5,⟨0,4,[arC .u64 p12],false,false⟩)])) ?_; rintro⟨p11,p12⟩ x; simp only[ZgZ,Zi2,Zdu]
 exact Zh3
theorem w125:Walk tt G [] (fun _=>[]) Tryz.f125 K125:=by
 refine .ak [] false Tryz.ntmps125 fun T hO hT a0 x=>?_
 simp only[Zh] at hT; simp only[kS,nfs,ZbC];exact au
theorem w155:Walk tt G [] (fun _=>[]) Tryz.f155 K155:=by
 refine .ak [] false Tryz.ntmps155 fun T hO hT a0 x=>?_
 simp only[Zh] at hT; simp only[kS,nfs,X7];exact au
theorem w158:Walk tt G [(124,K124.G)] (fun _=>[]) Tryz.f158 K158:=by
 refine .ak [(2,⟨[1,3],[1],[]⟩)] false Tryz.ntmps158 fun T hO hT a0 x=>?_
 simp only[Zh] at hT; simp only[kS,nfs,ZbD,Lref02_Len_k1];refine au ?_
 intros; refine lpP 2 (fun p4=>([(3,.one (.v (.int .i64 p4)))],[])) ?_; rintro p4 x; simp only[Zg0,Lref02_Len_k1]
 exact au
theorem v181:Zo2 Tryz.prog G 181 G181:=by
 refine Zoq (k:=.u64) (p:=fun x y b=>(x+y+b) % 18446744073709551616) (q:=fun x y b=>(x+y+b) / 18446744073709551616) (ok:=fun x y b=>b≤1) (fun ps r hF=>?_) (fun x y b w hx=>Zxc x y b hx w);obtain⟨⟨x,y,b⟩,rfl,h⟩:=ZeE hF;obtain⟨z,hz,rfl⟩:=Option.map_eq_some_iff.1 h;unfold Xo at hz;obtain⟨_,u1,hz⟩:=bs hz;obtain rfl:=Option.some.inj hz;obtain⟨⟨h1,h2⟩,⟨h3,h4⟩,h5⟩:=ZK u1;obtain⟨x,rfl⟩:=Int.eq_ofNat_of_zero_le h1;obtain⟨y,rfl⟩:=Int.eq_ofNat_of_zero_le h2;obtain⟨b,rfl⟩:=Int.eq_ofNat_of_zero_le h4;have h3':(y:Int)≤18446744073709551615:=h3;have h5':(b:Int)≤1:=h5;refine⟨x,y,b,by omega,rfl,?_⟩;have e1:((x:Int)+y+b) % 18446744073709551616=(((x+y+b) % 18446744073709551616:Nat):Int):=by omega
 have e2:((x:Int)+y+b) / 18446744073709551616=(((x+y+b) / 18446744073709551616:Nat):Int):=by omega
 simp only[ZkC,e1,e2]
theorem w182:Walk tt G [(181,G181)] (fun _=>[]) Tryz.f182 K182:=by
 refine .ak [(4,⟨[2,3,4,6,7,9],[2,3,4,6],[]⟩)] false Tryz.ntmps182 fun T hO hT ⟨a0,a1⟩ x=>?_
 simp only[Zh] at hT; simp only[kS,nfs,ZeM,Zi5];refine au ?_
 intros; refine lpP 4 (fun⟨p7,p8,p9⟩=>([(7,.one (.v (.int .u64 p7))),(9,.one (.v (.int .i64 p8)))],[(6,⟨0,4,[arC .u64 p9],false,false⟩)])) ?_; rintro⟨p7,p8,p9⟩ x; simp only[Zi6,Zi5]
 exact au
theorem w159:Walk tt G [(182,K182.G)] (fun _=>[]) Tryz.f159 K159:=by
 refine .ak [(3,⟨[1,2,4],[2,4],[]⟩)] false Tryz.ntmps159 fun T hO hT ⟨a0,a1⟩ x=>?_
 simp only[Zh] at hT; simp only[kS,nfs,ZeN,Zi7];refine au ?_
 intros; refine lpP 3 (fun⟨p5,p6⟩=>([(1,.one (.v (.int .i64 p5)))],[(2,⟨0,4,[arC .u64 p6],false,false⟩)])) ?_; rintro⟨p5,p6⟩ x; simp only[Lref02_Shl_s1,Zi7]
 exact au
theorem w121:Walk tt G [(87,K87.G),(125,K125.G),(155,K155.G),(158,K158.G),(159,K159.G)] (fun _=>[]) Tryz.f121 K121:=by
 refine .ak [] false Tryz.ntmps121 fun T hO hT a0 x=>?_
 simp only[Zh] at hT; simp only[kS,nfs,Zbc,Zc6];exact au
theorem w122:Walk tt G [] (fun _=>[]) Tryz.f122 K122:=by
 refine .ak [(2,⟨[2,3,5],[2,3],[]⟩)] false Tryz.ntmps122 fun T hO hT ⟨a0,a1⟩ x=>?_
 simp only[Zh] at hT; simp only[kS,nfs,Xn,Lref02_Cmp_k1];refine au ?_
 intros; refine lpP 2 (fun p3=>([(5,.one (.v (.int .i64 p3)))],[])) ?_; rintro p3 x; simp only[Zi1,Lref02_Cmp_k1]
 exact au
theorem w89:Walk tt G [(121,K121.G),(122,K122.G),(125,K125.G)] (fun _=>[]) Tryz.f89 K89:=by
 refine .sk [(6,⟨[1,59,60,61],[1],[]⟩)] false Tryz.ntmps89 fun T hO hT a0 x hr=>?_
 simp only[Zh] at hT; simp only[kS,nfs] at hr ⊢;unfold Xq at hr;refine go ?_;obtain⟨y23,ehy23,hr⟩:=bN hr K125.q1;by_cases c24:y23=true
 ·refine go ?_
  replace hr:=ifP hr
  refine go ?_;exact fin hr
 ·by_cases c25:a0.2.2.1<1
  ·refine go ?_
   replace hr:=ifP hr
   refine go ?_;exact fin hr
  ·by_cases c26:4096<a0.2.2.1
   ·refine go ?_
    replace hr:=ifP hr
    refine go ?_;exact fin hr
   ·by_cases c27:a0.2.2.2.1<1
    ·refine go ?_
     replace hr:=ifP hr
     refine go ?_;exact fin hr
    ·refine go ?_
     by_cases c28:1048576<a0.2.2.2.1
     ·replace hr:=ifP hr
      refine go ?_;exact fin hr
     ·replace hr:=ifN hr
      refine go ?_;by_cases c29:a0.2.2.2.2.2.2.2.1<0
      ·refine go ?_
       replace hr:=ifP hr
       refine go ?_;exact fin hr
      ·by_cases c30:2100000000000000<a0.2.2.2.2.2.2.2.1
       ·refine go ?_
        replace hr:=ifP hr
        refine go ?_;exact fin hr
       ·by_cases c31:a0.2.2.2.2.2.2.2.2.1<1
        ·refine go ?_
         replace hr:=ifP hr
         refine go ?_;exact fin hr
        ·by_cases c32:16777216<a0.2.2.2.2.2.2.2.2.1
         ·refine go ?_
          replace hr:=ifP hr
          refine go ?_;exact fin hr
         ·by_cases c33:a0.2.2.2.2.2.2.2.2.2<0
          ·refine go ?_
           replace hr:=ifP hr
           refine go ?_;exact fin hr
          ·refine go ?_
           by_cases c34:16777216<a0.2.2.2.2.2.2.2.2.2
           ·replace hr:=ifP hr
            refine go ?_;exact fin hr
           ·replace hr:=ifN hr
            refine go ?_;refine lp 6 (fun(p11:Int)=>⟨(und 1++([.ptr 1 0 0 0 80]++(und 57++([.one (.slice .no (List.map eapi_Checkpoint a0.2.2.2.2.2.2.1)),.one (.v (.int .i64 (a0.2.2.2.2.2.2.1.length:Int))),.one (.v (.int .i64 p11))]++(und 45)))):List PV),([(1,⟨0,80,[(.v (.int .u32 a0.1.1)) :: ((arC .u8 a0.1.2.1)++((arC .u8 a0.1.2.2.1)++((.v (.int .u32 a0.1.2.2.2.1)) :: ((.v (.int .u32 a0.1.2.2.2.2.1)) :: ((.v (.int .u32 a0.1.2.2.2.2.2)) :: ((arC .u64 a0.2.1)++((.v (.int .i64 a0.2.2.1)) :: ((.v (.int .u32 a0.2.2.2.1)) :: ((.v (.int .u32 a0.2.2.2.2.1)) :: ((.v (.int .u32 a0.2.2.2.2.2.1)) :: ((.slice .no (List.map eapi_Checkpoint a0.2.2.2.2.2.2.1)) :: ((.v (.int .i64 a0.2.2.2.2.2.2.2.1)) :: ((.v (.int .i64 a0.2.2.2.2.2.2.2.2.1)) :: ((.v (.int .i64 a0.2.2.2.2.2.2.2.2.2)) :: []))))))))))))))],false,false⟩)]:Boxes)⟩) hr ?_;rintro p11 x49r hr49
            simp only[ZhM] at hr49;refine nst ?_;refine go ?_;by_cases c50:p11<(a0.2.2.2.2.2.2.1.length:Int)
            ·have c50N:=nrm c50
             replace hr49:=ifP hr49
             refine go ?_;obtain⟨x51,⟨_,_,_⟩,hr49⟩:=bI hr49;refine go ?_;by_cases c52:x51.1<1
             ·replace hr49:=Zlg hr49
              obtain⟨_,hz53,hr49⟩:=bs hr49;obtain rfl:=Option.some.inj hz53;refine go ?_
              replace hr49:=ifP hr49
              refine go ?_;exact fin hr49
             ·by_cases c54:16777216<x51.1
              ·replace hr49:=Zlg hr49
               obtain⟨_,hz55,hr49⟩:=bs hr49;obtain rfl:=Option.some.inj hz55;refine go ?_
               replace hr49:=ifP hr49
               refine go ?_;exact fin hr49
              ·replace hr49:=Zlh hr49
               obtain⟨_,hz56,hr49⟩:=bs hr49;by_cases c57:0<p11
               ·replace hz56:=Zlg hz56
                obtain⟨_,hz58,hz56⟩:=bs hz56;obtain⟨x59,⟨_,_,_⟩,hz58⟩:=bI hz58;obtain rfl:=Option.some.inj hz58;obtain rfl:=Option.some.inj hz56;refine go ?_;by_cases c60:x51.1≤x59.1
                ·replace hr49:=ifP hr49
                 refine go ?_;exact fin hr49
                ·replace hr49:=ifN hr49
                 refine go ?_;exact bk hr49
               ·replace hz56:=Zlh hz56
                obtain⟨_,hz61,hz56⟩:=bs hz56;obtain rfl:=Option.some.inj hz61;obtain rfl:=Option.some.inj hz56;refine go ?_
                replace hr49:=ifN hr49
                refine go ?_;exact bk hr49
            ·have c50N:=nrm c50
             replace hr49:=ifN hr49
             refine go ?_;obtain⟨r62,q62,rfl⟩:=ms hr49;refine go ?_;rintro rfl
             refine go ?_;unfold ZfG at q62;obtain⟨y63,ehy63,q62⟩:=bN q62 K121.q1;refine go ?_;rcases eqT (y63.2=0) with c64 | c64
             ·replace q62:=Zlg q62
              obtain⟨_,hz65,q62⟩:=bs q62;obtain⟨_,ehy66,hz65⟩:=bN hz65 K122.q2;obtain rfl:=Option.some.inj hz65;refine go ?_;exact fin q62
             ·replace q62:=Zlh q62
              obtain⟨_,hz67,q62⟩:=bs q62;obtain rfl:=Option.some.inj hz67;refine go ?_;exact fin q62
end Go.Proofs.YtcfpmbefhfbdjaaGreatDoor
