import Derived.Test.YthpkpciceodioaaGreatDoorLfK
import Derived.Test.YthpkpciceodioaaGreatDoorCode
import Derived.Test.YthpkpciceodioaaGreatDoorBl
namespace Go.Proofs.YthpkpciceodioaaGreatDoor
open Go.RowKit
open Go.Av
open Go.Lc
set_option maxRecDepth 100000
set_option linter.unusedSimpArgs false
set_option linter.unusedVariables false
set_option maxHeartbeats 4000000
theorem w143:Walk tt G [(191,K191.G)] (fun _=>[]) Tryz.f143 K143:=by
 refine .ak [(7,⟨[1,2,4,5,6],[2,4,5],[]⟩)] false Tryz.ntmps143 fun T hO hT ⟨a0,a1⟩ x=>?_
 simp only[Zg] at hT; simp only[kS,nfs,XA,Zfz,Zbh];refine Zh3 ?_
 intros; refine lpP 7 (fun⟨p11,p12⟩=>([(6,.one (.v (.int .i64 p11)))],[(5,⟨0,4,[arC .u64 p12],false,false⟩)])) ?_; rintro⟨p11,p12⟩ x; simp only[ZdL,Zfz,Zbh]
 exact Zh3
theorem w192:Walk tt G [] (fun _=>[]) Tryz.f192 K192:=by
 refine .ak [] false Tryz.ntmps192 fun T hO hT a0 x=>?_
 simp only[Zg] at hT; simp only[kS,nfs,Zaj];exact au
theorem w222:Walk tt G [] (fun _=>[]) Tryz.f222 K222:=by
 refine .ak [] false Tryz.ntmps222 fun T hO hT a0 x=>?_
 simp only[Zg] at hT; simp only[kS,nfs,Xg];exact au
theorem w225:Walk tt G [(191,K191.G)] (fun _=>[]) Tryz.f225 K225:=by
 refine .ak [(2,⟨[1,3],[1],[]⟩)] false Tryz.ntmps225 fun T hO hT a0 x=>?_
 simp only[Zg] at hT; simp only[kS,nfs,Zap,Lref02_Len_k1];refine au ?_
 intros; refine lpP 2 (fun p4=>([(3,.one (.v (.int .i64 p4)))],[])) ?_; rintro p4 x; simp only[ZdM,Lref02_Len_k1]
 exact au
theorem v237:Zqe Tryz.prog G 237 G237:=by
 refine ZpC (k:=.u64) (p:=fun x y b=>(x+y+b) % 18446744073709551616) (q:=fun x y b=>(x+y+b) / 18446744073709551616) (ok:=fun x y b=>b≤1) (fun ps r hF=>?_) (fun x y b w hx=>ZyE x y b hx w);obtain⟨⟨x,y,b⟩,rfl,h⟩:=Zd9 hF;obtain⟨z,hz,rfl⟩:=Option.map_eq_some_iff.1 h;unfold YD at hz;obtain⟨_,u1,hz⟩:=bs hz;obtain rfl:=Option.some.inj hz;obtain⟨⟨h1,h2⟩,⟨h3,h4⟩,h5⟩:=ZV u1;obtain⟨x,rfl⟩:=Int.eq_ofNat_of_zero_le h1;obtain⟨y,rfl⟩:=Int.eq_ofNat_of_zero_le h2;obtain⟨b,rfl⟩:=Int.eq_ofNat_of_zero_le h4;have h3':(y:Int)≤18446744073709551615:=h3;have h5':(b:Int)≤1:=h5;refine⟨x,y,b,by omega,rfl,?_⟩;have e1:((x:Int)+y+b) % 18446744073709551616=(((x+y+b) % 18446744073709551616:Nat):Int):=by omega
 have e2:((x:Int)+y+b) / 18446744073709551616=(((x+y+b) / 18446744073709551616:Nat):Int):=by omega
 simp only[Zlv,e1,e2]
theorem w238:Walk tt G [(237,G237)] (fun _=>[]) Tryz.f238 K238:=by
 refine .ak [(4,⟨[2,3,4,6,7,9],[2,3,4,6],[]⟩)] false Tryz.ntmps238 fun T hO hT ⟨a0,a1⟩ x=>?_
 simp only[Zg] at hT; simp only[kS,nfs,ZcK,ZfA];refine au ?_
 intros; refine lpP 4 (fun⟨p7,p8,p9⟩=>([(7,.one (.v (.int .u64 p7))),(9,.one (.v (.int .i64 p8)))],[(6,⟨0,4,[arC .u64 p9],false,false⟩)])) ?_; rintro⟨p7,p8,p9⟩ x; simp only[ZfB,ZfA]
 exact au
theorem w226:Walk tt G [(238,K238.G)] (fun _=>[]) Tryz.f226 K226:=by
 refine .ak [(3,⟨[1,2,4],[2,4],[]⟩)] false Tryz.ntmps226 fun T hO hT ⟨a0,a1⟩ x=>?_
 simp only[Zg] at hT; simp only[kS,nfs,ZcL,ZfC];refine au ?_
 intros; refine lpP 3 (fun⟨p5,p6⟩=>([(1,.one (.v (.int .i64 p5)))],[(2,⟨0,4,[arC .u64 p6],false,false⟩)])) ?_; rintro⟨p5,p6⟩ x; simp only[Lref02_Shl_s1,ZfC]
 exact au
theorem w188:Walk tt G [(143,K143.G),(192,K192.G),(222,K222.G),(225,K225.G),(226,K226.G)] (fun _=>[]) Tryz.f188 K188:=by
 refine .ak [] false Tryz.ntmps188 fun T hO hT a0 x=>?_
 simp only[Zg] at hT; simp only[kS,nfs,Xo,ZaC];exact au
theorem w189:Walk tt G [] (fun _=>[]) Tryz.f189 K189:=by
 refine .ak [(2,⟨[2,3,5],[2,3],[]⟩)] false Tryz.ntmps189 fun T hO hT ⟨a0,a1⟩ x=>?_
 simp only[Zg] at hT; simp only[kS,nfs,YL,Lref02_Cmp_k1];refine au ?_
 intros; refine lpP 2 (fun p3=>([(5,.one (.v (.int .i64 p3)))],[])) ?_; rintro p3 x; simp only[Zfy,Lref02_Cmp_k1]
 exact au
theorem w145:Walk tt G [(188,K188.G),(189,K189.G),(192,K192.G)] (fun _=>[]) Tryz.f145 K145:=by
 refine .sk [(6,⟨[1,59,60,61],[1],[]⟩)] false Tryz.ntmps145 fun T hO hT a0 x hr=>?_
 simp only[Zg] at hT; simp only[kS,nfs] at hr ⊢;unfold Xp at hr;refine go ?_;obtain⟨y23,ehy23,hr⟩:=bN hr K192.q1;by_cases c24:y23=true
 ·refine go ?_
  replace hr:=ifP hr
  refine go ?_;exact fin hr
 ·by_cases c25:a0.2.2.1<1
  ·refine go ?_
   replace hr:=ifP hr
   refine go ?_;exact fin hr
  ·by_cases c26:4096<a0.2.2.1
   ·refine go ?_
    replace hr:=ifP hr
    refine go ?_;exact fin hr
   ·by_cases c27:a0.2.2.2.1<1
    ·refine go ?_
     replace hr:=ifP hr
     refine go ?_;exact fin hr
    ·refine go ?_
     by_cases c28:1048576<a0.2.2.2.1
     ·replace hr:=ifP hr
      refine go ?_;exact fin hr
     ·replace hr:=ifN hr
      refine go ?_;by_cases c29:a0.2.2.2.2.2.2.2.1<0
      ·refine go ?_
       replace hr:=ifP hr
       refine go ?_;exact fin hr
      ·by_cases c30:2100000000000000<a0.2.2.2.2.2.2.2.1
       ·refine go ?_
        replace hr:=ifP hr
        refine go ?_;exact fin hr
       ·by_cases c31:a0.2.2.2.2.2.2.2.2.1<1
        ·refine go ?_
         replace hr:=ifP hr
         refine go ?_;exact fin hr
        ·by_cases c32:16777216<a0.2.2.2.2.2.2.2.2.1
         ·refine go ?_
          replace hr:=ifP hr
          refine go ?_;exact fin hr
         ·by_cases c33:a0.2.2.2.2.2.2.2.2.2<0
          ·refine go ?_
           replace hr:=ifP hr
           refine go ?_;exact fin hr
          ·refine go ?_
           by_cases c34:16777216<a0.2.2.2.2.2.2.2.2.2
           ·replace hr:=ifP hr
            refine go ?_;exact fin hr
           ·replace hr:=ifN hr
            refine go ?_;refine lp 6 (fun(p11:Int)=>⟨(und 1++([.ptr 1 0 0 0 80]++(und 57++([.one (.slice .no (List.map eapi_Checkpoint a0.2.2.2.2.2.2.1)),.one (.v (.int .i64 (a0.2.2.2.2.2.2.1.length:Int))),.one (.v (.int .i64 p11))]++(und 45)))):List PV),([(1,⟨0,80,[(.v (.int .u32 a0.1.1)) :: ((arC .u8 a0.1.2.1)++((arC .u8 a0.1.2.2.1)++((.v (.int .u32 a0.1.2.2.2.1)) :: ((.v (.int .u32 a0.1.2.2.2.2.1)) :: ((.v (.int .u32 a0.1.2.2.2.2.2)) :: ((arC .u64 a0.2.1)++((.v (.int .i64 a0.2.2.1)) :: ((.v (.int .u32 a0.2.2.2.1)) :: ((.v (.int .u32 a0.2.2.2.2.1)) :: ((.v (.int .u32 a0.2.2.2.2.2.1)) :: ((.slice .no (List.map eapi_Checkpoint a0.2.2.2.2.2.2.1)) :: ((.v (.int .i64 a0.2.2.2.2.2.2.2.1)) :: ((.v (.int .i64 a0.2.2.2.2.2.2.2.2.1)) :: ((.v (.int .i64 a0.2.2.2.2.2.2.2.2.2)) :: []))))))))))))))],false,false⟩)]:Boxes)⟩) hr ?_;rintro p11 x49r hr49
            simp only[Zip] at hr49;refine nst ?_;refine go ?_;by_cases c50:p11<(a0.2.2.2.2.2.2.1.length:Int)
            ·have c50N:=nrm c50
             replace hr49:=ifP hr49
             refine go ?_;obtain⟨x51,⟨_,_,_⟩,hr49⟩:=bI hr49;refine go ?_;by_cases c52:x51.1<1
             ·replace hr49:=ZoY hr49
              obtain⟨_,hz53,hr49⟩:=bs hr49;obtain rfl:=Option.some.inj hz53;refine go ?_
              replace hr49:=ifP hr49
              refine go ?_;exact fin hr49
             ·by_cases c54:16777216<x51.1
              ·replace hr49:=ZoY hr49
               obtain⟨_,hz55,hr49⟩:=bs hr49;obtain rfl:=Option.some.inj hz55;refine go ?_
               replace hr49:=ifP hr49
               refine go ?_;exact fin hr49
              ·replace hr49:=ZqV hr49
               obtain⟨_,hz56,hr49⟩:=bs hr49;by_cases c57:0<p11
               ·replace hz56:=ZoY hz56
                obtain⟨_,hz58,hz56⟩:=bs hz56;obtain⟨x59,⟨_,_,_⟩,hz58⟩:=bI hz58;obtain rfl:=Option.some.inj hz58;obtain rfl:=Option.some.inj hz56;refine go ?_;by_cases c60:x51.1≤x59.1
                ·replace hr49:=ifP hr49
                 refine go ?_;exact fin hr49
                ·replace hr49:=ifN hr49
                 refine go ?_;exact bk hr49
               ·replace hz56:=ZqV hz56
                obtain⟨_,hz61,hz56⟩:=bs hz56;obtain rfl:=Option.some.inj hz61;obtain rfl:=Option.some.inj hz56;refine go ?_
                replace hr49:=ifN hr49
                refine go ?_;exact bk hr49
            ·have c50N:=nrm c50
             replace hr49:=ifN hr49
             refine go ?_;obtain⟨r62,q62,rfl⟩:=ms hr49;refine go ?_;rintro rfl
             refine go ?_;unfold Zgb at q62;obtain⟨y63,ehy63,q62⟩:=bN q62 K188.q1;refine go ?_;rcases eqT (y63.2=0) with c64 | c64
             ·replace q62:=ZoY q62
              obtain⟨_,hz65,q62⟩:=bs q62;obtain⟨_,ehy66,hz65⟩:=bN hz65 K189.q2;obtain rfl:=Option.some.inj hz65;refine go ?_;exact fin q62
             ·replace q62:=ZqV q62
              obtain⟨_,hz67,q62⟩:=bs q62;obtain rfl:=Option.some.inj hz67;refine go ?_;exact fin q62
theorem w127:Walk tt G [(145,K145.G)] (fun _=>[]) Tryz.f127 K127:=by
 refine .ak [(5,⟨[5,6],[],[]⟩)] false Tryz.ntmps127 fun T hO hT ⟨a0,a1⟩ x=>?_
 simp only[Zg] at hT; simp only[kS,nfs,ZbB,ZgV];refine Zh3 ?_
 intros; refine lpP 5 (fun⟨p5,p6⟩=>([(5,.one (.v (.int .i64 p5))),(6,.one (.v (.int .i64 p6)))],[])) ?_; rintro⟨p5,p6⟩ x; simp only[Lref23_Subsidy_s1,ZgV]
 exact Zh3
theorem w52:Walk tt G [(53,K53.G),(54,K54.G)] (fun _=>[]) Tryz.f52 K52:=by
 refine .sk [(4,⟨[3,22,23,24],[22,900003],[(3,none,900003,0),(3,none,900003,1)]⟩)] true Tryz.ntmps52 fun T hO hT a0 x hr=>?_
 simp only[Zg] at hT; simp only[kS,nfs] at hr ⊢;unfold YP at hr;refine goR ?_;obtain⟨_,ehy18,hr⟩:=bN hr K53.q2;refine goR ?_;obtain⟨_,ehy19,hr⟩:=bN hr K54.q2;obtain⟨_,ehy20,hr⟩:=bN hr K54.q2;refine goR ?_;refine lp 4 (fun(⟨p10,p11⟩:Int×(List Int))=>⟨(und 3++([.one (.ms 900003 0 0 (p11.length) 1)]++(und 18++([.one (.ms 22 0 0 (3) 1),.one (.v (.int .i64 (3:Int))),.one (.v (.int .i64 p10))]++(und 8)))):List PV),([(22,⟨0,1,Zf .u32 [a0.2.2.2.1,a0.2.2.2.2.1,a0.2.2.2.2.2],false,true⟩),(900003,⟨0,1,Zf .u8 p11,false,true⟩)]:Boxes)⟩) hr ?_;rintro⟨p10,p11⟩ x27r hr27
 simp only[ZA] at hr27;refine nst ?_;refine goR ?_;by_cases c28:p10<(3:Int)
 ·replace hr27:=ifP hr27
  refine goR ?_;obtain⟨j29,⟨_,_,_⟩,hr27⟩:=bA hr27;have j29d:j29≤2:=by omega
  obtain⟨x30,hx30,hr27⟩:=bs hr27;have ghx30:=Xk hx30;have mhx30:(Zf .u32 ([a0.2.2.2.1,a0.2.2.2.2.1,a0.2.2.2.2.2]))[j29]? = some [.v (.int .u32 x30)]:=by rw[ZtV,hx30]; rfl
  simp only[Zl8,ZmM] at mhx30;have mghx30:=Xk mhx30;refine goR ?_;obtain⟨_,ehy31,hr27⟩:=bN hr27 K53.q2;refine goR ?_;exact bk hr27
 ·replace hr27:=ifN hr27
  refine goR ?_;obtain⟨r32,q32,rfl⟩:=ms hr27;refine goR ?_;rintro rfl
  refine goR ?_;unfold ZbL at q32;refine goR ?_;exact fin q32
theorem w22:Walk tt G [(51,K51.G),(52,K52.G)] (fun _=>[]) Tryz.f22 K22:=by
 refine .ak [] false Tryz.ntmps22 fun T hO hT a0 x=>?_
 simp only[Zg] at hT; simp only[kS,nfs,Yz];exact au
section
attribute [local simp] mzD mzT
theorem w221:Walk tt G [(161,K161.G),(237,G237)] (fun _=>[]) Tryz.f221 K221:=by
 refine .ak [(3,⟨[2,3,4,5,6,15],[2,3,4,5,6],[]⟩),(7,⟨[2,3,4,5,6,7,8,15,18],[2,3,4,5,6],[]⟩)] false Tryz.ntmps221 fun T hO hT ⟨a0,a1⟩ x=>?_
 simp only[Zg] at hT; simp only[kS,nfs,ZgO,ZhC,ZfF];refine au ?_
 intros; refine lpP 3 (fun⟨p48,p49⟩=>([(15,.one (.v (.int .i64 p48)))],[(6,⟨0,8,[arC .u64 p49],false,false⟩)])) ?_; rintro⟨p48,p49⟩ x; simp only[ZjM,ZhC,ZfF]
 refine au ?_
 intros; refine lpP 7 (fun⟨p88,p89,p90⟩=>([(8,.one (.v (.int .u64 p88))),(18,.one (.v (.int .i64 p89)))],[(6,⟨0,8,[arC .u64 p90],false,false⟩)])) ?_; rintro⟨p88,p89,p90⟩ x; simp only[ZjL,ZhC,ZfF]
 exact au
end
theorem v249:Zqe Tryz.prog G 249 G249:=by
 refine ZpC (k:=.u64) (p:=fun x y b=>(x+18446744073709551616-y-b) % 18446744073709551616) (q:=fun x y b=>if x<y+b then 1 else 0) (ok:=fun x y b=>b≤1) (fun ps r hF=>?_) (fun x y b w hx=>ZyF x y b hx w);obtain⟨⟨x,y,b⟩,rfl,h⟩:=Zd9 hF;obtain⟨z,hz,rfl⟩:=Option.map_eq_some_iff.1 h;unfold ZaB at hz;obtain⟨_,u1,hz⟩:=bs hz;obtain rfl:=Option.some.inj hz;obtain⟨⟨h1,h2⟩,⟨h3,h4⟩,h5⟩:=ZV u1;obtain⟨x,rfl⟩:=Int.eq_ofNat_of_zero_le h1;obtain⟨y,rfl⟩:=Int.eq_ofNat_of_zero_le h2;obtain⟨b,rfl⟩:=Int.eq_ofNat_of_zero_le h4;have h3':(y:Int)≤18446744073709551615:=h3;have h5':(b:Int)≤1:=h5;refine⟨x,y,b,by omega,rfl,?_⟩;have e1:((x:Int)+18446744073709551616-y-b) % 18446744073709551616=(((x+18446744073709551616-y-b) % 18446744073709551616:Nat):Int):=by omega
 have e2:(if (x:Int)<(y:Int)+(b:Int) then(1:Int) else 0)=((if x<y+b then 1 else 0:Nat):Int):=by split <;> split <;> first | rfl | omega
 simp only[Zlw,e1,e2]
theorem w239:Walk tt G [(249,G249)] (fun _=>[]) Tryz.f239 K239:=by
 refine .ak [(4,⟨[2,3,4,6,7,9],[2,3,4,6],[]⟩)] false Tryz.ntmps239 fun T hO hT ⟨a0,a1⟩ x=>?_
 simp only[Zg] at hT; simp only[kS,nfs,ZgK,ZjI];refine au ?_
 intros; refine lpP 4 (fun⟨p7,p8,p9⟩=>([(7,.one (.v (.int .u64 p7))),(9,.one (.v (.int .i64 p8)))],[(6,⟨0,4,[arC .u64 p9],false,false⟩)])) ?_; rintro⟨p7,p8,p9⟩ x; simp only[ZjJ,ZjI]
 exact au
theorem w223:Walk tt G [(189,K189.G),(191,K191.G),(238,K238.G),(239,K239.G)] (fun _=>[]) Tryz.f223 K223:=by
 refine .ak [(5,⟨[4,5,6,7,9],[4,5,6,7],[]⟩)] false Tryz.ntmps223 fun T hO hT ⟨a0,a1,a2⟩ x=>?_
 simp only[Zg] at hT; simp only[kS,nfs,ZgP,ZjN,ZfG,ZdO];refine Zh3 ?_
 intros; refine lpP 5 (fun⟨p27,p28,p29⟩=>([(9,.one (.v (.int .i64 p27)))],[(6,⟨0,4,[arC .u64 p28],false,false⟩),(7,⟨0,4,[arC .u64 p29],false,false⟩)])) ?_; rintro⟨p27,p28,p29⟩ x; simp only[ZjO,ZjN,ZfG,ZdO]
 exact Zh3
theorem w224:Walk tt G [(143,K143.G),(189,K189.G),(192,K192.G),(225,K225.G),(226,K226.G)] (fun _=>[]) Tryz.f224 K224:=by
 refine .ak [(5,⟨[1,3],[1],[]⟩)] false Tryz.ntmps224 fun T hO hT a0 x=>?_
 simp only[Zg] at hT; simp only[kS,nfs,Zc8,Za9];refine au ?_
 intros; refine lpP 5 (fun p15=>([(3,.one (.v (.int .i64 p15)))],[])) ?_; rintro p15 x; simp only[Zg1,Za9]
 exact au
theorem w187:Walk tt G [(145,K145.G),(188,K188.G),(189,K189.G),(192,K192.G),(221,K221.G),(222,K222.G),(223,K223.G),(224,K224.G)] (fun _=>[]) Tryz.f187 K187:=by
 refine .ak [] false Tryz.ntmps187 fun T hO hT ⟨a0,a1,a2,a3⟩ x=>?_
 simp only[Zg] at hT; simp only[kS,nfs,ZdP,Zdw,Zdx,Zdy];exact Zh3
theorem w139:Walk tt G [(145,K145.G),(187,K187.G)] (fun _=>[]) Tryz.f139 K139:=by
 refine .ak [] false Tryz.ntmps139 fun T hO hT ⟨a0,a1⟩ x=>?_
 simp only[Zg] at hT; simp only[kS,nfs,Zdz];exact au
theorem w190:Walk tt G [] (fun _=>[]) Tryz.f190 K190:=by
 refine .ak [(3,⟨[1,2,3,6],[1,2,3],[]⟩)] false Tryz.ntmps190 fun T hO hT a0 x=>?_
 simp only[Zg] at hT; simp only[kS,nfs,Y4,Zbo];refine Zh3 ?_
 intros; refine lpP 3 (fun⟨p8,p9⟩=>([(6,.one (.v (.int .i64 p8)))],[(3,⟨0,4,[arC .u64 p9],false,false⟩)])) ?_; rintro⟨p8,p9⟩ x; simp only[Zbp,Zbo]
 exact Zh3
theorem w140:Walk tt G [(188,K188.G),(189,K189.G),(190,K190.G)] (fun _=>[]) Tryz.f140 K140:=by
 refine .ak [] false Tryz.ntmps140 fun T hO hT ⟨a0,a1⟩ x=>?_
 simp only[Zg] at hT; simp only[kS,nfs,Zdq];exact au
section
attribute [local simp] Ztx
theorem w141:Walk tt G [] (fun _=>[]) Tryz.f141 K141:=by
 refine .sk [(3,⟨[3,7,8,9],[37],[(3,none,37,1)]⟩),(1000008,⟨[3,5,6,7,8,9],[37],[]⟩),(6,⟨[3,5,6,7,8,9],[37],[]⟩)] false Tryz.ntmps141 fun T hO hT a0 x hr=>?_
 simp only[Zg] at hT; simp only[kS,nfs] at hr ⊢;unfold Zcr at hr;refine ZdB ?_;refine lp 3 (fun(⟨p28,p29⟩:Int×(List Int))=>⟨(und 3++([.one (.ms 37 0 0 (p29.length) 1)]++(und 3++([.one (.slice .no (Zf .u32 a0)),.one (.v (.int .i64 (a0.length:Int))),.one (.v (.int .i64 p28))]++(und 38)))):List PV),([(37,⟨0,1,Zf .u32 p29,false,true⟩)]:Boxes)⟩) hr ?_;rintro⟨p28,p29⟩ x97r hr97
 simp only[ZhR] at hr97;refine nst ?_;refine ZdB ?_;by_cases c98:p28<(a0.length:Int)
 ·have c98N:=nrm c98
  replace hr97:=ifP hr97
  refine ZdB ?_;obtain⟨x99,⟨_,_,_⟩,hr97⟩:=bI hr97;refine ZdB ?_;refine Zs1 hr97 (.exit 2) (fun(s:Int)=>match s with | p56=>(⟨(und 3++([.one (.ms 37 0 0 (p29.length) 1)]++(und 1++([.one (.v (.int .u32 x99)),.one (.v (.int .i64 p56)),.one (.slice .no (Zf .u32 a0)),.one (.v (.int .i64 (a0.length:Int))),.one (.v (.int .i64 p28))]++(und 38)))):List PV),([(37,⟨0,1,Zf .u32 p29,false,true⟩)]:Boxes)⟩:ASt)) (fun(s:Int)=>match s with | p56=>Zdr p56 p29 p28 x99) ?_ ?_
  ·rintro p56 hk109
   change Zdr p56 p29 p28 x99=_ at hk109
   refine ZdB ?_;refine nst ?_;unfold Zdr at hk109;obtain⟨⟨_,_⟩,hk109⟩:=bC hk109;have sf111:(p56).toNat≤p29.length:=by omega
   have sf112:0≤p56:=by omega
   obtain⟨⟨_,_⟩,hk109⟩:=bC hk109;have sf114:(p56).toNat≤p29.length:=by omega
   obtain⟨u115_0,hk109⟩:=bC hk109;have u115_0N:=u115_0;try simp at u115_0N
   have n1_u115_0:(1+(((p29).drop (p56).toNat).take (p29.length-(p56).toNat)).length) * 4≤140737488355328:=by omega
   have n2_u115_0:1+(((p29).drop (p56).toNat).take (p29.length-(p56).toNat)).length≤9223372036854775807:=by omega
   have n1s_u115_0:=n1_u115_0;try simp only[List.length_drop,List.length_take,Nat.min_self,Nat.sub_le_iff_le_add,Nat.min_eq_left,sf111,sf112,sf114] at n1s_u115_0
   have n2s_u115_0:=n2_u115_0;try simp only[List.length_drop,List.length_take,Nat.min_self,Nat.sub_le_iff_le_add,Nat.min_eq_left,sf111,sf112,sf114] at n2s_u115_0
   obtain⟨u116_0,hk109⟩:=bC hk109;have u116_0N:=u116_0;try simp at u116_0N
   have n1_u116_0:(((p29).take (p56).toNat).length+(1+(((p29).drop (p56).toNat).take (p29.length-(p56).toNat)).length)) * 4≤140737488355328:=by
    have h:=u116_0;try simp at h
    first | omega | (simp only[List.length_take,List.length_drop] at h ⊢; omega) | (simp only[List.length_take,List.length_drop]; omega)
   have n2_u116_0:((p29).take (p56).toNat).length+(1+(((p29).drop (p56).toNat).take (p29.length-(p56).toNat)).length)≤9223372036854775807:=by
    have h:=u116_0;try simp at h
    first | omega | (simp only[List.length_take,List.length_drop] at h ⊢; omega) | (simp only[List.length_take,List.length_drop]; omega)
   have n1s_u116_0:=n1_u116_0;try simp only[List.length_drop,List.length_take,Nat.min_self,Nat.sub_le_iff_le_add,Nat.min_eq_left,sf111,sf112,sf114] at n1s_u116_0
   have n2s_u116_0:=n2_u116_0;try simp only[List.length_drop,List.length_take,Nat.min_self,Nat.sub_le_iff_le_add,Nat.min_eq_left,sf111,sf112,sf114] at n2s_u116_0
   have z1:(p56.toNat+(p29.length-p56.toNat+1)) * 4≤140737488355328:=by omega
   have z2:p56.toNat+(p29.length-p56.toNat+1)≤9223372036854775807:=by omega
   refine Zvk rfl (kq:=⟨[3,5,6,7,8,9],[37],[]⟩) rfl (by simp[-Int.natCast_tdiv_eq_ediv,Nat.add_assoc,Zbl, *]; rfl) (by simp[-Int.natCast_tdiv_eq_ediv,Nat.add_assoc, *]; first | exact⟨rfl,rfl⟩ | rfl) (by kernel_rfl) ?_;refine ZdB ?_;exact bk hk109
  ·intro J109
   simp only[pq,reduceCtorEq] at J109;refine lp 6 (fun(p56:Int)=>⟨(und 3++([.one (.ms 37 0 0 (p29.length) 1)]++(und 1++([.one (.v (.int .u32 x99)),.one (.v (.int .i64 p56)),.one (.slice .no (Zf .u32 a0)),.one (.v (.int .i64 (a0.length:Int))),.one (.v (.int .i64 p28))]++(und 38)))):List PV),([(37,⟨0,1,Zf .u32 p29,false,true⟩)]:Boxes)⟩) hr97 ?_;rintro p56 x117r hr117
   simp only[ZhQ] at hr117;refine nst ?_;refine ZdB ?_;by_cases c118:p56<(p29.length:Int)
   ·have c118N:=nrm c118
    replace hr117:=ZoY hr117
    obtain⟨_,hz119,hr117⟩:=bs hr117;obtain⟨_,⟨_,_,_⟩,hz119⟩:=bA hz119;obtain⟨x121,hx121,hz119⟩:=bs hz119;have ghx121:=Xk hx121;obtain rfl:=Option.some.inj hz119;refine ZdB ?_;by_cases c122:x121≤x99
    ·replace hr117:=ifP hr117
     refine ZdB ?_;exact bk hr117
    ·replace hr117:=ifN hr117
     refine ZdB ?_;obtain⟨r123,q123,rfl⟩:=ms hr117;refine ZdB ?_;rintro rfl
     refine ZdB ?_;exact jn 1000008 (J109 p56 q123)
   ·have c118N:=nrm c118
    replace hr117:=ZqV hr117
    obtain⟨_,hz124,hr117⟩:=bs hr117;obtain rfl:=Option.some.inj hz124;refine ZdB ?_
    replace hr117:=ifN hr117
    refine ZdB ?_;obtain⟨r125,q125,rfl⟩:=ms hr117;refine ZdB ?_;rintro rfl
    refine ZdB ?_;exact jn 1000008 (J109 p56 q125)
 ·have c98N:=nrm c98
  replace hr97:=ifN hr97
  refine ZdB ?_;obtain⟨r126,q126,rfl⟩:=ms hr97;refine ZdB ?_;rintro rfl
  refine ZdB ?_;unfold ZhP at q126;refine ZdB ?_;rcases eqT ((p29.length:Int)=0) with c127 | c127
  ·have c127N:=nrm c127
   replace q126:=ifP q126
   refine ZdB ?_;exact fin q126
  ·have c127N:=nrm c127
   replace q126:=ifN q126
   refine ZdB ?_;obtain⟨_,⟨_,_,_⟩,q126⟩:=bA q126;obtain⟨_,hx129,q126⟩:=bs q126;have ghx129:=Xk hx129;refine ZdB ?_;exact fin q126
end
section
attribute [local simp] az64 bz4
theorem w128:Walk tt G [(22,K22.G),(139,K139.G),(140,K140.G),(141,K141.G)] (fun _=>[]) Tryz.f128 K128:=by
 refine .sk [(4,⟨[8,9,11],[8,11],[]⟩)] false Tryz.ntmps128 fun T hO hT ⟨a0,a1,a2,a3⟩ x hr=>?_
 simp only[Zg] at hT; simp only[kS,nfs] at hr ⊢;unfold Zf0 at hr;refine go ?_;obtain⟨y13,ehy13,hr⟩:=bN hr K139.q2;refine go ?_;obtain⟨y14,ehy14,hr⟩:=bN hr K141.q1;refine go ?_;refine lp 4 (fun(p8:Int)=>⟨(und 8++([.ptr 8 0 0 0 68,.one (.v (.int .u32 y13.1))]++(und 1++([.ptr 11 0 0 0 68]++(und 33)))):List PV),([(8,⟨0,68,[(.v (.int .u32 0)) :: ((arC .u8 (zA 32))++((arC .u8 (zA 32))++((.v (.int .u32 0)) :: ((.v (.int .u32 0)) :: ((.v (.int .u32 0)) :: [])))))],false,false⟩),(11,⟨0,68,[(.v (.int .u32 a0.2.2.2.2.2.1)) :: ((arC .u8 a1.2.1)++((arC .u8 a2)++((.v (.int .u32 (IntKind.u32.wrap ((IntKind.u32.wrap (y14+1))+a3)))) :: ((.v (.int .u32 y13.1)) :: ((.v (.int .u32 p8)) :: [])))))],false,false⟩)]:Boxes)⟩) hr ?_;rintro p8 x21r hr21
 simp only[Zi1] at hr21;refine nst ?_;refine go ?_;by_cases c22:p8<20000
 ·replace hr21:=ifP hr21
  refine go ?_;obtain⟨_,ehy23,hr21⟩:=bN hr21 K22.q1;obtain⟨y24,ehy24,hr21⟩:=bN hr21 K140.q2;refine go ?_;by_cases c25:y24=true
  ·replace hr21:=ifP hr21
   refine go ?_;exact fin hr21
  ·replace hr21:=ifN hr21
   refine go ?_;exact bk hr21
 ·replace hr21:=ifN hr21
  refine go ?_;obtain⟨r26,q26,rfl⟩:=ms hr21;refine go ?_;rintro rfl
  refine go ?_;unfold ZlC at q26;refine go ?_;exact fin q26
end
theorem w178:Walk tt G [(51,K51.G),(72,K72.G),(114,K114.G)] (fun _=>[]) Tryz.f178 K178:=by
 refine .ak [] false Tryz.ntmps178 fun T hO hT a0 x=>?_
 simp only[Zg] at hT; simp only[kS,nfs,ZfU];exact au
theorem w45:Walk tt G [(82,K82.G)] (fun _=>[]) Tryz.f45 K45:=by
 refine .ak [(3,⟨[3,6,7,8],[900003],[(3,none,900003,0),(3,none,900003,1)]⟩)] true Tryz.ntmps45 fun T hO hT a0 x=>?_
 simp only[Zg] at hT; simp only[kS,nfs,ZaN,ZgJ];refine au ?_
 intros; refine lpP 3 (fun⟨p7,p8⟩=>([(3,.one (.ms 900003 0 0 (p8.length) 1)),(8,.one (.v (.int .i64 p7)))],[(900003,⟨0,1,Zf .u8 p8,false,true⟩)])) ?_; rintro⟨p7,p8⟩ x; simp only[Zc0,ZgJ]
 exact au
theorem w233:Walk tt G [(45,K45.G),(95,G95)] (fun _=>[]) Tryz.f233 K233:=by
 refine .ak [] false Tryz.ntmps233 fun T hO hT ⟨a0,a1⟩ x=>?_
 simp only[Zg] at hT; simp only[kS,nfs,ZfV];exact auR
theorem w213:Walk tt G [(233,K233.G)] (fun _=>[]) Tryz.f213 K213:=by
 refine .ak [(2,⟨[0,3],[7],[(0,none,1,1)]⟩),(5,⟨[0,3,4,5],[7,900004],[(4,none,900004,32)]⟩)] true Tryz.ntmps213 fun T hO hT a0 x=>?_
 simp only[Zg] at hT; simp only[kS,nfs,ZdN,Zfd,Zds,ZbC];refine au ?_
 intros; refine lpP 2 (fun⟨p51,p52⟩=>([(0,.one (.slice .no (List.map (arC .u8) p51))),(3,.one (.ms 7 0 0 (p52.length) 1))],[(7,⟨0,1,List.map Zjv p52,false,true⟩)])) ?_; rintro⟨p51,p52⟩ x; simp only[Lref07_levels_s1,Zfd,Zds,ZbC]
 refine au ?_
 intros; refine lpP 5 (fun⟨p91,p92⟩=>([(4,.one (.ms 900004 0 0 (p92.length) 32)),(5,.one (.v (.int .i64 p91)))],[(900004,⟨0,32,List.map (arC .u8) p92,false,true⟩)])) ?_; rintro⟨p91,p92⟩ x; simp only[ZhS,Zfd,Zds,ZbC]
 exact au
theorem w179:Walk tt G [(213,K213.G)] (fun _=>[]) Tryz.f179 K179:=by
 refine .ak [] false Tryz.ntmps179 fun T hO hT a0 x=>?_
 simp only[Zg] at hT; simp only[kS,nfs,ZfW];exact au
theorem w129:Walk tt G [(178,K178.G),(179,K179.G)] (fun _=>[]) Tryz.f129 K129:=by
 refine .ak [(3,⟨[2,3,6,7,8],[2,16],[(3,none,16,32)]⟩)] false Tryz.ntmps129 fun T hO hT a0 x=>?_
 simp only[Zg] at hT; simp only[kS,nfs,Zef,ZgL];refine au ?_
 intros; refine lpP 3 (fun⟨p8,p9⟩=>([(3,.one (.ms 16 0 0 (p9.length) 32)),(8,.one (.v (.int .i64 p8)))],[(16,⟨0,32,List.map (arC .u8) p9,false,true⟩)])) ?_; rintro⟨p8,p9⟩ x; simp only[ZiY,ZgL]
 exact au
theorem w130:Walk tt G [] (fun _=>[]) Tryz.f130 K130:=by
 refine .ak [] false Tryz.ntmps130 fun T hO hT a0 x=>?_
 simp only[Zg] at hT; simp only[kS,nfs,ZfD];exact au
section
attribute [local simp] az64 bz4
theorem w88:Walk tt G [(24,K24.G),(125,G125),(126,K126.G),(127,K127.G),(128,K128.G),(129,K129.G),(130,K130.G)] (fun _=>[]) Tryz.f88 K88:=by
 refine .sk [] true Tryz.ntmps88 fun T hO hT ⟨a0,a1,a2,a3⟩ x hr=>?_
 simp only[Zg] at hT; simp only[kS,nfs] at hr ⊢;unfold ZeP at hr;refine go ?_;obtain⟨y9,ehy9,hr⟩:=bG hr fun _=>Zss
 simp only[Zg6,Zji,kS,nf,nfs] at ehy9;refine go ?_;obtain⟨_,ehy10,hr⟩:=bN hr K127.q2;obtain⟨_,ehy11,hr⟩:=bN hr K24.q1;obtain⟨y12,ehy12,hr⟩:=bN hr K126.q3;obtain⟨_,hr⟩:=bC hr;have n1_u13_0:(1+y9.1.length) * 64≤140737488355328:=by omega
 have n2_u13_0:1+y9.1.length≤9223372036854775807:=by omega
 refine go ?_;obtain⟨_,ehy14,hr⟩:=bN hr K129.q1;obtain⟨_,ehy15,hr⟩:=bN hr K130.q1;obtain⟨_,ehy16,hr⟩:=bN hr K128.q4;cases hb:(y12.2.1.any ((fun l=>l.any Cell.isSl) ∘ Za5) || y12.2.2.1.any ((fun l=>l.any Cell.isSl) ∘ Xj)) <;> (refine go ?_; exact fin hr)
end
end Go.Proofs.YthpkpciceodioaaGreatDoor
