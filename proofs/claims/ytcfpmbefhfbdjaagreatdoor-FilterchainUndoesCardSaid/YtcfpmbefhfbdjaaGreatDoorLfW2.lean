import Derived.Test.YtcfpmbefhfbdjaaGreatDoorLfK
import Derived.Test.YtcfpmbefhfbdjaaGreatDoorCode
import Derived.Test.YtcfpmbefhfbdjaaGreatDoorBl
namespace Go.Proofs.YtcfpmbefhfbdjaaGreatDoor
open Go.RowKit
open Go.Av
open Go.Lc
set_option maxRecDepth 100000
set_option linter.unusedSimpArgs false
set_option linter.unusedVariables false
set_option maxHeartbeats 4000000
theorem w27:Walk tt G [(8,K8.G)] (fun _=>[]) Tryz.f27 K27:=by
 refine .ak [(3,⟨[2,5,8,9,10],[2,20],[(5,none,20,32)]⟩)] true Tryz.ntmps27 fun T hO hT ⟨a0,a1⟩ x=>?_
 simp only[Zh] at hT; simp only[kS,nfs,Xk,Zef];refine au ?_
 intros; refine lpP 3 (fun⟨p9,p10,p11⟩=>([(5,.one (.ms 20 0 0 (p11.length) 32)),(10,.one (.v (.int .i64 p9)))],[(2,⟨0,32,[arC .u8 p10],false,false⟩),(20,⟨0,32,List.map (arC .u8) p11,false,true⟩)])) ?_; rintro⟨p9,p10,p11⟩ x; simp only[Xc,Zef]
 exact au
theorem w11:Walk tt G [(21,K21.G),(23,K23.G),(26,K26.G),(27,K27.G)] (fun _=>[]) Tryz.f11 K11:=by
 refine .ak [] false Tryz.ntmps11 fun T hO hT ⟨a0,a1,a2⟩ x=>?_
 simp only[Zh] at hT; simp only[kS,nfs,Z2];exact auR
theorem w29:Walk tt G [] (fun _=>[]) Tryz.f29 K29:=by
 refine .sk [(2,⟨[0,1,10,11],[],[]⟩)] false Tryz.ntmps29 fun T hO hT ⟨a0,a1⟩ x hr=>?_
 simp only[Zh] at hT; simp only[kS,nfs] at hr ⊢;unfold ZS at hr;refine go ?_;refine lp 2 (fun(p8:Int)=>⟨([.one (.slice .no (List.map (arC .u8) a0)),.one (.slice .no (List.map (arC .u8) a1))]++(und 8++([.one (.v (.int .i64 (if (a0.length:Int)<(a1.length:Int) then(a1.length:Int) else(a0.length:Int)))),.one (.v (.int .i64 p8))]++(und 25))):List PV),([]:Boxes)⟩) hr ?_;rintro p8 x26r hr26
 simp only[Ya] at hr26;refine nst ?_;refine go ?_;by_cases c27:p8<(if (a0.length:Int)<(a1.length:Int) then(a1.length:Int) else(a0.length:Int))
 ·have c27N:=nrm c27
  replace hr26:=ifP hr26
  refine go ?_;by_cases c28:(a0.length:Int)≤p8
  ·have c28N:=nrm c28
   replace hr26:=Zlg hr26
   obtain⟨_,hz29,hr26⟩:=bs hr26;obtain rfl:=Option.some.inj hz29;refine go ?_
   replace hr26:=ifP hr26
   refine go ?_;exact fin hr26
  ·have c28N:=nrm c28
   by_cases c30:(a1.length:Int)≤p8
   ·have c30N:=nrm c30
    replace hr26:=Zlg hr26
    obtain⟨_,hz31,hr26⟩:=bs hr26;obtain rfl:=Option.some.inj hz31;refine go ?_
    replace hr26:=ifP hr26
    refine go ?_;exact fin hr26
   ·have c30N:=nrm c30
    replace hr26:=Zlh hr26
    obtain⟨_,hz32,hr26⟩:=bs hr26;obtain⟨x33,⟨_,_,_⟩,hz32⟩:=bI hz32;obtain⟨x34,⟨_,_,_⟩,hz32⟩:=bI hz32;obtain rfl:=Option.some.inj hz32;refine go ?_;rcases eqT (x33=x34) with c35 | c35
    ·replace hr26:=ifN hr26
     refine go ?_;exact bk hr26
    ·replace hr26:=ifP hr26
     refine go ?_;exact fin hr26
 ·have c27N:=nrm c27
  replace hr26:=ifN hr26
  refine go ?_;obtain⟨r36,q36,rfl⟩:=ms hr26;refine go ?_;rintro rfl
  refine go ?_;unfold Lfilterchain_differ_of_api_Hash_k1 at q36;refine go ?_;exact fin q36
theorem w16:Walk tt G [(29,K29.G)] (fun _=>[]) Tryz.f16 K16:=by
 refine .ak [] false Tryz.ntmps16 fun T hO hT ⟨a0,a1⟩ x=>?_
 simp only[Zh] at hT; simp only[kS,nfs,Zaa];exact au
theorem w5:Walk tt G [(8,K8.G),(11,K11.G),(16,K16.G)] (fun _=>[]) Tryz.f5 K5:=by
 refine .sk [] false Tryz.ntmps5 fun T hO hT _ x hr=>?_
 simp only[Zh] at hT; simp only[kS,nfs] at hr ⊢;unfold Llaw21_sane at hr;refine goR ?_;obtain⟨y8,ehy8,hr⟩:=bN hr K11.q3;refine goR ?_;obtain⟨y9,ehy9,hr⟩:=bN hr K16.q2;rcases eqT (y9=1) with c10 | c10
 ·rcases eqT (y8.2=0) with c11 | c11
  ·rcases eqT ((y8.1.2.length:Int)=1) with c12 | c12
   ·have c12N:=nrm c12
    replace hr:=Zlg hr
    obtain⟨_,hz13,hr⟩:=bs hr;obtain⟨_,hx14,hz13⟩:=bs hz13;have hx14c:=YL hx14;obtain⟨_,ehy15,hz13⟩:=bN hz13 K8.q2;obtain rfl:=Option.some.inj hz13;refine goR ?_;exact fin hr
   ·have c12N:=nrm c12
    replace hr:=Zlh hr
    obtain⟨_,hz16,hr⟩:=bs hr;obtain rfl:=Option.some.inj hz16;refine goR ?_;exact fin hr
  ·replace hr:=Zlh hr
   obtain⟨_,hz17,hr⟩:=bs hr;obtain rfl:=Option.some.inj hz17;refine goR ?_;exact fin hr
 ·replace hr:=Zlh hr
  obtain⟨_,hz18,hr⟩:=bs hr;obtain rfl:=Option.some.inj hz18;refine goR ?_;exact fin hr
theorem w61:Walk tt G [] (fun _=>[]) Tryz.f61 K61:=by
 refine .ak [] true Tryz.ntmps61 fun T hO hT ⟨a0,a1⟩ x=>?_
 simp only[Zh] at hT; simp only[kS,nfs,YD];exact au
theorem w104:Walk tt G [] (fun _=>[]) Tryz.f104 K104:=by
 refine .ak [(3,⟨[0,5,9,10],[8],[]⟩)] true Tryz.ntmps104 fun T hO hT ⟨a0,a1⟩ x=>?_
 simp only[Zh] at hT; simp only[kS,nfs,Xp,ZeH];refine au ?_
 intros; refine lpP 3 (fun⟨p8,p9⟩=>([(5,.one (.ms 8 0 0 (p9.length) 1)),(10,.one (.v (.int .i64 p8)))],[(8,⟨0,1,Zg .u8 p9,false,true⟩)])) ?_; rintro⟨p8,p9⟩ x; simp only[ZcU,ZeH]
 exact au
theorem w62:Walk tt G [(61,K61.G),(104,K104.G)] (fun _=>[]) Tryz.f62 K62:=by
 refine .ak [] true Tryz.ntmps62 fun T hO hT ⟨a0,a1⟩ x=>?_
 simp only[Zh] at hT; simp only[kS,nfs,Zbh];exact au
theorem w63:Walk tt G [(61,K61.G),(104,K104.G)] (fun _=>[]) Tryz.f63 K63:=by
 refine .ak [] true Tryz.ntmps63 fun T hO hT ⟨a0,a1⟩ x=>?_
 simp only[Zh] at hT; simp only[kS,nfs,Z6];exact au
theorem w64:Walk tt G [(61,K61.G),(104,K104.G)] (fun _=>[]) Tryz.f64 K64:=by
 refine .ak [] true Tryz.ntmps64 fun T hO hT ⟨a0,a1⟩ x=>?_
 simp only[Zh] at hT; simp only[kS,nfs,Zap];exact au
theorem w40:Walk tt G [(61,K61.G),(62,K62.G),(63,K63.G),(64,K64.G)] (fun _=>[]) Tryz.f40 K40:=by
 refine .ak [] true Tryz.ntmps40 fun T hO hT ⟨a0,a1⟩ x=>?_
 simp only[Zh] at hT; simp only[kS,nfs,Yv];exact au
theorem w39:Walk tt G [(40,K40.G),(61,K61.G)] (fun _=>[]) Tryz.f39 K39:=by
 refine .ak [] true Tryz.ntmps39 fun T hO hT ⟨a0,a1⟩ x=>?_
 simp only[Zh] at hT; simp only[kS,nfs,Xj];exact au
theorem w22:Walk tt G [(39,K39.G),(40,K40.G)] (fun _=>[]) Tryz.f22 K22:=by
 refine .ak [] false Tryz.ntmps22 fun T hO hT a0 x=>?_
 simp only[Zh] at hT; simp only[kS,nfs,ZcI];exact au
theorem w9:Walk tt G [(22,K22.G),(24,K24.G)] (fun _=>[]) Tryz.f9 K9:=by
 refine .ak [] false Tryz.ntmps9 fun T hO hT a0 x=>?_
 simp only[Zh] at hT; simp only[kS,nfs,Zc5];exact au
theorem w71:Walk tt G [] (fun _=>[]) Tryz.f71 K71:=by
 refine .ak [] true Tryz.ntmps71 fun T hO hT a0 x=>?_
 simp only[Zh] at hT; simp only[kS,nfs,ZaP];exact auR
theorem w140:Walk tt G [] (fun _=>[]) Tryz.f140 K140:=by
 refine .ak [] false Tryz.ntmps140 fun T hO hT a0 x=>?_
 simp only[Zh] at hT; simp only[kS,nfs,Zhr];exact au
theorem w107:Walk tt G [(71,K71.G),(140,K140.G)] (fun _=>[]) Tryz.f107 K107:=by
 refine .ak [] true Tryz.ntmps107 fun T hO hT ⟨a0,a1⟩ x=>?_
 simp only[Zh] at hT; simp only[kS,nfs,Zfw,Zen];exact Zh3
theorem w99:Walk tt G [] (fun _=>[]) Tryz.f99 K99:=by
 refine .ak [(2,⟨[0,3],[5],[]⟩),(5,⟨[0,3,4],[5],[]⟩)] true Tryz.ntmps99 fun T hO hT a0 x=>?_
 simp only[Zh] at hT; simp only[kS,nfs,Zgb,ZgW,Ze3];refine au ?_
 intros; refine lpP 2 (fun p4=>([(3,.one (.ms 5 0 0 (p4.length) 1))],[(5,⟨0,1,Zg .u8 p4,false,true⟩)])) ?_; rintro p4 x; simp only[Ze4,ZgW,Ze3]
 refine au ?_
 intros; refine lpP 5 (fun⟨p12,p13⟩=>([(3,.one (.ms 5 0 0 (p13.length) 1)),(4,.one (.v (.int .i64 p12)))],[(5,⟨0,1,Zg .u8 p13,false,true⟩)])) ?_; rintro⟨p12,p13⟩ x; simp only[Zdt,ZgW,Ze3]
 exact au
theorem w100:Walk tt G [] (fun _=>[]) Tryz.f100 K100:=by
 refine .ak [] false Tryz.ntmps100 fun T hO hT _ x=>?_
 simp only[Zh] at hT; simp only[kS,nfs,Lref03_Initial];exact au
theorem w138:Walk tt G [(139,K139.G)] (fun _=>[]) Tryz.f138 K138:=by
 refine .ak [] false Tryz.ntmps138 fun T hO hT ⟨a0,a1⟩ x=>?_
 simp only[Zh] at hT; simp only[kS,nfs,YZ];exact au
theorem w136:Walk tt G [(138,K138.G)] (fun _=>[]) Tryz.f136 K136:=by
 refine .ak [(3,⟨[1,2,3,4],[1,2,3],[]⟩),(7,⟨[2,3,5],[2,3],[]⟩)] false Tryz.ntmps136 fun T hO hT a0 x=>?_
 simp only[Zh] at hT; simp only[kS,nfs,Zb3,ZdI,ZaB];refine au ?_
 intros; refine lpP 3 (fun⟨p12,p13⟩=>([(4,.one (.v (.int .i64 p12)))],[(3,⟨0,64,[arC .u32 p13],false,false⟩)])) ?_; rintro⟨p12,p13⟩ x; simp only[ZbQ,ZdI,ZaB]
 refine au ?_
 intros; refine lpP 7 (fun⟨p38,p39⟩=>([(5,.one (.v (.int .i64 p38)))],[(3,⟨0,64,[arC .u32 p39],false,false⟩)])) ?_; rintro⟨p38,p39⟩ x; simp only[Lref03_schedule_s2,ZdI,ZaB]
 exact au
theorem w137:Walk tt G [] (fun _=>[]) Tryz.f137 K137:=by
 refine .ak [] false Tryz.ntmps137 fun T hO hT _ x=>?_
 simp only[Zh] at hT; simp only[kS,nfs,Lref03_constants];exact au
end Go.Proofs.YtcfpmbefhfbdjaaGreatDoor
