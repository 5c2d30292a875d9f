import Derived.Test.YtcfpmbefhfbdjaaGreatDoorLfK
import Derived.Test.YtcfpmbefhfbdjaaGreatDoorCode
import Derived.Test.YtcfpmbefhfbdjaaGreatDoorBl
namespace Go.Proofs.YtcfpmbefhfbdjaaGreatDoor
open Go.RowKit
open Go.Av
open Go.Lc
set_option maxRecDepth 100000
set_option linter.unusedSimpArgs false
set_option linter.unusedVariables false
set_option maxHeartbeats 4000000
theorem w70:Walk tt G [(89,K89.G)] (fun _=>[]) Tryz.f70 K70:=by
 refine .ak [(5,⟨[5,6],[],[]⟩)] false Tryz.ntmps70 fun T hO hT ⟨a0,a1⟩ x=>?_
 simp only[Zh] at hT; simp only[kS,nfs,Zbt,Zgp];refine Zh3 ?_
 intros; refine lpP 5 (fun⟨p5,p6⟩=>([(5,.one (.v (.int .i64 p5))),(6,.one (.v (.int .i64 p6)))],[])) ?_; rintro⟨p5,p6⟩ x; simp only[Lref23_Subsidy_s1,Zgp]
 exact Zh3
theorem w38:Walk tt G [(59,K59.G),(60,K60.G)] (fun _=>[]) Tryz.f38 K38:=by
 refine .sk [(4,⟨[3,22,23,24],[22,900003],[(3,none,900003,0),(3,none,900003,1)]⟩)] true Tryz.ntmps38 fun T hO hT a0 x hr=>?_
 simp only[Zh] at hT; simp only[kS,nfs] at hr ⊢;unfold Xz at hr;refine goR ?_;obtain⟨_,ehy18,hr⟩:=bN hr K59.q2;refine goR ?_;obtain⟨_,ehy19,hr⟩:=bN hr K60.q2;obtain⟨_,ehy20,hr⟩:=bN hr K60.q2;refine goR ?_;refine lp 4 (fun(⟨p10,p11⟩:Int×(List Int))=>⟨(und 3++([.one (.ms 900003 0 0 (p11.length) 1)]++(und 18++([.one (.ms 22 0 0 (3) 1),.one (.v (.int .i64 (3:Int))),.one (.v (.int .i64 p10))]++(und 8)))):List PV),([(22,⟨0,1,Zg .u32 [a0.2.2.2.1,a0.2.2.2.2.1,a0.2.2.2.2.2],false,true⟩),(900003,⟨0,1,Zg .u8 p11,false,true⟩)]:Boxes)⟩) hr ?_;rintro⟨p10,p11⟩ x27r hr27
 simp only[Yk] at hr27;refine nst ?_;refine goR ?_;by_cases c28:p10<(3:Int)
 ·replace hr27:=ifP hr27
  refine goR ?_;obtain⟨j29,⟨_,_,_⟩,hr27⟩:=bA hr27;have j29d:j29≤2:=by omega
  obtain⟨x30,hx30,hr27⟩:=bs hr27;have ghx30:=YL hx30;have mhx30:(Zg .u32 ([a0.2.2.2.1,a0.2.2.2.2.1,a0.2.2.2.2.2]))[j29]? = some [.v (.int .u32 x30)]:=by rw[ZsF,hx30]; rfl
  simp only[Zlc,ZlQ] at mhx30;have mghx30:=YL mhx30;refine goR ?_;obtain⟨_,ehy31,hr27⟩:=bN hr27 K59.q2;refine goR ?_;exact bk hr27
 ·replace hr27:=ifN hr27
  refine goR ?_;obtain⟨r32,q32,rfl⟩:=ms hr27;refine goR ?_;rintro rfl
  refine goR ?_;unfold ZdU at q32;refine goR ?_;exact fin q32
theorem w20:Walk tt G [(37,K37.G),(38,K38.G)] (fun _=>[]) Tryz.f20 K20:=by
 refine .ak [] false Tryz.ntmps20 fun T hO hT a0 x=>?_
 simp only[Zh] at hT; simp only[kS,nfs,Zai];exact au
theorem w131:Walk tt G [] (fun _=>[]) Tryz.f131 K131:=by
 refine .ak [] false Tryz.ntmps131 fun T hO hT ⟨a0,a1⟩ x=>?_
 simp only[Zh] at hT; simp only[kS,nfs,XP];exact au
section
attribute [local simp] mzD mzT
theorem w154:Walk tt G [(131,K131.G),(181,G181)] (fun _=>[]) Tryz.f154 K154:=by
 refine .ak [(3,⟨[2,3,4,5,6,15],[2,3,4,5,6],[]⟩),(7,⟨[2,3,4,5,6,7,8,15,18],[2,3,4,5,6],[]⟩)] false Tryz.ntmps154 fun T hO hT ⟨a0,a1⟩ x=>?_
 simp only[Zh] at hT; simp only[kS,nfs,Zgi,Zg3,Zfa];refine au ?_
 intros; refine lpP 3 (fun⟨p48,p49⟩=>([(15,.one (.v (.int .i64 p48)))],[(6,⟨0,8,[arC .u64 p49],false,false⟩)])) ?_; rintro⟨p48,p49⟩ x; simp only[Zja,Zg3,Zfa]
 refine au ?_
 intros; refine lpP 7 (fun⟨p88,p89,p90⟩=>([(8,.one (.v (.int .u64 p88))),(18,.one (.v (.int .i64 p89)))],[(6,⟨0,8,[arC .u64 p90],false,false⟩)])) ?_; rintro⟨p88,p89,p90⟩ x; simp only[Zi9,Zg3,Zfa]
 exact au
end
theorem v199:Zo2 Tryz.prog G 199 G199:=by
 refine Zoq (k:=.u64) (p:=fun x y b=>(x+18446744073709551616-y-b) % 18446744073709551616) (q:=fun x y b=>if x<y+b then 1 else 0) (ok:=fun x y b=>b≤1) (fun ps r hF=>?_) (fun x y b w hx=>Zxd x y b hx w);obtain⟨⟨x,y,b⟩,rfl,h⟩:=ZeE hF;obtain⟨z,hz,rfl⟩:=Option.map_eq_some_iff.1 h;unfold Zav at hz;obtain⟨_,u1,hz⟩:=bs hz;obtain rfl:=Option.some.inj hz;obtain⟨⟨h1,h2⟩,⟨h3,h4⟩,h5⟩:=ZK u1;obtain⟨x,rfl⟩:=Int.eq_ofNat_of_zero_le h1;obtain⟨y,rfl⟩:=Int.eq_ofNat_of_zero_le h2;obtain⟨b,rfl⟩:=Int.eq_ofNat_of_zero_le h4;have h3':(y:Int)≤18446744073709551615:=h3;have h5':(b:Int)≤1:=h5;refine⟨x,y,b,by omega,rfl,?_⟩;have e1:((x:Int)+18446744073709551616-y-b) % 18446744073709551616=(((x+18446744073709551616-y-b) % 18446744073709551616:Nat):Int):=by omega
 have e2:(if (x:Int)<(y:Int)+(b:Int) then(1:Int) else 0)=((if x<y+b then 1 else 0:Nat):Int):=by split <;> split <;> first | rfl | omega
 simp only[ZkD,e1,e2]
theorem w183:Walk tt G [(199,G199)] (fun _=>[]) Tryz.f183 K183:=by
 refine .ak [(4,⟨[2,3,4,6,7,9],[2,3,4,6],[]⟩)] false Tryz.ntmps183 fun T hO hT ⟨a0,a1⟩ x=>?_
 simp only[Zh] at hT; simp only[kS,nfs,Zge,Zi3];refine au ?_
 intros; refine lpP 4 (fun⟨p7,p8,p9⟩=>([(7,.one (.v (.int .u64 p7))),(9,.one (.v (.int .i64 p8)))],[(6,⟨0,4,[arC .u64 p9],false,false⟩)])) ?_; rintro⟨p7,p8,p9⟩ x; simp only[Zi4,Zi3]
 exact au
theorem w156:Walk tt G [(122,K122.G),(124,K124.G),(182,K182.G),(183,K183.G)] (fun _=>[]) Tryz.f156 K156:=by
 refine .ak [(5,⟨[4,5,6,7,9],[4,5,6,7],[]⟩)] false Tryz.ntmps156 fun T hO hT ⟨a0,a1,a2⟩ x=>?_
 simp only[Zh] at hT; simp only[kS,nfs,Zgj,Zjb,Zfb,Zdz];refine Zh3 ?_
 intros; refine lpP 5 (fun⟨p27,p28,p29⟩=>([(9,.one (.v (.int .i64 p27)))],[(6,⟨0,4,[arC .u64 p28],false,false⟩),(7,⟨0,4,[arC .u64 p29],false,false⟩)])) ?_; rintro⟨p27,p28,p29⟩ x; simp only[Zjc,Zjb,Zfb,Zdz]
 exact Zh3
theorem w157:Walk tt G [(87,K87.G),(122,K122.G),(125,K125.G),(158,K158.G),(159,K159.G)] (fun _=>[]) Tryz.f157 K157:=by
 refine .ak [(5,⟨[1,3],[1],[]⟩)] false Tryz.ntmps157 fun T hO hT a0 x=>?_
 simp only[Zh] at hT; simp only[kS,nfs,ZcO,Za4];refine au ?_
 intros; refine lpP 5 (fun p15=>([(3,.one (.v (.int .i64 p15)))],[])) ?_; rintro p15 x; simp only[Zgv,Za4]
 exact au
theorem w120:Walk tt G [(89,K89.G),(121,K121.G),(122,K122.G),(125,K125.G),(154,K154.G),(155,K155.G),(156,K156.G),(157,K157.G)] (fun _=>[]) Tryz.f120 K120:=by
 refine .ak [] false Tryz.ntmps120 fun T hO hT ⟨a0,a1,a2,a3⟩ x=>?_
 simp only[Zh] at hT; simp only[kS,nfs,ZdA,Zdd,Zde,Zdf];exact Zh3
theorem w83:Walk tt G [(89,K89.G),(120,K120.G)] (fun _=>[]) Tryz.f83 K83:=by
 refine .ak [] false Tryz.ntmps83 fun T hO hT ⟨a0,a1⟩ x=>?_
 simp only[Zh] at hT; simp only[kS,nfs,Zdg];exact au
theorem w123:Walk tt G [] (fun _=>[]) Tryz.f123 K123:=by
 refine .ak [(3,⟨[1,2,3,6],[1,2,3],[]⟩)] false Tryz.ntmps123 fun T hO hT a0 x=>?_
 simp only[Zh] at hT; simp only[kS,nfs,Zaw,ZfB];refine Zh3 ?_
 intros; refine lpP 3 (fun⟨p8,p9⟩=>([(6,.one (.v (.int .i64 p8)))],[(3,⟨0,4,[arC .u64 p9],false,false⟩)])) ?_; rintro⟨p8,p9⟩ x; simp only[ZfC,ZfB]
 exact Zh3
theorem w84:Walk tt G [(121,K121.G),(122,K122.G),(123,K123.G)] (fun _=>[]) Tryz.f84 K84:=by
 refine .ak [] false Tryz.ntmps84 fun T hO hT ⟨a0,a1⟩ x=>?_
 simp only[Zh] at hT; simp only[kS,nfs,Zc7];exact au
end Go.Proofs.YtcfpmbefhfbdjaaGreatDoor
