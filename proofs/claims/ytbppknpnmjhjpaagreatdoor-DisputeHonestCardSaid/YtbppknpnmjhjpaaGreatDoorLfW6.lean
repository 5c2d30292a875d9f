import Derived.Test.YtbppknpnmjhjpaaGreatDoorLfK
import Derived.Test.YtbppknpnmjhjpaaGreatDoorCode
import Derived.Test.YtbppknpnmjhjpaaGreatDoorBl
namespace Go.Proofs.YtbppknpnmjhjpaaGreatDoor
open Go.RowKit
open Go.Av
open Go.Lc
set_option maxRecDepth 100000
set_option linter.unusedSimpArgs false
set_option linter.unusedVariables false
set_option maxHeartbeats 4000000
theorem w92:Walk tt G [(110,K110.G)] (fun _=>[]) Tryz.f92 K92:=by
 refine .ak [(5,⟨[5,6],[],[]⟩)] false Tryz.ntmps92 fun T hO hT ⟨a0,a1⟩ x=>?_
 simp only[Zh] at hT; simp only[kS,nfs,Zb1,ZhD];refine ZiC ?_
 intros; refine lpP 5 (fun⟨p5,p6⟩=>([(5,.one (.v (.int .i64 p5))),(6,.one (.v (.int .i64 p6)))],[])) ?_; rintro⟨p5,p6⟩ x; simp only[Lref23_Subsidy_s1,ZhD]
 exact ZiC
theorem w26:Walk tt G [(58,K58.G),(59,K59.G)] (fun _=>[]) Tryz.f26 K26:=by
 refine .sk [(4,⟨[3,22,23,24],[22,900003],[(3,none,900003,0),(3,none,900003,1)]⟩)] true Tryz.ntmps26 fun T hO hT a0 x hr=>?_
 simp only[Zh] at hT; simp only[kS,nfs] at hr ⊢;unfold XB at hr;refine goR ?_;obtain⟨_,ehy18,hr⟩:=bN hr K58.q2;refine goR ?_;obtain⟨_,ehy19,hr⟩:=bN hr K59.q2;obtain⟨_,ehy20,hr⟩:=bN hr K59.q2;refine goR ?_;refine lp 4 (fun(⟨p10,p11⟩:Int×(List Int))=>⟨(und 3++([.one (.ms 900003 0 0 (p11.length) 1)]++(und 18++([.one (.ms 22 0 0 (3) 1),.one (.v (.int .i64 (3:Int))),.one (.v (.int .i64 p10))]++(und 8)))):List PV),([(22,⟨0,1,Zg .u32 [a0.2.2.2.1,a0.2.2.2.2.1,a0.2.2.2.2.2],false,true⟩),(900003,⟨0,1,Zg .u8 p11,false,true⟩)]:Boxes)⟩) hr ?_;rintro⟨p10,p11⟩ x27r hr27
 simp only[Yp] at hr27;refine nst ?_;refine goR ?_;by_cases c28:p10<(3:Int)
 ·replace hr27:=ifP hr27
  refine goR ?_;obtain⟨j29,⟨_,_,_⟩,hr27⟩:=bA hr27;have j29d:j29≤2:=by omega
  obtain⟨x30,hx30,hr27⟩:=bs hr27;have ghx30:=Yb hx30;have mhx30:(Zg .u32 ([a0.2.2.2.1,a0.2.2.2.2.1,a0.2.2.2.2.2]))[j29]? = some [.v (.int .u32 x30)]:=by rw[ZuB,hx30]; rfl
  simp only[ZmJ,Znm] at mhx30;have mghx30:=Yb mhx30;refine goR ?_;obtain⟨_,ehy31,hr27⟩:=bN hr27 K58.q2;refine goR ?_;exact bk hr27
 ·replace hr27:=ifN hr27
  refine goR ?_;obtain⟨r32,q32,rfl⟩:=ms hr27;refine goR ?_;rintro rfl
  refine goR ?_;unfold ZeP at q32;refine goR ?_;exact fin q32
theorem w9:Walk tt G [(25,K25.G),(26,K26.G)] (fun _=>[]) Tryz.f9 K9:=by
 refine .ak [] false Tryz.ntmps9 fun T hO hT a0 x=>?_
 simp only[Zh] at hT; simp only[kS,nfs,ZaB];exact au
theorem w173:Walk tt G [] (fun _=>[]) Tryz.f173 K173:=by
 refine .ak [] false Tryz.ntmps173 fun T hO hT ⟨a0,a1⟩ x=>?_
 simp only[Zh] at hT; simp only[kS,nfs,XZ];exact au
section
attribute [local simp] mzD mzT
theorem w193:Walk tt G [(173,K173.G),(221,G221)] (fun _=>[]) Tryz.f193 K193:=by
 refine .ak [(3,⟨[2,3,4,5,6,15],[2,3,4,5,6],[]⟩),(7,⟨[2,3,4,5,6,7,8,15,18],[2,3,4,5,6],[]⟩)] false Tryz.ntmps193 fun T hO hT ⟨a0,a1⟩ x=>?_
 simp only[Zh] at hT; simp only[kS,nfs,Zhs,Zii,Zf9];refine au ?_
 intros; refine lpP 3 (fun⟨p48,p49⟩=>([(15,.one (.v (.int .i64 p48)))],[(6,⟨0,8,[arC .u64 p49],false,false⟩)])) ?_; rintro⟨p48,p49⟩ x; simp only[Zkn,Zii,Zf9]
 refine au ?_
 intros; refine lpP 7 (fun⟨p88,p89,p90⟩=>([(8,.one (.v (.int .u64 p88))),(18,.one (.v (.int .i64 p89)))],[(6,⟨0,8,[arC .u64 p90],false,false⟩)])) ?_; rintro⟨p88,p89,p90⟩ x; simp only[Zkm,Zii,Zf9]
 exact au
end
theorem v238:ZqI Tryz.prog G 238 G238:=by
 refine Zp4 (k:=.u64) (p:=fun x y b=>(x+18446744073709551616-y-b) % 18446744073709551616) (q:=fun x y b=>if x<y+b then 1 else 0) (ok:=fun x y b=>b≤1) (fun ps r hF=>?_) (fun x y b w hx=>Zzr x y b hx w);obtain⟨⟨x,y,b⟩,rfl,h⟩:=ZcR hF;obtain⟨z,hz,rfl⟩:=Option.map_eq_some_iff.1 h;unfold ZaR at hz;obtain⟨_,u1,hz⟩:=bs hz;obtain rfl:=Option.some.inj hz;obtain⟨⟨h1,h2⟩,⟨h3,h4⟩,h5⟩:=ZO u1;obtain⟨x,rfl⟩:=Int.eq_ofNat_of_zero_le h1;obtain⟨y,rfl⟩:=Int.eq_ofNat_of_zero_le h2;obtain⟨b,rfl⟩:=Int.eq_ofNat_of_zero_le h4;have h3':(y:Int)≤18446744073709551615:=h3;have h5':(b:Int)≤1:=h5;refine⟨x,y,b,by omega,rfl,?_⟩;have e1:((x:Int)+18446744073709551616-y-b) % 18446744073709551616=(((x+18446744073709551616-y-b) % 18446744073709551616:Nat):Int):=by omega
 have e2:(if (x:Int)<(y:Int)+(b:Int) then(1:Int) else 0)=((if x<y+b then 1 else 0:Nat):Int):=by split <;> split <;> first | rfl | omega
 simp only[Zl0,e1,e2]
theorem w223:Walk tt G [(238,G238)] (fun _=>[]) Tryz.f223 K223:=by
 refine .ak [(4,⟨[2,3,4,6,7,9],[2,3,4,6],[]⟩)] false Tryz.ntmps223 fun T hO hT ⟨a0,a1⟩ x=>?_
 simp only[Zh] at hT; simp only[kS,nfs,Zhp,Zkg];refine au ?_
 intros; refine lpP 4 (fun⟨p7,p8,p9⟩=>([(7,.one (.v (.int .u64 p7))),(9,.one (.v (.int .i64 p8)))],[(6,⟨0,4,[arC .u64 p9],false,false⟩)])) ?_; rintro⟨p7,p8,p9⟩ x; simp only[Zkh,Zkg]
 exact au
theorem w195:Walk tt G [(160,K160.G),(162,K162.G),(222,K222.G),(223,K223.G)] (fun _=>[]) Tryz.f195 K195:=by
 refine .ak [(5,⟨[4,5,6,7,9],[4,5,6,7],[]⟩)] false Tryz.ntmps195 fun T hO hT ⟨a0,a1,a2⟩ x=>?_
 simp only[Zh] at hT; simp only[kS,nfs,Zht,Zko,Zga,Zeo];refine ZiC ?_
 intros; refine lpP 5 (fun⟨p27,p28,p29⟩=>([(9,.one (.v (.int .i64 p27)))],[(6,⟨0,4,[arC .u64 p28],false,false⟩),(7,⟨0,4,[arC .u64 p29],false,false⟩)])) ?_; rintro⟨p27,p28,p29⟩ x; simp only[Zkp,Zko,Zga,Zeo]
 exact ZiC
theorem w196:Walk tt G [(108,K108.G),(160,K160.G),(163,K163.G),(197,K197.G),(198,K198.G)] (fun _=>[]) Tryz.f196 K196:=by
 refine .ak [(5,⟨[1,3],[1],[]⟩)] false Tryz.ntmps196 fun T hO hT a0 x=>?_
 simp only[Zh] at hT; simp only[kS,nfs,Zdz,Zbx];refine au ?_
 intros; refine lpP 5 (fun p15=>([(3,.one (.v (.int .i64 p15)))],[])) ?_; rintro p15 x; simp only[ZhJ,Zbx]
 exact au
theorem w158:Walk tt G [(110,K110.G),(159,K159.G),(160,K160.G),(163,K163.G),(193,K193.G),(194,K194.G),(195,K195.G),(196,K196.G)] (fun _=>[]) Tryz.f158 K158:=by
 refine .ak [] false Tryz.ntmps158 fun T hO hT ⟨a0,a1,a2,a3⟩ x=>?_
 simp only[Zh] at hT; simp only[kS,nfs,Zep,Zd1,Zd2,Zd3];exact ZiC
theorem w104:Walk tt G [(110,K110.G),(158,K158.G)] (fun _=>[]) Tryz.f104 K104:=by
 refine .ak [] false Tryz.ntmps104 fun T hO hT ⟨a0,a1⟩ x=>?_
 simp only[Zh] at hT; simp only[kS,nfs,Zd4];exact au
theorem w161:Walk tt G [] (fun _=>[]) Tryz.f161 K161:=by
 refine .ak [(3,⟨[1,2,3,6],[1,2,3],[]⟩)] false Tryz.ntmps161 fun T hO hT a0 x=>?_
 simp only[Zh] at hT; simp only[kS,nfs,ZaS,ZgC];refine ZiC ?_
 intros; refine lpP 3 (fun⟨p8,p9⟩=>([(6,.one (.v (.int .i64 p8)))],[(3,⟨0,4,[arC .u64 p9],false,false⟩)])) ?_; rintro⟨p8,p9⟩ x; simp only[ZgD,ZgC]
 exact ZiC
theorem w105:Walk tt G [(159,K159.G),(160,K160.G),(161,K161.G)] (fun _=>[]) Tryz.f105 K105:=by
 refine .ak [] false Tryz.ntmps105 fun T hO hT ⟨a0,a1⟩ x=>?_
 simp only[Zh] at hT; simp only[kS,nfs,ZdV];exact au
end Go.Proofs.YtbppknpnmjhjpaaGreatDoor
