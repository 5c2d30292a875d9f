import Derived.Test.YthpkpciceodioaaGreatDoorLfK
import Derived.Test.YthpkpciceodioaaGreatDoorCode
import Derived.Test.YthpkpciceodioaaGreatDoorBl
namespace Go.Proofs.YthpkpciceodioaaGreatDoor
open Go.RowKit
open Go.Av
open Go.Lc
set_option maxRecDepth 100000
set_option linter.unusedSimpArgs false
set_option linter.unusedVariables false
set_option maxHeartbeats 4000000
theorem w197:Walk tt G [(198,K198.G)] (fun _=>[]) Tryz.f197 K197:=by
 refine .ak [(3,⟨[1,2,3,9],[1,2,3],[]⟩),(6,⟨[1,2,3,4,9,12],[1,2,3],[]⟩),(12,⟨[2,3,6],[2,3],[]⟩)] false Tryz.ntmps197 fun T hO hT a0 x=>?_
 simp only[Zh] at hT; simp only[kS,nfs,Zdy,Zc6,Zar,Zbk];refine au ?_
 intros; refine lpP 3 (fun⟨p20,p21⟩=>([(9,.one (.v (.int .i64 p20)))],[(3,⟨0,64,[arC .u32 p21],false,false⟩)])) ?_; rintro⟨p20,p21⟩ x; simp only[Zc7,Zc6,Zar,Zbk]
 refine au ?_ ?_
 ·intros; refine lpP 6 (fun⟨p77,p78⟩=>([(12,.one (.v (.int .i64 p77)))],[(3,⟨0,64,[arC .u32 p78],false,false⟩)])) ?_; rintro⟨p77,p78⟩ x; simp only[Zas,Zc6,Zar,Zbk]
  exact au
 ·intros; refine lpP 12 (fun⟨p51,p52⟩=>([(6,.one (.v (.int .i64 p51)))],[(3,⟨0,64,[arC .u32 p52],false,false⟩)])) ?_; rintro⟨p51,p52⟩ x; simp only[Lsha_schedule_s2,Zc6,Zar,Zbk]
  exact au
theorem w155:Walk tt G [(197,K197.G),(198,K198.G)] (fun _=>[]) Tryz.f155 K155:=by
 refine .ak [(5,⟨[2,4,5,6,7,8,9,10,11,12,13,35],[2,4,5],[]⟩)] false Tryz.ntmps155 fun T hO hT ⟨a0,a1⟩ x=>?_
 simp only[Zh] at hT; simp only[kS,nfs,Zdz,ZhG];refine au ?_
 intros; refine lpP 5 (fun⟨p24,p25,p26,p27,p28,p29,p30,p31,p32⟩=>([(6,.one (.v (.int .u32 p24))),(7,.one (.v (.int .u32 p25))),(8,.one (.v (.int .u32 p26))),(9,.one (.v (.int .u32 p27))),(10,.one (.v (.int .u32 p28))),(11,.one (.v (.int .u32 p29))),(12,.one (.v (.int .u32 p30))),(13,.one (.v (.int .u32 p31))),(35,.one (.v (.int .i64 p32)))],[])) ?_; rintro⟨p24,p25,p26,p27,p28,p29,p30,p31,p32⟩ x; simp only[Zc8,ZhG]
 exact au
theorem w105:Walk tt G [(153,K153.G),(154,K154.G),(155,K155.G)] (fun _=>[]) Tryz.f105 K105:=by
 refine .ak [(4,⟨[2,3,4,18,19],[2,4,14],[]⟩),(10,⟨[2,4,6,31],[2,4,6],[]⟩)] false Tryz.ntmps105 fun T hO hT a0 x=>?_
 simp only[Zh] at hT; simp only[kS,nfs,ZhH,Zjk,ZfJ];refine Zrb ?_
 intros; refine lpP 4 (fun⟨p11,p12⟩=>([(19,.one (.v (.int .i64 p11)))],[(4,⟨0,8,[arC .u32 p12],false,false⟩)])) ?_; rintro⟨p11,p12⟩ x; simp only[Zhd,Zjk,ZfJ]
 refine Zrb ?_
 intros; refine lpP 10 (fun⟨p23,p24⟩=>([(31,.one (.v (.int .i64 p23)))],[(6,⟨0,32,[arC .u8 p24],false,false⟩)])) ?_; rintro⟨p23,p24⟩ x; simp only[Zhc,Zjk,ZfJ]
 exact Zrb
theorem w65:Walk tt G [(105,K105.G)] (fun _=>[]) Tryz.f65 K65:=by
 refine .ak [] false Tryz.ntmps65 fun T hO hT a0 x=>?_
 simp only[Zh] at hT; simp only[kS,nfs,ZfK];exact au
theorem w37:Walk tt G [(65,K65.G),(67,K67.G)] (fun _=>[]) Tryz.f37 K37:=by
 refine .ak [] false Tryz.ntmps37 fun T hO hT a0 x=>?_
 simp only[Zh] at hT; simp only[kS,nfs,Zcz];exact au
theorem w199:Walk tt G [] (fun _=>[]) Tryz.f199 K199:=by
 refine .ak [] false Tryz.ntmps199 fun T hO hT a0 x=>?_
 simp only[Zh] at hT; simp only[kS,nfs,XV];exact au
theorem w156:Walk tt G [(199,K199.G)] (fun _=>[]) Tryz.f156 K156:=by
 refine .ak [] false Tryz.ntmps156 fun T hO hT ⟨a0,a1⟩ x=>?_
 simp only[Zh] at hT; simp only[kS,nfs,Y1];exact au
theorem w109:Walk tt G [(156,K156.G)] (fun _=>[]) Tryz.f109 K109:=by
 refine .ak [(2,⟨[0,3],[],[]⟩)] false Tryz.ntmps109 fun T hO hT a0 x=>?_
 simp only[Zh] at hT; simp only[kS,nfs,Z9,Lslices_IsSorted_of__uint64_uint64_k1];refine au ?_
 intros; refine lpP 2 (fun p8=>([(3,.one (.v (.int .i64 p8)))],[])) ?_; rintro p8 x; simp only[ZQ,Lslices_IsSorted_of__uint64_uint64_k1]
 exact au
theorem w157:Walk tt G [] (fun _=>[]) Tryz.f157 K157:=by
 refine .ak [] false Tryz.ntmps157 fun T hO hT a0 x=>?_
 simp only[Zh] at hT; simp only[kS,nfs,Zcy];exact ZhX
theorem w158:Walk tt G [] (fun _=>[]) Tryz.f158 K158:=by
 refine .ak [] true Tryz.ntmps158 fun T hO hT a0 x=>?_
 simp only[Zh] at hT; simp only[kS,nfs,ZfL];exact au
theorem w159_1:Walk tt G [] (fun _=>[]) Tryz.f159 K159_1:=by
 refine .sk [(1000002,⟨[0,1],[1000000,67000000],[]⟩),(1000004,⟨[0],[1000000,67000000],[]⟩)] false Tryz.ntmps159 (hi:=by intro x; simp[E159_1]) (fun T hO hT ⟨a0,a1⟩ x hr=>?_);simp only[Zh] at hT; simp only[kS,E159_1,nfs] at hr ⊢;unfold XI at hr;refine go ?_;refine ZnN hr (fun(s:(List Int))=>match s with | p2=>(⟨([.ptr 1000000 0 0 0 2,.one (.v (.bool a1))]++(und 52):List PV),([(1000000,⟨0,2,[[.ms 67000000 0 0 (p2.length) 1,.v (.int .i64 a0.2)]],false,false⟩),(67000000,⟨0,1,Zf .u8 p2,false,true⟩)]:Boxes)⟩:ASt)) (fun(s:(List Int))=>match s with | p2=>Y2 a1 a0 p2) ?_ ?_
 ·rintro p2 hk13
  change Y2 a1 a0 p2=_ at hk13
  refine nst ?_;unfold Y2 at hk13;refine go ?_;refine Zns rfl (kq:=⟨[0,1],[1000000,67000000],[]⟩) rfl (by simp[Za8, *]; rfl) (by simp[*]; rfl) ?_;refine ZnN hk13 (fun(s:(List Int))=>match s with | p6=>(⟨([.ptr 1000000 0 0 0 2]++(und 53):List PV),([(1000000,⟨0,2,[[.ms 67000000 0 0 (p6.length) 1,.v (.int .i64 a0.2)]],false,false⟩),(67000000,⟨0,1,Zf .u8 p6,false,true⟩)]:Boxes)⟩:ASt)) (fun(s:(List Int))=>match s with | p6=>Xm a0 p6) ?_ ?_
  ·rintro p6 hk18
   change Xm a0 p6=_ at hk18
   refine nst ?_;unfold Xm at hk18;refine Zlq rfl (kq:=⟨[0],[1000000,67000000],[]⟩) rfl (by simp[Za8, *]; rfl) (by simp[*]; rfl) ?_;exact fin hk18
  ·intro J18
   by_cases c19:a1=true
   ·replace hk13:=ifP hk13
    refine go ?_;obtain⟨j20,⟨_,_,_⟩,hk13⟩:=bA hk13;obtain⟨x21,hx21,hk13⟩:=bs hk13;have ghx21:=YC hx21;obtain⟨_,hk13⟩:=bC hk13;refine go ?_;exact jn 1000004 (J18 ((p2).set j20 (bits .or .u8 x21 ((128:Int).fdiv (2 ^ (min ((a0.2).tmod 8).toNat 8))))) hk13)
   ·replace hk13:=ifN hk13
    refine go ?_;exact jn 1000004 (J18 p2 hk13)
 ·intro J13
  rcases eqT ((a0.2).tmod 8=0) with c23 | c23
  ·replace hr:=ifP hr
   refine go ?_;obtain⟨_,hr⟩:=bC hr;have n1_u24_0:a0.1.length+1≤140737488355328:=by omega
   have n2_u24_0:a0.1.length+1≤9223372036854775807:=by omega
   refine go ?_;exact jn 1000002 (J13 (a0.1++[0]) hr)
  ·replace hr:=ifN hr
   refine go ?_;exact jn 1000002 (J13 a0.1 hr)
theorem w160_2:Walk tt G [(159,K159_1.G)] (fun d=>if d=20 then[[1]] else[]) Tryz.f160 K160_2:=by
 refine .ak [(1,⟨[0,1,2,7,8],[1000000,67000000],[]⟩)] false Tryz.ntmps160 (hi:=by intro x; simp[E160_2]) (fun T hO hT ⟨a0,a1,a2⟩ x=>?_);simp only[Zh] at hT; simp only[kS,E160_2,nfs,X7];refine au ?_
 intros; refine lpP 1 (fun⟨p8,p9,p10⟩=>([(8,.one (.v (.int .i64 p8)))],[(1000000,⟨0,2,[[.ms 67000000 0 0 (p10.length) 1,.v (.int .i64 p9)]],false,false⟩),(67000000,⟨0,1,Zf .u8 p10,false,true⟩)])) ?_; rintro⟨p8,p9,p10⟩ x; simp only[Zad]
 exact au
theorem w110:Walk tt G [(157,K157.G),(158,K158.G),(159,K159_1.G),(160,K160_2.G)] (fun d=>if d=44 then[[1]] else if d=47 then[[1]] else if d=51 then[[1]] else[]) Tryz.f110 K110:=by
 refine .ak [(10,⟨[1,2,6,9,40,41],[6,39,3002496],[]⟩)] false Tryz.ntmps110 fun T hO hT ⟨a0,a1,a2⟩ x=>?_
 simp only[Zh] at hT; simp only[kS,nfs,Zat,Zdt];refine au ?_
 intros; refine lpP 10 (fun⟨p9,p10,p11⟩=>([(41,.one (.v (.int .u64 p9)))],[(39,⟨0,2,[[.ms 3002496 0 0 (p11.length) 1,.v (.int .i64 p10)]],false,false⟩),(3002496,⟨0,1,Zf .u8 p11,false,true⟩)])) ?_; rintro⟨p9,p10,p11⟩ x; simp only[Za9,Zdt]
 exact au
theorem w70:Walk tt G [(109,K109.G),(110,K110.G)] (fun _=>[]) Tryz.f70 K70:=by
 refine .ak [(10,⟨[0,1,4,6,7,27,28,29],[4,6],[(6,some 0,0,0)]⟩)] false Tryz.ntmps70 fun T hO hT ⟨a0,a1⟩ x=>?_
 simp only[Zh] at hT; simp only[kS,nfs,Zbl,Zei];refine au ?_
 intros; refine lpP 10 (fun⟨p10,p11,p12,p13⟩=>([(7,.one (.v (.int .u64 p10))),(29,.one (.v (.int .i64 p11)))],[(6,⟨0,2,[[.slice .no (Zf .u8 p12),.v (.int .i64 p13)]],false,false⟩)])) ?_; rintro⟨p10,p11,p12,p13⟩ x; simp only[Zej,Zei]
 exact au
theorem w161:Walk tt G [] (fun _=>[]) Tryz.f161 K161:=by
 refine .ak [] false Tryz.ntmps161 fun T hO hT ⟨a0,a1⟩ x=>?_
 simp only[Zh] at hT; simp only[kS,nfs,XJ];exact au
theorem w111:Walk tt G [(161,K161.G)] (fun _=>[]) Tryz.f111 K111:=by
 refine .ak [] false Tryz.ntmps111 fun T hO hT ⟨a0,a1⟩ x=>?_
 simp only[Zh] at hT; simp only[kS,nfs,Zic];exact au
theorem w200:Walk tt G [] (fun _=>[]) Tryz.f200 K200:=by
 refine .ak [] false Tryz.ntmps200 fun T hO hT ⟨a0,a1⟩ x=>?_
 simp only[Zh] at hT; simp only[kS,nfs,ZY];exact au
theorem w163:Walk tt G [(200,K200.G)] (fun _=>[]) Tryz.f163 K163:=by
 refine .ak [(2,⟨[2,4,5,6],[2,4],[]⟩)] false Tryz.ntmps163 fun T hO hT ⟨a0,a1⟩ x=>?_
 simp only[Zh] at hT; simp only[kS,nfs,ZfM,ZgE];refine au ?_
 intros; refine lpP 2 (fun⟨p19,p20⟩=>([(6,.one (.v (.int .i64 p19)))],[(2,⟨0,4,[arC .u64 p20],false,false⟩)])) ?_; rintro⟨p19,p20⟩ x; simp only[Zev,ZgE]
 exact au
theorem w162:Walk tt G [(163,K163.G)] (fun _=>[]) Tryz.f162 K162:=by
 refine .ak [] false Tryz.ntmps162 fun T hO hT ⟨a0,a1⟩ x=>?_
 simp only[Zh] at hT; simp only[kS,nfs,Zd4];exact au
theorem w112:Walk tt G [(69,K69.G),(162,K162.G),(163,K163.G)] (fun _=>[]) Tryz.f112 K112:=by
 refine .ak [(4,⟨[1,5,6,24,25],[5],[]⟩)] false Tryz.ntmps112 fun T hO hT ⟨a0,a1⟩ x=>?_
 simp only[Zh] at hT; simp only[kS,nfs,ZiQ,Zjl];refine ZhX ?_
 intros; refine lpP 4 (fun⟨p9,p10⟩=>([(25,.one (.v (.int .i64 p9)))],[(5,⟨0,4,[arC .u64 p10],false,false⟩)])) ?_; rintro⟨p9,p10⟩ x; simp only[Zhe,Zjl]
 exact ZhX
theorem v209:ZB Tryz.prog G 209 G209:=by
 refine ZqC (k:=.u32) (k' := .i64) (g:=fun x=>(Lib.bitLen x.toNat:Int)) (ok:=fun x=>0≤x∧x≤4294967295) Tryz.func209 (by kernel_rfl) (by kernel_rfl) G209 (fun ps r hF=>?_) (fun x w hx=>ZyH x w hx.1 hx.2);obtain⟨x,rfl,h⟩:=ZdY hF;obtain⟨y,hy,rfl⟩:=Option.map_eq_some_iff.1 h;unfold ZkF at hy;obtain⟨_,u1,hy⟩:=bs hy;obtain rfl:=Option.some.inj hy;exact⟨x,ZW u1,rfl,rfl⟩
theorem v210:ZB Tryz.prog G 210 G210:=by
 refine ZqC (k:=.u64) (k' := .i64) (g:=fun x=>(Lib.bitLen x.toNat:Int)) (ok:=fun x=>0≤x∧x≤18446744073709551615) Tryz.func210 (by kernel_rfl) (by kernel_rfl) G210 (fun ps r hF=>?_) (fun x w hx=>ZyI x w hx.1 hx.2);obtain⟨x,rfl,h⟩:=ZdY hF;obtain⟨y,hy,rfl⟩:=Option.map_eq_some_iff.1 h;unfold Xc at hy;obtain⟨_,u1,hy⟩:=bs hy;obtain rfl:=Option.some.inj hy;exact⟨x,ZW u1,rfl,rfl⟩
theorem w165:Walk tt G [(210,G210)] (fun _=>[]) Tryz.f165 K165:=by
 refine .ak [] false Tryz.ntmps165 fun T hO hT a0 x=>?_
 simp only[Zh] at hT; simp only[kS,nfs,ZcJ];exact au
end Go.Proofs.YthpkpciceodioaaGreatDoor
