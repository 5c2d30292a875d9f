import Derived.Test.YtcfpmbefhfbdjaaGreatDoorLfK
import Derived.Test.YtcfpmbefhfbdjaaGreatDoorCode
import Derived.Test.YtcfpmbefhfbdjaaGreatDoorBl
namespace Go.Proofs.YtcfpmbefhfbdjaaGreatDoor
open Go.RowKit
open Go.Av
open Go.Lc
set_option maxRecDepth 100000
set_option linter.unusedSimpArgs false
set_option linter.unusedVariables false
set_option maxHeartbeats 4000000
theorem w129_2:Walk tt G [] (fun _=>[]) Tryz.f129 K129_2:=by
 refine .sk [(1000002,⟨[0,1],[1000000,67000000],[]⟩),(1000004,⟨[0],[1000000,67000000],[]⟩)] false Tryz.ntmps129 (hi:=by intro x; simp[E129_2]) (fun T hO hT ⟨a0,a1⟩ x hr=>?_);simp only[Zh] at hT; simp only[kS,E129_2,nfs] at hr ⊢;unfold XO at hr;refine go ?_;refine Zm0 hr (fun(s:(List Int))=>match s with | p2=>(⟨([.ptr 1000000 0 0 0 2,.one (.v (.bool a1))]++(und 52):List PV),([(1000000,⟨0,2,[[.ms 67000000 0 0 (p2.length) 1,.v (.int .i64 a0.2)]],false,false⟩),(67000000,⟨0,1,Zg .u8 p2,false,true⟩)]:Boxes)⟩:ASt)) (fun(s:(List Int))=>match s with | p2=>Y6 a1 a0 p2) ?_ ?_
 ·rintro p2 hk13
  change Y6 a1 a0 p2=_ at hk13
  refine nst ?_;unfold Y6 at hk13;refine go ?_;refine ZmF rfl (kq:=⟨[0,1],[1000000,67000000],[]⟩) rfl (by simp[Zbd, *]; rfl) (by simp[*]; rfl) ?_;refine Zm0 hk13 (fun(s:(List Int))=>match s with | p6=>(⟨([.ptr 1000000 0 0 0 2]++(und 53):List PV),([(1000000,⟨0,2,[[.ms 67000000 0 0 (p6.length) 1,.v (.int .i64 a0.2)]],false,false⟩),(67000000,⟨0,1,Zg .u8 p6,false,true⟩)]:Boxes)⟩:ASt)) (fun(s:(List Int))=>match s with | p6=>Xv a0 p6) ?_ ?_
  ·rintro p6 hk18
   change Xv a0 p6=_ at hk18
   refine nst ?_;unfold Xv at hk18;refine ZkI rfl (kq:=⟨[0],[1000000,67000000],[]⟩) rfl (by simp[Zbd, *]; rfl) (by simp[*]; rfl) ?_;exact fin hk18
  ·intro J18
   by_cases c19:a1=true
   ·replace hk13:=ifP hk13
    refine go ?_;obtain⟨j20,⟨_,_,_⟩,hk13⟩:=bA hk13;obtain⟨x21,hx21,hk13⟩:=bs hk13;have ghx21:=YL hx21;obtain⟨_,hk13⟩:=bC hk13;refine go ?_;exact jn 1000004 (J18 ((p2).set j20 (bits .or .u8 x21 ((128:Int).fdiv (2 ^ (min ((a0.2).tmod 8).toNat 8))))) hk13)
   ·replace hk13:=ifN hk13
    refine go ?_;exact jn 1000004 (J18 p2 hk13)
 ·intro J13
  rcases eqT ((a0.2).tmod 8=0) with c23 | c23
  ·replace hr:=ifP hr
   refine go ?_;obtain⟨_,hr⟩:=bC hr;have n1_u24_0:a0.1.length+1≤140737488355328:=by omega
   have n2_u24_0:a0.1.length+1≤9223372036854775807:=by omega
   refine go ?_;exact jn 1000002 (J13 (a0.1++[0]) hr)
  ·replace hr:=ifN hr
   refine go ?_;exact jn 1000002 (J13 a0.1 hr)
theorem w130_3:Walk tt G [(129,K129_2.G)] (fun d=>if d=20 then[[1]] else[]) Tryz.f130 K130_3:=by
 refine .ak [(1,⟨[0,1,2,7,8],[1000000,67000000],[]⟩)] false Tryz.ntmps130 (hi:=by intro x; simp[E130_3]) (fun T hO hT ⟨a0,a1,a2⟩ x=>?_);simp only[Zh] at hT; simp only[kS,E130_3,nfs,X9];refine au ?_
 intros; refine lpP 1 (fun⟨p8,p9,p10⟩=>([(8,.one (.v (.int .i64 p8)))],[(1000000,⟨0,2,[[.ms 67000000 0 0 (p10.length) 1,.v (.int .i64 p9)]],false,false⟩),(67000000,⟨0,1,Zg .u8 p10,false,true⟩)])) ?_; rintro⟨p8,p9,p10⟩ x; simp only[Zah]
 exact au
theorem w94:Walk tt G [(127,K127.G),(128,K128.G),(129,K129_2.G),(130,K130_3.G)] (fun d=>if d=44 then[[1]] else if d=47 then[[1]] else if d=51 then[[1]] else[]) Tryz.f94 K94:=by
 refine .ak [(10,⟨[1,2,6,9,40,41],[6,39,3002496],[]⟩)] false Tryz.ntmps94 fun T hO hT ⟨a0,a1,a2⟩ x=>?_
 simp only[Zh] at hT; simp only[kS,nfs,Zau,Zdl];refine au ?_
 intros; refine lpP 10 (fun⟨p9,p10,p11⟩=>([(41,.one (.v (.int .u64 p9)))],[(39,⟨0,2,[[.ms 3002496 0 0 (p11.length) 1,.v (.int .i64 p10)]],false,false⟩),(3002496,⟨0,1,Zg .u8 p11,false,true⟩)])) ?_; rintro⟨p9,p10,p11⟩ x; simp only[Zbe,Zdl]
 exact au
theorem w53:Walk tt G [(93,K93.G),(94,K94.G)] (fun _=>[]) Tryz.f53 K53:=by
 refine .ak [(10,⟨[0,1,4,6,7,27,28,29],[4,6],[(6,some 0,0,0)]⟩)] false Tryz.ntmps53 fun T hO hT ⟨a0,a1⟩ x=>?_
 simp only[Zh] at hT; simp only[kS,nfs,Zbo,Zd6];refine au ?_
 intros; refine lpP 10 (fun⟨p10,p11,p12,p13⟩=>([(7,.one (.v (.int .u64 p10))),(29,.one (.v (.int .i64 p11)))],[(6,⟨0,2,[[.slice .no (Zg .u8 p12),.v (.int .i64 p13)]],false,false⟩)])) ?_; rintro⟨p10,p11,p12,p13⟩ x; simp only[Zd7,Zd6]
 exact au
theorem w95:Walk tt G [(131,K131.G)] (fun _=>[]) Tryz.f95 K95:=by
 refine .ak [] false Tryz.ntmps95 fun T hO hT ⟨a0,a1⟩ x=>?_
 simp only[Zh] at hT; simp only[kS,nfs,ZhG];exact au
theorem w161:Walk tt G [] (fun _=>[]) Tryz.f161 K161:=by
 refine .ak [] false Tryz.ntmps161 fun T hO hT ⟨a0,a1⟩ x=>?_
 simp only[Zh] at hT; simp only[kS,nfs,ZT];exact au
theorem w133:Walk tt G [(161,K161.G)] (fun _=>[]) Tryz.f133 K133:=by
 refine .ak [(2,⟨[2,4,5,6],[2,4],[]⟩)] false Tryz.ntmps133 fun T hO hT ⟨a0,a1⟩ x=>?_
 simp only[Zh] at hT; simp only[kS,nfs,Zfo,Zgc];refine au ?_
 intros; refine lpP 2 (fun⟨p19,p20⟩=>([(6,.one (.v (.int .i64 p19)))],[(2,⟨0,4,[arC .u64 p20],false,false⟩)])) ?_; rintro⟨p19,p20⟩ x; simp only[Zee,Zgc]
 exact au
theorem w132:Walk tt G [(133,K133.G)] (fun _=>[]) Tryz.f132 K132:=by
 refine .ak [] false Tryz.ntmps132 fun T hO hT ⟨a0,a1⟩ x=>?_
 simp only[Zh] at hT; simp only[kS,nfs,ZdT];exact au
theorem w96:Walk tt G [(52,K52.G),(132,K132.G),(133,K133.G)] (fun _=>[]) Tryz.f96 K96:=by
 refine .ak [(4,⟨[1,5,6,24,25],[5],[]⟩)] false Tryz.ntmps96 fun T hO hT ⟨a0,a1⟩ x=>?_
 simp only[Zh] at hT; simp only[kS,nfs,Zif,ZiM];refine Zh3 ?_
 intros; refine lpP 4 (fun⟨p9,p10⟩=>([(25,.one (.v (.int .i64 p9)))],[(5,⟨0,4,[arC .u64 p10],false,false⟩)])) ?_; rintro⟨p9,p10⟩ x; simp only[ZgL,ZiM]
 exact Zh3
theorem v170:Yb Tryz.prog G 170 G170:=by
 refine ZpF (k:=.u32) (k' := .i64) (g:=fun x=>(Lib.bitLen x.toNat:Int)) (ok:=fun x=>0≤x∧x≤4294967295) Tryz.func170 (by kernel_rfl) (by kernel_rfl) G170 (fun ps r hF=>?_) (fun x w hx=>Zxe x w hx.1 hx.2);obtain⟨x,rfl,h⟩:=ZeE hF;obtain⟨y,hy,rfl⟩:=Option.map_eq_some_iff.1 h;unfold Zj1 at hy;obtain⟨_,u1,hy⟩:=bs hy;obtain rfl:=Option.some.inj hy;exact⟨x,ZK u1,rfl,rfl⟩
theorem v171:Yb Tryz.prog G 171 G171:=by
 refine ZpF (k:=.u64) (k' := .i64) (g:=fun x=>(Lib.bitLen x.toNat:Int)) (ok:=fun x=>0≤x∧x≤18446744073709551615) Tryz.func171 (by kernel_rfl) (by kernel_rfl) G171 (fun ps r hF=>?_) (fun x w hx=>Zxf x w hx.1 hx.2);obtain⟨x,rfl,h⟩:=ZeE hF;obtain⟨y,hy,rfl⟩:=Option.map_eq_some_iff.1 h;unfold Zbp at hy;obtain⟨_,u1,hy⟩:=bs hy;obtain rfl:=Option.some.inj hy;exact⟨x,ZK u1,rfl,rfl⟩
theorem w135:Walk tt G [(171,G171)] (fun _=>[]) Tryz.f135 K135:=by
 refine .ak [] false Tryz.ntmps135 fun T hO hT a0 x=>?_
 simp only[Zh] at hT; simp only[kS,nfs,ZcG];exact au
end Go.Proofs.YtcfpmbefhfbdjaaGreatDoor
