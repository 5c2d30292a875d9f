import Derived.Test.YtbppknpnmjhjpaaGreatDoorLfK
import Derived.Test.YtbppknpnmjhjpaaGreatDoorCode
import Derived.Test.YtbppknpnmjhjpaaGreatDoorBl
namespace Go.Proofs.YtbppknpnmjhjpaaGreatDoor
open Go.RowKit
open Go.Av
open Go.Lc
set_option maxRecDepth 100000
set_option linter.unusedSimpArgs false
set_option linter.unusedVariables false
set_option maxHeartbeats 4000000
theorem w178:Walk tt G [(179,K179.G)] (fun _=>[]) Tryz.f178 K178:=by
 refine .ak [(3,⟨[1,2,3,9],[1,2,3],[]⟩),(6,⟨[1,2,3,4,9,12],[1,2,3],[]⟩),(12,⟨[2,3,6],[2,3],[]⟩)] false Tryz.ntmps178 fun T hO hT a0 x=>?_
 simp only[Zh] at hT; simp only[kS,nfs,Zeh,ZdP,ZaO,ZbX];refine au ?_
 intros; refine lpP 3 (fun⟨p20,p21⟩=>([(9,.one (.v (.int .i64 p20)))],[(3,⟨0,64,[arC .u32 p21],false,false⟩)])) ?_; rintro⟨p20,p21⟩ x; simp only[ZdQ,ZdP,ZaO,ZbX]
 refine au ?_ ?_
 ·intros; refine lpP 6 (fun⟨p77,p78⟩=>([(12,.one (.v (.int .i64 p77)))],[(3,⟨0,64,[arC .u32 p78],false,false⟩)])) ?_; rintro⟨p77,p78⟩ x; simp only[ZaP,ZdP,ZaO,ZbX]
  exact au
 ·intros; refine lpP 12 (fun⟨p51,p52⟩=>([(6,.one (.v (.int .i64 p51)))],[(3,⟨0,64,[arC .u32 p52],false,false⟩)])) ?_; rintro⟨p51,p52⟩ x; simp only[Lsha_schedule_s2,ZdP,ZaO,ZbX]
  exact au
theorem w131:Walk tt G [(178,K178.G),(179,K179.G)] (fun _=>[]) Tryz.f131 K131:=by
 refine .ak [(5,⟨[2,4,5,6,7,8,9,10,11,12,13,35],[2,4,5],[]⟩)] false Tryz.ntmps131 fun T hO hT ⟨a0,a1⟩ x=>?_
 simp only[Zh] at hT; simp only[kS,nfs,Zei,Zim];refine au ?_
 intros; refine lpP 5 (fun⟨p24,p25,p26,p27,p28,p29,p30,p31,p32⟩=>([(6,.one (.v (.int .u32 p24))),(7,.one (.v (.int .u32 p25))),(8,.one (.v (.int .u32 p26))),(9,.one (.v (.int .u32 p27))),(10,.one (.v (.int .u32 p28))),(11,.one (.v (.int .u32 p29))),(12,.one (.v (.int .u32 p30))),(13,.one (.v (.int .u32 p31))),(35,.one (.v (.int .i64 p32)))],[])) ?_; rintro⟨p24,p25,p26,p27,p28,p29,p30,p31,p32⟩ x; simp only[ZdR,Zim]
 exact au
theorem w69:Walk tt G [(129,K129.G),(130,K130.G),(131,K131.G)] (fun _=>[]) Tryz.f69 K69:=by
 refine .ak [(4,⟨[2,3,4,18,19],[2,4,14],[]⟩),(10,⟨[2,4,6,31],[2,4,6],[]⟩)] false Tryz.ntmps69 fun T hO hT a0 x=>?_
 simp only[Zh] at hT; simp only[kS,nfs,ZgX,ZjY,Zgk];refine ZrX ?_
 intros; refine lpP 4 (fun⟨p11,p12⟩=>([(19,.one (.v (.int .i64 p11)))],[(4,⟨0,8,[arC .u32 p12],false,false⟩)])) ?_; rintro⟨p11,p12⟩ x; simp only[Zh0,ZjY,Zgk]
 refine ZrX ?_
 intros; refine lpP 10 (fun⟨p23,p24⟩=>([(31,.one (.v (.int .i64 p23)))],[(6,⟨0,32,[arC .u8 p24],false,false⟩)])) ?_; rintro⟨p23,p24⟩ x; simp only[ZhZ,ZjY,Zgk]
 exact ZrX
theorem w32:Walk tt G [(69,K69.G)] (fun _=>[]) Tryz.f32 K32:=by
 refine .ak [] false Tryz.ntmps32 fun T hO hT a0 x=>?_
 simp only[Zh] at hT; simp only[kS,nfs,Zb9];exact au
theorem w29:Walk tt G [(32,K32.G),(61,K61.G)] (fun _=>[]) Tryz.f29 K29:=by
 refine .ak [] false Tryz.ntmps29 fun T hO hT a0 x=>?_
 simp only[Zh] at hT; simp only[kS,nfs,ZeO];exact au
theorem w200:Walk tt G [] (fun _=>[]) Tryz.f200 K200:=by
 refine .ak [] false Tryz.ntmps200 fun T hO hT a0 x=>?_
 simp only[Zh] at hT; simp only[kS,nfs,Zad];exact au
theorem w168:Walk tt G [(200,K200.G)] (fun _=>[]) Tryz.f168 K168:=by
 refine .ak [] false Tryz.ntmps168 fun T hO hT ⟨a0,a1⟩ x=>?_
 simp only[Zh] at hT; simp only[kS,nfs,Y6];exact au
theorem w123:Walk tt G [(168,K168.G)] (fun _=>[]) Tryz.f123 K123:=by
 refine .ak [(2,⟨[0,3],[],[]⟩)] false Tryz.ntmps123 fun T hO hT a0 x=>?_
 simp only[Zh] at hT; simp only[kS,nfs,Yc,Lslices_IsSorted_of__uint64_uint64_k1];refine au ?_
 intros; refine lpP 2 (fun p8=>([(3,.one (.v (.int .i64 p8)))],[])) ?_; rintro p8 x; simp only[ZT,Lslices_IsSorted_of__uint64_uint64_k1]
 exact au
theorem w169:Walk tt G [] (fun _=>[]) Tryz.f169 K169:=by
 refine .ak [] false Tryz.ntmps169 fun T hO hT a0 x=>?_
 simp only[Zh] at hT; simp only[kS,nfs,Zgl];exact ZiC
theorem w170:Walk tt G [] (fun _=>[]) Tryz.f170 K170:=by
 refine .ak [] true Tryz.ntmps170 fun T hO hT a0 x=>?_
 simp only[Zh] at hT; simp only[kS,nfs,Zgm];exact au
theorem w171_2:Walk tt G [] (fun _=>[]) Tryz.f171 K171_2:=by
 refine .sk [(1000002,⟨[0,1],[1000000,67000000],[]⟩),(1000004,⟨[0],[1000000,67000000],[]⟩)] false Tryz.ntmps171 (hi:=by intro x; simp[E171_2]) (fun T hO hT ⟨a0,a1⟩ x hr=>?_);simp only[Zh] at hT; simp only[kS,E171_2,nfs] at hr ⊢;unfold XY at hr;refine go ?_;refine ZoD hr (fun(s:(List Int))=>match s with | p2=>(⟨([.ptr 1000000 0 0 0 2,.one (.v (.bool a1))]++(und 52):List PV),([(1000000,⟨0,2,[[.ms 67000000 0 0 (p2.length) 1,.v (.int .i64 a0.2)]],false,false⟩),(67000000,⟨0,1,Zg .u8 p2,false,true⟩)]:Boxes)⟩:ASt)) (fun(s:(List Int))=>match s with | p2=>Y7 a1 a0 p2) ?_ ?_
 ·rintro p2 hk13
  change Y7 a1 a0 p2=_ at hk13
  refine nst ?_;unfold Y7 at hk13;refine go ?_;refine Zoi rfl (kq:=⟨[0,1],[1000000,67000000],[]⟩) rfl (by simp[ZbL, *]; rfl) (by simp[*]; rfl) ?_;refine ZoD hk13 (fun(s:(List Int))=>match s with | p6=>(⟨([.ptr 1000000 0 0 0 2]++(und 53):List PV),([(1000000,⟨0,2,[[.ms 67000000 0 0 (p6.length) 1,.v (.int .i64 a0.2)]],false,false⟩),(67000000,⟨0,1,Zg .u8 p6,false,true⟩)]:Boxes)⟩:ASt)) (fun(s:(List Int))=>match s with | p6=>Xx a0 p6) ?_ ?_
  ·rintro p6 hk18
   change Xx a0 p6=_ at hk18
   refine nst ?_;unfold Xx at hk18;refine Zl5 rfl (kq:=⟨[0],[1000000,67000000],[]⟩) rfl (by simp[ZbL, *]; rfl) (by simp[*]; rfl) ?_;exact fin hk18
  ·intro J18
   by_cases c19:a1=true
   ·replace hk13:=ifP hk13
    refine go ?_;obtain⟨j20,⟨_,_,_⟩,hk13⟩:=bA hk13;obtain⟨x21,hx21,hk13⟩:=bs hk13;have ghx21:=Yb hx21;obtain⟨_,hk13⟩:=bC hk13;refine go ?_;exact jn 1000004 (J18 ((p2).set j20 (bits .or .u8 x21 ((128:Int).fdiv (2 ^ (min ((a0.2).tmod 8).toNat 8))))) hk13)
   ·replace hk13:=ifN hk13
    refine go ?_;exact jn 1000004 (J18 p2 hk13)
 ·intro J13
  rcases eqT ((a0.2).tmod 8=0) with c23 | c23
  ·replace hr:=ifP hr
   refine go ?_;obtain⟨_,hr⟩:=bC hr;have n1_u24_0:a0.1.length+1≤140737488355328:=by omega
   have n2_u24_0:a0.1.length+1≤9223372036854775807:=by omega
   refine go ?_;exact jn 1000002 (J13 (a0.1++[0]) hr)
  ·replace hr:=ifN hr
   refine go ?_;exact jn 1000002 (J13 a0.1 hr)
theorem w172_3:Walk tt G [(171,K171_2.G)] (fun d=>if d=20 then[[1]] else[]) Tryz.f172 K172_3:=by
 refine .ak [(1,⟨[0,1,2,7,8],[1000000,67000000],[]⟩)] false Tryz.ntmps172 (hi:=by intro x; simp[E172_3]) (fun T hO hT ⟨a0,a1,a2⟩ x=>?_);simp only[Zh] at hT; simp only[kS,E172_3,nfs,Zaw];refine au ?_
 intros; refine lpP 1 (fun⟨p8,p9,p10⟩=>([(8,.one (.v (.int .i64 p8)))],[(1000000,⟨0,2,[[.ms 67000000 0 0 (p10.length) 1,.v (.int .i64 p9)]],false,false⟩),(67000000,⟨0,1,Zg .u8 p10,false,true⟩)])) ?_; rintro⟨p8,p9,p10⟩ x; simp only[ZaA]
 exact au
theorem w124:Walk tt G [(169,K169.G),(170,K170.G),(171,K171_2.G),(172,K172_3.G)] (fun d=>if d=44 then[[1]] else if d=47 then[[1]] else if d=51 then[[1]] else[]) Tryz.f124 K124:=by
 refine .ak [(10,⟨[1,2,6,9,40,41],[6,39,3002496],[]⟩)] false Tryz.ntmps124 fun T hO hT ⟨a0,a1,a2⟩ x=>?_
 simp only[Zh] at hT; simp only[kS,nfs,ZaQ,Zea];refine au ?_
 intros; refine lpP 10 (fun⟨p9,p10,p11⟩=>([(41,.one (.v (.int .u64 p9)))],[(39,⟨0,2,[[.ms 3002496 0 0 (p11.length) 1,.v (.int .i64 p10)]],false,false⟩),(3002496,⟨0,1,Zg .u8 p11,false,true⟩)])) ?_; rintro⟨p9,p10,p11⟩ x; simp only[ZbM,Zea]
 exact au
theorem w64:Walk tt G [(123,K123.G),(124,K124.G)] (fun _=>[]) Tryz.f64 K64:=by
 refine .ak [(10,⟨[0,1,4,6,7,27,28,29],[4,6],[(6,some 0,0,0)]⟩)] false Tryz.ntmps64 fun T hO hT ⟨a0,a1⟩ x=>?_
 simp only[Zh] at hT; simp only[kS,nfs,ZbY,ZeY];refine au ?_
 intros; refine lpP 10 (fun⟨p10,p11,p12,p13⟩=>([(7,.one (.v (.int .u64 p10))),(29,.one (.v (.int .i64 p11)))],[(6,⟨0,2,[[.slice .no (Zg .u8 p12),.v (.int .i64 p13)]],false,false⟩)])) ?_; rintro⟨p10,p11,p12,p13⟩ x; simp only[ZeZ,ZeY]
 exact au
theorem w125:Walk tt G [(173,K173.G)] (fun _=>[]) Tryz.f125 K125:=by
 refine .ak [] false Tryz.ntmps125 fun T hO hT ⟨a0,a1⟩ x=>?_
 simp only[Zh] at hT; simp only[kS,nfs,ZiV];exact au
theorem w201:Walk tt G [] (fun _=>[]) Tryz.f201 K201:=by
 refine .ak [] false Tryz.ntmps201 fun T hO hT ⟨a0,a1⟩ x=>?_
 simp only[Zh] at hT; simp only[kS,nfs,ZY];exact au
theorem w175:Walk tt G [(201,K201.G)] (fun _=>[]) Tryz.f175 K175:=by
 refine .ak [(2,⟨[2,4,5,6],[2,4],[]⟩)] false Tryz.ntmps175 fun T hO hT ⟨a0,a1⟩ x=>?_
 simp only[Zh] at hT; simp only[kS,nfs,Zgn,Zhn];refine au ?_
 intros; refine lpP 2 (fun⟨p19,p20⟩=>([(6,.one (.v (.int .i64 p19)))],[(2,⟨0,4,[arC .u64 p20],false,false⟩)])) ?_; rintro⟨p19,p20⟩ x; simp only[Zfa,Zhn]
 exact au
theorem w174:Walk tt G [(175,K175.G)] (fun _=>[]) Tryz.f174 K174:=by
 refine .ak [] false Tryz.ntmps174 fun T hO hT ⟨a0,a1⟩ x=>?_
 simp only[Zh] at hT; simp only[kS,nfs,ZeN];exact au
theorem w126:Walk tt G [(63,K63.G),(174,K174.G),(175,K175.G)] (fun _=>[]) Tryz.f126 K126:=by
 refine .ak [(4,⟨[1,5,6,24,25],[5],[]⟩)] false Tryz.ntmps126 fun T hO hT ⟨a0,a1⟩ x=>?_
 simp only[Zh] at hT; simp only[kS,nfs,Zjs,ZjZ];refine ZiC ?_
 intros; refine lpP 4 (fun⟨p9,p10⟩=>([(25,.one (.v (.int .i64 p9)))],[(5,⟨0,4,[arC .u64 p10],false,false⟩)])) ?_; rintro⟨p9,p10⟩ x; simp only[Zh1,ZjZ]
 exact ZiC
theorem v49:ZR Tryz.prog G 49 G49:=by
 refine Zrm (k:=.u64) (k' := .i64) (g:=fun x=>(Lib.bitLen x.toNat:Int)) (ok:=fun x=>0≤x∧x≤18446744073709551615) Tryz.func49 (by kernel_rfl) (by kernel_rfl) G49 (fun ps r hF=>?_) (fun x w hx=>bl49 x w hx.1 hx.2);obtain⟨x,rfl,h⟩:=ZcR hF;obtain⟨y,hy,rfl⟩:=Option.map_eq_some_iff.1 h;unfold Yz at hy;obtain⟨_,u1,hy⟩:=bs hy;obtain rfl:=Option.some.inj hy;exact⟨x,ZO u1,rfl,rfl⟩
theorem v210:ZR Tryz.prog G 210 G210:=by
 refine Zrm (k:=.u32) (k' := .i64) (g:=fun x=>(Lib.bitLen x.toNat:Int)) (ok:=fun x=>0≤x∧x≤4294967295) Tryz.func210 (by kernel_rfl) (by kernel_rfl) G210 (fun ps r hF=>?_) (fun x w hx=>Zzs x w hx.1 hx.2);obtain⟨x,rfl,h⟩:=ZcR hF;obtain⟨y,hy,rfl⟩:=Option.map_eq_some_iff.1 h;unfold Zlg at hy;obtain⟨_,u1,hy⟩:=bs hy;obtain rfl:=Option.some.inj hy;exact⟨x,ZO u1,rfl,rfl⟩
theorem w177:Walk tt G [(49,G49)] (fun _=>[]) Tryz.f177 K177:=by
 refine .ak [] false Tryz.ntmps177 fun T hO hT a0 x=>?_
 simp only[Zh] at hT; simp only[kS,nfs,Zds];exact au
end Go.Proofs.YtbppknpnmjhjpaaGreatDoor
