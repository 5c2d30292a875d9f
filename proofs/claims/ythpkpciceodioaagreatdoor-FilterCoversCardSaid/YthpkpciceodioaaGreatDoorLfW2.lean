import Derived.Test.YthpkpciceodioaaGreatDoorLfK
import Derived.Test.YthpkpciceodioaaGreatDoorCode
import Derived.Test.YthpkpciceodioaaGreatDoorBl
namespace Go.Proofs.YthpkpciceodioaaGreatDoor
open Go.RowKit
open Go.Av
open Go.Lc
set_option maxRecDepth 100000
set_option linter.unusedSimpArgs false
set_option linter.unusedVariables false
set_option maxHeartbeats 4000000
def kp201_3:Keep:=fun i=>if i=1 then⟨[0,1,2,6],[1000000],[]⟩ else if i=1000002 then⟨[0,1,2,6],[1000000],[]⟩ else if i=4 then⟨[0,1,2,6,7],[1000000],[]⟩ else⟨[],[],[]⟩
theorem Zyg {T:Tab}(hO:T.own=fun _=>[]) (hT156:T 156=some K156.G) (a0:(List Int)) (a1:Int) (a2:Int) (x:(List Int)) (hr:Zv a0 a1 a2=some x):∃ kp fl n,ZP tt T G kp fl n Tryz.f201 (ZcD (a0,a1,a2))=some (ZeX (a0,a1,a2) x):=by
 simp only[ZcD,ZeX];refine fnE (kp:=kp201_3) (w:=false) body201 (by simp) ?_;unfold c201;rw[Tryz.ntmps201];unfold Zv at hr;refine Zi rfl (by simp[-Zt,Zp]; rfl) ?_;refine ZhK ?_;refine Zbr (kq:=⟨[0,1,2,6],[1000000],[]⟩) (H:=fun(s:Int×(List Int))=>match s with | (p77,p78)=>(⟨([.one (.ms 1000000 0 0 (p78.length) 1),.one (.v (.int .i64 a1)),.one (.v (.int .i64 a2))]++(und 3++([.one (.v (.int .i64 p77))]++(und 42))):List PV),([(1000000,⟨0,1,Zf .u64 p78,false,true⟩)]:Boxes)⟩:ASt)) (by kernel_rfl) hr (by simp[-Zt,Zp,und,List.replicate,]) ?_;rintro⟨p77,p78⟩ x127r hr127
 simp only[Z6] at hr127;unfold b201_1;simp only[und,List.replicate,List.cons_append,List.nil_append];refine Yk ?_;refine Zi rfl (by simp[-Zt,Zp]; rfl) ?_;by_cases c128:p77<a2
 ·skip
  rw[if_pos] at hr127;rotate_left
  ·simp[-Zt,Zp,c128]
  refine Z9 (by simp[-Zt,Zp,bV,c128]) ?_;refine Z7 ?_;refine ZR ?_;refine Zi rfl (by simp[-Zt,Zp,c128]; rfl) ?_;refine ZhK ?_;refine Zs1 hr127 (.exit 1) (fun(s:(List Int))=>match s with | p104=>(⟨([.one (.ms 1000000 0 0 (p104.length) 1),.one (.v (.int .i64 a1)),.one (.v (.int .i64 a2))]++(und 3++([.one (.v (.int .i64 p77))]++(und 42))):List PV),([(1000000,⟨0,1,Zf .u64 p104,false,true⟩)]:Boxes)⟩:ASt)) (fun(s:(List Int))=>match s with | p104=>ZS p77 p104) ?_ ?_
  ·skip
   rintro p104 hk146
   change ZS p77 p104=_ at hk146
   simp only[pq,reduceCtorEq];simp only[und,List.replicate,List.cons_append,List.nil_append];unfold ZS at hk146;refine ZlB rfl (kq:=⟨[0,1,2,6],[1000000],[]⟩) rfl (by simp[-Zt,Zp,Zbl,c128]; rfl) (by simp[-Zt,Zp,c128]; rfl) ?_;obtain rfl:=Option.some.inj hk146;simp only[pq,reduceCtorEq];simp[-Zt,Zp,und,List.replicate,Nat.add_assoc,c128]
  ·skip
   intro J146;simp only[pq,reduceCtorEq] at J146;refine Zbr (kq:=⟨[0,1,2,6,7],[1000000],[]⟩) (H:=fun(s:Int×(List Int))=>match s with | (p103,p104)=>(⟨([.one (.ms 1000000 0 0 (p104.length) 1),.one (.v (.int .i64 a1)),.one (.v (.int .i64 a2))]++(und 3++([.one (.v (.int .i64 p77)),.one (.v (.int .i64 p103))]++(und 41))):List PV),([(1000000,⟨0,1,Zf .u64 p104,false,true⟩)]:Boxes)⟩:ASt)) (by kernel_rfl) hr127 (by simp[-Zt,Zp,und,List.replicate,c128]) ?_;rintro⟨p103,p104⟩ x147r hr147
   simp only[ZH] at hr147;unfold b201_2;simp only[und,List.replicate,List.cons_append,List.nil_append];refine Yk ?_;by_cases c148:a1<p103
   ·skip
    rw[if_pos] at hr147;rotate_left
    ·simp[-Zt,Zp,c128,c148]
    obtain⟨z149,hz149,hr147⟩:=bs hr147;obtain⟨j150,hj150,hz149⟩:=bs hz149;obtain⟨j150a,j150b,j150c⟩:=YU hj150;obtain⟨x151,hx151,hz149⟩:=bs hz149;have ghx151:=Xk hx151;obtain⟨j152,hj152,hz149⟩:=bs hz149;obtain⟨j152a,j152b,j152c⟩:=YU hj152;obtain⟨x153,hx153,hz149⟩:=bs hz149;have ghx153:=Xk hx153;obtain⟨y154,hy154,hz149⟩:=bs hz149;have ehy154:=K156.q2 hy154;simp only[K156,kS,nf,nfs] at ehy154;try simp only[Zp] at ehy154
    obtain rfl:=Option.some.inj hz149;refine Xq rfl (by simp[-Zt,Zp,j150a,j150b,j150c,hx151,ghx151,j152a,j152b,j152c,hx153,ghx153,hO,hT156,ehy154,c128,c148]; first | exact⟨rfl,rfl⟩ | rfl) (by kernel_rfl) ?_;by_cases c155:y154=true
    ·skip
     rw[if_pos] at hr147;rotate_left
     ·simp[-Zt,Zp,c128,c148,c155]
     refine Z9 (by simp[-Zt,Zp,bV,c128,c148,c155]) ?_;refine Z7 ?_;refine ZR ?_;obtain⟨j156,hj156,hr147⟩:=bs hr147;obtain⟨j156a,j156b,j156c⟩:=YU hj156;obtain rfl:j152=j156:=j152b.symm.trans j156b;obtain⟨x157,hx157,hr147⟩:=bs hr147;have ghx157:=Xk hx157;obtain⟨j158,hj158,hr147⟩:=bs hr147;obtain⟨j158a,j158b,j158c⟩:=YU hj158;obtain rfl:j150=j158:=j150b.symm.trans j158b;obtain⟨x159,hx159,hr147⟩:=bs hr147;have ghx159:=Xk hx159;obtain⟨j150a,j150b,j150c⟩:=YU hj158;obtain⟨j160,hj160,hr147⟩:=bs hr147;obtain⟨j160a,j160b,j160c⟩:=YU hj160;try simp only[List.length_set] at j160c
     obtain rfl:j152=j160:=j152b.symm.trans j160b;refine ZoW rfl (by simp[-Zt,Zp,j156a,j156b,j156c,j152a,j152b,j152c,hx157,ghx157,j158a,j158b,j158c,j150a,j150b,j150c,hx159,ghx159,j160a,j160b,j160c,c128,c148,c155]; first | exact⟨rfl,rfl⟩ | rfl) (by kernel_rfl) ?_;simp only[pq,reduceCtorEq];refine Zb0 rfl (by simp[-Zt,Zp,c128,c148,c155]; rfl) ?_;obtain rfl:=Option.some.inj hr147;simp only[pq,reduceCtorEq];simp[-Zt,Zp,und,List.replicate,Nat.add_assoc,c128,c148,c155]
    ·skip
     rw[if_neg] at hr147;rotate_left
     ·simp[-Zt,Zp,c128,c148,c155]
     refine ZX (by simp[-Zt,Zp,bV,c128,c148,c155]) ?_;refine YZ ?_;obtain⟨r161,q161,rfl⟩:=ms hr147;simp only[pq,reduceCtorEq];rintro rfl
     try simp only[pq,reduceCtorEq]
     exact Zh5 (key:=1000002) (kq:=⟨[0,1,2,6],[1000000],[]⟩) rfl rfl rfl (by simp[-Zt,Zp,und,List.replicate,c128,c148,c155]) (J146 p104 q161)
   ·skip
    rw[if_neg] at hr147;rotate_left
    ·simp[-Zt,Zp,c128,c148]
    obtain⟨z162,hz162,hr147⟩:=bs hr147;obtain rfl:=Option.some.inj hz162;refine Xq rfl (by simp[-Zt,Zp,c128,c148]; first | exact⟨rfl,rfl⟩ | rfl) (by kernel_rfl) ?_;rw[if_neg] at hr147;rotate_left
    ·simp[-Zt,Zp,c128,c148]
    refine ZX (by simp[-Zt,Zp,bV,c128,c148]) ?_;refine YZ ?_;obtain⟨r163,q163,rfl⟩:=ms hr147;simp only[pq,reduceCtorEq];rintro rfl
    try simp only[pq,reduceCtorEq]
    exact Zh5 (key:=1000002) (kq:=⟨[0,1,2,6],[1000000],[]⟩) rfl rfl rfl (by simp[-Zt,Zp,und,List.replicate,c128,c148]) (J146 p104 q163)
 ·skip
  rw[if_neg] at hr127;rotate_left
  ·simp[-Zt,Zp,c128]
  refine ZX (by simp[-Zt,Zp,bV,c128]) ?_;refine YZ ?_;obtain⟨_,u164,hr127⟩:=bs hr127;have u164_0:=ZV u164;obtain rfl:=Option.some.inj hr127;simp only[pq,reduceCtorEq];rintro rfl
  simp[-Zt,Zp,ZaR,u164_0,c128]
def kp164_4:Keep:=fun i=>if i=2 then⟨[0,1,2,3,8,9],[1000000],[]⟩ else⟨[],[],[]⟩
theorem Zyh {T:Tab}(n:Nat) (hO:T.own=fun d=>if d=27 then[[1000001]] else if d=121 then[[1000001]] else if d=132 then[[1000001]] else[]) (hT164:T 164=some (Zpl n)) (hT156:T 156=some K156.G) (hT201:T 201=some G201_3) (a0:(List Int)) (a1:Int) (a2:Int) (a3:Int) (x:(List Int)) (hr:Yv (Lslices_pdqsortOrdered_of_uint64w_n n) a0 a1 a2 a3=some x):∃ kp fl n,ZP tt T G kp fl n Tryz.f164 (ZcE (a0,a1,a2,a3))=some (ZeY (a0,a1,a2,a3) x):=by
 simp only[ZcE,ZeY];refine fnE (kp:=kp164_4) (w:=false) body164 (by simp) ?_;unfold c164;rw[Tryz.ntmps164];unfold Yv at hr;refine Zi rfl (by simp[-Zt,Zp]; rfl) ?_;refine Zi rfl (by simp[-Zt,Zp]; rfl) ?_;refine ZhK ?_;refine Zbr (kq:=⟨[0,1,2,3,8,9],[1000000],[]⟩) (H:=fun(s:Int×Int×Int×Bool×Bool×(List Int))=>match s with | (p56,p57,p58,p59,p60,p61)=>(⟨([.one (.ms 1000000 0 0 (p61.length) 1),.one (.v (.int .i64 p56)),.one (.v (.int .i64 p57)),.one (.v (.int .i64 p58))]++(und 4++([.one (.v (.bool p59)),.one (.v (.bool p60))]++(und 124))):List PV),([(1000000,⟨0,1,Zf .u64 p61,false,true⟩)]:Boxes)⟩:ASt)) (by kernel_rfl) hr (by simp[-Zt,Zp,und,List.replicate,]) ?_;rintro⟨p56,p57,p58,p59,p60,p61⟩ x77r hr77
 simp only[XP] at hr77;unfold b164_1;simp only[und,List.replicate,List.cons_append,List.nil_append];refine ZhK ?_;refine Zi rfl (by simp[-Zt,Zp]; rfl) ?_;refine Yk ?_;refine Zi rfl (by simp[-Zt,Zp]; rfl) ?_;by_cases c78:IntKind.i64.wrap (p57-p56)≤12
 ·skip
  rw[if_pos] at hr77;rotate_left
  ·simp[-Zt,Zp,c78]
  refine Z9 (by simp[-Zt,Zp,bV,c78]) ?_;refine Yk ?_;obtain⟨y79,hy79,hr77⟩:=bs hr77;have ehy79:=Zp2 hy79;simp only[ZcD,ZeX,kS,nf,nfs] at ehy79;try simp only[Zp] at ehy79
  obtain⟨_,u80,hr77⟩:=bs hr77;have u80_0:=ZV u80;have ck81:=ZF (k:=.u64) u80_0;refine Zi rfl (by simp[-Zt,Zp,hO,hT201,ehy79,ck81,u80_0,c78]; rfl) ?_;refine Zki ?_;obtain⟨_,u82,hr77⟩:=bs hr77;have u82_0:=ZV u82;try simp only[u80_0] at u82_0
  obtain rfl:=Option.some.inj hr77;simp only[pq,reduceCtorEq];rintro rfl
  simp[-Zt,Zp,ZaR,hO,hT201,ehy79,ck81,u80_0,u82_0,c78]
 ·skip
  rw[if_neg] at hr77;rotate_left
  ·simp[-Zt,Zp,c78]
  refine ZX (by simp[-Zt,Zp,bV,c78]) ?_;refine Z7 ?_;refine Yk ?_;refine Zi rfl (by simp[-Zt,Zp,c78]; rfl) ?_;by_cases c83:p58=0
  ·skip
   rw[if_pos] at hr77;rotate_left
   ·simp[-Zt,Zp,c78,eq_true c83]
   refine Z9 (by simp[-Zt,Zp,bV,c78,eq_true c83]) ?_;refine Yk ?_;simp at hr77
  ·skip
   rw[if_neg] at hr77;rotate_left
   ·simp[-Zt,Zp,c78,c83]
   refine ZX (by simp[-Zt,Zp,bV,c78,c83]) ?_;refine Z7 ?_;refine Yk ?_;refine Zi rfl (by simp[-Zt,Zp,c78,c83]; rfl) ?_;by_cases c85:p59=true
   ·skip
    rw[if_neg] at hr77;rotate_left
    ·simp[-Zt,Zp,c78,c83,c85]
    refine ZX (by simp[-Zt,Zp,bV,c78,c83,c85]) ?_;refine Z7 ?_;unfold XO at hr77;simp at hr77
   ·skip
    rw[if_pos] at hr77;rotate_left
    ·simp[-Zt,Zp,c78,c83,c85]
    refine Z9 (by simp[-Zt,Zp,bV,c78,c83,c85]) ?_;refine Yk ?_;simp at hr77
theorem w113_5:Walk tt G [(164,G164_4),(165,K165.G)] (fun d=>if d=10 then[[1000001]] else[]) Tryz.f113 K113_5:=by
 refine .ak [] false Tryz.ntmps113 fun T hO hT a0 x=>?_
 simp only[Zg] at hT; simp only[kS,nfs,Yq];exact auL
theorem w71:Walk tt G [(111,K111.G),(112,K112.G),(113,K113_5.G)] (fun d=>if d=31 then[[1000001]] else[]) Tryz.f71 K71:=by
 refine .ak [(3,⟨[2,3,4,9,12,13,14],[4,28],[(9,none,28,1)]⟩)] true Tryz.ntmps71 fun T hO hT ⟨a0,a1,a2,a3⟩ x=>?_
 simp only[Zg] at hT; simp only[kS,nfs,ZaX,Zd5];refine au ?_
 intros; refine lpP 3 (fun⟨p10,p11⟩=>([(9,.one (.ms 28 0 0 (p11.length) 1)),(14,.one (.v (.int .i64 p10)))],[(28,⟨0,1,Zf .u64 p11,false,true⟩)])) ?_; rintro⟨p10,p11⟩ x; simp only[Zb6,Zd5]
 exact au
theorem w38:Walk tt G [(70,K70.G),(71,K71.G)] (fun _=>[]) Tryz.f38 K38:=by
 refine .ak [(8,⟨[2,3,4,8,10,11,34,35,36],[4,8,51,1000000000033],[(11,none,51,1)]⟩)] false Tryz.ntmps38 fun T hO hT ⟨a0,a1,a2,a3⟩ x=>?_
 simp only[Zg] at hT; simp only[kS,nfs,Zc6,Zey,Za7];refine au ?_
 intros; refine lpP 8 (fun⟨p11,p12,p13⟩=>([(11,.one (.ms 51 0 0 (p13.length) 1)),(36,.one (.v (.int .i64 p11)))],[(51,⟨0,1,List.map X5 p13,false,true⟩),(1000000000033,⟨0,4,([.v (.string (⟨#[]⟩))]) :: List.map Zk3 p12,false,false⟩)])) ?_; rintro⟨p11,p12,p13⟩ x; simp only[Za8,Zey,Za7]
 exact au
theorem w11:Walk tt G [(14,K14.G),(35,K35.G),(36,K36.G),(37,K37.G),(38,K38.G)] (fun _=>[]) Tryz.f11 K11:=by
 refine .ak [] false Tryz.ntmps11 fun T hO hT a0 x=>?_
 simp only[Zg] at hT; simp only[kS,nfs,ZbN];exact au
theorem w171:Walk tt G [] (fun _=>[]) Tryz.f171 K171:=by
 refine .ak [] false Tryz.ntmps171 fun T hO hT ⟨a0,a1⟩ x=>?_
 simp only[Zg] at hT; simp only[kS,nfs,Zgq];exact Zh3
theorem w172:Walk tt G [(171,K171.G)] (fun _=>[]) Tryz.f172 K172:=by
 refine .ak [(3,⟨[1,3,7,9,10],[3],[]⟩)] false Tryz.ntmps172 fun T hO hT ⟨a0,a1,a2⟩ x=>?_
 simp only[Zg] at hT; simp only[kS,nfs,Zdn,Zga,Zd1];refine au ?_
 intros; refine lpP 3 (fun⟨p7,p8⟩=>([(7,.one (.v (.int .u64 p7))),(10,.one (.v (.int .i64 p8)))],[])) ?_; rintro⟨p7,p8⟩ x; simp only[Zd2,Zga,Zd1]
 exact au
theorem w120:Walk tt G [(157,K157.G),(171,K171.G),(172,K172.G)] (fun _=>[]) Tryz.f120 K120:=by
 refine .ak [(6,⟨[1,2,3,9],[3],[]⟩)] false Tryz.ntmps120 fun T hO hT ⟨a0,a1,a2⟩ x=>?_
 simp only[Zg] at hT; simp only[kS,nfs,Zc1,Zcx];refine au ?_
 intros; refine lpP 6 (fun p7=>([(9,.one (.v (.int .i64 p7)))],[])) ?_; rintro p7 x; simp only[X6,Zcx]
 exact au
theorem w121:Walk tt G [(157,K157.G),(172,K172.G)] (fun _=>[]) Tryz.f121 K121:=by
 refine .ak [] false Tryz.ntmps121 fun T hO hT ⟨a0,a1,a2⟩ x=>?_
 simp only[Zg] at hT; simp only[kS,nfs,Zin];exact au
theorem w84:Walk tt G [(120,K120.G),(121,K121.G)] (fun _=>[]) Tryz.f84 K84:=by
 refine .ak [(9,⟨[1,6,7,8,9,48,49],[6,46],[]⟩)] false Tryz.ntmps84 fun T hO hT ⟨a0,a1⟩ x=>?_
 simp only[Zg] at hT; simp only[kS,nfs,Zc2,Zev];refine au ?_
 intros; refine lpP 9 (fun⟨p9,p10,p11,p12⟩=>([(7,.one (.ms 46 0 0 (p12.length) 1)),(8,.one (.v (.int .u64 p9))),(9,.one (.v (.int .i64 p10))),(49,.one (.v (.int .i64 p11)))],[(46,⟨0,1,Zf .u64 p12,false,true⟩)])) ?_; rintro⟨p9,p10,p11,p12⟩ x; simp only[Za6,Zev]
 exact au
theorem w122_6:Walk tt G [] (fun _=>[]) Tryz.f122 K122_6:=by
 refine .ak [] true Tryz.ntmps122 (hi:=by intro x; simp[E122_6]) (fun T hO hT a0 x=>?_);simp only[Zg] at hT; simp only[kS,E122_6,nfs,Ye];exact au
theorem w85:Walk tt G [(71,K71.G),(122,K122_6.G)] (fun d=>if d=32 then[[1]] else[]) Tryz.f85 K85:=by
 refine .ak [] false Tryz.ntmps85 fun T hO hT ⟨a0,a1,a2,a3⟩ x=>?_
 simp only[Zg] at hT; simp only[kS,nfs,Zcj];exact au
theorem w47:Walk tt G [(84,K84.G),(85,K85.G)] (fun _=>[]) Tryz.f47 K47:=by
 refine .ak [(9,⟨[12,15,39,40,41],[],[]⟩),(11,⟨[12,15,17,39,40,41],[],[]⟩)] false Tryz.ntmps47 fun T hO hT ⟨a0,a1,a2,a3,a4⟩ x=>?_
 simp only[Zg] at hT; simp only[kS,nfs,Zc7,Lgolomb_Matchw_k1,Zez];refine au ?_
 intros; refine lpP 9 (fun⟨p27,p28⟩=>([(15,.one (.v (.int .i64 p27))),(41,.one (.v (.int .i64 p28)))],[])) ?_; rintro⟨p27,p28⟩ x; simp only[ZeA,Lgolomb_Matchw_k1,Zez]
 refine au ?_
 intros; refine lpP 11 (fun p46=>([(15,.one (.v (.int .i64 p46)))],[])) ?_; rintro p46 x; simp only[Zj7,Lgolomb_Matchw_k1,Zez]
 exact au
theorem w18:Walk tt G [(36,K36.G),(47,K47.G)] (fun _=>[]) Tryz.f18 K18:=by
 refine .ak [(3,⟨[3,4,8,11,12,13],[3,4,23],[(8,none,23,1)]⟩)] false Tryz.ntmps18 fun T hO hT ⟨a0,a1,a2⟩ x=>?_
 simp only[Zg] at hT; simp only[kS,nfs,Xe,ZeB,ZcA];refine au ?_
 intros; refine lpP 3 (fun⟨p8,p9⟩=>([(8,.one (.ms 23 0 0 (p9.length) 1)),(13,.one (.v (.int .i64 p8)))],[(23,⟨0,1,List.map X5 p9,false,true⟩)])) ?_; rintro⟨p8,p9⟩ x; simp only[ZeC,ZeB,ZcA]
 exact au
theorem w24:Walk tt G [] (fun _=>[]) Tryz.f24 K24:=by
 refine .ak [] true Tryz.ntmps24 fun T hO hT a0 x=>?_
 simp only[Zg] at hT; simp only[kS,nfs,Zag];exact auR
theorem w212:Walk tt G [] (fun _=>[]) Tryz.f212 K212:=by
 refine .ak [] false Tryz.ntmps212 fun T hO hT a0 x=>?_
 simp only[Zg] at hT; simp only[kS,nfs,Zh6];exact au
theorem w175:Walk tt G [(24,K24.G),(212,K212.G)] (fun _=>[]) Tryz.f175 K175:=by
 refine .ak [] true Tryz.ntmps175 fun T hO hT ⟨a0,a1⟩ x=>?_
 simp only[Zg] at hT; simp only[kS,nfs,ZfZ,ZeO];exact Zh3
theorem w146:Walk tt G [] (fun _=>[]) Tryz.f146 K146:=by
 refine .ak [(2,⟨[0,3],[5],[]⟩),(5,⟨[0,3,4],[5],[]⟩)] true Tryz.ntmps146 fun T hO hT a0 x=>?_
 simp only[Zg] at hT; simp only[kS,nfs,ZgH,Zhx,Zft];refine au ?_
 intros; refine lpP 2 (fun p4=>([(3,.one (.ms 5 0 0 (p4.length) 1))],[(5,⟨0,1,Zf .u8 p4,false,true⟩)])) ?_; rintro p4 x; simp only[Zfu,Zhx,Zft]
 refine au ?_
 intros; refine lpP 5 (fun⟨p12,p13⟩=>([(3,.one (.ms 5 0 0 (p13.length) 1)),(4,.one (.v (.int .i64 p12)))],[(5,⟨0,1,Zf .u8 p13,false,true⟩)])) ?_; rintro⟨p12,p13⟩ x; simp only[ZdK,Zhx,Zft]
 exact au
theorem w147:Walk tt G [] (fun _=>[]) Tryz.f147 K147:=by
 refine .ak [] false Tryz.ntmps147 fun T hO hT _ x=>?_
 simp only[Zg] at hT; simp only[kS,nfs,Lref03_Initial];exact au
theorem w195:Walk tt G [(227,K227.G)] (fun _=>[]) Tryz.f195 K195:=by
 refine .ak [] false Tryz.ntmps195 fun T hO hT ⟨a0,a1⟩ x=>?_
 simp only[Zg] at hT; simp only[kS,nfs,Y2];exact au
theorem w193:Walk tt G [(195,K195.G)] (fun _=>[]) Tryz.f193 K193:=by
 refine .ak [(3,⟨[1,2,3,4],[1,2,3],[]⟩),(7,⟨[2,3,5],[2,3],[]⟩)] false Tryz.ntmps193 fun T hO hT a0 x=>?_
 simp only[Zg] at hT; simp only[kS,nfs,Zce,Zd0,ZaH];refine au ?_
 intros; refine lpP 3 (fun⟨p12,p13⟩=>([(4,.one (.v (.int .i64 p12)))],[(3,⟨0,64,[arC .u32 p13],false,false⟩)])) ?_; rintro⟨p12,p13⟩ x; simp only[Zb1,Zd0,ZaH]
 refine au ?_
 intros; refine lpP 7 (fun⟨p38,p39⟩=>([(5,.one (.v (.int .i64 p38)))],[(3,⟨0,64,[arC .u32 p39],false,false⟩)])) ?_; rintro⟨p38,p39⟩ x; simp only[Lref03_schedule_s2,Zd0,ZaH]
 exact au
theorem w194:Walk tt G [] (fun _=>[]) Tryz.f194 K194:=by
 refine .ak [] false Tryz.ntmps194 fun T hO hT _ x=>?_
 simp only[Zg] at hT; simp only[kS,nfs,Lref03_constants];exact au
def kp148:Keep:=fun i=>if i=4 then⟨[2,4,5,6,7,8,9,10,11,12,13,14,15],[2,4,5,6],[]⟩ else⟨[],[],[]⟩
theorem w148 {T:Tab}(hO:T.own=fun _=>[]) (hT193:T 193=some K193.G) (hT194:T 194=some K194.G) (hT195:T 195=some K195.G) (a0:(Arr 8)) (a1:(Arr 64)) (x:(Arr 8)) (hr:Xz a0 a1=some x):∃ kp fl n,ZP tt T G kp fl n Tryz.f148 (Zg5 (a0,a1))=some (Zjh (a0,a1) x):=by
 simp only[Zg5,Zjh];refine fnE (kp:=kp148) (w:=false) body148 (by simp) ?_;unfold c148;rw[Tryz.ntmps148];unfold Xz at hr;refine Zi rfl (by simp[]; rfl) ?_;obtain⟨y48,hy48,hr⟩:=bs hr;have ehy48:=K193.q1 hy48;simp only[K193,kS,nf,nfs] at ehy48;obtain⟨y49,hy49,hr⟩:=bs hr;have ehy49:=K194.q0 hy49;simp only[K194,kS,nf,nfs] at ehy49;refine Zi rfl (by simp[hO,hT193,ehy48,hT194,ehy49]; rfl) ?_;have ar50:=YR (k:=.u32) (a0) (i:=0) (by decide);have as51:=Y7 (k:=.u32) (a0) (i:=0) (by decide);have ar52:=YR (k:=.u32) (a0) (i:=1) (by decide);have as53:=Y7 (k:=.u32) (a0) (i:=1) (by decide);have ar54:=YR (k:=.u32) (a0) (i:=2) (by decide);have as55:=Y7 (k:=.u32) (a0) (i:=2) (by decide);have ar56:=YR (k:=.u32) (a0) (i:=3) (by decide);have as57:=Y7 (k:=.u32) (a0) (i:=3) (by decide);have ar58:=YR (k:=.u32) (a0) (i:=4) (by decide);have as59:=Y7 (k:=.u32) (a0) (i:=4) (by decide);have ar60:=YR (k:=.u32) (a0) (i:=5) (by decide);have as61:=Y7 (k:=.u32) (a0) (i:=5) (by decide);have ar62:=YR (k:=.u32) (a0) (i:=6) (by decide);have as63:=Y7 (k:=.u32) (a0) (i:=6) (by decide);have ar64:=YR (k:=.u32) (a0) (i:=7) (by decide);have as65:=Y7 (k:=.u32) (a0) (i:=7) (by decide);refine Xq rfl (by simp[ar50,as51,ar52,as53,ar54,as55,ar56,as57,ar58,as59,ar60,as61,ar62,as63,ar64,as65]; first | exact⟨rfl,rfl⟩ | rfl) (by kernel_rfl) ?_;refine Yk ?_;refine Zi rfl (by simp[]; rfl) ?_;refine ZR ?_;refine Zbr (kq:=⟨[2,4,5,6,7,8,9,10,11,12,13,14,15],[2,4,5,6],[]⟩) (H:=fun(s:Int×Int×Int×Int×Int×Int×Int×Int×Int)=>match s with | (p25,p26,p27,p28,p29,p30,p31,p32,p33)=>(⟨(und 2++([.ptr 2 0 0 0 8]++(und 1++([.ptr 4 0 0 0 8,.ptr 5 0 0 0 64,.ptr 6 0 0 0 64,.one (.v (.int .u32 p25)),.one (.v (.int .u32 p26)),.one (.v (.int .u32 p27)),.one (.v (.int .u32 p28)),.one (.v (.int .u32 p29)),.one (.v (.int .u32 p30)),.one (.v (.int .u32 p31)),.one (.v (.int .u32 p32)),.one (.v (.int .i64 p33))]++(und 117)))):List PV),([(2,⟨0,8,[arC .u32 a0],false,false⟩),(4,⟨0,8,[arC .u32 (zA 8)],false,false⟩),(5,⟨0,64,[arC .u32 y48],false,false⟩),(6,⟨0,64,[arC .u32 y49],false,false⟩)]:Boxes)⟩:ASt)) (by kernel_rfl) hr (by simp[und,List.replicate,]) ?_;rintro⟨p25,p26,p27,p28,p29,p30,p31,p32,p33⟩ x80r hr80
 simp only[Zb2] at hr80;unfold b148_1;simp only[und,List.replicate,List.cons_append,List.nil_append];refine Yk ?_;refine Zi rfl (by simp[]; rfl) ?_;by_cases c81:p33<64
 ·skip
  rw[if_pos] at hr80;rotate_left
  ·simp[c81]
  refine Z9 (by simp[bV,c81]) ?_;refine Z7 ?_;refine ZR ?_;obtain⟨y82,hy82,hr80⟩:=bs hr80;have ehy82:=K195.q2 hy82;simp only[K195,kS,nf,nfs] at ehy82;obtain⟨y83,hy83,hr80⟩:=bs hr80;have ehy83:=K195.q2 hy83;simp only[K195,kS,nf,nfs] at ehy83;obtain⟨y84,hy84,hr80⟩:=bs hr80;have ehy84:=K195.q2 hy84;simp only[K195,kS,nf,nfs] at ehy84;obtain⟨j85,hj85,hr80⟩:=bs hr80;obtain⟨j85a,j85b,j85c⟩:=YU hj85;have j85d:j85≤63:=by omega
  have ar86:=YR (k:=.u32) (y49) (i:=j85) j85c;have as87:=Y7 (k:=.u32) (y49) (i:=j85) j85c;obtain⟨j85a,j85b,j85c⟩:=YU hj85;have j85d:j85≤63:=by omega
  have ar88:=YR (k:=.u32) (y48) (i:=j85) j85c;have as89:=Y7 (k:=.u32) (y48) (i:=j85) j85c;refine Xq rfl (by simp[hO,hT195,ehy82,ehy83,ehy84,j85a,j85b,j85c,j85d,ar86,as87,ar88,as89,c81]; first | exact⟨rfl,rfl⟩ | rfl) (by kernel_rfl) ?_;obtain⟨y90,hy90,hr80⟩:=bs hr80;have ehy90:=K195.q2 hy90;simp only[K195,kS,nf,nfs] at ehy90;obtain⟨y91,hy91,hr80⟩:=bs hr80;have ehy91:=K195.q2 hy91;simp only[K195,kS,nf,nfs] at ehy91;obtain⟨y92,hy92,hr80⟩:=bs hr80;have ehy92:=K195.q2 hy92;simp only[K195,kS,nf,nfs] at ehy92;refine Zi rfl (by simp[hO,hT195,ehy90,ehy91,ehy92,c81]; rfl) ?_;refine Zb0 rfl (by simp[c81]; rfl) ?_;simp only[pq,reduceCtorEq];refine Zb0 rfl (by simp[c81]; rfl) ?_;obtain rfl:=Option.some.inj hr80;simp only[pq,reduceCtorEq];simp[und,List.replicate,Nat.add_assoc,c81]
 ·skip
  rw[if_neg] at hr80;rotate_left
  ·simp[c81]
  refine ZX (by simp[bV,c81]) ?_;refine YZ ?_;obtain⟨r93,q93,rfl⟩:=ms hr80;simp only[pq,reduceCtorEq];rintro rfl
  try simp only[pq,reduceCtorEq]
  unfold ZjC at q93;have ar94:=YR (k:=.u32) (a0) (i:=0) (by decide);have as95:=Y7 (k:=.u32) (a0) (i:=0) (by decide);have ar96:=YR (k:=.u32) (a0) (i:=1) (by decide);have as97:=Y7 (k:=.u32) (a0) (i:=1) (by decide);have ar98:=YR (k:=.u32) (a0) (i:=2) (by decide);have as99:=Y7 (k:=.u32) (a0) (i:=2) (by decide);have ar100:=YR (k:=.u32) (a0) (i:=3) (by decide);have as101:=Y7 (k:=.u32) (a0) (i:=3) (by decide);have ar102:=YR (k:=.u32) (a0) (i:=4) (by decide);have as103:=Y7 (k:=.u32) (a0) (i:=4) (by decide);have ar104:=YR (k:=.u32) (a0) (i:=5) (by decide);have as105:=Y7 (k:=.u32) (a0) (i:=5) (by decide);have ar106:=YR (k:=.u32) (a0) (i:=6) (by decide);have as107:=Y7 (k:=.u32) (a0) (i:=6) (by decide);have ar108:=YR (k:=.u32) (a0) (i:=7) (by decide);have as109:=Y7 (k:=.u32) (a0) (i:=7) (by decide);have ap110:=ZcV (k:=.u32) (zA 8) (i:=0) (by decide) (IntKind.u32.wrap ((a0.at 0)+p25));have ap111:=ZcV (k:=.u32) ((zA 8).put 0 (IntKind.u32.wrap ((a0.at 0)+p25))) (i:=1) (by decide) (IntKind.u32.wrap ((a0.at 1)+p26));have ap112:=ZcV (k:=.u32) (((zA 8).put 0 (IntKind.u32.wrap ((a0.at 0)+p25))).put 1 (IntKind.u32.wrap ((a0.at 1)+p26))) (i:=2) (by decide) (IntKind.u32.wrap ((a0.at 2)+p27));have ap113:=ZcV (k:=.u32) ((((zA 8).put 0 (IntKind.u32.wrap ((a0.at 0)+p25))).put 1 (IntKind.u32.wrap ((a0.at 1)+p26))).put 2 (IntKind.u32.wrap ((a0.at 2)+p27))) (i:=3) (by decide) (IntKind.u32.wrap ((a0.at 3)+p28));have ap114:=ZcV (k:=.u32) (((((zA 8).put 0 (IntKind.u32.wrap ((a0.at 0)+p25))).put 1 (IntKind.u32.wrap ((a0.at 1)+p26))).put 2 (IntKind.u32.wrap ((a0.at 2)+p27))).put 3 (IntKind.u32.wrap ((a0.at 3)+p28))) (i:=4) (by decide) (IntKind.u32.wrap ((a0.at 4)+p29));have ap115:=ZcV (k:=.u32) ((((((zA 8).put 0 (IntKind.u32.wrap ((a0.at 0)+p25))).put 1 (IntKind.u32.wrap ((a0.at 1)+p26))).put 2 (IntKind.u32.wrap ((a0.at 2)+p27))).put 3 (IntKind.u32.wrap ((a0.at 3)+p28))).put 4 (IntKind.u32.wrap ((a0.at 4)+p29))) (i:=5) (by decide) (IntKind.u32.wrap ((a0.at 5)+p30));have ap116:=ZcV (k:=.u32) (((((((zA 8).put 0 (IntKind.u32.wrap ((a0.at 0)+p25))).put 1 (IntKind.u32.wrap ((a0.at 1)+p26))).put 2 (IntKind.u32.wrap ((a0.at 2)+p27))).put 3 (IntKind.u32.wrap ((a0.at 3)+p28))).put 4 (IntKind.u32.wrap ((a0.at 4)+p29))).put 5 (IntKind.u32.wrap ((a0.at 5)+p30))) (i:=6) (by decide) (IntKind.u32.wrap ((a0.at 6)+p31));have ap117:=ZcV (k:=.u32) ((((((((zA 8).put 0 (IntKind.u32.wrap ((a0.at 0)+p25))).put 1 (IntKind.u32.wrap ((a0.at 1)+p26))).put 2 (IntKind.u32.wrap ((a0.at 2)+p27))).put 3 (IntKind.u32.wrap ((a0.at 3)+p28))).put 4 (IntKind.u32.wrap ((a0.at 4)+p29))).put 5 (IntKind.u32.wrap ((a0.at 5)+p30))).put 6 (IntKind.u32.wrap ((a0.at 6)+p31))) (i:=7) (by decide) (IntKind.u32.wrap ((a0.at 7)+p32));refine Zi rfl (by simp[ar94,as95,ar96,as97,ar98,as99,ar100,as101,ar102,as103,ar104,as105,ar106,as107,ar108,as109,ap110,ap111,ap112,ap113,ap114,ap115,ap116,ap117,c81]; rfl) ?_;refine ZdW ?_;obtain rfl:=Option.some.inj q93;simp[ZaR,ar94,as95,ar96,as97,ar98,as99,ar100,as101,ar102,as103,ar104,as105,ar106,as107,ar108,as109,ap110,ap111,ap112,ap113,ap114,ap115,ap116,ap117,c81]
end Go.Proofs.YthpkpciceodioaaGreatDoor
