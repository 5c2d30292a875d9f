import Derived.Test.YthpkpciceodioaaGreatDoorLfK
import Derived.Test.YthpkpciceodioaaGreatDoorCode
import Derived.Test.YthpkpciceodioaaGreatDoorBl
namespace Go.Proofs.YthpkpciceodioaaGreatDoor
open Go.RowKit
open Go.Av
open Go.Lc
set_option maxRecDepth 100000
set_option linter.unusedSimpArgs false
set_option linter.unusedVariables false
set_option maxHeartbeats 4000000
def kp201_3:Keep:=fun i=>if i=1 then⟨[0,1,2,6],[1000000],[]⟩ else if i=1000002 then⟨[0,1,2,6],[1000000],[]⟩ else if i=4 then⟨[0,1,2,6,7],[1000000],[]⟩ else⟨[],[],[]⟩
theorem Zyl {T:Tab}(hO:T.own=fun _=>[]) (hT156:T 156=some K156.G) (a0:(List Int)) (a1:Int) (a2:Int) (x:(List Int)) (hr:Zv a0 a1 a2=some x):∃ kp fl n,ZO tt T G kp fl n Tryz.f201 (Zcn (a0,a1,a2))=some (ZeK (a0,a1,a2) x):=by
 simp only[Zcn,ZeK];refine fnE (kp:=kp201_3) (w:=false) body201 (by simp) ?_;unfold c201;rw[Tryz.ntmps201];unfold Zv at hr;refine Ze rfl (by simp[-Zt,Zo]; rfl) ?_;refine ZdZ ?_;refine XU (kq:=⟨[0,1,2,6],[1000000],[]⟩) (H:=fun(s:Int×(List Int))=>match s with | (p77,p78)=>(⟨([.one (.ms 1000000 0 0 (p78.length) 1),.one (.v (.int .i64 a1)),.one (.v (.int .i64 a2))]++(und 3++([.one (.v (.int .i64 p77))]++(und 42))):List PV),([(1000000,⟨0,1,Zf .u64 p78,false,true⟩)]:Boxes)⟩:ASt)) (by kernel_rfl) hr (by simp[-Zt,Zo,und,List.replicate,]) ?_;rintro⟨p77,p78⟩ x127r hr127
 simp only[Z5] at hr127;unfold b201_1;simp only[und,List.replicate,List.cons_append,List.nil_append];refine ZT ?_;refine Ze rfl (by simp[-Zt,Zo]; rfl) ?_;by_cases c128:p77<a2
 ·skip
  rw[if_pos] at hr127;rotate_left
  ·simp[-Zt,Zo,c128]
  refine ZJ (by simp[-Zt,Zo,bV,c128]) ?_;refine ZL ?_;refine ZG ?_;refine Ze rfl (by simp[-Zt,Zo,c128]; rfl) ?_;refine ZdZ ?_;refine ZsN hr127 (.exit 1) (fun(s:(List Int))=>match s with | p104=>(⟨([.one (.ms 1000000 0 0 (p104.length) 1),.one (.v (.int .i64 a1)),.one (.v (.int .i64 a2))]++(und 3++([.one (.v (.int .i64 p77))]++(und 42))):List PV),([(1000000,⟨0,1,Zf .u64 p104,false,true⟩)]:Boxes)⟩:ASt)) (fun(s:(List Int))=>match s with | p104=>ZU p77 p104) ?_ ?_
  ·skip
   rintro p104 hk146
   change ZU p77 p104=_ at hk146
   simp only[pq,reduceCtorEq];simp only[und,List.replicate,List.cons_append,List.nil_append];unfold ZU at hk146;refine Zlq rfl (kq:=⟨[0,1,2,6],[1000000],[]⟩) rfl (by simp[-Zt,Zo,Za8,c128]; rfl) (by simp[-Zt,Zo,c128]; rfl) ?_;obtain rfl:=Option.some.inj hk146;simp only[pq,reduceCtorEq];simp[-Zt,Zo,und,List.replicate,Nat.add_assoc,c128]
  ·skip
   intro J146;simp only[pq,reduceCtorEq] at J146;refine XU (kq:=⟨[0,1,2,6,7],[1000000],[]⟩) (H:=fun(s:Int×(List Int))=>match s with | (p103,p104)=>(⟨([.one (.ms 1000000 0 0 (p104.length) 1),.one (.v (.int .i64 a1)),.one (.v (.int .i64 a2))]++(und 3++([.one (.v (.int .i64 p77)),.one (.v (.int .i64 p103))]++(und 41))):List PV),([(1000000,⟨0,1,Zf .u64 p104,false,true⟩)]:Boxes)⟩:ASt)) (by kernel_rfl) hr127 (by simp[-Zt,Zo,und,List.replicate,c128]) ?_;rintro⟨p103,p104⟩ x147r hr147
   simp only[ZI] at hr147;unfold b201_2;simp only[und,List.replicate,List.cons_append,List.nil_append];refine ZT ?_;by_cases c148:a1<p103
   ·skip
    rw[if_pos] at hr147;rotate_left
    ·simp[-Zt,Zo,c128,c148]
    obtain⟨z149,hz149,hr147⟩:=bs hr147;obtain⟨j150,hj150,hz149⟩:=bs hz149;obtain⟨j150a,j150b,j150c⟩:=Yy hj150;obtain⟨x151,hx151,hz149⟩:=bs hz149;have ghx151:=YC hx151;obtain⟨j152,hj152,hz149⟩:=bs hz149;obtain⟨j152a,j152b,j152c⟩:=Yy hj152;obtain⟨x153,hx153,hz149⟩:=bs hz149;have ghx153:=YC hx153;obtain⟨y154,hy154,hz149⟩:=bs hz149;have ehy154:=K156.q2 hy154;simp only[K156,kS,nf,nfs] at ehy154;try simp only[Zo] at ehy154
    obtain rfl:=Option.some.inj hz149;refine Y8 rfl (by simp[-Zt,Zo,j150a,j150b,j150c,hx151,ghx151,j152a,j152b,j152c,hx153,ghx153,hO,hT156,ehy154,c128,c148]; first | exact⟨rfl,rfl⟩ | rfl) (by kernel_rfl) ?_;by_cases c155:y154=true
    ·skip
     rw[if_pos] at hr147;rotate_left
     ·simp[-Zt,Zo,c128,c148,c155]
     refine ZJ (by simp[-Zt,Zo,bV,c128,c148,c155]) ?_;refine ZL ?_;refine ZG ?_;obtain⟨j156,hj156,hr147⟩:=bs hr147;obtain⟨j156a,j156b,j156c⟩:=Yy hj156;obtain rfl:j152=j156:=j152b.symm.trans j156b;obtain⟨x157,hx157,hr147⟩:=bs hr147;have ghx157:=YC hx157;obtain⟨j158,hj158,hr147⟩:=bs hr147;obtain⟨j158a,j158b,j158c⟩:=Yy hj158;obtain rfl:j150=j158:=j150b.symm.trans j158b;obtain⟨x159,hx159,hr147⟩:=bs hr147;have ghx159:=YC hx159;obtain⟨j150a,j150b,j150c⟩:=Yy hj158;obtain⟨j160,hj160,hr147⟩:=bs hr147;obtain⟨j160a,j160b,j160c⟩:=Yy hj160;try simp only[List.length_set] at j160c
     obtain rfl:j152=j160:=j152b.symm.trans j160b;refine ZoK rfl (by simp[-Zt,Zo,j156a,j156b,j156c,j152a,j152b,j152c,hx157,ghx157,j158a,j158b,j158c,j150a,j150b,j150c,hx159,ghx159,j160a,j160b,j160c,c128,c148,c155]; first | exact⟨rfl,rfl⟩ | rfl) (by kernel_rfl) ?_;simp only[pq,reduceCtorEq];refine XC rfl (by simp[-Zt,Zo,c128,c148,c155]; rfl) ?_;obtain rfl:=Option.some.inj hr147;simp only[pq,reduceCtorEq];simp[-Zt,Zo,und,List.replicate,Nat.add_assoc,c128,c148,c155]
    ·skip
     rw[if_neg] at hr147;rotate_left
     ·simp[-Zt,Zo,c128,c148,c155]
     refine ZE (by simp[-Zt,Zo,bV,c128,c148,c155]) ?_;refine Ym ?_;obtain⟨r161,q161,rfl⟩:=ms hr147;simp only[pq,reduceCtorEq];rintro rfl
     try simp only[pq,reduceCtorEq]
     exact ZhZ (key:=1000002) (kq:=⟨[0,1,2,6],[1000000],[]⟩) rfl rfl rfl (by simp[-Zt,Zo,und,List.replicate,c128,c148,c155]) (J146 p104 q161)
   ·skip
    rw[if_neg] at hr147;rotate_left
    ·simp[-Zt,Zo,c128,c148]
    obtain⟨z162,hz162,hr147⟩:=bs hr147;obtain rfl:=Option.some.inj hz162;refine Y8 rfl (by simp[-Zt,Zo,c128,c148]; first | exact⟨rfl,rfl⟩ | rfl) (by kernel_rfl) ?_;rw[if_neg] at hr147;rotate_left
    ·simp[-Zt,Zo,c128,c148]
    refine ZE (by simp[-Zt,Zo,bV,c128,c148]) ?_;refine Ym ?_;obtain⟨r163,q163,rfl⟩:=ms hr147;simp only[pq,reduceCtorEq];rintro rfl
    try simp only[pq,reduceCtorEq]
    exact ZhZ (key:=1000002) (kq:=⟨[0,1,2,6],[1000000],[]⟩) rfl rfl rfl (by simp[-Zt,Zo,und,List.replicate,c128,c148]) (J146 p104 q163)
 ·skip
  rw[if_neg] at hr127;rotate_left
  ·simp[-Zt,Zo,c128]
  refine ZE (by simp[-Zt,Zo,bV,c128]) ?_;refine Ym ?_;obtain⟨_,u164,hr127⟩:=bs hr127;have u164_0:=ZW u164;obtain rfl:=Option.some.inj hr127;simp only[pq,reduceCtorEq];rintro rfl
  simp[-Zt,Zo,XT,u164_0,c128]
def kp164_4:Keep:=fun i=>if i=2 then⟨[0,1,2,3,8,9],[1000000],[]⟩ else⟨[],[],[]⟩
theorem Zym {T:Tab}(n:Nat) (hO:T.own=fun d=>if d=27 then[[1000001]] else if d=121 then[[1000001]] else if d=132 then[[1000001]] else[]) (hT164:T 164=some (Zo4 n)) (hT156:T 156=some K156.G) (hT201:T 201=some G201_3) (a0:(List Int)) (a1:Int) (a2:Int) (a3:Int) (x:(List Int)) (hr:Yt (Lslices_pdqsortOrdered_of_uint64w_n n) a0 a1 a2 a3=some x):∃ kp fl n,ZO tt T G kp fl n Tryz.f164 (Zco (a0,a1,a2,a3))=some (ZeL (a0,a1,a2,a3) x):=by
 simp only[Zco,ZeL];refine fnE (kp:=kp164_4) (w:=false) body164 (by simp) ?_;unfold c164;rw[Tryz.ntmps164];unfold Yt at hr;refine Ze rfl (by simp[-Zt,Zo]; rfl) ?_;refine Ze rfl (by simp[-Zt,Zo]; rfl) ?_;refine ZdZ ?_;refine XU (kq:=⟨[0,1,2,3,8,9],[1000000],[]⟩) (H:=fun(s:Int×Int×Int×Bool×Bool×(List Int))=>match s with | (p56,p57,p58,p59,p60,p61)=>(⟨([.one (.ms 1000000 0 0 (p61.length) 1),.one (.v (.int .i64 p56)),.one (.v (.int .i64 p57)),.one (.v (.int .i64 p58))]++(und 4++([.one (.v (.bool p59)),.one (.v (.bool p60))]++(und 124))):List PV),([(1000000,⟨0,1,Zf .u64 p61,false,true⟩)]:Boxes)⟩:ASt)) (by kernel_rfl) hr (by simp[-Zt,Zo,und,List.replicate,]) ?_;rintro⟨p56,p57,p58,p59,p60,p61⟩ x77r hr77
 simp only[XL] at hr77;unfold b164_1;simp only[und,List.replicate,List.cons_append,List.nil_append];refine ZdZ ?_;refine Ze rfl (by simp[-Zt,Zo]; rfl) ?_;refine ZT ?_;refine Ze rfl (by simp[-Zt,Zo]; rfl) ?_;by_cases c78:IntKind.i64.wrap (p57-p56)≤12
 ·skip
  rw[if_pos] at hr77;rotate_left
  ·simp[-Zt,Zo,c78]
  refine ZJ (by simp[-Zt,Zo,bV,c78]) ?_;refine ZT ?_;obtain⟨y79,hy79,hr77⟩:=bs hr77;have ehy79:=ZpN hy79;simp only[Zcn,ZeK,kS,nf,nfs] at ehy79;try simp only[Zo] at ehy79
  obtain⟨_,u80,hr77⟩:=bs hr77;have u80_0:=ZW u80;have ck81:=ZF (k:=.u64) u80_0;refine Ze rfl (by simp[-Zt,Zo,hO,hT201,ehy79,ck81,u80_0,c78]; rfl) ?_;refine ZeV ?_;obtain⟨_,u82,hr77⟩:=bs hr77;have u82_0:=ZW u82;try simp only[u80_0] at u82_0
  obtain rfl:=Option.some.inj hr77;simp only[pq,reduceCtorEq];rintro rfl
  simp[-Zt,Zo,XT,hO,hT201,ehy79,ck81,u80_0,u82_0,c78]
 ·skip
  rw[if_neg] at hr77;rotate_left
  ·simp[-Zt,Zo,c78]
  refine ZE (by simp[-Zt,Zo,bV,c78]) ?_;refine ZL ?_;refine ZT ?_;refine Ze rfl (by simp[-Zt,Zo,c78]; rfl) ?_;by_cases c83:p58=0
  ·skip
   rw[if_pos] at hr77;rotate_left
   ·simp[-Zt,Zo,c78,eq_true c83]
   refine ZJ (by simp[-Zt,Zo,bV,c78,eq_true c83]) ?_;refine ZT ?_;simp at hr77
  ·skip
   rw[if_neg] at hr77;rotate_left
   ·simp[-Zt,Zo,c78,c83]
   refine ZE (by simp[-Zt,Zo,bV,c78,c83]) ?_;refine ZL ?_;refine ZT ?_;refine Ze rfl (by simp[-Zt,Zo,c78,c83]; rfl) ?_;by_cases c85:p59=true
   ·skip
    rw[if_neg] at hr77;rotate_left
    ·simp[-Zt,Zo,c78,c83,c85]
    refine ZE (by simp[-Zt,Zo,bV,c78,c83,c85]) ?_;refine ZL ?_;unfold XK at hr77;simp at hr77
   ·skip
    rw[if_pos] at hr77;rotate_left
    ·simp[-Zt,Zo,c78,c83,c85]
    refine ZJ (by simp[-Zt,Zo,bV,c78,c83,c85]) ?_;refine ZT ?_;simp at hr77
theorem w113_5:Walk tt G [(164,G164_4),(165,K165.G)] (fun d=>if d=10 then[[1000001]] else[]) Tryz.f113 K113_5:=by
 refine .ak [] false Tryz.ntmps113 fun T hO hT a0 x=>?_
 simp only[Zh] at hT; simp only[kS,nfs,Yp];exact auL
theorem w71:Walk tt G [(111,K111.G),(112,K112.G),(113,K113_5.G)] (fun d=>if d=31 then[[1000001]] else[]) Tryz.f71 K71:=by
 refine .ak [(3,⟨[2,3,4,9,12,13,14],[4,28],[(9,none,28,1)]⟩)] true Tryz.ntmps71 fun T hO hT ⟨a0,a1,a2,a3⟩ x=>?_
 simp only[Zh] at hT; simp only[kS,nfs,ZaP,ZdV];refine au ?_
 intros; refine lpP 3 (fun⟨p10,p11⟩=>([(9,.one (.ms 28 0 0 (p11.length) 1)),(14,.one (.v (.int .i64 p10)))],[(28,⟨0,1,Zf .u64 p11,false,true⟩)])) ?_; rintro⟨p10,p11⟩ x; simp only[ZbQ,ZdV]
 exact au
theorem w38:Walk tt G [(70,K70.G),(71,K71.G)] (fun _=>[]) Tryz.f38 K38:=by
 refine .ak [(8,⟨[2,3,4,8,10,11,34,35,36],[4,8,51,1000000000033],[(11,none,51,1)]⟩)] false Tryz.ntmps38 fun T hO hT ⟨a0,a1,a2,a3⟩ x=>?_
 simp only[Zh] at hT; simp only[kS,nfs,ZcR,Zeo,ZaY];refine au ?_
 intros; refine lpP 8 (fun⟨p11,p12,p13⟩=>([(11,.one (.ms 51 0 0 (p13.length) 1)),(36,.one (.v (.int .i64 p11)))],[(51,⟨0,1,List.map YQ p13,false,true⟩),(1000000000033,⟨0,4,([.v (.string (⟨#[]⟩))]) :: List.map ZkU p12,false,false⟩)])) ?_; rintro⟨p11,p12,p13⟩ x; simp only[ZaZ,Zeo,ZaY]
 exact au
end Go.Proofs.YthpkpciceodioaaGreatDoor
