import Derived.Test.YthpkpciceodioaaGreatDoorLfK
import Derived.Test.YthpkpciceodioaaGreatDoorCode
import Derived.Test.YthpkpciceodioaaGreatDoorBl
namespace Go.Proofs.YthpkpciceodioaaGreatDoor
open Go.RowKit
open Go.Av
open Go.Lc
set_option maxRecDepth 100000
set_option linter.unusedSimpArgs false
set_option linter.unusedVariables false
set_option maxHeartbeats 4000000
def kp208_9:Keep:=fun i=>if i=1000007 then ⟨[0,1,10,11],[1000000],[]⟩ else if i=1000017 then ⟨[0,1,10,11],[1000000],[]⟩ else if i=15 then ⟨[0,1,10,11],[1000000],[]⟩ else if i=13 then ⟨[0,1,10,11],[1000000],[]⟩ else if i=5 then ⟨[0,1,10,11],[1000000],[]⟩ else if i=3 then ⟨[0,1,10,11],[1000000],[]⟩ else ⟨[],[],[]⟩
theorem ZvB {T:Tab} (hO:T.own=fun _=>[]) (hT156:T 156=some K156.G) (a0:(List Int)) (a1:Int) (a2:Int) (a3:Int) (x:Int×Bool×(List Int)) (hr:Z6 a0 a1 a2 a3=some x):∃ kp fl n,Xj tt T G kp fl n Tryz.f208 (Zcw (a0,a1,a2,a3))=some (Zeb (a0,a1,a2,a3) x):=by
 simp only [Zcw,Zeb];refine fnE (kp:=kp208_9) (w:=false) body208 (by simp) ?_;unfold c208;rw [Tryz.ntmps208];unfold Z6 at hr;refine Ze rfl (by simp [-Za]; rfl) ?_;obtain ⟨j272,hj272,hr⟩:=bs hr;obtain ⟨j272a,j272b,j272c⟩:=Zq hj272;obtain ⟨x273,hx273,hr⟩:=bs hr;have ghx273:=Zk hx273;obtain ⟨j274,hj274,hr⟩:=bs hr;obtain ⟨j274a,j274b,j274c⟩:=Zq hj274;obtain ⟨x275,hx275,hr⟩:=bs hr;have ghx275:=Zk hx275;obtain ⟨j274a,j274b,j274c⟩:=Zq hj274;obtain ⟨j276,hj276,hr⟩:=bs hr;obtain ⟨j276a,j276b,j276c⟩:=Zq hj276;try simp only [List.length_set] at j276c
 obtain rfl:j272=j276:=j272b.symm.trans j276b;refine ZY rfl (by simp [-Za,Zj,j272a,j272b,j272c,ghx273,j274a,j274b,j274c,ghx275]; first | exact ⟨rfl,rfl⟩ | rfl) (by kernel_rfl) ?_;refine Ze rfl (by simp [-Za]; rfl) ?_;refine Yh ?_;refine ZeA hr (.exit 0) (fun (s:Int)=>match s with | p19=>(⟨([.one (.ms 1000000 0 0 ((((a0).set j274 x273).set j272 x275).length) 1),.one (.v (.int .i64 a1))]++(und 8++([.one (.v (.int .i64 p19)),.one (.v (.int .i64 (IntKind.i64.wrap (a2-1))))]++(und 156))):List PV),([(1000000,⟨0,1,Zd .u64 (((a0).set j274 x273).set j272 x275),false,true⟩)]:Boxes)⟩:ASt)) (fun (s:Int)=>match s with | p19=>Ym p19 a0 j274 x273 j272 x275 a1 a2) ?_ ?_
 ·skip
  rintro p19 hk289
  change Ym p19 a0 j274 x273 j272 x275 a1 a2=_ at hk289
  simp only [pq];simp only [und,List.replicate,List.cons_append,List.nil_append];unfold Ym at hk289;refine Yh ?_;refine ZeA hk289 (.exit 2) (fun (s:Int)=>match s with | p39=>(⟨([.one (.ms 1000000 0 0 ((((a0).set j274 x273).set j272 x275).length) 1),.one (.v (.int .i64 a1))]++(und 8++([.one (.v (.int .i64 p19)),.one (.v (.int .i64 p39))]++(und 156))):List PV),([(1000000,⟨0,1,Zd .u64 (((a0).set j274 x273).set j272 x275),false,true⟩)]:Boxes)⟩:ASt)) (fun (s:Int)=>match s with | p39=>Yl p39 p19 a0 j274 x273 j272 x275 a1) ?_ ?_
  ·skip
   rintro p39 hk302
   change Yl p39 p19 a0 j274 x273 j272 x275 a1=_ at hk302
   simp only [pq];simp only [und,List.replicate,List.cons_append,List.nil_append];unfold Yl at hk302;refine ZE ?_;refine Xe rfl (kq:=⟨[0,1,10,11],[1000000],[]⟩) rfl (by simp [Yq,]; rfl) (by simp [-Za,Zj]; rfl) ?_;by_cases c303:p39<p19
   ·skip
    rw [if_pos c303] at hk302;refine ZK (by simp [-Za,bV,c303]) ?_;refine ZE ?_;obtain ⟨j304,hj304,hk302⟩:=bs hk302;obtain ⟨j304a,j304b,j304c⟩:=Zq hj304;try simp only [List.length_set] at j304c
    obtain rfl:j274=j304:=j274b.symm.trans j304b;obtain ⟨x305,hx305,hk302⟩:=bs hk302;have ghx305:=Zk hx305;have mhx305:(Zd .u64 (((a0).set j274 x273).set j272 x275))[j274]? = some [.v (.int .u64 x305)]:=by rw [Zcj,hx305]; rfl
    simp only [nf] at mhx305;have mghx305:=Zk mhx305;obtain ⟨j306,hj306,hk302⟩:=bs hk302;obtain ⟨j306a,j306b,j306c⟩:=Zq hj306;try simp only [List.length_set] at j306c
    obtain ⟨x307,hx307,hk302⟩:=bs hk302;have ghx307:=Zk hx307;have mhx307:(Zd .u64 (((a0).set j274 x273).set j272 x275))[j306]? = some [.v (.int .u64 x307)]:=by rw [Zcj,hx307]; rfl
    simp only [nf] at mhx307;have mghx307:=Zk mhx307;obtain ⟨j306a,j306b,j306c⟩:=Zq hj306;try simp only [List.length_set] at j306c
    obtain ⟨j308,hj308,hk302⟩:=bs hk302;obtain ⟨j308a,j308b,j308c⟩:=Zq hj308;try simp only [List.length_set] at j308c
    obtain rfl:j274=j308:=j274b.symm.trans j308b;refine ZY rfl (by simp [-Za,Zj,j304a,j304b,j304c,ghx305,j306a,j306b,j306c,ghx307,c303]; first | exact ⟨rfl,rfl⟩ | rfl) (by kernel_rfl) ?_;refine ZE ?_;refine Ze rfl (by simp [-Za]; rfl) ?_;refine Zck ?_;obtain ⟨_,u309,hk302⟩:=bs hk302;have u309_0:=ZC u309;obtain rfl:=Option.some.inj hk302;simp [-Za,ZaN,u309_0]
   ·skip
    rw [if_neg c303] at hk302;refine Zn (by simp [-Za,bV,c303]) ?_;refine ZB ?_;obtain ⟨j310,hj310,hk302⟩:=bs hk302;obtain ⟨j310a,j310b,j310c⟩:=Zq hj310;try simp only [List.length_set] at j310c
    obtain ⟨x311,hx311,hk302⟩:=bs hk302;have ghx311:=Zk hx311;have mhx311:(Zd .u64 (((a0).set j274 x273).set j272 x275))[j310]? = some [.v (.int .u64 x311)]:=by rw [Zcj,hx311]; rfl
    simp only [nf] at mhx311;have mghx311:=Zk mhx311;obtain ⟨j312,hj312,hk302⟩:=bs hk302;obtain ⟨j312a,j312b,j312c⟩:=Zq hj312;try simp only [List.length_set] at j312c
    obtain ⟨x313,hx313,hk302⟩:=bs hk302;have ghx313:=Zk hx313;have mhx313:(Zd .u64 (((a0).set j274 x273).set j272 x275))[j312]? = some [.v (.int .u64 x313)]:=by rw [Zcj,hx313]; rfl
    simp only [nf] at mhx313;have mghx313:=Zk mhx313;obtain ⟨j312a,j312b,j312c⟩:=Zq hj312;try simp only [List.length_set] at j312c
    obtain ⟨j314,hj314,hk302⟩:=bs hk302;obtain ⟨j314a,j314b,j314c⟩:=Zq hj314;try simp only [List.length_set] at j314c
    obtain rfl:j310=j314:=j310b.symm.trans j314b;refine ZY rfl (by simp [-Za,Zj,j310a,j310b,j310c,ghx311,j312a,j312b,j312c,ghx313,c303]; first | exact ⟨rfl,rfl⟩ | rfl) (by kernel_rfl) ?_;refine Ze rfl (by simp [-Za]; rfl) ?_;refine Ze rfl (by simp [-Za]; rfl) ?_;refine Yh ?_;refine XR (kq:=⟨[0,1,10,11],[1000000],[]⟩) (H:=fun (s:Int×Int×(List Int))=>match s with | (p149,p150,p151)=>(⟨([.one (.ms 1000000 0 0 (p151.length) 1),.one (.v (.int .i64 a1))]++(und 8++([.one (.v (.int .i64 p149)),.one (.v (.int .i64 p150))]++(und 156))):List PV),([(1000000,⟨0,1,Zd .u64 p151,false,true⟩)]:Boxes)⟩:ASt)) (by kernel_rfl) hk302 (by simp [-Za,und,List.replicate]) ?_;rintro ⟨p149,p150,p151⟩ x373r hr373
    simp only [Y0] at hr373;unfold b208_3;simp only [und,List.replicate,List.cons_append,List.nil_append];refine XX ?_;refine Yh ?_;refine ZeA hr373 (.exit 6) (fun (s:Int)=>match s with | p216=>(⟨([.one (.ms 1000000 0 0 (p151.length) 1),.one (.v (.int .i64 a1))]++(und 8++([.one (.v (.int .i64 p216)),.one (.v (.int .i64 p150))]++(und 156))):List PV),([(1000000,⟨0,1,Zd .u64 p151,false,true⟩)]:Boxes)⟩:ASt)) (fun (s:Int)=>match s with | p216=>Yk p216 p151 a1 a0 p150) ?_ ?_
    ·skip
     rintro p216 hk386
     change Yk p216 p151 a1 a0 p150=_ at hk386
     simp only [pq];simp only [und,List.replicate,List.cons_append,List.nil_append];unfold Yk at hk386;refine Yh ?_;refine ZeA hk386 (.exit 8) (fun (s:Int)=>match s with | p236=>(⟨([.one (.ms 1000000 0 0 (p151.length) 1),.one (.v (.int .i64 a1))]++(und 8++([.one (.v (.int .i64 p216)),.one (.v (.int .i64 p236))]++(und 156))):List PV),([(1000000,⟨0,1,Zd .u64 p151,false,true⟩)]:Boxes)⟩:ASt)) (fun (s:Int)=>match s with | p236=>ZR p236 p216 p151 a1 a0) ?_ ?_
     ·skip
      rintro p236 hk399
      change ZR p236 p216 p151 a1 a0=_ at hk399
      simp only [pq];simp only [und,List.replicate,List.cons_append,List.nil_append];unfold ZR at hk399;refine ZE ?_;refine Xe rfl (kq:=⟨[0,1,10,11],[1000000],[]⟩) rfl (by simp [-Za,Yq]; rfl) (by simp [-Za]; rfl) ?_;by_cases c400:p236<p216
      ·skip
       rw [if_pos c400] at hk399;refine ZK (by simp [-Za,bV,c400]) ?_;refine Z4 ?_;obtain ⟨r401,q401,rfl⟩:=ms hk399;simp only [pq];rintro rfl
       try simp only [pq,reduceCtorEq]
       unfold Xo at q401;obtain ⟨j402,hj402,q401⟩:=bs q401;obtain ⟨j402a,j402b,j402c⟩:=Zq hj402;obtain rfl:j274=j402:=j274b.symm.trans j402b;obtain ⟨x403,hx403,q401⟩:=bs q401;have ghx403:=Zk hx403;obtain ⟨j404,hj404,q401⟩:=bs q401;obtain ⟨j404a,j404b,j404c⟩:=Zq hj404;obtain ⟨x405,hx405,q401⟩:=bs q401;have ghx405:=Zk hx405;obtain ⟨j404a,j404b,j404c⟩:=Zq hj404;obtain ⟨j406,hj406,q401⟩:=bs q401;obtain ⟨j406a,j406b,j406c⟩:=Zq hj406;try simp only [List.length_set] at j406c
       obtain rfl:j274=j406:=j274b.symm.trans j406b;refine ZY rfl (by simp [-Za,Zj,j402a,j402b,j402c,ghx403,j404a,j404b,j404c,ghx405,c400]; first | exact ⟨rfl,rfl⟩ | rfl) (by kernel_rfl) ?_;refine Ze rfl (by simp [-Za]; rfl) ?_;refine ZbR ?_;obtain ⟨_,u407,q401⟩:=bs q401;have u407_0:=ZC u407;obtain rfl:=Option.some.inj q401;simp [-Za,ZaN,u407_0]
      ·skip
       rw [if_neg c400] at hk399;refine Zn (by simp [-Za,bV,c400]) ?_;refine ZB ?_;obtain ⟨j408,hj408,hk399⟩:=bs hk399;obtain ⟨j408a,j408b,j408c⟩:=Zq hj408;obtain ⟨x409,hx409,hk399⟩:=bs hk399;have ghx409:=Zk hx409;obtain ⟨j410,hj410,hk399⟩:=bs hk399;obtain ⟨j410a,j410b,j410c⟩:=Zq hj410;obtain ⟨x411,hx411,hk399⟩:=bs hk399;have ghx411:=Zk hx411;obtain ⟨j410a,j410b,j410c⟩:=Zq hj410;obtain ⟨j412,hj412,hk399⟩:=bs hk399;obtain ⟨j412a,j412b,j412c⟩:=Zq hj412;try simp only [List.length_set] at j412c
       obtain rfl:j408=j412:=j408b.symm.trans j412b;refine ZY rfl (by simp [-Za,Zj,j408a,j408b,j408c,ghx409,j410a,j410b,j410c,ghx411,c400]; first | exact ⟨rfl,rfl⟩ | rfl) (by kernel_rfl) ?_;refine Ze rfl (by simp [-Za]; rfl) ?_;refine Y8 rfl (by simp [-Za]; rfl) ?_;obtain rfl:=Option.some.inj hk399;simp only [pq];simp [-Za]
     ·skip
      intro J399;simp only [pq] at J399;refine XR (kq:=⟨[0,1,10,11],[1000000],[]⟩) (H:=fun (s:Int)=>match s with | p236=>(⟨([.one (.ms 1000000 0 0 (p151.length) 1),.one (.v (.int .i64 a1))]++(und 8++([.one (.v (.int .i64 p216)),.one (.v (.int .i64 p236))]++(und 156))):List PV),([(1000000,⟨0,1,Zd .u64 p151,false,true⟩)]:Boxes)⟩:ASt)) (by kernel_rfl) hk386 (by simp [-Za,und,List.replicate]) ?_;rintro p236 x413r hr413
      simp only [YY] at hr413;unfold b208_5;simp only [und,List.replicate,List.cons_append,List.nil_append];refine ZE ?_;by_cases c414:p216≤p236
      ·skip
       rw [if_pos] at hr413;rotate_left
       ·simp [-Za,c414]
       obtain ⟨z415,hz415,hr413⟩:=bs hr413;obtain ⟨j416,hj416,hz415⟩:=bs hz415;obtain ⟨j416a,j416b,j416c⟩:=Zq hj416;obtain ⟨x417,hx417,hz415⟩:=bs hz415;have ghx417:=Zk hx417;obtain ⟨j418,hj418,hz415⟩:=bs hz415;obtain ⟨j418a,j418b,j418c⟩:=Zq hj418;obtain rfl:j274=j418:=j274b.symm.trans j418b;obtain ⟨x419,hx419,hz415⟩:=bs hz415;have ghx419:=Zk hx419;obtain ⟨y420,hy420,hz415⟩:=bs hz415;have ehy420:=Zal hy420;simp only [K156] at ehy420;try simp only [Zj] at ehy420
       obtain rfl:=Option.some.inj hz415;refine ZY rfl (by simp [-Za,j416a,j416b,j416c,ghx417,j418a,j418b,j418c,ghx419,hO,hT156,ehy420,c414]; first | exact ⟨rfl,rfl⟩ | rfl) (by kernel_rfl) ?_;by_cases c421:y420=true
       ·skip
        rw [if_neg] at hr413;rotate_left
        ·simp [-Za,c414,c421]
        refine Zn (by simp [-Za,bV,c421]) ?_;refine Z4 ?_;obtain ⟨r422,q422,rfl⟩:=ms hr413;simp only [pq];rintro rfl
        try simp only [pq,reduceCtorEq]
        exact Xh (key:=1000017) (kq:=⟨[0,1,10,11],[1000000],[]⟩) rfl rfl rfl (by simp [-Za,und,List.replicate,c421]) (J399 p236 q422)
       ·skip
        rw [if_pos] at hr413;rotate_left
        ·simp [-Za,c414,c421]
        refine ZK (by simp [-Za,bV,c421]) ?_;refine ZB ?_;refine XX ?_;refine Y8 rfl (by simp [-Za,c421]; rfl) ?_;obtain rfl:=Option.some.inj hr413;simp only [pq];simp [-Za]
      ·skip
       rw [if_neg] at hr413;rotate_left
       ·simp [-Za,c414]
       obtain ⟨z423,hz423,hr413⟩:=bs hr413;obtain rfl:=Option.some.inj hz423;refine ZY rfl (by simp [-Za,c414]; first | exact ⟨rfl,rfl⟩ | rfl) (by kernel_rfl) ?_;rw [if_neg] at hr413;rotate_left
       ·simp [-Za,c414]
       refine Zn (by simp [-Za,bV]) ?_;refine Z4 ?_;obtain ⟨r424,q424,rfl⟩:=ms hr413;simp only [pq];rintro rfl
       try simp only [pq,reduceCtorEq]
       exact Xh (key:=1000017) (kq:=⟨[0,1,10,11],[1000000],[]⟩) rfl rfl rfl (by simp [-Za,und,List.replicate]) (J399 p236 q424)
    ·skip
     intro J386;simp only [pq] at J386;refine XR (kq:=⟨[0,1,10,11],[1000000],[]⟩) (H:=fun (s:Int)=>match s with | p216=>(⟨([.one (.ms 1000000 0 0 (p151.length) 1),.one (.v (.int .i64 a1))]++(und 8++([.one (.v (.int .i64 p216)),.one (.v (.int .i64 p150))]++(und 156))):List PV),([(1000000,⟨0,1,Zd .u64 p151,false,true⟩)]:Boxes)⟩:ASt)) (by kernel_rfl) hr373 (by simp [-Za,und,List.replicate]) ?_;rintro p216 x425r hr425
     simp only [YZ] at hr425;unfold b208_4;simp only [und,List.replicate,List.cons_append,List.nil_append];refine ZE ?_;by_cases c426:p216≤p150
     ·skip
      rw [if_pos] at hr425;rotate_left
      ·simp [-Za,c426]
      obtain ⟨z427,hz427,hr425⟩:=bs hr425;obtain ⟨j428,hj428,hz427⟩:=bs hz427;obtain ⟨j428a,j428b,j428c⟩:=Zq hj428;obtain ⟨x429,hx429,hz427⟩:=bs hz427;have ghx429:=Zk hx429;obtain ⟨j430,hj430,hz427⟩:=bs hz427;obtain ⟨j430a,j430b,j430c⟩:=Zq hj430;obtain rfl:j274=j430:=j274b.symm.trans j430b;obtain ⟨x431,hx431,hz427⟩:=bs hz427;have ghx431:=Zk hx431;obtain ⟨y432,hy432,hz427⟩:=bs hz427;have ehy432:=Zal hy432;simp only [K156] at ehy432;try simp only [Zj] at ehy432
      obtain rfl:=Option.some.inj hz427;refine ZY rfl (by simp [-Za,j428a,j428b,j428c,ghx429,j430a,j430b,j430c,ghx431,hO,hT156,ehy432,c426]; first | exact ⟨rfl,rfl⟩ | rfl) (by kernel_rfl) ?_;by_cases c433:y432=true
      ·skip
       rw [if_pos] at hr425;rotate_left
       ·simp [-Za,c426,c433]
       refine ZK (by simp [-Za,bV,c433]) ?_;refine ZB ?_;refine XX ?_;refine Y8 rfl (by simp [-Za,c433]; rfl) ?_;obtain rfl:=Option.some.inj hr425;simp only [pq];simp [-Za]
      ·skip
       rw [if_neg] at hr425;rotate_left
       ·simp [-Za,c426,c433]
       refine Zn (by simp [-Za,bV,c433]) ?_;refine Z4 ?_;obtain ⟨r434,q434,rfl⟩:=ms hr425;simp only [pq];rintro rfl
       try simp only [pq,reduceCtorEq]
       exact Xh (key:=15) (kq:=⟨[0,1,10,11],[1000000],[]⟩) rfl rfl rfl (by simp [-Za,und,List.replicate,c433]) (J386 p216 q434)
     ·skip
      rw [if_neg] at hr425;rotate_left
      ·simp [-Za,c426]
      obtain ⟨z435,hz435,hr425⟩:=bs hr425;obtain rfl:=Option.some.inj hz435;refine ZY rfl (by simp [-Za,c426]; first | exact ⟨rfl,rfl⟩ | rfl) (by kernel_rfl) ?_;rw [if_neg] at hr425;rotate_left
      ·simp [-Za,c426]
      refine Zn (by simp [-Za,bV]) ?_;refine Z4 ?_;obtain ⟨r436,q436,rfl⟩:=ms hr425;simp only [pq];rintro rfl
      try simp only [pq,reduceCtorEq]
      exact Xh (key:=15) (kq:=⟨[0,1,10,11],[1000000],[]⟩) rfl rfl rfl (by simp [-Za,und,List.replicate]) (J386 p216 q436)
  ·skip
   intro J302;simp only [pq] at J302;refine XR (kq:=⟨[0,1,10,11],[1000000],[]⟩) (H:=fun (s:Int)=>match s with | p39=>(⟨([.one (.ms 1000000 0 0 ((((a0).set j274 x273).set j272 x275).length) 1),.one (.v (.int .i64 a1))]++(und 8++([.one (.v (.int .i64 p19)),.one (.v (.int .i64 p39))]++(und 156))):List PV),([(1000000,⟨0,1,Zd .u64 (((a0).set j274 x273).set j272 x275),false,true⟩)]:Boxes)⟩:ASt)) (by kernel_rfl) hk289 (by simp [-Za,und,List.replicate,]) ?_;rintro p39 x437r hr437
   simp only [Y1] at hr437;unfold b208_2;simp only [und,List.replicate,List.cons_append,List.nil_append];refine ZE ?_;by_cases c438:p19≤p39
   ·skip
    rw [if_pos] at hr437;rotate_left
    ·simp [-Za,c438]
    obtain ⟨z439,hz439,hr437⟩:=bs hr437;obtain ⟨j440,hj440,hz439⟩:=bs hz439;obtain ⟨j440a,j440b,j440c⟩:=Zq hj440;try simp only [List.length_set] at j440c
    obtain ⟨x441,hx441,hz439⟩:=bs hz439;have ghx441:=Zk hx441;have mhx441:(Zd .u64 (((a0).set j274 x273).set j272 x275))[j440]? = some [.v (.int .u64 x441)]:=by rw [Zcj,hx441]; rfl
    simp only [nf] at mhx441;have mghx441:=Zk mhx441;obtain ⟨j442,hj442,hz439⟩:=bs hz439;obtain ⟨j442a,j442b,j442c⟩:=Zq hj442;try simp only [List.length_set] at j442c
    obtain rfl:j274=j442:=j274b.symm.trans j442b;obtain ⟨x443,hx443,hz439⟩:=bs hz439;have ghx443:=Zk hx443;have mhx443:(Zd .u64 (((a0).set j274 x273).set j272 x275))[j274]? = some [.v (.int .u64 x443)]:=by rw [Zcj,hx443]; rfl
    simp only [nf] at mhx443;have mghx443:=Zk mhx443;obtain ⟨y444,hy444,hz439⟩:=bs hz439;have ehy444:=Zal hy444;simp only [K156] at ehy444;try simp only [Zj] at ehy444
    obtain rfl:=Option.some.inj hz439;refine ZY rfl (by simp [-Za,j440a,j440b,j440c,ghx441,j442a,j442b,j442c,ghx443,hO,hT156,ehy444,c438]; first | exact ⟨rfl,rfl⟩ | rfl) (by kernel_rfl) ?_;by_cases c445:y444=true
    ·skip
     rw [if_neg] at hr437;rotate_left
     ·simp [-Za,c438,c445]
     refine Zn (by simp [-Za,bV,c445]) ?_;refine Z4 ?_;obtain ⟨r446,q446,rfl⟩:=ms hr437;simp only [pq];rintro rfl
     try simp only [pq,reduceCtorEq]
     exact Xh (key:=1000007) (kq:=⟨[0,1,10,11],[1000000],[]⟩) rfl rfl rfl (by simp [-Za,und,List.replicate,c445]) (J302 p39 q446)
    ·skip
     rw [if_pos] at hr437;rotate_left
     ·simp [-Za,c438,c445]
     refine ZK (by simp [-Za,bV,c445]) ?_;refine ZB ?_;refine XX ?_;refine Y8 rfl (by simp [-Za,c445]; rfl) ?_;obtain rfl:=Option.some.inj hr437;simp only [pq];simp [-Za]
   ·skip
    rw [if_neg] at hr437;rotate_left
    ·simp [-Za,c438]
    obtain ⟨z447,hz447,hr437⟩:=bs hr437;obtain rfl:=Option.some.inj hz447;refine ZY rfl (by simp [-Za,c438]; first | exact ⟨rfl,rfl⟩ | rfl) (by kernel_rfl) ?_;rw [if_neg] at hr437;rotate_left
    ·simp [-Za,c438]
    refine Zn (by simp [-Za,bV]) ?_;refine Z4 ?_;obtain ⟨r448,q448,rfl⟩:=ms hr437;simp only [pq];rintro rfl
    try simp only [pq,reduceCtorEq]
    exact Xh (key:=1000007) (kq:=⟨[0,1,10,11],[1000000],[]⟩) rfl rfl rfl (by simp [-Za,und,List.replicate]) (J302 p39 q448)
 ·skip
  intro J289;simp only [pq] at J289;refine XR (kq:=⟨[0,1,10,11],[1000000],[]⟩) (H:=fun (s:Int)=>match s with | p19=>(⟨([.one (.ms 1000000 0 0 ((((a0).set j274 x273).set j272 x275).length) 1),.one (.v (.int .i64 a1))]++(und 8++([.one (.v (.int .i64 p19)),.one (.v (.int .i64 (IntKind.i64.wrap (a2-1))))]++(und 156))):List PV),([(1000000,⟨0,1,Zd .u64 (((a0).set j274 x273).set j272 x275),false,true⟩)]:Boxes)⟩:ASt)) (by kernel_rfl) hr (by simp [-Za,und,List.replicate,]) ?_;rintro p19 x449r hr449
  simp only [Y2] at hr449;unfold b208_1;simp only [und,List.replicate,List.cons_append,List.nil_append];refine ZE ?_;by_cases c450:p19≤IntKind.i64.wrap (a2-1)
  ·skip
   rw [if_pos] at hr449;rotate_left
   ·simp [-Za,c450]
   obtain ⟨z451,hz451,hr449⟩:=bs hr449;obtain ⟨j452,hj452,hz451⟩:=bs hz451;obtain ⟨j452a,j452b,j452c⟩:=Zq hj452;try simp only [List.length_set] at j452c
   obtain ⟨x453,hx453,hz451⟩:=bs hz451;have ghx453:=Zk hx453;have mhx453:(Zd .u64 (((a0).set j274 x273).set j272 x275))[j452]? = some [.v (.int .u64 x453)]:=by rw [Zcj,hx453]; rfl
   simp only [nf] at mhx453;have mghx453:=Zk mhx453;obtain ⟨j454,hj454,hz451⟩:=bs hz451;obtain ⟨j454a,j454b,j454c⟩:=Zq hj454;try simp only [List.length_set] at j454c
   obtain rfl:j274=j454:=j274b.symm.trans j454b;obtain ⟨x455,hx455,hz451⟩:=bs hz451;have ghx455:=Zk hx455;have mhx455:(Zd .u64 (((a0).set j274 x273).set j272 x275))[j274]? = some [.v (.int .u64 x455)]:=by rw [Zcj,hx455]; rfl
   simp only [nf] at mhx455;have mghx455:=Zk mhx455;obtain ⟨y456,hy456,hz451⟩:=bs hz451;have ehy456:=Zal hy456;simp only [K156] at ehy456;try simp only [Zj] at ehy456
   obtain rfl:=Option.some.inj hz451;refine ZY rfl (by simp [-Za,j452a,j452b,j452c,ghx453,j454a,j454b,j454c,ghx455,hO,hT156,ehy456,c450]; first | exact ⟨rfl,rfl⟩ | rfl) (by kernel_rfl) ?_;by_cases c457:y456=true
   ·skip
    rw [if_pos] at hr449;rotate_left
    ·simp [-Za,c450,c457]
    refine ZK (by simp [-Za,bV,c457]) ?_;refine ZB ?_;refine XX ?_;refine Y8 rfl (by simp [-Za,c457]; rfl) ?_;obtain rfl:=Option.some.inj hr449;simp only [pq];simp [-Za]
   ·skip
    rw [if_neg] at hr449;rotate_left
    ·simp [-Za,c450,c457]
    refine Zn (by simp [-Za,bV,c457]) ?_;refine Z4 ?_;obtain ⟨r458,q458,rfl⟩:=ms hr449;simp only [pq];rintro rfl
    try simp only [pq,reduceCtorEq]
    exact Xh (key:=5) (kq:=⟨[0,1,10,11],[1000000],[]⟩) rfl rfl rfl (by simp [-Za,und,List.replicate,c457]) (J289 p19 q458)
  ·skip
   rw [if_neg] at hr449;rotate_left
   ·simp [-Za,c450]
   obtain ⟨z459,hz459,hr449⟩:=bs hr449;obtain rfl:=Option.some.inj hz459;refine ZY rfl (by simp [-Za,c450]; first | exact ⟨rfl,rfl⟩ | rfl) (by kernel_rfl) ?_;rw [if_neg] at hr449;rotate_left
   ·simp [-Za,c450]
   refine Zn (by simp [-Za,bV]) ?_;refine Z4 ?_;obtain ⟨r460,q460,rfl⟩:=ms hr449;simp only [pq];rintro rfl
   try simp only [pq,reduceCtorEq]
   exact Xh (key:=5) (kq:=⟨[0,1,10,11],[1000000],[]⟩) rfl rfl rfl (by simp [-Za,und,List.replicate]) (J289 p19 q460)
end Go.Proofs.YthpkpciceodioaaGreatDoor
