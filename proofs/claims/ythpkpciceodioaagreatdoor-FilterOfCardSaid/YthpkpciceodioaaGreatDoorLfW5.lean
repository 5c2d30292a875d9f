import Derived.Test.YthpkpciceodioaaGreatDoorLfK
import Derived.Test.YthpkpciceodioaaGreatDoorCode
import Derived.Test.YthpkpciceodioaaGreatDoorBl
namespace Go.Proofs.YthpkpciceodioaaGreatDoor
open Go.RowKit
open Go.Av
open Go.Lc
set_option maxRecDepth 100000
set_option linter.unusedSimpArgs false
set_option linter.unusedVariables false
set_option maxHeartbeats 4000000
def kp207_8:Keep:=fun i=>if i=1000007 then ⟨[0,1,9,10],[1000000],[]⟩ else if i=5 then ⟨[0,1,9,10],[1000000],[]⟩ else if i=3 then ⟨[0,1,9,10],[1000000],[]⟩ else ⟨[],[],[]⟩
theorem ZvA {T:Tab} (hO:T.own=fun _=>[]) (hT156:T 156=some K156.G) (a0:(List Int)) (a1:Int) (a2:Int) (a3:Int) (x:Int×(List Int)) (hr:ZP a0 a1 a2 a3=some x):∃ kp fl n,Xj tt T G kp fl n Tryz.f207 (Zea (a0,a1,a2,a3))=some (ZgI (a0,a1,a2,a3) x):=by
 simp only [Zea,ZgI];refine fnE (kp:=kp207_8) (w:=false) body207 (by simp) ?_;unfold c207;rw [Tryz.ntmps207];unfold ZP at hr;refine Ze rfl (by simp [-Za]; rfl) ?_;obtain ⟨j205,hj205,hr⟩:=bs hr;obtain ⟨j205a,j205b,j205c⟩:=Zq hj205;obtain ⟨x206,hx206,hr⟩:=bs hr;have ghx206:=Zk hx206;obtain ⟨j207,hj207,hr⟩:=bs hr;obtain ⟨j207a,j207b,j207c⟩:=Zq hj207;obtain ⟨x208,hx208,hr⟩:=bs hr;have ghx208:=Zk hx208;obtain ⟨j207a,j207b,j207c⟩:=Zq hj207;obtain ⟨j209,hj209,hr⟩:=bs hr;obtain ⟨j209a,j209b,j209c⟩:=Zq hj209;try simp only [List.length_set] at j209c
 obtain rfl:j205=j209:=j205b.symm.trans j209b;refine ZY rfl (by simp [-Za,Zj,j205a,j205b,j205c,ghx206,j207a,j207b,j207c,ghx208]; first | exact ⟨rfl,rfl⟩ | rfl) (by kernel_rfl) ?_;refine Ze rfl (by simp [-Za]; rfl) ?_;refine Yh ?_;refine XR (kq:=⟨[0,1,9,10],[1000000],[]⟩) (H:=fun (s:Int×Int×(List Int))=>match s with | (p99,p100,p101)=>(⟨([.one (.ms 1000000 0 0 (p101.length) 1),.one (.v (.int .i64 a1))]++(und 7++([.one (.v (.int .i64 p99)),.one (.v (.int .i64 p100))]++(und 73))):List PV),([(1000000,⟨0,1,Zd .u64 p101,false,true⟩)]:Boxes)⟩:ASt)) (by kernel_rfl) hr (by simp [-Za,und,List.replicate,]) ?_;rintro ⟨p99,p100,p101⟩ x268r hr268
 simp only [YC] at hr268;unfold b207_1;simp only [und,List.replicate,List.cons_append,List.nil_append];refine XX ?_;refine Yh ?_;refine ZeA hr268 (.exit 2) (fun (s:Int)=>match s with | p161=>(⟨([.one (.ms 1000000 0 0 (p101.length) 1),.one (.v (.int .i64 a1))]++(und 7++([.one (.v (.int .i64 p161)),.one (.v (.int .i64 p100))]++(und 73))):List PV),([(1000000,⟨0,1,Zd .u64 p101,false,true⟩)]:Boxes)⟩:ASt)) (fun (s:Int)=>match s with | p161=>Ya p161 p101 a1 a0 p100) ?_ ?_
 ·skip
  rintro p161 hk281
  change Ya p161 p101 a1 a0 p100=_ at hk281
  simp only [pq];simp only [und,List.replicate,List.cons_append,List.nil_append];unfold Ya at hk281;refine Yh ?_;refine ZeA hk281 (.exit 4) (fun (s:Int)=>match s with | p181=>(⟨([.one (.ms 1000000 0 0 (p101.length) 1),.one (.v (.int .i64 a1))]++(und 7++([.one (.v (.int .i64 p161)),.one (.v (.int .i64 p181))]++(und 73))):List PV),([(1000000,⟨0,1,Zd .u64 p101,false,true⟩)]:Boxes)⟩:ASt)) (fun (s:Int)=>match s with | p181=>ZF p181 p161 p101 a0) ?_ ?_
  ·skip
   rintro p181 hk294
   change ZF p181 p161 p101 a0=_ at hk294
   simp only [pq];simp only [und,List.replicate,List.cons_append,List.nil_append];unfold ZF at hk294;refine ZE ?_;refine Xe rfl (kq:=⟨[0,1,9,10],[1000000],[]⟩) rfl (by simp [Yq,]; rfl) (by simp [-Za]; rfl) ?_;by_cases c295:p181<p161
   ·skip
    rw [if_pos c295] at hk294;refine ZK (by simp [-Za,bV,c295]) ?_;refine Z4 ?_;obtain ⟨r296,q296,rfl⟩:=ms hk294;simp only [pq,reduceCtorEq];rintro rfl
    try simp only [pq,reduceCtorEq]
    unfold Xy at q296;refine Ze rfl (by simp [-Za,c295]; rfl) ?_;refine ZbR ?_;obtain ⟨_,u297,q296⟩:=bs q296;have u297_0:=ZC u297;obtain rfl:=Option.some.inj q296;simp [-Za,ZaN,u297_0]
   ·skip
    rw [if_neg c295] at hk294;refine Zn (by simp [-Za,bV,c295]) ?_;refine ZB ?_;obtain ⟨j298,hj298,hk294⟩:=bs hk294;obtain ⟨j298a,j298b,j298c⟩:=Zq hj298;obtain ⟨x299,hx299,hk294⟩:=bs hk294;have ghx299:=Zk hx299;obtain ⟨j300,hj300,hk294⟩:=bs hk294;obtain ⟨j300a,j300b,j300c⟩:=Zq hj300;obtain ⟨x301,hx301,hk294⟩:=bs hk294;have ghx301:=Zk hx301;obtain ⟨j300a,j300b,j300c⟩:=Zq hj300;obtain ⟨j302,hj302,hk294⟩:=bs hk294;obtain ⟨j302a,j302b,j302c⟩:=Zq hj302;try simp only [List.length_set] at j302c
    obtain rfl:j298=j302:=j298b.symm.trans j302b;refine ZY rfl (by simp [-Za,Zj,j298a,j298b,j298c,ghx299,j300a,j300b,j300c,ghx301,c295]; first | exact ⟨rfl,rfl⟩ | rfl) (by kernel_rfl) ?_;refine Ze rfl (by simp [-Za]; rfl) ?_;refine Y8 rfl (by simp [-Za]; rfl) ?_;obtain rfl:=Option.some.inj hk294;simp only [pq];simp [-Za]
  ·skip
   intro J294;simp only [pq] at J294;refine XR (kq:=⟨[0,1,9,10],[1000000],[]⟩) (H:=fun (s:Int)=>match s with | p181=>(⟨([.one (.ms 1000000 0 0 (p101.length) 1),.one (.v (.int .i64 a1))]++(und 7++([.one (.v (.int .i64 p161)),.one (.v (.int .i64 p181))]++(und 73))):List PV),([(1000000,⟨0,1,Zd .u64 p101,false,true⟩)]:Boxes)⟩:ASt)) (by kernel_rfl) hk281 (by simp [-Za,und,List.replicate,]) ?_;rintro p181 x303r hr303
   simp only [YA] at hr303;unfold b207_3;simp only [und,List.replicate,List.cons_append,List.nil_append];refine ZE ?_;by_cases c304:p161≤p181
   ·skip
    rw [if_pos] at hr303;rotate_left
    ·simp [-Za,c304]
    obtain ⟨z305,hz305,hr303⟩:=bs hr303;obtain ⟨j306,hj306,hz305⟩:=bs hz305;obtain ⟨j306a,j306b,j306c⟩:=Zq hj306;obtain rfl:j207=j306:=j207b.symm.trans j306b;obtain ⟨x307,hx307,hz305⟩:=bs hz305;have ghx307:=Zk hx307;obtain ⟨j308,hj308,hz305⟩:=bs hz305;obtain ⟨j308a,j308b,j308c⟩:=Zq hj308;obtain ⟨x309,hx309,hz305⟩:=bs hz305;have ghx309:=Zk hx309;obtain ⟨y310,hy310,hz305⟩:=bs hz305;have ehy310:=Zal hy310;simp only [K156] at ehy310;try simp only [Zj] at ehy310
    obtain rfl:=Option.some.inj hz305;refine ZY rfl (by simp [-Za,j306a,j306b,j306c,ghx307,j308a,j308b,j308c,ghx309,hO,hT156,ehy310,c304]; first | exact ⟨rfl,rfl⟩ | rfl) (by kernel_rfl) ?_;by_cases c311:y310=true
    ·skip
     rw [if_pos] at hr303;rotate_left
     ·simp [-Za,c304,c311]
     refine ZK (by simp [-Za,bV,c311]) ?_;refine ZB ?_;refine XX ?_;refine Y8 rfl (by simp [-Za,c311]; rfl) ?_;obtain rfl:=Option.some.inj hr303;simp only [pq];simp [-Za]
    ·skip
     rw [if_neg] at hr303;rotate_left
     ·simp [-Za,c304,c311]
     refine Zn (by simp [-Za,bV,c311]) ?_;refine Z4 ?_;obtain ⟨r312,q312,rfl⟩:=ms hr303;simp only [pq];rintro rfl
     try simp only [pq,reduceCtorEq]
     exact Xh (key:=1000007) (kq:=⟨[0,1,9,10],[1000000],[]⟩) rfl rfl rfl (by simp [-Za,und,List.replicate,c311]) (J294 p181 q312)
   ·skip
    rw [if_neg] at hr303;rotate_left
    ·simp [-Za,c304]
    obtain ⟨z313,hz313,hr303⟩:=bs hr303;obtain rfl:=Option.some.inj hz313;refine ZY rfl (by simp [-Za,c304]; first | exact ⟨rfl,rfl⟩ | rfl) (by kernel_rfl) ?_;rw [if_neg] at hr303;rotate_left
    ·simp [-Za,c304]
    refine Zn (by simp [-Za,bV]) ?_;refine Z4 ?_;obtain ⟨r314,q314,rfl⟩:=ms hr303;simp only [pq];rintro rfl
    try simp only [pq,reduceCtorEq]
    exact Xh (key:=1000007) (kq:=⟨[0,1,9,10],[1000000],[]⟩) rfl rfl rfl (by simp [-Za,und,List.replicate]) (J294 p181 q314)
 ·skip
  intro J281;simp only [pq] at J281;refine XR (kq:=⟨[0,1,9,10],[1000000],[]⟩) (H:=fun (s:Int)=>match s with | p161=>(⟨([.one (.ms 1000000 0 0 (p101.length) 1),.one (.v (.int .i64 a1))]++(und 7++([.one (.v (.int .i64 p161)),.one (.v (.int .i64 p100))]++(und 73))):List PV),([(1000000,⟨0,1,Zd .u64 p101,false,true⟩)]:Boxes)⟩:ASt)) (by kernel_rfl) hr268 (by simp [-Za,und,List.replicate,]) ?_;rintro p161 x315r hr315
  simp only [YB] at hr315;unfold b207_2;simp only [und,List.replicate,List.cons_append,List.nil_append];refine ZE ?_;by_cases c316:p161≤p100
  ·skip
   rw [if_pos] at hr315;rotate_left
   ·simp [-Za,c316]
   obtain ⟨z317,hz317,hr315⟩:=bs hr315;obtain ⟨j318,hj318,hz317⟩:=bs hz317;obtain ⟨j318a,j318b,j318c⟩:=Zq hj318;obtain rfl:j207=j318:=j207b.symm.trans j318b;obtain ⟨x319,hx319,hz317⟩:=bs hz317;have ghx319:=Zk hx319;obtain ⟨j320,hj320,hz317⟩:=bs hz317;obtain ⟨j320a,j320b,j320c⟩:=Zq hj320;obtain ⟨x321,hx321,hz317⟩:=bs hz317;have ghx321:=Zk hx321;obtain ⟨y322,hy322,hz317⟩:=bs hz317;have ehy322:=Zal hy322;simp only [K156] at ehy322;try simp only [Zj] at ehy322
   obtain rfl:=Option.some.inj hz317;refine ZY rfl (by simp [-Za,j318a,j318b,j318c,ghx319,j320a,j320b,j320c,ghx321,hO,hT156,ehy322,c316]; first | exact ⟨rfl,rfl⟩ | rfl) (by kernel_rfl) ?_;by_cases c323:y322=true
   ·skip
    rw [if_neg] at hr315;rotate_left
    ·simp [-Za,c316,c323]
    refine Zn (by simp [-Za,bV,c323]) ?_;refine Z4 ?_;obtain ⟨r324,q324,rfl⟩:=ms hr315;simp only [pq];rintro rfl
    try simp only [pq,reduceCtorEq]
    exact Xh (key:=5) (kq:=⟨[0,1,9,10],[1000000],[]⟩) rfl rfl rfl (by simp [-Za,und,List.replicate,c323]) (J281 p161 q324)
   ·skip
    rw [if_pos] at hr315;rotate_left
    ·simp [-Za,c316,c323]
    refine ZK (by simp [-Za,bV,c323]) ?_;refine ZB ?_;refine XX ?_;refine Y8 rfl (by simp [-Za,c323]; rfl) ?_;obtain rfl:=Option.some.inj hr315;simp only [pq];simp [-Za]
  ·skip
   rw [if_neg] at hr315;rotate_left
   ·simp [-Za,c316]
   obtain ⟨z325,hz325,hr315⟩:=bs hr315;obtain rfl:=Option.some.inj hz325;refine ZY rfl (by simp [-Za,c316]; first | exact ⟨rfl,rfl⟩ | rfl) (by kernel_rfl) ?_;rw [if_neg] at hr315;rotate_left
   ·simp [-Za,c316]
   refine Zn (by simp [-Za,bV]) ?_;refine Z4 ?_;obtain ⟨r326,q326,rfl⟩:=ms hr315;simp only [pq];rintro rfl
   try simp only [pq,reduceCtorEq]
   exact Xh (key:=5) (kq:=⟨[0,1,9,10],[1000000],[]⟩) rfl rfl rfl (by simp [-Za,und,List.replicate]) (J281 p161 q326)
end Go.Proofs.YthpkpciceodioaaGreatDoor
