import Derived.Test.YtbppknpnmjhjpaaGreatDoorLfK
import Derived.Test.YtbppknpnmjhjpaaGreatDoorCode
import Derived.Test.YtbppknpnmjhjpaaGreatDoorBl
namespace Go.Proofs.YtbppknpnmjhjpaaGreatDoor
open Go.RowKit
open Go.Av
open Go.Lc
set_option maxRecDepth 100000
set_option linter.unusedSimpArgs false
set_option linter.unusedVariables false
set_option maxHeartbeats 4000000
theorem w81:Walk tt G [] (fun _=>[]) Tryz.f81 K81:=by
 refine .ak [(2,⟨[0,3,7,8],[3],[]⟩)] false Tryz.ntmps81 fun T hO hT ⟨a0,a1⟩ x=>?_
 simp only[Zh] at hT; simp only[kS,nfs,Zbj,Lref11_place_k1];refine au ?_
 intros; refine lpP 2 (fun p4=>([(8,.one (.v (.int .i64 p4)))],[])) ?_; rintro p4 x; simp only[Zbi,Lref11_place_k1]
 exact au
theorem w82:Walk tt G [(81,K81.G)] (fun _=>[]) Tryz.f82 K82:=by
 refine .ak [(2,⟨[1,10,11,12],[],[]⟩),(5,⟨[1,5,10,11,12,18,19,20],[],[]⟩)] false Tryz.ntmps82 fun T hO hT ⟨a0,a1⟩ x=>?_
 simp only[Zh] at hT; simp only[kS,nfs,ZaZ,Lref11_forward_k1,Zbt];refine au ?_
 intros; refine lpP 2 (fun p20=>([(12,.one (.v (.int .i64 p20)))],[])) ?_; rintro p20 x; simp only[Zc3,Lref11_forward_k1,Zbt]
 refine au ?_
 intros; refine lpP 5 (fun p36=>([(20,.one (.v (.int .i64 p36)))],[])) ?_; rintro p36 x; simp only[Zbu,Lref11_forward_k1,Zbt]
 exact au
theorem w83:Walk tt G [] (fun _=>[]) Tryz.f83 K83:=by
 refine .ak [(3,⟨[3,11,12,13],[39],[(3,none,39,33)]⟩),(6,⟨[3,11,12,13,18,19,20],[39],[]⟩),(9,⟨[3,7,11,12,13,18,19,20,24,25,26],[7,39],[]⟩)] false Tryz.ntmps83 fun T hO hT a0 x=>?_
 simp only[Zh] at hT; simp only[kS,nfs,Zct,Lref11_twice_k1,ZcG,XJ];refine au ?_
 intros; refine lpP 3 (fun⟨p69,p70⟩=>([(3,.one (.ms 39 0 0 (p70.length) 33)),(13,.one (.v (.int .i64 p69)))],[(39,⟨0,33,List.map eapi_OutPoint p70,false,true⟩)])) ?_; rintro⟨p69,p70⟩ x; simp only[Zey,Lref11_twice_k1,ZcG,XJ]
 refine au ?_
 intros; refine lpP 6 (fun⟨p129,p130⟩=>([(3,.one (.ms 39 0 0 (p130.length) 33)),(20,.one (.v (.int .i64 p129)))],[(39,⟨0,33,List.map eapi_OutPoint p130,false,true⟩)])) ?_; rintro⟨p129,p130⟩ x; simp only[Zbk,Lref11_twice_k1,ZcG,XJ]
 refine au ?_
 intros; refine lpP 9 (fun p147=>([(26,.one (.v (.int .i64 p147)))],[])) ?_; rintro p147 x; simp only[XK,Lref11_twice_k1,ZcG,XJ]
 exact au
theorem w39:Walk tt G [(77,K77.G),(78,K78.G),(79,K79.G),(80,K80.G),(81,K81.G),(82,K82.G),(83,K83.G),(84,K84.G)] (fun _=>[]) Tryz.f39 K39:=by
 refine .ak [(6,⟨[1,20,21,22],[1],[]⟩),(13,⟨[1,5,34,35,36],[1],[]⟩),(20,⟨[1,5,47,48,49],[1,62],[(5,none,62,32)]⟩)] false Tryz.ntmps39 fun T hO hT a0 x=>?_
 simp only[Zh] at hT; simp only[kS,nfs,ZaC,XL,XM,Zat];refine au ?_
 intros; refine lpP 6 (fun p7=>([(22,.one (.v (.int .i64 p7)))],[])) ?_; rintro p7 x; simp only[ZcI,XL,XM,Zat]
 refine au ?_
 intros; refine lpP 13 (fun p15=>([(36,.one (.v (.int .i64 p15)))],[])) ?_; rintro p15 x; simp only[ZcH,XL,XM,Zat]
 refine au ?_
 intros; refine lpP 20 (fun⟨p27,p28⟩=>([(5,.one (.ms 62 0 0 (p28.length) 32)),(49,.one (.v (.int .i64 p27)))],[(62,⟨0,32,List.map (arC .u8) p28,false,true⟩)])) ?_; rintro⟨p27,p28⟩ x; simp only[Zbl,XL,XM,Zat]
 exact au
section
@[local simp] theorem ZA3 {k:IntKind}{n:Nat}{a:Arr n}{l:List Cell}{j:Nat}(h:j<n):(arC k a++l)[j]? = (arC k a)[j]? := List.getElem?_append_left (by simpa using h)
def kp190:Keep:=fun i=>if i=2 then⟨[2,3,6],[2,3],[]⟩ else⟨[],[],[]⟩
theorem w190 {T:Tab}(a0:Tapi_OutPoint) (a1:Tapi_OutPoint) (x:Int) (hr:Xc a0 a1=some x):∃ kp fl n,ZN tt T G kp fl n Tryz.f190 (ZhP (a0,a1))=some (ZjQ (a0,a1) x):=by
 simp only[ZhP,ZjQ];refine fnE (kp:=kp190) (w:=false) body190 (by simp) ?_;unfold c190;rw[Tryz.ntmps190];unfold Xc at hr;refine Zd rfl (by simp[]; rfl) ?_;refine ZA ?_;refine Zd rfl (by simp[]; rfl) ?_;refine Zx ?_;refine Xs (kq:=⟨[2,3,6],[2,3],[]⟩) (H:=fun(s:Int)=>match s with | p3=>(⟨(und 2++([.ptr 2 0 0 0 33,.ptr 3 0 0 0 33]++(und 2++([.one (.v (.int .i64 p3))]++(und 33)))):List PV),([(2,⟨0,33,[(arC .u8 a0.1)++((.v (.int .u32 a0.2)) :: [])],false,false⟩),(3,⟨0,33,[(arC .u8 a1.1)++((.v (.int .u32 a1.2)) :: [])],false,false⟩)]:Boxes)⟩:ASt)) (by kernel_rfl) hr (by simp[und,List.replicate,]) ?_;rintro p3 x20r hr20
 simp only[ZhF] at hr20;unfold b190_1;simp only[und,List.replicate,List.cons_append,List.nil_append];refine Zd rfl (by simp[]; rfl) ?_;by_cases c21:p3<32
 ·skip
  rw[if_pos] at hr20;rotate_left
  ·simp[c21]
  refine Zw (by simp[bV,c21]) ?_;refine ZD ?_;refine Zx ?_;refine Zd rfl (by simp[c21]; rfl) ?_;refine ZA ?_;obtain⟨j22,hj22,hr20⟩:=bs hr20;obtain⟨j22a,j22b,j22c⟩:=Yj hj22;have j22d:j22≤31:=by omega
  have ar23:=YO (k:=.u8) (a0.1) (i:=j22) j22c;have as24:=Y4 (k:=.u8) (a0.1) (i:=j22) j22c;obtain⟨j22a,j22b,j22c⟩:=Yj hj22;have j22d:j22≤31:=by omega
  have ar25:=YO (k:=.u8) (a1.1) (i:=j22) j22c;have as26:=Y4 (k:=.u8) (a1.1) (i:=j22) j22c;refine Z6 rfl (by simp[j22a,j22b,j22c,j22d,ar23,as24,ar25,as26,c21]; first | exact⟨rfl,rfl⟩ | rfl) (by kernel_rfl) ?_;by_cases c27:a0.1.at j22<a1.1.at j22
  ·skip
   rw[if_pos] at hr20;rotate_left
   ·simp[c21,c27]
   refine Zw (by simp[bV,c21,c27]) ?_;refine ZA ?_;refine Zd rfl (by simp[c21,c27]; rfl) ?_;refine Zac ?_;obtain rfl:=Option.some.inj hr20;simp only[pq,reduceCtorEq];rintro rfl
   simp[YP,c21,c27]
  ·skip
   rw[if_neg] at hr20;rotate_left
   ·simp[c21,c27]
   refine Zv (by simp[bV,c21,c27]) ?_;refine ZD ?_;obtain⟨j22a,j22b,j22c⟩:=Yj hj22;have j22d:j22≤31:=by omega
   have ar28:=YO (k:=.u8) (a0.1) (i:=j22) j22c;have as29:=Y4 (k:=.u8) (a0.1) (i:=j22) j22c;obtain⟨j22a,j22b,j22c⟩:=Yj hj22;have j22d:j22≤31:=by omega
   have ar30:=YO (k:=.u8) (a1.1) (i:=j22) j22c;have as31:=Y4 (k:=.u8) (a1.1) (i:=j22) j22c;refine Z6 rfl (by simp[j22a,j22b,j22c,j22d,ar28,as29,ar30,as31,c21,c27]; first | exact⟨rfl,rfl⟩ | rfl) (by kernel_rfl) ?_;by_cases c32:a1.1.at j22<a0.1.at j22
   ·skip
    rw[if_pos] at hr20;rotate_left
    ·simp[c21,c27,c32]
    refine ZcS (by simp[bV,c21,c27,c32]) ?_;refine Zd rfl (by simp[c21,c27,c32]; rfl) ?_;refine Zai ?_;obtain rfl:=Option.some.inj hr20;simp only[pq,reduceCtorEq];rintro rfl
    simp[YP,c21,c27,c32]
   ·skip
    rw[if_neg] at hr20;rotate_left
    ·simp[c21,c27,c32]
    refine ZdI (by simp[bV,c21,c27,c32]) ?_;refine Ze7 ?_;simp only[pq,reduceCtorEq];refine Xb rfl (by simp[c21,c27,c32]; rfl) ?_;obtain rfl:=Option.some.inj hr20;simp only[pq,reduceCtorEq];simp[und,List.replicate,Nat.add_assoc,c21,c27,c32]
 ·skip
  rw[if_neg] at hr20;rotate_left
  ·simp[c21]
  refine Zv (by simp[bV,c21]) ?_;refine Z7 ?_;obtain⟨r33,q33,rfl⟩:=ms hr20;simp only[pq,reduceCtorEq];rintro rfl
  try simp only[pq,reduceCtorEq]
  unfold ZhE at q33;refine Zx ?_;refine Zd rfl (by simp[c21]; rfl) ?_;by_cases c34:a0.2<a1.2
  ·skip
   rw[if_pos c34] at q33;refine ZcS (by simp[bV,c21,c34]) ?_;refine Zd rfl (by simp[c21,c34]; rfl) ?_;refine Zai ?_;obtain rfl:=Option.some.inj q33;simp[YP,c21,c34]
  ·skip
   rw[if_neg c34] at q33;refine ZdI (by simp[bV,c21,c34]) ?_;refine Zd rfl (by simp[c21,c34]; rfl) ?_;by_cases c35:a1.2<a0.2
   ·skip
    rw[if_pos c35] at q33;refine ZcS (by simp[bV,c21,c34,c35]) ?_;refine Zd rfl (by simp[c21,c34,c35]; rfl) ?_;refine Zai ?_;obtain rfl:=Option.some.inj q33;simp[YP,c21,c34,c35]
   ·skip
    rw[if_neg c35] at q33;refine ZdI (by simp[bV,c21,c34,c35]) ?_;refine Ze7 ?_;simp only[pq,reduceCtorEq];refine Zd rfl (by simp[c21,c34,c35]; rfl) ?_;refine Zai ?_;obtain rfl:=Option.some.inj q33;simp[YP,c21,c34,c35]
end
theorem w152:Walk tt G [(190,G190)] (fun _=>[]) Tryz.f152 K152:=by
 refine .ak [(5,⟨[1,3,21,22,23],[1],[]⟩)] false Tryz.ntmps152 fun T hO hT a0 x=>?_
 simp only[Zh] at hT; simp only[kS,nfs,ZdZ,Lref23_Sound_k1];refine au ?_
 intros; refine lpP 5 (fun⟨p11,p12⟩=>([(3,.one (.v (.int .i64 p11))),(23,.one (.v (.int .i64 p12)))],[])) ?_; rintro⟨p11,p12⟩ x; simp only[Zi2,Lref23_Sound_k1]
 exact au
end Go.Proofs.YtbppknpnmjhjpaaGreatDoor
