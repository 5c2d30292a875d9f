import Derived.Test.YtcfpmbefhfbdjaaGreatDoorLfK
import Derived.Test.YtcfpmbefhfbdjaaGreatDoorCode
import Derived.Test.YtcfpmbefhfbdjaaGreatDoorBl
namespace Go.Proofs.YtcfpmbefhfbdjaaGreatDoor
open Go.RowKit
open Go.Av
open Go.Lc
set_option maxRecDepth 100000
set_option linter.unusedSimpArgs false
set_option linter.unusedVariables false
set_option maxHeartbeats 4000000
section
@[local simp] theorem ZyQ {k:IntKind}{n:Nat}{a:Arr n}{l:List Cell}{j:Nat}(h:j<n):(arC k a++l)[j]? = (arC k a)[j]? := List.getElem?_append_left (by simpa using h)
def kp144:Keep:=fun i=>if i=2 then⟨[2,3,6],[2,3],[]⟩ else⟨[],[],[]⟩
theorem w144 {T:Tab}(a0:Tapi_OutPoint) (a1:Tapi_OutPoint) (x:Int) (hr:Xd a0 a1=some x):∃ kp fl n,ZZ tt T G kp fl n Tryz.f144 (Zgz (a0,a1))=some (ZiD (a0,a1) x):=by
 simp only[Zgz,ZiD];refine fnE (kp:=kp144) (w:=false) body144 (by simp) ?_;unfold c144;rw[Tryz.ntmps144];unfold Xd at hr;refine Zd rfl (by simp[]; rfl) ?_;refine ZH ?_;refine Zd rfl (by simp[]; rfl) ?_;refine ZD ?_;refine X8 (kq:=⟨[2,3,6],[2,3],[]⟩) (H:=fun(s:Int)=>match s with | p3=>(⟨(und 2++([.ptr 2 0 0 0 33,.ptr 3 0 0 0 33]++(und 2++([.one (.v (.int .i64 p3))]++(und 33)))):List PV),([(2,⟨0,33,[(arC .u8 a0.1)++((.v (.int .u32 a0.2)) :: [])],false,false⟩),(3,⟨0,33,[(arC .u8 a1.1)++((.v (.int .u32 a1.2)) :: [])],false,false⟩)]:Boxes)⟩:ASt)) (by kernel_rfl) hr (by simp[und,List.replicate,]) ?_;rintro p3 x20r hr20
 simp only[Zgr] at hr20;unfold b144_1;simp only[und,List.replicate,List.cons_append,List.nil_append];refine Zd rfl (by simp[]; rfl) ?_;by_cases c21:p3<32
 ·skip
  rw[if_pos] at hr20;rotate_left
  ·simp[c21]
  refine ZC (by simp[bV,c21]) ?_;refine ZM ?_;refine ZD ?_;refine Zd rfl (by simp[c21]; rfl) ?_;refine ZH ?_;obtain⟨j22,hj22,hr20⟩:=bs hr20;obtain⟨j22a,j22b,j22c⟩:=YQ hj22;have j22d:j22≤31:=by omega
  have ar23:=YK (k:=.u8) (a0.1) (i:=j22) j22c;have as24:=Y3 (k:=.u8) (a0.1) (i:=j22) j22c;obtain⟨j22a,j22b,j22c⟩:=YQ hj22;have j22d:j22≤31:=by omega
  have ar25:=YK (k:=.u8) (a1.1) (i:=j22) j22c;have as26:=Y3 (k:=.u8) (a1.1) (i:=j22) j22c;refine Xf rfl (by simp[j22a,j22b,j22c,j22d,ar23,as24,ar25,as26,c21]; first | exact⟨rfl,rfl⟩ | rfl) (by kernel_rfl) ?_;by_cases c27:a0.1.at j22<a1.1.at j22
  ·skip
   rw[if_pos] at hr20;rotate_left
   ·simp[c21,c27]
   refine ZC (by simp[bV,c21,c27]) ?_;refine ZH ?_;refine Zd rfl (by simp[c21,c27]; rfl) ?_;refine ZaO ?_;obtain rfl:=Option.some.inj hr20;simp only[pq,reduceCtorEq];rintro rfl
   simp[YW,c21,c27]
  ·skip
   rw[if_neg] at hr20;rotate_left
   ·simp[c21,c27]
   refine ZF (by simp[bV,c21,c27]) ?_;refine ZM ?_;obtain⟨j22a,j22b,j22c⟩:=YQ hj22;have j22d:j22≤31:=by omega
   have ar28:=YK (k:=.u8) (a0.1) (i:=j22) j22c;have as29:=Y3 (k:=.u8) (a0.1) (i:=j22) j22c;obtain⟨j22a,j22b,j22c⟩:=YQ hj22;have j22d:j22≤31:=by omega
   have ar30:=YK (k:=.u8) (a1.1) (i:=j22) j22c;have as31:=Y3 (k:=.u8) (a1.1) (i:=j22) j22c;refine Xf rfl (by simp[j22a,j22b,j22c,j22d,ar28,as29,ar30,as31,c21,c27]; first | exact⟨rfl,rfl⟩ | rfl) (by kernel_rfl) ?_;by_cases c32:a1.1.at j22<a0.1.at j22
   ·skip
    rw[if_pos] at hr20;rotate_left
    ·simp[c21,c27,c32]
    refine Zg7 (by simp[bV,c21,c27,c32]) ?_;refine Zd rfl (by simp[c21,c27,c32]; rfl) ?_;refine Zaf ?_;obtain rfl:=Option.some.inj hr20;simp only[pq,reduceCtorEq];rintro rfl
    simp[YW,c21,c27,c32]
   ·skip
    rw[if_neg] at hr20;rotate_left
    ·simp[c21,c27,c32]
    refine Zg8 (by simp[bV,c21,c27,c32]) ?_;refine Zic ?_;simp only[pq,reduceCtorEq];refine XY rfl (by simp[c21,c27,c32]; rfl) ?_;obtain rfl:=Option.some.inj hr20;simp only[pq,reduceCtorEq];simp[und,List.replicate,Nat.add_assoc,c21,c27,c32]
 ·skip
  rw[if_neg] at hr20;rotate_left
  ·simp[c21]
  refine ZF (by simp[bV,c21]) ?_;refine Ys ?_;obtain⟨r33,q33,rfl⟩:=ms hr20;simp only[pq,reduceCtorEq];rintro rfl
  try simp only[pq,reduceCtorEq]
  unfold Zgq at q33;refine ZD ?_;refine Zd rfl (by simp[c21]; rfl) ?_;by_cases c34:a0.2<a1.2
  ·skip
   rw[if_pos c34] at q33;refine Zg7 (by simp[bV,c21,c34]) ?_;refine Zd rfl (by simp[c21,c34]; rfl) ?_;refine Zaf ?_;obtain rfl:=Option.some.inj q33;simp[YW,c21,c34]
  ·skip
   rw[if_neg c34] at q33;refine Zg8 (by simp[bV,c21,c34]) ?_;refine Zd rfl (by simp[c21,c34]; rfl) ?_;by_cases c35:a1.2<a0.2
   ·skip
    rw[if_pos c35] at q33;refine Zg7 (by simp[bV,c21,c34,c35]) ?_;refine Zd rfl (by simp[c21,c34,c35]; rfl) ?_;refine Zaf ?_;obtain rfl:=Option.some.inj q33;simp[YW,c21,c34,c35]
   ·skip
    rw[if_neg c35] at q33;refine Zg8 (by simp[bV,c21,c34,c35]) ?_;refine Zic ?_;simp only[pq,reduceCtorEq];refine Zd rfl (by simp[c21,c34,c35]; rfl) ?_;refine Zaf ?_;obtain rfl:=Option.some.inj q33;simp[YW,c21,c34,c35]
end
theorem w112:Walk tt G [(144,G144)] (fun _=>[]) Tryz.f112 K112:=by
 refine .ak [(5,⟨[1,3,21,22,23],[1],[]⟩)] false Tryz.ntmps112 fun T hO hT a0 x=>?_
 simp only[Zh] at hT; simp only[kS,nfs,Zda,Lref23_Sound_k1];refine au ?_
 intros; refine lpP 5 (fun⟨p11,p12⟩=>([(3,.one (.v (.int .i64 p11))),(23,.one (.v (.int .i64 p12)))],[])) ?_; rintro⟨p11,p12⟩ x; simp only[ZhN,Lref23_Sound_k1]
 exact au
theorem w151:Walk tt G [] (fun _=>[]) Tryz.f151 K151:=by
 refine .ak [] false Tryz.ntmps151 fun T hO hT a0 x=>?_
 simp only[Zh] at hT; simp only[kS,nfs,ZdS];exact au
theorem w116:Walk tt G [(151,K151.G)] (fun _=>[]) Tryz.f116 K116:=by
 refine .ak [] false Tryz.ntmps116 fun T hO hT a0 x=>?_
 simp only[Zh] at hT; simp only[kS,nfs,X5];exact au
theorem w190:Walk tt G [(141,K141.G),(142,K142.G)] (fun _=>[]) Tryz.f190 K190:=by
 refine .ak [] false Tryz.ntmps190 fun T hO hT ⟨a0,a1⟩ x=>?_
 simp only[Zh] at hT; simp only[kS,nfs,Zdx];exact au
theorem w177:Walk tt G [(38,K38.G),(172,K172.G),(190,K190.G)] (fun _=>[]) Tryz.f177 K177:=by
 refine .ak [(3,⟨[3,17,18,19],[15],[]⟩)] true Tryz.ntmps177 fun T hO hT a0 x=>?_
 simp only[Zh] at hT; simp only[kS,nfs,Zdy,Zhi];refine au ?_
 intros; refine lpP 3 (fun⟨p11,p12⟩=>([(3,.one (.ms 15 0 0 (p12.length) 1)),(19,.one (.v (.int .i64 p11)))],[(15,⟨0,1,Zg .u8 p12,false,true⟩)])) ?_; rintro⟨p11,p12⟩ x; simp only[ZeP,Zhi]
 exact au
theorem w145:Walk tt G [(141,K141.G),(177,K177.G)] (fun _=>[]) Tryz.f145 K145:=by
 refine .ak [(4,⟨[1,10,11,12],[1],[]⟩)] false Tryz.ntmps145 fun T hO hT a0 x=>?_
 simp only[Zh] at hT; simp only[kS,nfs,Zft,ZcJ];refine au ?_
 intros; refine lpP 4 (fun p6=>([(12,.one (.v (.int .i64 p6)))],[])) ?_; rintro p6 x; simp only[Xr,ZcJ]
 exact au
theorem w146:Walk tt G [(116,K116.G),(141,K141.G),(151,K151.G)] (fun _=>[]) Tryz.f146 K146:=by
 refine .ak [(7,⟨[1,3,24,25,26],[1],[]⟩),(16,⟨[1,42,43],[1],[]⟩),(19,⟨[1,6,7,42,43],[1],[]⟩),(25,⟨[1,66,67,68],[1],[]⟩)] false Tryz.ntmps146 fun T hO hT a0 x=>?_
 simp only[Zh] at hT; simp only[kS,nfs,Zc0,Lref09_Check_k3,X6,ZaQ,XE];refine au ?_
 intros; refine lpP 7 (fun⟨p6,p7⟩=>([(3,.one (.v (.int .i64 p6))),(26,.one (.v (.int .i64 p7)))],[])) ?_; rintro⟨p6,p7⟩ x; simp only[Zb2,Lref09_Check_k3,X6,ZaQ,XE]
 refine au ?_
 intros; refine lpP 16 (fun p25=>([(43,.one (.v (.int .i64 p25)))],[])) ?_; rintro p25 x; simp only[Zb1,Lref09_Check_k3,X6,ZaQ,XE]
 refine au ?_ ?_
 ·intros; refine lpP 19 (fun p57=>([(7,.one (.v (.int .i64 p57)))],[])) ?_; rintro p57 x; simp only[ZaR,Lref09_Check_k3,X6,ZaQ,XE]
  exact au
 ·intros; refine lpP 25 (fun p43=>([(68,.one (.v (.int .i64 p43)))],[])) ?_; rintro p43 x; simp only[Zb0,Lref09_Check_k3,X6,ZaQ,XE]
  exact au
theorem w147:Walk tt G [] (fun _=>[]) Tryz.f147 K147:=by
 refine .ak [(2,⟨[0,3,7,8],[3],[]⟩)] false Tryz.ntmps147 fun T hO hT ⟨a0,a1⟩ x=>?_
 simp only[Zh] at hT; simp only[kS,nfs,Zdb,Lref11_place_k1];refine au ?_
 intros; refine lpP 2 (fun p4=>([(8,.one (.v (.int .i64 p4)))],[])) ?_; rintro p4 x; simp only[ZfH,Lref11_place_k1]
 exact au
theorem w148:Walk tt G [(147,K147.G)] (fun _=>[]) Tryz.f148 K148:=by
 refine .ak [(2,⟨[1,10,11,12],[],[]⟩),(5,⟨[1,5,10,11,12,18,19,20],[],[]⟩)] false Tryz.ntmps148 fun T hO hT ⟨a0,a1⟩ x=>?_
 simp only[Zh] at hT; simp only[kS,nfs,ZcK,Lref11_forward_k1,Zcl];refine au ?_
 intros; refine lpP 2 (fun p20=>([(12,.one (.v (.int .i64 p20)))],[])) ?_; rintro p20 x; simp only[Zea,Lref11_forward_k1,Zcl]
 refine au ?_
 intros; refine lpP 5 (fun p36=>([(20,.one (.v (.int .i64 p36)))],[])) ?_; rintro p36 x; simp only[Zd9,Lref11_forward_k1,Zcl]
 exact au
theorem w149:Walk tt G [] (fun _=>[]) Tryz.f149 K149:=by
 refine .ak [(3,⟨[3,11,12,13],[39],[(3,none,39,33)]⟩),(6,⟨[3,11,12,13,18,19,20],[39],[]⟩),(9,⟨[3,7,11,12,13,18,19,20,24,25,26],[7,39],[]⟩)] false Tryz.ntmps149 fun T hO hT a0 x=>?_
 simp only[Zh] at hT; simp only[kS,nfs,Zeh,Lref11_twice_k1,ZdJ,Zb4];refine au ?_
 intros; refine lpP 3 (fun⟨p69,p70⟩=>([(3,.one (.ms 39 0 0 (p70.length) 33)),(13,.one (.v (.int .i64 p69)))],[(39,⟨0,33,List.map eapi_OutPoint p70,false,true⟩)])) ?_; rintro⟨p69,p70⟩ x; simp only[ZhP,Lref11_twice_k1,ZdJ,Zb4]
 refine au ?_
 intros; refine lpP 6 (fun⟨p129,p130⟩=>([(3,.one (.ms 39 0 0 (p130.length) 33)),(20,.one (.v (.int .i64 p129)))],[(39,⟨0,33,List.map eapi_OutPoint p130,false,true⟩)])) ?_; rintro⟨p129,p130⟩ x; simp only[ZhO,Lref11_twice_k1,ZdJ,Zb4]
 refine au ?_
 intros; refine lpP 9 (fun p147=>([(26,.one (.v (.int .i64 p147)))],[])) ?_; rintro p147 x; simp only[ZfI,Lref11_twice_k1,ZdJ,Zb4]
 exact au
end Go.Proofs.YtcfpmbefhfbdjaaGreatDoor
