import Derived.Test.YtbppknpnmjhjpaaGreatDoorLfK
import Derived.Test.YtbppknpnmjhjpaaGreatDoorCode
import Derived.Test.YtbppknpnmjhjpaaGreatDoorBl
namespace Go.Proofs.YtbppknpnmjhjpaaGreatDoor
open Go.RowKit
open Go.Av
open Go.Lc
set_option maxRecDepth 100000
set_option linter.unusedSimpArgs false
set_option linter.unusedVariables false
set_option maxHeartbeats 4000000
theorem w111:Walk tt G [] (fun _=>[]) Tryz.f111 K111:=by
 refine .ak [(2,⟨[0,3],[5],[]⟩),(5,⟨[0,3,4],[5],[]⟩)] true Tryz.ntmps111 fun T hO hT a0 x=>?_
 simp only[Zh] at hT; simp only[kS,nfs,Zhm,Zib,Zf2];refine au ?_
 intros; refine lpP 2 (fun p4=>([(3,.one (.ms 5 0 0 (p4.length) 1))],[(5,⟨0,1,Zg .u8 p4,false,true⟩)])) ?_; rintro p4 x; simp only[Zf3,Zib,Zf2]
 refine au ?_
 intros; refine lpP 5 (fun⟨p12,p13⟩=>([(3,.one (.ms 5 0 0 (p13.length) 1)),(4,.one (.v (.int .i64 p12)))],[(5,⟨0,1,Zg .u8 p13,false,true⟩)])) ?_; rintro⟨p12,p13⟩ x; simp only[Zej,Zib,Zf2]
 exact au
theorem w112:Walk tt G [] (fun _=>[]) Tryz.f112 K112:=by
 refine .ak [] false Tryz.ntmps112 fun T hO hT _ x=>?_
 simp only[Zh] at hT; simp only[kS,nfs,Lref03_Initial];exact au
theorem w199:Walk tt G [] (fun _=>[]) Tryz.f199 K199:=by
 refine .ak [] false Tryz.ntmps199 fun T hO hT ⟨a0,a1⟩ x=>?_
 simp only[Zh] at hT; simp only[kS,nfs,YT];exact au
theorem w166:Walk tt G [(199,K199.G)] (fun _=>[]) Tryz.f166 K166:=by
 refine .ak [] false Tryz.ntmps166 fun T hO hT ⟨a0,a1⟩ x=>?_
 simp only[Zh] at hT; simp only[kS,nfs,Y0];exact au
theorem w164:Walk tt G [(166,K166.G)] (fun _=>[]) Tryz.f164 K164:=by
 refine .ak [(3,⟨[1,2,3,4],[1,2,3],[]⟩),(7,⟨[2,3,5],[2,3],[]⟩)] false Tryz.ntmps164 fun T hO hT a0 x=>?_
 simp only[Zh] at hT; simp only[kS,nfs,ZcF,Zex,ZaY];refine au ?_
 intros; refine lpP 3 (fun⟨p12,p13⟩=>([(4,.one (.v (.int .i64 p12)))],[(3,⟨0,64,[arC .u32 p13],false,false⟩)])) ?_; rintro⟨p12,p13⟩ x; simp only[Zcq,Zex,ZaY]
 refine au ?_
 intros; refine lpP 7 (fun⟨p38,p39⟩=>([(5,.one (.v (.int .i64 p38)))],[(3,⟨0,64,[arC .u32 p39],false,false⟩)])) ?_; rintro⟨p38,p39⟩ x; simp only[Lref03_schedule_s2,Zex,ZaY]
 exact au
theorem w165:Walk tt G [] (fun _=>[]) Tryz.f165 K165:=by
 refine .ak [] false Tryz.ntmps165 fun T hO hT _ x=>?_
 simp only[Zh] at hT; simp only[kS,nfs,Lref03_constants];exact au
def kp113:Keep:=fun i=>if i=4 then⟨[2,4,5,6,7,8,9,10,11,12,13,14,15],[2,4,5,6],[]⟩ else⟨[],[],[]⟩
theorem w113 {T:Tab}(hO:T.own=fun _=>[]) (hT164:T 164=some K164.G) (hT165:T 165=some K165.G) (hT166:T 166=some K166.G) (a0:(Arr 8)) (a1:(Arr 64)) (x:(Arr 8)) (hr:XI a0 a1=some x):∃ kp fl n,ZN tt T G kp fl n Tryz.f113 (ZhO (a0,a1))=some (ZjP (a0,a1) x):=by
 simp only[ZhO,ZjP];refine fnE (kp:=kp113) (w:=false) body113 (by simp) ?_;unfold c113;rw[Tryz.ntmps113];unfold XI at hr;refine Zd rfl (by simp[]; rfl) ?_;obtain⟨y48,hy48,hr⟩:=bs hr;have ehy48:=K164.q1 hy48;simp only[K164,kS,nf,nfs,Z5] at ehy48;obtain⟨y49,hy49,hr⟩:=bs hr;have ehy49:=K165.q0 hy49;simp only[K165,kS,nf,nfs,Z5] at ehy49;refine Zd rfl (by simp[hO,hT164,ehy48,hT165,ehy49]; rfl) ?_;have ar50:=YO (k:=.u32) (a0) (i:=0) (by decide);have as51:=Y4 (k:=.u32) (a0) (i:=0) (by decide);have ar52:=YO (k:=.u32) (a0) (i:=1) (by decide);have as53:=Y4 (k:=.u32) (a0) (i:=1) (by decide);have ar54:=YO (k:=.u32) (a0) (i:=2) (by decide);have as55:=Y4 (k:=.u32) (a0) (i:=2) (by decide);have ar56:=YO (k:=.u32) (a0) (i:=3) (by decide);have as57:=Y4 (k:=.u32) (a0) (i:=3) (by decide);have ar58:=YO (k:=.u32) (a0) (i:=4) (by decide);have as59:=Y4 (k:=.u32) (a0) (i:=4) (by decide);have ar60:=YO (k:=.u32) (a0) (i:=5) (by decide);have as61:=Y4 (k:=.u32) (a0) (i:=5) (by decide);have ar62:=YO (k:=.u32) (a0) (i:=6) (by decide);have as63:=Y4 (k:=.u32) (a0) (i:=6) (by decide);have ar64:=YO (k:=.u32) (a0) (i:=7) (by decide);have as65:=Y4 (k:=.u32) (a0) (i:=7) (by decide);refine Z6 rfl (by simp[ar50,as51,ar52,as53,ar54,as55,ar56,as57,ar58,as59,ar60,as61,ar62,as63,ar64,as65]; first | exact⟨rfl,rfl⟩ | rfl) (by kernel_rfl) ?_;refine ZA ?_;refine Zd rfl (by simp[]; rfl) ?_;refine Zx ?_;refine Xs (kq:=⟨[2,4,5,6,7,8,9,10,11,12,13,14,15],[2,4,5,6],[]⟩) (H:=fun(s:Int×Int×Int×Int×Int×Int×Int×Int×Int)=>match s with | (p25,p26,p27,p28,p29,p30,p31,p32,p33)=>(⟨(und 2++([.ptr 2 0 0 0 8]++(und 1++([.ptr 4 0 0 0 8,.ptr 5 0 0 0 64,.ptr 6 0 0 0 64,.one (.v (.int .u32 p25)),.one (.v (.int .u32 p26)),.one (.v (.int .u32 p27)),.one (.v (.int .u32 p28)),.one (.v (.int .u32 p29)),.one (.v (.int .u32 p30)),.one (.v (.int .u32 p31)),.one (.v (.int .u32 p32)),.one (.v (.int .i64 p33))]++(und 117)))):List PV),([(2,⟨0,8,[arC .u32 a0],false,false⟩),(4,⟨0,8,[arC .u32 (zA 8)],false,false⟩),(5,⟨0,64,[arC .u32 y48],false,false⟩),(6,⟨0,64,[arC .u32 y49],false,false⟩)]:Boxes)⟩:ASt)) (by kernel_rfl) hr (by simp[und,List.replicate,]) ?_;rintro⟨p25,p26,p27,p28,p29,p30,p31,p32,p33⟩ x80r hr80
 simp only[Zcr] at hr80;unfold b113_1;simp only[und,List.replicate,List.cons_append,List.nil_append];refine ZA ?_;refine Zd rfl (by simp[]; rfl) ?_;by_cases c81:p33<64
 ·skip
  rw[if_pos] at hr80;rotate_left
  ·simp[c81]
  refine Zw (by simp[bV,c81]) ?_;refine ZD ?_;refine Zx ?_;obtain⟨y82,hy82,hr80⟩:=bs hr80;have ehy82:=K166.q2 hy82;simp only[K166,kS,nf,nfs,Z5] at ehy82;obtain⟨y83,hy83,hr80⟩:=bs hr80;have ehy83:=K166.q2 hy83;simp only[K166,kS,nf,nfs,Z5] at ehy83;obtain⟨y84,hy84,hr80⟩:=bs hr80;have ehy84:=K166.q2 hy84;simp only[K166,kS,nf,nfs,Z5] at ehy84;obtain⟨j85,hj85,hr80⟩:=bs hr80;obtain⟨j85a,j85b,j85c⟩:=Yj hj85;have j85d:j85≤63:=by omega
  have ar86:=YO (k:=.u32) (y49) (i:=j85) j85c;have as87:=Y4 (k:=.u32) (y49) (i:=j85) j85c;obtain⟨j85a,j85b,j85c⟩:=Yj hj85;have j85d:j85≤63:=by omega
  have ar88:=YO (k:=.u32) (y48) (i:=j85) j85c;have as89:=Y4 (k:=.u32) (y48) (i:=j85) j85c;refine Z6 rfl (by simp[hO,hT166,ehy82,ehy83,ehy84,j85a,j85b,j85c,j85d,ar86,as87,ar88,as89,c81]; first | exact⟨rfl,rfl⟩ | rfl) (by kernel_rfl) ?_;obtain⟨y90,hy90,hr80⟩:=bs hr80;have ehy90:=K166.q2 hy90;simp only[K166,kS,nf,nfs,Z5] at ehy90;obtain⟨y91,hy91,hr80⟩:=bs hr80;have ehy91:=K166.q2 hy91;simp only[K166,kS,nf,nfs,Z5] at ehy91;obtain⟨y92,hy92,hr80⟩:=bs hr80;have ehy92:=K166.q2 hy92;simp only[K166,kS,nf,nfs,Z5] at ehy92;refine Zd rfl (by simp[hO,hT166,ehy90,ehy91,ehy92,c81]; rfl) ?_;refine Xb rfl (by simp[c81]; rfl) ?_;simp only[pq,reduceCtorEq];refine Xb rfl (by simp[c81]; rfl) ?_;obtain rfl:=Option.some.inj hr80;simp only[pq,reduceCtorEq];simp[und,List.replicate,Nat.add_assoc,c81]
 ·skip
  rw[if_neg] at hr80;rotate_left
  ·simp[c81]
  refine Zv (by simp[bV,c81]) ?_;refine Z7 ?_;obtain⟨r93,q93,rfl⟩:=ms hr80;simp only[pq,reduceCtorEq];rintro rfl
  try simp only[pq,reduceCtorEq]
  unfold Zj7 at q93;have ar94:=YO (k:=.u32) (a0) (i:=0) (by decide);have as95:=Y4 (k:=.u32) (a0) (i:=0) (by decide);have ar96:=YO (k:=.u32) (a0) (i:=1) (by decide);have as97:=Y4 (k:=.u32) (a0) (i:=1) (by decide);have ar98:=YO (k:=.u32) (a0) (i:=2) (by decide);have as99:=Y4 (k:=.u32) (a0) (i:=2) (by decide);have ar100:=YO (k:=.u32) (a0) (i:=3) (by decide);have as101:=Y4 (k:=.u32) (a0) (i:=3) (by decide);have ar102:=YO (k:=.u32) (a0) (i:=4) (by decide);have as103:=Y4 (k:=.u32) (a0) (i:=4) (by decide);have ar104:=YO (k:=.u32) (a0) (i:=5) (by decide);have as105:=Y4 (k:=.u32) (a0) (i:=5) (by decide);have ar106:=YO (k:=.u32) (a0) (i:=6) (by decide);have as107:=Y4 (k:=.u32) (a0) (i:=6) (by decide);have ar108:=YO (k:=.u32) (a0) (i:=7) (by decide);have as109:=Y4 (k:=.u32) (a0) (i:=7) (by decide);have ap110:=Zdo (k:=.u32) (zA 8) (i:=0) (by decide) (IntKind.u32.wrap ((a0.at 0)+p25));have ap111:=Zdo (k:=.u32) ((zA 8).put 0 (IntKind.u32.wrap ((a0.at 0)+p25))) (i:=1) (by decide) (IntKind.u32.wrap ((a0.at 1)+p26));have ap112:=Zdo (k:=.u32) (((zA 8).put 0 (IntKind.u32.wrap ((a0.at 0)+p25))).put 1 (IntKind.u32.wrap ((a0.at 1)+p26))) (i:=2) (by decide) (IntKind.u32.wrap ((a0.at 2)+p27));have ap113:=Zdo (k:=.u32) ((((zA 8).put 0 (IntKind.u32.wrap ((a0.at 0)+p25))).put 1 (IntKind.u32.wrap ((a0.at 1)+p26))).put 2 (IntKind.u32.wrap ((a0.at 2)+p27))) (i:=3) (by decide) (IntKind.u32.wrap ((a0.at 3)+p28));have ap114:=Zdo (k:=.u32) (((((zA 8).put 0 (IntKind.u32.wrap ((a0.at 0)+p25))).put 1 (IntKind.u32.wrap ((a0.at 1)+p26))).put 2 (IntKind.u32.wrap ((a0.at 2)+p27))).put 3 (IntKind.u32.wrap ((a0.at 3)+p28))) (i:=4) (by decide) (IntKind.u32.wrap ((a0.at 4)+p29));have ap115:=Zdo (k:=.u32) ((((((zA 8).put 0 (IntKind.u32.wrap ((a0.at 0)+p25))).put 1 (IntKind.u32.wrap ((a0.at 1)+p26))).put 2 (IntKind.u32.wrap ((a0.at 2)+p27))).put 3 (IntKind.u32.wrap ((a0.at 3)+p28))).put 4 (IntKind.u32.wrap ((a0.at 4)+p29))) (i:=5) (by decide) (IntKind.u32.wrap ((a0.at 5)+p30));have ap116:=Zdo (k:=.u32) (((((((zA 8).put 0 (IntKind.u32.wrap ((a0.at 0)+p25))).put 1 (IntKind.u32.wrap ((a0.at 1)+p26))).put 2 (IntKind.u32.wrap ((a0.at 2)+p27))).put 3 (IntKind.u32.wrap ((a0.at 3)+p28))).put 4 (IntKind.u32.wrap ((a0.at 4)+p29))).put 5 (IntKind.u32.wrap ((a0.at 5)+p30))) (i:=6) (by decide) (IntKind.u32.wrap ((a0.at 6)+p31));have ap117:=Zdo (k:=.u32) ((((((((zA 8).put 0 (IntKind.u32.wrap ((a0.at 0)+p25))).put 1 (IntKind.u32.wrap ((a0.at 1)+p26))).put 2 (IntKind.u32.wrap ((a0.at 2)+p27))).put 3 (IntKind.u32.wrap ((a0.at 3)+p28))).put 4 (IntKind.u32.wrap ((a0.at 4)+p29))).put 5 (IntKind.u32.wrap ((a0.at 5)+p30))).put 6 (IntKind.u32.wrap ((a0.at 6)+p31))) (i:=7) (by decide) (IntKind.u32.wrap ((a0.at 7)+p32));refine Zd rfl (by simp[ar94,as95,ar96,as97,ar98,as99,ar100,as101,ar102,as103,ar104,as105,ar106,as107,ar108,as109,ap110,ap111,ap112,ap113,ap114,ap115,ap116,ap117,c81]; rfl) ?_;refine Zai ?_;obtain rfl:=Option.some.inj q93;simp[YP,ar94,as95,ar96,as97,ar98,as99,ar100,as101,ar102,as103,ar104,as105,ar106,as107,ar108,as109,ap110,ap111,ap112,ap113,ap114,ap115,ap116,ap117,c81]
end Go.Proofs.YtbppknpnmjhjpaaGreatDoor
