import Derived.Test.YthpkpciceodioaaGreatDoorLfK
import Derived.Test.YthpkpciceodioaaGreatDoorCode
import Derived.Test.YthpkpciceodioaaGreatDoorBl
namespace Go.Proofs.YthpkpciceodioaaGreatDoor
open Go.RowKit
open Go.Av
open Go.Lc
set_option maxRecDepth 100000
set_option linter.unusedSimpArgs false
set_option linter.unusedVariables false
set_option maxHeartbeats 4000000
def kp148:Keep:=fun i=>if i=4 then ⟨[2,4,5,6,7,8,9,10,11,12,13,14,15],[2,4,5,6],[]⟩ else ⟨[],[],[]⟩
theorem w148 {T:Tab} (hO:T.own=fun _=>[]) (hT193:T 193=some K193.G) (hT194:T 194=some K194.G) (hT195:T 195=some K195.G) (a0:(Arr 8)) (a1:(Arr 64)) (x:(Arr 8)) (hr:Zai a0 a1=some x):∃ kp fl n,Xj tt T G kp fl n Tryz.f148 (Zja (a0,a1))=some (ZlU (a0,a1) x):=by
 simp only [Zja,ZlU];refine fnE (kp:=kp148) (w:=false) body148 (by simp) ?_;unfold c148;rw [Tryz.ntmps148];unfold Zai at hr;refine Ze rfl (by simp []; rfl) ?_;obtain ⟨y48,hy48,hr⟩:=bs hr;have ehy48:=ZtW hy48;simp only [K193] at ehy48;obtain ⟨y49,hy49,hr⟩:=bs hr;have ehy49:=ZtX hy49;simp only [K194] at ehy49;refine Ze rfl (by simp [hO,hT193,ehy48,hT194,ehy49]; rfl) ?_;have ar50:=YL (k:=.u32) (a0) (i:=0) (by decide);have as51:=YW (k:=.u32) (a0) (i:=0) (by decide);have ar52:=YL (k:=.u32) (a0) (i:=1) (by decide);have as53:=YW (k:=.u32) (a0) (i:=1) (by decide);have ar54:=YL (k:=.u32) (a0) (i:=2) (by decide);have as55:=YW (k:=.u32) (a0) (i:=2) (by decide);have ar56:=YL (k:=.u32) (a0) (i:=3) (by decide);have as57:=YW (k:=.u32) (a0) (i:=3) (by decide);have ar58:=YL (k:=.u32) (a0) (i:=4) (by decide);have as59:=YW (k:=.u32) (a0) (i:=4) (by decide);have ar60:=YL (k:=.u32) (a0) (i:=5) (by decide);have as61:=YW (k:=.u32) (a0) (i:=5) (by decide);have ar62:=YL (k:=.u32) (a0) (i:=6) (by decide);have as63:=YW (k:=.u32) (a0) (i:=6) (by decide);have ar64:=YL (k:=.u32) (a0) (i:=7) (by decide);have as65:=YW (k:=.u32) (a0) (i:=7) (by decide);refine ZY rfl (by simp []; first | exact ⟨rfl,rfl⟩ | rfl) (by kernel_rfl) ?_;refine ZE ?_;refine Ze rfl (by simp []; rfl) ?_;refine Yh ?_;refine XR (kq:=⟨[2,4,5,6,7,8,9,10,11,12,13,14,15],[2,4,5,6],[]⟩) (H:=fun (s:Int×Int×Int×Int×Int×Int×Int×Int×Int)=>match s with | (p25,p26,p27,p28,p29,p30,p31,p32,p33)=>(⟨(und 2++([.ptr 2 0 0 0 8]++(und 1++([.ptr 4 0 0 0 8,.ptr 5 0 0 0 64,.ptr 6 0 0 0 64,.one (.v (.int .u32 p25)),.one (.v (.int .u32 p26)),.one (.v (.int .u32 p27)),.one (.v (.int .u32 p28)),.one (.v (.int .u32 p29)),.one (.v (.int .u32 p30)),.one (.v (.int .u32 p31)),.one (.v (.int .u32 p32)),.one (.v (.int .i64 p33))]++(und 117)))):List PV),([(2,⟨0,8,[arC .u32 a0],false,false⟩),(4,⟨0,8,[arC .u32 (zA 8)],false,false⟩),(5,⟨0,64,[arC .u32 y48],false,false⟩),(6,⟨0,64,[arC .u32 y49],false,false⟩)]:Boxes)⟩:ASt)) (by kernel_rfl) hr (by simp [und,List.replicate,]) ?_;rintro ⟨p25,p26,p27,p28,p29,p30,p31,p32,p33⟩ x80r hr80
 simp only [Zbh] at hr80;unfold b148_1;simp only [und,List.replicate,List.cons_append,List.nil_append];refine ZE ?_;refine Ze rfl (by simp []; rfl) ?_;by_cases c81:p33<64
 ·skip
  rw [if_pos] at hr80;rotate_left
  ·simp [c81]
  refine ZK (by simp [bV,c81]) ?_;refine ZB ?_;refine Yh ?_;obtain ⟨y82,hy82,hr80⟩:=bs hr80;have ehy82:=ZdK hy82;simp only [K195] at ehy82;obtain ⟨y83,hy83,hr80⟩:=bs hr80;have ehy83:=ZdK hy83;simp only [K195] at ehy83;obtain ⟨y84,hy84,hr80⟩:=bs hr80;have ehy84:=ZdK hy84;simp only [K195] at ehy84;obtain ⟨j85,hj85,hr80⟩:=bs hr80;obtain ⟨j85a,j85b,j85c⟩:=Zq hj85;have j85d:j85≤63:=by omega
  have ar86:=YL (k:=.u32) (y49) (i:=j85) j85c;have as87:=YW (k:=.u32) (y49) (i:=j85) j85c;obtain ⟨j85a,j85b,j85c⟩:=Zq hj85;have j85d:j85≤63:=by omega
  have ar88:=YL (k:=.u32) (y48) (i:=j85) j85c;have as89:=YW (k:=.u32) (y48) (i:=j85) j85c;refine ZY rfl (by simp [hO,hT195,ehy82,ehy83,ehy84,j85a,j85b,j85c,c81]; first | exact ⟨rfl,rfl⟩ | rfl) (by kernel_rfl) ?_;obtain ⟨y90,hy90,hr80⟩:=bs hr80;have ehy90:=ZdK hy90;simp only [K195] at ehy90;obtain ⟨y91,hy91,hr80⟩:=bs hr80;have ehy91:=ZdK hy91;simp only [K195] at ehy91;obtain ⟨y92,hy92,hr80⟩:=bs hr80;have ehy92:=ZdK hy92;simp only [K195] at ehy92;refine Ze rfl (by simp [hO,hT195,ehy90,ehy91,ehy92]; rfl) ?_;refine Y8 rfl (by simp []; rfl) ?_;simp only [pq];refine Y8 rfl (by simp []; rfl) ?_;obtain rfl:=Option.some.inj hr80;simp only [pq];simp []
 ·skip
  rw [if_neg] at hr80;rotate_left
  ·simp [c81]
  refine Zn (by simp [bV,c81]) ?_;refine Z4 ?_;obtain ⟨r93,q93,rfl⟩:=ms hr80;simp only [pq];rintro rfl
  try simp only [pq,reduceCtorEq]
  unfold ZgD at q93;have ar94:=YL (k:=.u32) (a0) (i:=0) (by decide);have as95:=YW (k:=.u32) (a0) (i:=0) (by decide);have ar96:=YL (k:=.u32) (a0) (i:=1) (by decide);have as97:=YW (k:=.u32) (a0) (i:=1) (by decide);have ar98:=YL (k:=.u32) (a0) (i:=2) (by decide);have as99:=YW (k:=.u32) (a0) (i:=2) (by decide);have ar100:=YL (k:=.u32) (a0) (i:=3) (by decide);have as101:=YW (k:=.u32) (a0) (i:=3) (by decide);have ar102:=YL (k:=.u32) (a0) (i:=4) (by decide);have as103:=YW (k:=.u32) (a0) (i:=4) (by decide);have ar104:=YL (k:=.u32) (a0) (i:=5) (by decide);have as105:=YW (k:=.u32) (a0) (i:=5) (by decide);have ar106:=YL (k:=.u32) (a0) (i:=6) (by decide);have as107:=YW (k:=.u32) (a0) (i:=6) (by decide);have ar108:=YL (k:=.u32) (a0) (i:=7) (by decide);have as109:=YW (k:=.u32) (a0) (i:=7) (by decide);have ap110:=Xq (k:=.u32) (zA 8) (i:=0) (by decide) (IntKind.u32.wrap ((a0.at 0)+p25));have ap111:=Xq (k:=.u32) ((zA 8).put 0 (IntKind.u32.wrap ((a0.at 0)+p25))) (i:=1) (by decide) (IntKind.u32.wrap ((a0.at 1)+p26));have ap112:=Xq (k:=.u32) (((zA 8).put 0 (IntKind.u32.wrap ((a0.at 0)+p25))).put 1 (IntKind.u32.wrap ((a0.at 1)+p26))) (i:=2) (by decide) (IntKind.u32.wrap ((a0.at 2)+p27));have ap113:=Xq (k:=.u32) ((((zA 8).put 0 (IntKind.u32.wrap ((a0.at 0)+p25))).put 1 (IntKind.u32.wrap ((a0.at 1)+p26))).put 2 (IntKind.u32.wrap ((a0.at 2)+p27))) (i:=3) (by decide) (IntKind.u32.wrap ((a0.at 3)+p28));have ap114:=Xq (k:=.u32) (((((zA 8).put 0 (IntKind.u32.wrap ((a0.at 0)+p25))).put 1 (IntKind.u32.wrap ((a0.at 1)+p26))).put 2 (IntKind.u32.wrap ((a0.at 2)+p27))).put 3 (IntKind.u32.wrap ((a0.at 3)+p28))) (i:=4) (by decide) (IntKind.u32.wrap ((a0.at 4)+p29));have ap115:=Xq (k:=.u32) ((((((zA 8).put 0 (IntKind.u32.wrap ((a0.at 0)+p25))).put 1 (IntKind.u32.wrap ((a0.at 1)+p26))).put 2 (IntKind.u32.wrap ((a0.at 2)+p27))).put 3 (IntKind.u32.wrap ((a0.at 3)+p28))).put 4 (IntKind.u32.wrap ((a0.at 4)+p29))) (i:=5) (by decide) (IntKind.u32.wrap ((a0.at 5)+p30));have ap116:=Xq (k:=.u32) (((((((zA 8).put 0 (IntKind.u32.wrap ((a0.at 0)+p25))).put 1 (IntKind.u32.wrap ((a0.at 1)+p26))).put 2 (IntKind.u32.wrap ((a0.at 2)+p27))).put 3 (IntKind.u32.wrap ((a0.at 3)+p28))).put 4 (IntKind.u32.wrap ((a0.at 4)+p29))).put 5 (IntKind.u32.wrap ((a0.at 5)+p30))) (i:=6) (by decide) (IntKind.u32.wrap ((a0.at 6)+p31));have ap117:=Xq (k:=.u32) ((((((((zA 8).put 0 (IntKind.u32.wrap ((a0.at 0)+p25))).put 1 (IntKind.u32.wrap ((a0.at 1)+p26))).put 2 (IntKind.u32.wrap ((a0.at 2)+p27))).put 3 (IntKind.u32.wrap ((a0.at 3)+p28))).put 4 (IntKind.u32.wrap ((a0.at 4)+p29))).put 5 (IntKind.u32.wrap ((a0.at 5)+p30))).put 6 (IntKind.u32.wrap ((a0.at 6)+p31))) (i:=7) (by decide) (IntKind.u32.wrap ((a0.at 7)+p32));refine Ze rfl (by simp [ap110,ap111,ap112,ap113,ap114,ap115,ap116,ap117,c81]; rfl) ?_;refine ZbR ?_;obtain rfl:=Option.some.inj q93;simp [ZaN]
def kp95:Keep:=fun i=>if i=4 then ⟨[2,3,4,5],[2,4,11],[]⟩ else if i=11 then ⟨[2,7,33,34],[2,7],[]⟩ else ⟨[],[],[]⟩
theorem w95 {T:Tab} (hO:T.own=fun _=>[]) (hT146:T 146=some K146.G) (hT147:T 147=some K147.G) (hT148:T 148=some G148) (a0:(List Int)) (x:(Arr 32)) (hr:ZaE a0=some x):∃ kp fl n,Xj tt T G kp fl n Tryz.f95 (E95 a0)=some (R95 a0 x):=by
 simp only [E95,R95];refine fnE (kp:=kp95) (w:=false) body95 (by simp) ?_;unfold c95;rw [Tryz.ntmps95];unfold ZaE at hr;refine Ze rfl (by simp [-Xf,-List.take_append,-List.drop_append,]; rfl) ?_;obtain ⟨_,u40,hr⟩:=bs hr;have u40_0:=ZC u40;have n1_u40_0:a0.length≤140737488355328:=by omega
 have n2_u40_0:a0.length≤9223372036854775807:=by omega
 obtain ⟨y41,hy41,hr⟩:=bs hr;have ehy41:=ZtU hy41;simp only [K146] at ehy41;obtain ⟨_,u42,hr⟩:=bs hr;have u42_0:=ZC u42;have n1_u42_0:a0.length+y41.length≤140737488355328:=by omega
 have n2_u42_0:a0.length+y41.length≤9223372036854775807:=by omega
 refine Ze rfl (by simp [-Xf,-List.take_append,-List.drop_append,n1_u40_0,n2_u40_0,hO,hT146,ehy41,n1_u42_0,n2_u42_0]; rfl) ?_;obtain ⟨y43,hy43,hr⟩:=bs hr;have ehy43:=ZtV hy43;simp only [K147] at ehy43;refine Ze rfl (by simp [-Xf,-List.take_append,-List.drop_append,hT147,ehy43]; rfl) ?_;refine ZE ?_;refine Ze rfl (by simp [-Xf,-List.take_append,-List.drop_append,]; rfl) ?_;refine Yh ?_;refine XR (kq:=⟨[2,3,4,5],[2,4,11],[]⟩) (H:=fun (s:Int×(Arr 8))=>match s with | (p11,p12)=>(⟨(und 2++([.ptr 2 0 0 0 32,.one (.ms 11 0 0 (a0.length+y41.length) 1),.ptr 4 0 0 0 8,.one (.v (.int .i64 p11))]++(und 60)):List PV),([(2,⟨0,32,[arC .u8 (zA 32)],false,false⟩),(4,⟨0,8,[arC .u32 p12],false,false⟩),(11,⟨0,1,Zd .u8 (a0++y41),false,true⟩)]:Boxes)⟩:ASt)) (by kernel_rfl) hr (by simp [und,List.replicate,]) ?_;rintro ⟨p11,p12⟩ x52r hr52
 simp only [Zdk] at hr52;unfold b95_1;simp only [und,List.replicate,List.cons_append,List.nil_append];refine ZE ?_;refine Ze rfl (by simp [-Xf,-List.take_append,-List.drop_append,]; rfl) ?_;by_cases c53:IntKind.i64.wrap (p11+64)≤(a0.length+y41.length:Int)
 ·skip
  have c53N:=c53;try simp at c53N
  first | have c53M:(_=_)=True:=eq_true c53N | have c53M:=c53N
  rw [if_pos] at hr52;rotate_left
  ·simp [c53]
  refine ZK (by simp [bV,c53]) ?_;refine ZB ?_;refine Yh ?_;refine Ze rfl (by simp [-Xf,-List.take_append,-List.drop_append,c53] <;> rfl) ?_;obtain ⟨_,u54,hr52⟩:=bs hr52;obtain ⟨u54_0,u54_1⟩:=ZC u54
  have lu54_1:p11≤((a0.length+y41.length:Nat):Int):=by
   have h:=u54_1;try simp at h
   omega
  try simp only [Int.natCast_add] at lu54_1
  have sf56:(p11).toNat≤a0.length+y41.length:=by omega
  have al57:=eq_true (fun l h=>intsR_all l (List.mem_of_mem_drop h):∀ l,l∈List.drop ((p11).toNat) (Zd .u8 (a0++y41))→l.length=1);have ov57:=ZrE (k:=.u8) (a:=zA 64) (l:=(a0++y41).drop (p11).toNat);try simp only [Zng,List.length_drop,List.length_append] at ov57
  refine ZY rfl (by simp [-Xf,-List.take_append,-List.drop_append,u54_0,sf56,ov57]; first | exact ⟨rfl,rfl⟩ | rfl) (by kernel_rfl) ?_;obtain ⟨y58,hy58,hr52⟩:=bs hr52;have ehy58:=ZtY hy58;simp only [Zja,ZlU] at ehy58;refine Y8 rfl (by simp [-Xf,-List.take_append,-List.drop_append,hO,hT148,ehy58] <;> rfl) ?_;simp only [pq];refine Y8 rfl (by simp [-Xf,-List.take_append,-List.drop_append] <;> rfl) ?_;obtain rfl:=Option.some.inj hr52;simp only [pq];simp []
 ·skip
  have c53N:=c53;try simp at c53N
  first | have c53M:(_=_)=True:=eq_true c53N | have c53M:=c53N
  rw [if_neg] at hr52;rotate_left
  ·simp [c53]
  refine Zn (by simp [bV,c53]) ?_;refine Z4 ?_;obtain ⟨r59,q59,rfl⟩:=ms hr52;simp only [pq];rintro rfl
  try simp only [pq,reduceCtorEq]
  unfold ZeW at q59;refine Ze rfl (by simp [-Xf,-List.take_append,-List.drop_append,c53] <;> rfl) ?_;refine ZE ?_;refine Ze rfl (by simp [-Xf,-List.take_append,-List.drop_append] <;> rfl) ?_;refine Yh ?_;refine XR (kq:=⟨[2,7,33,34],[2,7],[]⟩) (H:=fun (s:Int×(Arr 32))=>match s with | (p26,p27)=>(⟨(und 2++([.ptr 2 0 0 0 32]++(und 4++([.ptr 7 0 0 0 32]++(und 25++([.agg (arC .u32 p12),.one (.v (.int .i64 p26))]++(und 31)))))):List PV),([(2,⟨0,32,[arC .u8 (zA 32)],false,false⟩),(7,⟨0,32,[arC .u8 p27],false,false⟩)]:Boxes)⟩:ASt)) (by kernel_rfl) q59 (by simp [und,List.replicate]) ?_;rintro ⟨p26,p27⟩ x74r hr74
  simp only [Zdj] at hr74;unfold b95_2;simp only [und,List.replicate,List.cons_append,List.nil_append];refine Ze rfl (by simp [-Xf,-List.take_append,-List.drop_append] <;> rfl) ?_;by_cases c75:p26<8
  ·skip
   rw [if_pos] at hr74;rotate_left
   ·simp [c75]
   refine ZK (by simp [bV,c75]) ?_;refine ZB ?_;refine Yh ?_;obtain ⟨j76,hj76,hr74⟩:=bs hr74;obtain ⟨j76a,j76b,j76c⟩:=Zq hj76;have j76d:j76≤7:=by omega
   have ar77:=YL (k:=.u32) (p12) (i:=j76) j76c;have as78:=YW (k:=.u32) (p12) (i:=j76) j76c;refine Ze rfl (by simp [-Xf,-List.take_append,-List.drop_append,j76a,j76b,j76c,c75] <;> rfl) ?_;obtain ⟨j79,hj79,hr74⟩:=bs hr74;obtain ⟨j79a,j79b,j79c⟩:=Zq hj79;have j79d:j79≤31:=by omega
   have ap80:=Xq (k:=.u8) (p27) (i:=j79) j79c (IntKind.u8.wrap ((p12.at j76).fdiv 16777216));obtain ⟨j81,hj81,hr74⟩:=bs hr74;obtain ⟨j81a,j81b,j81c⟩:=Zq hj81;have j81d:j81≤31:=by omega
   have ap82:=Xq (k:=.u8) (p27.put j79 (IntKind.u8.wrap ((p12.at j76).fdiv 16777216))) (i:=j81) j81c (IntKind.u8.wrap ((p12.at j76).fdiv 65536));obtain ⟨j83,hj83,hr74⟩:=bs hr74;obtain ⟨j83a,j83b,j83c⟩:=Zq hj83;have j83d:j83≤31:=by omega
   have ap84:=Xq (k:=.u8) ((p27.put j79 (IntKind.u8.wrap ((p12.at j76).fdiv 16777216))).put j81 (IntKind.u8.wrap ((p12.at j76).fdiv 65536))) (i:=j83) j83c (IntKind.u8.wrap ((p12.at j76).fdiv 256));obtain ⟨j85,hj85,hr74⟩:=bs hr74;obtain ⟨j85a,j85b,j85c⟩:=Zq hj85;have j85d:j85≤31:=by omega
   have ap86:=Xq (k:=.u8) (((p27.put j79 (IntKind.u8.wrap ((p12.at j76).fdiv 16777216))).put j81 (IntKind.u8.wrap ((p12.at j76).fdiv 65536))).put j83 (IntKind.u8.wrap ((p12.at j76).fdiv 256))) (i:=j85) j85c (IntKind.u8.wrap (p12.at j76));refine Y8 rfl (by simp [-Xf,-List.take_append,-List.drop_append,j79a,j79b,j79c,j79d,ap80,j81a,j81b,j81c,j81d,ap82,j83a,j83b,j83c,j83d,ap84,j85a,j85b,j85c,j85d,ap86] <;> rfl) ?_;simp only [pq];refine Y8 rfl (by simp [-Xf,-List.take_append,-List.drop_append] <;> rfl) ?_;obtain rfl:=Option.some.inj hr74;simp only [pq];simp []
  ·skip
   rw [if_neg] at hr74;rotate_left
   ·simp [c75]
   refine Zn (by simp [bV,c75]) ?_;refine Z4 ?_;obtain ⟨r87,q87,rfl⟩:=ms hr74;simp only [pq];rintro rfl
   try simp only [pq,reduceCtorEq]
   unfold Zjg at q87;refine Ze rfl (by simp [-Xf,-List.take_append,-List.drop_append,c75] <;> rfl) ?_;refine ZbR ?_;obtain rfl:=Option.some.inj q87;simp [ZaN]
theorem w51:Walk tt G [(95,G95)] (fun _=>[]) Tryz.f51 K51:=by
 refine .of [] false body51 Tryz.ntmps51 fun T hO hT a0 x hr=>⟨by simp,?_⟩
 simp only [Zi] at hT; simp only at hr ⊢; unfold c51;unfold ZaJ at hr;refine go ?_;obtain ⟨_,ehy3,hr⟩:=bG hr fun _=>Zq8
 simp only [E95,R95,nf,nfs] at ehy3;refine go ?_;obtain ⟨_,ehy4,hr⟩:=bG hr fun _=>Zq8
 simp only [E95,R95,nf,nfs] at ehy4;refine go ?_;exact fin hr
theorem w52:Walk tt G [(53,K53.G),(54,K54.G)] (fun _=>[]) Tryz.f52 K52:=by
 refine .of [(4,⟨[3,22,23,24],[22,900003],[(3,none,900003,0),(3,none,900003,1)]⟩)] true body52 Tryz.ntmps52 fun T hO hT a0 x hr=>⟨by simp,?_⟩
 simp only [Zi] at hT; simp only at hr ⊢; unfold c52;unfold XJ at hr;refine goR ?_;obtain ⟨_,ehy18,hr⟩:=bN hr ZiA;refine goR ?_;obtain ⟨_,ehy19,hr⟩:=bN hr ZnQ;obtain ⟨_,ehy20,hr⟩:=bN hr ZnQ;refine goR ?_;refine lp 4 (fun (⟨p10,p11⟩:Int×(List Int))=>⟨(und 3++([.one (.ms 900003 0 0 (p11.length) 1)]++(und 18++([.one (.ms 22 0 0 (3) 1),.one (.v (.int .i64 (3:Int))),.one (.v (.int .i64 p10))]++(und 8)))):List PV),([(22,⟨0,1,Zd .u32 [a0.2.2.2.1,a0.2.2.2.2.1,a0.2.2.2.2.2],false,true⟩),(900003,⟨0,1,Zd .u8 p11,false,true⟩)]:Boxes)⟩) hr ?_;rintro ⟨p10,p11⟩ x27r hr27
 simp only [Y5] at hr27;unfold b52_1;refine nst ?_;refine goR ?_;by_cases c28:p10<(3:Int)
 ·replace hr27:=ifP hr27
  refine goR ?_;obtain ⟨j29,⟨_,_,_⟩,hr27⟩:=bA hr27;have j29d:j29≤2:=by omega
  obtain ⟨x30,hx30,hr27⟩:=bs hr27;have ghx30:=Zk hx30;have mhx30:(Zd .u32 ([a0.2.2.2.1,a0.2.2.2.2.1,a0.2.2.2.2.2]))[j29]? = some [.v (.int .u32 x30)]:=by rw [Zcj,hx30]; rfl
  simp only [Zla,Zmc] at mhx30;have mghx30:=Zk mhx30;refine goR ?_;obtain ⟨_,ehy31,hr27⟩:=bN hr27 ZiA;refine goR ?_;exact bk hr27
 ·replace hr27:=ifN hr27
  refine goR ?_;obtain ⟨r32,q32,rfl⟩:=ms hr27;refine goR ?_;rintro rfl
  refine goR ?_;unfold ZcD at q32;refine goR ?_;exact fin q32
theorem w22:Walk tt G [(51,K51.G),(52,K52.G)] (fun _=>[]) Tryz.f22 K22:=by
 refine .of [] false body22 Tryz.ntmps22 fun T hO hT a0 x hr=>⟨by simp,?_⟩
 simp only [Zi] at hT; simp only at hr ⊢; unfold c22;unfold ZbK at hr;refine go ?_;obtain ⟨_,ehy3,hr⟩:=bN hr Zq9;obtain ⟨_,ehy4,hr⟩:=bN hr Zvk;refine go ?_;exact fin hr
theorem w61:Walk tt G [(82,K82.G),(96,K96.G)] (fun _=>[]) Tryz.f61 K61:=by
 refine .of [] true body61 Tryz.ntmps61 fun T hO hT ⟨a0,a1⟩ x hr=>⟨by simp,?_⟩
 simp only [Zi] at hT; simp only at hr ⊢; unfold c61;unfold Xn at hr;refine go ?_;by_cases c12:a1<253
 ·replace hr:=ifP hr
  refine go ?_;obtain ⟨_,ehy13,hr⟩:=bN hr Ziz;obtain ⟨_,ehy14,hr⟩:=bN hr Zdn;refine go ?_;exact fin hr
 ·replace hr:=ifN hr
  refine go ?_;by_cases c15:a1<65536
  ·replace hr:=ifP hr
   refine go ?_;obtain ⟨_,ehy16,hr⟩:=bN hr Ziz;obtain ⟨_,ehy17,hr⟩:=bN hr Zdn;obtain ⟨_,ehy18,hr⟩:=bN hr Zdn;refine go ?_;exact fin hr
  ·replace hr:=ifN hr
   refine go ?_;by_cases c19:a1<4294967296
   ·replace hr:=ifP hr
    refine go ?_;obtain ⟨_,ehy20,hr⟩:=bN hr Ziz;obtain ⟨_,ehy21,hr⟩:=bN hr Zdn;obtain ⟨_,ehy22,hr⟩:=bN hr Zdn;refine go ?_;exact fin hr
   ·replace hr:=ifN hr
    refine go ?_;obtain ⟨_,ehy23,hr⟩:=bN hr Ziz;obtain ⟨_,ehy24,hr⟩:=bN hr Zdn;obtain ⟨_,ehy25,hr⟩:=bN hr Zdn;refine go ?_;exact fin hr
theorem w60:Walk tt G [(61,K61.G),(82,K82.G)] (fun _=>[]) Tryz.f60 K60:=by
 refine .of [] true body60 Tryz.ntmps60 fun T hO hT ⟨a0,a1⟩ x hr=>⟨by simp,?_⟩
 simp only [Zi] at hT; simp only at hr ⊢; unfold c60;unfold XZ at hr;refine go ?_;obtain ⟨_,ehy3,hr⟩:=bN hr ZjX;obtain ⟨_,ehy4,hr⟩:=bN hr Zdn;refine go ?_;exact fin hr
theorem w211:Walk tt G [(82,K82.G),(96,K96.G)] (fun _=>[]) Tryz.f211 K211:=by
 refine .of [] true body211 Tryz.ntmps211 fun T hO hT ⟨a0,a1⟩ x hr=>⟨by simp,?_⟩
 simp only [Zi] at hT; simp only at hr ⊢; unfold c211;unfold ZaW at hr;refine go ?_;obtain ⟨_,ehy3,hr⟩:=bN hr Ziz;obtain ⟨_,ehy4,hr⟩:=bN hr Zdn;refine go ?_;exact fin hr
theorem w166:Walk tt G [(60,K60.G),(211,K211.G)] (fun _=>[]) Tryz.f166 K166:=by
 refine .of [] true body166 Tryz.ntmps166 fun T hO hT a0 x hr=>⟨by simp,?_⟩
 simp only [Zi] at hT; simp only at hr ⊢; unfold c166;unfold Zei at hr;refine go ?_;obtain ⟨_,ehy3,hr⟩:=bN hr ZtZ;obtain ⟨_,ehy4,hr⟩:=bN hr Zra;refine go ?_;exact fin hr
theorem w114:Walk tt G [(23,K23.G),(53,K53.G),(60,K60.G),(61,K61.G),(166,K166.G)] (fun _=>[]) Tryz.f114 K114:=by
 refine .of [(4,⟨[1,2,5,24,25,26],[2,900005],[(5,none,900005,0),(5,none,900005,1)]⟩),(10,⟨[1,2,5,46,47,48],[2,44],[]⟩),(1000026,⟨[5],[900005],[]⟩),(16,⟨[1,5,62,63,64],[900005],[(5,none,900005,0),(5,none,900005,1)]⟩),(21,⟨[1,5,62,63,64,77,78,79],[900005],[(5,none,900005,0),(5,none,900005,1)]⟩)] true body114 Tryz.ntmps114 fun T hO hT ⟨a0,a1⟩ x hr=>⟨by simp,?_⟩
 simp only [Zi] at hT; simp only at hr ⊢; unfold c114;unfold Zbt at hr;refine go ?_;obtain ⟨_,ehy95,hr⟩:=bN hr ZiA;refine go ?_;obtain ⟨_,ehy96,hr⟩:=bN hr ZjX;refine go ?_;refine lp 4 (fun (⟨p13,p14⟩:Int×(List Int))=>⟨(und 1++([.one (.v (.bool a1)),.ptr 2 0 0 0 4]++(und 2++([.one (.ms 900005 0 0 (p14.length) 1)]++(und 18++([.one (.slice .no (List.map Zs a0.2.1)),.one (.v (.int .i64 (a0.2.1.length:Int))),.one (.v (.int .i64 p13))]++(und 62)))))):List PV),([(2,⟨0,4,[[.v (.int .u32 a0.1),.slice .no (List.map Zs a0.2.1),.slice .no (List.map Zr a0.2.2.1),.v (.int .u32 a0.2.2.2)]],false,false⟩),(900005,⟨0,1,Zd .u8 p14,false,true⟩)]:Boxes)⟩) hr ?_;rintro ⟨p13,p14⟩ x104r hr104
 simp only [ZbV] at hr104;unfold b114_1;refine nst ?_;refine go ?_;by_cases c105:p13<(a0.2.1.length:Int)
 ·have c105N:=nrm c105
  replace hr104:=ifP hr104
  refine go ?_;obtain ⟨_,⟨_,_,_⟩,hr104⟩:=bI hr104;refine go ?_;obtain ⟨y107,ehy107,hr104⟩:=bN hr104 Zq5;obtain ⟨_,hr104⟩:=bC hr104;have n1_u108_0:p14.length+y107.length≤140737488355328:=by omega
  have n2_u108_0:p14.length+y107.length≤9223372036854775807:=by omega
  obtain ⟨_,ehy109,hr104⟩:=bN hr104 ZiA;refine go ?_;exact bk hr104
 ·have c105N:=nrm c105
  replace hr104:=ifN hr104
  refine go ?_;obtain ⟨r110,q110,rfl⟩:=ms hr104;refine go ?_;rintro rfl
  refine go ?_;unfold Zc2 at q110;obtain ⟨_,ehy111,q110⟩:=bN q110 ZjX;refine go ?_;refine lp 10 (fun (⟨p28,p29⟩:Int×(List Int))=>⟨(und 1++([.one (.v (.bool a1)),.ptr 2 0 0 0 4]++(und 2++([.one (.ms 44 0 0 (p29.length) 1)]++(und 40++([.one (.slice .no (List.map Zr a0.2.2.1)),.one (.v (.int .i64 (a0.2.2.1.length:Int))),.one (.v (.int .i64 p28))]++(und 40)))))):List PV),([(2,⟨0,4,[[.v (.int .u32 a0.1),.slice .no (List.map Zs a0.2.1),.slice .no (List.map Zr a0.2.2.1),.v (.int .u32 a0.2.2.2)]],false,false⟩),(44,⟨0,1,Zd .u8 p29,false,true⟩)]:Boxes)⟩) q110 ?_;rintro ⟨p28,p29⟩ x118r hr118
  simp only [ZbU] at hr118;unfold b114_2;refine nst ?_;refine go ?_;by_cases c119:p28<(a0.2.2.1.length:Int)
  ·have c119N:=nrm c119
   replace hr118:=ifP hr118
   refine go ?_;obtain ⟨_,⟨_,_,_⟩,hr118⟩:=bI hr118;refine go ?_;obtain ⟨y121,ehy121,hr118⟩:=bN hr118 Zt0;obtain ⟨_,hr118⟩:=bC hr118;have n1_u122_0:p29.length+y121.length≤140737488355328:=by omega
   have n2_u122_0:p29.length+y121.length≤9223372036854775807:=by omega
   refine go ?_;exact bk hr118
  ·have c119N:=nrm c119
   replace hr118:=ifN hr118
   refine go ?_;obtain ⟨r123,q123,rfl⟩:=ms hr118;refine go ?_;rintro rfl
   refine go ?_;unfold Zc1 at q123;obtain ⟨_,ehy124,q123⟩:=bN q123 ZiA;refine go ?_;refine ZeA q123 (.exit 4) (fun (s:(List Int))=>match s with | p61=>(⟨(und 5++([.one (.ms 900005 0 0 (p61.length) 1)]++(und 83)):List PV),([(900005,⟨0,1,Zd .u8 p61,false,true⟩)]:Boxes)⟩:ASt)) (fun (s:(List Int))=>match s with | p61=>X0 p61) ?_ ?_
   ·rintro p61 hk142
    change X0 p61=_ at hk142
    refine go ?_;refine nst ?_;unfold X0 at hk142;refine Xe rfl (kq:=⟨[5],[900005],[]⟩) rfl (by simp [Yq, *]; rfl) (by simp [*] <;> rfl) ?_;refine go ?_;exact fin hk142
   ·intro J142
    simp only [pq,reduceCtorEq] at J142;refine lp 16 (fun (⟨p60,p61⟩:Int×(List Int))=>⟨(und 1++([.one (.v (.bool a1))]++(und 3++([.one (.ms 900005 0 0 (p61.length) 1)]++(und 56++([.one (.slice .no (List.map Zs a0.2.1)),.one (.v (.int .i64 (a0.2.1.length:Int))),.one (.v (.int .i64 p60))]++(und 24)))))):List PV),([(900005,⟨0,1,Zd .u8 p61,false,true⟩)]:Boxes)⟩) q123 ?_;rintro ⟨p60,p61⟩ x143r hr143
    simp only [Zas] at hr143;unfold b114_3;refine nst ?_;refine go ?_;by_cases c144:p60<(a0.2.1.length:Int)
    ·have c144N:=nrm c144
     replace hr143:=ifP hr143
     refine go ?_;obtain ⟨x145,⟨_,_,_⟩,hr143⟩:=bI hr143;refine go ?_;by_cases c146:a1=true
     ·replace hr143:=ifN hr143
      refine go ?_;obtain ⟨_,ehy147,hr143⟩:=bN hr143 ZjX;refine go ?_;refine lp 21 (fun (⟨p82,p83⟩:Int×(List Int))=>⟨(und 1++([.one (.v (.bool a1))]++(und 3++([.one (.ms 900005 0 0 (p83.length) 1)]++(und 56++([.one (.slice .no (List.map Zs a0.2.1)),.one (.v (.int .i64 (a0.2.1.length:Int))),.one (.v (.int .i64 p60))]++(und 12++([.one (.slice .no (List.map ZJ x145.2.2)),.one (.v (.int .i64 (x145.2.2.length:Int))),.one (.v (.int .i64 p82))]++(und 9)))))))):List PV),([(900005,⟨0,1,Zd .u8 p83,false,true⟩)]:Boxes)⟩) hr143 ?_;rintro ⟨p82,p83⟩ x153r hr153
      simp only [ZaX] at hr153;unfold b114_4;refine nst ?_;refine go ?_;by_cases c154:p82<(x145.2.2.length:Int)
      ·have c154N:=nrm c154
       replace hr153:=ifP hr153
       refine go ?_;obtain ⟨_,⟨_,_,_⟩,hr153⟩:=bI hr153;refine go ?_;obtain ⟨_,ehy156,hr153⟩:=bN hr153 Zra;refine go ?_;exact bk hr153
      ·have c154N:=nrm c154
       replace hr153:=ifN hr153
       refine go ?_;obtain ⟨r157,q157,rfl⟩:=ms hr153;refine go ?_;rintro rfl
       refine go ?_;unfold Zfe at q157;refine go ?_;exact bk q157
     ·replace hr143:=ifP hr143
      refine go ?_;obtain ⟨r158,q158,rfl⟩:=ms hr143;refine go ?_;rintro rfl
      refine go ?_;exact jn 1000026 (J142 p61 q158)
    ·have c144N:=nrm c144
     replace hr143:=ifN hr143
     refine go ?_;obtain ⟨r159,q159,rfl⟩:=ms hr143;refine go ?_;rintro rfl
     refine go ?_;exact jn 1000026 (J142 p61 q159)
end Go.Proofs.YthpkpciceodioaaGreatDoor
