import Derived.Test.YthpkpciceodioaaGreatDoorLfK
import Derived.Test.YthpkpciceodioaaGreatDoorCode
import Derived.Test.YthpkpciceodioaaGreatDoorBl
namespace Go.Proofs.YthpkpciceodioaaGreatDoor
open Go.RowKit
open Go.Av
open Go.Lc
set_option maxRecDepth 100000
set_option linter.unusedSimpArgs false
set_option linter.unusedVariables false
set_option maxHeartbeats 4000000
def kp148 : Keep:=fun i=>if i = 4 then ⟨[2,4,5,6,7,8,9,10,11,12,13,14,15],[2,4,5,6],[]⟩ else ⟨[],[],[]⟩
theorem w148 {T : Tab} (hO : T.own = fun _=>[]) (hT193 : T 193 = some K193.G) (hT194 : T 194 = some K194.G) (hT195 : T 195 = some K195.G) (a0 : (Arr 8)) (a1 : (Arr 64)) (x : (Arr 8)) (hr : X1 a0 a1 = some x) : ∃ kp fl n,Y8 tt T G kp fl n Tryz.f148 (Zg4 (a0,a1)) = some (Zjx (a0,a1) x):=by
 simp only [Zg4,Zjx];refine fnE (kp:=kp148) (w:=false) body148 (by simp) ?_;unfold c148;rw [Tryz.ntmps148];unfold X1 at hr;refine Zd rfl (by simp []; rfl) ?_;obtain ⟨y48,hy48,hr⟩:=bs hr;have ehy48:=ZqE hy48;simp only [K193,nf,nfs] at ehy48;obtain ⟨y49,hy49,hr⟩:=bs hr;have ehy49:=ZqF hy49;simp only [K194,nf,nfs] at ehy49;refine Zd rfl (by simp [hO,hT193,ehy48,hT194,ehy49]; rfl) ?_;have ar50:=YH (k:=.u32) (a0) (i:=0) (by decide);have as51:=YO (k:=.u32) (a0) (i:=0) (by decide);have ar52:=YH (k:=.u32) (a0) (i:=1) (by decide);have as53:=YO (k:=.u32) (a0) (i:=1) (by decide);have ar54:=YH (k:=.u32) (a0) (i:=2) (by decide);have as55:=YO (k:=.u32) (a0) (i:=2) (by decide);have ar56:=YH (k:=.u32) (a0) (i:=3) (by decide);have as57:=YO (k:=.u32) (a0) (i:=3) (by decide);have ar58:=YH (k:=.u32) (a0) (i:=4) (by decide);have as59:=YO (k:=.u32) (a0) (i:=4) (by decide);have ar60:=YH (k:=.u32) (a0) (i:=5) (by decide);have as61:=YO (k:=.u32) (a0) (i:=5) (by decide);have ar62:=YH (k:=.u32) (a0) (i:=6) (by decide);have as63:=YO (k:=.u32) (a0) (i:=6) (by decide);have ar64:=YH (k:=.u32) (a0) (i:=7) (by decide);have as65:=YO (k:=.u32) (a0) (i:=7) (by decide);refine ZZ rfl (by simp [ar50,as51,ar52,as53,ar54,as55,ar56,as57,ar58,as59,ar60,as61,ar62,as63,ar64,as65]; first | exact ⟨rfl,rfl⟩ | rfl) (by kernel_rfl) ?_;refine Zy ?_;refine Zd rfl (by simp []; rfl) ?_;refine Yd ?_;refine XB (kq:=⟨[2,4,5,6,7,8,9,10,11,12,13,14,15],[2,4,5,6],[]⟩) (H:=fun (s : Int×Int×Int×Int×Int×Int×Int×Int×Int)=>match s with | (p25,p26,p27,p28,p29,p30,p31,p32,p33)=>(⟨(und 2++([.ptr 2 0 0 0 8]++(und 1++([.ptr 4 0 0 0 8,.ptr 5 0 0 0 64,.ptr 6 0 0 0 64,.one (.v (.int .u32 p25)),.one (.v (.int .u32 p26)),.one (.v (.int .u32 p27)),.one (.v (.int .u32 p28)),.one (.v (.int .u32 p29)),.one (.v (.int .u32 p30)),.one (.v (.int .u32 p31)),.one (.v (.int .u32 p32)),.one (.v (.int .i64 p33))]++(und 117)))) : List PV),([(2,⟨0,8,[arC .u32 a0],false,false⟩),(4,⟨0,8,[arC .u32 (zA 8)],false,false⟩),(5,⟨0,64,[arC .u32 y48],false,false⟩),(6,⟨0,64,[arC .u32 y49],false,false⟩)] : Boxes)⟩ : ASt)) (by kernel_rfl) hr (by simp [und,List.replicate,]) ?_;rintro ⟨p25,p26,p27,p28,p29,p30,p31,p32,p33⟩ x80r hr80
 simp only [ZaJ] at hr80;unfold b148_1;simp only [und,List.replicate,List.cons_append,List.nil_append];refine Zy ?_;refine Zd rfl (by simp []; rfl) ?_;by_cases c81 : p33 < 64
 ·skip
  rw [if_pos] at hr80;rotate_left
  ·simp [c81]
  refine ZB (by simp [bV,c81]) ?_;refine Zz ?_;refine Yd ?_;obtain ⟨y82,hy82,hr80⟩:=bs hr80;have ehy82:=ZcF hy82;simp only [K195,nf,nfs] at ehy82;obtain ⟨y83,hy83,hr80⟩:=bs hr80;have ehy83:=ZcF hy83;simp only [K195,nf,nfs] at ehy83;obtain ⟨y84,hy84,hr80⟩:=bs hr80;have ehy84:=ZcF hy84;simp only [K195,nf,nfs] at ehy84;obtain ⟨j85,hj85,hr80⟩:=bs hr80;obtain ⟨j85a,j85b,j85c⟩:=Zn hj85;have j85d : j85≤63:=by omega
  have ar86:=YH (k:=.u32) (y49) (i:=j85) j85c;have as87:=YO (k:=.u32) (y49) (i:=j85) j85c;obtain ⟨j85a,j85b,j85c⟩:=Zn hj85;have j85d : j85≤63:=by omega
  have ar88:=YH (k:=.u32) (y48) (i:=j85) j85c;have as89:=YO (k:=.u32) (y48) (i:=j85) j85c;refine ZZ rfl (by simp [hO,hT195,ehy82,ehy83,ehy84,j85a,j85b,j85c,j85d,ar86,as87,ar88,as89,c81]; first | exact ⟨rfl,rfl⟩ | rfl) (by kernel_rfl) ?_;obtain ⟨y90,hy90,hr80⟩:=bs hr80;have ehy90:=ZcF hy90;simp only [K195,nf,nfs] at ehy90;obtain ⟨y91,hy91,hr80⟩:=bs hr80;have ehy91:=ZcF hy91;simp only [K195,nf,nfs] at ehy91;obtain ⟨y92,hy92,hr80⟩:=bs hr80;have ehy92:=ZcF hy92;simp only [K195,nf,nfs] at ehy92;refine Zd rfl (by simp [hO,hT195,ehy90,ehy91,ehy92,c81]; rfl) ?_;refine Y4 rfl (by simp [c81]; rfl) ?_;simp only [pq,reduceCtorEq];refine Y4 rfl (by simp [c81]; rfl) ?_;obtain rfl:=Option.some.inj hr80;simp only [pq,reduceCtorEq];simp [und,List.replicate,Nat.add_assoc,c81]
 ·skip
  rw [if_neg] at hr80;rotate_left
  ·simp [c81]
  refine Zl (by simp [bV,c81]) ?_;refine Z0 ?_;obtain ⟨r93,q93,rfl⟩:=ms hr80;simp only [pq,reduceCtorEq];rintro rfl
  try simp only [pq,reduceCtorEq]
  unfold ZeY at q93;have ar94:=YH (k:=.u32) (a0) (i:=0) (by decide);have as95:=YO (k:=.u32) (a0) (i:=0) (by decide);have ar96:=YH (k:=.u32) (a0) (i:=1) (by decide);have as97:=YO (k:=.u32) (a0) (i:=1) (by decide);have ar98:=YH (k:=.u32) (a0) (i:=2) (by decide);have as99:=YO (k:=.u32) (a0) (i:=2) (by decide);have ar100:=YH (k:=.u32) (a0) (i:=3) (by decide);have as101:=YO (k:=.u32) (a0) (i:=3) (by decide);have ar102:=YH (k:=.u32) (a0) (i:=4) (by decide);have as103:=YO (k:=.u32) (a0) (i:=4) (by decide);have ar104:=YH (k:=.u32) (a0) (i:=5) (by decide);have as105:=YO (k:=.u32) (a0) (i:=5) (by decide);have ar106:=YH (k:=.u32) (a0) (i:=6) (by decide);have as107:=YO (k:=.u32) (a0) (i:=6) (by decide);have ar108:=YH (k:=.u32) (a0) (i:=7) (by decide);have as109:=YO (k:=.u32) (a0) (i:=7) (by decide);have ap110:=Xd (k:=.u32) (zA 8) (i:=0) (by decide) (IntKind.u32.wrap ((a0.at 0) + p25));have ap111:=Xd (k:=.u32) ((zA 8).put 0 (IntKind.u32.wrap ((a0.at 0) + p25))) (i:=1) (by decide) (IntKind.u32.wrap ((a0.at 1) + p26));have ap112:=Xd (k:=.u32) (((zA 8).put 0 (IntKind.u32.wrap ((a0.at 0) + p25))).put 1 (IntKind.u32.wrap ((a0.at 1) + p26))) (i:=2) (by decide) (IntKind.u32.wrap ((a0.at 2) + p27));have ap113:=Xd (k:=.u32) ((((zA 8).put 0 (IntKind.u32.wrap ((a0.at 0) + p25))).put 1 (IntKind.u32.wrap ((a0.at 1) + p26))).put 2 (IntKind.u32.wrap ((a0.at 2) + p27))) (i:=3) (by decide) (IntKind.u32.wrap ((a0.at 3) + p28));have ap114:=Xd (k:=.u32) (((((zA 8).put 0 (IntKind.u32.wrap ((a0.at 0) + p25))).put 1 (IntKind.u32.wrap ((a0.at 1) + p26))).put 2 (IntKind.u32.wrap ((a0.at 2) + p27))).put 3 (IntKind.u32.wrap ((a0.at 3) + p28))) (i:=4) (by decide) (IntKind.u32.wrap ((a0.at 4) + p29));have ap115:=Xd (k:=.u32) ((((((zA 8).put 0 (IntKind.u32.wrap ((a0.at 0) + p25))).put 1 (IntKind.u32.wrap ((a0.at 1) + p26))).put 2 (IntKind.u32.wrap ((a0.at 2) + p27))).put 3 (IntKind.u32.wrap ((a0.at 3) + p28))).put 4 (IntKind.u32.wrap ((a0.at 4) + p29))) (i:=5) (by decide) (IntKind.u32.wrap ((a0.at 5) + p30));have ap116:=Xd (k:=.u32) (((((((zA 8).put 0 (IntKind.u32.wrap ((a0.at 0) + p25))).put 1 (IntKind.u32.wrap ((a0.at 1) + p26))).put 2 (IntKind.u32.wrap ((a0.at 2) + p27))).put 3 (IntKind.u32.wrap ((a0.at 3) + p28))).put 4 (IntKind.u32.wrap ((a0.at 4) + p29))).put 5 (IntKind.u32.wrap ((a0.at 5) + p30))) (i:=6) (by decide) (IntKind.u32.wrap ((a0.at 6) + p31));have ap117:=Xd (k:=.u32) ((((((((zA 8).put 0 (IntKind.u32.wrap ((a0.at 0) + p25))).put 1 (IntKind.u32.wrap ((a0.at 1) + p26))).put 2 (IntKind.u32.wrap ((a0.at 2) + p27))).put 3 (IntKind.u32.wrap ((a0.at 3) + p28))).put 4 (IntKind.u32.wrap ((a0.at 4) + p29))).put 5 (IntKind.u32.wrap ((a0.at 5) + p30))).put 6 (IntKind.u32.wrap ((a0.at 6) + p31))) (i:=7) (by decide) (IntKind.u32.wrap ((a0.at 7) + p32));refine Zd rfl (by simp [ar94,as95,ar96,as97,ar98,as99,ar100,as101,ar102,as103,ar104,as105,ar106,as107,ar108,as109,ap110,ap111,ap112,ap113,ap114,ap115,ap116,ap117,c81]; rfl) ?_;refine Zbm ?_;obtain rfl:=Option.some.inj q93;simp [Zaj,ar94,as95,ar96,as97,ar98,as99,ar100,as101,ar102,as103,ar104,as105,ar106,as107,ar108,as109,ap110,ap111,ap112,ap113,ap114,ap115,ap116,ap117,c81]
def kp95 : Keep:=fun i=>if i = 4 then ⟨[2,3,4,5],[2,4,11],[]⟩ else if i = 11 then ⟨[2,7,33,34],[2,7],[]⟩ else ⟨[],[],[]⟩
theorem w95 {T : Tab} (hO : T.own = fun _=>[]) (hT146 : T 146 = some K146.G) (hT147 : T 147 = some K147.G) (hT148 : T 148 = some G148) (a0 : (List Int)) (x : (Arr 32)) (hr : Zal a0 = some x) : ∃ kp fl n,Y8 tt T G kp fl n Tryz.f95 (E95 a0) = some (R95 a0 x):=by
 simp only [E95,R95];refine fnE (kp:=kp95) (w:=false) body95 (by simp) ?_;unfold c95;rw [Tryz.ntmps95];unfold Zal at hr;refine Zd rfl (by simp [-Y6,-List.take_append,-List.drop_append,]; rfl) ?_;obtain ⟨_,u40,hr⟩:=bs hr;have u40_0:=ZA u40;have n1_u40_0 : a0.length≤140737488355328:=by omega
 have n2_u40_0 : a0.length≤9223372036854775807:=by omega
 obtain ⟨y41,hy41,hr⟩:=bs hr;have ehy41:=ZqC hy41;simp only [K146,nf,nfs] at ehy41;obtain ⟨_,u42,hr⟩:=bs hr;have u42_0:=ZA u42;have n1_u42_0 : a0.length + y41.length≤140737488355328:=by omega
 have n2_u42_0 : a0.length + y41.length≤9223372036854775807:=by omega
 refine Zd rfl (by simp [-Y6,-List.take_append,-List.drop_append,n1_u40_0,n2_u40_0,hO,hT146,ehy41,n1_u42_0,n2_u42_0]; rfl) ?_;obtain ⟨y43,hy43,hr⟩:=bs hr;have ehy43:=ZqD hy43;simp only [K147,nf,nfs] at ehy43;refine Zd rfl (by simp [-Y6,-List.take_append,-List.drop_append,hO,hT147,ehy43]; rfl) ?_;refine Zy ?_;refine Zd rfl (by simp [-Y6,-List.take_append,-List.drop_append,]; rfl) ?_;refine Yd ?_;refine XB (kq:=⟨[2,3,4,5],[2,4,11],[]⟩) (H:=fun (s : Int×(Arr 8))=>match s with | (p11,p12)=>(⟨(und 2++([.ptr 2 0 0 0 32,.one (.ms 11 0 0 (a0.length + y41.length) 1),.ptr 4 0 0 0 8,.one (.v (.int .i64 p11))]++(und 60)) : List PV),([(2,⟨0,32,[arC .u8 (zA 32)],false,false⟩),(4,⟨0,8,[arC .u32 p12],false,false⟩),(11,⟨0,1,Ze .u8 (a0++y41),false,true⟩)] : Boxes)⟩ : ASt)) (by kernel_rfl) hr (by simp [und,List.replicate,]) ?_;rintro ⟨p11,p12⟩ x52r hr52
 simp only [Zcv] at hr52;unfold b95_1;simp only [und,List.replicate,List.cons_append,List.nil_append];refine Zy ?_;refine Zd rfl (by simp [-Y6,-List.take_append,-List.drop_append,]; rfl) ?_;by_cases c53 : IntKind.i64.wrap (p11 + 64)≤(a0.length + y41.length : Int)
 ·skip
  have c53N:=c53;try simp at c53N
  first | have c53M : (_ = _) = True:=eq_true c53N | have c53M:=c53N
  rw [if_pos] at hr52;rotate_left
  ·simp [c53,c53M]
  refine ZB (by simp [bV,c53,c53M]) ?_;refine Zz ?_;refine Yd ?_;refine Zd rfl (by simp [-Y6,-List.take_append,-List.drop_append,c53,c53M] <;> rfl) ?_;obtain ⟨_,u54,hr52⟩:=bs hr52;obtain ⟨u54_0,u54_1⟩:=ZA u54
  have lu54_1 : p11≤((a0.length + y41.length : Nat) : Int):=by
   have h:=u54_1;try simp at h
   omega
  try simp only [Int.natCast_add] at lu54_1
  have sf55 : (p11).toNat≤(a0++y41).length:=by omega
  have sf56 : (p11).toNat≤a0.length + y41.length:=by omega
  have al57:=eq_true (fun l h=>intsR_all l (List.mem_of_mem_drop h) : ∀ l,l∈List.drop ((p11).toNat) (Ze .u8 (a0++y41))→l.length = 1);have ov57:=ZoS (k:=.u8) (a:=zA 64) (l:=(a0++y41).drop (p11).toNat);try simp only [Zhs,ZgT,ZfM,ZkN,Zb,ZjP,List.length_drop,List.length_append] at ov57
  refine ZZ rfl (by simp [-Y6,-List.take_append,-List.drop_append,u54_0,u54_1,lu54_1,sf55,sf56,al57,ov57,c53,c53M]; first | exact ⟨rfl,rfl⟩ | rfl) (by kernel_rfl) ?_;obtain ⟨y58,hy58,hr52⟩:=bs hr52;have ehy58:=ZqG hy58;simp only [Zg4,Zjx,nf,nfs] at ehy58;refine Y4 rfl (by simp [-Y6,-List.take_append,-List.drop_append,hO,hT148,ehy58,c53,c53M] <;> rfl) ?_;simp only [pq,reduceCtorEq];refine Y4 rfl (by simp [-Y6,-List.take_append,-List.drop_append,c53,c53M] <;> rfl) ?_;obtain rfl:=Option.some.inj hr52;simp only [pq,reduceCtorEq];simp [und,List.replicate,Nat.add_assoc,c53,c53M]
 ·skip
  have c53N:=c53;try simp at c53N
  first | have c53M : (_ = _) = True:=eq_true c53N | have c53M:=c53N
  rw [if_neg] at hr52;rotate_left
  ·simp [c53,c53M]
  refine Zl (by simp [bV,c53,c53M]) ?_;refine Z0 ?_;obtain ⟨r59,q59,rfl⟩:=ms hr52;simp only [pq,reduceCtorEq];rintro rfl
  try simp only [pq,reduceCtorEq]
  unfold ZdE at q59;refine Zd rfl (by simp [-Y6,-List.take_append,-List.drop_append,c53,c53M] <;> rfl) ?_;refine Zy ?_;refine Zd rfl (by simp [-Y6,-List.take_append,-List.drop_append,c53,c53M] <;> rfl) ?_;refine Yd ?_;refine XB (kq:=⟨[2,7,33,34],[2,7],[]⟩) (H:=fun (s : Int×(Arr 32))=>match s with | (p26,p27)=>(⟨(und 2++([.ptr 2 0 0 0 32]++(und 4++([.ptr 7 0 0 0 32]++(und 25++([.agg (arC .u32 p12),.one (.v (.int .i64 p26))]++(und 31)))))) : List PV),([(2,⟨0,32,[arC .u8 (zA 32)],false,false⟩),(7,⟨0,32,[arC .u8 p27],false,false⟩)] : Boxes)⟩ : ASt)) (by kernel_rfl) q59 (by simp [und,List.replicate,c53,c53M]) ?_;rintro ⟨p26,p27⟩ x74r hr74
  simp only [Zcu] at hr74;unfold b95_2;simp only [und,List.replicate,List.cons_append,List.nil_append];refine Zd rfl (by simp [-Y6,-List.take_append,-List.drop_append,c53,c53M] <;> rfl) ?_;by_cases c75 : p26 < 8
  ·skip
   rw [if_pos] at hr74;rotate_left
   ·simp [c53,c53M,c75]
   refine ZB (by simp [bV,c53,c53M,c75]) ?_;refine Zz ?_;refine Yd ?_;obtain ⟨j76,hj76,hr74⟩:=bs hr74;obtain ⟨j76a,j76b,j76c⟩:=Zn hj76;have j76d : j76≤7:=by omega
   have ar77:=YH (k:=.u32) (p12) (i:=j76) j76c;have as78:=YO (k:=.u32) (p12) (i:=j76) j76c;refine Zd rfl (by simp [-Y6,-List.take_append,-List.drop_append,j76a,j76b,j76c,j76d,ar77,as78,c53,c53M,c75] <;> rfl) ?_;obtain ⟨j79,hj79,hr74⟩:=bs hr74;obtain ⟨j79a,j79b,j79c⟩:=Zn hj79;have j79d : j79≤31:=by omega
   have ap80:=Xd (k:=.u8) (p27) (i:=j79) j79c (IntKind.u8.wrap ((p12.at j76).fdiv 16777216));obtain ⟨j81,hj81,hr74⟩:=bs hr74;obtain ⟨j81a,j81b,j81c⟩:=Zn hj81;have j81d : j81≤31:=by omega
   have ap82:=Xd (k:=.u8) (p27.put j79 (IntKind.u8.wrap ((p12.at j76).fdiv 16777216))) (i:=j81) j81c (IntKind.u8.wrap ((p12.at j76).fdiv 65536));obtain ⟨j83,hj83,hr74⟩:=bs hr74;obtain ⟨j83a,j83b,j83c⟩:=Zn hj83;have j83d : j83≤31:=by omega
   have ap84:=Xd (k:=.u8) ((p27.put j79 (IntKind.u8.wrap ((p12.at j76).fdiv 16777216))).put j81 (IntKind.u8.wrap ((p12.at j76).fdiv 65536))) (i:=j83) j83c (IntKind.u8.wrap ((p12.at j76).fdiv 256));obtain ⟨j85,hj85,hr74⟩:=bs hr74;obtain ⟨j85a,j85b,j85c⟩:=Zn hj85;have j85d : j85≤31:=by omega
   have ap86:=Xd (k:=.u8) (((p27.put j79 (IntKind.u8.wrap ((p12.at j76).fdiv 16777216))).put j81 (IntKind.u8.wrap ((p12.at j76).fdiv 65536))).put j83 (IntKind.u8.wrap ((p12.at j76).fdiv 256))) (i:=j85) j85c (IntKind.u8.wrap (p12.at j76));refine Y4 rfl (by simp [-Y6,-List.take_append,-List.drop_append,j79a,j79b,j79c,j79d,ap80,j81a,j81b,j81c,j81d,ap82,j83a,j83b,j83c,j83d,ap84,j85a,j85b,j85c,j85d,ap86,c53,c53M,c75] <;> rfl) ?_;simp only [pq,reduceCtorEq];refine Y4 rfl (by simp [-Y6,-List.take_append,-List.drop_append,c53,c53M,c75] <;> rfl) ?_;obtain rfl:=Option.some.inj hr74;simp only [pq,reduceCtorEq];simp [und,List.replicate,Nat.add_assoc,c53,c53M,c75]
  ·skip
   rw [if_neg] at hr74;rotate_left
   ·simp [c53,c53M,c75]
   refine Zl (by simp [bV,c53,c53M,c75]) ?_;refine Z0 ?_;obtain ⟨r87,q87,rfl⟩:=ms hr74;simp only [pq,reduceCtorEq];rintro rfl
   try simp only [pq,reduceCtorEq]
   unfold Zg8 at q87;refine Zd rfl (by simp [-Y6,-List.take_append,-List.drop_append,c53,c53M,c75] <;> rfl) ?_;refine Zbm ?_;obtain rfl:=Option.some.inj q87;simp [Zaj,c53,c53M,c75,c53N]
theorem w51 : Walk tt G [(95,G95)] (fun _=>[]) Tryz.f51 K51:=by
 refine .of [] false body51 Tryz.ntmps51 fun T hO hT a0 x hr=>⟨by simp,?_⟩
 simp only [Zq] at hT; simp only at hr ⊢; unfold c51;unfold Zap at hr;refine go ?_;obtain ⟨_,ehy3,hr⟩:=bG hr fun _=>Zok
 simp only [E95,R95,nf,nfs] at ehy3;refine go ?_;obtain ⟨_,ehy4,hr⟩:=bG hr fun _=>Zok
 simp only [E95,R95,nf,nfs] at ehy4;refine go ?_;exact fin hr
theorem w82 : Walk tt G [] (fun _=>[]) Tryz.f82 K82:=by
 refine .of [] true body82 Tryz.ntmps82 fun T hO hT ⟨a0,a1⟩ x hr=>⟨by simp,?_⟩
 simp only [Zq] at hT; simp only at hr ⊢; unfold c82;unfold ZaZ at hr;refine go ?_;obtain ⟨⟨_,_⟩,hr⟩:=bC hr;have mf5 : 0≤(IntKind.i64.wrap ((a0.length : Int) + (a1.length : Int))).toNat:=by omega
 have mf6 : (IntKind.i64.wrap ((a0.length : Int) + (a1.length : Int))).toNat≤140737488355328:=by omega
 have mf7 : (IntKind.i64.wrap ((a0.length : Int) + (a1.length : Int))).toNat≤9223372036854775807:=by omega
 have mf8 : 0≤IntKind.i64.wrap ((a0.length : Int) + (a1.length : Int)):=by omega
 refine go ?_;obtain ⟨_,hr⟩:=bC hr;have n1_u9_0 : a0.length≤140737488355328:=by omega
 have n2_u9_0 : a0.length≤9223372036854775807:=by omega
 obtain ⟨_,hr⟩:=bC hr;have n1_u10_0 : a0.length + a1.length≤140737488355328:=by omega
 have n2_u10_0 : a0.length + a1.length≤9223372036854775807:=by omega
 refine go ?_;exact fin hr
theorem w96 : Walk tt G [] (fun _=>[]) Tryz.f96 K96:=by
 refine .of [(3,⟨[0,5,10,11],[8],[]⟩)] true body96 Tryz.ntmps96 fun T hO hT ⟨a0,a1⟩ x hr=>⟨by simp,?_⟩
 simp only [Zq] at hT; simp only at hr ⊢; unfold c96;unfold Za0 at hr;refine go ?_;obtain ⟨⟨_,_⟩,hr⟩:=bC hr;have mf15 : (a1).toNat≤140737488355328:=by omega
 have mf16 : (a1).toNat≤9223372036854775807:=by omega
 have mf17 : 0≤a1:=by omega
 refine go ?_;refine lp 3 (fun (⟨p8,p9⟩ : Int×(List Int))=>⟨([.one (.v (.int .u64 a0))]++(und 4++([.one (.ms 8 0 0 (p9.length) 1)]++(und 4++([.one (.v (.int .i64 ((List.replicate ((a1).toNat) 0).length : Int))),.one (.v (.int .i64 p8))]++(und 12))))) : List PV),([(8,⟨0,1,Ze .u8 p9,false,true⟩)] : Boxes)⟩) hr ?_;rintro ⟨p8,p9⟩ x23r hr23
 simp only [Zbq] at hr23;unfold b96_1;refine nst ?_;refine go ?_;by_cases c24 : p8 < ((List.replicate ((a1).toNat) 0).length : Int)
 ·have c24N:=nrm c24
  replace hr23:=ifP hr23
  refine go ?_;obtain ⟨_,hr23⟩:=bC hr23;obtain ⟨_,⟨_,_,_⟩,hr23⟩:=bA hr23;refine go ?_;exact bk hr23
 ·have c24N:=nrm c24
  replace hr23:=ifN hr23
  refine go ?_;obtain ⟨r27,q27,rfl⟩:=ms hr23;refine go ?_;rintro rfl
  refine go ?_;unfold ZdU at q27;refine go ?_;exact fin q27
theorem w53 : Walk tt G [(82,K82.G),(96,K96.G)] (fun _=>[]) Tryz.f53 K53:=by
 refine .of [] true body53 Tryz.ntmps53 fun T hO hT ⟨a0,a1⟩ x hr=>⟨by simp,?_⟩
 simp only [Zq] at hT; simp only at hr ⊢; unfold c53;unfold X8 at hr;refine go ?_;obtain ⟨_,ehy3,hr⟩:=bN hr ZrO;obtain ⟨_,ehy4,hr⟩:=bN hr Zol;refine go ?_;exact fin hr
theorem w54 : Walk tt G [(82,K82.G)] (fun _=>[]) Tryz.f54 K54:=by
 refine .of [] true body54 Tryz.ntmps54 fun T hO hT ⟨a0,a1⟩ x hr=>⟨by simp,?_⟩
 simp only [Zq] at hT; simp only at hr ⊢; unfold c54;unfold XY at hr;refine go ?_;obtain ⟨_,ehy2,hr⟩:=bN hr Zol;refine go ?_;exact fin hr
theorem w52 : Walk tt G [(53,K53.G),(54,K54.G)] (fun _=>[]) Tryz.f52 K52:=by
 refine .of [(4,⟨[3,22,23,24],[22,900003],[(3,none,900003,0),(3,none,900003,1)]⟩)] true body52 Tryz.ntmps52 fun T hO hT a0 x hr=>⟨by simp,?_⟩
 simp only [Zq] at hT; simp only at hr ⊢; unfold c52;unfold X3 at hr;refine goR ?_;obtain ⟨_,ehy18,hr⟩:=bN hr Zom;refine goR ?_;obtain ⟨_,ehy19,hr⟩:=bN hr Zon;obtain ⟨_,ehy20,hr⟩:=bN hr Zon;refine goR ?_;refine lp 4 (fun (⟨p10,p11⟩ : Int×(List Int))=>⟨(und 3++([.one (.ms 900003 0 0 (p11.length) 1)]++(und 18++([.one (.ms 22 0 0 (3) 1),.one (.v (.int .i64 (3 : Int))),.one (.v (.int .i64 p10))]++(und 8)))) : List PV),([(22,⟨0,1,Ze .u32 [a0.2.2.2.1,a0.2.2.2.2.1,a0.2.2.2.2.2],false,true⟩),(900003,⟨0,1,Ze .u8 p11,false,true⟩)] : Boxes)⟩) hr ?_;rintro ⟨p10,p11⟩ x27r hr27
 simp only [YW] at hr27;unfold b52_1;refine nst ?_;refine goR ?_;by_cases c28 : p10 < (3 : Int)
 ·replace hr27:=ifP hr27
  refine goR ?_;obtain ⟨j29,⟨_,_,_⟩,hr27⟩:=bA hr27;have j29d : j29≤2:=by omega
  obtain ⟨x30,hx30,hr27⟩:=bs hr27;have ghx30:=Zj hx30;have mhx30 : (Ze .u32 ([a0.2.2.2.1,a0.2.2.2.2.1,a0.2.2.2.2.2]))[j29]? = some [.v (.int .u32 x30)]:=by rw [ZbP,hx30]; rfl
  simp only [ZgT,Zhs] at mhx30;have mghx30:=Zj mhx30;refine goR ?_;obtain ⟨_,ehy31,hr27⟩:=bN hr27 Zom;refine goR ?_;exact bk hr27
 ·replace hr27:=ifN hr27
  refine goR ?_;obtain ⟨r32,q32,rfl⟩:=ms hr27;refine goR ?_;rintro rfl
  refine goR ?_;unfold Zb1 at q32;refine goR ?_;exact fin q32
theorem w22 : Walk tt G [(51,K51.G),(52,K52.G)] (fun _=>[]) Tryz.f22 K22:=by
 refine .of [] false body22 Tryz.ntmps22 fun T hO hT a0 x hr=>⟨by simp,?_⟩
 simp only [Zq] at hT; simp only at hr ⊢; unfold c22;unfold Zb2 at hr;refine go ?_;obtain ⟨_,ehy3,hr⟩:=bN hr ZrP;obtain ⟨_,ehy4,hr⟩:=bN hr ZrN;refine go ?_;exact fin hr
end Go.Proofs.YthpkpciceodioaaGreatDoor
