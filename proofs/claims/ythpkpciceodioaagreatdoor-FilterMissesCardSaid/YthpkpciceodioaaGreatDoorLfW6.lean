import Derived.Test.YthpkpciceodioaaGreatDoorLfK
import Derived.Test.YthpkpciceodioaaGreatDoorCode
import Derived.Test.YthpkpciceodioaaGreatDoorBl
namespace Go.Proofs.YthpkpciceodioaaGreatDoor
open Go.RowKit
open Go.Av
open Go.Lc
set_option maxRecDepth 100000
set_option linter.unusedSimpArgs false
set_option linter.unusedVariables false
set_option maxHeartbeats 4000000
def kp95:Keep:=fun i=>if i=4 then⟨[2,3,4,5],[2,4,11],[]⟩ else if i=11 then⟨[2,7,33,34],[2,7],[]⟩ else⟨[],[],[]⟩
theorem w95 {T:Tab}(hO:T.own=fun _=>[]) (hT146:T 146=some K146.G) (hT147:T 147=some K147.G) (hT148:T 148=some G148) (a0:(List Int)) (x:(Arr 32)) (hr:YI a0=some x):∃ kp fl n,ZO tt T G kp fl n Tryz.f95 (E95 a0)=some (R95 a0 x):=by
 simp only[E95,R95];refine fnE (kp:=kp95) (w:=false) body95 (by simp) ?_;unfold c95;rw[Tryz.ntmps95];unfold YI at hr;refine Ze rfl (by simp[-Yz,-List.take_append,-List.drop_append,]; rfl) ?_;obtain⟨_,u40,hr⟩:=bs hr;have u40_0:=ZW u40;have n1_u40_0:a0.length≤140737488355328:=by omega
 have n2_u40_0:a0.length≤9223372036854775807:=by omega
 obtain⟨y41,hy41,hr⟩:=bs hr;have ehy41:=K146.q1 hy41;simp only[K146,kS,nf,nfs] at ehy41;obtain⟨_,u42,hr⟩:=bs hr;have u42_0:=ZW u42;have n1_u42_0:a0.length+y41.length≤140737488355328:=by omega
 have n2_u42_0:a0.length+y41.length≤9223372036854775807:=by omega
 refine Ze rfl (by simp[-Yz,-List.take_append,-List.drop_append,n1_u40_0,n2_u40_0,hO,hT146,ehy41,n1_u42_0,n2_u42_0]; rfl) ?_;obtain⟨y43,hy43,hr⟩:=bs hr;have ehy43:=K147.q0 hy43;simp only[K147,kS,nf,nfs] at ehy43;refine Ze rfl (by simp[-Yz,-List.take_append,-List.drop_append,hO,hT147,ehy43]; rfl) ?_;refine ZT ?_;refine Ze rfl (by simp[-Yz,-List.take_append,-List.drop_append,]; rfl) ?_;refine ZG ?_;refine XU (kq:=⟨[2,3,4,5],[2,4,11],[]⟩) (H:=fun(s:Int×(Arr 8))=>match s with | (p11,p12)=>(⟨(und 2++([.ptr 2 0 0 0 32,.one (.ms 11 0 0 (a0.length+y41.length) 1),.ptr 4 0 0 0 8,.one (.v (.int .i64 p11))]++(und 60)):List PV),([(2,⟨0,32,[arC .u8 (zA 32)],false,false⟩),(4,⟨0,8,[arC .u32 p12],false,false⟩),(11,⟨0,1,Zf .u8 (a0++y41),false,true⟩)]:Boxes)⟩:ASt)) (by kernel_rfl) hr (by simp[und,List.replicate,]) ?_;rintro⟨p11,p12⟩ x52r hr52
 simp only[Zfp] at hr52;unfold b95_1;simp only[und,List.replicate,List.cons_append,List.nil_append];refine ZT ?_;refine Ze rfl (by simp[-Yz,-List.take_append,-List.drop_append,]; rfl) ?_;by_cases c53:IntKind.i64.wrap (p11+64)≤(a0.length+y41.length:Int)
 ·skip
  have c53N:=c53;try simp at c53N
  first | have c53M:(_=_)=True:=eq_true c53N | have c53M:=c53N
  rw[if_pos] at hr52;rotate_left
  ·simp[c53,c53M]
  refine ZJ (by simp[bV,c53,c53M]) ?_;refine ZL ?_;refine ZG ?_;refine Ze rfl (by simp[-Yz,-List.take_append,-List.drop_append,c53,c53M] <;> rfl) ?_;obtain⟨_,u54,hr52⟩:=bs hr52;obtain⟨u54_0,u54_1⟩:=ZW u54
  have lu54_1:p11≤((a0.length+y41.length:Nat):Int):=by
   have h:=u54_1;try simp at h
   omega
  try simp only[Int.natCast_add] at lu54_1
  have sf55:(p11).toNat≤(a0++y41).length:=by omega
  have sf56:(p11).toNat≤a0.length+y41.length:=by omega
  have al57:=eq_true (fun l h=>intsR_all l (List.mem_of_mem_drop h):∀ l,l∈List.drop ((p11).toNat) (Zf .u8 (a0++y41))→l.length=1);have ov57:=ZnQ (k:=.u8) (a:=zA 64) (l:=(a0++y41).drop (p11).toNat);try simp only[ZmB,ZlW,ZiN,ZnO,Zt,Zpk,List.length_drop,List.length_append] at ov57
  refine Y8 rfl (by simp[-Yz,-List.take_append,-List.drop_append,u54_0,u54_1,lu54_1,sf55,sf56,al57,ov57,c53,c53M]; first | exact⟨rfl,rfl⟩ | rfl) (by kernel_rfl) ?_;obtain⟨y58,hy58,hr52⟩:=bs hr52;have ehy58:=Zsd hy58;simp only[Zg0,Zja,kS,nf,nfs] at ehy58;refine XC rfl (by simp[-Yz,-List.take_append,-List.drop_append,hO,hT148,ehy58,c53,c53M] <;> rfl) ?_;simp only[pq,reduceCtorEq];refine XC rfl (by simp[-Yz,-List.take_append,-List.drop_append,c53,c53M] <;> rfl) ?_;obtain rfl:=Option.some.inj hr52;simp only[pq,reduceCtorEq];simp[und,List.replicate,Nat.add_assoc,c53,c53M]
 ·skip
  have c53N:=c53;try simp at c53N
  first | have c53M:(_=_)=True:=eq_true c53N | have c53M:=c53N
  rw[if_neg] at hr52;rotate_left
  ·simp[c53,c53M]
  refine ZE (by simp[bV,c53,c53M]) ?_;refine Ym ?_;obtain⟨r59,q59,rfl⟩:=ms hr52;simp only[pq,reduceCtorEq];rintro rfl
  try simp only[pq,reduceCtorEq]
  unfold Zht at q59;refine Ze rfl (by simp[-Yz,-List.take_append,-List.drop_append,c53,c53M] <;> rfl) ?_;refine ZT ?_;refine Ze rfl (by simp[-Yz,-List.take_append,-List.drop_append,c53,c53M] <;> rfl) ?_;refine ZG ?_;refine XU (kq:=⟨[2,7,33,34],[2,7],[]⟩) (H:=fun(s:Int×(Arr 32))=>match s with | (p26,p27)=>(⟨(und 2++([.ptr 2 0 0 0 32]++(und 4++([.ptr 7 0 0 0 32]++(und 25++([.agg (arC .u32 p12),.one (.v (.int .i64 p26))]++(und 31)))))):List PV),([(2,⟨0,32,[arC .u8 (zA 32)],false,false⟩),(7,⟨0,32,[arC .u8 p27],false,false⟩)]:Boxes)⟩:ASt)) (by kernel_rfl) q59 (by simp[und,List.replicate,c53,c53M]) ?_;rintro⟨p26,p27⟩ x74r hr74
  simp only[Zfo] at hr74;unfold b95_2;simp only[und,List.replicate,List.cons_append,List.nil_append];refine Ze rfl (by simp[-Yz,-List.take_append,-List.drop_append,c53,c53M] <;> rfl) ?_;by_cases c75:p26<8
  ·skip
   rw[if_pos] at hr74;rotate_left
   ·simp[c53,c53M,c75]
   refine ZJ (by simp[bV,c53,c53M,c75]) ?_;refine ZL ?_;refine ZG ?_;obtain⟨j76,hj76,hr74⟩:=bs hr74;obtain⟨j76a,j76b,j76c⟩:=Yy hj76;have j76d:j76≤7:=by omega
   have ar77:=YL (k:=.u32) (p12) (i:=j76) j76c;have as78:=YZ (k:=.u32) (p12) (i:=j76) j76c;refine Ze rfl (by simp[-Yz,-List.take_append,-List.drop_append,j76a,j76b,j76c,j76d,ar77,as78,c53,c53M,c75] <;> rfl) ?_;obtain⟨j79,hj79,hr74⟩:=bs hr74;obtain⟨j79a,j79b,j79c⟩:=Yy hj79;have j79d:j79≤31:=by omega
   have ap80:=ZcF (k:=.u8) (p27) (i:=j79) j79c (IntKind.u8.wrap ((p12.at j76).fdiv 16777216));obtain⟨j81,hj81,hr74⟩:=bs hr74;obtain⟨j81a,j81b,j81c⟩:=Yy hj81;have j81d:j81≤31:=by omega
   have ap82:=ZcF (k:=.u8) (p27.put j79 (IntKind.u8.wrap ((p12.at j76).fdiv 16777216))) (i:=j81) j81c (IntKind.u8.wrap ((p12.at j76).fdiv 65536));obtain⟨j83,hj83,hr74⟩:=bs hr74;obtain⟨j83a,j83b,j83c⟩:=Yy hj83;have j83d:j83≤31:=by omega
   have ap84:=ZcF (k:=.u8) ((p27.put j79 (IntKind.u8.wrap ((p12.at j76).fdiv 16777216))).put j81 (IntKind.u8.wrap ((p12.at j76).fdiv 65536))) (i:=j83) j83c (IntKind.u8.wrap ((p12.at j76).fdiv 256));obtain⟨j85,hj85,hr74⟩:=bs hr74;obtain⟨j85a,j85b,j85c⟩:=Yy hj85;have j85d:j85≤31:=by omega
   have ap86:=ZcF (k:=.u8) (((p27.put j79 (IntKind.u8.wrap ((p12.at j76).fdiv 16777216))).put j81 (IntKind.u8.wrap ((p12.at j76).fdiv 65536))).put j83 (IntKind.u8.wrap ((p12.at j76).fdiv 256))) (i:=j85) j85c (IntKind.u8.wrap (p12.at j76));refine XC rfl (by simp[-Yz,-List.take_append,-List.drop_append,j79a,j79b,j79c,j79d,ap80,j81a,j81b,j81c,j81d,ap82,j83a,j83b,j83c,j83d,ap84,j85a,j85b,j85c,j85d,ap86,c53,c53M,c75] <;> rfl) ?_;simp only[pq,reduceCtorEq];refine XC rfl (by simp[-Yz,-List.take_append,-List.drop_append,c53,c53M,c75] <;> rfl) ?_;obtain rfl:=Option.some.inj hr74;simp only[pq,reduceCtorEq];simp[und,List.replicate,Nat.add_assoc,c53,c53M,c75]
  ·skip
   rw[if_neg] at hr74;rotate_left
   ·simp[c53,c53M,c75]
   refine ZE (by simp[bV,c53,c53M,c75]) ?_;refine Ym ?_;obtain⟨r87,q87,rfl⟩:=ms hr74;simp only[pq,reduceCtorEq];rintro rfl
   try simp only[pq,reduceCtorEq]
   unfold Zmj at q87;refine Ze rfl (by simp[-Yz,-List.take_append,-List.drop_append,c53,c53M,c75] <;> rfl) ?_;refine Zcg ?_;obtain rfl:=Option.some.inj q87;simp[XT,c53,c53M,c75,c53N]
theorem w51:Walk tt G [(95,G95)] (fun _=>[]) Tryz.f51 K51:=by
 refine .ak [] false Tryz.ntmps51 fun T hO hT a0 x=>?_
 simp only[Zh] at hT; simp only[kS,nfs,XQ];exact au
theorem w82:Walk tt G [] (fun _=>[]) Tryz.f82 K82:=by
 refine .ak [] true Tryz.ntmps82 fun T hO hT ⟨a0,a1⟩ x=>?_
 simp only[Zh] at hT; simp only[kS,nfs,Ye];exact au
theorem w96:Walk tt G [] (fun _=>[]) Tryz.f96 K96:=by
 refine .ak [(3,⟨[0,5,10,11],[8],[]⟩)] true Tryz.ntmps96 fun T hO hT ⟨a0,a1⟩ x=>?_
 simp only[Zh] at hT; simp only[kS,nfs,Yf,Ze1];refine au ?_
 intros; refine lpP 3 (fun⟨p8,p9⟩=>([(5,.one (.ms 8 0 0 (p9.length) 1)),(11,.one (.v (.int .i64 p8)))],[(8,⟨0,1,Zf .u8 p9,false,true⟩)])) ?_; rintro⟨p8,p9⟩ x; simp only[Zc0,Ze1]
 exact au
theorem w53:Walk tt G [(82,K82.G),(96,K96.G)] (fun _=>[]) Tryz.f53 K53:=by
 refine .ak [] true Tryz.ntmps53 fun T hO hT ⟨a0,a1⟩ x=>?_
 simp only[Zh] at hT; simp only[kS,nfs,Z2];exact au
theorem w54:Walk tt G [(82,K82.G)] (fun _=>[]) Tryz.f54 K54:=by
 refine .ak [] true Tryz.ntmps54 fun T hO hT ⟨a0,a1⟩ x=>?_
 simp only[Zh] at hT; simp only[kS,nfs,Yw];exact au
theorem w23:Walk tt G [(53,K53.G),(54,K54.G)] (fun _=>[]) Tryz.f23 K23:=by
 refine .ak [] true Tryz.ntmps23 fun T hO hT a0 x=>?_
 simp only[Zh] at hT; simp only[kS,nfs,Zc1];exact au
theorem w61:Walk tt G [(82,K82.G),(96,K96.G)] (fun _=>[]) Tryz.f61 K61:=by
 refine .ak [] true Tryz.ntmps61 fun T hO hT ⟨a0,a1⟩ x=>?_
 simp only[Zh] at hT; simp only[kS,nfs,YN];exact au
theorem w60:Walk tt G [(61,K61.G),(82,K82.G)] (fun _=>[]) Tryz.f60 K60:=by
 refine .ak [] true Tryz.ntmps60 fun T hO hT ⟨a0,a1⟩ x=>?_
 simp only[Zh] at hT; simp only[kS,nfs,XE];exact au
theorem w211:Walk tt G [(82,K82.G),(96,K96.G)] (fun _=>[]) Tryz.f211 K211:=by
 refine .ak [] true Tryz.ntmps211 fun T hO hT ⟨a0,a1⟩ x=>?_
 simp only[Zh] at hT; simp only[kS,nfs,Zbf];exact au
theorem w166:Walk tt G [(60,K60.G),(211,K211.G)] (fun _=>[]) Tryz.f166 K166:=by
 refine .ak [] true Tryz.ntmps166 fun T hO hT a0 x=>?_
 simp only[Zh] at hT; simp only[kS,nfs,ZdP];exact au
theorem w114:Walk tt G [(23,K23.G),(53,K53.G),(60,K60.G),(61,K61.G),(166,K166.G)] (fun _=>[]) Tryz.f114 K114:=by
 refine .ak [(4,⟨[1,2,5,24,25,26],[2,900005],[(5,none,900005,0),(5,none,900005,1)]⟩),(10,⟨[1,2,5,46,47,48],[2,44],[]⟩),(16,⟨[1,5,62,63,64],[900005],[(5,none,900005,0),(5,none,900005,1)]⟩),(21,⟨[1,5,62,63,64,77,78,79],[900005],[(5,none,900005,0),(5,none,900005,1)]⟩)] true Tryz.ntmps114 fun T hO hT ⟨a0,a1⟩ x=>?_
 simp only[Zh] at hT; simp only[kS,nfs,Zai,YS,Zap,XF,XG];refine au ?_
 intros; refine lpP 4 (fun⟨p13,p14⟩=>([(5,.one (.ms 900005 0 0 (p14.length) 1)),(26,.one (.v (.int .i64 p13)))],[(900005,⟨0,1,Zf .u8 p14,false,true⟩)])) ?_; rintro⟨p13,p14⟩ x; simp only[Zc3,YS,Zap,XF,XG]
 refine au ?_
 intros; refine lpP 10 (fun⟨p28,p29⟩=>([(5,.one (.ms 44 0 0 (p29.length) 1)),(48,.one (.v (.int .i64 p28)))],[(44,⟨0,1,Zf .u8 p29,false,true⟩)])) ?_; rintro⟨p28,p29⟩ x; simp only[Zc2,YS,Zap,XF,XG]
 refine au ?_
 intros; refine lpP 16 (fun⟨p60,p61⟩=>([(5,.one (.ms 900005 0 0 (p61.length) 1)),(64,.one (.v (.int .i64 p60)))],[(900005,⟨0,1,Zf .u8 p61,false,true⟩)])) ?_; rintro⟨p60,p61⟩ x; simp only[Zaq,YS,Zap,XF,XG]
 refine au ?_
 intros; refine lpP 21 (fun⟨p82,p83⟩=>([(5,.one (.ms 900005 0 0 (p83.length) 1)),(79,.one (.v (.int .i64 p82)))],[(900005,⟨0,1,Zf .u8 p83,false,true⟩)])) ?_; rintro⟨p82,p83⟩ x; simp only[Zbg,YS,Zap,XF,XG]
 exact au
theorem w72:Walk tt G [(114,K114.G)] (fun _=>[]) Tryz.f72 K72:=by
 refine .ak [(4,⟨[1,20,21,22],[1],[]⟩),(10,⟨[1,37,38,39],[1],[]⟩),(15,⟨[1,37,38,39,48,49,50],[1],[]⟩)] false Tryz.ntmps72 fun T hO hT a0 x=>?_
 simp only[Zh] at hT; simp only[kS,nfs,Zac,Zbh,ZcG,Zbj];refine au ?_
 intros; refine lpP 4 (fun p4=>([(22,.one (.v (.int .i64 p4)))],[])) ?_; rintro p4 x; simp only[ZcI,Zbh,ZcG,Zbj]
 refine au ?_
 intros; refine lpP 10 (fun p19=>([(39,.one (.v (.int .i64 p19)))],[])) ?_; rintro p19 x; simp only[ZcH,Zbh,ZcG,Zbj]
 refine au ?_
 intros; refine lpP 15 (fun p31=>([(50,.one (.v (.int .i64 p31)))],[])) ?_; rintro p31 x; simp only[Zbi,Zbh,ZcG,Zbj]
 exact au
end Go.Proofs.YthpkpciceodioaaGreatDoor
