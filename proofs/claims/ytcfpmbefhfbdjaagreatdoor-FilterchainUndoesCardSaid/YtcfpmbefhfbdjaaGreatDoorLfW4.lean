import Derived.Test.YtcfpmbefhfbdjaaGreatDoorLfK
import Derived.Test.YtcfpmbefhfbdjaaGreatDoorCode
import Derived.Test.YtcfpmbefhfbdjaaGreatDoorBl
namespace Go.Proofs.YtcfpmbefhfbdjaaGreatDoor
open Go.RowKit
open Go.Av
open Go.Lc
set_option maxRecDepth 100000
set_option linter.unusedSimpArgs false
set_option linter.unusedVariables false
set_option maxHeartbeats 4000000
def kp58:Keep:=fun i=>if i=4 then⟨[2,3,4,5],[2,4,11],[]⟩ else if i=11 then⟨[2,7,33,34],[2,7],[]⟩ else⟨[],[],[]⟩
theorem w58 {T:Tab}(hO:T.own=fun _=>[]) (hT99:T 99=some K99.G) (hT100:T 100=some K100.G) (hT101:T 101=some G101) (a0:(List Int)) (x:(Arr 32)) (hr:Xa a0=some x):∃ kp fl n,ZZ tt T G kp fl n Tryz.f58 (E58 a0)=some (R58 a0 x):=by
 simp only[E58,R58];refine fnE (kp:=kp58) (w:=false) body58 (by simp) ?_;unfold c58;rw[Tryz.ntmps58];unfold Xa at hr;refine Zd rfl (by simp[-Yy,-List.take_append,-List.drop_append,]; rfl) ?_;obtain⟨_,u40,hr⟩:=bs hr;have u40_0:=ZK u40;have n1_u40_0:a0.length≤140737488355328:=by omega
 have n2_u40_0:a0.length≤9223372036854775807:=by omega
 obtain⟨y41,hy41,hr⟩:=bs hr;have ehy41:=K99.q1 hy41;simp only[K99,kS,nf,nfs,Yp] at ehy41;obtain⟨_,u42,hr⟩:=bs hr;have u42_0:=ZK u42;have n1_u42_0:a0.length+y41.length≤140737488355328:=by omega
 have n2_u42_0:a0.length+y41.length≤9223372036854775807:=by omega
 refine Zd rfl (by simp[-Yy,-List.take_append,-List.drop_append,n1_u40_0,n2_u40_0,hO,hT99,ehy41,n1_u42_0,n2_u42_0]; rfl) ?_;obtain⟨y43,hy43,hr⟩:=bs hr;have ehy43:=K100.q0 hy43;simp only[K100,kS,nf,nfs,Yp] at ehy43;refine Zd rfl (by simp[-Yy,-List.take_append,-List.drop_append,hO,hT100,ehy43]; rfl) ?_;refine ZH ?_;refine Zd rfl (by simp[-Yy,-List.take_append,-List.drop_append,]; rfl) ?_;refine ZD ?_;refine X8 (kq:=⟨[2,3,4,5],[2,4,11],[]⟩) (H:=fun(s:Int×(Arr 8))=>match s with | (p11,p12)=>(⟨(und 2++([.ptr 2 0 0 0 32,.one (.ms 11 0 0 (a0.length+y41.length) 1),.ptr 4 0 0 0 8,.one (.v (.int .i64 p11))]++(und 60)):List PV),([(2,⟨0,32,[arC .u8 (zA 32)],false,false⟩),(4,⟨0,8,[arC .u32 p12],false,false⟩),(11,⟨0,1,Zg .u8 (a0++y41),false,true⟩)]:Boxes)⟩:ASt)) (by kernel_rfl) hr (by simp[und,List.replicate,]) ?_;rintro⟨p11,p12⟩ x52r hr52
 simp only[Ze6] at hr52;unfold b58_1;simp only[und,List.replicate,List.cons_append,List.nil_append];refine ZH ?_;refine Zd rfl (by simp[-Yy,-List.take_append,-List.drop_append,]; rfl) ?_;by_cases c53:IntKind.i64.wrap (p11+64)≤(a0.length+y41.length:Int)
 ·skip
  have c53N:=c53;try simp at c53N
  first | have c53M:(_=_)=True:=eq_true c53N | have c53M:=c53N
  rw[if_pos] at hr52;rotate_left
  ·simp[c53,c53M]
  refine ZC (by simp[bV,c53,c53M]) ?_;refine ZM ?_;refine ZD ?_;refine Zd rfl (by simp[-Yy,-List.take_append,-List.drop_append,c53,c53M] <;> rfl) ?_;obtain⟨_,u54,hr52⟩:=bs hr52;obtain⟨u54_0,u54_1⟩:=ZK u54
  have lu54_1:p11≤((a0.length+y41.length:Nat):Int):=by
   have h:=u54_1;try simp at h
   omega
  try simp only[Int.natCast_add] at lu54_1
  have sf55:(p11).toNat≤(a0++y41).length:=by omega
  have sf56:(p11).toNat≤a0.length+y41.length:=by omega
  have al57:=eq_true (fun l h=>intsR_all l (List.mem_of_mem_drop h):∀ l,l∈List.drop ((p11).toNat) (Zg .u8 (a0++y41))→l.length=1);have ov57:=Zm1 (k:=.u8) (a:=zA 64) (l:=(a0++y41).drop (p11).toNat);try simp only[ZlQ,Zlc,ZjY,ZpB,Zs,Zop,List.length_drop,List.length_append] at ov57
  refine Xf rfl (by simp[-Yy,-List.take_append,-List.drop_append,u54_0,u54_1,lu54_1,sf55,sf56,al57,ov57,c53,c53M]; first | exact⟨rfl,rfl⟩ | rfl) (by kernel_rfl) ?_;obtain⟨y58,hy58,hr52⟩:=bs hr52;have ehy58:=Zra hy58;simp only[Zgy,ZiC,kS,nf,nfs,Yp] at ehy58;refine XY rfl (by simp[-Yy,-List.take_append,-List.drop_append,hO,hT101,ehy58,c53,c53M] <;> rfl) ?_;simp only[pq,reduceCtorEq];refine XY rfl (by simp[-Yy,-List.take_append,-List.drop_append,c53,c53M] <;> rfl) ?_;obtain rfl:=Option.some.inj hr52;simp only[pq,reduceCtorEq];simp[und,List.replicate,Nat.add_assoc,c53,c53M]
 ·skip
  have c53N:=c53;try simp at c53N
  first | have c53M:(_=_)=True:=eq_true c53N | have c53M:=c53N
  rw[if_neg] at hr52;rotate_left
  ·simp[c53,c53M]
  refine ZF (by simp[bV,c53,c53M]) ?_;refine Ys ?_;obtain⟨r59,q59,rfl⟩:=ms hr52;simp only[pq,reduceCtorEq];rintro rfl
  try simp only[pq,reduceCtorEq]
  unfold ZgX at q59;refine Zd rfl (by simp[-Yy,-List.take_append,-List.drop_append,c53,c53M] <;> rfl) ?_;refine ZH ?_;refine Zd rfl (by simp[-Yy,-List.take_append,-List.drop_append,c53,c53M] <;> rfl) ?_;refine ZD ?_;refine X8 (kq:=⟨[2,7,33,34],[2,7],[]⟩) (H:=fun(s:Int×(Arr 32))=>match s with | (p26,p27)=>(⟨(und 2++([.ptr 2 0 0 0 32]++(und 4++([.ptr 7 0 0 0 32]++(und 25++([.agg (arC .u32 p12),.one (.v (.int .i64 p26))]++(und 31)))))):List PV),([(2,⟨0,32,[arC .u8 (zA 32)],false,false⟩),(7,⟨0,32,[arC .u8 p27],false,false⟩)]:Boxes)⟩:ASt)) (by kernel_rfl) q59 (by simp[und,List.replicate,c53,c53M]) ?_;rintro⟨p26,p27⟩ x74r hr74
  simp only[Ze5] at hr74;unfold b58_2;simp only[und,List.replicate,List.cons_append,List.nil_append];refine Zd rfl (by simp[-Yy,-List.take_append,-List.drop_append,c53,c53M] <;> rfl) ?_;by_cases c75:p26<8
  ·skip
   rw[if_pos] at hr74;rotate_left
   ·simp[c53,c53M,c75]
   refine ZC (by simp[bV,c53,c53M,c75]) ?_;refine ZM ?_;refine ZD ?_;obtain⟨j76,hj76,hr74⟩:=bs hr74;obtain⟨j76a,j76b,j76c⟩:=YQ hj76;have j76d:j76≤7:=by omega
   have ar77:=YK (k:=.u32) (p12) (i:=j76) j76c;have as78:=Y3 (k:=.u32) (p12) (i:=j76) j76c;refine Zd rfl (by simp[-Yy,-List.take_append,-List.drop_append,j76a,j76b,j76c,j76d,ar77,as78,c53,c53M,c75] <;> rfl) ?_;obtain⟨j79,hj79,hr74⟩:=bs hr74;obtain⟨j79a,j79b,j79c⟩:=YQ hj79;have j79d:j79≤31:=by omega
   have ap80:=ZcC (k:=.u8) (p27) (i:=j79) j79c (IntKind.u8.wrap ((p12.at j76).fdiv 16777216));obtain⟨j81,hj81,hr74⟩:=bs hr74;obtain⟨j81a,j81b,j81c⟩:=YQ hj81;have j81d:j81≤31:=by omega
   have ap82:=ZcC (k:=.u8) (p27.put j79 (IntKind.u8.wrap ((p12.at j76).fdiv 16777216))) (i:=j81) j81c (IntKind.u8.wrap ((p12.at j76).fdiv 65536));obtain⟨j83,hj83,hr74⟩:=bs hr74;obtain⟨j83a,j83b,j83c⟩:=YQ hj83;have j83d:j83≤31:=by omega
   have ap84:=ZcC (k:=.u8) ((p27.put j79 (IntKind.u8.wrap ((p12.at j76).fdiv 16777216))).put j81 (IntKind.u8.wrap ((p12.at j76).fdiv 65536))) (i:=j83) j83c (IntKind.u8.wrap ((p12.at j76).fdiv 256));obtain⟨j85,hj85,hr74⟩:=bs hr74;obtain⟨j85a,j85b,j85c⟩:=YQ hj85;have j85d:j85≤31:=by omega
   have ap86:=ZcC (k:=.u8) (((p27.put j79 (IntKind.u8.wrap ((p12.at j76).fdiv 16777216))).put j81 (IntKind.u8.wrap ((p12.at j76).fdiv 65536))).put j83 (IntKind.u8.wrap ((p12.at j76).fdiv 256))) (i:=j85) j85c (IntKind.u8.wrap (p12.at j76));refine XY rfl (by simp[-Yy,-List.take_append,-List.drop_append,j79a,j79b,j79c,j79d,ap80,j81a,j81b,j81c,j81d,ap82,j83a,j83b,j83c,j83d,ap84,j85a,j85b,j85c,j85d,ap86,c53,c53M,c75] <;> rfl) ?_;simp only[pq,reduceCtorEq];refine XY rfl (by simp[-Yy,-List.take_append,-List.drop_append,c53,c53M,c75] <;> rfl) ?_;obtain rfl:=Option.some.inj hr74;simp only[pq,reduceCtorEq];simp[und,List.replicate,Nat.add_assoc,c53,c53M,c75]
  ·skip
   rw[if_neg] at hr74;rotate_left
   ·simp[c53,c53M,c75]
   refine ZF (by simp[bV,c53,c53M,c75]) ?_;refine Ys ?_;obtain⟨r87,q87,rfl⟩:=ms hr74;simp only[pq,reduceCtorEq];rintro rfl
   try simp only[pq,reduceCtorEq]
   unfold Zly at q87;refine Zd rfl (by simp[-Yy,-List.take_append,-List.drop_append,c53,c53M,c75] <;> rfl) ?_;refine Zaf ?_;obtain rfl:=Option.some.inj q87;simp[YW,c53,c53M,c75,c53N]
theorem w37:Walk tt G [(58,G58)] (fun _=>[]) Tryz.f37 K37:=by
 refine .ak [] false Tryz.ntmps37 fun T hO hT a0 x=>?_
 simp only[Zh] at hT; simp only[kS,nfs,Zbb];exact au
theorem w102:Walk tt G [] (fun _=>[]) Tryz.f102 K102:=by
 refine .ak [] true Tryz.ntmps102 fun T hO hT ⟨a0,a1⟩ x=>?_
 simp only[Zh] at hT; simp only[kS,nfs,Ye];exact au
theorem w103:Walk tt G [] (fun _=>[]) Tryz.f103 K103:=by
 refine .ak [(3,⟨[0,5,10,11],[8],[]⟩)] true Tryz.ntmps103 fun T hO hT ⟨a0,a1⟩ x=>?_
 simp only[Zh] at hT; simp only[kS,nfs,Yf,ZeJ];refine au ?_
 intros; refine lpP 3 (fun⟨p8,p9⟩=>([(5,.one (.ms 8 0 0 (p9.length) 1)),(11,.one (.v (.int .i64 p8)))],[(8,⟨0,1,Zg .u8 p9,false,true⟩)])) ?_; rintro⟨p8,p9⟩ x; simp only[ZcV,ZeJ]
 exact au
theorem w59:Walk tt G [(102,K102.G),(103,K103.G)] (fun _=>[]) Tryz.f59 K59:=by
 refine .ak [] true Tryz.ntmps59 fun T hO hT ⟨a0,a1⟩ x=>?_
 simp only[Zh] at hT; simp only[kS,nfs,ZY];exact au
theorem w172:Walk tt G [(102,K102.G),(103,K103.G)] (fun _=>[]) Tryz.f172 K172:=by
 refine .ak [] true Tryz.ntmps172 fun T hO hT ⟨a0,a1⟩ x=>?_
 simp only[Zh] at hT; simp only[kS,nfs,YN];exact au
theorem w60:Walk tt G [(102,K102.G)] (fun _=>[]) Tryz.f60 K60:=by
 refine .ak [] true Tryz.ntmps60 fun T hO hT ⟨a0,a1⟩ x=>?_
 simp only[Zh] at hT; simp only[kS,nfs,Yw];exact au
theorem w173:Walk tt G [(59,K59.G),(60,K60.G)] (fun _=>[]) Tryz.f173 K173:=by
 refine .ak [] true Tryz.ntmps173 fun T hO hT a0 x=>?_
 simp only[Zh] at hT; simp only[kS,nfs,ZcW];exact au
theorem w175:Walk tt G [(102,K102.G),(172,K172.G)] (fun _=>[]) Tryz.f175 K175:=by
 refine .ak [] true Tryz.ntmps175 fun T hO hT ⟨a0,a1⟩ x=>?_
 simp only[Zh] at hT; simp only[kS,nfs,XK];exact au
theorem w189:Walk tt G [(102,K102.G),(103,K103.G)] (fun _=>[]) Tryz.f189 K189:=by
 refine .ak [] true Tryz.ntmps189 fun T hO hT ⟨a0,a1⟩ x=>?_
 simp only[Zh] at hT; simp only[kS,nfs,Zbi];exact au
theorem w174:Walk tt G [(175,K175.G),(189,K189.G)] (fun _=>[]) Tryz.f174 K174:=by
 refine .ak [] true Tryz.ntmps174 fun T hO hT a0 x=>?_
 simp only[Zh] at hT; simp only[kS,nfs,ZdH];exact au
end Go.Proofs.YtcfpmbefhfbdjaaGreatDoor
