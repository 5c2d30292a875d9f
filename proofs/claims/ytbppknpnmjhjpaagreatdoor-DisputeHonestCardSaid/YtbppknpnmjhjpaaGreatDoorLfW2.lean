import Derived.Test.YtbppknpnmjhjpaaGreatDoorLfK
import Derived.Test.YtbppknpnmjhjpaaGreatDoorCode
import Derived.Test.YtbppknpnmjhjpaaGreatDoorBl
namespace Go.Proofs.YtbppknpnmjhjpaaGreatDoor
open Go.RowKit
open Go.Av
open Go.Lc
set_option maxRecDepth 100000
set_option linter.unusedSimpArgs false
set_option linter.unusedVariables false
set_option maxHeartbeats 4000000
def kp57:Keep:=fun i=>if i=4 then⟨[2,3,4,5],[2,4,11],[]⟩ else if i=11 then⟨[2,7,33,34],[2,7],[]⟩ else⟨[],[],[]⟩
theorem w57 {T:Tab}(hO:T.own=fun _=>[]) (hT111:T 111=some K111.G) (hT112:T 112=some K112.G) (hT113:T 113=some G113) (a0:(List Int)) (x:(Arr 32)) (hr:Y9 a0=some x):∃ kp fl n,ZN tt T G kp fl n Tryz.f57 (E57 a0)=some (R57 a0 x):=by
 simp only[E57,R57];refine fnE (kp:=kp57) (w:=false) body57 (by simp) ?_;unfold c57;rw[Tryz.ntmps57];unfold Y9 at hr;refine Zd rfl (by simp[-YE,-List.take_append,-List.drop_append,]; rfl) ?_;obtain⟨_,u40,hr⟩:=bs hr;have u40_0:=ZO u40;have n1_u40_0:a0.length≤140737488355328:=by omega
 have n2_u40_0:a0.length≤9223372036854775807:=by omega
 obtain⟨y41,hy41,hr⟩:=bs hr;have ehy41:=K111.q1 hy41;simp only[K111,kS,nf,nfs,Z5] at ehy41;obtain⟨_,u42,hr⟩:=bs hr;have u42_0:=ZO u42;have n1_u42_0:a0.length+y41.length≤140737488355328:=by omega
 have n2_u42_0:a0.length+y41.length≤9223372036854775807:=by omega
 refine Zd rfl (by simp[-YE,-List.take_append,-List.drop_append,n1_u40_0,n2_u40_0,hO,hT111,ehy41,n1_u42_0,n2_u42_0]; rfl) ?_;obtain⟨y43,hy43,hr⟩:=bs hr;have ehy43:=K112.q0 hy43;simp only[K112,kS,nf,nfs,Z5] at ehy43;refine Zd rfl (by simp[-YE,-List.take_append,-List.drop_append,hO,hT112,ehy43]; rfl) ?_;refine ZA ?_;refine Zd rfl (by simp[-YE,-List.take_append,-List.drop_append,]; rfl) ?_;refine Zx ?_;refine Xs (kq:=⟨[2,3,4,5],[2,4,11],[]⟩) (H:=fun(s:Int×(Arr 8))=>match s with | (p11,p12)=>(⟨(und 2++([.ptr 2 0 0 0 32,.one (.ms 11 0 0 (a0.length+y41.length) 1),.ptr 4 0 0 0 8,.one (.v (.int .i64 p11))]++(und 60)):List PV),([(2,⟨0,32,[arC .u8 (zA 32)],false,false⟩),(4,⟨0,8,[arC .u32 p12],false,false⟩),(11,⟨0,1,Zg .u8 (a0++y41),false,true⟩)]:Boxes)⟩:ASt)) (by kernel_rfl) hr (by simp[und,List.replicate,]) ?_;rintro⟨p11,p12⟩ x52r hr52
 simp only[Zf5] at hr52;unfold b57_1;simp only[und,List.replicate,List.cons_append,List.nil_append];refine ZA ?_;refine Zd rfl (by simp[-YE,-List.take_append,-List.drop_append,]; rfl) ?_;by_cases c53:IntKind.i64.wrap (p11+64)≤(a0.length+y41.length:Int)
 ·skip
  have c53N:=c53;try simp at c53N
  first | have c53M:(_=_)=True:=eq_true c53N | have c53M:=c53N
  rw[if_pos] at hr52;rotate_left
  ·simp[c53,c53M]
  refine Zw (by simp[bV,c53,c53M]) ?_;refine ZD ?_;refine Zx ?_;refine Zd rfl (by simp[-YE,-List.take_append,-List.drop_append,c53,c53M] <;> rfl) ?_;obtain⟨_,u54,hr52⟩:=bs hr52;obtain⟨u54_0,u54_1⟩:=ZO u54
  have lu54_1:p11≤((a0.length+y41.length:Nat):Int):=by
   have h:=u54_1;try simp at h
   omega
  try simp only[Int.natCast_add] at lu54_1
  have sf55:(p11).toNat≤(a0++y41).length:=by omega
  have sf56:(p11).toNat≤a0.length+y41.length:=by omega
  have al57:=eq_true (fun l h=>intsR_all l (List.mem_of_mem_drop h):∀ l,l∈List.drop ((p11).toNat) (Zg .u8 (a0++y41))→l.length=1);have ov57:=ZoE (k:=.u8) (a:=zA 64) (l:=(a0++y41).drop (p11).toNat);try simp only[Znm,ZmJ,Zld,Zrk,Zt,Zp3,List.length_drop,List.length_append] at ov57
  refine Z6 rfl (by simp[-YE,-List.take_append,-List.drop_append,u54_0,u54_1,lu54_1,sf55,sf56,al57,ov57,c53,c53M]; first | exact⟨rfl,rfl⟩ | rfl) (by kernel_rfl) ?_;obtain⟨y58,hy58,hr52⟩:=bs hr52;have ehy58:=Zs2 hy58;simp only[ZhO,ZjP,kS,nf,nfs,Z5] at ehy58;refine Xb rfl (by simp[-YE,-List.take_append,-List.drop_append,hO,hT113,ehy58,c53,c53M] <;> rfl) ?_;simp only[pq,reduceCtorEq];refine Xb rfl (by simp[-YE,-List.take_append,-List.drop_append,c53,c53M] <;> rfl) ?_;obtain rfl:=Option.some.inj hr52;simp only[pq,reduceCtorEq];simp[und,List.replicate,Nat.add_assoc,c53,c53M]
 ·skip
  have c53N:=c53;try simp at c53N
  first | have c53M:(_=_)=True:=eq_true c53N | have c53M:=c53N
  rw[if_neg] at hr52;rotate_left
  ·simp[c53,c53M]
  refine Zv (by simp[bV,c53,c53M]) ?_;refine Z7 ?_;obtain⟨r59,q59,rfl⟩:=ms hr52;simp only[pq,reduceCtorEq];rintro rfl
  try simp only[pq,reduceCtorEq]
  unfold Zic at q59;refine Zd rfl (by simp[-YE,-List.take_append,-List.drop_append,c53,c53M] <;> rfl) ?_;refine ZA ?_;refine Zd rfl (by simp[-YE,-List.take_append,-List.drop_append,c53,c53M] <;> rfl) ?_;refine Zx ?_;refine Xs (kq:=⟨[2,7,33,34],[2,7],[]⟩) (H:=fun(s:Int×(Arr 32))=>match s with | (p26,p27)=>(⟨(und 2++([.ptr 2 0 0 0 32]++(und 4++([.ptr 7 0 0 0 32]++(und 25++([.agg (arC .u32 p12),.one (.v (.int .i64 p26))]++(und 31)))))):List PV),([(2,⟨0,32,[arC .u8 (zA 32)],false,false⟩),(7,⟨0,32,[arC .u8 p27],false,false⟩)]:Boxes)⟩:ASt)) (by kernel_rfl) q59 (by simp[und,List.replicate,c53,c53M]) ?_;rintro⟨p26,p27⟩ x74r hr74
  simp only[Zf4] at hr74;unfold b57_2;simp only[und,List.replicate,List.cons_append,List.nil_append];refine Zd rfl (by simp[-YE,-List.take_append,-List.drop_append,c53,c53M] <;> rfl) ?_;by_cases c75:p26<8
  ·skip
   rw[if_pos] at hr74;rotate_left
   ·simp[c53,c53M,c75]
   refine Zw (by simp[bV,c53,c53M,c75]) ?_;refine ZD ?_;refine Zx ?_;obtain⟨j76,hj76,hr74⟩:=bs hr74;obtain⟨j76a,j76b,j76c⟩:=Yj hj76;have j76d:j76≤7:=by omega
   have ar77:=YO (k:=.u32) (p12) (i:=j76) j76c;have as78:=Y4 (k:=.u32) (p12) (i:=j76) j76c;refine Zd rfl (by simp[-YE,-List.take_append,-List.drop_append,j76a,j76b,j76c,j76d,ar77,as78,c53,c53M,c75] <;> rfl) ?_;obtain⟨j79,hj79,hr74⟩:=bs hr74;obtain⟨j79a,j79b,j79c⟩:=Yj hj79;have j79d:j79≤31:=by omega
   have ap80:=Zdo (k:=.u8) (p27) (i:=j79) j79c (IntKind.u8.wrap ((p12.at j76).fdiv 16777216));obtain⟨j81,hj81,hr74⟩:=bs hr74;obtain⟨j81a,j81b,j81c⟩:=Yj hj81;have j81d:j81≤31:=by omega
   have ap82:=Zdo (k:=.u8) (p27.put j79 (IntKind.u8.wrap ((p12.at j76).fdiv 16777216))) (i:=j81) j81c (IntKind.u8.wrap ((p12.at j76).fdiv 65536));obtain⟨j83,hj83,hr74⟩:=bs hr74;obtain⟨j83a,j83b,j83c⟩:=Yj hj83;have j83d:j83≤31:=by omega
   have ap84:=Zdo (k:=.u8) ((p27.put j79 (IntKind.u8.wrap ((p12.at j76).fdiv 16777216))).put j81 (IntKind.u8.wrap ((p12.at j76).fdiv 65536))) (i:=j83) j83c (IntKind.u8.wrap ((p12.at j76).fdiv 256));obtain⟨j85,hj85,hr74⟩:=bs hr74;obtain⟨j85a,j85b,j85c⟩:=Yj hj85;have j85d:j85≤31:=by omega
   have ap86:=Zdo (k:=.u8) (((p27.put j79 (IntKind.u8.wrap ((p12.at j76).fdiv 16777216))).put j81 (IntKind.u8.wrap ((p12.at j76).fdiv 65536))).put j83 (IntKind.u8.wrap ((p12.at j76).fdiv 256))) (i:=j85) j85c (IntKind.u8.wrap (p12.at j76));refine Xb rfl (by simp[-YE,-List.take_append,-List.drop_append,j79a,j79b,j79c,j79d,ap80,j81a,j81b,j81c,j81d,ap82,j83a,j83b,j83c,j83d,ap84,j85a,j85b,j85c,j85d,ap86,c53,c53M,c75] <;> rfl) ?_;simp only[pq,reduceCtorEq];refine Xb rfl (by simp[-YE,-List.take_append,-List.drop_append,c53,c53M,c75] <;> rfl) ?_;obtain rfl:=Option.some.inj hr74;simp only[pq,reduceCtorEq];simp[und,List.replicate,Nat.add_assoc,c53,c53M,c75]
  ·skip
   rw[if_neg] at hr74;rotate_left
   ·simp[c53,c53M,c75]
   refine Zv (by simp[bV,c53,c53M,c75]) ?_;refine Z7 ?_;obtain⟨r87,q87,rfl⟩:=ms hr74;simp only[pq,reduceCtorEq];rintro rfl
   try simp only[pq,reduceCtorEq]
   unfold Zm3 at q87;refine Zd rfl (by simp[-YE,-List.take_append,-List.drop_append,c53,c53M,c75] <;> rfl) ?_;refine Zai ?_;obtain rfl:=Option.some.inj q87;simp[YP,c53,c53M,c75,c53N]
theorem w25:Walk tt G [(57,G57)] (fun _=>[]) Tryz.f25 K25:=by
 refine .ak [] false Tryz.ntmps25 fun T hO hT a0 x=>?_
 simp only[Zh] at hT; simp only[kS,nfs,ZaI];exact au
theorem w114:Walk tt G [] (fun _=>[]) Tryz.f114 K114:=by
 refine .ak [] true Tryz.ntmps114 fun T hO hT ⟨a0,a1⟩ x=>?_
 simp only[Zh] at hT; simp only[kS,nfs,Yg];exact au
theorem w115:Walk tt G [] (fun _=>[]) Tryz.f115 K115:=by
 refine .ak [(3,⟨[0,5,10,11],[8],[]⟩)] true Tryz.ntmps115 fun T hO hT ⟨a0,a1⟩ x=>?_
 simp only[Zh] at hT; simp only[kS,nfs,Yh,ZfH];refine au ?_
 intros; refine lpP 3 (fun⟨p8,p9⟩=>([(5,.one (.ms 8 0 0 (p9.length) 1)),(11,.one (.v (.int .i64 p8)))],[(8,⟨0,1,Zg .u8 p9,false,true⟩)])) ?_; rintro⟨p8,p9⟩ x; simp only[ZdK,ZfH]
 exact au
theorem w58:Walk tt G [(114,K114.G),(115,K115.G)] (fun _=>[]) Tryz.f58 K58:=by
 refine .ak [] true Tryz.ntmps58 fun T hO hT ⟨a0,a1⟩ x=>?_
 simp only[Zh] at hT; simp only[kS,nfs,Z2];exact au
theorem w59:Walk tt G [(114,K114.G)] (fun _=>[]) Tryz.f59 K59:=by
 refine .ak [] true Tryz.ntmps59 fun T hO hT ⟨a0,a1⟩ x=>?_
 simp only[Zh] at hT; simp only[kS,nfs,YC];exact au
theorem w147:Walk tt G [(58,K58.G),(59,K59.G)] (fun _=>[]) Tryz.f147 K147:=by
 refine .ak [] true Tryz.ntmps147 fun T hO hT a0 x=>?_
 simp only[Zh] at hT; simp only[kS,nfs,ZdL];exact au
theorem w149:Walk tt G [(114,K114.G),(115,K115.G)] (fun _=>[]) Tryz.f149 K149:=by
 refine .ak [] true Tryz.ntmps149 fun T hO hT ⟨a0,a1⟩ x=>?_
 simp only[Zh] at hT; simp only[kS,nfs,YQ];exact au
theorem w148:Walk tt G [(114,K114.G),(149,K149.G)] (fun _=>[]) Tryz.f148 K148:=by
 refine .ak [] true Tryz.ntmps148 fun T hO hT ⟨a0,a1⟩ x=>?_
 simp only[Zh] at hT; simp only[kS,nfs,XU];exact au
theorem w212:Walk tt G [(114,K114.G),(115,K115.G)] (fun _=>[]) Tryz.f212 K212:=by
 refine .ak [] true Tryz.ntmps212 fun T hO hT ⟨a0,a1⟩ x=>?_
 simp only[Zh] at hT; simp only[kS,nfs,ZbS];exact au
theorem w183:Walk tt G [(148,K148.G),(212,K212.G)] (fun _=>[]) Tryz.f183 K183:=by
 refine .ak [] true Tryz.ntmps183 fun T hO hT a0 x=>?_
 simp only[Zh] at hT; simp only[kS,nfs,Zew];exact au
end Go.Proofs.YtbppknpnmjhjpaaGreatDoor
