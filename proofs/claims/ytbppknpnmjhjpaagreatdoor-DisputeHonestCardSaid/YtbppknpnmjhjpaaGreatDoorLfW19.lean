import Derived.Test.YtbppknpnmjhjpaaGreatDoorLfK
import Derived.Test.YtbppknpnmjhjpaaGreatDoorCode
import Derived.Test.YtbppknpnmjhjpaaGreatDoorBl
namespace Go.Proofs.YtbppknpnmjhjpaaGreatDoor
open Go.RowKit
open Go.Av
open Go.Lc
set_option maxRecDepth 100000
set_option linter.unusedSimpArgs false
set_option linter.unusedVariables false
set_option maxHeartbeats 4000000
def kp4:Keep:=fun i=>if i=8 then⟨[2,3,4,11,12,46,47,48],[11,40,61,100040,200040,300040],[(12,none,61,32)]⟩ else if i=21 then⟨[2,3,11,17,18,20,22,23,24],[11,20,40,65,100040,200040,300040],[]⟩ else if i=35 then⟨[20,29,174,175,176],[20,29],[]⟩ else if i=38 then⟨[20,29,32,174,175,176,181,182,183],[20,29],[]⟩ else⟨[],[],[]⟩
theorem w4 {T:Tab}(hO:T.own=fun _=>[]) (hT5:T 5=some K5.G) (hT6:T 6=some K6.G) (hT7:T 7=some K7.G) (hT9:T 9=some K9.G) (hT10:T 10=some K10.G) (hT12:T 12=some K12.G) (hT13:T 13=some K13.G) (hT16:T 16=some K16.G) (hT17:T 17=some K17.G) (hT18:T 18=some K18.G) (hT19:T 19=some K19.G) (hT20:T 20=some K20.G) (hT21:T 21=some K21.G) (a0:Int) (a1:(List Int)) (a2:(List Int)) (a3:(List Int)) (a4:Int) (x:Bool) (hr:Xn a0 a1 a2 a3 a4=some x):∃ kp fl n,ZN tt T G kp fl n Tryz.f4 (E4 (a0,a1,a2,a3,a4))=some (R4 (a0,a1,a2,a3,a4) x):=by
 simp only[E4,R4];refine fnE (kp:=kp4) (w:=false) body4 (by simp) ?_;unfold c4;rw[Tryz.ntmps4];unfold Xn at hr;refine Zd rfl (by simp[]; rfl) ?_;refine ZA ?_;obtain⟨y115,hy115,hr⟩:=bs hr;have ehy115:=K5.q0 hy115;simp only[K5,kS,nf,nfs,Z5] at ehy115;refine Zd rfl (by simp[hO,hT5,ehy115]; rfl) ?_;by_cases c116:y115=true
 ·skip
  rw[if_neg (not_not_intro c116)] at hr;refine Zv (by simp[bV,c116]) ?_;refine ZD ?_;obtain⟨y117,hy117,hr⟩:=bs hr;have ehy117:=K7.q2 hy117;simp only[K7,kS,nf,nfs,Z5] at ehy117;obtain⟨y118,hy118,hr⟩:=bs hr;have ehy118:=K6.q2 hy118;simp only[K6,kS,nf,nfs,Z5] at ehy118;refine Zd rfl (by simp[hO,hT7,ehy117,hT6,ehy118,c116]; rfl) ?_;refine ZA ?_;refine Zd rfl (by simp[c116]; rfl) ?_;by_cases c119:(y118.2.1.length:Int)<2
  ·skip
   have c119N:=c119;try simp at c119N
   first | have c119M:(_=_)=True:=eq_true c119N | have c119M:=c119N
   rw[if_pos c119] at hr;refine Zw (by simp[bV,c116,c119,c119M]) ?_;refine ZA ?_;refine Zd rfl (by simp[c116,c119,c119M] <;> rfl) ?_;refine Zac ?_;obtain rfl:=Option.some.inj hr;simp[YP,c116,c119,c119M,c119N]
  ·skip
   have c119N:=c119;try simp at c119N
   first | have c119M:(_=_)=True:=eq_true c119N | have c119M:=c119N
   rw[if_neg c119] at hr;refine Zv (by simp[bV,c116,c119,c119M]) ?_;refine ZD ?_;refine Zd rfl (by simp[c116,c119,c119M] <;> rfl) ?_;refine ZA ?_;refine Zd rfl (by simp[c116,c119,c119M] <;> rfl) ?_;refine Zx ?_;refine Xs (kq:=⟨[2,3,4,11,12,46,47,48],[11,40,61,100040,200040,300040],[(12,none,61,32)]⟩) (H:=fun(s:Int×(List (Arr 32)))=>match s with | (p15,p16)=>(⟨(und 2++([.one (.slice .no (Zg .u8 a2)),.one (.slice .no (Zg .u8 a3)),.one (.v (.int .u8 a4))]++(und 6++([.ptr 11 0 0 0 84,.one (.ms 61 0 0 (p16.length) 32)]++(und 33++([.one (.ms 40 0 0 (y118.2.1.length) 69),.one (.v (.int .i64 (y118.2.1.length:Int))),.one (.v (.int .i64 p15))]++(und 154)))))):List PV),([(11,⟨0,84,[(.v (.int .u32 y118.1.1.1)) :: ((arC .u8 y118.1.1.2.1)++((arC .u8 y118.1.1.2.2.1)++((.v (.int .u32 y118.1.1.2.2.2.1)) :: ((.v (.int .u32 y118.1.1.2.2.2.2.1)) :: ((.v (.int .u32 y118.1.1.2.2.2.2.2)) :: ((arC .u64 y118.1.2.1)++((.v (.int .i64 y118.1.2.2.1)) :: ((.v (.int .u32 y118.1.2.2.2.1)) :: ((.v (.int .u32 y118.1.2.2.2.2.1)) :: ((.v (.int .u32 y118.1.2.2.2.2.2.1)) :: ((.slice .no (List.map eapi_Checkpoint y118.1.2.2.2.2.2.2.1)) :: ((.v (.int .i64 y118.1.2.2.2.2.2.2.2.1)) :: ((.v (.int .i64 y118.1.2.2.2.2.2.2.2.2.1)) :: ((.v (.int .i64 y118.1.2.2.2.2.2.2.2.2.2)) :: ((.ms 40 0 0 (y118.2.1.length) 69) :: ((.ms 100040 0 0 (y118.2.2.1.length) 34) :: ((.ms 200040 0 0 (y118.2.2.2.1.length) 36) :: ((.ms 300040 0 0 (y118.2.2.2.2.length) 1) :: []))))))))))))))))))],false,false⟩),(40,⟨0,69,List.map Yq y118.2.1,false,true⟩),(61,⟨0,32,List.map (arC .u8) p16,false,true⟩),(100040,⟨0,34,List.map Y3 y118.2.2.1,false,true⟩),(200040,⟨0,36,List.map Yv y118.2.2.2.1,false,true⟩),(300040,⟨0,1,List.map Zdm y118.2.2.2.2,false,true⟩)]:Boxes)⟩:ASt)) (by kernel_rfl) hr (by simp[und,List.replicate,c116,c119,c119M]) ?_;rintro⟨p15,p16⟩ x128r hr128
   simp only[Zak] at hr128;unfold b4_1;simp only[und,List.replicate,List.cons_append,List.nil_append];refine Zd rfl (by simp[c116,c119,c119M] <;> rfl) ?_;by_cases c129:p15<(y118.2.1.length:Int)
   ·skip
    have c129N:=c129;try simp at c129N
    first | have c129M:(_=_)=True:=eq_true c129N | have c129M:=c129N
    rw[if_pos] at hr128;rotate_left
    ·simp[c116,c119,c119M,c129,c129M]
    refine Zw (by simp[bV,c116,c119,c119M,c129,c129M]) ?_;refine ZD ?_;refine Zx ?_;obtain⟨j130,hj130,hr128⟩:=bs hr128;obtain⟨j130a,j130b,j130c⟩:=Yj hj130;obtain⟨x131,hx131,hr128⟩:=bs hr128;have ghx131:=Yb hx131;refine Zd rfl (by simp[j130a,j130b,j130c,hx131,ghx131,c116,c119,c119M,c129,c129M] <;> rfl) ?_;obtain⟨y132,hy132,hr128⟩:=bs hr128;have ehy132:=K10.q1 hy132;simp only[K10,kS,nf,nfs,Z5] at ehy132;refine Zd rfl (by simp[hO,hT10,ehy132,c116,c119,c119M,c129,c129M] <;> rfl) ?_;obtain⟨y133,hy133,hr128⟩:=bs hr128;have ehy133:=K12.q1 hy133;simp only[K12,kS,nf,nfs,Z5] at ehy133;obtain⟨_,u134,hr128⟩:=bs hr128;have u134_0:=ZO u134;have n1_u134_0:(p16.length+1) * 32≤140737488355328:=by omega
    have n2_u134_0:p16.length+1≤9223372036854775807:=by omega
    refine Xb rfl (by simp[hO,hT12,ehy133,n1_u134_0,n2_u134_0,c116,c119,c119M,c129,c129M] <;> rfl) ?_;simp only[pq,reduceCtorEq];refine Xb rfl (by simp[c116,c119,c119M,c129,c129M] <;> rfl) ?_;obtain rfl:=Option.some.inj hr128;simp only[pq,reduceCtorEq];simp[und,List.replicate,Nat.add_assoc,c116,c119,c119M,c129,c129M]
   ·skip
    have c129N:=c129;try simp at c129N
    first | have c129M:(_=_)=True:=eq_true c129N | have c129M:=c129N
    rw[if_neg] at hr128;rotate_left
    ·simp[c116,c119,c119M,c129,c129M]
    refine Zv (by simp[bV,c116,c119,c119M,c129,c129M]) ?_;refine Z7 ?_;obtain⟨r135,q135,rfl⟩:=ms hr128;simp only[pq,reduceCtorEq];rintro rfl
    try simp only[pq,reduceCtorEq]
    unfold ZbK at q135;obtain⟨y136,hy136,q135⟩:=bs q135;have ehy136:=K16.q2 hy136;simp only[K16,kS,nf,nfs,Z5] at ehy136;refine Zd rfl (by simp[hO,hT16,ehy136,c116,c119,c119M,c129,c129M] <;> rfl) ?_;refine Zd rfl (by simp[c116,c119,c119M,c129,c129M] <;> rfl) ?_;obtain⟨y137,hy137,q135⟩:=bs q135;have ehy137:=K17.q6 hy137;simp only[K17,kS,nf,nfs,Z5] at ehy137;refine Zd rfl (by simp[hO,hT17,ehy137,c116,c119,c119M,c129,c129M] <;> rfl) ?_;obtain⟨_,u138,q135⟩:=bs q135;have u138_0:=ZO u138;obtain⟨x139,hx139,q135⟩:=bs q135;have ghx139:=Yb hx139;obtain⟨y140,hy140,q135⟩:=bs q135;have ehy140:=K18.q4 hy140;simp only[K18,kS,nf,nfs,Z5] at ehy140;refine Zd rfl (by simp[u138_0,hx139,ghx139,hO,hT18,ehy140,c116,c119,c119M,c129,c129M] <;> rfl) ?_;refine ZA ?_;refine Zd rfl (by simp[c116,c119,c119M,c129,c129M] <;> rfl) ?_;by_cases c141:y140.2=0
    ·skip
     rw[if_neg (not_not_intro c141)] at q135;refine Zv (by simp[bV,c116,c119,c119M,c129,c129M,eq_true c141]) ?_;refine ZD ?_;refine Zd rfl (by simp[c116,c119,c119M,c129,c129M,eq_true c141] <;> rfl) ?_;refine ZA ?_;obtain⟨y142,hy142,q135⟩:=bs q135;have ehy142:=K19.q1 hy142;simp only[K19,kS,nf,nfs,Z5] at ehy142;refine Zd rfl (by simp[hO,hT19,ehy142,c116,c119,c119M,c129,c129M,eq_true c141] <;> rfl) ?_;refine Zx ?_;refine Xs (kq:=⟨[2,3,11,17,18,20,22,23,24],[11,20,40,65,100040,200040,300040],[]⟩) (H:=fun(s:Int×Int×Bool×Tapi_Dispute)=>match s with | (p52,p53,p54,p55)=>(⟨(und 2++([.one (.slice .no (Zg .u8 a2)),.one (.slice .no (Zg .u8 a3))]++(und 7++([.ptr 11 0 0 0 84]++(und 5++([.one (.ms 65 0 0 (y136.length) 32),.one (.v (.int .i64 (IntKind.i64.wrap (2+(IntKind.i64.wrap ((a4).tmod 4))))))]++(und 1++([.ptr 20 0 0 0 35]++(und 1++([.one (.v (.int .i64 p52)),.one (.v (.int .i64 p53)),.one (.v (.bool p54))]++(und 178)))))))))):List PV),([(11,⟨0,84,[(.v (.int .u32 y118.1.1.1)) :: ((arC .u8 y118.1.1.2.1)++((arC .u8 y118.1.1.2.2.1)++((.v (.int .u32 y118.1.1.2.2.2.1)) :: ((.v (.int .u32 y118.1.1.2.2.2.2.1)) :: ((.v (.int .u32 y118.1.1.2.2.2.2.2)) :: ((arC .u64 y118.1.2.1)++((.v (.int .i64 y118.1.2.2.1)) :: ((.v (.int .u32 y118.1.2.2.2.1)) :: ((.v (.int .u32 y118.1.2.2.2.2.1)) :: ((.v (.int .u32 y118.1.2.2.2.2.2.1)) :: ((.slice .no (List.map eapi_Checkpoint y118.1.2.2.2.2.2.2.1)) :: ((.v (.int .i64 y118.1.2.2.2.2.2.2.2.1)) :: ((.v (.int .i64 y118.1.2.2.2.2.2.2.2.2.1)) :: ((.v (.int .i64 y118.1.2.2.2.2.2.2.2.2.2)) :: ((.ms 40 0 0 (y118.2.1.length) 69) :: ((.ms 100040 0 0 (y118.2.2.1.length) 34) :: ((.ms 200040 0 0 (y118.2.2.2.1.length) 36) :: ((.ms 300040 0 0 (y118.2.2.2.2.length) 1) :: []))))))))))))))))))],false,false⟩),(20,⟨0,35,[(.v (.int .i64 p55.1)) :: ((.v (.int .i64 p55.2.1)) :: ((arC .u8 p55.2.2.1)++((.slice .no (List.map eapi_Claim p55.2.2.2)) :: [])))],false,false⟩),(40,⟨0,69,List.map Yq y118.2.1,false,true⟩),(65,⟨0,32,List.map (arC .u8) y136,false,true⟩),(100040,⟨0,34,List.map Y3 y118.2.2.1,false,true⟩),(200040,⟨0,36,List.map Yv y118.2.2.2.1,false,true⟩),(300040,⟨0,1,List.map Zdm y118.2.2.2.2,false,true⟩)]:Boxes)⟩:ASt)) (by kernel_rfl) q135 (by simp[und,List.replicate,c116,c119,c119M,c129,c129M,eq_true c141]) ?_;rintro⟨p52,p53,p54,p55⟩ x172r hr172
     simp only[ZbJ] at hr172;unfold b4_2;simp only[und,List.replicate,List.cons_append,List.nil_append];refine ZA ?_;refine Zd rfl (by simp[c116,c119,c119M,c129,c129M,eq_true c141] <;> rfl) ?_;by_cases c173:p54=true
     ·skip
      rw[if_neg] at hr172;rotate_left
      ·simp[c116,c119,c119M,c129,c129M,eq_true c141,c173]
      refine Zv (by simp[bV,c116,c119,c119M,c129,c129M,eq_true c141,c173]) ?_;refine Z7 ?_;obtain⟨r174,q174,rfl⟩:=ms hr172;simp only[pq,reduceCtorEq];rintro rfl
      try simp only[pq,reduceCtorEq]
      unfold ZbI at q174;obtain⟨j175,hj175,q174⟩:=bs q174;obtain⟨j175a,j175b,j175c⟩:=Yj hj175;obtain⟨x176,hx176,q174⟩:=bs q174;have ghx176:=Yb hx176;refine Zd rfl (by simp[j175a,j175b,j175c,hx176,ghx176,c116,c119,c119M,c129,c129M,eq_true c141,c173] <;> rfl) ?_;obtain⟨y177,hy177,q174⟩:=bs q174;have ehy177:=K9.q1 hy177;simp only[K9,kS,nf,nfs,Z5] at ehy177;obtain⟨y178,hy178,q174⟩:=bs q174;have ehy178:=K13.q3 hy178;simp only[K13,kS,nf,nfs,Z5] at ehy178;refine Z6 rfl (by simp[hO,hT9,ehy177,hT13,ehy178,c116,c119,c119M,c129,c129M,eq_true c141,c173]; first | exact⟨rfl,rfl⟩ | rfl) (by kernel_rfl) ?_;refine ZA ?_;by_cases c179:y178.2.2=0
      ·skip
       rw[if_neg] at q174;rotate_left
       ·simp[c116,c119,c119M,c129,c129M,eq_true c141,c173,eq_true c179]
       obtain⟨z180,hz180,q174⟩:=bs q174;obtain⟨j181,hj181,hz180⟩:=bs hz180;obtain⟨j181a,j181b,j181c⟩:=Yj hj181;obtain⟨x182,hx182,hz180⟩:=bs hz180;have ghx182:=Yb hx182;obtain rfl:=Option.some.inj hz180;refine Z6 rfl (by simp[j181a,j181b,j181c,hx182,ghx182,c116,c119,c119M,c129,c129M,eq_true c141,c173,eq_true c179]; first | exact⟨rfl,rfl⟩ | rfl) (by kernel_rfl) ?_;by_cases c183:y178.1=x182
       ·skip
        rw[if_neg] at q174;rotate_left
        ·simp[c116,c119,c119M,c129,c129M,eq_true c141,c173,eq_true c179,eq_true c183]
        refine Zv (by simp[bV,c116,c119,c119M,c129,c129M,eq_true c141,c173,eq_true c179,eq_true c183]) ?_;refine ZD ?_;refine ZA ?_;refine Zd rfl (by simp[c116,c119,c119M,c129,c129M,eq_true c141,c173,eq_true c179,eq_true c183] <;> rfl) ?_;refine Zx ?_;refine Xs (kq:=⟨[20,29,174,175,176],[20,29],[]⟩) (H:=fun(s:Int)=>match s with | p86=>(⟨(und 20++([.ptr 20 0 0 0 35]++(und 8++([.ptr 29 0 0 0 32]++(und 144++([.one (.slice .no (Zg .i64 y178.2.1)),.one (.v (.int .i64 (y178.2.1.length:Int))),.one (.v (.int .i64 p86))]++(und 26)))))):List PV),([(20,⟨0,35,[(.v (.int .i64 p55.1)) :: ((.v (.int .i64 p55.2.1)) :: ((arC .u8 p55.2.2.1)++((.slice .no (List.map eapi_Claim p55.2.2.2)) :: [])))],false,false⟩),(29,⟨0,32,[arC .u8 y178.1],false,false⟩)]:Boxes)⟩:ASt)) (by kernel_rfl) q174 (by simp[und,List.replicate,c116,c119,c119M,c129,c129M,eq_true c141,c173,eq_true c179,eq_true c183]) ?_;rintro p86 x204r hr204
        simp only[ZbH] at hr204;unfold b4_3;simp only[und,List.replicate,List.cons_append,List.nil_append];refine Zd rfl (by simp[c116,c119,c119M,c129,c129M,eq_true c141,c173,eq_true c179,eq_true c183] <;> rfl) ?_;by_cases c205:p86<(y178.2.1.length:Int)
        ·skip
         have c205N:=c205;try simp at c205N
         first | have c205M:(_=_)=True:=eq_true c205N | have c205M:=c205N
         rw[if_pos] at hr204;rotate_left
         ·simp[c116,c119,c119M,c129,c129M,eq_true c141,c173,eq_true c179,eq_true c183,c205,c205M]
         refine Zw (by simp[bV,c116,c119,c119M,c129,c129M,eq_true c141,c173,eq_true c179,eq_true c183,c205,c205M]) ?_;refine ZD ?_;refine Zx ?_;obtain⟨x206,hx206,hr204⟩:=bs hr204;obtain⟨hx206a,hx206b⟩:=ZbP hx206;have hx206c:=Yb hx206b;refine Zd rfl (by simp[hx206a,hx206b,hx206c,c116,c119,c119M,c129,c129M,eq_true c141,c173,eq_true c179,eq_true c183,c205,c205M] <;> rfl) ?_;refine Zd rfl (by simp[c116,c119,c119M,c129,c129M,eq_true c141,c173,eq_true c179,eq_true c183,c205,c205M] <;> rfl) ?_;refine ZgU ?_;refine Xs (kq:=⟨[20,29,32,174,175,176,181,182,183],[20,29],[]⟩) (H:=fun(s:Int)=>match s with | p97=>(⟨(und 20++([.ptr 20 0 0 0 35]++(und 8++([.ptr 29 0 0 0 32]++(und 2++([.one (.v (.int .i64 x206))]++(und 141++([.one (.slice .no (Zg .i64 y178.2.1)),.one (.v (.int .i64 (y178.2.1.length:Int))),.one (.v (.int .i64 p86))]++(und 4++([.one (.slice .no (List.map eapi_Claim p55.2.2.2)),.one (.v (.int .i64 (p55.2.2.2.length:Int))),.one (.v (.int .i64 p97))]++(und 19)))))))))):List PV),([(20,⟨0,35,[(.v (.int .i64 p55.1)) :: ((.v (.int .i64 p55.2.1)) :: ((arC .u8 p55.2.2.1)++((.slice .no (List.map eapi_Claim p55.2.2.2)) :: [])))],false,false⟩),(29,⟨0,32,[arC .u8 y178.1],false,false⟩)]:Boxes)⟩:ASt)) (by kernel_rfl) hr204 (by simp[und,List.replicate,c116,c119,c119M,c129,c129M,eq_true c141,c173,eq_true c179,eq_true c183,c205,c205M]) ?_;rintro p97 x215r hr215
         simp only[Zaj] at hr215;unfold b4_4;simp only[und,List.replicate,List.cons_append,List.nil_append];refine Zd rfl (by simp[c116,c119,c119M,c129,c129M,eq_true c141,c173,eq_true c179,eq_true c183,c205,c205M] <;> rfl) ?_;by_cases c216:p97<(p55.2.2.2.length:Int)
         ·skip
          have c216N:=c216;try simp at c216N
          first | have c216M:(_=_)=True:=eq_true c216N | have c216M:=c216N
          rw[if_pos] at hr215;rotate_left
          ·simp[c116,c119,c119M,c129,c129M,eq_true c141,c173,eq_true c179,eq_true c183,c205,c205M,c216,c216M]
          refine Zw (by simp[bV,c116,c119,c119M,c129,c129M,eq_true c141,c173,eq_true c179,eq_true c183,c205,c205M,c216,c216M]) ?_;refine ZD ?_;refine Zx ?_;obtain⟨x217,hx217,hr215⟩:=bs hr215;obtain⟨hx217a,hx217b⟩:=ZbP hx217;have hx217c:=Yb hx217b;refine Zd rfl (by simp[hx217a,hx217b,hx217c,c116,c119,c119M,c129,c129M,eq_true c141,c173,eq_true c179,eq_true c183,c205,c205M,c216,c216M] <;> rfl) ?_;by_cases c218:x217.1=x206
          ·skip
           by_cases c219:x217.2=y178.1
           ·skip
            refine Zd rfl (by simp[c116,c119,c119M,c129,c129M,eq_true c141,c173,eq_true c179,eq_true c183,c205,c205M,c216,c216M,eq_true c218,eq_true c219] <;> rfl) ?_;rw[if_pos] at hr215;rotate_left
            ·simp[c116,c119,c119M,c129,c129M,eq_true c141,c173,eq_true c179,eq_true c183,c205,c205M,c216,c216M,eq_true c218,eq_true c219]
            refine ZcS (by simp[bV,c116,c119,c119M,c129,c129M,eq_true c141,c173,eq_true c179,eq_true c183,c205,c205M,c216,c216M,eq_true c218,eq_true c219]) ?_;refine Zd rfl (by simp[c116,c119,c119M,c129,c129M,eq_true c141,c173,eq_true c179,eq_true c183,c205,c205M,c216,c216M,eq_true c218,eq_true c219] <;> rfl) ?_;refine Zai ?_;obtain rfl:=Option.some.inj hr215;simp only[pq,reduceCtorEq];rintro rfl
            simp only[pq,reduceCtorEq];rintro rfl
            simp[YP,c116,c119,c119M,c129,c129M,eq_true c141,c173,eq_true c179,eq_true c183,c205,c205M,c216,c216M,eq_true c218,eq_true c219,c119N,c129N,c205N,c216N]
           ·skip
            refine Zd rfl (by simp[c116,c119,c119M,c129,c129M,eq_true c141,c173,eq_true c179,eq_true c183,c205,c205M,c216,c216M,eq_true c218,c219] <;> rfl) ?_;by_cases c220:x206=0
            ·skip
             rw[if_pos] at hr215;rotate_left
             ·simp[c116,c119,c119M,c129,c129M,eq_true c141,c173,eq_true c179,eq_true c183,c205,c205M,c216,c216M,eq_true c218,c219,eq_true c220]
             refine ZcS (by simp[bV,c116,c119,c119M,c129,c129M,eq_true c141,c173,eq_true c179,eq_true c183,c205,c205M,c216,c216M,eq_true c218,c219,eq_true c220]) ?_;refine Zd rfl (by simp[c116,c119,c119M,c129,c129M,eq_true c141,c173,eq_true c179,eq_true c183,c205,c205M,c216,c216M,eq_true c218,c219,eq_true c220] <;> rfl) ?_;refine Zai ?_;obtain rfl:=Option.some.inj hr215;simp only[pq,reduceCtorEq];rintro rfl
             simp only[pq,reduceCtorEq];rintro rfl
             simp[YP,c116,c119,c119M,c129,c129M,eq_true c141,c173,eq_true c179,eq_true c183,c205,c205M,c216,c216M,eq_true c218,c219,eq_true c220,c119N,c129N,c205N,c216N]
            ·skip
             rw[if_neg] at hr215;rotate_left
             ·simp[c116,c119,c119M,c129,c129M,eq_true c141,c173,eq_true c179,eq_true c183,c205,c205M,c216,c216M,eq_true c218,c219,c220]
             refine ZdI (by simp[bV,c116,c119,c119M,c129,c129M,eq_true c141,c173,eq_true c179,eq_true c183,c205,c205M,c216,c216M,eq_true c218,c219,c220]) ?_;refine Ze7 ?_;simp only[pq,reduceCtorEq];refine Xb rfl (by simp[c116,c119,c119M,c129,c129M,eq_true c141,c173,eq_true c179,eq_true c183,c205,c205M,c216,c216M,eq_true c218,c219,c220] <;> rfl) ?_;obtain rfl:=Option.some.inj hr215;simp only[pq,reduceCtorEq];simp[und,List.replicate,Nat.add_assoc,c116,c119,c119M,c129,c129M,eq_true c141,c173,eq_true c179,eq_true c183,c205,c205M,c216,c216M,eq_true c218,c219,c220]
          ·skip
           refine Zd rfl (by simp[c116,c119,c119M,c129,c129M,eq_true c141,c173,eq_true c179,eq_true c183,c205,c205M,c216,c216M,c218] <;> rfl) ?_;by_cases c221:x206=0
           ·skip
            rw[if_pos] at hr215;rotate_left
            ·simp[c116,c119,c119M,c129,c129M,eq_true c141,c173,eq_true c179,eq_true c183,c205,c205M,c216,c216M,c218,eq_true c221]
            refine ZcS (by simp[bV,c116,c119,c119M,c129,c129M,eq_true c141,c173,eq_true c179,eq_true c183,c205,c205M,c216,c216M,c218,eq_true c221]) ?_;refine Zd rfl (by simp[c116,c119,c119M,c129,c129M,eq_true c141,c173,eq_true c179,eq_true c183,c205,c205M,c216,c216M,c218,eq_true c221] <;> rfl) ?_;refine Zai ?_;obtain rfl:=Option.some.inj hr215;simp only[pq,reduceCtorEq];rintro rfl
            simp only[pq,reduceCtorEq];rintro rfl
            simp[YP,c116,c119,c119M,c129,c129M,eq_true c141,c173,eq_true c179,eq_true c183,c205,c205M,c216,c216M,c218,eq_true c221,c119N,c129N,c205N,c216N]
           ·skip
            rw[if_neg] at hr215;rotate_left
            ·simp[c116,c119,c119M,c129,c129M,eq_true c141,c173,eq_true c179,eq_true c183,c205,c205M,c216,c216M,c218,c221]
            refine ZdI (by simp[bV,c116,c119,c119M,c129,c129M,eq_true c141,c173,eq_true c179,eq_true c183,c205,c205M,c216,c216M,c218,c221]) ?_;refine Ze7 ?_;simp only[pq,reduceCtorEq];refine Xb rfl (by simp[c116,c119,c119M,c129,c129M,eq_true c141,c173,eq_true c179,eq_true c183,c205,c205M,c216,c216M,c218,c221] <;> rfl) ?_;obtain rfl:=Option.some.inj hr215;simp only[pq,reduceCtorEq];simp[und,List.replicate,Nat.add_assoc,c116,c119,c119M,c129,c129M,eq_true c141,c173,eq_true c179,eq_true c183,c205,c205M,c216,c216M,c218,c221]
         ·skip
          have c216N:=c216;try simp at c216N
          first | have c216M:(_=_)=True:=eq_true c216N | have c216M:=c216N
          rw[if_neg] at hr215;rotate_left
          ·simp[c116,c119,c119M,c129,c129M,eq_true c141,c173,eq_true c179,eq_true c183,c205,c205M,c216,c216M]
          refine Zv (by simp[bV,c116,c119,c119M,c129,c129M,eq_true c141,c173,eq_true c179,eq_true c183,c205,c205M,c216,c216M]) ?_;refine Z7 ?_;obtain⟨r222,q222,rfl⟩:=ms hr215;simp only[pq,reduceCtorEq];rintro rfl
          try simp only[pq,reduceCtorEq]
          unfold Zed at q222;refine Xb rfl (by simp[c116,c119,c119M,c129,c129M,eq_true c141,c173,eq_true c179,eq_true c183,c205,c205M,c216,c216M] <;> rfl) ?_;obtain rfl:=Option.some.inj q222;simp only[pq,reduceCtorEq];simp[und,List.replicate,Nat.add_assoc,c116,c119,c119M,c129,c129M,eq_true c141,c173,eq_true c179,eq_true c183,c205,c205M,c216,c216M]
        ·skip
         have c205N:=c205;try simp at c205N
         first | have c205M:(_=_)=True:=eq_true c205N | have c205M:=c205N
         rw[if_neg] at hr204;rotate_left
         ·simp[c116,c119,c119M,c129,c129M,eq_true c141,c173,eq_true c179,eq_true c183,c205,c205M]
         refine Zv (by simp[bV,c116,c119,c119M,c129,c129M,eq_true c141,c173,eq_true c179,eq_true c183,c205,c205M]) ?_;refine Z7 ?_;obtain⟨r223,q223,rfl⟩:=ms hr204;simp only[pq,reduceCtorEq];rintro rfl
         try simp only[pq,reduceCtorEq]
         unfold Llaw22_DisputeHonest_k3 at q223;refine Zd rfl (by simp[c116,c119,c119M,c129,c129M,eq_true c141,c173,eq_true c179,eq_true c183,c205,c205M] <;> rfl) ?_;refine Zai ?_;obtain rfl:=Option.some.inj q223;simp[YP,c116,c119,c119M,c129,c129M,eq_true c141,c173,eq_true c179,eq_true c183,c205,c205M,c119N,c129N,c205N]
       ·skip
        rw[if_pos] at q174;rotate_left
        ·simp[c116,c119,c119M,c129,c129M,eq_true c141,c173,eq_true c179,c183]
        refine Zw (by simp[bV,c116,c119,c119M,c129,c129M,eq_true c141,c173,eq_true c179,c183]) ?_;refine ZA ?_;refine Zd rfl (by simp[c116,c119,c119M,c129,c129M,eq_true c141,c173,eq_true c179,c183] <;> rfl) ?_;refine Zac ?_;obtain rfl:=Option.some.inj q174;simp[YP,c116,c119,c119M,c129,c129M,eq_true c141,c173,eq_true c179,c183,c119N,c129N]
      ·skip
       rw[if_pos] at q174;rotate_left
       ·simp[c116,c119,c119M,c129,c129M,eq_true c141,c173,c179]
       obtain⟨z224,hz224,q174⟩:=bs q174;obtain rfl:=Option.some.inj hz224;refine Z6 rfl (by simp[c116,c119,c119M,c129,c129M,eq_true c141,c173,c179]; first | exact⟨rfl,rfl⟩ | rfl) (by kernel_rfl) ?_;rw[if_pos] at q174;rotate_left
       ·simp[c116,c119,c119M,c129,c129M,eq_true c141,c173,c179]
       refine Zw (by simp[bV,c116,c119,c119M,c129,c129M,eq_true c141,c173,c179]) ?_;refine ZA ?_;refine Zd rfl (by simp[c116,c119,c119M,c129,c129M,eq_true c141,c173,c179] <;> rfl) ?_;refine Zac ?_;obtain rfl:=Option.some.inj q174;simp[YP,c116,c119,c119M,c129,c129M,eq_true c141,c173,c179,c119N,c129N]
     ·skip
      rw[if_pos] at hr172;rotate_left
      ·simp[c116,c119,c119M,c129,c129M,eq_true c141,c173]
      refine Zw (by simp[bV,c116,c119,c119M,c129,c129M,eq_true c141,c173]) ?_;refine ZD ?_;refine Zx ?_;obtain⟨y225,hy225,hr172⟩:=bs hr172;have ehy225:=K17.q6 hy225;simp only[K17,kS,nf,nfs,Z5] at ehy225;obtain⟨y226,hy226,hr172⟩:=bs hr172;have ehy226:=K20.q2 hy226;simp only[K20,kS,nf,nfs,Z5] at ehy226;refine Z6 rfl (by simp[hO,hT17,ehy225,hT20,ehy226,c116,c119,c119M,c129,c129M,eq_true c141,c173]; first | exact⟨rfl,rfl⟩ | rfl) (by kernel_rfl) ?_;refine ZA ?_;by_cases c227:y226.2.2=0
      ·skip
       rw[if_neg] at hr172;rotate_left
       ·simp[c116,c119,c119M,c129,c129M,eq_true c141,c173,eq_true c227]
       obtain⟨z228,hz228,hr172⟩:=bs hr172;by_cases c229:0<(y226.2.1.length:Int)
       ·skip
        have c229N:=c229;try simp at c229N
        first | have c229M:(_=_)=True:=eq_true c229N | have c229M:=c229N
        rw[if_pos] at hz228;rotate_left
        ·simp[c116,c119,c119M,c129,c129M,eq_true c141,c173,eq_true c227,c229,c229M]
        obtain⟨z230,hz230,hz228⟩:=bs hz228;obtain⟨x231,hx231,hz230⟩:=bs hz230;have hx231c:=Yb hx231;obtain rfl:=Option.some.inj hz230;obtain rfl:=Option.some.inj hz228;by_cases c232:x231=0
        ·skip
         rw[if_pos] at hr172;rotate_left
         ·simp[c116,c119,c119M,c129,c129M,eq_true c141,c173,eq_true c227,c229,c229M,eq_true c232]
         obtain⟨z233,hz233,hr172⟩:=bs hr172;obtain rfl:=Option.some.inj hz233;refine Z6 rfl (by simp[hx231,hx231c,c116,c119,c119M,c129,c129M,eq_true c141,c173,eq_true c227,c229,c229M,eq_true c232]; first | exact⟨rfl,rfl⟩ | rfl) (by kernel_rfl) ?_;rw[if_pos] at hr172;rotate_left
         ·simp[c116,c119,c119M,c129,c129M,eq_true c141,c173,eq_true c227,c229,c229M,eq_true c232]
         refine Zw (by simp[bV,c116,c119,c119M,c129,c129M,eq_true c141,c173,eq_true c227,c229,c229M,eq_true c232]) ?_;refine ZA ?_;refine Zd rfl (by simp[c116,c119,c119M,c129,c129M,eq_true c141,c173,eq_true c227,c229,c229M,eq_true c232] <;> rfl) ?_;refine Zac ?_;obtain rfl:=Option.some.inj hr172;simp only[pq,reduceCtorEq];rintro rfl
         simp[YP,c116,c119,c119M,c129,c129M,eq_true c141,c173,eq_true c227,c229,c229M,eq_true c232,c119N,c129N,c229N]
        ·skip
         rw[if_neg] at hr172;rotate_left
         ·simp[c116,c119,c119M,c129,c129M,eq_true c141,c173,eq_true c227,c229,c229M,c232]
         obtain⟨z234,hz234,hr172⟩:=bs hr172;obtain⟨j235,hj235,hz234⟩:=bs hz234;obtain⟨j235a,j235b,j235c⟩:=Yj hj235;obtain⟨x236,hx236,hz234⟩:=bs hz234;have ghx236:=Yb hx236;obtain rfl:=Option.some.inj hz234;refine Z6 rfl (by simp[hx231,hx231c,j235a,j235b,j235c,hx236,ghx236,c116,c119,c119M,c129,c129M,eq_true c141,c173,eq_true c227,c229,c229M,c232]; first | exact⟨rfl,rfl⟩ | rfl) (by kernel_rfl) ?_;by_cases c237:y226.1.2.2.1=x236
         ·skip
          rw[if_neg] at hr172;rotate_left
          ·simp[c116,c119,c119M,c129,c129M,eq_true c141,c173,eq_true c227,c229,c229M,c232,eq_true c237]
          refine Zv (by simp[bV,c116,c119,c119M,c129,c129M,eq_true c141,c173,eq_true c227,c229,c229M,c232,eq_true c237]) ?_;refine ZD ?_;refine Zd rfl (by simp[c116,c119,c119M,c129,c129M,eq_true c141,c173,eq_true c227,c229,c229M,c232,eq_true c237] <;> rfl) ?_;refine Zd rfl (by simp[c116,c119,c119M,c129,c129M,eq_true c141,c173,eq_true c227,c229,c229M,c232,eq_true c237] <;> rfl) ?_;obtain⟨y238,hy238,hr172⟩:=bs hr172;have ehy238:=K21.q2 hy238;simp only[K21,kS,nf,nfs,Z5] at ehy238;refine Zd rfl (by simp[hO,hT21,ehy238,c116,c119,c119M,c129,c129M,eq_true c141,c173,eq_true c227,c229,c229M,c232,eq_true c237] <;> rfl) ?_;by_cases c239:y238<IntKind.i64.wrap (p52+1)
          ·skip
           rw[if_pos] at hr172;rotate_left
           ·simp[c116,c119,c119M,c129,c129M,eq_true c141,c173,eq_true c227,c229,c229M,c232,eq_true c237,c239]
           refine ZcS (by simp[bV,c116,c119,c119M,c129,c129M,eq_true c141,c173,eq_true c227,c229,c229M,c232,eq_true c237,c239]) ?_;refine Zd rfl (by simp[c116,c119,c119M,c129,c129M,eq_true c141,c173,eq_true c227,c229,c229M,c232,eq_true c237,c239] <;> rfl) ?_;refine Zai ?_;obtain rfl:=Option.some.inj hr172;simp only[pq,reduceCtorEq];rintro rfl
           simp[YP,c116,c119,c119M,c129,c129M,eq_true c141,c173,eq_true c227,c229,c229M,c232,eq_true c237,c239,c119N,c129N,c229N]
          ·skip
           rw[if_neg] at hr172;rotate_left
           ·simp[c116,c119,c119M,c129,c129M,eq_true c141,c173,eq_true c227,c229,c229M,c232,eq_true c237,c239]
           refine ZdI (by simp[bV,c116,c119,c119M,c129,c129M,eq_true c141,c173,eq_true c227,c229,c229M,c232,eq_true c237,c239]) ?_;refine Ze7 ?_;simp only[pq,reduceCtorEq];obtain⟨y240,hy240,hr172⟩:=bs hr172;have ehy240:=K19.q1 hy240;simp only[K19,kS,nf,nfs,Z5] at ehy240;refine Xb rfl (by simp[hO,hT19,ehy240,c116,c119,c119M,c129,c129M,eq_true c141,c173,eq_true c227,c229,c229M,c232,eq_true c237,c239] <;> rfl) ?_;obtain rfl:=Option.some.inj hr172;simp only[pq,reduceCtorEq];simp[und,List.replicate,Nat.add_assoc,hO,hT19,ehy240,c116,c119,c119M,c129,c129M,eq_true c141,c173,eq_true c227,c229,c229M,c232,eq_true c237,c239]
         ·skip
          rw[if_pos] at hr172;rotate_left
          ·simp[c116,c119,c119M,c129,c129M,eq_true c141,c173,eq_true c227,c229,c229M,c232,c237]
          refine Zw (by simp[bV,c116,c119,c119M,c129,c129M,eq_true c141,c173,eq_true c227,c229,c229M,c232,c237]) ?_;refine ZA ?_;refine Zd rfl (by simp[c116,c119,c119M,c129,c129M,eq_true c141,c173,eq_true c227,c229,c229M,c232,c237] <;> rfl) ?_;refine Zac ?_;obtain rfl:=Option.some.inj hr172;simp only[pq,reduceCtorEq];rintro rfl
          simp[YP,c116,c119,c119M,c129,c129M,eq_true c141,c173,eq_true c227,c229,c229M,c232,c237,c119N,c129N,c229N]
       ·skip
        have c229N:=c229;try simp at c229N
        first | have c229M:(_=_)=True:=eq_true c229N | have c229M:=c229N
        have c229L:¬ 0<y226.2.1.length:=by omega
        rw[if_neg] at hz228;rotate_left
        ·simp[c116,c119,c119M,c129,c129M,eq_true c141,c173,eq_true c227,c229,c229M,c229L]
        obtain⟨z241,hz241,hz228⟩:=bs hz228;obtain rfl:=Option.some.inj hz241;obtain rfl:=Option.some.inj hz228;rw[if_neg] at hr172;rotate_left
        ·simp[c116,c119,c119M,c129,c129M,eq_true c141,c173,eq_true c227,c229,c229M,c229L]
        obtain⟨z242,hz242,hr172⟩:=bs hr172;obtain⟨j243,hj243,hz242⟩:=bs hz242;obtain⟨j243a,j243b,j243c⟩:=Yj hj243;obtain⟨x244,hx244,hz242⟩:=bs hz242;have ghx244:=Yb hx244;obtain rfl:=Option.some.inj hz242;refine Z6 rfl (by simp[j243a,j243b,j243c,hx244,ghx244,c116,c119,c119M,c129,c129M,eq_true c141,c173,eq_true c227,c229,c229M,c229L]; first | exact⟨rfl,rfl⟩ | rfl) (by kernel_rfl) ?_;by_cases c245:y226.1.2.2.1=x244
        ·skip
         rw[if_neg] at hr172;rotate_left
         ·simp[c116,c119,c119M,c129,c129M,eq_true c141,c173,eq_true c227,c229,c229M,c229L,eq_true c245]
         refine Zv (by simp[bV,c116,c119,c119M,c129,c129M,eq_true c141,c173,eq_true c227,c229,c229M,c229L,eq_true c245]) ?_;refine ZD ?_;refine Zd rfl (by simp[c116,c119,c119M,c129,c129M,eq_true c141,c173,eq_true c227,c229,c229M,c229L,eq_true c245] <;> rfl) ?_;refine Zd rfl (by simp[c116,c119,c119M,c129,c129M,eq_true c141,c173,eq_true c227,c229,c229M,c229L,eq_true c245] <;> rfl) ?_;obtain⟨y246,hy246,hr172⟩:=bs hr172;have ehy246:=K21.q2 hy246;simp only[K21,kS,nf,nfs,Z5] at ehy246;refine Zd rfl (by simp[hO,hT21,ehy246,c116,c119,c119M,c129,c129M,eq_true c141,c173,eq_true c227,c229,c229M,c229L,eq_true c245] <;> rfl) ?_;by_cases c247:y246<IntKind.i64.wrap (p52+1)
         ·skip
          rw[if_pos] at hr172;rotate_left
          ·simp[c116,c119,c119M,c129,c129M,eq_true c141,c173,eq_true c227,c229,c229M,c229L,eq_true c245,c247]
          refine ZcS (by simp[bV,c116,c119,c119M,c129,c129M,eq_true c141,c173,eq_true c227,c229,c229M,c229L,eq_true c245,c247]) ?_;refine Zd rfl (by simp[c116,c119,c119M,c129,c129M,eq_true c141,c173,eq_true c227,c229,c229M,c229L,eq_true c245,c247] <;> rfl) ?_;refine Zai ?_;obtain rfl:=Option.some.inj hr172;simp only[pq,reduceCtorEq];rintro rfl
          simp[YP,c116,c119,c119M,c129,c129M,eq_true c141,c173,eq_true c227,c229,c229M,c229L,eq_true c245,c247,c119N,c129N,c229N]
         ·skip
          rw[if_neg] at hr172;rotate_left
          ·simp[c116,c119,c119M,c129,c129M,eq_true c141,c173,eq_true c227,c229,c229M,c229L,eq_true c245,c247]
          refine ZdI (by simp[bV,c116,c119,c119M,c129,c129M,eq_true c141,c173,eq_true c227,c229,c229M,c229L,eq_true c245,c247]) ?_;refine Ze7 ?_;simp only[pq,reduceCtorEq];obtain⟨y248,hy248,hr172⟩:=bs hr172;have ehy248:=K19.q1 hy248;simp only[K19,kS,nf,nfs,Z5] at ehy248;refine Xb rfl (by simp[hO,hT19,ehy248,c116,c119,c119M,c129,c129M,eq_true c141,c173,eq_true c227,c229,c229M,c229L,eq_true c245,c247] <;> rfl) ?_;obtain rfl:=Option.some.inj hr172;simp only[pq,reduceCtorEq];simp[und,List.replicate,Nat.add_assoc,hO,hT19,ehy248,c116,c119,c119M,c129,c129M,eq_true c141,c173,eq_true c227,c229,c229M,c229L,eq_true c245,c247]
        ·skip
         rw[if_pos] at hr172;rotate_left
         ·simp[c116,c119,c119M,c129,c129M,eq_true c141,c173,eq_true c227,c229,c229M,c229L,c245]
         refine Zw (by simp[bV,c116,c119,c119M,c129,c129M,eq_true c141,c173,eq_true c227,c229,c229M,c229L,c245]) ?_;refine ZA ?_;refine Zd rfl (by simp[c116,c119,c119M,c129,c129M,eq_true c141,c173,eq_true c227,c229,c229M,c229L,c245] <;> rfl) ?_;refine Zac ?_;obtain rfl:=Option.some.inj hr172;simp only[pq,reduceCtorEq];rintro rfl
         simp[YP,c116,c119,c119M,c129,c129M,eq_true c141,c173,eq_true c227,c229,c229M,c229L,c245,c119N,c129N,c229N]
      ·skip
       rw[if_pos] at hr172;rotate_left
       ·simp[c116,c119,c119M,c129,c129M,eq_true c141,c173,c227]
       obtain⟨z249,hz249,hr172⟩:=bs hr172;obtain rfl:=Option.some.inj hz249;rw[if_pos] at hr172;rotate_left
       ·simp[c116,c119,c119M,c129,c129M,eq_true c141,c173,c227]
       obtain⟨z250,hz250,hr172⟩:=bs hr172;obtain rfl:=Option.some.inj hz250;refine Z6 rfl (by simp[c116,c119,c119M,c129,c129M,eq_true c141,c173,c227]; first | exact⟨rfl,rfl⟩ | rfl) (by kernel_rfl) ?_;rw[if_pos] at hr172;rotate_left
       ·simp[c116,c119,c119M,c129,c129M,eq_true c141,c173,c227]
       refine Zw (by simp[bV,c116,c119,c119M,c129,c129M,eq_true c141,c173,c227]) ?_;refine ZA ?_;refine Zd rfl (by simp[c116,c119,c119M,c129,c129M,eq_true c141,c173,c227] <;> rfl) ?_;refine Zac ?_;obtain rfl:=Option.some.inj hr172;simp only[pq,reduceCtorEq];rintro rfl
       simp[YP,c116,c119,c119M,c129,c129M,eq_true c141,c173,c227,c119N,c129N]
    ·skip
     rw[if_pos c141] at q135;refine Zw (by simp[bV,c116,c119,c119M,c129,c129M,c141]) ?_;refine ZA ?_;refine Zd rfl (by simp[c116,c119,c119M,c129,c129M,c141] <;> rfl) ?_;refine Zac ?_;obtain rfl:=Option.some.inj q135;simp[YP,c116,c119,c119M,c129,c129M,c141,c119N,c129N]
 ·skip
  rw[if_pos c116] at hr;refine Zw (by simp[bV,c116]) ?_;refine ZA ?_;refine Zd rfl (by simp[c116]; rfl) ?_;refine Zac ?_;obtain rfl:=Option.some.inj hr;simp[YP,c116]
end Go.Proofs.YtbppknpnmjhjpaaGreatDoor
