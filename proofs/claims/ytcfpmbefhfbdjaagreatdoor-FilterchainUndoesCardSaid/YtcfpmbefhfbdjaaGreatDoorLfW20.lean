import Derived.Test.YtcfpmbefhfbdjaaGreatDoorLfK
import Derived.Test.YtcfpmbefhfbdjaaGreatDoorCode
import Derived.Test.YtcfpmbefhfbdjaaGreatDoorBl
namespace Go.Proofs.YtcfpmbefhfbdjaaGreatDoor
open Go.RowKit
open Go.Av
open Go.Lc
set_option maxRecDepth 100000
set_option linter.unusedSimpArgs false
set_option linter.unusedVariables false
set_option maxHeartbeats 4000000
def kp4:Keep:=fun i=>if i=15 then⟨[11,18,20,21,22,23,101,102,103],[11,21,111],[(23,none,111,32)]⟩ else⟨[],[],[]⟩
theorem w4 {T:Tab}(hO:T.own=fun _=>[]) (hT5:T 5=some K5.G) (hT6:T 6=some K6.G) (hT9:T 9=some K9.G) (hT10:T 10=some K10.G) (hT11:T 11=some K11.G) (hT12:T 12=some K12.G) (hT13:T 13=some K13.G) (hT14:T 14=some K14.G) (hT15:T 15=some K15.G) (a0:Int) (a1:(List Int)) (a2:(List (Arr 32))) (a3:(List (Arr 32))) (a4:Int) (x:Bool) (hr:YE a0 a1 a2 a3 a4=some x):∃ kp fl n,ZZ tt T G kp fl n Tryz.f4 (E4 (a0,a1,a2,a3,a4))=some (R4 (a0,a1,a2,a3,a4) x):=by
 simp only[E4,R4];refine fnE (kp:=kp4) (w:=false) body4 (by simp) ?_;unfold c4;rw[Tryz.ntmps4];unfold YE at hr;refine Zd rfl (by simp[]; rfl) ?_;refine ZH ?_;obtain⟨y33,hy33,hr⟩:=bs hr;have ehy33:=K5.q0 hy33;simp only[K5,kS,nf,nfs,Yp] at ehy33;refine Zd rfl (by simp[hO,hT5,ehy33]; rfl) ?_;by_cases c34:y33=true
 ·skip
  rw[if_neg (not_not_intro c34)] at hr;refine ZF (by simp[bV,c34]) ?_;refine ZM ?_;obtain⟨y35,hy35,hr⟩:=bs hr;have ehy35:=K6.q2 hy35;simp only[K6,kS,nf,nfs,Yp] at ehy35;refine Zd rfl (by simp[hO,hT6,ehy35,c34]; rfl) ?_;refine ZH ?_;by_cases c36:y35.2.2=true
  ·skip
   rw[if_neg] at hr;rotate_left
   ·simp[c34,c36]
   obtain⟨z37,hz37,hr⟩:=bs hr;obtain⟨y38,hy38,hz37⟩:=bs hz37;have ehy38:=K10.q2 hy38;simp only[K10,kS,nf,nfs,Yp] at ehy38;obtain rfl:=Option.some.inj hz37;by_cases c39:y38=true
   ·skip
    refine Zd rfl (by simp[hO,hT10,ehy38,c34,c36,c39]; rfl) ?_;by_cases c40:(a2.length:Int)=(a3.length:Int)
    ·skip
     have c40N:=c40;try simp at c40N
     rw[if_neg] at hr;rotate_left
     ·simp[c34,c36,c39,eq_true c40,eq_true c40N]
     refine ZF (by simp[bV,c34,c36,c39,eq_true c40,eq_true c40N]) ?_;refine ZM ?_;obtain⟨y41,hy41,hr⟩:=bs hr;have ehy41:=K11.q3 hy41;simp only[K11,kS,nf,nfs,Yp] at ehy41;refine Zd rfl (by simp[hO,hT11,ehy41,c34,c36,c39,eq_true c40,eq_true c40N]; rfl) ?_;obtain⟨y42,hy42,hr⟩:=bs hr;have ehy42:=K12.q2 hy42;simp only[K12,kS,nf,nfs,Yp] at ehy42;refine Zd rfl (by simp[hO,hT12,ehy42,c34,c36,c39,eq_true c40,eq_true c40N]; rfl) ?_;refine ZH ?_;by_cases c43:y41.2=0
     ·skip
      by_cases c44:y42.2=0
      ·skip
       rw[if_neg] at hr;rotate_left
       ·simp[c34,c36,c39,eq_true c40,eq_true c40N,eq_true c43,eq_true c44]
       obtain⟨z45,hz45,hr⟩:=bs hr;obtain⟨y46,hy46,hz45⟩:=bs hz45;have ehy46:=K13.q2 hy46;simp only[K13,kS,nf,nfs,Yp] at ehy46;obtain rfl:=Option.some.inj hz45;refine Zd rfl (by simp[hO,hT13,ehy46,c34,c36,c39,eq_true c40,eq_true c40N,eq_true c43,eq_true c44]; rfl) ?_;by_cases c47:y46=true
       ·skip
        rw[if_neg] at hr;rotate_left
        ·simp[c34,c36,c39,eq_true c40,eq_true c40N,eq_true c43,eq_true c44,c47]
        refine ZF (by simp[bV,c34,c36,c39,eq_true c40,eq_true c40N,eq_true c43,eq_true c44,c47]) ?_;refine ZM ?_;obtain⟨_,u48,hr⟩:=bs hr;have u48_0:=ZK u48;refine Zd rfl (by simp[u48_0,c34,c36,c39,eq_true c40,eq_true c40N,eq_true c43,eq_true c44,c47]; rfl) ?_;obtain⟨y49,hy49,hr⟩:=bs hr;have ehy49:=K12.q2 hy49;simp only[K12,kS,nf,nfs,Yp] at ehy49;refine Zd rfl (by simp[hO,hT12,ehy49,c34,c36,c39,eq_true c40,eq_true c40N,eq_true c43,eq_true c44,c47]; rfl) ?_;obtain⟨y50,hy50,hr⟩:=bs hr;have ehy50:=K11.q3 hy50;simp only[K11,kS,nf,nfs,Yp] at ehy50;refine Zd rfl (by simp[hO,hT11,ehy50,c34,c36,c39,eq_true c40,eq_true c40N,eq_true c43,eq_true c44,c47]; rfl) ?_;refine Zd rfl (by simp[c34,c36,c39,eq_true c40,eq_true c40N,eq_true c43,eq_true c44,c47]; rfl) ?_;refine ZH ?_;refine Zd rfl (by simp[c34,c36,c39,eq_true c40,eq_true c40N,eq_true c43,eq_true c44,c47]; rfl) ?_;refine ZD ?_;refine X8 (kq:=⟨[11,18,20,21,22,23,101,102,103],[11,21,111],[(23,none,111,32)]⟩) (H:=fun(s:Int×(List (Arr 32)))=>match s with | (p19,p20)=>(⟨(und 11++([.ptr 11 0 0 0 2]++(und 6++([.one (.v (.int .i64 ((IntKind.i64.wrap (a4)).tmod (IntKind.i64.wrap ((y35.1.1.length:Int)+1)))))]++(und 1++([.one (.v (.int .i64 y49.2)),.ptr 21 0 0 0 2,.one (.v (.int .i64 y50.2)),.one (.ms 111 0 0 (p20.length) 32)]++(und 77++([.one (.slice .no (List.map ZaL y35.2.1)),.one (.v (.int .i64 (y35.2.1.length:Int))),.one (.v (.int .i64 p19))]++(und 52)))))))):List PV),([(11,⟨0,2,[[.slice .no (List.map (arC .u8) y35.1.1),.slice .no (List.map (arC .u8) y35.1.2)]],false,false⟩),(21,⟨0,2,[[.slice .no (List.map (arC .u8) y50.1.1),.slice .no (List.map (arC .u8) y50.1.2)]],false,false⟩),(111,⟨0,32,List.map (arC .u8) p20,false,true⟩)]:Boxes)⟩:ASt)) (by kernel_rfl) hr (by simp[und,List.replicate,c34,c36,c39,eq_true c40,eq_true c40N,eq_true c43,eq_true c44,c47]) ?_;rintro⟨p19,p20⟩ x57r hr57
        simp only[YM] at hr57;unfold b4_1;simp only[und,List.replicate,List.cons_append,List.nil_append];refine Zd rfl (by simp[c34,c36,c39,eq_true c40,eq_true c40N,eq_true c43,eq_true c44,c47]; rfl) ?_;by_cases c58:p19<(y35.2.1.length:Int)
        ·skip
         have c58N:=c58;try simp at c58N
         first | have c58M:(_=_)=True:=eq_true c58N | have c58M:=c58N
         rw[if_pos] at hr57;rotate_left
         ·simp[c34,c36,c39,eq_true c40,eq_true c40N,eq_true c43,eq_true c44,c47,c58,c58M]
         refine ZC (by simp[bV,c34,c36,c39,eq_true c40,eq_true c40N,eq_true c43,eq_true c44,c47,c58,c58M]) ?_;refine ZM ?_;refine ZD ?_;obtain⟨x59,hx59,hr57⟩:=bs hr57;obtain⟨hx59a,hx59b⟩:=Zcb hx59;have hx59c:=YL hx59b;refine Zd rfl (by simp[hx59a,hx59b,hx59c,c34,c36,c39,eq_true c40,eq_true c40N,eq_true c43,eq_true c44,c47,c58,c58M] <;> rfl) ?_;obtain⟨y60,hy60,hr57⟩:=bs hr57;have ehy60:=K9.q1 hy60;simp only[K9,kS,nf,nfs,Yp] at ehy60;obtain⟨_,u61,hr57⟩:=bs hr57;have u61_0:=ZK u61;have n1_u61_0:(p20.length+1) * 32≤140737488355328:=by omega
         have n2_u61_0:p20.length+1≤9223372036854775807:=by omega
         refine XY rfl (by simp[hO,hT9,ehy60,n1_u61_0,n2_u61_0,c34,c36,c39,eq_true c40,eq_true c40N,eq_true c43,eq_true c44,c47,c58,c58M] <;> rfl) ?_;simp only[pq,reduceCtorEq];refine XY rfl (by simp[c34,c36,c39,eq_true c40,eq_true c40N,eq_true c43,eq_true c44,c47,c58,c58M] <;> rfl) ?_;obtain rfl:=Option.some.inj hr57;simp only[pq,reduceCtorEq];simp[und,List.replicate,Nat.add_assoc,c34,c36,c39,eq_true c40,eq_true c40N,eq_true c43,eq_true c44,c47,c58,c58M]
        ·skip
         have c58N:=c58;try simp at c58N
         first | have c58M:(_=_)=True:=eq_true c58N | have c58M:=c58N
         rw[if_neg] at hr57;rotate_left
         ·simp[c34,c36,c39,eq_true c40,eq_true c40N,eq_true c43,eq_true c44,c47,c58,c58M]
         refine ZF (by simp[bV,c34,c36,c39,eq_true c40,eq_true c40N,eq_true c43,eq_true c44,c47,c58,c58M]) ?_;refine Ys ?_;obtain⟨r62,q62,rfl⟩:=ms hr57;simp only[pq,reduceCtorEq];rintro rfl
         try simp only[pq,reduceCtorEq]
         unfold Xl at q62;obtain⟨y63,hy63,q62⟩:=bs q62;have ehy63:=K14.q2 hy63;simp only[K14,kS,nf,nfs,Yp] at ehy63;refine Zd rfl (by simp[hO,hT14,ehy63,c34,c36,c39,eq_true c40,eq_true c40N,eq_true c43,eq_true c44,c47,c58,c58M] <;> rfl) ?_;obtain⟨_,u64,q62⟩:=bs q62;obtain⟨u64_0,u64_1⟩:=ZK u64;have sf65:(y63).toNat≤p20.length:=by omega
         obtain⟨y66,hy66,q62⟩:=bs q62;have ehy66:=K15.q3 hy66;simp only[K15,kS,nf,nfs,Yp] at ehy66;refine Xf rfl (by simp[u64_0,u64_1,sf65,hO,hT15,ehy66,c34,c36,c39,eq_true c40,eq_true c40N,eq_true c43,eq_true c44,c47,c58,c58M]; first | exact⟨rfl,rfl⟩ | rfl) (by kernel_rfl) ?_;by_cases c67:y49.2=0
         ·skip
          by_cases c68:y50.2=0
          ·skip
           by_cases c69:y66.2=0
           ·skip
            by_cases c70:(y66.1.2.length:Int)=(y35.1.2.length:Int)
            ·skip
             have c70N:=c70;try simp at c70N
             rw[if_pos] at q62;rotate_left
             ·simp[c34,c36,c39,eq_true c40,eq_true c40N,eq_true c43,eq_true c44,c47,c58,c58M,eq_true c67,eq_true c68,eq_true c69,eq_true c70,eq_true c70N]
             obtain⟨z71,hz71,q62⟩:=bs q62;by_cases c72:(IntKind.i64.wrap (a4)).tmod (IntKind.i64.wrap ((y35.1.1.length:Int)+1))<y63
             ·skip
              have c72N:=c72;try simp at c72N
              first | have c72M:(_=_)=True:=eq_true c72N | have c72M:=c72N
              rw[if_pos] at hz71;rotate_left
              ·simp[c34,c36,c39,eq_true c40,eq_true c40N,eq_true c43,eq_true c44,c47,c58,c58M,eq_true c67,eq_true c68,eq_true c69,eq_true c70,eq_true c70N,c72,c72M]
              obtain⟨z73,hz73,hz71⟩:=bs hz71;obtain rfl:=Option.some.inj hz73;obtain rfl:=Option.some.inj hz71;refine Zd rfl (by simp[c34,c36,c39,eq_true c40,eq_true c40N,eq_true c43,eq_true c44,c47,c58,c58M,eq_true c67,eq_true c68,eq_true c69,eq_true c70,eq_true c70N,c72,c72M] <;> rfl) ?_;refine Zaf ?_;obtain rfl:=Option.some.inj q62;simp[YW,c34,c36,c39,eq_true c40,eq_true c40N,eq_true c43,eq_true c44,c47,c58,c58M,eq_true c67,eq_true c68,eq_true c69,eq_true c70,eq_true c70N,c72,c72M,c58N,c72N]
             ·skip
              have c72N:=c72;try simp at c72N
              first | have c72M:(_=_)=True:=eq_true c72N | have c72M:=c72N
              rw[if_neg] at hz71;rotate_left
              ·simp[c34,c36,c39,eq_true c40,eq_true c40N,eq_true c43,eq_true c44,c47,c58,c58M,eq_true c67,eq_true c68,eq_true c69,eq_true c70,eq_true c70N,c72,c72M]
              obtain⟨z74,hz74,hz71⟩:=bs hz71;obtain⟨y75,hy75,hz74⟩:=bs hz74;have ehy75:=K13.q2 hy75;simp only[K13,kS,nf,nfs,Yp] at ehy75;obtain rfl:=Option.some.inj hz74;obtain rfl:=Option.some.inj hz71;refine Zd rfl (by simp[hO,hT13,ehy75,c34,c36,c39,eq_true c40,eq_true c40N,eq_true c43,eq_true c44,c47,c58,c58M,eq_true c67,eq_true c68,eq_true c69,eq_true c70,eq_true c70N,c72,c72M] <;> rfl) ?_;refine Zaf ?_;obtain rfl:=Option.some.inj q62;simp[YW,hO,hT13,ehy75,c34,c36,c39,eq_true c40,eq_true c40N,eq_true c43,eq_true c44,c47,c58,c58M,eq_true c67,eq_true c68,eq_true c69,eq_true c70,eq_true c70N,c72,c72M,c58N,c72N]
            ·skip
             have c70N:=c70;try simp at c70N
             first | have c70M:(_=_)=True:=eq_true c70N | have c70M:=c70N
             rw[if_neg] at q62;rotate_left
             ·simp[c34,c36,c39,eq_true c40,eq_true c40N,eq_true c43,eq_true c44,c47,c58,c58M,eq_true c67,eq_true c68,eq_true c69,c70,c70M]
             obtain⟨z76,hz76,q62⟩:=bs q62;obtain rfl:=Option.some.inj hz76;refine Zd rfl (by simp[c34,c36,c39,eq_true c40,eq_true c40N,eq_true c43,eq_true c44,c47,c58,c58M,eq_true c67,eq_true c68,eq_true c69,c70,c70M] <;> rfl) ?_;refine Zaf ?_;obtain rfl:=Option.some.inj q62;simp[YW,c34,c36,c39,eq_true c40,eq_true c40N,eq_true c43,eq_true c44,c47,c58,c58M,eq_true c67,eq_true c68,eq_true c69,c70,c70M,c58N,c70N]
           ·skip
            rw[if_neg] at q62;rotate_left
            ·simp[c34,c36,c39,eq_true c40,eq_true c40N,eq_true c43,eq_true c44,c47,c58,c58M,eq_true c67,eq_true c68,c69]
            obtain⟨z77,hz77,q62⟩:=bs q62;obtain rfl:=Option.some.inj hz77;refine Zd rfl (by simp[c34,c36,c39,eq_true c40,eq_true c40N,eq_true c43,eq_true c44,c47,c58,c58M,eq_true c67,eq_true c68,c69] <;> rfl) ?_;refine Zaf ?_;obtain rfl:=Option.some.inj q62;simp[YW,c34,c36,c39,eq_true c40,eq_true c40N,eq_true c43,eq_true c44,c47,c58,c58M,eq_true c67,eq_true c68,c69,c58N]
          ·skip
           rw[if_neg] at q62;rotate_left
           ·simp[c34,c36,c39,eq_true c40,eq_true c40N,eq_true c43,eq_true c44,c47,c58,c58M,eq_true c67,c68]
           obtain⟨z78,hz78,q62⟩:=bs q62;obtain rfl:=Option.some.inj hz78;refine Zd rfl (by simp[c34,c36,c39,eq_true c40,eq_true c40N,eq_true c43,eq_true c44,c47,c58,c58M,eq_true c67,c68] <;> rfl) ?_;refine Zaf ?_;obtain rfl:=Option.some.inj q62;simp[YW,c34,c36,c39,eq_true c40,eq_true c40N,eq_true c43,eq_true c44,c47,c58,c58M,eq_true c67,c68,c58N]
         ·skip
          rw[if_neg] at q62;rotate_left
          ·simp[c34,c36,c39,eq_true c40,eq_true c40N,eq_true c43,eq_true c44,c47,c58,c58M,c67]
          obtain⟨z79,hz79,q62⟩:=bs q62;obtain rfl:=Option.some.inj hz79;refine Zd rfl (by simp[c34,c36,c39,eq_true c40,eq_true c40N,eq_true c43,eq_true c44,c47,c58,c58M,c67] <;> rfl) ?_;refine Zaf ?_;obtain rfl:=Option.some.inj q62;simp[YW,c34,c36,c39,eq_true c40,eq_true c40N,eq_true c43,eq_true c44,c47,c58,c58M,c67,c58N]
       ·skip
        rw[if_pos] at hr;rotate_left
        ·simp[c34,c36,c39,eq_true c40,eq_true c40N,eq_true c43,eq_true c44,c47]
        refine ZC (by simp[bV,c34,c36,c39,eq_true c40,eq_true c40N,eq_true c43,eq_true c44,c47]) ?_;refine ZH ?_;refine Zd rfl (by simp[c34,c36,c39,eq_true c40,eq_true c40N,eq_true c43,eq_true c44,c47]; rfl) ?_;refine ZaO ?_;obtain rfl:=Option.some.inj hr;simp[YW,c34,c36,c39,eq_true c40,eq_true c40N,eq_true c43,eq_true c44,c47]
      ·skip
       rw[if_pos] at hr;rotate_left
       ·simp[c34,c36,c39,eq_true c40,eq_true c40N,eq_true c43,c44]
       obtain⟨z80,hz80,hr⟩:=bs hr;obtain rfl:=Option.some.inj hz80;refine Zd rfl (by simp[c34,c36,c39,eq_true c40,eq_true c40N,eq_true c43,c44]; rfl) ?_;rw[if_pos] at hr;rotate_left
       ·simp[c34,c36,c39,eq_true c40,eq_true c40N,eq_true c43,c44]
       refine ZC (by simp[bV,c34,c36,c39,eq_true c40,eq_true c40N,eq_true c43,c44]) ?_;refine ZH ?_;refine Zd rfl (by simp[c34,c36,c39,eq_true c40,eq_true c40N,eq_true c43,c44]; rfl) ?_;refine ZaO ?_;obtain rfl:=Option.some.inj hr;simp[YW,c34,c36,c39,eq_true c40,eq_true c40N,eq_true c43,c44]
     ·skip
      rw[if_pos] at hr;rotate_left
      ·simp[c34,c36,c39,eq_true c40,eq_true c40N,c43]
      obtain⟨z81,hz81,hr⟩:=bs hr;obtain rfl:=Option.some.inj hz81;refine Zd rfl (by simp[c34,c36,c39,eq_true c40,eq_true c40N,c43]; rfl) ?_;rw[if_pos] at hr;rotate_left
      ·simp[c34,c36,c39,eq_true c40,eq_true c40N,c43]
      refine ZC (by simp[bV,c34,c36,c39,eq_true c40,eq_true c40N,c43]) ?_;refine ZH ?_;refine Zd rfl (by simp[c34,c36,c39,eq_true c40,eq_true c40N,c43]; rfl) ?_;refine ZaO ?_;obtain rfl:=Option.some.inj hr;simp[YW,c34,c36,c39,eq_true c40,eq_true c40N,c43]
    ·skip
     have c40N:=c40;try simp at c40N
     first | have c40M:(_=_)=True:=eq_true c40N | have c40M:=c40N
     rw[if_pos] at hr;rotate_left
     ·simp[c34,c36,c39,c40,c40M]
     refine ZC (by simp[bV,c34,c36,c39,c40,c40M]) ?_;refine ZH ?_;refine Zd rfl (by simp[c34,c36,c39,c40,c40M] <;> rfl) ?_;refine ZaO ?_;obtain rfl:=Option.some.inj hr;simp[YW,c34,c36,c39,c40,c40M,c40N]
   ·skip
    refine Zd rfl (by simp[hO,hT10,ehy38,c34,c36,c39]; rfl) ?_;rw[if_pos] at hr;rotate_left
    ·simp[c34,c36,c39]
    refine ZC (by simp[bV,c34,c36,c39]) ?_;refine ZH ?_;refine Zd rfl (by simp[c34,c36,c39]; rfl) ?_;refine ZaO ?_;obtain rfl:=Option.some.inj hr;simp[YW,c34,c36,c39]
  ·skip
   rw[if_pos] at hr;rotate_left
   ·simp[c34,c36]
   obtain⟨z82,hz82,hr⟩:=bs hr;obtain rfl:=Option.some.inj hz82;refine Zd rfl (by simp[c34,c36]; rfl) ?_;rw[if_pos] at hr;rotate_left
   ·simp[c34,c36]
   refine ZC (by simp[bV,c34,c36]) ?_;refine ZH ?_;refine Zd rfl (by simp[c34,c36]; rfl) ?_;refine ZaO ?_;obtain rfl:=Option.some.inj hr;simp[YW,c34,c36]
 ·skip
  rw[if_pos c34] at hr;refine ZC (by simp[bV,c34]) ?_;refine ZH ?_;refine Zd rfl (by simp[c34]; rfl) ?_;refine ZaO ?_;obtain rfl:=Option.some.inj hr;simp[YW,c34]
end Go.Proofs.YtcfpmbefhfbdjaaGreatDoor
