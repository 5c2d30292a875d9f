import Derived.Test.YthpkpciceodioaaGreatDoorLfK
import Derived.Test.YthpkpciceodioaaGreatDoorCode
import Derived.Test.YthpkpciceodioaaGreatDoorBl
namespace Go.Proofs.YthpkpciceodioaaGreatDoor
open Go.RowKit
open Go.Av
open Go.Lc
set_option maxRecDepth 100000
set_option linter.unusedSimpArgs false
set_option linter.unusedVariables false
set_option maxHeartbeats 4000000
def kp6:Keep:=fun i=>if i=7 then⟨[0,2,30,31,32],[28],[]⟩ else if i=11 then⟨[0,2,9,10,30,31,32,44,45,46],[9,10,28,44],[]⟩ else if i=17 then⟨[0,2,9,10,13,14,30,31,32,44,45,46,63,64,65],[9,10,28,44],[]⟩ else if i=20 then⟨[0,2,9,10,13,14,30,31,32,44,45,46,63,64,65,70,71,72],[9,10,28,44],[]⟩ else⟨[],[],[]⟩
theorem w6 {T:Tab}(hO:T.own=fun _=>[]) (hT9:T 9=some K9.G) (hT11:T 11=some K11.G) (hT18:T 18=some K18.G) (hT20:T 20=some K20.G) (hT21:T 21=some K21.G) (hT22:T 22=some K22.G) (hT24:T 24=some K24.G) (hT25:T 25=some K25.G) (a0:Int) (a1:(List Int)) (a2:(List Int)) (x:Bool) (hr:Y6 a0 a1 a2=some x):∃ kp fl n,ZO tt T G kp fl n Tryz.f6 (E6 (a0,a1,a2))=some (R6 (a0,a1,a2) x):=by
 simp only[E6,R6];refine fnE (kp:=kp6) (w:=false) body6 (by simp) ?_;unfold c6;rw[Tryz.ntmps6];unfold Y6 at hr;refine Ze rfl (by simp[]; rfl) ?_;refine ZT ?_;obtain⟨y583,hy583,hr⟩:=bs hr;have ehy583:=K9.q0 hy583;simp only[K9,kS,nf,nfs] at ehy583;refine Ze rfl (by simp[hO,hT9,ehy583]; rfl) ?_;by_cases c584:y583=true
 ·skip
  rw[if_neg (not_not_intro c584)] at hr;refine ZE (by simp[bV,c584]) ?_;refine ZL ?_;refine ZT ?_;refine Ze rfl (by simp[c584]; rfl) ?_;by_cases c585:100<(a2.length:Int)
  ·skip
   have c585N:=c585;try simp at c585N
   first | have c585M:(_=_)=True:=eq_true c585N | have c585M:=c585N
   rw[if_pos c585] at hr;refine ZJ (by simp[bV,c584,c585,c585M]) ?_;refine ZT ?_;refine Ze rfl (by simp[c584,c585,c585M] <;> rfl) ?_;refine ZeV ?_;obtain rfl:=Option.some.inj hr;simp[XT,c584,c585,c585M,c585N]
  ·skip
   have c585N:=c585;try simp at c585N
   first | have c585M:(_=_)=True:=eq_true c585N | have c585M:=c585N
   rw[if_neg c585] at hr;refine ZE (by simp[bV,c584,c585,c585M]) ?_;refine ZL ?_;obtain⟨y586,hy586,hr⟩:=bs hr;have ehy586:=K21.q2 hy586;simp only[K21,kS,nf,nfs] at ehy586;obtain⟨y587,hy587,hr⟩:=bs hr;have ehy587:=K20.q2 hy587;simp only[K20,kS,nf,nfs] at ehy587;refine Ze rfl (by simp[hO,hT21,ehy586,hT20,ehy587,c584,c585,c585M] <;> rfl) ?_;refine ZT ?_;refine Ze rfl (by simp[c584,c585,c585M] <;> rfl) ?_;refine ZG ?_;refine XU (kq:=⟨[0,2,30,31,32],[28],[]⟩) (H:=fun(s:Int)=>match s with | p265=>(⟨([.one (.v (.int .u8 a0))]++(und 1++([.one (.slice .no (Zf .u8 a2))]++(und 27++([.one (.ms 28 0 0 (y587.2.1.length) 69),.one (.v (.int .i64 (y587.2.1.length:Int))),.one (.v (.int .i64 p265))]++(und 60))))):List PV),([(28,⟨0,69,List.map Yo y587.2.1,false,true⟩)]:Boxes)⟩:ASt)) (by kernel_rfl) hr (by simp[und,List.replicate,c584,c585,c585M]) ?_;rintro p265 x715r hr715
   simp only[ZaQ] at hr715;unfold b6_1;simp only[und,List.replicate,List.cons_append,List.nil_append];refine Ze rfl (by simp[c584,c585,c585M] <;> rfl) ?_;by_cases c716:p265<(y587.2.1.length:Int)
   ·skip
    have c716N:=c716;try simp at c716N
    first | have c716M:(_=_)=True:=eq_true c716N | have c716M:=c716N
    rw[if_pos] at hr715;rotate_left
    ·simp[c584,c585,c585M,c716,c716M]
    refine ZJ (by simp[bV,c584,c585,c585M,c716,c716M]) ?_;refine ZL ?_;refine ZG ?_;obtain⟨j717,hj717,hr715⟩:=bs hr715;obtain⟨j717a,j717b,j717c⟩:=Yy hj717;obtain⟨x718,hx718,hr715⟩:=bs hr715;have ghx718:=YC hx718;refine Ze rfl (by simp[j717a,j717b,j717c,hx718,ghx718,c584,c585,c585M,c716,c716M] <;> rfl) ?_;obtain⟨y719,hy719,hr715⟩:=bs hr715;have ehy719:=K11.q1 hy719;simp only[K11,kS,nf,nfs] at ehy719;refine Ze rfl (by simp[hO,hT11,ehy719,c584,c585,c585M,c716,c716M] <;> rfl) ?_;obtain⟨y720,hy720,hr715⟩:=bs hr715;have ehy720:=K24.q1 hy720;simp only[K24,kS,nf,nfs] at ehy720;refine Ze rfl (by simp[hO,hT24,ehy720,List.range,List.range.loop,c584,c585,c585M,c716,c716M] <;> rfl) ?_;refine ZdZ ?_;refine XU (kq:=⟨[0,2,9,10,30,31,32,44,45,46],[9,10,28,44],[]⟩) (H:=fun(s:Int)=>match s with | p483=>(⟨([.one (.v (.int .u8 a0))]++(und 1++([.one (.slice .no (Zf .u8 a2))]++(und 6++([.ptr 9 0 0 0 69,.ptr 10 0 0 0 2]++(und 19++([.one (.ms 28 0 0 (y587.2.1.length) 69),.one (.v (.int .i64 (y587.2.1.length:Int))),.one (.v (.int .i64 p265))]++(und 11++([.one (.ms 44 0 0 (2) 1),.one (.v (.int .i64 (2:Int))),.one (.v (.int .i64 p483))]++(und 46))))))))):List PV),([(9,⟨0,69,[(.v (.int .u32 x718.1.1)) :: ((arC .u8 x718.1.2.1)++((arC .u8 x718.1.2.2.1)++((.v (.int .u32 x718.1.2.2.2.1)) :: ((.v (.int .u32 x718.1.2.2.2.2.1)) :: ((.v (.int .u32 x718.1.2.2.2.2.2)) :: ((.slice .no (List.map ZR x718.2)) :: []))))))],false,false⟩),(10,⟨0,2,[[.v (.int .i64 y719.1.1),.slice .no (Zf .u8 y719.1.2)]],false,false⟩),(28,⟨0,69,List.map Yo y587.2.1,false,true⟩),(44,⟨0,1,List.map YQ [a2,y720],false,true⟩)]:Boxes)⟩:ASt)) (by kernel_rfl) hr715 (by simp[und,List.replicate,c584,c585,c585M,c716,c716M]) ?_;rintro p483 x781r hr781
    simp only[XP] at hr781;unfold b6_2;simp only[und,List.replicate,List.cons_append,List.nil_append];refine Ze rfl (by simp[c584,c585,c585M,c716,c716M] <;> rfl) ?_;by_cases c782:p483<(2:Int)
    ·skip
     rw[if_pos] at hr781;rotate_left
     ·simp[c584,c585,c585M,c716,c716M,c782]
     refine ZJ (by simp[bV,c584,c585,c585M,c716,c716M,c782]) ?_;refine ZL ?_;refine ZG ?_;obtain⟨j783,hj783,hr781⟩:=bs hr781;obtain⟨j783a,j783b,j783c⟩:=Yy hj783;have j783d:j783≤1:=by omega
     obtain⟨x784,hx784,hr781⟩:=bs hr781;have ghx784:=YC hx784;have mhx784:(List.map YQ ([a2,y720]))[j783]? = some (YQ x784):=by rw[List.getElem?_map,hx784]; rfl
     simp only[List.map_cons,List.map_nil,List.map_take,List.map_drop,ZiN,ZnO,Zww,ZtQ,Zvd,YQ] at mhx784;have mghx784:=YC mhx784;refine Ze rfl (by simp[j783a,j783b,j783c,j783d,hx784,ghx784,mhx784,mghx784,c584,c585,c585M,c716,c716M,c782] <;> rfl) ?_;obtain⟨y785,hy785,hr781⟩:=bs hr781;have ehy785:=K22.q1 hy785;simp only[K22,kS,nf,nfs] at ehy785;obtain⟨y786,hy786,hr781⟩:=bs hr781;have ehy786:=K18.q3 hy786;simp only[K18,kS,nf,nfs] at ehy786;refine Y8 rfl (by simp[hO,hT22,ehy785,hT18,ehy786,c584,c585,c585M,c716,c716M,c782]; first | exact⟨rfl,rfl⟩ | rfl) (by kernel_rfl) ?_;refine ZT ?_;refine Ze rfl (by simp[c584,c585,c585M,c716,c716M,c782] <;> rfl) ?_;by_cases c787:y786.2=0
     ·skip
      rw[if_neg (not_not_intro c787)] at hr781;refine ZE (by simp[bV,c584,c585,c585M,c716,c716M,c782,eq_true c787]) ?_;refine ZL ?_;refine Ze rfl (by simp[c584,c585,c585M,c716,c716M,c782,eq_true c787] <;> rfl) ?_;refine ZdZ ?_;refine XU (kq:=⟨[0,2,9,10,13,14,30,31,32,44,45,46,63,64,65],[9,10,28,44],[]⟩) (H:=fun(s:Int)=>match s with | p555=>(⟨([.one (.v (.int .u8 a0))]++(und 1++([.one (.slice .no (Zf .u8 a2))]++(und 6++([.ptr 9 0 0 0 69,.ptr 10 0 0 0 2]++(und 2++([.one (.slice .no (Zf .u8 x784)),.one (.v (.bool y786.1))]++(und 15++([.one (.ms 28 0 0 (y587.2.1.length) 69),.one (.v (.int .i64 (y587.2.1.length:Int))),.one (.v (.int .i64 p265))]++(und 11++([.one (.ms 44 0 0 (2) 1),.one (.v (.int .i64 (2:Int))),.one (.v (.int .i64 p483))]++(und 16++([.one (.slice .no (List.map ZR x718.2)),.one (.v (.int .i64 (x718.2.length:Int))),.one (.v (.int .i64 p555))]++(und 27))))))))))))):List PV),([(9,⟨0,69,[(.v (.int .u32 x718.1.1)) :: ((arC .u8 x718.1.2.1)++((arC .u8 x718.1.2.2.1)++((.v (.int .u32 x718.1.2.2.2.1)) :: ((.v (.int .u32 x718.1.2.2.2.2.1)) :: ((.v (.int .u32 x718.1.2.2.2.2.2)) :: ((.slice .no (List.map ZR x718.2)) :: []))))))],false,false⟩),(10,⟨0,2,[[.v (.int .i64 y719.1.1),.slice .no (Zf .u8 y719.1.2)]],false,false⟩),(28,⟨0,69,List.map Yo y587.2.1,false,true⟩),(44,⟨0,1,List.map YQ [a2,y720],false,true⟩)]:Boxes)⟩:ASt)) (by kernel_rfl) hr781 (by simp[und,List.replicate,c584,c585,c585M,c716,c716M,c782,eq_true c787]) ?_;rintro p555 x814r hr814
      simp only[XO] at hr814;unfold b6_3;simp only[und,List.replicate,List.cons_append,List.nil_append];refine Ze rfl (by simp[c584,c585,c585M,c716,c716M,c782,eq_true c787] <;> rfl) ?_;by_cases c815:p555<(x718.2.length:Int)
      ·skip
       have c815N:=c815;try simp at c815N
       first | have c815M:(_=_)=True:=eq_true c815N | have c815M:=c815N
       rw[if_pos] at hr814;rotate_left
       ·simp[c584,c585,c585M,c716,c716M,c782,eq_true c787,c815,c815M]
       refine ZJ (by simp[bV,c584,c585,c585M,c716,c716M,c782,eq_true c787,c815,c815M]) ?_;refine ZL ?_;refine ZG ?_;obtain⟨x816,hx816,hr814⟩:=bs hr814;obtain⟨hx816a,hx816b⟩:=ZcY hx816;have hx816c:=YC hx816b;refine Ze rfl (by simp[hx816a,hx816b,hx816c,c584,c585,c585M,c716,c716M,c782,eq_true c787,c815,c815M] <;> rfl) ?_;refine Ze rfl (by simp[c584,c585,c585M,c716,c716M,c782,eq_true c787,c815,c815M] <;> rfl) ?_;refine ZdZ ?_;refine XU (kq:=⟨[0,2,9,10,13,14,30,31,32,44,45,46,63,64,65,70,71,72],[9,10,28,44],[]⟩) (H:=fun(s:Int)=>match s with | p576=>(⟨([.one (.v (.int .u8 a0))]++(und 1++([.one (.slice .no (Zf .u8 a2))]++(und 6++([.ptr 9 0 0 0 69,.ptr 10 0 0 0 2]++(und 2++([.one (.slice .no (Zf .u8 x784)),.one (.v (.bool y786.1))]++(und 15++([.one (.ms 28 0 0 (y587.2.1.length) 69),.one (.v (.int .i64 (y587.2.1.length:Int))),.one (.v (.int .i64 p265))]++(und 11++([.one (.ms 44 0 0 (2) 1),.one (.v (.int .i64 (2:Int))),.one (.v (.int .i64 p483))]++(und 16++([.one (.slice .no (List.map ZR x718.2)),.one (.v (.int .i64 (x718.2.length:Int))),.one (.v (.int .i64 p555))]++(und 4++([.one (.slice .no (List.map YY x816.2.2.1)),.one (.v (.int .i64 (x816.2.2.1.length:Int))),.one (.v (.int .i64 p576))]++(und 20))))))))))))))):List PV),([(9,⟨0,69,[(.v (.int .u32 x718.1.1)) :: ((arC .u8 x718.1.2.1)++((arC .u8 x718.1.2.2.1)++((.v (.int .u32 x718.1.2.2.2.1)) :: ((.v (.int .u32 x718.1.2.2.2.2.1)) :: ((.v (.int .u32 x718.1.2.2.2.2.2)) :: ((.slice .no (List.map ZR x718.2)) :: []))))))],false,false⟩),(10,⟨0,2,[[.v (.int .i64 y719.1.1),.slice .no (Zf .u8 y719.1.2)]],false,false⟩),(28,⟨0,69,List.map Yo y587.2.1,false,true⟩),(44,⟨0,1,List.map YQ [a2,y720],false,true⟩)]:Boxes)⟩:ASt)) (by kernel_rfl) hr814 (by simp[und,List.replicate,c584,c585,c585M,c716,c716M,c782,eq_true c787,c815,c815M]) ?_;rintro p576 x828r hr828
       simp only[XN] at hr828;unfold b6_4;simp only[und,List.replicate,List.cons_append,List.nil_append];refine Ze rfl (by simp[c584,c585,c585M,c716,c716M,c782,eq_true c787,c815,c815M] <;> rfl) ?_;by_cases c829:p576<(x816.2.2.1.length:Int)
       ·skip
        have c829N:=c829;try simp at c829N
        first | have c829M:(_=_)=True:=eq_true c829N | have c829M:=c829N
        rw[if_pos] at hr828;rotate_left
        ·simp[c584,c585,c585M,c716,c716M,c782,eq_true c787,c815,c815M,c829,c829M]
        refine ZJ (by simp[bV,c584,c585,c585M,c716,c716M,c782,eq_true c787,c815,c815M,c829,c829M]) ?_;refine ZL ?_;refine ZG ?_;obtain⟨x830,hx830,hr828⟩:=bs hr828;obtain⟨hx830a,hx830b⟩:=ZcY hx830;have hx830c:=YC hx830b;refine Ze rfl (by simp[hx830a,hx830b,hx830c,c584,c585,c585M,c716,c716M,c782,eq_true c787,c815,c815M,c829,c829M] <;> rfl) ?_;by_cases c831:y786.1=true
        ·skip
         rw[if_neg] at hr828;rotate_left
         ·simp[c584,c585,c585M,c716,c716M,c782,eq_true c787,c815,c815M,c829,c829M,c831]
         obtain⟨z832,hz832,hr828⟩:=bs hr828;obtain rfl:=Option.some.inj hz832;refine Ze rfl (by simp[c584,c585,c585M,c716,c716M,c782,eq_true c787,c815,c815M,c829,c829M,c831] <;> rfl) ?_;rw[if_neg] at hr828;rotate_left
         ·simp[c584,c585,c585M,c716,c716M,c782,eq_true c787,c815,c815M,c829,c829M,c831]
         refine ZeW (by simp[bV,c584,c585,c585M,c716,c716M,c782,eq_true c787,c815,c815M,c829,c829M,c831]) ?_;refine Zgz ?_;simp only[pq,reduceCtorEq];refine XC rfl (by simp[c584,c585,c585M,c716,c716M,c782,eq_true c787,c815,c815M,c829,c829M,c831] <;> rfl) ?_;obtain rfl:=Option.some.inj hr828;simp only[pq,reduceCtorEq];simp[und,List.replicate,Nat.add_assoc,c584,c585,c585M,c716,c716M,c782,eq_true c787,c815,c815M,c829,c829M,c831]
        ·skip
         by_cases c833:0<(x784.length:Int)
         ·skip
          have c833N:=c833;try simp at c833N
          first | have c833M:(_=_)=True:=eq_true c833N | have c833M:=c833N
          rw[if_pos] at hr828;rotate_left
          ·simp[c584,c585,c585M,c716,c716M,c782,eq_true c787,c815,c815M,c829,c829M,c831,c833,c833M]
          obtain⟨z834,hz834,hr828⟩:=bs hr828;obtain⟨y835,hy835,hz834⟩:=bs hz834;have ehy835:=K25.q2 hy835;simp only[K25,kS,nf,nfs] at ehy835;obtain rfl:=Option.some.inj hz834;refine Ze rfl (by simp[hO,hT25,ehy835,c584,c585,c585M,c716,c716M,c782,eq_true c787,c815,c815M,c829,c829M,c831,c833,c833M] <;> rfl) ?_;by_cases c836:y835=true
          ·skip
           rw[if_pos] at hr828;rotate_left
           ·simp[c584,c585,c585M,c716,c716M,c782,eq_true c787,c815,c815M,c829,c829M,c831,c833,c833M,c836]
           refine ZhE (by simp[bV,c584,c585,c585M,c716,c716M,c782,eq_true c787,c815,c815M,c829,c829M,c831,c833,c833M,c836]) ?_;refine Ze rfl (by simp[c584,c585,c585M,c716,c716M,c782,eq_true c787,c815,c815M,c829,c829M,c831,c833,c833M,c836] <;> rfl) ?_;refine Zcg ?_;obtain rfl:=Option.some.inj hr828;simp only[pq,reduceCtorEq];rintro rfl
           simp only[pq,reduceCtorEq];rintro rfl
           simp only[pq,reduceCtorEq];rintro rfl
           simp only[pq,reduceCtorEq];rintro rfl
           simp[XT,c584,c585,c585M,c716,c716M,c782,eq_true c787,c815,c815M,c829,c829M,c831,c833,c833M,c836,c585N,c716N,c815N,c829N,c833N]
          ·skip
           rw[if_neg] at hr828;rotate_left
           ·simp[c584,c585,c585M,c716,c716M,c782,eq_true c787,c815,c815M,c829,c829M,c831,c833,c833M,c836]
           refine ZeW (by simp[bV,c584,c585,c585M,c716,c716M,c782,eq_true c787,c815,c815M,c829,c829M,c831,c833,c833M,c836]) ?_;refine Zgz ?_;simp only[pq,reduceCtorEq];refine XC rfl (by simp[c584,c585,c585M,c716,c716M,c782,eq_true c787,c815,c815M,c829,c829M,c831,c833,c833M,c836] <;> rfl) ?_;obtain rfl:=Option.some.inj hr828;simp only[pq,reduceCtorEq];simp[und,List.replicate,Nat.add_assoc,c584,c585,c585M,c716,c716M,c782,eq_true c787,c815,c815M,c829,c829M,c831,c833,c833M,c836]
         ·skip
          have c833N:=c833;try simp at c833N
          first | have c833M:(_=_)=True:=eq_true c833N | have c833M:=c833N
          have c833L:¬ 0<x784.length:=by omega
          rw[if_neg] at hr828;rotate_left
          ·simp[c584,c585,c585M,c716,c716M,c782,eq_true c787,c815,c815M,c829,c829M,c831,c833,c833M,c833L]
          obtain⟨z837,hz837,hr828⟩:=bs hr828;obtain rfl:=Option.some.inj hz837;refine Ze rfl (by simp[c584,c585,c585M,c716,c716M,c782,eq_true c787,c815,c815M,c829,c829M,c831,c833,c833M,c833L] <;> rfl) ?_;rw[if_neg] at hr828;rotate_left
          ·simp[c584,c585,c585M,c716,c716M,c782,eq_true c787,c815,c815M,c829,c829M,c831,c833,c833M,c833L]
          refine ZeW (by simp[bV,c584,c585,c585M,c716,c716M,c782,eq_true c787,c815,c815M,c829,c829M,c831,c833,c833M,c833L]) ?_;refine Zgz ?_;simp only[pq,reduceCtorEq];refine XC rfl (by simp[c584,c585,c585M,c716,c716M,c782,eq_true c787,c815,c815M,c829,c829M,c831,c833,c833M,c833L] <;> rfl) ?_;obtain rfl:=Option.some.inj hr828;simp only[pq,reduceCtorEq];simp[und,List.replicate,Nat.add_assoc,c584,c585,c585M,c716,c716M,c782,eq_true c787,c815,c815M,c829,c829M,c831,c833,c833M,c833L]
       ·skip
        have c829N:=c829;try simp at c829N
        first | have c829M:(_=_)=True:=eq_true c829N | have c829M:=c829N
        rw[if_neg] at hr828;rotate_left
        ·simp[c584,c585,c585M,c716,c716M,c782,eq_true c787,c815,c815M,c829,c829M]
        refine ZE (by simp[bV,c584,c585,c585M,c716,c716M,c782,eq_true c787,c815,c815M,c829,c829M]) ?_;refine Ym ?_;obtain⟨r838,q838,rfl⟩:=ms hr828;simp only[pq,reduceCtorEq];rintro rfl
        try simp only[pq,reduceCtorEq]
        unfold Zdo at q838;refine XC rfl (by simp[c584,c585,c585M,c716,c716M,c782,eq_true c787,c815,c815M,c829,c829M] <;> rfl) ?_;obtain rfl:=Option.some.inj q838;simp only[pq,reduceCtorEq];simp[und,List.replicate,Nat.add_assoc,c584,c585,c585M,c716,c716M,c782,eq_true c787,c815,c815M,c829,c829M]
      ·skip
       have c815N:=c815;try simp at c815N
       first | have c815M:(_=_)=True:=eq_true c815N | have c815M:=c815N
       rw[if_neg] at hr814;rotate_left
       ·simp[c584,c585,c585M,c716,c716M,c782,eq_true c787,c815,c815M]
       refine ZE (by simp[bV,c584,c585,c585M,c716,c716M,c782,eq_true c787,c815,c815M]) ?_;refine Ym ?_;obtain⟨r839,q839,rfl⟩:=ms hr814;simp only[pq,reduceCtorEq];rintro rfl
       try simp only[pq,reduceCtorEq]
       unfold Zdn at q839;refine XC rfl (by simp[c584,c585,c585M,c716,c716M,c782,eq_true c787,c815,c815M] <;> rfl) ?_;obtain rfl:=Option.some.inj q839;simp only[pq,reduceCtorEq];simp[und,List.replicate,Nat.add_assoc,c584,c585,c585M,c716,c716M,c782,eq_true c787,c815,c815M]
     ·skip
      rw[if_pos c787] at hr781;refine ZJ (by simp[bV,c584,c585,c585M,c716,c716M,c782,c787]) ?_;refine ZT ?_;refine Ze rfl (by simp[c584,c585,c585M,c716,c716M,c782,c787] <;> rfl) ?_;refine ZeV ?_;obtain rfl:=Option.some.inj hr781;simp only[pq,reduceCtorEq];rintro rfl
      simp only[pq,reduceCtorEq];rintro rfl
      simp[XT,c584,c585,c585M,c716,c716M,c782,c787,c585N,c716N]
    ·skip
     rw[if_neg] at hr781;rotate_left
     ·simp[c584,c585,c585M,c716,c716M,c782]
     refine ZE (by simp[bV,c584,c585,c585M,c716,c716M,c782]) ?_;refine Ym ?_;obtain⟨r840,q840,rfl⟩:=ms hr781;simp only[pq,reduceCtorEq];rintro rfl
     try simp only[pq,reduceCtorEq]
     unfold Zdm at q840;refine XC rfl (by simp[c584,c585,c585M,c716,c716M,c782] <;> rfl) ?_;obtain rfl:=Option.some.inj q840;simp only[pq,reduceCtorEq];simp[und,List.replicate,Nat.add_assoc,c584,c585,c585M,c716,c716M,c782]
   ·skip
    have c716N:=c716;try simp at c716N
    first | have c716M:(_=_)=True:=eq_true c716N | have c716M:=c716N
    rw[if_neg] at hr715;rotate_left
    ·simp[c584,c585,c585M,c716,c716M]
    refine ZE (by simp[bV,c584,c585,c585M,c716,c716M]) ?_;refine Ym ?_;obtain⟨r841,q841,rfl⟩:=ms hr715;simp only[pq,reduceCtorEq];rintro rfl
    try simp only[pq,reduceCtorEq]
    unfold Llaw20_FilterMisses_c_k1 at q841;refine Ze rfl (by simp[c584,c585,c585M,c716,c716M] <;> rfl) ?_;refine Zcg ?_;obtain rfl:=Option.some.inj q841;simp[XT,c584,c585,c585M,c716,c716M,c585N,c716N]
 ·skip
  rw[if_pos c584] at hr;refine ZJ (by simp[bV,c584]) ?_;refine ZT ?_;refine Ze rfl (by simp[c584]; rfl) ?_;refine ZeV ?_;obtain rfl:=Option.some.inj hr;simp[XT,c584]
end Go.Proofs.YthpkpciceodioaaGreatDoor
