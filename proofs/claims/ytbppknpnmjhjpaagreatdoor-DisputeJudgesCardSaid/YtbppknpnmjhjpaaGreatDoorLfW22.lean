import Derived.Test.YtbppknpnmjhjpaaGreatDoorLfK
import Derived.Test.YtbppknpnmjhjpaaGreatDoorCode
import Derived.Test.YtbppknpnmjhjpaaGreatDoorBl
namespace Go.Proofs.YtbppknpnmjhjpaaGreatDoor
open Go.RowKit
open Go.Av
open Go.Lc
set_option maxRecDepth 100000
set_option linter.unusedSimpArgs false
set_option linter.unusedVariables false
set_option maxHeartbeats 4000000
def kp3:Keep:=fun i=>if i=11 then⟨[3,4,5,12,13,14,61,62],[5,12,13,14,57],[]⟩ else if i=1000015 then⟨[3,4,5,12,13,14,61,62],[5,12,13,14,57],[]⟩ else if i=1000021 then⟨[5,12,13],[5,12,13,57],[]⟩ else⟨[],[],[]⟩
theorem w3 {T:Tab}(hO:T.own=fun _=>[]) (hT5:T 5=some K5.G) (hT6:T 6=some K6.G) (hT7:T 7=some K7.G) (hT8:T 8=some K8.G) (hT9:T 9=some K9.G) (hT10:T 10=some K10.G) (hT11:T 11=some K11.G) (hT12:T 12=some K12.G) (hT13:T 13=some K13.G) (hT14:T 14=some K14.G) (hT15:T 15=some K15.G) (a0:Tapi_Dispute) (a1:Int) (a2:(List Int)) (a3:Int) (a4:Int) (x:Bool) (hr:Xp a0 a1 a2 a3 a4=some x):∃ kp fl n,ZM tt T G kp fl n Tryz.f3 (E3 (a0,a1,a2,a3,a4))=some (R3 (a0,a1,a2,a3,a4) x):=by
 simp only[E3,R3];refine fnE (kp:=kp3) (w:=false) body3 (by simp) ?_;unfold c3;rw[Tryz.ntmps3];unfold Xp at hr;refine Ze rfl (by simp[]; rfl) ?_;refine ZK ?_;obtain⟨y51,hy51,hr⟩:=bs hr;have ehy51:=K5.q0 hy51;simp only[K5,kS,nf,nfs,Yi] at ehy51;refine Ze rfl (by simp[hO,hT5,ehy51]; rfl) ?_;by_cases c52:y51=true
 ·skip
  rw[if_neg (not_not_intro c52)] at hr;refine Zz (by simp[bV,c52]) ?_;refine ZL ?_;obtain⟨y53,hy53,hr⟩:=bs hr;have ehy53:=K7.q2 hy53;simp only[K7,kS,nf,nfs,Yi] at ehy53;obtain⟨y54,hy54,hr⟩:=bs hr;have ehy54:=K6.q2 hy54;simp only[K6,kS,nf,nfs,Yi] at ehy54;refine Ze rfl (by simp[hO,hT7,ehy53,hT6,ehy54,c52]; rfl) ?_;refine ZK ?_;by_cases c55:(y54.2.1.length:Int)=0
  ·skip
   have c55N:=c55;try simp at c55N
   rw[if_pos] at hr;rotate_left
   ·simp[c52,eq_true c55,eq_true c55N]
   obtain⟨z56,hz56,hr⟩:=bs hr;obtain rfl:=Option.some.inj hz56;refine Ze rfl (by simp[c52,eq_true c55,eq_true c55N]; rfl) ?_;rw[if_pos] at hr;rotate_left
   ·simp[c52,eq_true c55,eq_true c55N]
   refine ZH (by simp[bV,c52,eq_true c55,eq_true c55N]) ?_;refine ZK ?_;refine Ze rfl (by simp[c52,eq_true c55,eq_true c55N]; rfl) ?_;refine ZeF ?_;obtain rfl:=Option.some.inj hr;simp[Xj,c52,eq_true c55,eq_true c55N]
  ·skip
   have c55N:=c55;try simp at c55N
   first | have c55M:(_=_)=True:=eq_true c55N | have c55M:=c55N
   rw[if_neg] at hr;rotate_left
   ·simp[c52,c55,c55M]
   obtain⟨z57,hz57,hr⟩:=bs hr;obtain⟨y58,hy58,hz57⟩:=bs hz57;have ehy58:=K8.q1 hy58;simp only[K8,kS,nf,nfs,Yi] at ehy58;obtain rfl:=Option.some.inj hz57;refine Ze rfl (by simp[hO,hT8,ehy58,c52,c55,c55M] <;> rfl) ?_;by_cases c59:y58=true
   ·skip
    rw[if_neg] at hr;rotate_left
    ·simp[c52,c55,c55M,c59]
    refine Zz (by simp[bV,c52,c55,c55M,c59]) ?_;refine ZL ?_;obtain⟨j60,hj60,hr⟩:=bs hr;obtain⟨j60a,j60b,j60c⟩:=YD hj60;obtain⟨x61,hx61,hr⟩:=bs hr;have ghx61:=Z8 hx61;refine Ze rfl (by simp[j60a,j60b,j60c,hx61,ghx61,c52,c55,c55M,c59] <;> rfl) ?_;obtain⟨y62,hy62,hr⟩:=bs hr;have ehy62:=K9.q1 hy62;simp only[K9,kS,nf,nfs,Yi] at ehy62;refine Ze rfl (by simp[hO,hT9,ehy62,c52,c55,c55M,c59] <;> rfl) ?_;obtain⟨y63,hy63,hr⟩:=bs hr;have ehy63:=K10.q1 hy63;simp only[K10,kS,nf,nfs,Yi] at ehy63;refine Ze rfl (by simp[hO,hT10,ehy63,c52,c55,c55M,c59] <;> rfl) ?_;obtain⟨_,u64,hr⟩:=bs hr;have u64_0:=Zy u64;have n1_u64_0:(a0.2.2.2.length) * 40≤140737488355328:=by omega
    have n2_u64_0:a0.2.2.2.length≤9223372036854775807:=by omega
    refine Ze rfl (by simp[n1_u64_0,n2_u64_0,c52,c55,c55M,c59] <;> rfl) ?_;refine ZK ?_;refine Ze rfl (by simp[c52,c55,c55M,c59] <;> rfl) ?_;refine Zu ?_;refine Xs (kq:=⟨[3,4,5,12,13,14,61,62],[5,12,13,14,57],[]⟩) (H:=fun(s:Int×(List Tapi_Claim))=>match s with | (p25,p26)=>(⟨(und 3++([.one (.v (.int .u8 a3)),.one (.v (.int .u8 a4)),.ptr 5 0 0 0 35]++(und 6++([.ptr 12 0 0 0 69,.ptr 13 0 0 0 32,.ptr 14 0 0 0 2]++(und 46++([.one (.v (.int .i64 (a0.2.2.2.length:Int))),.one (.v (.int .i64 p25))]++(und 67)))))):List PV),([(5,⟨0,35,[(.v (.int .i64 a0.1)) :: ((.v (.int .i64 a0.2.1)) :: ((arC .u8 a0.2.2.1)++((.ms 57 0 0 (p26.length) 33) :: [])))],false,false⟩),(12,⟨0,69,[(.v (.int .u32 x61.1.1)) :: ((arC .u8 x61.1.2.1)++((arC .u8 x61.1.2.2.1)++((.v (.int .u32 x61.1.2.2.2.1)) :: ((.v (.int .u32 x61.1.2.2.2.2.1)) :: ((.v (.int .u32 x61.1.2.2.2.2.2)) :: ((.slice .no (List.map ZO x61.2)) :: []))))))],false,false⟩),(13,⟨0,32,[arC .u8 y62],false,false⟩),(14,⟨0,2,[[.v (.int .i64 y63.1.1),.slice .no (Zf .u8 y63.1.2)]],false,false⟩),(57,⟨0,33,List.map eapi_Claim p26,false,true⟩)]:Boxes)⟩:ASt)) (by kernel_rfl) hr (by simp[und,List.replicate,c52,c55,c55M,c59]) ?_;rintro⟨p25,p26⟩ x80r hr80
    simp only[Zek] at hr80;unfold b3_1;simp only[und,List.replicate,List.cons_append,List.nil_append];refine Ze rfl (by simp[c52,c55,c55M,c59] <;> rfl) ?_;by_cases c81:p25<(a0.2.2.2.length:Int)
    ·skip
     have c81N:=c81;try simp at c81N
     first | have c81M:(_=_)=True:=eq_true c81N | have c81M:=c81N
     rw[if_pos] at hr80;rotate_left
     ·simp[c52,c55,c55M,c59,c81,c81M]
     refine ZH (by simp[bV,c52,c55,c55M,c59,c81,c81M]) ?_;refine ZL ?_;refine Zu ?_;refine Ze rfl (by simp[c52,c55,c55M,c59,c81,c81M] <;> rfl) ?_;obtain⟨_,u82,hr80⟩:=bs hr80;have u82_0:=Zy u82;refine Ze rfl (by simp[u82_0,c52,c55,c55M,c59,c81,c81M] <;> rfl) ?_;refine Zod hr80 (.normal) (fun(s:(List Tapi_Claim))=>match s with | p46=>(⟨(und 3++([.one (.v (.int .u8 a3)),.one (.v (.int .u8 a4)),.ptr 5 0 0 0 35]++(und 6++([.ptr 12 0 0 0 69,.ptr 13 0 0 0 32,.ptr 14 0 0 0 2]++(und 46++([.one (.v (.int .i64 (a0.2.2.2.length:Int))),.one (.v (.int .i64 p25))]++(und 67)))))):List PV),([(5,⟨0,35,[(.v (.int .i64 a0.1)) :: ((.v (.int .i64 a0.2.1)) :: ((arC .u8 a0.2.2.1)++((.ms 57 0 0 (p46.length) 33) :: [])))],false,false⟩),(12,⟨0,69,[(.v (.int .u32 x61.1.1)) :: ((arC .u8 x61.1.2.1)++((arC .u8 x61.1.2.2.1)++((.v (.int .u32 x61.1.2.2.2.1)) :: ((.v (.int .u32 x61.1.2.2.2.2.1)) :: ((.v (.int .u32 x61.1.2.2.2.2.2)) :: ((.slice .no (List.map ZO x61.2)) :: []))))))],false,false⟩),(13,⟨0,32,[arC .u8 y62],false,false⟩),(14,⟨0,2,[[.v (.int .i64 y63.1.1),.slice .no (Zf .u8 y63.1.2)]],false,false⟩),(57,⟨0,33,List.map eapi_Claim p46,false,true⟩)]:Boxes)⟩:ASt)) (fun(s:(List Tapi_Claim))=>match s with | p46=>Zam p25 p46) ?_ ?_
     ·skip
      rintro p46 hk88
      change Zam p25 p46=_ at hk88
      simp only[pq,reduceCtorEq];simp only[und,List.replicate,List.cons_append,List.nil_append];unfold Zam at hk88;refine Zj8 rfl (kq:=⟨[3,4,5,12,13,14,61,62],[5,12,13,14,57],[]⟩) rfl (by simp[XF,c52,c55,c55M,c59,c81,c81M]; rfl) (by simp[c52,c55,c55M,c59,c81,c81M] <;> rfl) ?_;obtain rfl:=Option.some.inj hk88;simp only[pq,reduceCtorEq];simp[und,List.replicate,Nat.add_assoc,c52,c55,c55M,c59,c81,c81M]
     ·skip
      intro J88;simp only[pq,reduceCtorEq] at J88;by_cases c89:bits .and .i64 ((IntKind.i64.wrap (a3)).fdiv (2 ^ (min ((p25).tmod 8).toNat 64))) 1=1
      ·skip
       have c89N:=c89;try simp at c89N
       rw[if_pos] at hr80;rotate_left
       ·simp[c52,c55,c55M,c59,c81,c81M,eq_true c89,eq_true c89N]
       refine ZcY (by simp[bV,c52,c55,c55M,c59,c81,c81M,eq_true c89,eq_true c89N]) ?_;obtain⟨y90,hy90,hr80⟩:=bs hr80;have ehy90:=K12.q1 hy90;simp only[K12,kS,nf,nfs,Yi] at ehy90;obtain⟨y91,hy91,hr80⟩:=bs hr80;have ehy91:=K11.q2 hy91;simp only[K11,kS,nf,nfs,Yi] at ehy91;obtain⟨j92,hj92,hr80⟩:=bs hr80;obtain⟨j92a,j92b,j92c⟩:=YD hj92;obtain⟨x93,hx93,hr80⟩:=bs hr80;have ghx93:=Z8 hx93;refine ZlG rfl (by simp[hO,hT12,ehy90,hT11,ehy91,j92a,j92b,j92c,hx93,ghx93,c52,c55,c55M,c59,c81,c81M,eq_true c89,eq_true c89N]; first | exact⟨rfl,rfl⟩ | rfl) (by kernel_rfl) ?_;simp only[pq,reduceCtorEq];exact Za1 (key:=1000015) (kq:=⟨[3,4,5,12,13,14,61,62],[5,12,13,14,57],[]⟩) rfl rfl rfl (by simp[und,List.replicate,c52,c55,c55M,c59,c81,c81M,eq_true c89,eq_true c89N]) (J88 ((p26).set j92 (x93.1,y91)) hr80)
      ·skip
       have c89N:=c89;try simp at c89N
       first | have c89M:(_=_)=True:=eq_true c89N | have c89M:=c89N
       rw[if_neg] at hr80;rotate_left
       ·simp[c52,c55,c55M,c59,c81,c81M,c89,c89M]
       refine ZcZ (by simp[bV,c52,c55,c55M,c59,c81,c81M,c89,c89M]) ?_;refine ZgH ?_;simp only[pq,reduceCtorEq];exact Za1 (key:=1000015) (kq:=⟨[3,4,5,12,13,14,61,62],[5,12,13,14,57],[]⟩) rfl rfl rfl (by simp[und,List.replicate,c52,c55,c55M,c59,c81,c81M,c89,c89M]) (J88 p26 hr80)
    ·skip
     have c81N:=c81;try simp at c81N
     first | have c81M:(_=_)=True:=eq_true c81N | have c81M:=c81N
     rw[if_neg] at hr80;rotate_left
     ·simp[c52,c55,c55M,c59,c81,c81M]
     refine Zz (by simp[bV,c52,c55,c55M,c59,c81,c81M]) ?_;refine Z4 ?_;obtain⟨r94,q94,rfl⟩:=ms hr80;simp only[pq,reduceCtorEq];rintro rfl
     try simp only[pq,reduceCtorEq]
     unfold Zej at q94;refine ZK ?_;refine Ze rfl (by simp[c52,c55,c55M,c59,c81,c81M] <;> rfl) ?_;refine Zu ?_;refine Ze rfl (by simp[c52,c55,c55M,c59,c81,c81M] <;> rfl) ?_;refine Zod q94 (.normal) (fun(s:(List Tapi_Tx)×(Arr 32))=>match s with | (p34,p35)=>(⟨(und 5++([.ptr 5 0 0 0 35]++(und 6++([.ptr 12 0 0 0 69,.ptr 13 0 0 0 32]++(und 116)))):List PV),([(5,⟨0,35,[(.v (.int .i64 a0.1)) :: ((.v (.int .i64 a0.2.1)) :: ((arC .u8 a0.2.2.1)++((.ms 57 0 0 (p26.length) 33) :: [])))],false,false⟩),(12,⟨0,69,[(.v (.int .u32 x61.1.1)) :: ((arC .u8 x61.1.2.1)++((arC .u8 x61.1.2.2.1)++((.v (.int .u32 x61.1.2.2.2.1)) :: ((.v (.int .u32 x61.1.2.2.2.2.1)) :: ((.v (.int .u32 x61.1.2.2.2.2.2)) :: ((.slice .no (List.map ZO p34)) :: []))))))],false,false⟩),(13,⟨0,32,[arC .u8 p35],false,false⟩),(57,⟨0,33,List.map eapi_Claim p26,false,true⟩)]:Boxes)⟩:ASt)) (fun(s:(List Tapi_Tx)×(Arr 32))=>match s with | (p34,p35)=>Yy a0 p26 x61 p34 p35) ?_ ?_
     ·skip
      rintro⟨p34,p35⟩ hk103
      change Yy a0 p26 x61 p34 p35=_ at hk103
      simp only[pq,reduceCtorEq];simp only[und,List.replicate,List.cons_append,List.nil_append];unfold Yy at hk103;obtain⟨y104,hy104,hk103⟩:=bs hk103;have ehy104:=K13.q3 hy104;simp only[K13,kS,nf,nfs,Yi] at ehy104;refine ZgI rfl (kq:=⟨[5,12,13],[5,12,13,57],[]⟩) rfl (by simp[XF,hO,hT13,ehy104,c52,c55,c55M,c59,c81,c81M]; rfl) (by simp[hO,hT13,ehy104,c52,c55,c55M,c59,c81,c81M] <;> rfl) ?_;obtain⟨y105,hy105,hk103⟩:=bs hk103;have ehy105:=K14.q3 hy105;simp only[K14,kS,nf,nfs,Yi] at ehy105;refine Ze rfl (by simp[hO,hT14,ehy105,c52,c55,c55M,c59,c81,c81M] <;> rfl) ?_;by_cases c106:y104.1=y105.1
      ·skip
       by_cases c107:y104.2.2=y105.2.2
       ·skip
        rw[if_pos] at hk103;rotate_left
        ·simp[c52,c55,c55M,c59,c81,c81M,eq_true c106,eq_true c107]
        obtain⟨z108,hz108,hk103⟩:=bs hk103;obtain⟨y109,hy109,hz108⟩:=bs hz108;have ehy109:=K15.q2 hy109;simp only[K15,kS,nf,nfs,Yi] at ehy109;obtain rfl:=Option.some.inj hz108;refine Ze rfl (by simp[hO,hT15,ehy109,c52,c55,c55M,c59,c81,c81M,eq_true c106,eq_true c107] <;> rfl) ?_;refine Za0 ?_;obtain rfl:=Option.some.inj hk103;simp[Xj,hO,hT15,ehy109,c52,c55,c55M,c59,c81,c81M,eq_true c106,eq_true c107,c55N,c81N]
       ·skip
        rw[if_neg] at hk103;rotate_left
        ·simp[c52,c55,c55M,c59,c81,c81M,eq_true c106,c107]
        obtain⟨z110,hz110,hk103⟩:=bs hk103;obtain rfl:=Option.some.inj hz110;refine Ze rfl (by simp[c52,c55,c55M,c59,c81,c81M,eq_true c106,c107] <;> rfl) ?_;refine Za0 ?_;obtain rfl:=Option.some.inj hk103;simp[Xj,c52,c55,c55M,c59,c81,c81M,eq_true c106,c107,c55N,c81N]
      ·skip
       rw[if_neg] at hk103;rotate_left
       ·simp[c52,c55,c55M,c59,c81,c81M,c106]
       obtain⟨z111,hz111,hk103⟩:=bs hk103;obtain rfl:=Option.some.inj hz111;refine Ze rfl (by simp[c52,c55,c55M,c59,c81,c81M,c106] <;> rfl) ?_;refine Za0 ?_;obtain rfl:=Option.some.inj hk103;simp[Xj,c52,c55,c55M,c59,c81,c81M,c106,c55N,c81N]
     ·skip
      intro J103;simp only[pq,reduceCtorEq] at J103;by_cases c112:(a4).tmod 5=0
      ·skip
       rw[if_pos c112] at q94;refine ZcY (by simp[bV,c52,c55,c55M,c59,c81,c81M,eq_true c112]) ?_;have ar113:=YI (k:=.u8) (y62) (i:=0) (by decide);have as114:=YT (k:=.u8) (y62) (i:=0) (by decide);have ap115:=ZcF (k:=.u8) (y62) (i:=0) (by decide) (IntKind.u8.wrap ((y62.at 0)+1));refine Y9 rfl (by simp[ar113,as114,ap115,c52,c55,c55M,c59,c81,c81M,eq_true c112] <;> rfl) ?_;simp only[pq,reduceCtorEq];exact Za1 (key:=1000021) (kq:=⟨[5,12,13],[5,12,13,57],[]⟩) rfl rfl rfl (by simp[und,List.replicate,c52,c55,c55M,c59,c81,c81M,eq_true c112]) (J103 (x61.2,y62.put 0 (IntKind.u8.wrap ((y62.at 0)+1))) q94)
      ·skip
       rw[if_neg c112] at q94;refine ZcZ (by simp[bV,c52,c55,c55M,c59,c81,c81M,c112]) ?_;refine Ze rfl (by simp[c52,c55,c55M,c59,c81,c81M,c112] <;> rfl) ?_;by_cases c116:(a4).tmod 5=1
       ·skip
        rw[if_pos c116] at q94;refine ZcY (by simp[bV,c52,c55,c55M,c59,c81,c81M,c112,eq_true c116]) ?_;obtain⟨_,u117,q94⟩:=bs q94;obtain⟨u117_0,u117_1⟩:=Zy u117;have sf118:(IntKind.i64.wrap ((x61.2.length:Int)-1)).toNat≤x61.2.length:=by omega
        have sf119:0≤IntKind.i64.wrap ((x61.2.length:Int)-1):=by omega
        refine Y9 rfl (by simp[u117_0,u117_1,sf118,sf119,c52,c55,c55M,c59,c81,c81M,c112,eq_true c116] <;> rfl) ?_;simp only[pq,reduceCtorEq];exact Za1 (key:=1000021) (kq:=⟨[5,12,13],[5,12,13,57],[]⟩) rfl rfl rfl (by simp[und,List.replicate,sf118,sf119,c52,c55,c55M,c59,c81,c81M,c112,eq_true c116]) (J103 ((x61.2).take ((IntKind.i64.wrap ((x61.2.length:Int)-1)).toNat),y62) q94)
       ·skip
        rw[if_neg c116] at q94;refine ZcZ (by simp[bV,c52,c55,c55M,c59,c81,c81M,c112,c116]) ?_;refine ZgH ?_;simp only[pq,reduceCtorEq];exact Za1 (key:=1000021) (kq:=⟨[5,12,13],[5,12,13,57],[]⟩) rfl rfl rfl (by simp[und,List.replicate,c52,c55,c55M,c59,c81,c81M,c112,c116]) (J103 (x61.2,y62) q94)
   ·skip
    rw[if_pos] at hr;rotate_left
    ·simp[c52,c55,c55M,c59]
    refine ZH (by simp[bV,c52,c55,c55M,c59]) ?_;refine ZK ?_;refine Ze rfl (by simp[c52,c55,c55M,c59] <;> rfl) ?_;refine ZeF ?_;obtain rfl:=Option.some.inj hr;simp[Xj,c52,c55,c55M,c59,c55N]
 ·skip
  rw[if_pos c52] at hr;refine ZH (by simp[bV,c52]) ?_;refine ZK ?_;refine Ze rfl (by simp[c52]; rfl) ?_;refine ZeF ?_;obtain rfl:=Option.some.inj hr;simp[Xj,c52]
end Go.Proofs.YtbppknpnmjhjpaaGreatDoor
