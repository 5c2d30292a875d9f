import Derived.Test.YtbppknpnmjhjpaaGreatDoorLfK
import Derived.Test.YtbppknpnmjhjpaaGreatDoorCode
import Derived.Test.YtbppknpnmjhjpaaGreatDoorBl
namespace Go.Proofs.YtbppknpnmjhjpaaGreatDoor
open Go.RowKit
open Go.Av
open Go.Lc
set_option maxRecDepth 100000
set_option linter.unusedSimpArgs false
set_option linter.unusedVariables false
set_option maxHeartbeats 4000000
def kp142:Keep:=fun i=>if i=3 then⟨[0,3,9,10,11],[36],[(3,none,36,1)]⟩ else if i=7 then⟨[0,3,5,6,9,10,11,18,19,20],[36],[]⟩ else if i=1000013 then⟨[0,3,9,10,11],[36],[]⟩ else⟨[],[],[]⟩
theorem w142 {T:Tab}(hO:T.own=fun _=>[]) (hT185:T 185=some K185.G) (a0:(List (List Int))) (x:(List (List Int))) (hr:Xl a0=some x):∃ kp fl n,ZM tt T G kp fl n Tryz.f142 (Zjm a0)=some (Zlp a0 x):=by
 simp only[Zjm,Zlp];refine fnE (kp:=kp142) (w:=true) body142 (by simp) ?_;unfold c142;rw[Tryz.ntmps142];unfold Xl at hr;refine Ze rfl (by simp[]; rfl) ?_;refine Ze rfl (by simp[]; rfl) ?_;refine ZK ?_;refine Ze rfl (by simp[]; rfl) ?_;refine Zu ?_;refine Xs (kq:=⟨[0,3,9,10,11],[36],[(3,none,36,1)]⟩) (H:=fun(s:Int×(List (List Int)))=>match s with | (p34,p35)=>(⟨([.one (.slice .no (List.map Z2 a0))]++(und 2++([.one (.ms 36 0 0 (p35.length) 1)]++(und 5++([.one (.slice .no (List.map Z2 a0)),.one (.v (.int .i64 (a0.length:Int))),.one (.v (.int .i64 p34))]++(und 27))))):List PV),([(36,⟨0,1,List.map Z2 p35,false,true⟩)]:Boxes)⟩:ASt)) (by kernel_rfl) hr (by simp[und,List.replicate,]) ?_;rintro⟨p34,p35⟩ x100r hr100
 simp only[ZbQ] at hr100;unfold b142_1;simp only[und,List.replicate,List.cons_append,List.nil_append];refine Ze rfl (by simp[]; rfl) ?_;by_cases c101:p34<(a0.length:Int)
 ·skip
  have c101N:=c101;try simp at c101N
  first | have c101M:(_=_)=True:=eq_true c101N | have c101M:=c101N
  rw[if_pos] at hr100;rotate_left
  ·simp[c101,c101M]
  refine ZH (by simp[bV,c101,c101M]) ?_;refine ZL ?_;refine Zu ?_;obtain⟨x102,hx102,hr100⟩:=bs hr100;obtain⟨hx102a,hx102b⟩:=ZbT hx102;have hx102c:=Z8 hx102b;refine Ze rfl (by simp[hx102a,hx102b,hx102c,c101,c101M] <;> rfl) ?_;refine Ze rfl (by simp[c101,c101M] <;> rfl) ?_;refine ZK ?_;obtain⟨_,u103,hr100⟩:=bs hr100;obtain⟨u103_0,u103_1⟩:=Zy u103;have sf104:(p34).toNat≤a0.length:=by omega
  have sf105:0≤p34:=by omega
  refine Ze rfl (by simp[u103_0,u103_1,sf104,sf105,c101,c101M] <;> rfl) ?_;refine Zu ?_;refine Xs (kq:=⟨[0,3,5,6,9,10,11,18,19,20],[36],[]⟩) (H:=fun(s:Bool×Int)=>match s with | (p61,p62)=>(⟨([.one (.slice .no (List.map Z2 a0))]++(und 2++([.one (.ms 36 0 0 (p35.length) 1)]++(und 1++([.one (.slice .no (Zf .u8 x102)),.one (.v (.bool p61))]++(und 2++([.one (.slice .no (List.map Z2 a0)),.one (.v (.int .i64 (a0.length:Int))),.one (.v (.int .i64 p34))]++(und 6++([.one (.slice .no (List.map Z2 ((a0).take ((p34).toNat)))),.one (.v (.int .i64 (((a0).take ((p34).toNat)).length:Int))),.one (.v (.int .i64 p62))]++(und 18))))))))):List PV),([(36,⟨0,1,List.map Z2 p35,false,true⟩)]:Boxes)⟩:ASt)) (by kernel_rfl) hr100 (by simp[und,List.replicate,sf104,sf105,c101,c101M]) ?_;rintro⟨p61,p62⟩ x114r hr114
  simp only[ZbP] at hr114;unfold b142_2;simp only[und,List.replicate,List.cons_append,List.nil_append];refine Ze rfl (by simp[c101,c101M] <;> rfl) ?_;by_cases c115:p62<(((a0).take ((p34).toNat)).length:Int)
  ·skip
   have c115N:=c115;try simp at c115N
   first | have c115M:(_=_)=True:=eq_true c115N | have c115M:=c115N
   rw[if_pos] at hr114;rotate_left
   ·simp[c101,c101M,c115,c115M]
   refine ZH (by simp[bV,c101,c101M,c115,c115M]) ?_;refine ZL ?_;refine Zu ?_;obtain⟨x116,hx116,hr114⟩:=bs hr114;obtain⟨hx116a,hx116b⟩:=ZbT hx116;have hx116c:=Z8 hx116b;have hx116t:=Zxg hx116b;have hx116u:=Z8 hx116t;refine Ze rfl (by simp[hx116a,hx116b,hx116c,hx116t,hx116u,c101,c101M,c115,c115M] <;> rfl) ?_;by_cases c117:p61=true
   ·skip
    rw[if_pos] at hr114;rotate_left
    ·simp[c101,c101M,c115,c115M,c117]
    obtain⟨z118,hz118,hr114⟩:=bs hr114;obtain rfl:=Option.some.inj hz118;refine Y9 rfl (by simp[c101,c101M,c115,c115M,c117] <;> rfl) ?_;simp only[pq,reduceCtorEq];refine Y9 rfl (by simp[c101,c101M,c115,c115M,c117] <;> rfl) ?_;obtain rfl:=Option.some.inj hr114;simp only[pq,reduceCtorEq];simp[und,List.replicate,Nat.add_assoc,c101,c101M,c115,c115M,c117]
   ·skip
    rw[if_neg] at hr114;rotate_left
    ·simp[c101,c101M,c115,c115M,c117]
    obtain⟨z119,hz119,hr114⟩:=bs hr114;obtain⟨y120,hy120,hz119⟩:=bs hz119;have ehy120:=K185.q2 hy120;simp only[K185,kS,nf,nfs,Yi] at ehy120;obtain rfl:=Option.some.inj hz119;refine Y9 rfl (by simp[hO,hT185,ehy120,c101,c101M,c115,c115M,c117] <;> rfl) ?_;simp only[pq,reduceCtorEq];refine Y9 rfl (by simp[c101,c101M,c115,c115M,c117] <;> rfl) ?_;obtain rfl:=Option.some.inj hr114;simp only[pq,reduceCtorEq];simp[und,List.replicate,Nat.add_assoc,c101,c101M,c115,c115M,c117]
  ·skip
   have c115N:=c115;try simp at c115N
   first | have c115M:(_=_)=True:=eq_true c115N | have c115M:=c115N
   rw[if_neg] at hr114;rotate_left
   ·simp[c101,c101M,c115,c115M]
   refine Zz (by simp[bV,c101,c101M,c115,c115M]) ?_;refine Z4 ?_;obtain⟨r121,q121,rfl⟩:=ms hr114;simp only[pq,reduceCtorEq];rintro rfl
   try simp only[pq,reduceCtorEq]
   unfold Zg5 at q121;refine Ze rfl (by simp[c101,c101M,c115,c115M] <;> rfl) ?_;refine Zod q121 (.normal) (fun(s:(List (List Int)))=>match s with | p67=>(⟨([.one (.slice .no (List.map Z2 a0))]++(und 2++([.one (.ms 36 0 0 (p67.length) 1)]++(und 5++([.one (.slice .no (List.map Z2 a0)),.one (.v (.int .i64 (a0.length:Int))),.one (.v (.int .i64 p34))]++(und 27))))):List PV),([(36,⟨0,1,List.map Z2 p67,false,true⟩)]:Boxes)⟩:ASt)) (fun(s:(List (List Int)))=>match s with | p67=>ZaB p34 p67) ?_ ?_
   ·skip
    rintro p67 hk124
    change ZaB p34 p67=_ at hk124
    simp only[pq,reduceCtorEq];simp only[und,List.replicate,List.cons_append,List.nil_append];unfold ZaB at hk124;refine Zj8 rfl (kq:=⟨[0,3,9,10,11],[36],[]⟩) rfl (by simp[XF,c101,c101M,c115,c115M]; rfl) (by simp[c101,c101M,c115,c115M] <;> rfl) ?_;obtain rfl:=Option.some.inj hk124;simp only[pq,reduceCtorEq];simp[und,List.replicate,Nat.add_assoc,c101,c101M,c115,c115M]
   ·skip
    intro J124;simp only[pq,reduceCtorEq] at J124;by_cases c125:p61=true
    ·skip
     rw[if_neg (not_not_intro c125)] at q121;refine ZcZ (by simp[bV,c101,c101M,c115,c115M,c125]) ?_;refine ZgH ?_;simp only[pq,reduceCtorEq];exact Za1 (key:=1000013) (kq:=⟨[0,3,9,10,11],[36],[]⟩) rfl rfl rfl (by simp[und,List.replicate,c101,c101M,c115,c115M,c125]) (J124 p35 q121)
    ·skip
     rw[if_pos c125] at q121;refine ZcY (by simp[bV,c101,c101M,c115,c115M,c125]) ?_;obtain⟨_,u126,q121⟩:=bs q121;have u126_0:=Zy u126;have n1_u126_0:(p35.length+1) * 24≤140737488355328:=by omega
     have n2_u126_0:p35.length+1≤9223372036854775807:=by omega
     refine Y9 rfl (by simp[n1_u126_0,n2_u126_0,c101,c101M,c115,c115M,c125] <;> rfl) ?_;simp only[pq,reduceCtorEq];exact Za1 (key:=1000013) (kq:=⟨[0,3,9,10,11],[36],[]⟩) rfl rfl rfl (by simp[und,List.replicate,c101,c101M,c115,c115M,c125]) (J124 (p35++[x102]) q121)
 ·skip
  have c101N:=c101;try simp at c101N
  first | have c101M:(_=_)=True:=eq_true c101N | have c101M:=c101N
  rw[if_neg] at hr100;rotate_left
  ·simp[c101,c101M]
  refine Zz (by simp[bV,c101,c101M]) ?_;refine Z4 ?_;obtain⟨r127,q127,rfl⟩:=ms hr100;simp only[pq,reduceCtorEq];rintro rfl
  try simp only[pq,reduceCtorEq]
  unfold Zg4 at q127;refine Ze rfl (by simp[c101,c101M] <;> rfl) ?_;refine Za0 ?_;obtain rfl:=Option.some.inj q127;simp[Xj,c101,c101M,c101N]
theorem w186:Walk tt G [(173,K173.G)] (fun _=>[]) Tryz.f186 K186:=by
 refine .ak [] false Tryz.ntmps186 fun T hO hT ⟨a0,a1⟩ x=>?_
 simp only[Zg] at hT; simp only[kS,nfs,Zht];exact au
theorem w146:Walk tt G [] (fun _=>[]) Tryz.f146 K146:=by
 refine .ak [(3,⟨[0,3,6,7],[],[]⟩)] false Tryz.ntmps146 fun T hO hT a0 x=>?_
 simp only[Zg] at hT; simp only[kS,nfs,Zdr,Zkc];refine au ?_
 intros; refine lpP 3 (fun⟨p7,p8⟩=>([(3,.one (.v (.int .u64 p7))),(7,.one (.v (.int .i64 p8)))],[])) ?_; rintro⟨p7,p8⟩ x; simp only[ZmX,Zkc]
 exact au
theorem w215:Walk tt G [(201,K201.G)] (fun _=>[]) Tryz.f215 K215:=by
 refine .ak [] false Tryz.ntmps215 fun T hO hT a0 x=>?_
 simp only[Zg] at hT; simp only[kS,nfs,X7];exact au
theorem w214:Walk tt G [(215,K215.G)] (fun _=>[]) Tryz.f214 K214:=by
 refine .ak [] false Tryz.ntmps214 fun T hO hT ⟨a0,a1⟩ x=>?_
 simp only[Zg] at hT; simp only[kS,nfs,Zc5];exact au
theorem w187:Walk tt G [(146,K146.G),(214,K214.G),(215,K215.G)] (fun _=>[]) Tryz.f187 K187:=by
 refine .ak [(3,⟨[1,5,6],[5],[]⟩)] false Tryz.ntmps187 fun T hO hT ⟨a0,a1⟩ x=>?_
 simp only[Zg] at hT; simp only[kS,nfs,ZjH,ZiZ];refine au ?_
 intros; refine lpP 3 (fun⟨p11,p12⟩=>([(1,.one (.slice .no (Zf .u8 p11)))],[(5,⟨0,4,[arC .u64 p12],false,false⟩)])) ?_; rintro⟨p11,p12⟩ x; simp only[Zgv,ZiZ]
 exact au
theorem w143:Walk tt G [(186,K186.G),(187,K187.G)] (fun _=>[]) Tryz.f143 K143:=by
 refine .ak [] false Tryz.ntmps143 fun T hO hT ⟨a0,a1,a2,a3⟩ x=>?_
 simp only[Zg] at hT; simp only[kS,nfs,Zft];exact au
theorem w229:Walk tt G [] (fun _=>[]) Tryz.f229 K229:=by
 refine .ak [] false Tryz.ntmps229 fun T hO hT ⟨a0,a1⟩ x=>?_
 simp only[Zg] at hT; simp only[kS,nfs,Zh2];exact ZhS
theorem w216:Walk tt G [(229,K229.G)] (fun _=>[]) Tryz.f216 K216:=by
 refine .ak [(4,⟨[1,3],[1],[]⟩)] false Tryz.ntmps216 fun T hO hT a0 x=>?_
 simp only[Zg] at hT; simp only[kS,nfs,Zfs,Lref18_Valid_k1];refine ZhS ?_
 intros; refine lpP 4 (fun p4=>([(3,.one (.v (.int .i64 p4)))],[])) ?_; rintro p4 x; simp only[ZeJ,Lref18_Valid_k1]
 exact ZhS
end Go.Proofs.YtbppknpnmjhjpaaGreatDoor
