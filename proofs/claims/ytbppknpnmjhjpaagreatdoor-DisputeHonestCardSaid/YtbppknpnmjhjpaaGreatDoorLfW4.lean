import Derived.Test.YtbppknpnmjhjpaaGreatDoorLfK
import Derived.Test.YtbppknpnmjhjpaaGreatDoorCode
import Derived.Test.YtbppknpnmjhjpaaGreatDoorBl
namespace Go.Proofs.YtbppknpnmjhjpaaGreatDoor
open Go.RowKit
open Go.Av
open Go.Lc
set_option maxRecDepth 100000
set_option linter.unusedSimpArgs false
set_option linter.unusedVariables false
set_option maxHeartbeats 4000000
def kp90:Keep:=fun i=>if i=5 then⟨[2,3,4,8,9,10,11],[3,4,23,75],[(8,none,75,4)]⟩ else if i=1000006 then⟨[2,3,4,8,9,10,11],[3,4,23,75],[]⟩ else if i=9 then⟨[2,3,4,8,9,10,11,12,13],[3,4,23,75],[]⟩ else if i=19 then⟨[2,3,4,8,9,10,11,18,91,92,93],[3,4,18,23,75,100069],[]⟩ else⟨[],[],[]⟩
theorem w90 {T:Tab}(hO:T.own=fun _=>[]) (hT80:T 80=some K80.G) (hT150:T 150=some K150.G) (a0:Tapi_Params) (a1:Tapi_Ledger) (a2:Int) (x:(List Tapi_Tx)×Int) (hr:YN a0 a1 a2=some x):∃ kp fl n,ZN tt T G kp fl n Tryz.f90 (E90 (a0,a1,a2))=some (R90 (a0,a1,a2) x):=by
 simp only[E90,R90];refine fnE (kp:=kp90) (w:=true) body90 (by simp) ?_;unfold c90;rw[Tryz.ntmps90];unfold YN at hr;refine Zd rfl (by simp[-Int.natCast_tdiv_eq_ediv,Nat.add_assoc,]; rfl) ?_;refine Zd rfl (by simp[-Int.natCast_tdiv_eq_ediv,Nat.add_assoc,]; rfl) ?_;refine Zd rfl (by simp[-Int.natCast_tdiv_eq_ediv,Nat.add_assoc,]; rfl) ?_;obtain⟨_,u316,hr⟩:=bs hr;have u316_0:=ZO u316;have n1_u316_0:(a1.2.2.length) * 88≤140737488355328:=by omega
 have n2_u316_0:a1.2.2.length≤9223372036854775807:=by omega
 refine Zd rfl (by simp[-Int.natCast_tdiv_eq_ediv,Nat.add_assoc,n1_u316_0,n2_u316_0]; rfl) ?_;refine ZA ?_;refine Zd rfl (by simp[-Int.natCast_tdiv_eq_ediv,Nat.add_assoc,]; rfl) ?_;refine Zx ?_;refine Xs (kq:=⟨[2,3,4,8,9,10,11],[3,4,23,75],[(8,none,75,4)]⟩) (H:=fun(s:Int×Int×(List Tapi_Tx)×(List Tapi_Coin))=>match s with | (p145,p146,p147,p148)=>(⟨(und 2++([.one (.v (.int .u8 a2)),.ptr 3 0 0 0 80,.ptr 4 0 0 0 34]++(und 3++([.one (.ms 75 0 0 (p147.length) 4),.one (.v (.int .i64 p145)),.one (.ms 23 0 0 (p148.length) 37),.one (.v (.int .u8 p146))]++(und 101)))):List PV),([(3,⟨0,80,[(.v (.int .u32 a0.1.1)) :: ((arC .u8 a0.1.2.1)++((arC .u8 a0.1.2.2.1)++((.v (.int .u32 a0.1.2.2.2.1)) :: ((.v (.int .u32 a0.1.2.2.2.2.1)) :: ((.v (.int .u32 a0.1.2.2.2.2.2)) :: ((arC .u64 a0.2.1)++((.v (.int .i64 a0.2.2.1)) :: ((.v (.int .u32 a0.2.2.2.1)) :: ((.v (.int .u32 a0.2.2.2.2.1)) :: ((.v (.int .u32 a0.2.2.2.2.2.1)) :: ((.slice .no (List.map eapi_Checkpoint a0.2.2.2.2.2.2.1)) :: ((.v (.int .i64 a0.2.2.2.2.2.2.2.1)) :: ((.v (.int .i64 a0.2.2.2.2.2.2.2.2.1)) :: ((.v (.int .i64 a0.2.2.2.2.2.2.2.2.2)) :: []))))))))))))))],false,false⟩),(4,⟨0,34,[(.v (.int .i64 a1.1)) :: ((arC .u8 a1.2.1)++((.slice .no (List.map Zs a1.2.2)) :: []))],false,false⟩),(23,⟨0,37,List.map Zs p148,false,true⟩),(75,⟨0,4,List.map ZQ p147,false,true⟩)]:Boxes)⟩:ASt)) (by kernel_rfl) hr (by simp[-Int.natCast_tdiv_eq_ediv,Nat.add_assoc,und,List.replicate,]) ?_;rintro⟨p145,p146,p147,p148⟩ x425r hr425
 simp only[ZeR] at hr425;unfold b90_1;simp only[und,List.replicate,List.cons_append,List.nil_append];refine ZA ?_;refine Zd rfl (by simp[-Int.natCast_tdiv_eq_ediv,Nat.add_assoc,]; rfl) ?_;by_cases c426:p146<(a2).tmod 4
 ·skip
  rw[if_pos] at hr425;rotate_left
  ·simp[-Int.natCast_tdiv_eq_ediv,Nat.add_assoc,c426]
  refine Zw (by simp[-Int.natCast_tdiv_eq_ediv,Nat.add_assoc,bV,c426]) ?_;refine ZD ?_;refine Zx ?_;refine Zd rfl (by simp[-Int.natCast_tdiv_eq_ediv,Nat.add_assoc,c426]; rfl) ?_;refine Zd rfl (by simp[-Int.natCast_tdiv_eq_ediv,Nat.add_assoc,c426]; rfl) ?_;refine ZgU ?_;refine ZtB hr425 (.exit 1) (fun(s:Int×(List Tapi_Tx)×(List Tapi_Coin))=>match s with | (p288,p289,p290)=>(⟨(und 2++([.one (.v (.int .u8 a2)),.ptr 3 0 0 0 80,.ptr 4 0 0 0 34]++(und 3++([.one (.ms 75 0 0 (p289.length) 4),.one (.v (.int .i64 p288)),.one (.ms 23 0 0 (p290.length) 37),.one (.v (.int .u8 p146))]++(und 101)))):List PV),([(3,⟨0,80,[(.v (.int .u32 a0.1.1)) :: ((arC .u8 a0.1.2.1)++((arC .u8 a0.1.2.2.1)++((.v (.int .u32 a0.1.2.2.2.1)) :: ((.v (.int .u32 a0.1.2.2.2.2.1)) :: ((.v (.int .u32 a0.1.2.2.2.2.2)) :: ((arC .u64 a0.2.1)++((.v (.int .i64 a0.2.2.1)) :: ((.v (.int .u32 a0.2.2.2.1)) :: ((.v (.int .u32 a0.2.2.2.2.1)) :: ((.v (.int .u32 a0.2.2.2.2.2.1)) :: ((.slice .no (List.map eapi_Checkpoint a0.2.2.2.2.2.2.1)) :: ((.v (.int .i64 a0.2.2.2.2.2.2.2.1)) :: ((.v (.int .i64 a0.2.2.2.2.2.2.2.2.1)) :: ((.v (.int .i64 a0.2.2.2.2.2.2.2.2.2)) :: []))))))))))))))],false,false⟩),(4,⟨0,34,[(.v (.int .i64 a1.1)) :: ((arC .u8 a1.2.1)++((.slice .no (List.map Zs a1.2.2)) :: []))],false,false⟩),(23,⟨0,37,List.map Zs p290,false,true⟩),(75,⟨0,4,List.map ZQ p289,false,true⟩)]:Boxes)⟩:ASt)) (fun(s:Int×(List Tapi_Tx)×(List Tapi_Coin))=>match s with | (p288,p289,p290)=>Y1 p146 p288 p289 p290) ?_ ?_
  ·skip
   rintro⟨p288,p289,p290⟩ hk479
   change Y1 p146 p288 p289 p290=_ at hk479
   simp only[pq,reduceCtorEq];simp only[und,List.replicate,List.cons_append,List.nil_append];unfold Y1 at hk479;refine Zl5 rfl (kq:=⟨[2,3,4,8,9,10,11],[3,4,23,75],[]⟩) rfl (by simp[-Int.natCast_tdiv_eq_ediv,Nat.add_assoc,ZbL,c426]; rfl) (by simp[-Int.natCast_tdiv_eq_ediv,Nat.add_assoc,c426]; rfl) ?_;obtain rfl:=Option.some.inj hk479;simp only[pq,reduceCtorEq];simp[-Int.natCast_tdiv_eq_ediv,Nat.add_assoc,und,List.replicate,Nat.add_assoc,c426]
  ·skip
   intro J479;simp only[pq,reduceCtorEq] at J479;refine Xs (kq:=⟨[2,3,4,8,9,10,11,12,13],[3,4,23,75],[]⟩) (H:=fun(s:Int)=>match s with | p265=>(⟨(und 2++([.one (.v (.int .u8 a2)),.ptr 3 0 0 0 80,.ptr 4 0 0 0 34]++(und 3++([.one (.ms 75 0 0 (p147.length) 4),.one (.v (.int .i64 p145)),.one (.ms 23 0 0 (p148.length) 37),.one (.v (.int .u8 p146)),.one (.v (.int .i64 (p148.length:Int))),.one (.v (.int .i64 p265))]++(und 99)))):List PV),([(3,⟨0,80,[(.v (.int .u32 a0.1.1)) :: ((arC .u8 a0.1.2.1)++((arC .u8 a0.1.2.2.1)++((.v (.int .u32 a0.1.2.2.2.1)) :: ((.v (.int .u32 a0.1.2.2.2.2.1)) :: ((.v (.int .u32 a0.1.2.2.2.2.2)) :: ((arC .u64 a0.2.1)++((.v (.int .i64 a0.2.2.1)) :: ((.v (.int .u32 a0.2.2.2.1)) :: ((.v (.int .u32 a0.2.2.2.2.1)) :: ((.v (.int .u32 a0.2.2.2.2.2.1)) :: ((.slice .no (List.map eapi_Checkpoint a0.2.2.2.2.2.2.1)) :: ((.v (.int .i64 a0.2.2.2.2.2.2.2.1)) :: ((.v (.int .i64 a0.2.2.2.2.2.2.2.2.1)) :: ((.v (.int .i64 a0.2.2.2.2.2.2.2.2.2)) :: []))))))))))))))],false,false⟩),(4,⟨0,34,[(.v (.int .i64 a1.1)) :: ((arC .u8 a1.2.1)++((.slice .no (List.map Zs a1.2.2)) :: []))],false,false⟩),(23,⟨0,37,List.map Zs p148,false,true⟩),(75,⟨0,4,List.map ZQ p147,false,true⟩)]:Boxes)⟩:ASt)) (by kernel_rfl) hr425 (by simp[-Int.natCast_tdiv_eq_ediv,Nat.add_assoc,und,List.replicate,c426]) ?_;rintro p265 x480r hr480
   simp only[ZeQ] at hr480;unfold b90_2;simp only[und,List.replicate,List.cons_append,List.nil_append];refine ZA ?_;refine Zd rfl (by simp[-Int.natCast_tdiv_eq_ediv,Nat.add_assoc,c426]; rfl) ?_;by_cases c481:p265<(p148.length:Int)
   ·skip
    have c481N:=c481;try simp at c481N
    first | have c481M:(_=_)=True:=eq_true c481N | have c481M:=c481N
    rw[if_pos] at hr480;rotate_left
    ·simp[-Int.natCast_tdiv_eq_ediv,Nat.add_assoc,c426,c481,c481M]
    refine Zw (by simp[-Int.natCast_tdiv_eq_ediv,Nat.add_assoc,bV,c426,c481,c481M]) ?_;refine ZD ?_;refine Zx ?_;obtain⟨_,u482,hr480⟩:=bs hr480;have u482_0:=ZO u482;have u482_0N:=u482_0;try simp at u482_0N
    refine Zd rfl (by simp[-Int.natCast_tdiv_eq_ediv,Nat.add_assoc,u482_0N,u482_0,c426,c481,c481M] <;> rfl) ?_;obtain⟨j483,hj483,hr480⟩:=bs hr480;obtain⟨j483a,j483b,j483c⟩:=Yj hj483;obtain⟨x484,hx484,hr480⟩:=bs hr480;have ghx484:=Yb hx484;refine Zd rfl (by simp[-Int.natCast_tdiv_eq_ediv,Nat.add_assoc,j483a,j483b,j483c,hx484,ghx484,c426,c481,c481M] <;> rfl) ?_;refine ZA ?_;by_cases c485:x484.2.2.2=true
    ·skip
     refine Zd rfl (by simp[-Int.natCast_tdiv_eq_ediv,Nat.add_assoc,c426,c481,c481M,c485] <;> rfl) ?_;by_cases c486:IntKind.i64.wrap ((IntKind.i64.wrap (a1.1+1))-x484.2.2.1)<a0.2.2.2.2.2.2.2.2.2
     ·skip
      rw[if_pos] at hr480;rotate_left
      ·simp[-Int.natCast_tdiv_eq_ediv,Nat.add_assoc,c426,c481,c481M,c485,c486]
      refine Zw (by simp[-Int.natCast_tdiv_eq_ediv,Nat.add_assoc,bV,c426,c481,c481M,c485,c486]) ?_;refine Z7 ?_;simp only[pq,reduceCtorEq];refine Xb rfl (by simp[-Int.natCast_tdiv_eq_ediv,Nat.add_assoc,c426,c481,c481M,c485,c486] <;> rfl) ?_;obtain rfl:=Option.some.inj hr480;simp only[pq,reduceCtorEq];simp[-Int.natCast_tdiv_eq_ediv,Nat.add_assoc,und,List.replicate,Nat.add_assoc,c426,c481,c481M,c485,c486]
     ·skip
      rw[if_neg] at hr480;rotate_left
      ·simp[-Int.natCast_tdiv_eq_ediv,Nat.add_assoc,c426,c481,c481M,c485,c486]
      refine Zv (by simp[-Int.natCast_tdiv_eq_ediv,Nat.add_assoc,bV,c426,c481,c481M,c485,c486]) ?_;refine ZD ?_;obtain⟨y487,hy487,hr480⟩:=bs hr480;have ehy487:=K150.q2 hy487;simp only[K150,kS,nf,nfs,Z5] at ehy487;try simp only[c485] at ehy487
      refine Zd rfl (by simp[-Int.natCast_tdiv_eq_ediv,Nat.add_assoc,hO,hT150,ehy487,c426,c481,c481M,c485,c486] <;> rfl) ?_;obtain⟨_,u488,hr480⟩:=bs hr480;have u488_0:=ZO u488;have n1_u488_0:(p147.length+1) * 64≤140737488355328:=by omega
      have n2_u488_0:p147.length+1≤9223372036854775807:=by omega
      refine Zd rfl (by simp[-Int.natCast_tdiv_eq_ediv,Nat.add_assoc,n1_u488_0,n2_u488_0,c426,c481,c481M,c485,c486] <;> rfl) ?_;obtain⟨_,u489,hr480⟩:=bs hr480;obtain⟨u489_0,u489_1⟩:=ZO u489;have sf490:((IntKind.i64.wrap ((IntKind.i64.wrap ((IntKind.i64.wrap (IntKind.u8.wrap ((a2).tdiv 4)))+(IntKind.i64.wrap (p146))))+p265)).tmod (p148.length:Int)).toNat≤p148.length:=by omega
      have sf491:0≤(IntKind.i64.wrap ((IntKind.i64.wrap ((IntKind.i64.wrap (IntKind.u8.wrap ((a2).tdiv 4)))+(IntKind.i64.wrap (p146))))+p265)).tmod (p148.length:Int):=by omega
      obtain⟨_,u492,hr480⟩:=bs hr480;obtain⟨u492_0,u492_1⟩:=ZO u492;have sf493:(IntKind.i64.wrap (((IntKind.i64.wrap ((IntKind.i64.wrap ((IntKind.i64.wrap (IntKind.u8.wrap ((a2).tdiv 4)))+(IntKind.i64.wrap (p146))))+p265)).tmod (p148.length:Int))+1)).toNat≤p148.length:=by omega
      obtain⟨_,u494,hr480⟩:=bs hr480;have u494_0:=ZO u494;have u494_0N:=u494_0;try simp at u494_0N
      have n1_u494_0:(((p148).take ((IntKind.i64.wrap ((IntKind.i64.wrap ((IntKind.i64.wrap (IntKind.u8.wrap ((a2).tdiv 4)))+(IntKind.i64.wrap (p146))))+p265)).tmod (p148.length:Int)).toNat).length+(((p148).drop (IntKind.i64.wrap (((IntKind.i64.wrap ((IntKind.i64.wrap ((IntKind.i64.wrap (IntKind.u8.wrap ((a2).tdiv 4)))+(IntKind.i64.wrap (p146))))+p265)).tmod (p148.length:Int))+1)).toNat).take (p148.length-(IntKind.i64.wrap (((IntKind.i64.wrap ((IntKind.i64.wrap ((IntKind.i64.wrap (IntKind.u8.wrap ((a2).tdiv 4)))+(IntKind.i64.wrap (p146))))+p265)).tmod (p148.length:Int))+1)).toNat)).length) * 88≤140737488355328:=by
       have h:=u494_0;try simp at h
       first | omega | (simp only[List.length_take,List.length_drop] at h ⊢; omega) | (simp only[List.length_take,List.length_drop]; omega)
      have n2_u494_0:((p148).take ((IntKind.i64.wrap ((IntKind.i64.wrap ((IntKind.i64.wrap (IntKind.u8.wrap ((a2).tdiv 4)))+(IntKind.i64.wrap (p146))))+p265)).tmod (p148.length:Int)).toNat).length+(((p148).drop (IntKind.i64.wrap (((IntKind.i64.wrap ((IntKind.i64.wrap ((IntKind.i64.wrap (IntKind.u8.wrap ((a2).tdiv 4)))+(IntKind.i64.wrap (p146))))+p265)).tmod (p148.length:Int))+1)).toNat).take (p148.length-(IntKind.i64.wrap (((IntKind.i64.wrap ((IntKind.i64.wrap ((IntKind.i64.wrap (IntKind.u8.wrap ((a2).tdiv 4)))+(IntKind.i64.wrap (p146))))+p265)).tmod (p148.length:Int))+1)).toNat)).length≤9223372036854775807:=by
       have h:=u494_0;try simp at h
       first | omega | (simp only[List.length_take,List.length_drop] at h ⊢; omega) | (simp only[List.length_take,List.length_drop]; omega)
      have n1s_u494_0:=n1_u494_0;try simp only[List.length_drop,List.length_take,Nat.min_self,Nat.sub_le_iff_le_add,Nat.min_eq_left,sf490,sf491,sf493] at n1s_u494_0
      have n2s_u494_0:=n2_u494_0;try simp only[List.length_drop,List.length_take,Nat.min_self,Nat.sub_le_iff_le_add,Nat.min_eq_left,sf490,sf491,sf493] at n2s_u494_0
      refine Z6 rfl (by simp[-Int.natCast_tdiv_eq_ediv,Nat.add_assoc,u489_0,u489_1,sf490,sf491,u492_0,u492_1,sf493,u494_0N,n1_u494_0,n2_u494_0,n1s_u494_0,n2s_u494_0,c426,c481,c481M,c485,c486]; first | exact⟨rfl,rfl⟩ | rfl) (by kernel_rfl) ?_;obtain⟨y495,hy495,hr480⟩:=bs hr480;have ehy495:=K80.q1 hy495;simp only[K80,kS,nf,nfs,Z5] at ehy495;refine Zd rfl (by simp[-Int.natCast_tdiv_eq_ediv,Nat.add_assoc,hO,hT80,ehy495,c426,c481,c481M,c485,c486] <;> rfl) ?_;refine ZA ?_;refine Zd rfl (by simp[-Int.natCast_tdiv_eq_ediv,Nat.add_assoc,c426,c481,c481M,c485,c486] <;> rfl) ?_;refine Zx ?_;refine Xs (kq:=⟨[2,3,4,8,9,10,11,18,91,92,93],[3,4,18,23,75,100069],[]⟩) (H:=fun(s:Int×(List Tapi_Coin))=>match s with | (p308,p309)=>(⟨(und 2++([.one (.v (.int .u8 a2)),.ptr 3 0 0 0 80,.ptr 4 0 0 0 34]++(und 3++([.one (.ms 75 0 0 (p147.length+1) 4),.one (.v (.int .i64 (IntKind.i64.wrap (p145+y487.2)))),.one (.ms 23 0 0 (p309.length) 37),.one (.v (.int .u8 p146))]++(und 6++([.ptr 18 0 0 0 32]++(und 72++([.one (.ms 100069 0 0 (y487.1.2.2.1.length) 2),.one (.v (.int .i64 (y487.1.2.2.1.length:Int))),.one (.v (.int .i64 p308))]++(und 19)))))))):List PV),([(3,⟨0,80,[(.v (.int .u32 a0.1.1)) :: ((arC .u8 a0.1.2.1)++((arC .u8 a0.1.2.2.1)++((.v (.int .u32 a0.1.2.2.2.1)) :: ((.v (.int .u32 a0.1.2.2.2.2.1)) :: ((.v (.int .u32 a0.1.2.2.2.2.2)) :: ((arC .u64 a0.2.1)++((.v (.int .i64 a0.2.2.1)) :: ((.v (.int .u32 a0.2.2.2.1)) :: ((.v (.int .u32 a0.2.2.2.2.1)) :: ((.v (.int .u32 a0.2.2.2.2.2.1)) :: ((.slice .no (List.map eapi_Checkpoint a0.2.2.2.2.2.2.1)) :: ((.v (.int .i64 a0.2.2.2.2.2.2.2.1)) :: ((.v (.int .i64 a0.2.2.2.2.2.2.2.2.1)) :: ((.v (.int .i64 a0.2.2.2.2.2.2.2.2.2)) :: []))))))))))))))],false,false⟩),(4,⟨0,34,[(.v (.int .i64 a1.1)) :: ((arC .u8 a1.2.1)++((.slice .no (List.map Zs a1.2.2)) :: []))],false,false⟩),(18,⟨0,32,[arC .u8 y495],false,false⟩),(23,⟨0,37,List.map Zs p309,false,true⟩),(75,⟨0,4,List.map ZQ (p147++[(y487.1.1,y487.1.2.1,y487.1.2.2.1,y487.1.2.2.2)]),false,true⟩),(100069,⟨0,2,List.map Y2 y487.1.2.2.1,true,true⟩)]:Boxes)⟩:ASt)) (by kernel_rfl) hr480 (by simp[-Int.natCast_tdiv_eq_ediv,Nat.add_assoc,und,List.replicate,Nat.min_eq_left sf490,c426,c481,c481M,c485,c486]) ?_;rintro⟨p308,p309⟩ x502r hr502
      simp only[Zcg] at hr502;unfold b90_3;simp only[und,List.replicate,List.cons_append,List.nil_append];refine Zd rfl (by simp[-Int.natCast_tdiv_eq_ediv,Nat.add_assoc,c426,c481,c481M,c485,c486] <;> rfl) ?_;by_cases c503:p308<(y487.1.2.2.1.length:Int)
      ·skip
       have c503N:=c503;try simp at c503N
       first | have c503M:(_=_)=True:=eq_true c503N | have c503M:=c503N
       rw[if_pos] at hr502;rotate_left
       ·simp[-Int.natCast_tdiv_eq_ediv,Nat.add_assoc,c426,c481,c481M,c485,c486,c503,c503M]
       refine Zw (by simp[-Int.natCast_tdiv_eq_ediv,Nat.add_assoc,bV,c426,c481,c481M,c485,c486,c503,c503M]) ?_;refine ZD ?_;refine Zx ?_;obtain⟨j504,hj504,hr502⟩:=bs hr502;obtain⟨j504a,j504b,j504c⟩:=Yj hj504;obtain⟨x505,hx505,hr502⟩:=bs hr502;have ghx505:=Yb hx505;refine Zd rfl (by simp[-Int.natCast_tdiv_eq_ediv,Nat.add_assoc,j504a,j504b,j504c,hx505,ghx505,c426,c481,c481M,c485,c486,c503,c503M] <;> rfl) ?_;obtain⟨_,u506,hr502⟩:=bs hr502;have u506_0:=ZO u506;have n1_u506_0:(p309.length+1) * 88≤140737488355328:=by omega
       have n2_u506_0:p309.length+1≤9223372036854775807:=by omega
       refine Xb rfl (by simp[-Int.natCast_tdiv_eq_ediv,Nat.add_assoc,n1_u506_0,n2_u506_0,c426,c481,c481M,c485,c486,c503,c503M] <;> rfl) ?_;simp only[pq,reduceCtorEq];refine Xb rfl (by simp[-Int.natCast_tdiv_eq_ediv,Nat.add_assoc,c426,c481,c481M,c485,c486,c503,c503M] <;> rfl) ?_;obtain rfl:=Option.some.inj hr502;simp only[pq,reduceCtorEq];simp[-Int.natCast_tdiv_eq_ediv,Nat.add_assoc,und,List.replicate,Nat.add_assoc,c426,c481,c481M,c485,c486,c503,c503M]
      ·skip
       have c503N:=c503;try simp at c503N
       first | have c503M:(_=_)=True:=eq_true c503N | have c503M:=c503N
       rw[if_neg] at hr502;rotate_left
       ·simp[-Int.natCast_tdiv_eq_ediv,Nat.add_assoc,c426,c481,c481M,c485,c486,c503,c503M]
       refine Zv (by simp[-Int.natCast_tdiv_eq_ediv,Nat.add_assoc,bV,c426,c481,c481M,c485,c486,c503,c503M]) ?_;refine Z7 ?_;obtain⟨r507,q507,rfl⟩:=ms hr502;simp only[pq,reduceCtorEq];rintro rfl
       try simp only[pq,reduceCtorEq]
       unfold Zcf at q507;refine ZnV ?_;obtain⟨r508,q508,rfl⟩:=ms q507;simp only[pq,reduceCtorEq];rintro rfl
       try simp only[pq,reduceCtorEq]
       exact ZiE (key:=1000006) (kq:=⟨[2,3,4,8,9,10,11],[3,4,23,75],[]⟩) rfl rfl rfl (by simp[-Int.natCast_tdiv_eq_ediv,Nat.add_assoc,und,List.replicate,c426,c481,c481M,c485,c486,c503,c503M]) (J479 (IntKind.i64.wrap (p145+y487.2),p147++[(y487.1.1,y487.1.2.1,y487.1.2.2.1,y487.1.2.2.2)],p309) q508)
    ·skip
     refine Zd rfl (by simp[-Int.natCast_tdiv_eq_ediv,Nat.add_assoc,c426,c481,c481M,c485] <;> rfl) ?_;rw[if_neg] at hr480;rotate_left
     ·simp[-Int.natCast_tdiv_eq_ediv,Nat.add_assoc,c426,c481,c481M,c485]
     refine Zv (by simp[-Int.natCast_tdiv_eq_ediv,Nat.add_assoc,bV,c426,c481,c481M,c485]) ?_;refine ZD ?_;obtain⟨y509,hy509,hr480⟩:=bs hr480;have ehy509:=K150.q2 hy509;simp only[K150,kS,nf,nfs,Z5] at ehy509;try simp only[c485] at ehy509
     refine Zd rfl (by simp[-Int.natCast_tdiv_eq_ediv,Nat.add_assoc,hO,hT150,ehy509,c426,c481,c481M,c485] <;> rfl) ?_;obtain⟨_,u510,hr480⟩:=bs hr480;have u510_0:=ZO u510;have n1_u510_0:(p147.length+1) * 64≤140737488355328:=by omega
     have n2_u510_0:p147.length+1≤9223372036854775807:=by omega
     refine Zd rfl (by simp[-Int.natCast_tdiv_eq_ediv,Nat.add_assoc,n1_u510_0,n2_u510_0,c426,c481,c481M,c485] <;> rfl) ?_;obtain⟨_,u511,hr480⟩:=bs hr480;obtain⟨u511_0,u511_1⟩:=ZO u511;have sf512:((IntKind.i64.wrap ((IntKind.i64.wrap ((IntKind.i64.wrap (IntKind.u8.wrap ((a2).tdiv 4)))+(IntKind.i64.wrap (p146))))+p265)).tmod (p148.length:Int)).toNat≤p148.length:=by omega
     have sf513:0≤(IntKind.i64.wrap ((IntKind.i64.wrap ((IntKind.i64.wrap (IntKind.u8.wrap ((a2).tdiv 4)))+(IntKind.i64.wrap (p146))))+p265)).tmod (p148.length:Int):=by omega
     obtain⟨_,u514,hr480⟩:=bs hr480;obtain⟨u514_0,u514_1⟩:=ZO u514;have sf515:(IntKind.i64.wrap (((IntKind.i64.wrap ((IntKind.i64.wrap ((IntKind.i64.wrap (IntKind.u8.wrap ((a2).tdiv 4)))+(IntKind.i64.wrap (p146))))+p265)).tmod (p148.length:Int))+1)).toNat≤p148.length:=by omega
     obtain⟨_,u516,hr480⟩:=bs hr480;have u516_0:=ZO u516;have u516_0N:=u516_0;try simp at u516_0N
     have n1_u516_0:(((p148).take ((IntKind.i64.wrap ((IntKind.i64.wrap ((IntKind.i64.wrap (IntKind.u8.wrap ((a2).tdiv 4)))+(IntKind.i64.wrap (p146))))+p265)).tmod (p148.length:Int)).toNat).length+(((p148).drop (IntKind.i64.wrap (((IntKind.i64.wrap ((IntKind.i64.wrap ((IntKind.i64.wrap (IntKind.u8.wrap ((a2).tdiv 4)))+(IntKind.i64.wrap (p146))))+p265)).tmod (p148.length:Int))+1)).toNat).take (p148.length-(IntKind.i64.wrap (((IntKind.i64.wrap ((IntKind.i64.wrap ((IntKind.i64.wrap (IntKind.u8.wrap ((a2).tdiv 4)))+(IntKind.i64.wrap (p146))))+p265)).tmod (p148.length:Int))+1)).toNat)).length) * 88≤140737488355328:=by
      have h:=u516_0;try simp at h
      first | omega | (simp only[List.length_take,List.length_drop] at h ⊢; omega) | (simp only[List.length_take,List.length_drop]; omega)
     have n2_u516_0:((p148).take ((IntKind.i64.wrap ((IntKind.i64.wrap ((IntKind.i64.wrap (IntKind.u8.wrap ((a2).tdiv 4)))+(IntKind.i64.wrap (p146))))+p265)).tmod (p148.length:Int)).toNat).length+(((p148).drop (IntKind.i64.wrap (((IntKind.i64.wrap ((IntKind.i64.wrap ((IntKind.i64.wrap (IntKind.u8.wrap ((a2).tdiv 4)))+(IntKind.i64.wrap (p146))))+p265)).tmod (p148.length:Int))+1)).toNat).take (p148.length-(IntKind.i64.wrap (((IntKind.i64.wrap ((IntKind.i64.wrap ((IntKind.i64.wrap (IntKind.u8.wrap ((a2).tdiv 4)))+(IntKind.i64.wrap (p146))))+p265)).tmod (p148.length:Int))+1)).toNat)).length≤9223372036854775807:=by
      have h:=u516_0;try simp at h
      first | omega | (simp only[List.length_take,List.length_drop] at h ⊢; omega) | (simp only[List.length_take,List.length_drop]; omega)
     have n1s_u516_0:=n1_u516_0;try simp only[List.length_drop,List.length_take,Nat.min_self,Nat.sub_le_iff_le_add,Nat.min_eq_left,sf512,sf513,sf515] at n1s_u516_0
     have n2s_u516_0:=n2_u516_0;try simp only[List.length_drop,List.length_take,Nat.min_self,Nat.sub_le_iff_le_add,Nat.min_eq_left,sf512,sf513,sf515] at n2s_u516_0
     refine Z6 rfl (by simp[-Int.natCast_tdiv_eq_ediv,Nat.add_assoc,u511_0,u511_1,sf512,sf513,u514_0,u514_1,sf515,u516_0N,n1_u516_0,n2_u516_0,n1s_u516_0,n2s_u516_0,c426,c481,c481M,c485]; first | exact⟨rfl,rfl⟩ | rfl) (by kernel_rfl) ?_;obtain⟨y517,hy517,hr480⟩:=bs hr480;have ehy517:=K80.q1 hy517;simp only[K80,kS,nf,nfs,Z5] at ehy517;refine Zd rfl (by simp[-Int.natCast_tdiv_eq_ediv,Nat.add_assoc,hO,hT80,ehy517,c426,c481,c481M,c485] <;> rfl) ?_;refine ZA ?_;refine Zd rfl (by simp[-Int.natCast_tdiv_eq_ediv,Nat.add_assoc,c426,c481,c481M,c485] <;> rfl) ?_;refine Zx ?_;refine Xs (kq:=⟨[2,3,4,8,9,10,11,18,91,92,93],[3,4,18,23,75,100069],[]⟩) (H:=fun(s:Int×(List Tapi_Coin))=>match s with | (p308,p309)=>(⟨(und 2++([.one (.v (.int .u8 a2)),.ptr 3 0 0 0 80,.ptr 4 0 0 0 34]++(und 3++([.one (.ms 75 0 0 (p147.length+1) 4),.one (.v (.int .i64 (IntKind.i64.wrap (p145+y509.2)))),.one (.ms 23 0 0 (p309.length) 37),.one (.v (.int .u8 p146))]++(und 6++([.ptr 18 0 0 0 32]++(und 72++([.one (.ms 100069 0 0 (y509.1.2.2.1.length) 2),.one (.v (.int .i64 (y509.1.2.2.1.length:Int))),.one (.v (.int .i64 p308))]++(und 19)))))))):List PV),([(3,⟨0,80,[(.v (.int .u32 a0.1.1)) :: ((arC .u8 a0.1.2.1)++((arC .u8 a0.1.2.2.1)++((.v (.int .u32 a0.1.2.2.2.1)) :: ((.v (.int .u32 a0.1.2.2.2.2.1)) :: ((.v (.int .u32 a0.1.2.2.2.2.2)) :: ((arC .u64 a0.2.1)++((.v (.int .i64 a0.2.2.1)) :: ((.v (.int .u32 a0.2.2.2.1)) :: ((.v (.int .u32 a0.2.2.2.2.1)) :: ((.v (.int .u32 a0.2.2.2.2.2.1)) :: ((.slice .no (List.map eapi_Checkpoint a0.2.2.2.2.2.2.1)) :: ((.v (.int .i64 a0.2.2.2.2.2.2.2.1)) :: ((.v (.int .i64 a0.2.2.2.2.2.2.2.2.1)) :: ((.v (.int .i64 a0.2.2.2.2.2.2.2.2.2)) :: []))))))))))))))],false,false⟩),(4,⟨0,34,[(.v (.int .i64 a1.1)) :: ((arC .u8 a1.2.1)++((.slice .no (List.map Zs a1.2.2)) :: []))],false,false⟩),(18,⟨0,32,[arC .u8 y517],false,false⟩),(23,⟨0,37,List.map Zs p309,false,true⟩),(75,⟨0,4,List.map ZQ (p147++[(y509.1.1,y509.1.2.1,y509.1.2.2.1,y509.1.2.2.2)]),false,true⟩),(100069,⟨0,2,List.map Y2 y509.1.2.2.1,true,true⟩)]:Boxes)⟩:ASt)) (by kernel_rfl) hr480 (by simp[-Int.natCast_tdiv_eq_ediv,Nat.add_assoc,und,List.replicate,Nat.min_eq_left sf512,c426,c481,c481M,c485]) ?_;rintro⟨p308,p309⟩ x524r hr524
     simp only[Zcg] at hr524;unfold b90_3;simp only[und,List.replicate,List.cons_append,List.nil_append];refine Zd rfl (by simp[-Int.natCast_tdiv_eq_ediv,Nat.add_assoc,c426,c481,c481M,c485] <;> rfl) ?_;by_cases c525:p308<(y509.1.2.2.1.length:Int)
     ·skip
      have c525N:=c525;try simp at c525N
      first | have c525M:(_=_)=True:=eq_true c525N | have c525M:=c525N
      rw[if_pos] at hr524;rotate_left
      ·simp[-Int.natCast_tdiv_eq_ediv,Nat.add_assoc,c426,c481,c481M,c485,c525,c525M]
      refine Zw (by simp[-Int.natCast_tdiv_eq_ediv,Nat.add_assoc,bV,c426,c481,c481M,c485,c525,c525M]) ?_;refine ZD ?_;refine Zx ?_;obtain⟨j526,hj526,hr524⟩:=bs hr524;obtain⟨j526a,j526b,j526c⟩:=Yj hj526;obtain⟨x527,hx527,hr524⟩:=bs hr524;have ghx527:=Yb hx527;refine Zd rfl (by simp[-Int.natCast_tdiv_eq_ediv,Nat.add_assoc,j526a,j526b,j526c,hx527,ghx527,c426,c481,c481M,c485,c525,c525M] <;> rfl) ?_;obtain⟨_,u528,hr524⟩:=bs hr524;have u528_0:=ZO u528;have n1_u528_0:(p309.length+1) * 88≤140737488355328:=by omega
      have n2_u528_0:p309.length+1≤9223372036854775807:=by omega
      refine Xb rfl (by simp[-Int.natCast_tdiv_eq_ediv,Nat.add_assoc,n1_u528_0,n2_u528_0,c426,c481,c481M,c485,c525,c525M] <;> rfl) ?_;simp only[pq,reduceCtorEq];refine Xb rfl (by simp[-Int.natCast_tdiv_eq_ediv,Nat.add_assoc,c426,c481,c481M,c485,c525,c525M] <;> rfl) ?_;obtain rfl:=Option.some.inj hr524;simp only[pq,reduceCtorEq];simp[-Int.natCast_tdiv_eq_ediv,Nat.add_assoc,und,List.replicate,Nat.add_assoc,c426,c481,c481M,c485,c525,c525M]
     ·skip
      have c525N:=c525;try simp at c525N
      first | have c525M:(_=_)=True:=eq_true c525N | have c525M:=c525N
      rw[if_neg] at hr524;rotate_left
      ·simp[-Int.natCast_tdiv_eq_ediv,Nat.add_assoc,c426,c481,c481M,c485,c525,c525M]
      refine Zv (by simp[-Int.natCast_tdiv_eq_ediv,Nat.add_assoc,bV,c426,c481,c481M,c485,c525,c525M]) ?_;refine Z7 ?_;obtain⟨r529,q529,rfl⟩:=ms hr524;simp only[pq,reduceCtorEq];rintro rfl
      try simp only[pq,reduceCtorEq]
      unfold Zcf at q529;refine ZnV ?_;obtain⟨r530,q530,rfl⟩:=ms q529;simp only[pq,reduceCtorEq];rintro rfl
      try simp only[pq,reduceCtorEq]
      exact ZiE (key:=1000006) (kq:=⟨[2,3,4,8,9,10,11],[3,4,23,75],[]⟩) rfl rfl rfl (by simp[-Int.natCast_tdiv_eq_ediv,Nat.add_assoc,und,List.replicate,c426,c481,c481M,c485,c525,c525M]) (J479 (IntKind.i64.wrap (p145+y509.2),p147++[(y509.1.1,y509.1.2.1,y509.1.2.2.1,y509.1.2.2.2)],p309) q530)
   ·skip
    have c481N:=c481;try simp at c481N
    first | have c481M:(_=_)=True:=eq_true c481N | have c481M:=c481N
    rw[if_neg] at hr480;rotate_left
    ·simp[-Int.natCast_tdiv_eq_ediv,Nat.add_assoc,c426,c481,c481M]
    refine Zv (by simp[-Int.natCast_tdiv_eq_ediv,Nat.add_assoc,bV,c426,c481,c481M]) ?_;refine Z7 ?_;obtain⟨r531,q531,rfl⟩:=ms hr480;simp only[pq,reduceCtorEq];rintro rfl
    try simp only[pq,reduceCtorEq]
    exact ZiE (key:=1000006) (kq:=⟨[2,3,4,8,9,10,11],[3,4,23,75],[]⟩) rfl rfl rfl (by simp[-Int.natCast_tdiv_eq_ediv,Nat.add_assoc,und,List.replicate,c426,c481,c481M]) (J479 (p145,p147,p148) q531)
 ·skip
  rw[if_neg] at hr425;rotate_left
  ·simp[-Int.natCast_tdiv_eq_ediv,Nat.add_assoc,c426]
  refine Zv (by simp[-Int.natCast_tdiv_eq_ediv,Nat.add_assoc,bV,c426]) ?_;refine Z7 ?_;obtain⟨r532,q532,rfl⟩:=ms hr425;simp only[pq,reduceCtorEq];rintro rfl
  try simp only[pq,reduceCtorEq]
  unfold Zh2 at q532;refine Zd rfl (by simp[-Int.natCast_tdiv_eq_ediv,Nat.add_assoc,c426]; rfl) ?_;refine Zai ?_;obtain rfl:=Option.some.inj q532;simp[-Int.natCast_tdiv_eq_ediv,Nat.add_assoc,YP,c426]
end Go.Proofs.YtbppknpnmjhjpaaGreatDoor
