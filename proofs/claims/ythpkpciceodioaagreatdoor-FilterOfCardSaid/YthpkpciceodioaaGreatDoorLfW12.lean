import Derived.Test.YthpkpciceodioaaGreatDoorLfK
import Derived.Test.YthpkpciceodioaaGreatDoorCode
import Derived.Test.YthpkpciceodioaaGreatDoorBl
namespace Go.Proofs.YthpkpciceodioaaGreatDoor
open Go.RowKit
open Go.Av
open Go.Lc
set_option maxRecDepth 100000
set_option linter.unusedSimpArgs false
set_option linter.unusedVariables false
set_option maxHeartbeats 4000000
theorem w169:Walk tt G [(173,K173.G)] (fun _=>[]) Tryz.f169 K169:=by
 refine .of [(4,⟨[1,3],[1],[]⟩)] false body169 Tryz.ntmps169 fun T hO hT a0 x hr=>⟨by simp,?_⟩
 simp only [Zi] at hT; simp only at hr ⊢; unfold c169;unfold ZcM at hr;refine Xd ?_;by_cases c7:a0.2<0
 ·refine Xd ?_
  replace hr:=ifP hr
  refine Xd ?_;exact fin hr
 ·by_cases c8:1600000<a0.2
  ·refine Xd ?_
   replace hr:=ifP hr
   refine Xd ?_;exact fin hr
  ·refine Xd ?_
   rcases eqT ((a0.1.length:Int)=IntKind.i64.wrap ((IntKind.i64.wrap (a0.2+7)).tdiv 8)) with c9 | c9
   ·have c9N:=nrm c9
    replace hr:=ifN hr
    refine Xd ?_;refine lp 4 (fun (p4:Int)=>⟨(und 1++([.ptr 1 0 0 0 2]++(und 1++([.one (.v (.int .i64 p4))]++(und 31)))):List PV),([(1,⟨0,2,[[.slice .no (Zd .u8 a0.1),.v (.int .i64 a0.2)]],false,false⟩)]:Boxes)⟩) hr ?_;rintro p4 x15r hr15
    simp only [Zcn] at hr15;unfold b169_1;refine nst ?_;refine Xd ?_;by_cases c16:p4<IntKind.i64.wrap (8 * (a0.1.length:Int))
    ·have c16N:=nrm c16
     replace hr15:=ifP hr15
     refine Xd ?_;obtain ⟨y17,ehy17,hr15⟩:=bN hr15 Zt4;refine Xd ?_;by_cases c18:y17=true
     ·replace hr15:=ifP hr15
      refine Xd ?_;exact fin hr15
     ·replace hr15:=ifN hr15
      refine Xd ?_;exact bk hr15
    ·have c16N:=nrm c16
     replace hr15:=ifN hr15
     refine Xd ?_;obtain ⟨r19,q19,rfl⟩:=ms hr15;refine Xd ?_;rintro rfl
     refine Xd ?_;unfold Lref18_Valid_k1 at q19;refine Xd ?_;exact fin q19
   ·have c9N:=nrm c9
    replace hr:=ifP hr
    refine Xd ?_;exact fin hr
theorem w170_13:Walk tt G [] (fun _=>[]) Tryz.f170 K170_13:=by
 refine .of [(1000003,⟨[1,2,4],[2,4,99000000],[]⟩),(1000005,⟨[2,4],[2,4,99000000],[]⟩)] true body170 Tryz.ntmps170 fun T hO hT ⟨a0,a1⟩ x hr=>⟨by simp,?_⟩
 simp only [Zi] at hT; simp only at hr ⊢; unfold c170;unfold Zco at hr;refine go ?_;refine ZaU hr (fun (s:(List Int))=>match s with | p2=>(⟨(und 1++([.one (.v (.bool a1)),.ptr 2 0 0 0 2]++(und 1++([.ptr 4 0 0 0 2]++(und 29)))):List PV),([(2,⟨0,2,[[.ms 99000000 0 0 (p2.length) 1,.v (.int .i64 a0.2)]],false,false⟩),(4,⟨0,2,[[.slice .nil [],.v (.int .i64 0)]],false,false⟩),(99000000,⟨0,1,Zd .u8 p2,false,true⟩)]:Boxes)⟩:ASt)) (fun (s:(List Int))=>match s with | p2=>ZaL a1 a0 p2) ?_ ?_
 ·rintro p2 hk13
  change ZaL a1 a0 p2=_ at hk13
  refine nst ?_;unfold ZaL at hk13;refine go ?_;refine Xe rfl (kq:=⟨[1,2,4],[2,4,99000000],[]⟩) rfl (by simp [Yq, *]; rfl) (by simp [*]; rfl) ?_;refine ZaU hk13 (fun (s:(List Int))=>match s with | p6=>(⟨(und 2++([.ptr 2 0 0 0 2]++(und 1++([.ptr 4 0 0 0 2]++(und 29)))):List PV),([(2,⟨0,2,[[.ms 99000000 0 0 (p6.length) 1,.v (.int .i64 a0.2)]],false,false⟩),(4,⟨0,2,[[.slice .nil [],.v (.int .i64 0)]],false,false⟩),(99000000,⟨0,1,Zd .u8 p6,false,true⟩)]:Boxes)⟩:ASt)) (fun (s:(List Int))=>match s with | p6=>Zbv a0 p6) ?_ ?_
  ·rintro p6 hk18
   change Zbv a0 p6=_ at hk18
   refine nst ?_;unfold Zbv at hk18;refine Xe rfl (kq:=⟨[2,4],[2,4,99000000],[]⟩) rfl (by simp [Yq, *]; rfl) (by simp [*]; rfl) ?_;refine go ?_;exact fin hk18
  ·intro J18
   by_cases c19:a1=true
   ·replace hk13:=ifP hk13
    refine go ?_;obtain ⟨j20,⟨_,_,_⟩,hk13⟩:=bA hk13;obtain ⟨x21,hx21,hk13⟩:=bs hk13;have ghx21:=Zk hx21;obtain ⟨_,hk13⟩:=bC hk13;refine go ?_;exact jn 1000005 (J18 ((p2).set j20 (bits .or .u8 x21 (IntKind.u8.wrap (1 * (2 ^ (min (IntKind.i64.wrap (7-((a0.2).tmod 8))).toNat 8)))))) hk13)
   ·replace hk13:=ifN hk13
    refine go ?_;exact jn 1000005 (J18 p2 hk13)
 ·intro J13
  rcases eqT ((a0.2).tmod 8=0) with c23 | c23
  ·replace hr:=ifP hr
   refine go ?_;obtain ⟨_,hr⟩:=bC hr;have n1_u24_0:a0.1.length+1≤140737488355328:=by omega
   have n2_u24_0:a0.1.length+1≤9223372036854775807:=by omega
   refine go ?_;exact jn 1000003 (J13 (a0.1++[0]) hr)
  ·replace hr:=ifN hr
   refine go ?_;exact jn 1000003 (J13 a0.1 hr)
theorem w118:Walk tt G [(45,K45.G),(169,K169.G),(170,K170_13.G)] (fun d=>if d=58 then [[1]] else if d=60 then [[1]] else if d=73 then [[1]] else []) Tryz.f118 K118:=by
 refine .of [(9,⟨[1,2,6,8,9],[6,8,800800],[(8,some 0,800800,0),(8,some 0,800800,1)]⟩),(14,⟨[1,6,8,10],[6,8,800800],[(8,some 0,800800,0),(8,some 0,800800,1)]⟩)] false body118 Tryz.ntmps118 fun T hO hT ⟨a0,a1,a2⟩ x hr=>⟨by simp,?_⟩
 simp only [Zi] at hT; simp only at hr ⊢; unfold c118;unfold Zaf at hr;refine go ?_;obtain ⟨y32,ehy32,hr⟩:=bN hr Zt5;refine go ?_;by_cases c33:y32=true
 ·replace hr:=ifN hr
  refine go ?_;by_cases c34:a2<0
  ·refine go ?_
   replace hr:=ifP hr
   refine go ?_;exact fin hr
  ·refine go ?_
   by_cases c35:32<a2
   ·replace hr:=ifP hr
    refine go ?_;exact fin hr
   ·replace hr:=ifN hr
    refine go ?_;obtain ⟨_,hr⟩:=bC hr;by_cases c37:65536<(a1).fdiv (2 ^ (min (a2).toNat 64))
    ·have c37N:=nrm c37
     replace hr:=ZiY hr
     obtain ⟨_,hz38,hr⟩:=bs hr;obtain rfl:=Option.some.inj hz38;refine go ?_
     replace hr:=ifP hr
     refine go ?_;exact fin hr
    ·have c37N:=nrm c37
     replace hr:=ZiZ hr
     obtain ⟨_,hz39,hr⟩:=bs hr;obtain ⟨_,hz39⟩:=bC hz39;obtain rfl:=Option.some.inj hz39;refine go ?_;by_cases c41:1600000<IntKind.i64.wrap ((IntKind.i64.wrap ((IntKind.i64.wrap (a0.2+(IntKind.i64.wrap ((a1).fdiv (2 ^ (min (a2).toNat 64))))))+1))+a2)
     ·have c41N:=nrm c41
      replace hr:=ifP hr
      refine go ?_;exact fin hr
     ·have c41N:=nrm c41
      replace hr:=ifN hr
      refine go ?_;obtain ⟨_,ehy42,hr⟩:=bN hr Zq6;refine go ?_;obtain ⟨_,hr⟩:=bC hr;refine go ?_;refine lp 9 (fun (⟨p12,p13,p14⟩:Int×Int×(List Int))=>⟨(und 1++([.one (.v (.int .u64 a1)),.one (.v (.int .i64 a2))]++(und 3++([.ptr 6 0 0 0 2]++(und 1++([.ptr 8 0 0 0 2,.one (.v (.int .u64 p12))]++(und 65)))))):List PV),([(6,⟨0,2,[[.slice .nil [],.v (.int .i64 0)]],false,false⟩),(8,⟨0,2,[[.ms 800800 0 0 (p14.length) 1,.v (.int .i64 p13)]],false,false⟩),(800800,⟨0,1,Zd .u8 p14,false,true⟩)]:Boxes)⟩) hr ?_;rintro ⟨p12,p13,p14⟩ x48r hr48
      simp only [ZaF] at hr48;unfold b118_1;refine nst ?_;refine go ?_;by_cases c49:0<p12
      ·replace hr48:=ifP hr48
       refine go ?_;obtain ⟨_,ehy50,hr48⟩:=bN hr48 Zjc;refine go ?_;exact bk hr48
      ·replace hr48:=ifN hr48
       refine go ?_;obtain ⟨r51,q51,rfl⟩:=ms hr48;refine go ?_;rintro rfl
       refine go ?_;unfold Zc5 at q51;obtain ⟨_,ehy52,q51⟩:=bN q51 Zjc;refine go ?_;refine lp 14 (fun (⟨p24,p25,p26⟩:Int×Int×(List Int))=>⟨(und 1++([.one (.v (.int .u64 a1))]++(und 4++([.ptr 6 0 0 0 2]++(und 1++([.ptr 8 0 0 0 2]++(und 1++([.one (.v (.int .i64 p24))]++(und 64)))))))):List PV),([(6,⟨0,2,[[.slice .nil [],.v (.int .i64 0)]],false,false⟩),(8,⟨0,2,[[.ms 800800 0 0 (p26.length) 1,.v (.int .i64 p25)]],false,false⟩),(800800,⟨0,1,Zd .u8 p26,false,true⟩)]:Boxes)⟩) q51 ?_;rintro ⟨p24,p25,p26⟩ x58r hr58
       simp only [Zac] at hr58;unfold b118_2;refine nst ?_;refine go ?_;by_cases c59:0≤p24
       ·replace hr58:=ifP hr58
        refine go ?_;obtain ⟨_,hr58⟩:=bC hr58;obtain ⟨_,ehy61,hr58⟩:=bN hr58 Zjc;refine go ?_;exact bk hr58
       ·replace hr58:=ifN hr58
        refine go ?_;obtain ⟨r62,q62,rfl⟩:=ms hr58;refine go ?_;rintro rfl
        refine go ?_;unfold Zc4 at q62;refine go ?_;exact fin q62
 ·replace hr:=ifP hr
  refine go ?_;exact fin hr
theorem w76:Walk tt G [(118,K118.G)] (fun _=>[]) Tryz.f76 K76:=by
 refine .of [(6,⟨[0,1,4,6],[4],[]⟩),(13,⟨[0,1,4,7,8,41,42,43],[4,7],[(7,some 0,0,0)]⟩)] false body76 Tryz.ntmps76 fun T hO hT ⟨a0,a1⟩ x hr=>⟨by simp,?_⟩
 simp only [Zi] at hT; simp only at hr ⊢; unfold c76;unfold Zbw at hr;refine go ?_;by_cases c27:4096<(a0.length:Int)
 ·have c27N:=nrm c27
  replace hr:=ifP hr
  refine go ?_;exact fin hr
 ·have c27N:=nrm c27
  replace hr:=ifN hr
  refine go ?_;by_cases c28:a1<0
  ·refine go ?_
   replace hr:=ifP hr
   refine go ?_;exact fin hr
  ·refine go ?_
   by_cases c29:32<a1
   ·replace hr:=ifP hr
    refine go ?_;exact fin hr
   ·replace hr:=ifN hr
    refine go ?_;refine lp 6 (fun (p6:Int)=>⟨([.one (.slice .no (Zd .u64 a0)),.one (.v (.int .i64 a1))]++(und 2++([.ptr 4 0 0 0 2]++(und 1++([.one (.v (.int .i64 p6))]++(und 61))))):List PV),([(4,⟨0,2,[[.v (.int .i64 0),.slice .nil []]],false,false⟩)]:Boxes)⟩) hr ?_;rintro p6 x36r hr36
    simp only [Za3] at hr36;unfold b76_1;refine nst ?_;refine go ?_;by_cases c37:p6<(a0.length:Int)
    ·have c37N:=nrm c37
     replace hr36:=ifP hr36
     refine go ?_;obtain ⟨x38,⟨_,_,_⟩,hr36⟩:=bI hr36;obtain ⟨x39,⟨_,_,_⟩,hr36⟩:=bI hr36;refine go ?_;by_cases c40:x39<x38
     ·replace hr36:=ifP hr36
      refine go ?_;exact fin hr36
     ·replace hr36:=ifN hr36
      refine go ?_;exact bk hr36
    ·have c37N:=nrm c37
     replace hr36:=ifN hr36
     refine go ?_;obtain ⟨r41,q41,rfl⟩:=ms hr36;refine go ?_;rintro rfl
     refine go ?_;unfold Zfj at q41;refine go ?_;refine lp 13 (fun (⟨p17,p18,p19,p20⟩:Int×Int×(List Int)×Int)=>⟨([.one (.slice .no (Zd .u64 a0)),.one (.v (.int .i64 a1))]++(und 2++([.ptr 4 0 0 0 2]++(und 2++([.ptr 7 0 0 0 2,.one (.v (.int .u64 p17))]++(und 32++([.one (.slice .no (Zd .u64 a0)),.one (.v (.int .i64 (a0.length:Int))),.one (.v (.int .i64 p18))]++(und 24))))))):List PV),([(4,⟨0,2,[[.v (.int .i64 0),.slice .nil []]],false,false⟩),(7,⟨0,2,[[.slice .no (Zd .u8 p19),.v (.int .i64 p20)]],false,false⟩)]:Boxes)⟩) q41 ?_;rintro ⟨p17,p18,p19,p20⟩ x48r hr48
     simp only [Zc6] at hr48;unfold b76_2;refine nst ?_;refine go ?_;by_cases c49:p18<(a0.length:Int)
     ·have c49N:=nrm c49
      replace hr48:=ifP hr48
      refine go ?_;obtain ⟨_,⟨_,_,_⟩,hr48⟩:=bI hr48;refine go ?_;obtain ⟨y51,ehy51,hr48⟩:=bN hr48 Zt6;refine go ?_;rcases eqT (y51.2=0) with c52 | c52
      ·replace hr48:=ifN hr48
       refine go ?_;exact bk hr48
      ·replace hr48:=ifP hr48
       refine go ?_;exact fin hr48
     ·have c49N:=nrm c49
      replace hr48:=ifN hr48
      refine go ?_;obtain ⟨r53,q53,rfl⟩:=ms hr48;refine go ?_;rintro rfl
      refine go ?_;unfold Zfi at q53;refine go ?_;exact fin q53
def kp77:Keep:=fun i=>if i=1000009 then ⟨[3,4,5],[900005],[]⟩ else if i=5 then ⟨[3,4,5],[900005],[(5,none,900005,1)]⟩ else ⟨[],[],[]⟩
theorem w77 {T:Tab} (n:Nat) (hO:T.own=fun _=>[]) (hT77:T 77=some (ZpO n)) (a0:(List Int)) (x:(List Int)) (hr:Zcp (Lref19_sorted_n n) a0=some x):∃ kp fl n,Xj tt T G kp fl n Tryz.f77 (E77 a0)=some (R77 a0 x):=by
 simp only [E77,R77];refine fnE (kp:=kp77) (w:=false) body77 (by simp) ?_;unfold c77;rw [Tryz.ntmps77];unfold Zcp at hr;refine Ze rfl (by simp [-Int.natCast_tdiv_eq_ediv,]; rfl) ?_;refine ZE ?_;refine Ze rfl (by simp [-Int.natCast_tdiv_eq_ediv,]; rfl) ?_;by_cases c44:(a0.length:Int)<2
 ·skip
  have c44N:=c44;try simp at c44N
  first | have c44M:(_=_)=True:=eq_true c44N | have c44M:=c44N
  rw [if_pos c44] at hr;refine ZK (by simp [-Int.natCast_tdiv_eq_ediv,bV,c44]) ?_;refine ZE ?_;refine Ze rfl (by simp [-Int.natCast_tdiv_eq_ediv,c44] <;> rfl) ?_;refine Zck ?_;obtain rfl:=Option.some.inj hr;simp [-Int.natCast_tdiv_eq_ediv,ZaN]
 ·skip
  have c44N:=c44;try simp at c44N
  first | have c44M:(_=_)=True:=eq_true c44N | have c44M:=c44N
  rw [if_neg c44] at hr;refine Zn (by simp [-Int.natCast_tdiv_eq_ediv,bV,c44]) ?_;refine ZB ?_;obtain ⟨_,u45,hr⟩:=bs hr;obtain ⟨u45_0,u45_1⟩:=ZC u45;have sf46:(IntKind.i64.wrap (((a0.length:Int)).tdiv 2)).toNat≤a0.length:=by omega
  obtain ⟨y48,hy48,hr⟩:=bs hr;have ehy48:=ZoQ hy48;simp only [E77,R77,nf] at ehy48;obtain ⟨_,u49,hr⟩:=bs hr;obtain ⟨u49_0,u49_1⟩:=ZC u49;obtain ⟨y51,hy51,hr⟩:=bs hr;have ehy51:=ZoQ hy51;simp only [E77,R77,nf] at ehy51;refine ZY rfl (by simp [-Int.natCast_tdiv_eq_ediv,u45_1,sf46,hO,hT77,ehy48,ehy51,c44]; first | exact ⟨rfl,rfl⟩ | rfl) (by kernel_rfl) ?_;refine Ze rfl (by simp [-Int.natCast_tdiv_eq_ediv] <;> rfl) ?_;refine Yh ?_;refine ZeA hr (.exit 0) (fun (s:(List Int)×(List Int)×(List Int))=>match s with | (p29,p27,p28)=>(⟨(und 3++([.one (.slice .no (Zd .u64 p27)),.one (.slice .no (Zd .u64 p28)),.one (.ms 900005 0 0 (p29.length) 1)]++(und 52)):List PV),([(900005,⟨0,1,Zd .u64 p29,false,true⟩)]:Boxes)⟩:ASt)) (fun (s:(List Int)×(List Int)×(List Int))=>match s with | (p29,p27,p28)=>Zaw p29 p27 p28) ?_ ?_
  ·skip
   rintro ⟨p29,p27,p28⟩ hk66
   change Zaw p29 p27 p28=_ at hk66
   simp only [pq];simp only [und,List.replicate,List.cons_append,List.nil_append];unfold Zaw at hk66;obtain ⟨_,u67,hk66⟩:=bs hk66;have u67_0:=ZC u67;have n1_u67_0:(p29.length+p27.length) * 8≤140737488355328:=by omega
   have n2_u67_0:p29.length+p27.length≤9223372036854775807:=by omega
   obtain ⟨_,u68,hk66⟩:=bs hk66;have u68_0:=ZC u68
   have n1_u68_0:(p29.length+(p27.length+p28.length)) * 8≤140737488355328:=by
    have h:=u68_0;try simp at h
    omega
   have n2_u68_0:p29.length+(p27.length+p28.length)≤9223372036854775807:=by
    have h:=u68_0;try simp at h
    omega
   refine Xe rfl (kq:=⟨[3,4,5],[900005],[]⟩) rfl (by simp [-Int.natCast_tdiv_eq_ediv,Yq]; rfl) (by simp [-Int.natCast_tdiv_eq_ediv,Nat.add_assoc,n1_u67_0,n2_u67_0,n1_u68_0,n2_u68_0] <;> rfl) ?_;refine ZbR ?_;obtain rfl:=Option.some.inj hk66;simp [-Int.natCast_tdiv_eq_ediv,ZaN]
  ·skip
   intro J66;simp only [pq] at J66;refine XR (kq:=⟨[3,4,5],[900005],[(5,none,900005,1)]⟩) (H:=fun (s:(List Int)×(List Int)×(List Int))=>match s with | (p27,p28,p29)=>(⟨(und 3++([.one (.slice .no (Zd .u64 p27)),.one (.slice .no (Zd .u64 p28)),.one (.ms 900005 0 0 (p29.length) 1)]++(und 52)):List PV),([(900005,⟨0,1,Zd .u64 p29,false,true⟩)]:Boxes)⟩:ASt)) (by kernel_rfl) hr (by simp [-Int.natCast_tdiv_eq_ediv,und,List.replicate]) ?_;rintro ⟨p27,p28,p29⟩ x69r hr69
   simp only [Lref19_sorted_s1] at hr69;unfold b77_1;simp only [und,List.replicate,List.cons_append,List.nil_append];refine ZE ?_;by_cases c70:0<(p27.length:Int)
   ·skip
    have c70N:=c70;try simp at c70N
    first | have c70M:(_=_)=True:=eq_true c70N | have c70M:=c70N
    refine Ze rfl (by simp [-Int.natCast_tdiv_eq_ediv,c70M] <;> rfl) ?_;by_cases c71:0<(p28.length:Int)
    ·skip
     have c71N:=c71;try simp at c71N
     first | have c71M:(_=_)=True:=eq_true c71N | have c71M:=c71N
     rw [if_pos] at hr69;rotate_left
     ·simp [-Int.natCast_tdiv_eq_ediv,c70M,c71M]
     refine ZK (by simp [-Int.natCast_tdiv_eq_ediv,bV,c71M]) ?_;refine ZB ?_;refine XX ?_;obtain ⟨x72,hx72,hr69⟩:=bs hr69;have hx72c:=Zk hx72;obtain ⟨x73,hx73,hr69⟩:=bs hr69;have hx73c:=Zk hx73;refine ZY rfl (by simp [-Int.natCast_tdiv_eq_ediv,hx72c,hx73c,c70M,c71M]; first | exact ⟨rfl,rfl⟩ | rfl) (by kernel_rfl) ?_;by_cases c74:x72≤x73
     ·skip
      rw [if_pos c74] at hr69;refine Zcx (by simp [-Int.natCast_tdiv_eq_ediv,bV,c74]) ?_;have hx72c:=Zk hx72;obtain ⟨_,u75,hr69⟩:=bs hr69;have u75_0:=ZC u75;have n1_u75_0:(p29.length+1) * 8≤140737488355328:=by omega
      have n2_u75_0:p29.length+1≤9223372036854775807:=by omega
      obtain ⟨_,u76,hr69⟩:=bs hr69;have u76_0:=ZC u76;have sf77:1≤p27.length:=by omega
      refine Zhh rfl (by simp [-Int.natCast_tdiv_eq_ediv,hx72c,n1_u75_0,n2_u75_0,sf77,c70M,c74]; first | exact ⟨rfl,rfl⟩ | rfl) (by kernel_rfl) ?_;obtain rfl:=Option.some.inj hr69;simp only [pq];simp [-Int.natCast_tdiv_eq_ediv]
     ·skip
      rw [if_neg c74] at hr69;refine Zcy (by simp [-Int.natCast_tdiv_eq_ediv,bV,c74]) ?_;have hx73c:=Zk hx73;obtain ⟨_,u78,hr69⟩:=bs hr69;have u78_0:=ZC u78;have n1_u78_0:(p29.length+1) * 8≤140737488355328:=by omega
      have n2_u78_0:p29.length+1≤9223372036854775807:=by omega
      obtain ⟨_,u79,hr69⟩:=bs hr69;have u79_0:=ZC u79;have sf80:1≤p28.length:=by omega
      refine Zhh rfl (by simp [-Int.natCast_tdiv_eq_ediv,hx73c,n1_u78_0,n2_u78_0,sf80,c71M,c74]; first | exact ⟨rfl,rfl⟩ | rfl) (by kernel_rfl) ?_;obtain rfl:=Option.some.inj hr69;simp only [pq];simp [-Int.natCast_tdiv_eq_ediv]
    ·skip
     have c71N:=c71;try simp at c71N
     first | have c71M:(_=_)=True:=eq_true c71N | have c71M:=c71N
     have c71L:¬ 0<p28.length:=by omega
     rw [if_neg] at hr69;rotate_left
     ·simp [-Int.natCast_tdiv_eq_ediv,c70M,c71L]
     refine Zn (by simp [-Int.natCast_tdiv_eq_ediv,bV,c71L]) ?_;refine Z4 ?_;obtain ⟨r81,q81,rfl⟩:=ms hr69;simp only [pq];rintro rfl
     try simp only [pq,reduceCtorEq]
     exact Xh (key:=1000009) (kq:=⟨[3,4,5],[900005],[]⟩) rfl rfl rfl (by simp [-Int.natCast_tdiv_eq_ediv,und,List.replicate,c71L]) (J66 (p29,p27,p28) q81)
   ·skip
    have c70N:=c70;try simp at c70N
    first | have c70M:(_=_)=True:=eq_true c70N | have c70M:=c70N
    have c70L:¬ 0<p27.length:=by omega
    refine Ze rfl (by simp [-Int.natCast_tdiv_eq_ediv,c70L] <;> rfl) ?_;rw [if_neg] at hr69;rotate_left
    ·simp [-Int.natCast_tdiv_eq_ediv,c70L]
    refine Zn (by simp [-Int.natCast_tdiv_eq_ediv,bV]) ?_;refine Z4 ?_;obtain ⟨r82,q82,rfl⟩:=ms hr69;simp only [pq];rintro rfl
    try simp only [pq,reduceCtorEq]
    exact Xh (key:=1000009) (kq:=⟨[3,4,5],[900005],[]⟩) rfl rfl rfl (by simp [-Int.natCast_tdiv_eq_ediv,und,List.replicate]) (J66 (p29,p27,p28) q82)
theorem w40:Walk tt G [(74,G74),(75,G75),(76,K76.G),(77,G77)] (fun _=>[]) Tryz.f40 K40:=by
 refine .of [(8,⟨[2,3,4,8,10,11,35,36,37],[4,8,34,49],[(11,none,49,1)]⟩)] false body40 Tryz.ntmps40 fun T hO hT ⟨a0,a1,a2,a3⟩ x hr=>⟨by simp,?_⟩
 simp only [Zi] at hT; simp only at hr ⊢; unfold c40;unfold ZbY at hr;refine go ?_;by_cases c23:4096<(a1.length:Int)
 ·have c23N:=nrm c23
  replace hr:=ifP hr
  refine go ?_;exact fin hr
 ·have c23N:=nrm c23
  replace hr:=ifN hr
  refine go ?_;by_cases c24:a3<1
  ·refine go ?_
   replace hr:=ifP hr
   refine go ?_;exact fin hr
  ·by_cases c25:1099511627776<a3
   ·refine go ?_
    replace hr:=ifP hr
    refine go ?_;exact fin hr
   ·by_cases c26:a2<0
    ·refine go ?_
     replace hr:=ifP hr
     refine go ?_;exact fin hr
    ·refine go ?_
     by_cases c27:32<a2
     ·replace hr:=ifP hr
      refine go ?_;exact fin hr
     ·replace hr:=ifN hr
      refine go ?_;obtain ⟨y28,ehy28,hr⟩:=bG hr fun _=>Zvo
      simp only [E74,R74,nf,nfs] at ehy28;refine go ?_;refine lp 8 (fun (⟨p11,p12⟩:Int×(List Int))=>⟨(und 2++([.one (.v (.int .i64 a2)),.one (.v (.int .u64 a3)),.ptr 4 0 0 0 2]++(und 3++([.ptr 8 0 0 0 2]++(und 1++([.one (.ms 34 0 0 (y28.length) 1),.one (.ms 49 0 0 (p12.length) 1)]++(und 23++([.one (.ms 34 0 0 (y28.length) 1),.one (.v (.int .i64 (y28.length:Int))),.one (.v (.int .i64 p11))]++(und 19)))))))):List PV),([(4,⟨0,2,[arC .u64 a0],false,false⟩),(8,⟨0,2,[[.v (.int .i64 0),.slice .nil []]],false,false⟩),(34,⟨0,1,List.map ZJ y28,false,true⟩),(49,⟨0,1,Zd .u64 p12,false,true⟩)]:Boxes)⟩) hr ?_;rintro ⟨p11,p12⟩ x36r hr36
      simp only [Zcq] at hr36;unfold b40_1;refine nst ?_;refine go ?_;by_cases c37:p11<(y28.length:Int)
      ·have c37N:=nrm c37
       replace hr36:=ifP hr36
       refine go ?_;obtain ⟨_,⟨_,_,_⟩,hr36⟩:=bA hr36;obtain ⟨_,hx39,hr36⟩:=bs hr36;have ghx39:=Zk hx39;refine go ?_;obtain ⟨_,ehy40,hr36⟩:=bG hr36 fun _=>Zvp
       simp only [E75,R75,nf,nfs] at ehy40;obtain ⟨_,hr36⟩:=bC hr36;have n1_u41_0:(p12.length+1) * 8≤140737488355328:=by omega
       have n2_u41_0:p12.length+1≤9223372036854775807:=by omega
       refine go ?_;exact bk hr36
      ·have c37N:=nrm c37
       replace hr36:=ifN hr36
       refine go ?_;obtain ⟨r42,q42,rfl⟩:=ms hr36;refine go ?_;rintro rfl
       refine go ?_;unfold ZfH at q42;obtain ⟨_,ehy43,q42⟩:=bG q42 fun _=>Zvr
       simp only [E77,R77,nf,nfs] at ehy43;obtain ⟨_,ehy44,q42⟩:=bN q42 Zvq;refine go ?_;exact fin q42
theorem w41:Walk tt G [(78,K78.G)] (fun _=>[]) Tryz.f41 K41:=by
 refine .of [] false body41 Tryz.ntmps41 fun T hO hT a0 x hr=>⟨by simp,?_⟩
 simp only [Zi] at hT; simp only at hr ⊢; unfold c41;unfold Zet at hr;refine go ?_;obtain ⟨_,ehy3,hr⟩:=bN hr Zlu;obtain ⟨_,ehy4,hr⟩:=bN hr Zlu;refine go ?_;exact fin hr
theorem w12:Walk tt G [(15,K15.G),(22,K22.G),(39,K39.G),(40,K40.G),(41,K41.G)] (fun _=>[]) Tryz.f12 K12:=by
 refine .of [] false body12 Tryz.ntmps12 fun T hO hT a0 x hr=>⟨by simp,?_⟩
 simp only [Zi] at hT; simp only at hr ⊢; unfold c12;unfold Zfq at hr;refine go ?_;obtain ⟨y6,ehy6,hr⟩:=bN hr Zvn;refine go ?_;by_cases c7:y6=true
 ·replace hr:=ifN hr
  refine go ?_;obtain ⟨_,ehy8,hr⟩:=bN hr Zvl;obtain ⟨_,ehy9,hr⟩:=bN hr Zvt;obtain ⟨_,ehy10,hr⟩:=bN hr Zq7;obtain ⟨_,ehy11,hr⟩:=bN hr Zvs;refine go ?_;exact fin hr
 ·replace hr:=ifP hr
  refine go ?_;exact fin hr
theorem w13:Walk tt G [(25,K25.G)] (fun _=>[]) Tryz.f13 K13:=by
 refine .of [(4,⟨[0,1,12,13],[],[]⟩)] false body13 Tryz.ntmps13 fun T hO hT ⟨a0,a1⟩ x hr=>⟨by simp,?_⟩
 simp only [Zi] at hT; simp only at hr ⊢; unfold c13;unfold Za6 at hr;refine go ?_;rcases eqT ((a0.length:Int)=(a1.length:Int)) with c15 | c15
 ·have c15N:=nrm c15
  replace hr:=ifN hr
  refine go ?_;refine lp 4 (fun (p8:Int)=>⟨([.one (.slice .no (List.map ZJ a0)),.one (.slice .no (List.map ZJ a1))]++(und 10++([.one (.v (.int .i64 (a0.length:Int))),.one (.v (.int .i64 p8))]++(und 13))):List PV),([]:Boxes)⟩) hr ?_;rintro p8 x23r hr23
  simp only [ZaS] at hr23;unfold b13_1;refine nst ?_;refine go ?_;by_cases c24:p8<(a0.length:Int)
  ·have c24N:=nrm c24
   replace hr23:=ifP hr23
   refine go ?_;obtain ⟨_,⟨_,_,_⟩,hr23⟩:=bI hr23;obtain ⟨_,⟨_,_,_⟩,hr23⟩:=bI hr23;obtain ⟨y27,ehy27,hr23⟩:=bN hr23 ZnR;refine go ?_;by_cases c28:y27=true
   ·replace hr23:=ifN hr23
    refine go ?_;exact bk hr23
   ·replace hr23:=ifP hr23
    refine go ?_;exact fin hr23
  ·have c24N:=nrm c24
   replace hr23:=ifN hr23
   refine go ?_;obtain ⟨r29,q29,rfl⟩:=ms hr23;refine go ?_;rintro rfl
   refine go ?_;unfold Lref08_SameItems_k1 at q29;refine go ?_;exact fin q29
 ·have c15N:=nrm c15
  replace hr:=ifP hr
  refine go ?_;exact fin hr
theorem w16:Walk tt G [(25,K25.G)] (fun _=>[]) Tryz.f16 K16:=by
 refine .of [] false body16 Tryz.ntmps16 fun T hO hT ⟨a0,a1⟩ x hr=>⟨by simp,?_⟩
 simp only [Zi] at hT; simp only at hr ⊢; unfold c16;unfold Zdz at hr;refine go ?_;rcases eqT (a0.1=a1.1) with c3 | c3
 ·replace hr:=ZiY hr
  obtain ⟨_,hz4,hr⟩:=bs hr;obtain ⟨_,ehy5,hz4⟩:=bN hz4 ZnR;obtain rfl:=Option.some.inj hz4;refine go ?_;exact fin hr
 ·replace hr:=ZiZ hr
  obtain ⟨_,hz6,hr⟩:=bs hr;obtain rfl:=Option.some.inj hz6;refine go ?_;exact fin hr
end Go.Proofs.YthpkpciceodioaaGreatDoor
