import Derived.Test.YtbppknpnmjhjpaaGreatDoorLfK
import Derived.Test.YtbppknpnmjhjpaaGreatDoorCode
import Derived.Test.YtbppknpnmjhjpaaGreatDoorBl
namespace Go.Proofs.YtbppknpnmjhjpaaGreatDoor
open Go.RowKit
open Go.Av
open Go.Lc
set_option maxRecDepth 100000
set_option linter.unusedSimpArgs false
set_option linter.unusedVariables false
set_option maxHeartbeats 4000000
def kp145:Keep:=fun i=>if i=1000009 then⟨[3,4,5],[900005],[]⟩ else if i=5 then⟨[3,4,5],[900005],[(5,none,900005,1)]⟩ else⟨[],[],[]⟩
theorem w145 {T:Tab}(n:Nat) (hO:T.own=fun _=>[]) (hT145:T 145=some (ZrL n)) (a0:(List Int)) (x:(List Int)) (hr:ZeL (Lref19_sorted_n n) a0=some x):∃ kp fl n,ZM tt T G kp fl n Tryz.f145 (Zgk a0)=some (Ziz a0 x):=by
 simp only[Zgk,Ziz];refine fnE (kp:=kp145) (w:=false) body145 (by simp) ?_;unfold c145;rw[Tryz.ntmps145];unfold ZeL at hr;refine Ze rfl (by simp[-Int.natCast_tdiv_eq_ediv,Nat.add_assoc,]; rfl) ?_;refine ZK ?_;refine Ze rfl (by simp[-Int.natCast_tdiv_eq_ediv,Nat.add_assoc,]; rfl) ?_;by_cases c44:(a0.length:Int)<2
 ·skip
  have c44N:=c44;try simp at c44N
  first | have c44M:(_=_)=True:=eq_true c44N | have c44M:=c44N
  rw[if_pos c44] at hr;refine ZH (by simp[-Int.natCast_tdiv_eq_ediv,Nat.add_assoc,bV,c44,c44M]) ?_;refine ZK ?_;refine Ze rfl (by simp[-Int.natCast_tdiv_eq_ediv,Nat.add_assoc,c44,c44M] <;> rfl) ?_;refine ZeF ?_;obtain rfl:=Option.some.inj hr;simp[-Int.natCast_tdiv_eq_ediv,Nat.add_assoc,Xj,c44,c44M,c44N]
 ·skip
  have c44N:=c44;try simp at c44N
  first | have c44M:(_=_)=True:=eq_true c44N | have c44M:=c44N
  rw[if_neg c44] at hr;refine Zz (by simp[-Int.natCast_tdiv_eq_ediv,Nat.add_assoc,bV,c44,c44M]) ?_;refine ZL ?_;obtain⟨_,u45,hr⟩:=bs hr;obtain⟨u45_0,u45_1⟩:=Zy u45;have sf46:(IntKind.i64.wrap (((a0.length:Int)).tdiv 2)).toNat≤a0.length:=by omega
  have sf47:0≤IntKind.i64.wrap (((a0.length:Int)).tdiv 2):=by omega
  obtain⟨y48,hy48,hr⟩:=bs hr;have ehy48:=Zs3 hy48;simp only[Zgk,Ziz,kS,nf,nfs,Yi] at ehy48;obtain⟨_,u49,hr⟩:=bs hr;obtain⟨u49_0,u49_1⟩:=Zy u49;have sf50:(IntKind.i64.wrap (((a0.length:Int)).tdiv 2)).toNat≤a0.length:=by omega
  obtain⟨y51,hy51,hr⟩:=bs hr;have ehy51:=Zs3 hy51;simp only[Zgk,Ziz,kS,nf,nfs,Yi] at ehy51;refine YX rfl (by simp[-Int.natCast_tdiv_eq_ediv,Nat.add_assoc,u45_0,u45_1,sf46,sf47,hO,hT145,ehy48,u49_0,u49_1,sf50,ehy51,c44,c44M]; first | exact⟨rfl,rfl⟩ | rfl) (by kernel_rfl) ?_;refine Ze rfl (by simp[-Int.natCast_tdiv_eq_ediv,Nat.add_assoc,c44,c44M] <;> rfl) ?_;refine Zu ?_;refine Zod hr (.exit 0) (fun(s:(List Int)×(List Int)×(List Int))=>match s with | (p29,p27,p28)=>(⟨(und 3++([.one (.slice .no (Zf .u64 p27)),.one (.slice .no (Zf .u64 p28)),.one (.ms 900005 0 0 (p29.length) 1)]++(und 52)):List PV),([(900005,⟨0,1,Zf .u64 p29,false,true⟩)]:Boxes)⟩:ASt)) (fun(s:(List Int)×(List Int)×(List Int))=>match s with | (p29,p27,p28)=>ZaT p29 p27 p28) ?_ ?_
  ·skip
   rintro⟨p29,p27,p28⟩ hk66
   change ZaT p29 p27 p28=_ at hk66
   simp only[pq,reduceCtorEq];simp only[und,List.replicate,List.cons_append,List.nil_append];unfold ZaT at hk66;obtain⟨_,u67,hk66⟩:=bs hk66;have u67_0:=Zy u67;have n1_u67_0:(p29.length+p27.length) * 8≤140737488355328:=by omega
   have n2_u67_0:p29.length+p27.length≤9223372036854775807:=by omega
   obtain⟨_,u68,hk66⟩:=bs hk66;have u68_0:=Zy u68
   have n1_u68_0:(p29.length+(p27.length+p28.length)) * 8≤140737488355328:=by
    have h:=u68_0;try simp at h
    first | omega | (simp only[List.length_take,List.length_drop] at h ⊢; omega) | (simp only[List.length_take,List.length_drop]; omega)
   have n2_u68_0:p29.length+(p27.length+p28.length)≤9223372036854775807:=by
    have h:=u68_0;try simp at h
    first | omega | (simp only[List.length_take,List.length_drop] at h ⊢; omega) | (simp only[List.length_take,List.length_drop]; omega)
   refine ZgI rfl (kq:=⟨[3,4,5],[900005],[]⟩) rfl (by simp[-Int.natCast_tdiv_eq_ediv,Nat.add_assoc,XF,n1_u67_0,n2_u67_0,n1_u68_0,n2_u68_0,c44,c44M]; rfl) (by simp[-Int.natCast_tdiv_eq_ediv,Nat.add_assoc,n1_u67_0,n2_u67_0,n1_u68_0,n2_u68_0,c44,c44M] <;> rfl) ?_;refine Za0 ?_;obtain rfl:=Option.some.inj hk66;simp[-Int.natCast_tdiv_eq_ediv,Nat.add_assoc,Xj,n1_u67_0,n2_u67_0,n1_u68_0,n2_u68_0,c44,c44M,c44N]
  ·skip
   intro J66;simp only[pq,reduceCtorEq] at J66;refine Xs (kq:=⟨[3,4,5],[900005],[(5,none,900005,1)]⟩) (H:=fun(s:(List Int)×(List Int)×(List Int))=>match s with | (p27,p28,p29)=>(⟨(und 3++([.one (.slice .no (Zf .u64 p27)),.one (.slice .no (Zf .u64 p28)),.one (.ms 900005 0 0 (p29.length) 1)]++(und 52)):List PV),([(900005,⟨0,1,Zf .u64 p29,false,true⟩)]:Boxes)⟩:ASt)) (by kernel_rfl) hr (by simp[-Int.natCast_tdiv_eq_ediv,Nat.add_assoc,und,List.replicate,c44,c44M]) ?_;rintro⟨p27,p28,p29⟩ x69r hr69
   simp only[Lref19_sorted_s1] at hr69;unfold b145_1;simp only[und,List.replicate,List.cons_append,List.nil_append];refine ZK ?_;by_cases c70:0<(p27.length:Int)
   ·skip
    have c70N:=c70;try simp at c70N
    first | have c70M:(_=_)=True:=eq_true c70N | have c70M:=c70N
    refine Ze rfl (by simp[-Int.natCast_tdiv_eq_ediv,Nat.add_assoc,c44,c44M,c70,c70M] <;> rfl) ?_;by_cases c71:0<(p28.length:Int)
    ·skip
     have c71N:=c71;try simp at c71N
     first | have c71M:(_=_)=True:=eq_true c71N | have c71M:=c71N
     rw[if_pos] at hr69;rotate_left
     ·simp[-Int.natCast_tdiv_eq_ediv,Nat.add_assoc,c44,c44M,c70,c70M,c71,c71M]
     refine ZH (by simp[-Int.natCast_tdiv_eq_ediv,Nat.add_assoc,bV,c44,c44M,c70,c70M,c71,c71M]) ?_;refine ZL ?_;refine Zho ?_;obtain⟨x72,hx72,hr69⟩:=bs hr69;have hx72c:=Z8 hx72;obtain⟨x73,hx73,hr69⟩:=bs hr69;have hx73c:=Z8 hx73;refine YX rfl (by simp[-Int.natCast_tdiv_eq_ediv,Nat.add_assoc,hx72,hx72c,hx73,hx73c,c44,c44M,c70,c70M,c71,c71M]; first | exact⟨rfl,rfl⟩ | rfl) (by kernel_rfl) ?_;by_cases c74:x72≤x73
     ·skip
      rw[if_pos c74] at hr69;refine ZcY (by simp[-Int.natCast_tdiv_eq_ediv,Nat.add_assoc,bV,c44,c44M,c70,c70M,c71,c71M,c74]) ?_;have hx72c:=Z8 hx72;obtain⟨_,u75,hr69⟩:=bs hr69;have u75_0:=Zy u75;have n1_u75_0:(p29.length+1) * 8≤140737488355328:=by omega
      have n2_u75_0:p29.length+1≤9223372036854775807:=by omega
      obtain⟨_,u76,hr69⟩:=bs hr69;have u76_0:=Zy u76;have sf77:1≤p27.length:=by omega
      refine ZlG rfl (by simp[-Int.natCast_tdiv_eq_ediv,Nat.add_assoc,hx72,hx72c,n1_u75_0,n2_u75_0,u76_0,sf77,c44,c44M,c70,c70M,c71,c71M,c74]; first | exact⟨rfl,rfl⟩ | rfl) (by kernel_rfl) ?_;obtain rfl:=Option.some.inj hr69;simp only[pq,reduceCtorEq];simp[-Int.natCast_tdiv_eq_ediv,Nat.add_assoc,und,List.replicate,Nat.add_assoc,hx72,hx72c,n1_u75_0,n2_u75_0,u76_0,sf77,c44,c44M,c70,c70M,c71,c71M,c74]
     ·skip
      rw[if_neg c74] at hr69;refine ZcZ (by simp[-Int.natCast_tdiv_eq_ediv,Nat.add_assoc,bV,c44,c44M,c70,c70M,c71,c71M,c74]) ?_;have hx73c:=Z8 hx73;obtain⟨_,u78,hr69⟩:=bs hr69;have u78_0:=Zy u78;have n1_u78_0:(p29.length+1) * 8≤140737488355328:=by omega
      have n2_u78_0:p29.length+1≤9223372036854775807:=by omega
      obtain⟨_,u79,hr69⟩:=bs hr69;have u79_0:=Zy u79;have sf80:1≤p28.length:=by omega
      refine ZlG rfl (by simp[-Int.natCast_tdiv_eq_ediv,Nat.add_assoc,hx73,hx73c,n1_u78_0,n2_u78_0,u79_0,sf80,c44,c44M,c70,c70M,c71,c71M,c74]; first | exact⟨rfl,rfl⟩ | rfl) (by kernel_rfl) ?_;obtain rfl:=Option.some.inj hr69;simp only[pq,reduceCtorEq];simp[-Int.natCast_tdiv_eq_ediv,Nat.add_assoc,und,List.replicate,Nat.add_assoc,hx73,hx73c,n1_u78_0,n2_u78_0,u79_0,sf80,c44,c44M,c70,c70M,c71,c71M,c74]
    ·skip
     have c71N:=c71;try simp at c71N
     first | have c71M:(_=_)=True:=eq_true c71N | have c71M:=c71N
     have c71L:¬ 0<p28.length:=by omega
     rw[if_neg] at hr69;rotate_left
     ·simp[-Int.natCast_tdiv_eq_ediv,Nat.add_assoc,c44,c44M,c70,c70M,c71,c71M,c71L]
     refine Zz (by simp[-Int.natCast_tdiv_eq_ediv,Nat.add_assoc,bV,c44,c44M,c70,c70M,c71,c71M,c71L]) ?_;refine Z4 ?_;obtain⟨r81,q81,rfl⟩:=ms hr69;simp only[pq,reduceCtorEq];rintro rfl
     try simp only[pq,reduceCtorEq]
     exact Za1 (key:=1000009) (kq:=⟨[3,4,5],[900005],[]⟩) rfl rfl rfl (by simp[-Int.natCast_tdiv_eq_ediv,Nat.add_assoc,und,List.replicate,c44,c44M,c70,c70M,c71,c71M,c71L]) (J66 (p29,p27,p28) q81)
   ·skip
    have c70N:=c70;try simp at c70N
    first | have c70M:(_=_)=True:=eq_true c70N | have c70M:=c70N
    have c70L:¬ 0<p27.length:=by omega
    refine Ze rfl (by simp[-Int.natCast_tdiv_eq_ediv,Nat.add_assoc,c44,c44M,c70,c70M,c70L] <;> rfl) ?_;rw[if_neg] at hr69;rotate_left
    ·simp[-Int.natCast_tdiv_eq_ediv,Nat.add_assoc,c44,c44M,c70,c70M,c70L]
    refine Zz (by simp[-Int.natCast_tdiv_eq_ediv,Nat.add_assoc,bV,c44,c44M,c70,c70M,c70L]) ?_;refine Z4 ?_;obtain⟨r82,q82,rfl⟩:=ms hr69;simp only[pq,reduceCtorEq];rintro rfl
    try simp only[pq,reduceCtorEq]
    exact Za1 (key:=1000009) (kq:=⟨[3,4,5],[900005],[]⟩) rfl rfl rfl (by simp[-Int.natCast_tdiv_eq_ediv,Nat.add_assoc,und,List.replicate,c44,c44M,c70,c70M,c70L]) (J66 (p29,p27,p28) q82)
theorem w85:Walk tt G [(142,G142),(143,K143.G),(144,K144.G),(145,G145)] (fun _=>[]) Tryz.f85 K85:=by
 refine .ak [(8,⟨[2,3,4,8,10,11,35,36,37],[4,8,34,49],[(11,none,49,1)]⟩)] false Tryz.ntmps85 fun T hO hT ⟨a0,a1,a2,a3⟩ x=>?_
 simp only[Zg] at hT; simp only[kS,nfs,Zfu,Zha];refine au ?_
 intros; refine lpP 8 (fun⟨p11,p12⟩=>([(11,.one (.ms 49 0 0 (p12.length) 1)),(37,.one (.v (.int .i64 p11)))],[(49,⟨0,1,Zf .u64 p12,false,true⟩)])) ?_; rintro⟨p11,p12⟩ x; simp only[ZeM,Zha]
 exact au
theorem w86:Walk tt G [(146,K146.G)] (fun _=>[]) Tryz.f86 K86:=by
 refine .ak [] false Tryz.ntmps86 fun T hO hT a0 x=>?_
 simp only[Zg] at hT; simp only[kS,nfs,Zh7];exact au
end Go.Proofs.YtbppknpnmjhjpaaGreatDoor
