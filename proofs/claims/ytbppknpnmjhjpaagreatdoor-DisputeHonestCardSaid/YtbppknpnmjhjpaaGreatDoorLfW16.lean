import Derived.Test.YtbppknpnmjhjpaaGreatDoorLfK
import Derived.Test.YtbppknpnmjhjpaaGreatDoorCode
import Derived.Test.YtbppknpnmjhjpaaGreatDoorBl
namespace Go.Proofs.YtbppknpnmjhjpaaGreatDoor
open Go.RowKit
open Go.Av
open Go.Lc
set_option maxRecDepth 100000
set_option linter.unusedSimpArgs false
set_option linter.unusedVariables false
set_option maxHeartbeats 4000000
theorem w34:Walk tt G [(60,K60.G),(71,K71.G)] (fun _=>[]) Tryz.f34 K34:=by
 refine .ak [] false Tryz.ntmps34 fun T hO hT a0 x=>?_
 simp only[Zh] at hT; simp only[kS,nfs,Zdu];exact au
theorem w12:Walk tt G [(32,K32.G),(34,K34.G)] (fun _=>[]) Tryz.f12 K12:=by
 refine .ak [] false Tryz.ntmps12 fun T hO hT a0 x=>?_
 simp only[Zh] at hT; simp only[kS,nfs,ZdT];exact au
def kp33:Keep:=fun i=>if i=3 then⟨[0,3,9,10,11],[],[]⟩ else if i=11 then⟨[6,25,26,27],[24],[]⟩ else⟨[],[],[]⟩
theorem w33 {T:Tab}(hO:T.own=fun _=>[]) (hN70:T 70=none) (hZ70:T 1000070=some G70) (a0:(List (List Int))) (x:(List Int)) (hr:ZX a0=some x):∃ kp fl n,ZN tt T G kp fl n Tryz.f33 (E33 a0)=some (R33 a0 x):=by
 simp only[E33,R33];refine fnE (kp:=kp33) (w:=true) body33 (by simp) ?_;unfold c33;rw[Tryz.ntmps33];unfold ZX at hr;refine Zd rfl (by simp[]; rfl) ?_;refine Zd rfl (by simp[]; rfl) ?_;refine ZA ?_;refine Zd rfl (by simp[]; rfl) ?_;refine Zx ?_;refine Xs (kq:=⟨[0,3,9,10,11],[],[]⟩) (H:=fun(s:Int×Int)=>match s with | (p5,p6)=>(⟨([.one (.slice .no (List.map Zah a0))]++(und 2++([.one (.v (.int .i64 p5))]++(und 5++([.one (.slice .no (List.map Zah a0)),.one (.v (.int .i64 (a0.length:Int))),.one (.v (.int .i64 p6))]++(und 24))))):List PV),([]:Boxes)⟩:ASt)) (by kernel_rfl) hr (by simp[und,List.replicate,]) ?_;rintro⟨p5,p6⟩ x28r hr28
 simp only[YS] at hr28;unfold b33_1;simp only[und,List.replicate,List.cons_append,List.nil_append];refine Zd rfl (by simp[]; rfl) ?_;by_cases c29:p6<(a0.length:Int)
 ·skip
  have c29N:=c29;try simp at c29N
  first | have c29M:(_=_)=True:=eq_true c29N | have c29M:=c29N
  rw[if_pos] at hr28;rotate_left
  ·simp[c29,c29M]
  refine Zw (by simp[bV,c29,c29M]) ?_;refine ZD ?_;refine Zx ?_;obtain⟨x30,hx30,hr28⟩:=bs hr28;obtain⟨hx30a,hx30b⟩:=ZbP hx30;have hx30c:=Yb hx30b;refine Zd rfl (by simp[hx30a,hx30b,hx30c,c29,c29M] <;> rfl) ?_;refine Zd rfl (by simp[c29,c29M] <;> rfl) ?_;refine Zd rfl (by simp[c29,c29M] <;> rfl) ?_;by_cases c32:IntKind.i64.wrap (p5+(x30.length:Int))<0
  ·skip
   have c32N:=c32;try simp at c32N
   first | have c32M:(_=_)=True:=eq_true c32N | have c32M:=c32N
   rw[if_pos] at hr28;rotate_left
   ·simp[c29,c29M,c32,c32M]
   refine ZcS (by simp[bV,c29,c29M,c32,c32M]) ?_;simp at hr28
  ·skip
   have c32N:=c32;try simp at c32N
   first | have c32M:(_=_)=True:=eq_true c32N | have c32M:=c32N
   rw[if_neg] at hr28;rotate_left
   ·simp[c29,c29M,c32,c32M]
   refine ZdI (by simp[bV,c29,c29M,c32,c32M]) ?_;refine Ze7 ?_;simp only[pq,reduceCtorEq];unfold YR at hr28;refine Xb rfl (by simp[c29,c29M,c32,c32M] <;> rfl) ?_;obtain rfl:=Option.some.inj hr28;simp only[pq,reduceCtorEq];simp[und,List.replicate,Nat.add_assoc,c29,c29M,c32,c32M]
 ·skip
  have c29N:=c29;try simp at c29N
  first | have c29M:(_=_)=True:=eq_true c29N | have c29M:=c29N
  rw[if_neg] at hr28;rotate_left
  ·simp[c29,c29M]
  refine Zv (by simp[bV,c29,c29M]) ?_;refine Z7 ?_;obtain⟨r33,q33,rfl⟩:=ms hr28;simp only[pq,reduceCtorEq];rintro rfl
  try simp only[pq,reduceCtorEq]
  unfold Za7 at q33;obtain⟨_,u34,q33⟩:=bs q33;obtain⟨u34_0,u34_1⟩:=ZO u34;have eg35:=ZyX (n:=p5) ⟨u34_0,u34_1⟩;refine Zd rfl (by simp[hO,hN70,hZ70,eg35,c29,c29M] <;> rfl) ?_;refine ZA ?_;refine Zd rfl (by simp[c29,c29M] <;> rfl) ?_;refine Zx ?_;refine Xs (kq:=⟨[6,25,26,27],[24],[]⟩) (H:=fun(s:Int×(List Int))=>match s with | (p15,p16)=>(⟨(und 6++([.one (.ms 24 0 0 (p16.length) 1)]++(und 18++([.one (.slice .no (List.map Zah a0)),.one (.v (.int .i64 (a0.length:Int))),.one (.v (.int .i64 p15))]++(und 8)))):List PV),([(24,⟨0,1,Zg .u8 p16,false,true⟩)]:Boxes)⟩:ASt)) (by kernel_rfl) q33 (by simp[und,List.replicate,c29,c29M]) ?_;rintro⟨p15,p16⟩ x41r hr41
  simp only[Yr] at hr41;unfold b33_2;simp only[und,List.replicate,List.cons_append,List.nil_append];refine Zd rfl (by simp[c29,c29M] <;> rfl) ?_;by_cases c42:p15<(a0.length:Int)
  ·skip
   have c42N:=c42;try simp at c42N
   first | have c42M:(_=_)=True:=eq_true c42N | have c42M:=c42N
   rw[if_pos] at hr41;rotate_left
   ·simp[c29,c29M,c42,c42M]
   refine Zw (by simp[bV,c29,c29M,c42,c42M]) ?_;refine ZD ?_;refine Zx ?_;obtain⟨x43,hx43,hr41⟩:=bs hr41;obtain⟨hx43a,hx43b⟩:=ZbP hx43;have hx43c:=Yb hx43b;refine Zd rfl (by simp[hx43a,hx43b,hx43c,c29,c29M,c42,c42M] <;> rfl) ?_;obtain⟨_,u44,hr41⟩:=bs hr41;have u44_0:=ZO u44;have n1_u44_0:p16.length+x43.length≤140737488355328:=by omega
   have n2_u44_0:p16.length+x43.length≤9223372036854775807:=by omega
   refine Xb rfl (by simp[n1_u44_0,n2_u44_0,c29,c29M,c42,c42M] <;> rfl) ?_;simp only[pq,reduceCtorEq];refine Xb rfl (by simp[c29,c29M,c42,c42M] <;> rfl) ?_;obtain rfl:=Option.some.inj hr41;simp only[pq,reduceCtorEq];simp[und,List.replicate,Nat.add_assoc,c29,c29M,c42,c42M]
  ·skip
   have c42N:=c42;try simp at c42N
   first | have c42M:(_=_)=True:=eq_true c42N | have c42M:=c42N
   rw[if_neg] at hr41;rotate_left
   ·simp[c29,c29M,c42,c42M]
   refine Zv (by simp[bV,c29,c29M,c42,c42M]) ?_;refine Z7 ?_;obtain⟨r45,q45,rfl⟩:=ms hr41;simp only[pq,reduceCtorEq];rintro rfl
   try simp only[pq,reduceCtorEq]
   unfold Zec at q45;refine Zd rfl (by simp[c29,c29M,c42,c42M] <;> rfl) ?_;refine Zai ?_;obtain rfl:=Option.some.inj q45;simp[YP,c29,c29M,c42,c42M,c29N,c42N]
theorem w11:Walk tt G [(32,K32.G),(33,G33)] (fun _=>[]) Tryz.f11 K11:=by
 refine .ak [] false Tryz.ntmps11 fun T hO hT ⟨a0,a1⟩ x=>?_
 simp only[Zh] at hT; simp only[kS,nfs,Zdt];exact auR
theorem w45:Walk tt G [] (fun _=>[]) Tryz.f45 K45:=by
 refine .ak [(3,⟨[0,3,6,7,8],[],[]⟩)] false Tryz.ntmps45 fun T hO hT a0 x=>?_
 simp only[Zh] at hT; simp only[kS,nfs,YW,Za2];refine au ?_
 intros; refine lpP 3 (fun⟨p5,p6⟩=>([(3,.one (.v (.int .i64 p5))),(8,.one (.v (.int .i64 p6)))],[])) ?_; rintro⟨p5,p6⟩ x; simp only[Xg,Za2]
 exact au
theorem w46:Walk tt G [] (fun _=>[]) Tryz.f46 K46:=by
 refine .sk [] false Tryz.ntmps46 fun T hO hT ⟨a0,a1⟩ x hr=>?_
 simp only[Zh] at hT; simp only[kS,nfs] at hr ⊢;unfold Xm at hr;refine go ?_;by_cases c1:0≤a0
 ·by_cases c2:a0<a1
  ·refine go ?_
   exact fin hr
  ·refine go ?_
   exact fin hr
 ·refine go ?_
  exact fin hr
theorem w35:Walk tt G [(45,K45.G),(46,K46.G)] (fun _=>[]) Tryz.f35 K35:=by
 refine .ak [] false Tryz.ntmps35 fun T hO hT a0 x=>?_
 simp only[Zh] at hT; simp only[kS,nfs,YU];exact au
theorem w132:Walk tt G [] (fun _=>[]) Tryz.f132 K132:=by
 refine .ak [(3,⟨[3,6,7,8],[],[]⟩)] false Tryz.ntmps132 fun T hO hT a0 x=>?_
 simp only[Zh] at hT; simp only[kS,nfs,ZiF,Ltx_money_k1];refine au ?_
 intros; refine lpP 3 (fun⟨p5,p6⟩=>([(3,.one (.v (.int .i64 p5))),(8,.one (.v (.int .i64 p6)))],[])) ?_; rintro⟨p5,p6⟩ x; simp only[Ze8,Ltx_money_k1]
 exact au
theorem w72:Walk tt G [(67,K67.G),(121,K121.G),(132,K132.G)] (fun _=>[]) Tryz.f72 K72:=by
 refine .ak [(9,⟨[1,3,25,26,27],[1,1000000000023],[]⟩)] false Tryz.ntmps72 fun T hO hT a0 x=>?_
 simp only[Zh] at hT; simp only[kS,nfs,ZgW,ZiU];refine au ?_
 intros; refine lpP 9 (fun⟨p7,p8⟩=>([(27,.one (.v (.int .i64 p7)))],[(1000000000023,⟨0,6,((arC .u8 (zA 32))++((.v (.int .u32 0)) :: [])) :: List.map Zao p8,false,false⟩)])) ?_; rintro⟨p7,p8⟩ x; simp only[Ze9,ZiU]
 exact au
theorem w180:Walk tt G [(32,K32.G),(62,K62.G)] (fun _=>[]) Tryz.f180 K180:=by
 refine .ak [] false Tryz.ntmps180 fun T hO hT ⟨a0,a1⟩ x=>?_
 simp only[Zh] at hT; simp only[kS,nfs,ZfI];exact au
theorem w133:Walk tt G [(180,K180.G)] (fun _=>[]) Tryz.f133 K133:=by
 refine .ak [] false Tryz.ntmps133 fun T hO hT a0 x=>?_
 simp only[Zh] at hT; simp only[kS,nfs,Zl6];exact au
theorem w73:Walk tt G [(133,K133.G)] (fun _=>[]) Tryz.f73 K73:=by
 refine .ak [(3,⟨[0,3,21,22,23],[1000000000020],[]⟩),(12,⟨[0,3,41,42,43],[1000000000020],[]⟩),(15,⟨[0,3,9,41,42,43,49,50,51],[1000000000020],[]⟩),(24,⟨[15,72,73,74],[1000000000071],[]⟩),(27,⟨[15,72,73,74,79,80,81],[1000000000071],[]⟩)] false Tryz.ntmps73 fun T hO hT a0 x=>?_
 simp only[Zh] at hT; simp only[kS,nfs,Zfo,Lblock_coins_k3,Zav,YK,Zbn,YY];refine au ?_
 intros; refine lpP 3 (fun⟨p7,p8⟩=>([(23,.one (.v (.int .i64 p7)))],[(1000000000020,⟨0,6,(arC .u8 (zA 32)) :: List.map Zc8 p8,false,false⟩)])) ?_; rintro⟨p7,p8⟩ x; simp only[ZcM,Lblock_coins_k3,Zav,YK,Zbn,YY]
 refine au ?_
 intros; refine lpP 12 (fun p24=>([(43,.one (.v (.int .i64 p24)))],[])) ?_; rintro p24 x; simp only[Zi7,Lblock_coins_k3,Zav,YK,Zbn,YY]
 refine au ?_ ?_
 ·intros; refine lpP 15 (fun p72=>([(51,.one (.v (.int .i64 p72)))],[])) ?_; rintro p72 x; simp only[ZgN,Lblock_coins_k3,Zav,YK,Zbn,YY]
  exact au
 ·intros; refine lpP 24 (fun⟨p49,p50⟩=>([(74,.one (.v (.int .i64 p49)))],[(1000000000071,⟨0,6,((arC .u8 (zA 32))++((.v (.int .u32 0)) :: [])) :: List.map Zao p50,false,false⟩)])) ?_; rintro⟨p49,p50⟩ x; simp only[ZgM,Lblock_coins_k3,Zav,YK,Zbn,YY]
  refine au ?_
  intros; refine lpP 27 (fun⟨p64,p65⟩=>([(81,.one (.v (.int .i64 p64)))],[(1000000000071,⟨0,6,((arC .u8 (zA 32))++((.v (.int .u32 0)) :: [])) :: List.map Zao p65,false,false⟩)])) ?_; rintro⟨p64,p65⟩ x; simp only[ZcL,Lblock_coins_k3,Zav,YK,Zbn,YY]
  exact au
theorem w134:Walk tt G [(180,K180.G)] (fun _=>[]) Tryz.f134 K134:=by
 refine .ak [] false Tryz.ntmps134 fun T hO hT a0 x=>?_
 simp only[Zh] at hT; simp only[kS,nfs,Zjz];exact au
theorem w211:Walk tt G [(69,K69.G)] (fun _=>[]) Tryz.f211 K211:=by
 refine .ak [] false Tryz.ntmps211 fun T hO hT ⟨a0,a1⟩ x=>?_
 simp only[Zh] at hT; simp only[kS,nfs,Zfp];exact auA
end Go.Proofs.YtbppknpnmjhjpaaGreatDoor
