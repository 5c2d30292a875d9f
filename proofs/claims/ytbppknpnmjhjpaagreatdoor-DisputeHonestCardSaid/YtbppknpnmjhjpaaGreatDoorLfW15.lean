import Derived.Test.YtbppknpnmjhjpaaGreatDoorLfK
import Derived.Test.YtbppknpnmjhjpaaGreatDoorCode
import Derived.Test.YtbppknpnmjhjpaaGreatDoorBl
namespace Go.Proofs.YtbppknpnmjhjpaaGreatDoor
open Go.RowKit
open Go.Av
open Go.Lc
set_option maxRecDepth 100000
set_option linter.unusedSimpArgs false
set_option linter.unusedVariables false
set_option maxHeartbeats 4000000
def kp176_5:Keep:=fun i=>if i=2 then⟨[0,1,2,3,8,9],[1000000],[]⟩ else⟨[],[],[]⟩
theorem Zy3 {T:Tab}(n:Nat) (hO:T.own=fun d=>if d=27 then[[1000001]] else if d=121 then[[1000001]] else if d=132 then[[1000001]] else[]) (hT176:T 176=some (ZpN n)) (hT168:T 168=some K168.G) (hT202:T 202=some G202_4) (a0:(List Int)) (a1:Int) (a2:Int) (a3:Int) (x:(List Int)) (hr:Yx (Lslices_pdqsortOrdered_of_uint64w_n n) a0 a1 a2 a3=some x):∃ kp fl n,ZN tt T G kp fl n Tryz.f176 (Zda (a0,a1,a2,a3))=some (Zfx (a0,a1,a2,a3) x):=by
 simp only[Zda,Zfx];refine fnE (kp:=kp176_5) (w:=false) body176 (by simp) ?_;unfold c176;rw[Tryz.ntmps176];unfold Yx at hr;refine Zd rfl (by simp[-Zt,Zp]; rfl) ?_;refine Zd rfl (by simp[-Zt,Zp]; rfl) ?_;refine ZgU ?_;refine Xs (kq:=⟨[0,1,2,3,8,9],[1000000],[]⟩) (H:=fun(s:Int×Int×Int×Bool×Bool×(List Int))=>match s with | (p56,p57,p58,p59,p60,p61)=>(⟨([.one (.ms 1000000 0 0 (p61.length) 1),.one (.v (.int .i64 p56)),.one (.v (.int .i64 p57)),.one (.v (.int .i64 p58))]++(und 4++([.one (.v (.bool p59)),.one (.v (.bool p60))]++(und 124))):List PV),([(1000000,⟨0,1,Zg .u64 p61,false,true⟩)]:Boxes)⟩:ASt)) (by kernel_rfl) hr (by simp[-Zt,Zp,und,List.replicate,]) ?_;rintro⟨p56,p57,p58,p59,p60,p61⟩ x77r hr77
 simp only[X4] at hr77;unfold b176_1;simp only[und,List.replicate,List.cons_append,List.nil_append];refine ZgU ?_;refine Zd rfl (by simp[-Zt,Zp]; rfl) ?_;refine ZA ?_;refine Zd rfl (by simp[-Zt,Zp]; rfl) ?_;by_cases c78:IntKind.i64.wrap (p57-p56)≤12
 ·skip
  rw[if_pos] at hr77;rotate_left
  ·simp[-Zt,Zp,c78]
  refine Zw (by simp[-Zt,Zp,bV,c78]) ?_;refine ZA ?_;obtain⟨y79,hy79,hr77⟩:=bs hr77;have ehy79:=Zqw hy79;simp only[Zc9,Zfw,kS,nf,nfs,Z5] at ehy79;try simp only[Zp] at ehy79
  obtain⟨_,u80,hr77⟩:=bs hr77;have u80_0:=ZO u80;have ck81:=ZK (k:=.u64) u80_0;refine Zd rfl (by simp[-Zt,Zp,hO,hT202,ehy79,ck81,u80_0,c78]; rfl) ?_;refine Zac ?_;obtain⟨_,u82,hr77⟩:=bs hr77;have u82_0:=ZO u82;try simp only[u80_0] at u82_0
  obtain rfl:=Option.some.inj hr77;simp only[pq,reduceCtorEq];rintro rfl
  simp[-Zt,Zp,YP,hO,hT202,ehy79,ck81,u80_0,u82_0,c78]
 ·skip
  rw[if_neg] at hr77;rotate_left
  ·simp[-Zt,Zp,c78]
  refine Zv (by simp[-Zt,Zp,bV,c78]) ?_;refine ZD ?_;refine ZA ?_;refine Zd rfl (by simp[-Zt,Zp,c78]; rfl) ?_;by_cases c83:p58=0
  ·skip
   rw[if_pos] at hr77;rotate_left
   ·simp[-Zt,Zp,c78,eq_true c83]
   refine Zw (by simp[-Zt,Zp,bV,c78,eq_true c83]) ?_;refine ZA ?_;simp at hr77
  ·skip
   rw[if_neg] at hr77;rotate_left
   ·simp[-Zt,Zp,c78,c83]
   refine Zv (by simp[-Zt,Zp,bV,c78,c83]) ?_;refine ZD ?_;refine ZA ?_;refine Zd rfl (by simp[-Zt,Zp,c78,c83]; rfl) ?_;by_cases c85:p59=true
   ·skip
    rw[if_neg] at hr77;rotate_left
    ·simp[-Zt,Zp,c78,c83,c85]
    refine Zv (by simp[-Zt,Zp,bV,c78,c83,c85]) ?_;refine ZD ?_;unfold X0 at hr77;simp at hr77
   ·skip
    rw[if_pos] at hr77;rotate_left
    ·simp[-Zt,Zp,c78,c83,c85]
    refine Zw (by simp[-Zt,Zp,bV,c78,c83,c85]) ?_;refine ZA ?_;simp at hr77
theorem w127_6:Walk tt G [(176,G176_5),(177,K177.G)] (fun d=>if d=10 then[[1000001]] else[]) Tryz.f127 K127_6:=by
 refine .ak [] false Tryz.ntmps127 fun T hO hT a0 x=>?_
 simp only[Zh] at hT; simp only[kS,nfs,Ys];exact auL
theorem w65:Walk tt G [(125,K125.G),(126,K126.G),(127,K127_6.G)] (fun d=>if d=31 then[[1000001]] else[]) Tryz.f65 K65:=by
 refine .ak [(3,⟨[2,3,4,9,12,13,14],[4,28],[(9,none,28,1)]⟩)] true Tryz.ntmps65 fun T hO hT ⟨a0,a1,a2,a3⟩ x=>?_
 simp only[Zh] at hT; simp only[kS,nfs,ZcJ,ZeA];refine au ?_
 intros; refine lpP 3 (fun⟨p10,p11⟩=>([(9,.one (.ms 28 0 0 (p11.length) 1)),(14,.one (.v (.int .i64 p10)))],[(28,⟨0,1,Zg .u64 p11,false,true⟩)])) ?_; rintro⟨p10,p11⟩ x; simp only[Zcw,ZeA]
 exact au
theorem w30:Walk tt G [(64,K64.G),(65,K65.G)] (fun _=>[]) Tryz.f30 K30:=by
 refine .ak [(8,⟨[2,3,4,8,10,11,34,35,36],[4,8,51,1000000000033],[(11,none,51,1)]⟩)] false Tryz.ntmps30 fun T hO hT ⟨a0,a1,a2,a3⟩ x=>?_
 simp only[Zh] at hT; simp only[kS,nfs,Zdy,Ze1,Zbv];refine au ?_
 intros; refine lpP 8 (fun⟨p11,p12,p13⟩=>([(11,.one (.ms 51 0 0 (p13.length) 1)),(36,.one (.v (.int .i64 p11)))],[(51,⟨0,1,List.map Zah p13,false,true⟩),(1000000000033,⟨0,4,([.v (.string (⟨#[]⟩))]) :: List.map Zlv p12,false,false⟩)])) ?_; rintro⟨p11,p12,p13⟩ x; simp only[Zbw,Ze1,Zbv]
 exact au
theorem Zy4 (c:Nat) (w:World):Calls Tryz.prog 66 #[.slice none 0 c] w fun e w'=>e = .returned (.slice none 0 0)∧w'=w:=by
 have h1:∀ w,(binOp .eql 27 (.slice none 0 c) (.slice none 0 0)).run Tryz.prog w = .ok (.bool true) w:=fun w=>by
  have h:∀ d:Nat,(Op.equalIn (d+1) 27 (.slice none 0 c) (.slice none 0 0)).run Tryz.prog w = .ok true w:=fun d=>by
   simp[Op.equalIn,run_underlying Tryz.underlying27]
  have h':(Op.equal 27 (.slice none 0 c) (.slice none 0 0)).run Tryz.prog w = .ok true w:=h 9999;simp[binOp,h']
 go_enter Tryz.func66,Tryz.ntmps66
 go_wp2
 go_ret
 exact⟨rfl,rfl⟩
theorem Zyb (b:Addr) (c:Nat) (w:World):Calls Tryz.prog 66 #[.slice (some b) 0 c] w fun e w'=>e = .returned (.slice (some ⟨w.heap.size,0,none⟩) 0 0)∧w'=w.alloc (.cells #[] 5):=by
 have h1:∀ w,(binOp .eql 27 (.slice (some b) 0 c) (.slice none 0 0)).run Tryz.prog w = .ok (.bool false) w:=fun w=>by
  have h:(Op.equal 27 (.slice (some b) 0 c) (.slice none 0 0)).run Tryz.prog w = .ok false w:=Zmq 9999 Tryz.underlying27;simp[binOp,h]
 have h2:∀ w,(Instr.buildSlice 27 0 #[]).run Tryz.prog w = .ok (.slice (some ⟨w.heap.size,0,none⟩) 0 0) (w.alloc (.cells #[] 5)):=fun w=>by kernel_rfl
 have hi0:(Tryz.prog.info? 5).isSome=true:=by kernel_rfl
 obtain⟨i,hi⟩:=Option.isSome_iff_exists.1 hi0;have h3:∀ (w:World) (x:Option Addr) ty,(Builtin.append_ #[27,27] ty #[.slice x 0 0,.slice (some b) 0 c]).run Tryz.prog w = .ok (.slice x 0 0) w:=fun w x ty=>ZlC w 27 ty 5 i Tryz.underlying27 hi x (some b) 0 0 c (Nat.le_refl _)
 clear hi hi0
 go_enter Tryz.func66,Tryz.ntmps66
 go_wp2
 go_ret
 exact⟨rfl,rfl⟩
def kp66:Keep:=fun i=>⟨[],[],[]⟩
theorem w66 {T:Tab}(a0:(List Int)) (hne:a0≠[]) (x:(List Int)) (hr:Yy a0=some x):∃ kp fl n,ZN tt T G kp fl n Tryz.f66 [.one (.slice .no (Zg .u8 a0))]=some (.one (.own 1 (Zg .u8 a0)),[]):=by
 refine fnE (kp:=kp66) (w:=true) body66 (by simp) ?_;unfold c66;rw[Tryz.ntmps66];unfold Yy at hr;obtain⟨_,u1,hr⟩:=bs hr;have u2:=ZO u1;have n1:a0.length≤140737488355328:=by omega
 have n2:a0.length≤9223372036854775807:=by omega
 have ne:Zg .u8 a0≠[]:=fun h=>hne (by simpa[Zg] using h)
 refine Zd rfl (by simp; rfl) ?_
 first
 | (refine ZA ?_; refine Zd rfl (by simp[hne,ne]; rfl) ?_)
 | refine Zd rfl (by simp[hne,ne]; rfl) ?_
 refine Zv (by simp[bV]) ?_;refine ZD ?_;refine Zd rfl (by simp[n1,n2]; rfl) ?_;refine Zai ?_;simp[YP]
theorem v66:ZR Tryz.prog G 66 G66:=by
 refine Zo5 (e:=1) (t:=5) (N:=0) (rows:=fun l:(List Int)=>Zg .u8 l) Tryz.func66 (by kernel_rfl) (by kernel_rfl) G66 (fun ps r hF=>?_) rfl (fun l hl r hF=>?_) (fun x c w=>?_)
 ·obtain⟨x,rfl,h⟩:=ZcR hF
  obtain⟨y,hy,rfl⟩:=Option.map_eq_some_iff.1 h;unfold Yy at hy;obtain⟨_,u1,hy⟩:=bs hy;obtain rfl:=Option.some.inj hy;exact⟨x,rfl,rfl⟩
 ·refine ZnT (T:=Av.tab []) mixed htt (Av.tab_ok trivial) Tryz.func66 body66 (by kernel_rfl) fun ps r' ho hF'=>?_
  split at hF'
  ·rename_i hps
   subst hps;injection hF' with hF';subst hF';obtain⟨x,hx,h⟩:=ZcR hF;obtain rfl:=E66i l x hx;obtain⟨y,hy,rfl⟩:=Option.map_eq_some_iff.1 h;have hy' := hy;unfold Yy at hy';obtain⟨_,u1,hy'⟩:=bs hy';obtain rfl:=Option.some.inj hy';exact w66 l hl _ hy
  ·cases hF'
 ·cases x with
  | none=>exact(Zy4 c w).mono fun e w' h=>⟨none,h.1,.inl h.2⟩
  | some b=>exact(Zyb b c w).mono fun e w' h=>⟨_,h.1,.inr h.2⟩
theorem w128:Walk tt G [] (fun _=>[]) Tryz.f128 K128:=by
 refine .ak [] false Tryz.ntmps128 fun T hO hT a0 x=>?_
 simp only[Zh] at hT; simp only[kS,nfs,Zlf];exact au
theorem w67:Walk tt G [(128,K128.G)] (fun _=>[]) Tryz.f67 K67:=by
 refine .ak [] false Tryz.ntmps67 fun T hO hT a0 x=>?_
 simp only[Zh] at hT; simp only[kS,nfs,Zcp];exact au
theorem w31:Walk tt G [(66,G66),(67,K67.G),(68,K68.G)] (fun _=>[]) Tryz.f31 K31:=by
 refine .ak [(3,⟨[3,11,12,13],[33],[(3,none,33,1)]⟩),(6,⟨[3,5,11,12,13,18,19,20],[5,33],[]⟩),(13,⟨[3,11,12,13,38,39,40],[33],[]⟩)] true Tryz.ntmps31 fun T hO hT a0 x=>?_
 simp only[Zh] at hT; simp only[kS,nfs,ZbZ,ZbN,Xy,Xz,Zax];refine au ?_
 intros; refine lpP 3 (fun⟨p64,p65⟩=>([(3,.one (.ms 33 0 0 (p65.length) 1)),(13,.one (.v (.int .i64 p64)))],[(33,⟨0,1,List.map Zah p65,false,true⟩)])) ?_; rintro⟨p64,p65⟩ x; simp only[Zeb,ZbN,Xy,Xz,Zax]
 refine au ?_
 intros; refine lpP 6 (fun⟨p108,p109⟩=>([(3,.one (.ms 33 0 0 (p109.length) 1)),(20,.one (.v (.int .i64 p108)))],[(33,⟨0,1,List.map Zah p109,false,true⟩)])) ?_; rintro⟨p108,p109⟩ x; simp only[Zjj,ZbN,Xy,Xz,Zax]
 refine au ?_
 intros; refine lpP 13 (fun⟨p123,p124⟩=>([(3,.one (.ms 33 0 0 (p124.length) 1)),(40,.one (.v (.int .i64 p123)))],[(33,⟨0,1,List.map Zah p124,false,true⟩)])) ?_; rintro⟨p123,p124⟩ x; simp only[Zji,ZbN,Xy,Xz,Zax]
 exact au
theorem w10:Walk tt G [(27,K27.G),(28,K28.G),(29,K29.G),(30,K30.G),(31,K31.G)] (fun _=>[]) Tryz.f10 K10:=by
 refine .ak [] false Tryz.ntmps10 fun T hO hT a0 x=>?_
 simp only[Zh] at hT; simp only[kS,nfs,Zce];exact au
end Go.Proofs.YtbppknpnmjhjpaaGreatDoor
