import Derived.Test.YthpkpciceodioaaGreatDoorLfK
import Derived.Test.YthpkpciceodioaaGreatDoorCode
import Derived.Test.YthpkpciceodioaaGreatDoorBl
namespace Go.Proofs.YthpkpciceodioaaGreatDoor
open Go.RowKit
open Go.Av
open Go.Lc
set_option maxRecDepth 100000
set_option linter.unusedSimpArgs false
set_option linter.unusedVariables false
set_option maxHeartbeats 4000000
theorem Zyk (c:Nat) (w:World):Calls Tryz.prog 42 #[.slice none 0 c] w fun e w'=>e = .returned (.slice none 0 0)∧w'=w:=by
 have h1:∀ w,(binOp .eql 32 (.slice none 0 c) (.slice none 0 0)).run Tryz.prog w = .ok (.bool true) w:=fun w=>by
  have h:∀ d:Nat,(Op.equalIn (d+1) 32 (.slice none 0 c) (.slice none 0 0)).run Tryz.prog w = .ok true w:=fun d=>by
   simp[Op.equalIn,run_underlying Tryz.underlying32]
  have h':(Op.equal 32 (.slice none 0 c) (.slice none 0 0)).run Tryz.prog w = .ok true w:=h 9999;simp[binOp,h']
 go_enter Tryz.func42,Tryz.ntmps42
 go_wp2
 go_ret
 exact⟨rfl,rfl⟩
theorem Zxl (b:Addr) (c:Nat) (w:World):Calls Tryz.prog 42 #[.slice (some b) 0 c] w fun e w'=>e = .returned (.slice (some ⟨w.heap.size,0,none⟩) 0 0)∧w'=w.alloc (.cells #[] 5):=by
 have h1:∀ w,(binOp .eql 32 (.slice (some b) 0 c) (.slice none 0 0)).run Tryz.prog w = .ok (.bool false) w:=fun w=>by
  have h:(Op.equal 32 (.slice (some b) 0 c) (.slice none 0 0)).run Tryz.prog w = .ok false w:=Zn4 9999 Tryz.underlying32;simp[binOp,h]
 have h2:∀ w,(Instr.buildSlice 32 0 #[]).run Tryz.prog w = .ok (.slice (some ⟨w.heap.size,0,none⟩) 0 0) (w.alloc (.cells #[] 5)):=fun w=>by kernel_rfl
 have hi0:(Tryz.prog.info? 5).isSome=true:=by kernel_rfl
 obtain⟨i,hi⟩:=Option.isSome_iff_exists.1 hi0;have h3:∀ (w:World) (x:Option Addr) ty,(Builtin.append_ #[32,32] ty #[.slice x 0 0,.slice (some b) 0 c]).run Tryz.prog w = .ok (.slice x 0 0) w:=fun w x ty=>Zoi w 32 ty 5 i Tryz.underlying32 hi x (some b) 0 0 c (Nat.le_refl _)
 clear hi hi0
 go_enter Tryz.func42,Tryz.ntmps42
 go_wp2
 go_ret
 exact⟨rfl,rfl⟩
def kp42:Keep:=fun i=>⟨[],[],[]⟩
theorem w42 {T:Tab}(a0:(List Int)) (hne:a0≠[]) (x:(List Int)) (hr:ZZ a0=some x):∃ kp fl n,ZO tt T G kp fl n Tryz.f42 [.one (.slice .no (Zf .u8 a0))]=some (.one (.own 1 (Zf .u8 a0)),[]):=by
 refine fnE (kp:=kp42) (w:=true) body42 (by simp) ?_;unfold c42;rw[Tryz.ntmps42];unfold ZZ at hr;obtain⟨_,u1,hr⟩:=bs hr;have u2:=ZW u1;have n1:a0.length≤140737488355328:=by omega
 have n2:a0.length≤9223372036854775807:=by omega
 have ne:Zf .u8 a0≠[]:=fun h=>hne (by simpa[Zf] using h)
 refine Ze rfl (by simp; rfl) ?_
 first
 | (refine ZT ?_; refine Ze rfl (by simp[hne,ne]; rfl) ?_)
 | refine Ze rfl (by simp[hne,ne]; rfl) ?_
 refine ZE (by simp[bV]) ?_;refine ZL ?_;refine Ze rfl (by simp[n1,n2]; rfl) ?_;refine Zcg ?_;simp[XT]
theorem v42:ZB Tryz.prog G 42 G42:=by
 refine ZsO (e:=1) (t:=5) (N:=0) (rows:=fun l:(List Int)=>Zf .u8 l) Tryz.func42 (by kernel_rfl) (by kernel_rfl) G42 (fun ps r hF=>?_) rfl (fun l hl r hF=>?_) (fun x c w=>?_)
 ·obtain⟨x,rfl,h⟩:=ZdY hF
  obtain⟨y,hy,rfl⟩:=Option.map_eq_some_iff.1 h;unfold ZZ at hy;obtain⟨_,u1,hy⟩:=bs hy;obtain rfl:=Option.some.inj hy;exact⟨x,rfl,rfl⟩
 ·refine ZoI (T:=Av.tab []) mixed htt (Av.tab_ok trivial) Tryz.func42 body42 (by kernel_rfl) fun ps r' ho hF'=>?_
  split at hF'
  ·rename_i hps
   subst hps;injection hF' with hF';subst hF';obtain⟨x,hx,h⟩:=ZdY hF;obtain rfl:=E42i l x hx;obtain⟨y,hy,rfl⟩:=Option.map_eq_some_iff.1 h;have hy' := hy;unfold ZZ at hy';obtain⟨_,u1,hy'⟩:=bs hy';obtain rfl:=Option.some.inj hy';exact w42 l hl _ hy
  ·cases hF'
 ·cases x with
  | none=>exact(Zyk c w).mono fun e w' h=>⟨none,h.1,.inl h.2⟩
  | some b=>exact(Zxl b c w).mono fun e w' h=>⟨_,h.1,.inr h.2⟩
theorem w79:Walk tt G [] (fun _=>[]) Tryz.f79 K79:=by
 refine .ak [] false Tryz.ntmps79 fun T hO hT a0 x=>?_
 simp only[Zh] at hT; simp only[kS,nfs,ZkE];exact au
theorem w43:Walk tt G [(79,K79.G)] (fun _=>[]) Tryz.f43 K43:=by
 refine .ak [] false Tryz.ntmps43 fun T hO hT a0 x=>?_
 simp only[Zh] at hT; simp only[kS,nfs,Zc4];exact au
theorem w97:Walk tt G [] (fun _=>[]) Tryz.f97 K97:=by
 refine .ak [] true Tryz.ntmps97 fun T hO hT ⟨a0,a1⟩ x=>?_
 simp only[Zh] at hT; simp only[kS,nfs,YD];exact au
theorem w119:Walk tt G [] (fun _=>[]) Tryz.f119 K119:=by
 refine .ak [(3,⟨[0,5,9,10],[8],[]⟩)] true Tryz.ntmps119 fun T hO hT ⟨a0,a1⟩ x=>?_
 simp only[Zh] at hT; simp only[kS,nfs,Xe,ZeZ];refine au ?_
 intros; refine lpP 3 (fun⟨p8,p9⟩=>([(5,.one (.ms 8 0 0 (p9.length) 1)),(10,.one (.v (.int .i64 p8)))],[(8,⟨0,1,Zf .u8 p9,false,true⟩)])) ?_; rintro⟨p8,p9⟩ x; simp only[ZcZ,ZeZ]
 exact au
theorem w80:Walk tt G [(97,K97.G),(119,K119.G)] (fun _=>[]) Tryz.f80 K80:=by
 refine .ak [] true Tryz.ntmps80 fun T hO hT ⟨a0,a1⟩ x=>?_
 simp only[Zh] at hT; simp only[kS,nfs,Z7];exact au
theorem w81:Walk tt G [(97,K97.G)] (fun _=>[]) Tryz.f81 K81:=by
 refine .ak [] true Tryz.ntmps81 fun T hO hT ⟨a0,a1⟩ x=>?_
 simp only[Zh] at hT; simp only[kS,nfs,Xk];exact au
theorem w44:Walk tt G [(80,K80.G),(81,K81.G)] (fun _=>[]) Tryz.f44 K44:=by
 refine .ak [] true Tryz.ntmps44 fun T hO hT a0 x=>?_
 simp only[Zh] at hT; simp only[kS,nfs,ZeM];exact au
theorem w14:Walk tt G [(42,G42),(43,K43.G),(44,K44.G)] (fun _=>[]) Tryz.f14 K14:=by
 refine .ak [(3,⟨[3,11,12,13],[33],[(3,none,33,1)]⟩),(6,⟨[3,5,11,12,13,18,19,20],[5,33],[]⟩),(13,⟨[3,11,12,13,38,39,40],[33],[]⟩)] true Tryz.ntmps14 fun T hO hT a0 x=>?_
 simp only[Zh] at hT; simp only[kS,nfs,Zaw,Zba,Xn,Xo,X8];refine au ?_
 intros; refine lpP 3 (fun⟨p64,p65⟩=>([(3,.one (.ms 33 0 0 (p65.length) 1)),(13,.one (.v (.int .i64 p64)))],[(33,⟨0,1,List.map YQ p65,false,true⟩)])) ?_; rintro⟨p64,p65⟩ x; simp only[Zdu,Zba,Xn,Xo,X8]
 refine au ?_
 intros; refine lpP 6 (fun⟨p108,p109⟩=>([(3,.one (.ms 33 0 0 (p109.length) 1)),(20,.one (.v (.int .i64 p108)))],[(33,⟨0,1,List.map YQ p109,false,true⟩)])) ?_; rintro⟨p108,p109⟩ x; simp only[ZiF,Zba,Xn,Xo,X8]
 refine au ?_
 intros; refine lpP 13 (fun⟨p123,p124⟩=>([(3,.one (.ms 33 0 0 (p124.length) 1)),(40,.one (.v (.int .i64 p123)))],[(33,⟨0,1,List.map YQ p124,false,true⟩)])) ?_; rintro⟨p123,p124⟩ x; simp only[ZiE,Zba,Xn,Xo,X8]
 exact au
theorem w98:Walk tt G [(97,K97.G),(119,K119.G)] (fun _=>[]) Tryz.f98 K98:=by
 refine .ak [] true Tryz.ntmps98 fun T hO hT ⟨a0,a1⟩ x=>?_
 simp only[Zh] at hT; simp only[kS,nfs,Zbe];exact au
theorem w99:Walk tt G [(97,K97.G),(119,K119.G)] (fun _=>[]) Tryz.f99 K99:=by
 refine .ak [] true Tryz.ntmps99 fun T hO hT ⟨a0,a1⟩ x=>?_
 simp only[Zh] at hT; simp only[kS,nfs,Zao];exact au
theorem w56:Walk tt G [(80,K80.G),(97,K97.G),(98,K98.G),(99,K99.G)] (fun _=>[]) Tryz.f56 K56:=by
 refine .ak [] true Tryz.ntmps56 fun T hO hT ⟨a0,a1⟩ x=>?_
 simp only[Zh] at hT; simp only[kS,nfs,YM];exact au
theorem w67:Walk tt G [(80,K80.G),(81,K81.G)] (fun _=>[]) Tryz.f67 K67:=by
 refine .ak [] true Tryz.ntmps67 fun T hO hT a0 x=>?_
 simp only[Zh] at hT; simp only[kS,nfs,Xp];exact au
theorem w55:Walk tt G [(56,K56.G),(97,K97.G)] (fun _=>[]) Tryz.f55 K55:=by
 refine .ak [] true Tryz.ntmps55 fun T hO hT ⟨a0,a1⟩ x=>?_
 simp only[Zh] at hT; simp only[kS,nfs,XD];exact au
theorem w108:Walk tt G [(44,K44.G),(55,K55.G),(56,K56.G),(80,K80.G),(99,K99.G)] (fun _=>[]) Tryz.f108 K108:=by
 refine .ak [(4,⟨[1,2,5,25,26,27],[2,16],[]⟩),(11,⟨[1,2,5,50,51,52],[2,16],[]⟩),(20,⟨[5,77,78,79],[16],[]⟩),(24,⟨[5,77,78,79,91,92,93],[16],[]⟩)] true Tryz.ntmps108 fun T hO hT ⟨a0,a1⟩ x=>?_
 simp only[Zh] at hT; simp only[kS,nfs,Ze0,Zb8,Zb9,Za2,Za3];refine auA ?_
 intros; refine lpP 4 (fun⟨p16,p17⟩=>([(5,.one (.ms 16 0 0 (p17.length) 1)),(27,.one (.v (.int .i64 p16)))],[(16,⟨0,1,Zf .u8 p17,false,true⟩)])) ?_; rintro⟨p16,p17⟩ x; simp only[Zfj,Zb8,Zb9,Za2,Za3]
 refine auA ?_
 intros; refine lpP 11 (fun⟨p37,p38⟩=>([(5,.one (.ms 16 0 0 (p38.length) 1)),(52,.one (.v (.int .i64 p37)))],[(16,⟨0,1,Zf .u8 p38,false,true⟩)])) ?_; rintro⟨p37,p38⟩ x; simp only[Zfi,Zb8,Zb9,Za2,Za3]
 refine auA ?_
 intros; refine lpP 20 (fun⟨p80,p81⟩=>([(5,.one (.ms 16 0 0 (p81.length) 1)),(79,.one (.v (.int .i64 p80)))],[(16,⟨0,1,Zf .u8 p81,false,true⟩)])) ?_; rintro⟨p80,p81⟩ x; simp only[Zfh,Zb8,Zb9,Za2,Za3]
 refine auA ?_
 intros; refine lpP 24 (fun⟨p109,p110⟩=>([(5,.one (.ms 16 0 0 (p110.length) 1)),(93,.one (.v (.int .i64 p109)))],[(16,⟨0,1,Zf .u8 p110,false,true⟩)])) ?_; rintro⟨p109,p110⟩ x; simp only[Zdv,Zb8,Zb9,Za2,Za3]
 exact auA
theorem w107:Walk tt G [(108,K108.G)] (fun _=>[]) Tryz.f107 K107:=by
 refine .ak [(4,⟨[1,20,21,22],[1],[]⟩),(10,⟨[1,37,38,39],[1],[]⟩),(15,⟨[1,37,38,39,48,49,50],[1],[]⟩)] false Tryz.ntmps107 fun T hO hT a0 x=>?_
 simp only[Zh] at hT; simp only[kS,nfs,ZhF,Zd0,ZfG,Zd2];refine au ?_
 intros; refine lpP 4 (fun p4=>([(22,.one (.v (.int .i64 p4)))],[])) ?_; rintro p4 x; simp only[ZfI,Zd0,ZfG,Zd2]
 refine au ?_
 intros; refine lpP 10 (fun p19=>([(39,.one (.v (.int .i64 p19)))],[])) ?_; rintro p19 x; simp only[ZfH,Zd0,ZfG,Zd2]
 refine au ?_
 intros; refine lpP 15 (fun p31=>([(50,.one (.v (.int .i64 p31)))],[])) ?_; rintro p31 x; simp only[Zd1,Zd0,ZfG,Zd2]
 exact au
theorem w68:Walk tt G [(107,K107.G),(108,K108.G)] (fun _=>[]) Tryz.f68 K68:=by
 refine .ak [] false Tryz.ntmps68 fun T hO hT ⟨a0,a1⟩ x=>?_
 simp only[Zh] at hT; simp only[kS,nfs,ZgC];exact au
theorem w35:Walk tt G [(56,K56.G),(67,K67.G),(68,K68.G)] (fun _=>[]) Tryz.f35 K35:=by
 refine .ak [(5,⟨[4,22,23,24],[20],[]⟩)] false Tryz.ntmps35 fun T hO hT a0 x=>?_
 simp only[Zh] at hT; simp only[kS,nfs,ZdC,Ze2];refine au ?_
 intros; refine lpP 5 (fun⟨p11,p12⟩=>([(4,.one (.ms 20 0 0 (p12.length) 1)),(24,.one (.v (.int .i64 p11)))],[(20,⟨0,1,Zf .u8 p12,false,true⟩)])) ?_; rintro⟨p11,p12⟩ x; simp only[Zbn,Ze2]
 exact au
theorem w69:Walk tt G [] (fun _=>[]) Tryz.f69 K69:=by
 refine .ak [(3,⟨[3,6,7,8],[],[]⟩)] false Tryz.ntmps69 fun T hO hT a0 x=>?_
 simp only[Zh] at hT; simp only[kS,nfs,ZbN,Zid];refine au ?_
 intros; refine lpP 3 (fun⟨p7,p8⟩=>([(3,.one (.v (.int .u64 p7))),(8,.one (.v (.int .i64 p8)))],[])) ?_; rintro⟨p7,p8⟩ x; simp only[Zgj,Zid]
 exact au
theorem w36:Walk tt G [(69,K69.G)] (fun _=>[]) Tryz.f36 K36:=by
 refine .ak [] false Tryz.ntmps36 fun T hO hT a0 x=>?_
 simp only[Zh] at hT; simp only[kS,nfs,ZhJ];exact au
theorem w153:Walk tt G [] (fun _=>[]) Tryz.f153 K153:=by
 refine .ak [(3,⟨[3,6,7,8],[14],[(3,none,14,1)]⟩)] true Tryz.ntmps153 fun T hO hT a0 x=>?_
 simp only[Zh] at hT; simp only[kS,nfs,ZiO,Zlb];refine au ?_
 intros; refine lpP 3 (fun⟨p7,p8⟩=>([(3,.one (.ms 14 0 0 (p8.length) 1)),(8,.one (.v (.int .i64 p7)))],[(14,⟨0,1,Zf .u8 p8,false,true⟩)])) ?_; rintro⟨p7,p8⟩ x; simp only[Zha,Zlb]
 exact au
theorem w154:Walk tt G [] (fun _=>[]) Tryz.f154 K154:=by
 refine .ak [(5,⟨[0,4,18],[15],[]⟩)] true Tryz.ntmps154 fun T hO hT a0 x=>?_
 simp only[Zh] at hT; simp only[kS,nfs,ZiP,Zlc];refine au ?_
 intros; refine lpP 5 (fun⟨p9,p10⟩=>([(4,.one (.ms 15 0 0 (p10.length) 1)),(18,.one (.v (.int .i64 p9)))],[(15,⟨0,1,Zf .u8 p10,false,true⟩)])) ?_; rintro⟨p9,p10⟩ x; simp only[Zhb,Zlc]
 exact au
theorem w227:Walk tt G [] (fun _=>[]) Tryz.f227 K227:=by
 refine .ak [] false Tryz.ntmps227 fun T hO hT ⟨a0,a1⟩ x=>?_
 simp only[Zh] at hT; simp only[kS,nfs,YP];exact au
theorem w198:Walk tt G [(227,K227.G)] (fun _=>[]) Tryz.f198 K198:=by
 refine .ak [] false Tryz.ntmps198 fun T hO hT ⟨a0,a1⟩ x=>?_
 simp only[Zh] at hT; simp only[kS,nfs,XH];exact au
end Go.Proofs.YthpkpciceodioaaGreatDoor
