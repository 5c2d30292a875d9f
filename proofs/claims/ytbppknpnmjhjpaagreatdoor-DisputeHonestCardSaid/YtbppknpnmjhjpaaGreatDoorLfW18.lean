import Derived.Test.YtbppknpnmjhjpaaGreatDoorLfK
import Derived.Test.YtbppknpnmjhjpaaGreatDoorCode
import Derived.Test.YtbppknpnmjhjpaaGreatDoorBl
namespace Go.Proofs.YtbppknpnmjhjpaaGreatDoor
open Go.RowKit
open Go.Av
open Go.Lc
set_option maxRecDepth 100000
set_option linter.unusedSimpArgs false
set_option linter.unusedVariables false
set_option maxHeartbeats 4000000
theorem Zy5 (c:Nat) (w:World):Calls Tryz.prog 47 #[.slice none 0 c] w fun e w'=>e = .returned (.slice none 0 0)∧w'=w:=by
 have h1:∀ w,(binOp .eql 24 (.slice none 0 c) (.slice none 0 0)).run Tryz.prog w = .ok (.bool true) w:=fun w=>by
  have h:∀ d:Nat,(Op.equalIn (d+1) 24 (.slice none 0 c) (.slice none 0 0)).run Tryz.prog w = .ok true w:=fun d=>by
   simp[Op.equalIn,run_underlying Tryz.underlying24]
  have h':(Op.equal 24 (.slice none 0 c) (.slice none 0 0)).run Tryz.prog w = .ok true w:=h 9999;simp[binOp,h']
 go_enter Tryz.func47,Tryz.ntmps47
 go_wp2
 go_ret
 exact⟨rfl,rfl⟩
theorem Zyc (b:Addr) (c:Nat) (w:World):Calls Tryz.prog 47 #[.slice (some b) 0 c] w fun e w'=>e = .returned (.slice (some ⟨w.heap.size,0,none⟩) 0 0)∧w'=w.alloc (.cells #[] 59):=by
 have h1:∀ w,(binOp .eql 24 (.slice (some b) 0 c) (.slice none 0 0)).run Tryz.prog w = .ok (.bool false) w:=fun w=>by
  have h:(Op.equal 24 (.slice (some b) 0 c) (.slice none 0 0)).run Tryz.prog w = .ok false w:=Zmq 9999 Tryz.underlying24;simp[binOp,h]
 have h2:∀ w,(Instr.buildSlice 24 0 #[]).run Tryz.prog w = .ok (.slice (some ⟨w.heap.size,0,none⟩) 0 0) (w.alloc (.cells #[] 59)):=fun w=>by kernel_rfl
 have hi0:(Tryz.prog.info? 59).isSome=true:=by kernel_rfl
 obtain⟨i,hi⟩:=Option.isSome_iff_exists.1 hi0;have h3:∀ (w:World) (x:Option Addr) ty,(Builtin.append_ #[24,24] ty #[.slice x 0 0,.slice (some b) 0 c]).run Tryz.prog w = .ok (.slice x 0 0) w:=fun w x ty=>ZlC w 24 ty 59 i Tryz.underlying24 hi x (some b) 0 0 c (Nat.le_refl _)
 clear hi hi0
 go_enter Tryz.func47,Tryz.ntmps47
 go_wp2
 go_ret
 exact⟨rfl,rfl⟩
def kp47:Keep:=fun i=>⟨[],[],[]⟩
theorem w47 {T:Tab}(a0:(List Tapi_Claim)) (hne:a0≠[]) (x:(List Tapi_Claim)) (hr:Zu a0=some x):∃ kp fl n,ZN tt T G kp fl n Tryz.f47 [.one (.slice .no (List.map eapi_Claim a0))]=some (.one (.own 33 (List.map eapi_Claim a0)),[]):=by
 refine fnE (kp:=kp47) (w:=true) body47 (by simp) ?_;unfold c47;rw[Tryz.ntmps47];unfold Zu at hr;obtain⟨_,u1,hr⟩:=bs hr;have u2:=ZO u1;have n1:a0.length * 40≤140737488355328:=by omega
 have n2:a0.length≤9223372036854775807:=by omega
 have ne:List.map eapi_Claim a0≠[]:=fun h=>hne (by simpa[Zg] using h)
 refine Zd rfl (by simp; rfl) ?_
 first
 | (refine ZA ?_; refine Zd rfl (by simp[hne,ne]; rfl) ?_)
 | refine Zd rfl (by simp[hne,ne]; rfl) ?_
 refine Zv (by simp[bV]) ?_;refine ZD ?_;refine Zd rfl (by simp[n1,n2]; rfl) ?_;refine Zai ?_;simp[YP]
theorem v47:ZR Tryz.prog G 47 G47:=by
 refine Zo5 (e:=33) (t:=59) (N:=0) (rows:=fun l:(List Tapi_Claim)=>List.map eapi_Claim l) Tryz.func47 (by kernel_rfl) (by kernel_rfl) G47 (fun ps r hF=>?_) rfl (fun l hl r hF=>?_) (fun x c w=>?_)
 ·obtain⟨x,rfl,h⟩:=ZcR hF
  obtain⟨y,hy,rfl⟩:=Option.map_eq_some_iff.1 h;unfold Zu at hy;obtain⟨_,u1,hy⟩:=bs hy;obtain rfl:=Option.some.inj hy;exact⟨x,rfl,rfl⟩
 ·refine ZnT (T:=Av.tab []) mixed htt (Av.tab_ok trivial) Tryz.func47 body47 (by kernel_rfl) fun ps r' ho hF'=>?_
  split at hF'
  ·rename_i hps
   subst hps;injection hF' with hF';subst hF';obtain⟨x,hx,h⟩:=ZcR hF;obtain rfl:=E47i l x hx;obtain⟨y,hy,rfl⟩:=Option.map_eq_some_iff.1 h;have hy' := hy;unfold Zu at hy';obtain⟨_,u1,hy'⟩:=bs hy';obtain rfl:=Option.some.inj hy';exact w47 l hl _ hy
  ·cases hF'
 ·cases x with
  | none=>exact(Zy5 c w).mono fun e w' h=>⟨none,h.1,.inl h.2⟩
  | some b=>exact(Zyc b c w).mono fun e w' h=>⟨_,h.1,.inr h.2⟩
theorem w18:Walk tt G [(45,K45.G),(46,K46.G),(47,G47)] (fun _=>[]) Tryz.f18 K18:=by
 refine .sk [] false Tryz.ntmps18 fun T hO hT ⟨a0,a1,a2,a3⟩ x hr=>?_
 simp only[Zh] at hT; simp only[kS,nfs] at hr ⊢;unfold Zaf at hr;refine go ?_;rcases eqT ((a3.length:Int)=0) with c5 | c5
 ·have c5N:=nrm c5
  replace hr:=ZlP hr
  obtain⟨_,hz6,hr⟩:=bs hr;obtain rfl:=Option.some.inj hz6;refine go ?_
  replace hr:=ifP hr
  refine go ?_;exact fin hr
 ·have c5N:=nrm c5
  replace hr:=ZmO hr
  obtain⟨_,hz7,hr⟩:=bs hr;obtain⟨y8,ehy8,hz7⟩:=bN hz7 K45.q1;obtain rfl:=Option.some.inj hz7;refine go ?_;by_cases c9:y8=true
  ·replace hr:=ifN hr
   refine go ?_;obtain⟨y10,ehy10,hr⟩:=bN hr K46.q2;refine go ?_;by_cases c11:y10=true
   ·replace hr:=ifN hr
    refine go ?_;obtain⟨_,ehy12,hr⟩:=bG hr fun _=>ZvJ
    simp only[E47,R47,kS,nf,nfs,Z5] at ehy12;refine go ?_;exact fin hr
   ·replace hr:=ifP hr
    refine go ?_;exact fin hr
  ·replace hr:=ifP hr
   refine go ?_;exact fin hr
theorem w19:Walk tt G [(35,K35.G)] (fun _=>[]) Tryz.f19 K19:=by
 refine .ak [] false Tryz.ntmps19 fun T hO hT a0 x=>?_
 simp only[Zh] at hT; simp only[kS,nfs,Xq];exact ZiC
theorem w48:Walk tt G [] (fun _=>[]) Tryz.f48 K48:=by
 refine .ak [(2,⟨[0,5,6,7],[],[]⟩)] false Tryz.ntmps48 fun T hO hT a0 x=>?_
 simp only[Zh] at hT; simp only[kS,nfs,Zag,Ldispute_agree_k1];refine au ?_
 intros; refine lpP 2 (fun p5=>([(7,.one (.v (.int .i64 p5)))],[])) ?_; rintro p5 x; simp only[Zby,Ldispute_agree_k1]
 exact au
theorem w20:Walk tt G [(19,K19.G),(35,K35.G),(45,K45.G),(48,K48.G)] (fun _=>[]) Tryz.f20 K20:=by
 refine .ak [(10,⟨[1,2,4,7,9,10,11,12,32,33,34],[2,4,71,78,83],[(9,none,71,33),(10,none,78,33),(11,none,83,1)]⟩),(12,⟨[1,2,4,7,9,10,11,12,14,32,33,34],[2,4,14,71,78,83],[]⟩)] false Tryz.ntmps20 fun T hO hT ⟨a0,a1⟩ x=>?_
 simp only[Zh] at hT; simp only[kS,nfs,XN,YX,X7,YG,Xh];refine au ?_
 intros; refine lpP 10 (fun⟨p43,p44,p45,p46,p47⟩=>([(9,.one (.ms 71 0 0 (p45.length) 33)),(10,.one (.ms 78 0 0 (p46.length) 33)),(11,.one (.ms 83 0 0 (p47.length) 1)),(12,.one (.v (.int .i64 p43))),(34,.one (.v (.int .i64 p44)))],[(71,⟨0,33,List.map eapi_Claim p45,false,true⟩),(78,⟨0,33,List.map eapi_Claim p46,false,true⟩),(83,⟨0,1,Zg .i64 p47,false,true⟩)])) ?_; rintro⟨p43,p44,p45,p46,p47⟩ x; simp only[Zcy,YX,X7,YG,Xh]
 refine au ?_
 intros; refine lpP 12 (fun p81=>([(12,.one (.v (.int .i64 p81)))],[])) ?_; rintro p81 x; simp only[Zcx,YX,X7,YG,Xh]
 exact au
theorem w21:Walk tt G [(49,G49)] (fun _=>[]) Tryz.f21 K21:=by
 refine .ak [] false Tryz.ntmps21 fun T hO hT ⟨a0,a1⟩ x=>?_
 simp only[Zh] at hT; simp only[kS,nfs,Zau];exact au
end Go.Proofs.YtbppknpnmjhjpaaGreatDoor
