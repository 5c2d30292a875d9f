import Derived.Test.YtcfpmbefhfbdjaaGreatDoorLfK
import Derived.Test.YtcfpmbefhfbdjaaGreatDoorCode
import Derived.Test.YtcfpmbefhfbdjaaGreatDoorBl
namespace Go.Proofs.YtcfpmbefhfbdjaaGreatDoor
open Go.RowKit
open Go.Av
open Go.Lc
set_option maxRecDepth 100000
set_option linter.unusedSimpArgs false
set_option linter.unusedVariables false
set_option maxHeartbeats 4000000
def kp134_5:Keep:=fun i=>if i=2 then⟨[0,1,2,3,8,9],[1000000],[]⟩ else⟨[],[],[]⟩
theorem ZwQ {T:Tab}(n:Nat) (hO:T.own=fun d=>if d=27 then[[1000001]] else if d=121 then[[1000001]] else if d=132 then[[1000001]] else[]) (hT134:T 134=some (Zn9 n)) (hT126:T 126=some K126.G) (hT162:T 162=some G162_4) (a0:(List Int)) (a1:Int) (a2:Int) (a3:Int) (x:(List Int)) (hr:Yr (Lslices_pdqsortOrdered_of_uint64w_n n) a0 a1 a2 a3=some x):∃ kp fl n,ZZ tt T G kp fl n Tryz.f134 (Zcq (a0,a1,a2,a3))=some (Zev (a0,a1,a2,a3) x):=by
 simp only[Zcq,Zev];refine fnE (kp:=kp134_5) (w:=false) body134 (by simp) ?_;unfold c134;rw[Tryz.ntmps134];unfold Yr at hr;refine Zd rfl (by simp[-Zs,Zo]; rfl) ?_;refine Zd rfl (by simp[-Zs,Zo]; rfl) ?_;refine Zg9 ?_;refine X8 (kq:=⟨[0,1,2,3,8,9],[1000000],[]⟩) (H:=fun(s:Int×Int×Int×Bool×Bool×(List Int))=>match s with | (p56,p57,p58,p59,p60,p61)=>(⟨([.one (.ms 1000000 0 0 (p61.length) 1),.one (.v (.int .i64 p56)),.one (.v (.int .i64 p57)),.one (.v (.int .i64 p58))]++(und 4++([.one (.v (.bool p59)),.one (.v (.bool p60))]++(und 124))):List PV),([(1000000,⟨0,1,Zg .u64 p61,false,true⟩)]:Boxes)⟩:ASt)) (by kernel_rfl) hr (by simp[-Zs,Zo,und,List.replicate,]) ?_;rintro⟨p56,p57,p58,p59,p60,p61⟩ x77r hr77
 simp only[XR] at hr77;unfold b134_1;simp only[und,List.replicate,List.cons_append,List.nil_append];refine Zg9 ?_;refine Zd rfl (by simp[-Zs,Zo]; rfl) ?_;refine ZH ?_;refine Zd rfl (by simp[-Zs,Zo]; rfl) ?_;by_cases c78:IntKind.i64.wrap (p57-p56)≤12
 ·skip
  rw[if_pos] at hr77;rotate_left
  ·simp[-Zs,Zo,c78]
  refine ZC (by simp[-Zs,Zo,bV,c78]) ?_;refine ZH ?_;obtain⟨y79,hy79,hr77⟩:=bs hr77;have ehy79:=ZoQ hy79;simp only[Zcp,Zeu,kS,nf,nfs,Yp] at ehy79;try simp only[Zo] at ehy79
  obtain⟨_,u80,hr77⟩:=bs hr77;have u80_0:=ZK u80;have ck81:=ZE (k:=.u64) u80_0;refine Zd rfl (by simp[-Zs,Zo,hO,hT162,ehy79,ck81,u80_0,c78]; rfl) ?_;refine ZaO ?_;obtain⟨_,u82,hr77⟩:=bs hr77;have u82_0:=ZK u82;try simp only[u80_0] at u82_0
  obtain rfl:=Option.some.inj hr77;simp only[pq,reduceCtorEq];rintro rfl
  simp[-Zs,Zo,YW,hO,hT162,ehy79,ck81,u80_0,u82_0,c78]
 ·skip
  rw[if_neg] at hr77;rotate_left
  ·simp[-Zs,Zo,c78]
  refine ZF (by simp[-Zs,Zo,bV,c78]) ?_;refine ZM ?_;refine ZH ?_;refine Zd rfl (by simp[-Zs,Zo,c78]; rfl) ?_;by_cases c83:p58=0
  ·skip
   rw[if_pos] at hr77;rotate_left
   ·simp[-Zs,Zo,c78,eq_true c83]
   refine ZC (by simp[-Zs,Zo,bV,c78,eq_true c83]) ?_;refine ZH ?_;simp at hr77
  ·skip
   rw[if_neg] at hr77;rotate_left
   ·simp[-Zs,Zo,c78,c83]
   refine ZF (by simp[-Zs,Zo,bV,c78,c83]) ?_;refine ZM ?_;refine ZH ?_;refine Zd rfl (by simp[-Zs,Zo,c78,c83]; rfl) ?_;by_cases c85:p59=true
   ·skip
    rw[if_neg] at hr77;rotate_left
    ·simp[-Zs,Zo,c78,c83,c85]
    refine ZF (by simp[-Zs,Zo,bV,c78,c83,c85]) ?_;refine ZM ?_;unfold XQ at hr77;simp at hr77
   ·skip
    rw[if_pos] at hr77;rotate_left
    ·simp[-Zs,Zo,c78,c83,c85]
    refine ZC (by simp[-Zs,Zo,bV,c78,c83,c85]) ?_;refine ZH ?_;simp at hr77
theorem w97_6:Walk tt G [(134,G134_5),(135,K135.G)] (fun d=>if d=10 then[[1000001]] else[]) Tryz.f97 K97_6:=by
 refine .ak [] false Tryz.ntmps97 fun T hO hT a0 x=>?_
 simp only[Zh] at hT; simp only[kS,nfs,Ym];exact auL
theorem w54:Walk tt G [(95,K95.G),(96,K96.G),(97,K97_6.G)] (fun d=>if d=31 then[[1000001]] else[]) Tryz.f54 K54:=by
 refine .ak [(3,⟨[2,3,4,9,12,13,14],[4,28],[(9,none,28,1)]⟩)] true Tryz.ntmps54 fun T hO hT ⟨a0,a1,a2,a3⟩ x=>?_
 simp only[Zh] at hT; simp only[kS,nfs,Zb8,ZdL];refine au ?_
 intros; refine lpP 3 (fun⟨p10,p11⟩=>([(9,.one (.ms 28 0 0 (p11.length) 1)),(14,.one (.v (.int .i64 p10)))],[(28,⟨0,1,Zg .u64 p11,false,true⟩)])) ?_; rintro⟨p10,p11⟩ x; simp only[ZbW,ZdL]
 exact au
theorem w35:Walk tt G [(53,K53.G),(54,K54.G)] (fun _=>[]) Tryz.f35 K35:=by
 refine .ak [(8,⟨[2,3,4,8,10,11,34,35,36],[4,8,51,1000000000033],[(11,none,51,1)]⟩)] false Tryz.ntmps35 fun T hO hT ⟨a0,a1,a2,a3⟩ x=>?_
 simp only[Zh] at hT; simp only[kS,nfs,ZcN,Zeb,Za2];refine au ?_
 intros; refine lpP 8 (fun⟨p11,p12,p13⟩=>([(11,.one (.ms 51 0 0 (p13.length) 1)),(36,.one (.v (.int .i64 p11)))],[(51,⟨0,1,List.map XX p13,false,true⟩),(1000000000033,⟨0,4,([.v (.string (⟨#[]⟩))]) :: List.map Zke p12,false,false⟩)])) ?_; rintro⟨p11,p12,p13⟩ x; simp only[Za3,Zeb,Za2]
 exact au
theorem ZwR (c:Nat) (w:World):Calls Tryz.prog 55 #[.slice none 0 c] w fun e w'=>e = .returned (.slice none 0 0)∧w'=w:=by
 have h1:∀ w,(binOp .eql 22 (.slice none 0 c) (.slice none 0 0)).run Tryz.prog w = .ok (.bool true) w:=fun w=>by
  have h:∀ d:Nat,(Op.equalIn (d+1) 22 (.slice none 0 c) (.slice none 0 0)).run Tryz.prog w = .ok true w:=fun d=>by
   simp[Op.equalIn,run_underlying Tryz.underlying22]
  have h':(Op.equal 22 (.slice none 0 c) (.slice none 0 0)).run Tryz.prog w = .ok true w:=h 9999;simp[binOp,h']
 go_enter Tryz.func55,Tryz.ntmps55
 go_wp2
 go_ret
 exact⟨rfl,rfl⟩
theorem ZvZ (b:Addr) (c:Nat) (w:World):Calls Tryz.prog 55 #[.slice (some b) 0 c] w fun e w'=>e = .returned (.slice (some ⟨w.heap.size,0,none⟩) 0 0)∧w'=w.alloc (.cells #[] 5):=by
 have h1:∀ w,(binOp .eql 22 (.slice (some b) 0 c) (.slice none 0 0)).run Tryz.prog w = .ok (.bool false) w:=fun w=>by
  have h:(Op.equal 22 (.slice (some b) 0 c) (.slice none 0 0)).run Tryz.prog w = .ok false w:=Znc 9999 Tryz.underlying22;simp[binOp,h]
 have h2:∀ w,(Instr.buildSlice 22 0 #[]).run Tryz.prog w = .ok (.slice (some ⟨w.heap.size,0,none⟩) 0 0) (w.alloc (.cells #[] 5)):=fun w=>by kernel_rfl
 have hi0:(Tryz.prog.info? 5).isSome=true:=by kernel_rfl
 obtain⟨i,hi⟩:=Option.isSome_iff_exists.1 hi0;have h3:∀ (w:World) (x:Option Addr) ty,(Builtin.append_ #[22,22] ty #[.slice x 0 0,.slice (some b) 0 c]).run Tryz.prog w = .ok (.slice x 0 0) w:=fun w x ty=>Znr w 22 ty 5 i Tryz.underlying22 hi x (some b) 0 0 c (Nat.le_refl _)
 clear hi hi0
 go_enter Tryz.func55,Tryz.ntmps55
 go_wp2
 go_ret
 exact⟨rfl,rfl⟩
def kp55:Keep:=fun i=>⟨[],[],[]⟩
theorem w55 {T:Tab}(a0:(List Int)) (hne:a0≠[]) (x:(List Int)) (hr:Yt a0=some x):∃ kp fl n,ZZ tt T G kp fl n Tryz.f55 [.one (.slice .no (Zg .u8 a0))]=some (.one (.own 1 (Zg .u8 a0)),[]):=by
 refine fnE (kp:=kp55) (w:=true) body55 (by simp) ?_;unfold c55;rw[Tryz.ntmps55];unfold Yt at hr;obtain⟨_,u1,hr⟩:=bs hr;have u2:=ZK u1;have n1:a0.length≤140737488355328:=by omega
 have n2:a0.length≤9223372036854775807:=by omega
 have ne:Zg .u8 a0≠[]:=fun h=>hne (by simpa[Zg] using h)
 refine Zd rfl (by simp; rfl) ?_
 first
 | (refine ZH ?_; refine Zd rfl (by simp[hne,ne]; rfl) ?_)
 | refine Zd rfl (by simp[hne,ne]; rfl) ?_
 refine ZF (by simp[bV]) ?_;refine ZM ?_;refine Zd rfl (by simp[n1,n2]; rfl) ?_;refine Zaf ?_;simp[YW]
theorem v55:Yb Tryz.prog G 55 G55:=by
 refine ZrJ (e:=1) (t:=5) (N:=0) (rows:=fun l:(List Int)=>Zg .u8 l) Tryz.func55 (by kernel_rfl) (by kernel_rfl) G55 (fun ps r hF=>?_) rfl (fun l hl r hF=>?_) (fun x c w=>?_)
 ·obtain⟨x,rfl,h⟩:=ZeE hF
  obtain⟨y,hy,rfl⟩:=Option.map_eq_some_iff.1 h;unfold Yt at hy;obtain⟨_,u1,hy⟩:=bs hy;obtain rfl:=Option.some.inj hy;exact⟨x,rfl,rfl⟩
 ·refine ZnP (T:=Av.tab []) mixed htt (Av.tab_ok trivial) Tryz.func55 body55 (by kernel_rfl) fun ps r' ho hF'=>?_
  split at hF'
  ·rename_i hps
   subst hps;injection hF' with hF';subst hF';obtain⟨x,hx,h⟩:=ZeE hF;obtain rfl:=E55i l x hx;obtain⟨y,hy,rfl⟩:=Option.map_eq_some_iff.1 h;have hy' := hy;unfold Yt at hy';obtain⟨_,u1,hy'⟩:=bs hy';obtain rfl:=Option.some.inj hy';exact w55 l hl _ hy
  ·cases hF'
 ·cases x with
  | none=>exact(ZwR c w).mono fun e w' h=>⟨none,h.1,.inl h.2⟩
  | some b=>exact(ZvZ b c w).mono fun e w' h=>⟨_,h.1,.inr h.2⟩
theorem w98:Walk tt G [] (fun _=>[]) Tryz.f98 K98:=by
 refine .ak [] false Tryz.ntmps98 fun T hO hT a0 x=>?_
 simp only[Zh] at hT; simp only[kS,nfs,Zj0];exact au
theorem w56:Walk tt G [(98,K98.G)] (fun _=>[]) Tryz.f56 K56:=by
 refine .ak [] false Tryz.ntmps56 fun T hO hT a0 x=>?_
 simp only[Zh] at hT; simp only[kS,nfs,ZcZ];exact au
theorem w36:Walk tt G [(55,G55),(56,K56.G),(57,K57.G)] (fun _=>[]) Tryz.f36 K36:=by
 refine .ak [(3,⟨[3,11,12,13],[33],[(3,none,33,1)]⟩),(6,⟨[3,5,11,12,13,18,19,20],[5,33],[]⟩),(13,⟨[3,11,12,13,38,39,40],[33],[]⟩)] true Tryz.ntmps36 fun T hO hT a0 x=>?_
 simp only[Zh] at hT; simp only[kS,nfs,Zbr,Zbf,Xw,Xx,Zab];refine au ?_
 intros; refine lpP 3 (fun⟨p64,p65⟩=>([(3,.one (.ms 33 0 0 (p65.length) 1)),(13,.one (.v (.int .i64 p64)))],[(33,⟨0,1,List.map XX p65,false,true⟩)])) ?_; rintro⟨p64,p65⟩ x; simp only[Zdm,Zbf,Xw,Xx,Zab]
 refine au ?_
 intros; refine lpP 6 (fun⟨p108,p109⟩=>([(3,.one (.ms 33 0 0 (p109.length) 1)),(20,.one (.v (.int .i64 p108)))],[(33,⟨0,1,List.map XX p109,false,true⟩)])) ?_; rintro⟨p108,p109⟩ x; simp only[Zh5,Zbf,Xw,Xx,Zab]
 refine au ?_
 intros; refine lpP 13 (fun⟨p123,p124⟩=>([(3,.one (.ms 33 0 0 (p124.length) 1)),(40,.one (.v (.int .i64 p123)))],[(33,⟨0,1,List.map XX p124,false,true⟩)])) ?_; rintro⟨p123,p124⟩ x; simp only[Zh4,Zbf,Xw,Xx,Zab]
 exact au
theorem w19:Walk tt G [(32,K32.G),(33,K33.G),(34,K34.G),(35,K35.G),(36,K36.G)] (fun _=>[]) Tryz.f19 K19:=by
 refine .ak [] false Tryz.ntmps19 fun T hO hT a0 x=>?_
 simp only[Zh] at hT; simp only[kS,nfs,ZdW];exact au
end Go.Proofs.YtcfpmbefhfbdjaaGreatDoor
