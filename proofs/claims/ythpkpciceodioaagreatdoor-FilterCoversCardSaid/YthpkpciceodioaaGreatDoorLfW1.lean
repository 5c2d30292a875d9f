import Derived.Test.YthpkpciceodioaaGreatDoorLfK
import Derived.Test.YthpkpciceodioaaGreatDoorCode
import Derived.Test.YthpkpciceodioaaGreatDoorBl
namespace Go.Proofs.YthpkpciceodioaaGreatDoor
open Go.RowKit
open Go.Av
open Go.Lc
set_option maxRecDepth 100000
set_option linter.unusedSimpArgs false
set_option linter.unusedVariables false
set_option maxHeartbeats 4000000
theorem Zyf (c:Nat) (w:World):Calls Tryz.prog 42 #[.slice none 0 c] w fun e w'=>e = .returned (.slice none 0 0)∧w'=w:=by
 have h1:∀ w,(binOp .eql 32 (.slice none 0 c) (.slice none 0 0)).run Tryz.prog w = .ok (.bool true) w:=fun w=>by
  have h:∀ d:Nat,(Op.equalIn (d+1) 32 (.slice none 0 c) (.slice none 0 0)).run Tryz.prog w = .ok true w:=fun d=>by
   simp[Op.equalIn,run_underlying Tryz.underlying32]
  have h':(Op.equal 32 (.slice none 0 c) (.slice none 0 0)).run Tryz.prog w = .ok true w:=h 9999;simp[binOp,h']
 go_enter Tryz.func42,Tryz.ntmps42
 go_wp2
 go_ret
 exact⟨rfl,rfl⟩
theorem Zxh (b:Addr) (c:Nat) (w:World):Calls Tryz.prog 42 #[.slice (some b) 0 c] w fun e w'=>e = .returned (.slice (some ⟨w.heap.size,0,none⟩) 0 0)∧w'=w.alloc (.cells #[] 5):=by
 have h1:∀ w,(binOp .eql 32 (.slice (some b) 0 c) (.slice none 0 0)).run Tryz.prog w = .ok (.bool false) w:=fun w=>by
  have h:(Op.equal 32 (.slice (some b) 0 c) (.slice none 0 0)).run Tryz.prog w = .ok false w:=Zog 9999 Tryz.underlying32;simp[binOp,h]
 have h2:∀ w,(Instr.buildSlice 32 0 #[]).run Tryz.prog w = .ok (.slice (some ⟨w.heap.size,0,none⟩) 0 0) (w.alloc (.cells #[] 5)):=fun w=>by kernel_rfl
 have hi0:(Tryz.prog.info? 5).isSome=true:=by kernel_rfl
 obtain⟨i,hi⟩:=Option.isSome_iff_exists.1 hi0;have h3:∀ (w:World) (x:Option Addr) ty,(Builtin.append_ #[32,32] ty #[.slice x 0 0,.slice (some b) 0 c]).run Tryz.prog w = .ok (.slice x 0 0) w:=fun w x ty=>Zou w 32 ty 5 i Tryz.underlying32 hi x (some b) 0 0 c (Nat.le_refl _)
 clear hi hi0
 go_enter Tryz.func42,Tryz.ntmps42
 go_wp2
 go_ret
 exact⟨rfl,rfl⟩
def kp42:Keep:=fun i=>⟨[],[],[]⟩
theorem w42 {T:Tab}(a0:(List Int)) (hne:a0≠[]) (x:(List Int)) (hr:ZM a0=some x):∃ kp fl n,ZP tt T G kp fl n Tryz.f42 [.one (.slice .no (Zf .u8 a0))]=some (.one (.own 1 (Zf .u8 a0)),[]):=by
 refine fnE (kp:=kp42) (w:=true) body42 (by simp) ?_;unfold c42;rw[Tryz.ntmps42];unfold ZM at hr;obtain⟨_,u1,hr⟩:=bs hr;have u2:=ZV u1;have n1:a0.length≤140737488355328:=by omega
 have n2:a0.length≤9223372036854775807:=by omega
 have ne:Zf .u8 a0≠[]:=fun h=>hne (by simpa[Zf] using h)
 refine Zi rfl (by simp; rfl) ?_
 first
 | (refine Yk ?_; refine Zi rfl (by simp[hne,ne]; rfl) ?_)
 | refine Zi rfl (by simp[hne,ne]; rfl) ?_
 refine ZX (by simp[bV]) ?_;refine Z7 ?_;refine Zi rfl (by simp[n1,n2]; rfl) ?_;refine ZdW ?_;simp[ZaR]
theorem v42:ZD Tryz.prog G 42 G42:=by
 refine Zs2 (e:=1) (t:=5) (N:=0) (rows:=fun l:(List Int)=>Zf .u8 l) Tryz.func42 (by kernel_rfl) (by kernel_rfl) G42 (fun ps r hF=>?_) rfl (fun l hl r hF=>?_) (fun x c w=>?_)
 ·obtain⟨x,rfl,h⟩:=Zd9 hF
  obtain⟨y,hy,rfl⟩:=Option.map_eq_some_iff.1 h;unfold ZM at hy;obtain⟨_,u1,hy⟩:=bs hy;obtain rfl:=Option.some.inj hy;exact⟨x,rfl,rfl⟩
 ·refine ZoU (T:=Av.tab []) mixed htt (Av.tab_ok trivial) Tryz.func42 body42 (by kernel_rfl) fun ps r' ho hF'=>?_
  split at hF'
  ·rename_i hps
   subst hps;injection hF' with hF';subst hF';obtain⟨x,hx,h⟩:=Zd9 hF;obtain rfl:=E42i l x hx;obtain⟨y,hy,rfl⟩:=Option.map_eq_some_iff.1 h;have hy' := hy;unfold ZM at hy';obtain⟨_,u1,hy'⟩:=bs hy';obtain rfl:=Option.some.inj hy';exact w42 l hl _ hy
  ·cases hF'
 ·cases x with
  | none=>exact(Zyf c w).mono fun e w' h=>⟨none,h.1,.inl h.2⟩
  | some b=>exact(Zxh b c w).mono fun e w' h=>⟨_,h.1,.inr h.2⟩
theorem w79:Walk tt G [] (fun _=>[]) Tryz.f79 K79:=by
 refine .ak [] false Tryz.ntmps79 fun T hO hT a0 x=>?_
 simp only[Zg] at hT; simp only[kS,nfs,ZkO];exact au
theorem w43:Walk tt G [(79,K79.G)] (fun _=>[]) Tryz.f43 K43:=by
 refine .ak [] false Tryz.ntmps43 fun T hO hT a0 x=>?_
 simp only[Zg] at hT; simp only[kS,nfs,Zdh];exact au
theorem w97:Walk tt G [] (fun _=>[]) Tryz.f97 K97:=by
 refine .ak [] true Tryz.ntmps97 fun T hO hT ⟨a0,a1⟩ x=>?_
 simp only[Zg] at hT; simp only[kS,nfs,YC];exact au
theorem w119:Walk tt G [] (fun _=>[]) Tryz.f119 K119:=by
 refine .ak [(3,⟨[0,5,9,10],[8],[]⟩)] true Tryz.ntmps119 fun T hO hT ⟨a0,a1⟩ x=>?_
 simp only[Zg] at hT; simp only[kS,nfs,Xn,Ze9];refine au ?_
 intros; refine lpP 3 (fun⟨p8,p9⟩=>([(5,.one (.ms 8 0 0 (p9.length) 1)),(10,.one (.v (.int .i64 p8)))],[(8,⟨0,1,Zf .u8 p9,false,true⟩)])) ?_; rintro⟨p8,p9⟩ x; simp only[Zdd,Ze9]
 exact au
theorem w80:Walk tt G [(97,K97.G),(119,K119.G)] (fun _=>[]) Tryz.f80 K80:=by
 refine .ak [] true Tryz.ntmps80 fun T hO hT ⟨a0,a1⟩ x=>?_
 simp only[Zg] at hT; simp only[kS,nfs,Ya];exact au
theorem w81:Walk tt G [(97,K97.G)] (fun _=>[]) Tryz.f81 K81:=by
 refine .ak [] true Tryz.ntmps81 fun T hO hT ⟨a0,a1⟩ x=>?_
 simp only[Zg] at hT; simp only[kS,nfs,Xs];exact au
theorem w44:Walk tt G [(80,K80.G),(81,K81.G)] (fun _=>[]) Tryz.f44 K44:=by
 refine .ak [] true Tryz.ntmps44 fun T hO hT a0 x=>?_
 simp only[Zg] at hT; simp only[kS,nfs,ZdX];exact au
theorem w14:Walk tt G [(42,G42),(43,K43.G),(44,K44.G)] (fun _=>[]) Tryz.f14 K14:=by
 refine .ak [(3,⟨[3,11,12,13],[33],[(3,none,33,1)]⟩),(6,⟨[3,5,11,12,13,18,19,20],[5,33],[]⟩),(13,⟨[3,11,12,13,38,39,40],[33],[]⟩)] true Tryz.ntmps14 fun T hO hT a0 x=>?_
 simp only[Zg] at hT; simp only[kS,nfs,Xm,Zbn,YM,YN,Zad];refine au ?_
 intros; refine lpP 3 (fun⟨p64,p65⟩=>([(3,.one (.ms 33 0 0 (p65.length) 1)),(13,.one (.v (.int .i64 p64)))],[(33,⟨0,1,List.map X5 p65,false,true⟩)])) ?_; rintro⟨p64,p65⟩ x; simp only[Zae,Zbn,YM,YN,Zad]
 refine au ?_
 intros; refine lpP 6 (fun⟨p108,p109⟩=>([(3,.one (.ms 33 0 0 (p109.length) 1)),(20,.one (.v (.int .i64 p108)))],[(33,⟨0,1,List.map X5 p109,false,true⟩)])) ?_; rintro⟨p108,p109⟩ x; simp only[ZiL,Zbn,YM,YN,Zad]
 refine au ?_
 intros; refine lpP 13 (fun⟨p123,p124⟩=>([(3,.one (.ms 33 0 0 (p124.length) 1)),(40,.one (.v (.int .i64 p123)))],[(33,⟨0,1,List.map X5 p124,false,true⟩)])) ?_; rintro⟨p123,p124⟩ x; simp only[ZiK,Zbn,YM,YN,Zad]
 exact au
theorem w98:Walk tt G [(97,K97.G),(119,K119.G)] (fun _=>[]) Tryz.f98 K98:=by
 refine .ak [] true Tryz.ntmps98 fun T hO hT ⟨a0,a1⟩ x=>?_
 simp only[Zg] at hT; simp only[kS,nfs,Zbs];exact au
theorem w99:Walk tt G [(97,K97.G),(119,K119.G)] (fun _=>[]) Tryz.f99 K99:=by
 refine .ak [] true Tryz.ntmps99 fun T hO hT ⟨a0,a1⟩ x=>?_
 simp only[Zg] at hT; simp only[kS,nfs,Zau];exact au
theorem w56:Walk tt G [(80,K80.G),(97,K97.G),(98,K98.G),(99,K99.G)] (fun _=>[]) Tryz.f56 K56:=by
 refine .ak [] true Tryz.ntmps56 fun T hO hT ⟨a0,a1⟩ x=>?_
 simp only[Zg] at hT; simp only[kS,nfs,YS];exact au
theorem w67:Walk tt G [(80,K80.G),(81,K81.G)] (fun _=>[]) Tryz.f67 K67:=by
 refine .ak [] true Tryz.ntmps67 fun T hO hT a0 x=>?_
 simp only[Zg] at hT; simp only[kS,nfs,YO];exact au
theorem w55:Walk tt G [(56,K56.G),(97,K97.G)] (fun _=>[]) Tryz.f55 K55:=by
 refine .ak [] true Tryz.ntmps55 fun T hO hT ⟨a0,a1⟩ x=>?_
 simp only[Zg] at hT; simp only[kS,nfs,XH];exact au
theorem w108:Walk tt G [(44,K44.G),(55,K55.G),(56,K56.G),(80,K80.G),(99,K99.G)] (fun _=>[]) Tryz.f108 K108:=by
 refine .ak [(4,⟨[1,2,5,25,26,27],[2,16],[]⟩),(11,⟨[1,2,5,50,51,52],[2,16],[]⟩),(20,⟨[5,77,78,79],[16],[]⟩),(24,⟨[5,77,78,79,91,92,93],[16],[]⟩)] true Tryz.ntmps108 fun T hO hT ⟨a0,a1⟩ x=>?_
 simp only[Zg] at hT; simp only[kS,nfs,Zfa,Zco,Zcp,Zbc,Zbd];refine auA ?_
 intros; refine lpP 4 (fun⟨p16,p17⟩=>([(5,.one (.ms 16 0 0 (p17.length) 1)),(27,.one (.v (.int .i64 p16)))],[(16,⟨0,1,Zf .u8 p17,false,true⟩)])) ?_; rintro⟨p16,p17⟩ x; simp only[Zfq,Zco,Zcp,Zbc,Zbd]
 refine auA ?_
 intros; refine lpP 11 (fun⟨p37,p38⟩=>([(5,.one (.ms 16 0 0 (p38.length) 1)),(52,.one (.v (.int .i64 p37)))],[(16,⟨0,1,Zf .u8 p38,false,true⟩)])) ?_; rintro⟨p37,p38⟩ x; simp only[Zfp,Zco,Zcp,Zbc,Zbd]
 refine auA ?_
 intros; refine lpP 20 (fun⟨p80,p81⟩=>([(5,.one (.ms 16 0 0 (p81.length) 1)),(79,.one (.v (.int .i64 p80)))],[(16,⟨0,1,Zf .u8 p81,false,true⟩)])) ?_; rintro⟨p80,p81⟩ x; simp only[Zfo,Zco,Zcp,Zbc,Zbd]
 refine auA ?_
 intros; refine lpP 24 (fun⟨p109,p110⟩=>([(5,.one (.ms 16 0 0 (p110.length) 1)),(93,.one (.v (.int .i64 p109)))],[(16,⟨0,1,Zf .u8 p110,false,true⟩)])) ?_; rintro⟨p109,p110⟩ x; simp only[ZdF,Zco,Zcp,Zbc,Zbd]
 exact auA
theorem w107:Walk tt G [(108,K108.G)] (fun _=>[]) Tryz.f107 K107:=by
 refine .ak [(4,⟨[1,20,21,22],[1],[]⟩),(10,⟨[1,37,38,39],[1],[]⟩),(15,⟨[1,37,38,39,48,49,50],[1],[]⟩)] false Tryz.ntmps107 fun T hO hT a0 x=>?_
 simp only[Zg] at hT; simp only[kS,nfs,ZhL,Zea,ZfN,Zec];refine au ?_
 intros; refine lpP 4 (fun p4=>([(22,.one (.v (.int .i64 p4)))],[])) ?_; rintro p4 x; simp only[ZfP,Zea,ZfN,Zec]
 refine au ?_
 intros; refine lpP 10 (fun p19=>([(39,.one (.v (.int .i64 p19)))],[])) ?_; rintro p19 x; simp only[ZfO,Zea,ZfN,Zec]
 refine au ?_
 intros; refine lpP 15 (fun p31=>([(50,.one (.v (.int .i64 p31)))],[])) ?_; rintro p31 x; simp only[Zeb,Zea,ZfN,Zec]
 exact au
theorem w68:Walk tt G [(107,K107.G),(108,K108.G)] (fun _=>[]) Tryz.f68 K68:=by
 refine .ak [] false Tryz.ntmps68 fun T hO hT ⟨a0,a1⟩ x=>?_
 simp only[Zg] at hT; simp only[kS,nfs,ZdZ];exact au
theorem w35:Walk tt G [(56,K56.G),(67,K67.G),(68,K68.G)] (fun _=>[]) Tryz.f35 K35:=by
 refine .ak [(5,⟨[4,22,23,24],[20],[]⟩)] false Tryz.ntmps35 fun T hO hT a0 x=>?_
 simp only[Zg] at hT; simp only[kS,nfs,Zbi,Zdp];refine au ?_
 intros; refine lpP 5 (fun⟨p11,p12⟩=>([(4,.one (.ms 20 0 0 (p12.length) 1)),(24,.one (.v (.int .i64 p11)))],[(20,⟨0,1,Zf .u8 p12,false,true⟩)])) ?_; rintro⟨p11,p12⟩ x; simp only[Y3,Zdp]
 exact au
theorem w69:Walk tt G [] (fun _=>[]) Tryz.f69 K69:=by
 refine .ak [(3,⟨[3,6,7,8],[],[]⟩)] false Tryz.ntmps69 fun T hO hT a0 x=>?_
 simp only[Zg] at hT; simp only[kS,nfs,Zb3,Zij];refine au ?_
 intros; refine lpP 3 (fun⟨p7,p8⟩=>([(3,.one (.v (.int .u64 p7))),(8,.one (.v (.int .i64 p8)))],[])) ?_; rintro⟨p7,p8⟩ x; simp only[Zgp,Zij]
 exact au
theorem w36:Walk tt G [(69,K69.G)] (fun _=>[]) Tryz.f36 K36:=by
 refine .ak [] false Tryz.ntmps36 fun T hO hT a0 x=>?_
 simp only[Zg] at hT; simp only[kS,nfs,Zfc];exact au
theorem w153:Walk tt G [] (fun _=>[]) Tryz.f153 K153:=by
 refine .ak [(3,⟨[3,6,7,8],[14],[(3,none,14,1)]⟩)] true Tryz.ntmps153 fun T hO hT a0 x=>?_
 simp only[Zg] at hT; simp only[kS,nfs,ZiV,Zlm];refine au ?_
 intros; refine lpP 3 (fun⟨p7,p8⟩=>([(3,.one (.ms 14 0 0 (p8.length) 1)),(8,.one (.v (.int .i64 p7)))],[(14,⟨0,1,Zf .u8 p8,false,true⟩)])) ?_; rintro⟨p7,p8⟩ x; simp only[Zhf,Zlm]
 exact au
theorem w154:Walk tt G [] (fun _=>[]) Tryz.f154 K154:=by
 refine .ak [(5,⟨[0,4,18],[15],[]⟩)] true Tryz.ntmps154 fun T hO hT a0 x=>?_
 simp only[Zg] at hT; simp only[kS,nfs,ZiW,Zln];refine au ?_
 intros; refine lpP 5 (fun⟨p9,p10⟩=>([(4,.one (.ms 15 0 0 (p10.length) 1)),(18,.one (.v (.int .i64 p9)))],[(15,⟨0,1,Zf .u8 p10,false,true⟩)])) ?_; rintro⟨p9,p10⟩ x; simp only[Zhg,Zln]
 exact au
theorem w227:Walk tt G [] (fun _=>[]) Tryz.f227 K227:=by
 refine .ak [] false Tryz.ntmps227 fun T hO hT ⟨a0,a1⟩ x=>?_
 simp only[Zg] at hT; simp only[kS,nfs,YV];exact au
theorem w198:Walk tt G [(227,K227.G)] (fun _=>[]) Tryz.f198 K198:=by
 refine .ak [] false Tryz.ntmps198 fun T hO hT ⟨a0,a1⟩ x=>?_
 simp only[Zg] at hT; simp only[kS,nfs,XL];exact au
theorem w197:Walk tt G [(198,K198.G)] (fun _=>[]) Tryz.f197 K197:=by
 refine .ak [(3,⟨[1,2,3,9],[1,2,3],[]⟩),(6,⟨[1,2,3,4,9,12],[1,2,3],[]⟩),(12,⟨[2,3,6],[2,3],[]⟩)] false Tryz.ntmps197 fun T hO hT a0 x=>?_
 simp only[Zg] at hT; simp only[kS,nfs,ZdI,Zdj,Zax,Zby];refine au ?_
 intros; refine lpP 3 (fun⟨p20,p21⟩=>([(9,.one (.v (.int .i64 p20)))],[(3,⟨0,64,[arC .u32 p21],false,false⟩)])) ?_; rintro⟨p20,p21⟩ x; simp only[Zdk,Zdj,Zax,Zby]
 refine au ?_ ?_
 ·intros; refine lpP 6 (fun⟨p77,p78⟩=>([(12,.one (.v (.int .i64 p77)))],[(3,⟨0,64,[arC .u32 p78],false,false⟩)])) ?_; rintro⟨p77,p78⟩ x; simp only[Zay,Zdj,Zax,Zby]
  exact au
 ·intros; refine lpP 12 (fun⟨p51,p52⟩=>([(6,.one (.v (.int .i64 p51)))],[(3,⟨0,64,[arC .u32 p52],false,false⟩)])) ?_; rintro⟨p51,p52⟩ x; simp only[Lsha_schedule_s2,Zdj,Zax,Zby]
  exact au
theorem w155:Walk tt G [(197,K197.G),(198,K198.G)] (fun _=>[]) Tryz.f155 K155:=by
 refine .ak [(5,⟨[2,4,5,6,7,8,9,10,11,12,13,35],[2,4,5],[]⟩)] false Tryz.ntmps155 fun T hO hT ⟨a0,a1⟩ x=>?_
 simp only[Zg] at hT; simp only[kS,nfs,ZdJ,ZhM];refine au ?_
 intros; refine lpP 5 (fun⟨p24,p25,p26,p27,p28,p29,p30,p31,p32⟩=>([(6,.one (.v (.int .u32 p24))),(7,.one (.v (.int .u32 p25))),(8,.one (.v (.int .u32 p26))),(9,.one (.v (.int .u32 p27))),(10,.one (.v (.int .u32 p28))),(11,.one (.v (.int .u32 p29))),(12,.one (.v (.int .u32 p30))),(13,.one (.v (.int .u32 p31))),(35,.one (.v (.int .i64 p32)))],[])) ?_; rintro⟨p24,p25,p26,p27,p28,p29,p30,p31,p32⟩ x; simp only[Zdl,ZhM]
 exact au
theorem w105:Walk tt G [(153,K153.G),(154,K154.G),(155,K155.G)] (fun _=>[]) Tryz.f105 K105:=by
 refine .ak [(4,⟨[2,3,4,18,19],[2,4,14],[]⟩),(10,⟨[2,4,6,31],[2,4,6],[]⟩)] false Tryz.ntmps105 fun T hO hT a0 x=>?_
 simp only[Zg] at hT; simp only[kS,nfs,ZhN,Zjr,ZfQ];refine Zrs ?_
 intros; refine lpP 4 (fun⟨p11,p12⟩=>([(19,.one (.v (.int .i64 p11)))],[(4,⟨0,8,[arC .u32 p12],false,false⟩)])) ?_; rintro⟨p11,p12⟩ x; simp only[Zhi,Zjr,ZfQ]
 refine Zrs ?_
 intros; refine lpP 10 (fun⟨p23,p24⟩=>([(31,.one (.v (.int .i64 p23)))],[(6,⟨0,32,[arC .u8 p24],false,false⟩)])) ?_; rintro⟨p23,p24⟩ x; simp only[Zhh,Zjr,ZfQ]
 exact Zrs
theorem w65:Walk tt G [(105,K105.G)] (fun _=>[]) Tryz.f65 K65:=by
 refine .ak [] false Tryz.ntmps65 fun T hO hT a0 x=>?_
 simp only[Zg] at hT; simp only[kS,nfs,ZfR];exact au
theorem w37:Walk tt G [(65,K65.G),(67,K67.G)] (fun _=>[]) Tryz.f37 K37:=by
 refine .ak [] false Tryz.ntmps37 fun T hO hT a0 x=>?_
 simp only[Zg] at hT; simp only[kS,nfs,ZaO];exact au
theorem w199:Walk tt G [] (fun _=>[]) Tryz.f199 K199:=by
 refine .ak [] false Tryz.ntmps199 fun T hO hT a0 x=>?_
 simp only[Zg] at hT; simp only[kS,nfs,XX];exact au
theorem w156:Walk tt G [(199,K199.G)] (fun _=>[]) Tryz.f156 K156:=by
 refine .ak [] false Tryz.ntmps156 fun T hO hT ⟨a0,a1⟩ x=>?_
 simp only[Zg] at hT; simp only[kS,nfs,Y9];exact au
theorem w109:Walk tt G [(156,K156.G)] (fun _=>[]) Tryz.f109 K109:=by
 refine .ak [(2,⟨[0,3],[],[]⟩)] false Tryz.ntmps109 fun T hO hT a0 x=>?_
 simp only[Zg] at hT; simp only[kS,nfs,Yd,Lslices_IsSorted_of__uint64_uint64_k1];refine au ?_
 intros; refine lpP 2 (fun p8=>([(3,.one (.v (.int .i64 p8)))],[])) ?_; rintro p8 x; simp only[ZO,Lslices_IsSorted_of__uint64_uint64_k1]
 exact au
theorem w157:Walk tt G [] (fun _=>[]) Tryz.f157 K157:=by
 refine .ak [] false Tryz.ntmps157 fun T hO hT a0 x=>?_
 simp only[Zg] at hT; simp only[kS,nfs,ZcO];exact Zh3
theorem w158:Walk tt G [] (fun _=>[]) Tryz.f158 K158:=by
 refine .ak [] true Tryz.ntmps158 fun T hO hT a0 x=>?_
 simp only[Zg] at hT; simp only[kS,nfs,ZfS];exact au
theorem w159_1:Walk tt G [] (fun _=>[]) Tryz.f159 K159_1:=by
 refine .sk [(1000002,⟨[0,1],[1000000,67000000],[]⟩),(1000004,⟨[0],[1000000,67000000],[]⟩)] false Tryz.ntmps159 (hi:=by intro x; simp[E159_1]) (fun T hO hT ⟨a0,a1⟩ x hr=>?_);simp only[Zg] at hT; simp only[kS,E159_1,nfs] at hr ⊢;unfold XM at hr;refine go ?_;refine ZnY hr (fun(s:(List Int))=>match s with | p2=>(⟨([.ptr 1000000 0 0 0 2,.one (.v (.bool a1))]++(und 52):List PV),([(1000000,⟨0,2,[[.ms 67000000 0 0 (p2.length) 1,.v (.int .i64 a0.2)]],false,false⟩),(67000000,⟨0,1,Zf .u8 p2,false,true⟩)]:Boxes)⟩:ASt)) (fun(s:(List Int))=>match s with | p2=>Xa a1 a0 p2) ?_ ?_
 ·rintro p2 hk13
  change Xa a1 a0 p2=_ at hk13
  refine nst ?_;unfold Xa at hk13;refine go ?_;refine ZnE rfl (kq:=⟨[0,1],[1000000,67000000],[]⟩) rfl (by simp[Zbl, *]; rfl) (by simp[*]; rfl) ?_;refine ZnY hk13 (fun(s:(List Int))=>match s with | p6=>(⟨([.ptr 1000000 0 0 0 2]++(und 53):List PV),([(1000000,⟨0,2,[[.ms 67000000 0 0 (p6.length) 1,.v (.int .i64 a0.2)]],false,false⟩),(67000000,⟨0,1,Zf .u8 p6,false,true⟩)]:Boxes)⟩:ASt)) (fun(s:(List Int))=>match s with | p6=>Xu a0 p6) ?_ ?_
  ·rintro p6 hk18
   change Xu a0 p6=_ at hk18
   refine nst ?_;unfold Xu at hk18;refine ZlB rfl (kq:=⟨[0],[1000000,67000000],[]⟩) rfl (by simp[Zbl, *]; rfl) (by simp[*]; rfl) ?_;exact fin hk18
  ·intro J18
   by_cases c19:a1=true
   ·replace hk13:=ifP hk13
    refine go ?_;obtain⟨j20,⟨_,_,_⟩,hk13⟩:=bA hk13;obtain⟨x21,hx21,hk13⟩:=bs hk13;have ghx21:=Xk hx21;obtain⟨_,hk13⟩:=bC hk13;refine go ?_;exact jn 1000004 (J18 ((p2).set j20 (bits .or .u8 x21 ((128:Int).fdiv (2 ^ (min ((a0.2).tmod 8).toNat 8))))) hk13)
   ·replace hk13:=ifN hk13
    refine go ?_;exact jn 1000004 (J18 p2 hk13)
 ·intro J13
  rcases eqT ((a0.2).tmod 8=0) with c23 | c23
  ·replace hr:=ifP hr
   refine go ?_;obtain⟨_,hr⟩:=bC hr;have n1_u24_0:a0.1.length+1≤140737488355328:=by omega
   have n2_u24_0:a0.1.length+1≤9223372036854775807:=by omega
   refine go ?_;exact jn 1000002 (J13 (a0.1++[0]) hr)
  ·replace hr:=ifN hr
   refine go ?_;exact jn 1000002 (J13 a0.1 hr)
theorem w160_2:Walk tt G [(159,K159_1.G)] (fun d=>if d=20 then[[1]] else[]) Tryz.f160 K160_2:=by
 refine .ak [(1,⟨[0,1,2,7,8],[1000000,67000000],[]⟩)] false Tryz.ntmps160 (hi:=by intro x; simp[E160_2]) (fun T hO hT ⟨a0,a1,a2⟩ x=>?_);simp only[Zg] at hT; simp only[kS,E160_2,nfs,Zac];refine au ?_
 intros; refine lpP 1 (fun⟨p8,p9,p10⟩=>([(8,.one (.v (.int .i64 p8)))],[(1000000,⟨0,2,[[.ms 67000000 0 0 (p10.length) 1,.v (.int .i64 p9)]],false,false⟩),(67000000,⟨0,1,Zf .u8 p10,false,true⟩)])) ?_; rintro⟨p8,p9,p10⟩ x; simp only[Zai]
 exact au
theorem w110:Walk tt G [(157,K157.G),(158,K158.G),(159,K159_1.G),(160,K160_2.G)] (fun d=>if d=44 then[[1]] else if d=47 then[[1]] else if d=51 then[[1]] else[]) Tryz.f110 K110:=by
 refine .ak [(10,⟨[1,2,6,9,40,41],[6,39,3002496],[]⟩)] false Tryz.ntmps110 fun T hO hT ⟨a0,a1,a2⟩ x=>?_
 simp only[Zg] at hT; simp only[kS,nfs,Zaz,ZdE];refine au ?_
 intros; refine lpP 10 (fun⟨p9,p10,p11⟩=>([(41,.one (.v (.int .u64 p9)))],[(39,⟨0,2,[[.ms 3002496 0 0 (p11.length) 1,.v (.int .i64 p10)]],false,false⟩),(3002496,⟨0,1,Zf .u8 p11,false,true⟩)])) ?_; rintro⟨p9,p10,p11⟩ x; simp only[Zbm,ZdE]
 exact au
theorem w70:Walk tt G [(109,K109.G),(110,K110.G)] (fun _=>[]) Tryz.f70 K70:=by
 refine .ak [(10,⟨[0,1,4,6,7,27,28,29],[4,6],[(6,some 0,0,0)]⟩)] false Tryz.ntmps70 fun T hO hT ⟨a0,a1⟩ x=>?_
 simp only[Zg] at hT; simp only[kS,nfs,Zbz,Zes];refine au ?_
 intros; refine lpP 10 (fun⟨p10,p11,p12,p13⟩=>([(7,.one (.v (.int .u64 p10))),(29,.one (.v (.int .i64 p11)))],[(6,⟨0,2,[[.slice .no (Zf .u8 p12),.v (.int .i64 p13)]],false,false⟩)])) ?_; rintro⟨p10,p11,p12,p13⟩ x; simp only[Zet,Zes]
 exact au
theorem w161:Walk tt G [] (fun _=>[]) Tryz.f161 K161:=by
 refine .ak [] false Tryz.ntmps161 fun T hO hT ⟨a0,a1⟩ x=>?_
 simp only[Zg] at hT; simp only[kS,nfs,XN];exact au
theorem w111:Walk tt G [(161,K161.G)] (fun _=>[]) Tryz.f111 K111:=by
 refine .ak [] false Tryz.ntmps111 fun T hO hT ⟨a0,a1⟩ x=>?_
 simp only[Zg] at hT; simp only[kS,nfs,Zii];exact au
theorem w200:Walk tt G [] (fun _=>[]) Tryz.f200 K200:=by
 refine .ak [] false Tryz.ntmps200 fun T hO hT ⟨a0,a1⟩ x=>?_
 simp only[Zg] at hT; simp only[kS,nfs,ZY];exact au
theorem w163:Walk tt G [(200,K200.G)] (fun _=>[]) Tryz.f163 K163:=by
 refine .ak [(2,⟨[2,4,5,6],[2,4],[]⟩)] false Tryz.ntmps163 fun T hO hT ⟨a0,a1⟩ x=>?_
 simp only[Zg] at hT; simp only[kS,nfs,ZfT,ZgI];refine au ?_
 intros; refine lpP 2 (fun⟨p19,p20⟩=>([(6,.one (.v (.int .i64 p19)))],[(2,⟨0,4,[arC .u64 p20],false,false⟩)])) ?_; rintro⟨p19,p20⟩ x; simp only[ZeF,ZgI]
 exact au
theorem w162:Walk tt G [(163,K163.G)] (fun _=>[]) Tryz.f162 K162:=by
 refine .ak [] false Tryz.ntmps162 fun T hO hT ⟨a0,a1⟩ x=>?_
 simp only[Zg] at hT; simp only[kS,nfs,Zee];exact au
theorem w112:Walk tt G [(69,K69.G),(162,K162.G),(163,K163.G)] (fun _=>[]) Tryz.f112 K112:=by
 refine .ak [(4,⟨[1,5,6,24,25],[5],[]⟩)] false Tryz.ntmps112 fun T hO hT ⟨a0,a1⟩ x=>?_
 simp only[Zg] at hT; simp only[kS,nfs,ZiX,Zjs];refine Zh3 ?_
 intros; refine lpP 4 (fun⟨p9,p10⟩=>([(25,.one (.v (.int .i64 p9)))],[(5,⟨0,4,[arC .u64 p10],false,false⟩)])) ?_; rintro⟨p9,p10⟩ x; simp only[Zhj,Zjs]
 exact Zh3
theorem v209:ZD Tryz.prog G 209 G209:=by
 refine ZqU (k:=.u32) (k' := .i64) (g:=fun x=>(Lib.bitLen x.toNat:Int)) (ok:=fun x=>0≤x∧x≤4294967295) Tryz.func209 (by kernel_rfl) (by kernel_rfl) G209 (fun ps r hF=>?_) (fun x w hx=>ZyC x w hx.1 hx.2);obtain⟨x,rfl,h⟩:=Zd9 hF;obtain⟨y,hy,rfl⟩:=Option.map_eq_some_iff.1 h;unfold ZkP at hy;obtain⟨_,u1,hy⟩:=bs hy;obtain rfl:=Option.some.inj hy;exact⟨x,ZV u1,rfl,rfl⟩
theorem v210:ZD Tryz.prog G 210 G210:=by
 refine ZqU (k:=.u64) (k' := .i64) (g:=fun x=>(Lib.bitLen x.toNat:Int)) (ok:=fun x=>0≤x∧x≤18446744073709551615) Tryz.func210 (by kernel_rfl) (by kernel_rfl) G210 (fun ps r hF=>?_) (fun x w hx=>ZyD x w hx.1 hx.2);obtain⟨x,rfl,h⟩:=Zd9 hF;obtain⟨y,hy,rfl⟩:=Option.map_eq_some_iff.1 h;unfold Xl at hy;obtain⟨_,u1,hy⟩:=bs hy;obtain rfl:=Option.some.inj hy;exact⟨x,ZV u1,rfl,rfl⟩
theorem w165:Walk tt G [(210,G210)] (fun _=>[]) Tryz.f165 K165:=by
 refine .ak [] false Tryz.ntmps165 fun T hO hT a0 x=>?_
 simp only[Zg] at hT; simp only[kS,nfs,ZcZ];exact au
end Go.Proofs.YthpkpciceodioaaGreatDoor
