import Derived.Test.YthpkpciceodioaaGreatDoorLfK
import Derived.Test.YthpkpciceodioaaGreatDoorCode
import Derived.Test.YthpkpciceodioaaGreatDoorBl
namespace Go.Proofs.YthpkpciceodioaaGreatDoor
open Go.RowKit
open Go.Av
open Go.Lc
set_option maxRecDepth 100000
set_option linter.unusedSimpArgs false
set_option linter.unusedVariables false
set_option maxHeartbeats 4000000
theorem w17:Walk tt G [] (fun _=>[]) Tryz.f17 K17:=by
 refine .of [(4,⟨[2,13,14,15],[],[]⟩)] false body17 Tryz.ntmps17 fun T hO hT ⟨a0,a1,a2⟩ x hr=>⟨by simp,?_⟩
 simp only [Zi] at hT; simp only at hr ⊢; unfold c17;unfold ZdA at hr;refine go ?_;by_cases c7:a1<(a0.length:Int)
 ·have c7N:=nrm c7
  replace hr:=ifP hr
  refine go ?_;exact fin hr
 ·have c7N:=nrm c7
  replace hr:=ifN hr
  refine go ?_;refine lp 4 (fun (p4:Int)=>⟨(und 2++([.one (.v (.int .i64 a2))]++(und 10++([.one (.slice .no (List.map ZJ a0)),.one (.v (.int .i64 (a0.length:Int))),.one (.v (.int .i64 p4))]++(und 8)))):List PV),([]:Boxes)⟩) hr ?_;rintro p4 x13r hr13
  simp only [ZbP] at hr13;unfold b17_1;refine nst ?_;refine go ?_;by_cases c14:p4<(a0.length:Int)
  ·have c14N:=nrm c14
   replace hr13:=ifP hr13
   refine go ?_;obtain ⟨x15,⟨_,_,_⟩,hr13⟩:=bI hr13;refine go ?_;by_cases c16:a2<(x15.length:Int)
   ·have c16N:=nrm c16
    replace hr13:=ifP hr13
    refine go ?_;exact fin hr13
   ·have c16N:=nrm c16
    replace hr13:=ifN hr13
    refine go ?_;exact bk hr13
  ·have c14N:=nrm c14
   replace hr13:=ifN hr13
   refine go ?_;obtain ⟨r17,q17,rfl⟩:=ms hr13;refine go ?_;rintro rfl
   refine go ?_;unfold Lkeep_Items_k1 at q17;refine go ?_;exact fin q17
theorem w34:Walk tt G [(17,K17.G)] (fun _=>[]) Tryz.f34 K34:=by
 refine .of [(4,⟨[1,18,19,20],[1],[]⟩),(10,⟨[30,31,32],[],[]⟩)] false body34 Tryz.ntmps34 fun T hO hT a0 x hr=>⟨by simp,?_⟩
 simp only [Zi] at hT; simp only at hr ⊢; unfold c34;unfold Zf7 at hr;refine go ?_;by_cases c17:70<(a0.2.1.length:Int)
 ·have c17N:=nrm c17
  refine go ?_
  replace hr:=ifP hr
  refine go ?_;exact fin hr
 ·have c17N:=nrm c17
  refine go ?_;by_cases c18:70<(a0.2.2.1.length:Int)
  ·have c18N:=nrm c18
   replace hr:=ifP hr
   refine go ?_;exact fin hr
  ·have c18N:=nrm c18
   replace hr:=ifN hr
   refine go ?_;refine lp 4 (fun (p6:Int)=>⟨(und 1++([.ptr 1 0 0 0 4]++(und 16++([.one (.slice .no (List.map Zs a0.2.1)),.one (.v (.int .i64 (a0.2.1.length:Int))),.one (.v (.int .i64 p6))]++(und 20)))):List PV),([(1,⟨0,4,[[.v (.int .u32 a0.1),.slice .no (List.map Zs a0.2.1),.slice .no (List.map Zr a0.2.2.1),.v (.int .u32 a0.2.2.2)]],false,false⟩)]:Boxes)⟩) hr ?_;rintro p6 x25r hr25
   simp only [ZeO] at hr25;unfold b34_1;refine nst ?_;refine go ?_;by_cases c26:p6<(a0.2.1.length:Int)
   ·have c26N:=nrm c26
    replace hr25:=ifP hr25
    refine go ?_;obtain ⟨_,⟨_,_,_⟩,hr25⟩:=bI hr25;refine go ?_;obtain ⟨y28,ehy28,hr25⟩:=bN hr25 Zu2;refine go ?_;by_cases c29:y28=true
    ·replace hr25:=ifN hr25
     refine go ?_;exact bk hr25
    ·replace hr25:=ifP hr25
     refine go ?_;exact fin hr25
   ·have c26N:=nrm c26
    replace hr25:=ifN hr25
    refine go ?_;obtain ⟨r30,q30,rfl⟩:=ms hr25;refine go ?_;rintro rfl
    refine go ?_;unfold Zgr at q30;refine go ?_;refine lp 10 (fun (p12:Int)=>⟨(und 30++([.one (.slice .no (List.map Zr a0.2.2.1)),.one (.v (.int .i64 (a0.2.2.1.length:Int))),.one (.v (.int .i64 p12))]++(und 8)):List PV),([]:Boxes)⟩) q30 ?_;rintro p12 x36r hr36
    simp only [ZdC] at hr36;unfold b34_2;refine nst ?_;refine go ?_;by_cases c37:p12<(a0.2.2.1.length:Int)
    ·have c37N:=nrm c37
     replace hr36:=ifP hr36
     refine go ?_;obtain ⟨x38,⟨_,_,_⟩,hr36⟩:=bI hr36;refine go ?_;by_cases c39:600<(x38.2.length:Int)
     ·have c39N:=nrm c39
      replace hr36:=ifP hr36
      refine go ?_;exact fin hr36
     ·have c39N:=nrm c39
      replace hr36:=ifN hr36
      refine go ?_;exact bk hr36
    ·have c37N:=nrm c37
     replace hr36:=ifN hr36
     refine go ?_;obtain ⟨r40,q40,rfl⟩:=ms hr36;refine go ?_;rintro rfl
     refine go ?_;unfold Lkeep_Tx_k2 at q40;refine go ?_;exact fin q40
theorem w10:Walk tt G [(34,K34.G)] (fun _=>[]) Tryz.f10 K10:=by
 refine .of [(4,⟨[10,11,12],[],[]⟩)] false body10 Tryz.ntmps10 fun T hO hT a0 x hr=>⟨by simp,?_⟩
 simp only [Zi] at hT; simp only at hr ⊢; unfold c10;unfold ZdD at hr;refine go ?_;by_cases c11:12<(a0.2.length:Int)
 ·have c11N:=nrm c11
  replace hr:=ifP hr
  refine go ?_;exact fin hr
 ·have c11N:=nrm c11
  replace hr:=ifN hr
  refine go ?_;refine lp 4 (fun (p6:Int)=>⟨(und 10++([.one (.slice .no (List.map YD a0.2)),.one (.v (.int .i64 (a0.2.length:Int))),.one (.v (.int .i64 p6))]++(und 7)):List PV),([]:Boxes)⟩) hr ?_;rintro p6 x18r hr18
  simp only [ZcO] at hr18;unfold b10_1;refine nst ?_;refine go ?_;by_cases c19:p6<(a0.2.length:Int)
  ·have c19N:=nrm c19
   replace hr18:=ifP hr18
   refine go ?_;obtain ⟨_,⟨_,_,_⟩,hr18⟩:=bI hr18;refine go ?_;obtain ⟨y21,ehy21,hr18⟩:=bN hr18 Zu3;refine go ?_;by_cases c22:y21=true
   ·replace hr18:=ifN hr18
    refine go ?_;exact bk hr18
   ·replace hr18:=ifP hr18
    refine go ?_;exact fin hr18
  ·have c19N:=nrm c19
   replace hr18:=ifN hr18
   refine go ?_;obtain ⟨r23,q23,rfl⟩:=ms hr18;refine go ?_;rintro rfl
   refine go ?_;unfold Lkeep_Block_k1 at q23;refine go ?_;exact fin q23
theorem Zvy (c:Nat) (w:World):Calls Tryz.prog 42 #[.slice none 0 c] w fun e w'=>e = .returned (.slice none 0 0)∧w'=w:=by
 have h1:∀ w,(binOp .eql 32 (.slice none 0 c) (.slice none 0 0)).run Tryz.prog w = .ok (.bool true) w:=fun w=>by
  have h:∀ d:Nat,(Op.equalIn (d+1) 32 (.slice none 0 c) (.slice none 0 0)).run Tryz.prog w = .ok true w:=fun d=>by
   simp [Op.equalIn,run_underlying Tryz.underlying32]
  have h':(Op.equal 32 (.slice none 0 c) (.slice none 0 0)).run Tryz.prog w = .ok true w:=h 9999;simp [binOp,h']
 go_enter Tryz.func42,Tryz.ntmps42
 go_wp2
 go_ret
 exact ⟨rfl,rfl⟩
theorem Zuc (b:Addr) (c:Nat) (w:World):Calls Tryz.prog 42 #[.slice (some b) 0 c] w fun e w'=>e = .returned (.slice (some ⟨w.heap.size,0,none⟩) 0 0)∧w'=w.alloc (.cells #[] 5):=by
 have h1:∀ w,(binOp .eql 32 (.slice (some b) 0 c) (.slice none 0 0)).run Tryz.prog w = .ok (.bool false) w:=fun w=>by
  have h:(Op.equal 32 (.slice (some b) 0 c) (.slice none 0 0)).run Tryz.prog w = .ok false w:=ZkX 9999 Tryz.underlying32;simp [binOp,h]
 have h2:∀ w,(Instr.buildSlice 32 0 #[]).run Tryz.prog w = .ok (.slice (some ⟨w.heap.size,0,none⟩) 0 0) (w.alloc (.cells #[] 5)):=fun w=>by kernel_rfl
 have hi0:(Tryz.prog.info? 5).isSome=true:=by kernel_rfl
 obtain ⟨i,hi⟩:=Option.isSome_iff_exists.1 hi0;have h3:∀ (w:World) (x:Option Addr) ty,(Builtin.append_ #[32,32] ty #[.slice x 0 0,.slice (some b) 0 c]).run Tryz.prog w = .ok (.slice x 0 0) w:=fun w x ty=>Zlc w 32 ty 5 i Tryz.underlying32 hi x (some b) 0 0 c (Nat.le_refl _)
 clear hi hi0
 go_enter Tryz.func42,Tryz.ntmps42
 go_wp2
 go_ret
 exact ⟨rfl,rfl⟩
def kp42:Keep:=fun i=>⟨[],[],[]⟩
theorem w42 {T:Tab} (a0:(List Int)) (hne:a0≠[]) (x:(List Int)) (hr:YG a0=some x):∃ kp fl n,Xj tt T G kp fl n Tryz.f42 [.one (.slice .no (Zd .u8 a0))]=some (.one (.own 1 (Zd .u8 a0)),[]):=by
 refine fnE (kp:=kp42) (w:=true) body42 (by simp) ?_;unfold c42;rw [Tryz.ntmps42];unfold YG at hr;obtain ⟨_,u1,hr⟩:=bs hr;have u2:=ZC u1;have n1:a0.length≤140737488355328:=by omega
 have n2:a0.length≤9223372036854775807:=by omega
 have ne:Zd .u8 a0≠[]:=fun h=>hne (by simpa [Zd] using h)
 refine Ze rfl (by simp; rfl) ?_
 first
 | (refine ZE ?_; refine Ze rfl (by simp [hne,ne]; rfl) ?_)
 | refine Ze rfl (by simp [hne,ne]; rfl) ?_
 refine Zn (by simp [bV]) ?_;refine ZB ?_;refine Ze rfl (by simp [n1,n2]; rfl) ?_;refine ZbR ?_;simp [ZaN]
theorem v42:Zh Tryz.prog G 42 G42:=by
 refine Zpq (e:=1) (t:=5) (N:=0) (rows:=fun l:(List Int)=>Zd .u8 l) Tryz.func42 (by kernel_rfl) (by kernel_rfl) G42 (fun ps r hF=>?_) rfl (fun l hl r hF=>?_) (fun x c w=>?_)
 ·obtain ⟨x,rfl,h⟩:=ZdZ hF
  obtain ⟨y,hy,rfl⟩:=Option.map_eq_some_iff.1 h;unfold YG at hy;obtain ⟨_,u1,hy⟩:=bs hy;obtain rfl:=Option.some.inj hy;exact ⟨x,rfl,rfl⟩
 ·refine ZlD (T:=Av.tab []) mixed htt (Av.tab_ok trivial) Tryz.func42 body42 (by kernel_rfl) fun ps r' ho hF'=>?_
  split at hF'
  ·rename_i hps
   subst hps;injection hF' with hF';subst hF';obtain ⟨x,hx,h⟩:=ZdZ hF;obtain rfl:=E42i l x hx;obtain ⟨y,hy,rfl⟩:=Option.map_eq_some_iff.1 h;have hy' := hy;unfold YG at hy';obtain ⟨_,u1,hy'⟩:=bs hy';obtain rfl:=Option.some.inj hy';exact w42 l hl _ hy
  ·cases hF'
 ·cases x with
  | none=>exact (Zvy c w).mono fun e w' h=>⟨none,h.1,.inl h.2⟩
  | some b=>exact (Zuc b c w).mono fun e w' h=>⟨_,h.1,.inr h.2⟩
theorem w79:Walk tt G [] (fun _=>[]) Tryz.f79 K79:=by
 refine .of [] false body79 Tryz.ntmps79 fun T hO hT a0 x hr=>⟨by simp,?_⟩
 simp only [Zi] at hT; simp only at hr ⊢; unfold c79;unfold ZhA at hr;refine go ?_;exact fin hr
theorem w43:Walk tt G [(79,K79.G)] (fun _=>[]) Tryz.f43 K43:=by
 refine .of [] false body43 Tryz.ntmps43 fun T hO hT a0 x hr=>⟨by simp,?_⟩
 simp only [Zi] at hT; simp only at hr ⊢; unfold c43;unfold ZcK at hr;refine go ?_;rcases eqT ((a0.2.1.length:Int)=1) with c4 | c4
 ·have c4N:=nrm c4
  replace hr:=ZiY hr
  obtain ⟨_,hz5,hr⟩:=bs hr;obtain ⟨_,hx6,hz5⟩:=bs hz5;have hx6c:=Zk hx6;obtain ⟨_,ehy7,hz5⟩:=bN hz5 Zu6;obtain rfl:=Option.some.inj hz5;refine go ?_;exact fin hr
 ·have c4N:=nrm c4
  replace hr:=ZiZ hr
  obtain ⟨_,hz8,hr⟩:=bs hr;obtain rfl:=Option.some.inj hz8;refine go ?_;exact fin hr
theorem w97:Walk tt G [] (fun _=>[]) Tryz.f97 K97:=by
 refine .of [] true body97 Tryz.ntmps97 fun T hO hT ⟨a0,a1⟩ x hr=>⟨by simp,?_⟩
 simp only [Zi] at hT; simp only at hr ⊢; unfold c97;unfold Xi at hr;refine go ?_;obtain ⟨⟨_,_⟩,hr⟩:=bC hr;have mf5:0≤(IntKind.i64.wrap ((a0.length:Int)+(a1.length:Int))).toNat:=by omega
 have mf6:(IntKind.i64.wrap ((a0.length:Int)+(a1.length:Int))).toNat≤140737488355328:=by omega
 have mf7:(IntKind.i64.wrap ((a0.length:Int)+(a1.length:Int))).toNat≤9223372036854775807:=by omega
 have mf8:0≤IntKind.i64.wrap ((a0.length:Int)+(a1.length:Int)):=by omega
 refine go ?_;obtain ⟨_,hr⟩:=bC hr;have n1_u9_0:a0.length≤140737488355328:=by omega
 have n2_u9_0:a0.length≤9223372036854775807:=by omega
 refine go ?_;obtain ⟨_,hr⟩:=bC hr;have n1_u10_0:a0.length+a1.length≤140737488355328:=by omega
 have n2_u10_0:a0.length+a1.length≤9223372036854775807:=by omega
 refine go ?_;exact fin hr
theorem w119:Walk tt G [] (fun _=>[]) Tryz.f119 K119:=by
 refine .of [(3,⟨[0,5,9,10],[8],[]⟩)] true body119 Tryz.ntmps119 fun T hO hT ⟨a0,a1⟩ x hr=>⟨by simp,?_⟩
 simp only [Zi] at hT; simp only at hr ⊢; unfold c119;unfold XC at hr;refine go ?_;obtain ⟨⟨_,_⟩,hr⟩:=bC hr;have mf15:(a1).toNat≤140737488355328:=by omega
 have mf16:(a1).toNat≤9223372036854775807:=by omega
 have mf17:0≤a1:=by omega
 refine go ?_;refine lp 3 (fun (⟨p8,p9⟩:Int×(List Int))=>⟨([.one (.v (.int .u64 a0))]++(und 4++([.one (.ms 8 0 0 (p9.length) 1)]++(und 3++([.one (.v (.int .i64 a1)),.one (.v (.int .i64 p8))]++(und 12))))):List PV),([(8,⟨0,1,Zd .u8 p9,false,true⟩)]:Boxes)⟩) hr ?_;rintro ⟨p8,p9⟩ x23r hr23
 simp only [ZbS] at hr23;unfold b119_1;refine nst ?_;refine go ?_;by_cases c24:p8<a1
 ·replace hr23:=ifP hr23
  refine go ?_;obtain ⟨_,hr23⟩:=bC hr23;obtain ⟨_,⟨_,_,_⟩,hr23⟩:=bA hr23;refine go ?_;exact bk hr23
 ·replace hr23:=ifN hr23
  refine go ?_;obtain ⟨r27,q27,rfl⟩:=ms hr23;refine go ?_;rintro rfl
  refine go ?_;unfold Zfc at q27;refine go ?_;exact fin q27
theorem w80:Walk tt G [(97,K97.G),(119,K119.G)] (fun _=>[]) Tryz.f80 K80:=by
 refine .of [] true body80 Tryz.ntmps80 fun T hO hT ⟨a0,a1⟩ x hr=>⟨by simp,?_⟩
 simp only [Zi] at hT; simp only at hr ⊢; unfold c80;unfold YJ at hr;refine go ?_;obtain ⟨_,ehy3,hr⟩:=bN hr ZlQ;obtain ⟨_,ehy4,hr⟩:=bN hr ZfO;refine go ?_;exact fin hr
theorem w81:Walk tt G [(97,K97.G)] (fun _=>[]) Tryz.f81 K81:=by
 refine .of [] true body81 Tryz.ntmps81 fun T hO hT ⟨a0,a1⟩ x hr=>⟨by simp,?_⟩
 simp only [Zi] at hT; simp only at hr ⊢; unfold c81;unfold XF at hr;refine go ?_;obtain ⟨_,ehy2,hr⟩:=bN hr ZfO;refine go ?_;exact fin hr
theorem w44:Walk tt G [(80,K80.G),(81,K81.G)] (fun _=>[]) Tryz.f44 K44:=by
 refine .of [] true body44 Tryz.ntmps44 fun T hO hT a0 x hr=>⟨by simp,?_⟩
 simp only [Zi] at hT; simp only at hr ⊢; unfold c44;unfold ZcS at hr;refine go ?_;obtain ⟨_,ehy3,hr⟩:=bN hr ZnP;obtain ⟨_,ehy4,hr⟩:=bN hr ZfP;refine go ?_;exact fin hr
theorem w14:Walk tt G [(42,G42),(43,K43.G),(44,K44.G)] (fun _=>[]) Tryz.f14 K14:=by
 refine .of [(3,⟨[3,11,12,13],[33],[(3,none,33,1)]⟩),(6,⟨[3,5,11,12,13,18,19,20],[5,33],[]⟩),(1000010,⟨[3,5,11,12,13,18,19,20],[5,33],[]⟩),(13,⟨[3,11,12,13,38,39,40],[33],[]⟩)] true body14 Tryz.ntmps14 fun T hO hT a0 x hr=>⟨by simp,?_⟩
 simp only [Zi] at hT; simp only at hr ⊢; unfold c14;unfold Zax at hr;refine go ?_;refine lp 3 (fun (⟨p64,p65⟩:Int×(List (List Int)))=>⟨(und 3++([.one (.ms 33 0 0 (p65.length) 1)]++(und 7++([.one (.slice .no (List.map YD a0.2)),.one (.v (.int .i64 (a0.2.length:Int))),.one (.v (.int .i64 p64))]++(und 39)))):List PV),([(33,⟨0,1,List.map ZJ p65,false,true⟩)]:Boxes)⟩) hr ?_;rintro ⟨p64,p65⟩ x177r hr177
 simp only [Zb4] at hr177;unfold b14_1;refine nst ?_;refine go ?_;by_cases c178:p64<(a0.2.length:Int)
 ·have c178N:=nrm c178
  replace hr177:=ifP hr177
  refine go ?_;obtain ⟨x179,⟨_,_,_⟩,hr177⟩:=bI hr177;refine go ?_;refine lp 6 (fun (⟨p108,p109⟩:Int×(List (List Int)))=>⟨(und 3++([.one (.ms 33 0 0 (p109.length) 1)]++(und 1++([.ptr 5 0 0 0 4]++(und 5++([.one (.slice .no (List.map YD a0.2)),.one (.v (.int .i64 (a0.2.length:Int))),.one (.v (.int .i64 p64))]++(und 4++([.one (.slice .no (List.map Zr x179.2.2.1)),.one (.v (.int .i64 (x179.2.2.1.length:Int))),.one (.v (.int .i64 p108))]++(und 32)))))))):List PV),([(5,⟨0,4,[[.v (.int .u32 x179.1),.slice .no (List.map Zs x179.2.1),.slice .no (List.map Zr x179.2.2.1),.v (.int .u32 x179.2.2.2)]],false,false⟩),(33,⟨0,1,List.map ZJ p109,false,true⟩)]:Boxes)⟩) hr177 ?_;rintro ⟨p108,p109⟩ x191r hr191
  simp only [ZfT] at hr191;unfold b14_2;refine nst ?_;refine go ?_;by_cases c192:p108<(x179.2.2.1.length:Int)
  ·have c192N:=nrm c192
   replace hr191:=ifP hr191
   refine go ?_;obtain ⟨x193,⟨_,_,_⟩,hr191⟩:=bI hr191;refine go ?_;refine ZeA hr191 (.normal) (fun (s:(List (List Int)))=>match s with | p134=>(⟨(und 3++([.one (.ms 33 0 0 (p134.length) 1)]++(und 1++([.ptr 5 0 0 0 4]++(und 5++([.one (.slice .no (List.map YD a0.2)),.one (.v (.int .i64 (a0.2.length:Int))),.one (.v (.int .i64 p64))]++(und 4++([.one (.slice .no (List.map Zr x179.2.2.1)),.one (.v (.int .i64 (x179.2.2.1.length:Int))),.one (.v (.int .i64 p108))]++(und 32)))))))):List PV),([(5,⟨0,4,[[.v (.int .u32 x179.1),.slice .no (List.map Zs x179.2.1),.slice .no (List.map Zr x179.2.2.1),.v (.int .u32 x179.2.2.2)]],false,false⟩),(33,⟨0,1,List.map ZJ p134,false,true⟩)]:Boxes)⟩:ASt)) (fun (s:(List (List Int)))=>match s with | p134=>ZaR p108 p134) ?_ ?_
   ·rintro p134 hk197
    change ZaR p108 p134=_ at hk197
    refine go ?_;refine nst ?_;unfold ZaR at hk197;refine Zeh rfl (kq:=⟨[3,5,11,12,13,18,19,20],[5,33],[]⟩) rfl (by simp [Yq, *]; rfl) (by simp [*] <;> rfl) ?_;exact bk hk197
   ·intro J197
    simp only [pq,reduceCtorEq] at J197;by_cases c198:0<(x193.2.length:Int)
    ·have c198N:=nrm c198
     replace hr191:=ifP hr191
     refine go ?_;obtain ⟨y199,ehy199,hr191⟩:=bG hr191 fun _=>Zu5
     simp only [E42,R42,nf,nfs] at ehy199;obtain ⟨_,hr191⟩:=bC hr191;have n1_u200_0:(p109.length+1) * 24≤140737488355328:=by omega
     have n2_u200_0:p109.length+1≤9223372036854775807:=by omega
     refine go ?_;exact jn 1000010 (J197 (p109++[y199]) hr191)
    ·have c198N:=nrm c198
     have c198L:¬ 0<x193.2.length:=by omega
     replace hr191:=ifN hr191
     refine go ?_;exact jn 1000010 (J197 p109 hr191)
  ·have c192N:=nrm c192
   replace hr191:=ifN hr191
   refine go ?_;obtain ⟨r201,q201,rfl⟩:=ms hr191;refine go ?_;rintro rfl
   refine go ?_;unfold Zb3 at q201;refine go ?_;obtain ⟨y202,ehy202,q201⟩:=bN q201 Zu7;refine go ?_;by_cases c203:y202=true
   ·replace q201:=ifP q201
    refine go ?_;exact bk q201
   ·replace q201:=ifN q201
    refine go ?_;refine lp 13 (fun (⟨p123,p124⟩:Int×(List (List Int)))=>⟨(und 3++([.one (.ms 33 0 0 (p124.length) 1)]++(und 7++([.one (.slice .no (List.map YD a0.2)),.one (.v (.int .i64 (a0.2.length:Int))),.one (.v (.int .i64 p64))]++(und 24++([.one (.slice .no (List.map Zs x179.2.1)),.one (.v (.int .i64 (x179.2.1.length:Int))),.one (.v (.int .i64 p123))]++(und 12)))))):List PV),([(33,⟨0,1,List.map ZJ p124,false,true⟩)]:Boxes)⟩) q201 ?_;rintro ⟨p123,p124⟩ x210r hr210
    simp only [ZfS] at hr210;unfold b14_3;refine nst ?_;refine go ?_;by_cases c211:p123<(x179.2.1.length:Int)
    ·have c211N:=nrm c211
     replace hr210:=ifP hr210
     refine go ?_;obtain ⟨_,⟨_,_,_⟩,hr210⟩:=bI hr210;refine go ?_;obtain ⟨_,ehy213,hr210⟩:=bN hr210 ZqV;obtain ⟨_,hr210⟩:=bC hr210;have n1_u214_0:(p124.length+1) * 24≤140737488355328:=by omega
     have n2_u214_0:p124.length+1≤9223372036854775807:=by omega
     refine go ?_;exact bk hr210
    ·have c211N:=nrm c211
     replace hr210:=ifN hr210
     refine go ?_;obtain ⟨r215,q215,rfl⟩:=ms hr210;refine go ?_;rintro rfl
     refine go ?_;unfold Zb2 at q215;refine go ?_;exact bk q215
 ·have c178N:=nrm c178
  replace hr177:=ifN hr177
  refine go ?_;obtain ⟨r216,q216,rfl⟩:=ms hr177;refine go ?_;rintro rfl
  refine go ?_;unfold ZfR at q216;refine go ?_;exact fin q216
theorem w98:Walk tt G [(97,K97.G),(119,K119.G)] (fun _=>[]) Tryz.f98 K98:=by
 refine .of [] true body98 Tryz.ntmps98 fun T hO hT ⟨a0,a1⟩ x hr=>⟨by simp,?_⟩
 simp only [Zi] at hT; simp only at hr ⊢; unfold c98;unfold ZaV at hr;refine go ?_;obtain ⟨_,ehy3,hr⟩:=bN hr ZlQ;obtain ⟨_,ehy4,hr⟩:=bN hr ZfO;refine go ?_;exact fin hr
theorem w99:Walk tt G [(97,K97.G),(119,K119.G)] (fun _=>[]) Tryz.f99 K99:=by
 refine .of [] true body99 Tryz.ntmps99 fun T hO hT ⟨a0,a1⟩ x hr=>⟨by simp,?_⟩
 simp only [Zi] at hT; simp only at hr ⊢; unfold c99;unfold Zar at hr;refine go ?_;obtain ⟨_,ehy3,hr⟩:=bN hr ZlQ;obtain ⟨_,ehy4,hr⟩:=bN hr ZfO;refine go ?_;exact fin hr
theorem w56:Walk tt G [(80,K80.G),(97,K97.G),(98,K98.G),(99,K99.G)] (fun _=>[]) Tryz.f56 K56:=by
 refine .of [] true body56 Tryz.ntmps56 fun T hO hT ⟨a0,a1⟩ x hr=>⟨by simp,?_⟩
 simp only [Zi] at hT; simp only at hr ⊢; unfold c56;unfold Xm at hr;refine go ?_;by_cases c8:a1<253
 ·replace hr:=ifP hr
  refine go ?_;obtain ⟨_,ehy9,hr⟩:=bN hr ZfO;refine go ?_;exact fin hr
 ·replace hr:=ifN hr
  refine go ?_;by_cases c10:a1<65536
  ·replace hr:=ifP hr
   refine go ?_;obtain ⟨_,ehy11,hr⟩:=bN hr ZfO;obtain ⟨_,ehy12,hr⟩:=bN hr Zu8;refine go ?_;exact fin hr
  ·replace hr:=ifN hr
   refine go ?_;by_cases c13:a1<4294967296
   ·replace hr:=ifP hr
    refine go ?_;obtain ⟨_,ehy14,hr⟩:=bN hr ZfO;obtain ⟨_,ehy15,hr⟩:=bN hr ZfP;refine go ?_;exact fin hr
   ·replace hr:=ifN hr
    refine go ?_;obtain ⟨_,ehy16,hr⟩:=bN hr ZfO;obtain ⟨_,ehy17,hr⟩:=bN hr ZqX;refine go ?_;exact fin hr
theorem w67:Walk tt G [(80,K80.G),(81,K81.G)] (fun _=>[]) Tryz.f67 K67:=by
 refine .of [] true body67 Tryz.ntmps67 fun T hO hT a0 x hr=>⟨by simp,?_⟩
 simp only [Zi] at hT; simp only at hr ⊢; unfold c67;unfold XI at hr;refine go ?_;obtain ⟨_,ehy7,hr⟩:=bN hr ZfP;refine go ?_;obtain ⟨_,ehy8,hr⟩:=bN hr ZnP;refine go ?_;obtain ⟨_,ehy9,hr⟩:=bN hr ZnP;refine go ?_;obtain ⟨_,ehy10,hr⟩:=bN hr ZfP;refine go ?_;obtain ⟨_,ehy11,hr⟩:=bN hr ZfP;refine go ?_;obtain ⟨_,ehy12,hr⟩:=bN hr ZfP;refine go ?_;exact fin hr
theorem w55:Walk tt G [(56,K56.G),(97,K97.G)] (fun _=>[]) Tryz.f55 K55:=by
 refine .of [] true body55 Tryz.ntmps55 fun T hO hT ⟨a0,a1⟩ x hr=>⟨by simp,?_⟩
 simp only [Zi] at hT; simp only at hr ⊢; unfold c55;unfold XY at hr;refine go ?_;obtain ⟨_,ehy3,hr⟩:=bN hr ZjU;obtain ⟨_,ehy4,hr⟩:=bN hr ZfO;refine go ?_;exact fin hr
theorem w108:Walk tt G [(44,K44.G),(55,K55.G),(56,K56.G),(80,K80.G),(99,K99.G)] (fun _=>[]) Tryz.f108 K108:=by
 refine .of [(4,⟨[1,2,5,25,26,27],[2,16],[]⟩),(11,⟨[1,2,5,50,51,52],[2,16],[]⟩),(20,⟨[5,77,78,79],[16],[]⟩),(24,⟨[5,77,78,79,91,92,93],[16],[]⟩)] true body108 Tryz.ntmps108 fun T hO hT ⟨a0,a1⟩ x hr=>⟨by simp,?_⟩
 simp only [Zi] at hT; simp only at hr ⊢; unfold c108;unfold Zc0 at hr;refine goA ?_;obtain ⟨y127,ehy127,hr⟩:=bN hr ZfP;refine goA ?_;obtain ⟨y128,ehy128,hr⟩:=bN hr ZjU;obtain ⟨_,hr⟩:=bC hr;have n1_u129_0:y127.length+y128.length≤140737488355328:=by omega
 have n2_u129_0:y127.length+y128.length≤9223372036854775807:=by omega
 refine goA ?_;refine lp 4 (fun (⟨p16,p17⟩:Int×(List Int))=>⟨(und 1++([.one (.v (.bool a1)),.ptr 2 0 0 0 4]++(und 2++([.one (.ms 16 0 0 (p17.length) 1)]++(und 19++([.one (.slice .no (List.map Zs a0.2.1)),.one (.v (.int .i64 (a0.2.1.length:Int))),.one (.v (.int .i64 p16))]++(und 76)))))):List PV),([(2,⟨0,4,[[.v (.int .u32 a0.1),.slice .no (List.map Zs a0.2.1),.slice .no (List.map Zr a0.2.2.1),.v (.int .u32 a0.2.2.2)]],false,false⟩),(16,⟨0,1,Zd .u8 p17,false,true⟩)]:Boxes)⟩) hr ?_;rintro ⟨p16,p17⟩ x138r hr138
 simp only [Zdh] at hr138;unfold b108_1;refine nst ?_;refine goA ?_;by_cases c139:p16<(a0.2.1.length:Int)
 ·have c139N:=nrm c139
  replace hr138:=ifP hr138
  refine goA ?_;obtain ⟨_,⟨_,_,_⟩,hr138⟩:=bI hr138;refine goA ?_;obtain ⟨y141,ehy141,hr138⟩:=bN hr138 ZqV;obtain ⟨_,hr138⟩:=bC hr138;have n1_u142_0:p17.length+y141.length≤140737488355328:=by omega
  have n2_u142_0:p17.length+y141.length≤9223372036854775807:=by omega
  refine goA ?_;obtain ⟨y143,ehy143,hr138⟩:=bN hr138 ZfP;obtain ⟨u144_0,hr138⟩:=bC hr138
  have n1_u144_0:p17.length+(y141.length+y143.length)≤140737488355328:=by
   have h:=u144_0;try simp at h
   first | omega | (simp only [List.length_take,List.length_drop] at h ⊢; omega) | (simp only [List.length_take,List.length_drop]; omega)
  have n2_u144_0:p17.length+(y141.length+y143.length)≤9223372036854775807:=by
   have h:=u144_0;try simp at h
   first | omega | (simp only [List.length_take,List.length_drop] at h ⊢; omega) | (simp only [List.length_take,List.length_drop]; omega)
  refine goA ?_;exact bk hr138
 ·have c139N:=nrm c139
  replace hr138:=ifN hr138
  refine goA ?_;obtain ⟨r145,q145,rfl⟩:=ms hr138;refine goA ?_;rintro rfl
  refine goA ?_;unfold ZeV at q145;obtain ⟨y146,ehy146,q145⟩:=bN q145 ZjU;obtain ⟨_,q145⟩:=bC q145;have n1_u147_0:p17.length+y146.length≤140737488355328:=by omega
  have n2_u147_0:p17.length+y146.length≤9223372036854775807:=by omega
  refine goA ?_;refine lp 11 (fun (⟨p37,p38⟩:Int×(List Int))=>⟨(und 1++([.one (.v (.bool a1)),.ptr 2 0 0 0 4]++(und 2++([.one (.ms 16 0 0 (p38.length) 1)]++(und 44++([.one (.slice .no (List.map Zr a0.2.2.1)),.one (.v (.int .i64 (a0.2.2.1.length:Int))),.one (.v (.int .i64 p37))]++(und 51)))))):List PV),([(2,⟨0,4,[[.v (.int .u32 a0.1),.slice .no (List.map Zs a0.2.1),.slice .no (List.map Zr a0.2.2.1),.v (.int .u32 a0.2.2.2)]],false,false⟩),(16,⟨0,1,Zd .u8 p38,false,true⟩)]:Boxes)⟩) q145 ?_;rintro ⟨p37,p38⟩ x156r hr156
  simp only [Zdg] at hr156;unfold b108_2;refine nst ?_;refine goA ?_;by_cases c157:p37<(a0.2.2.1.length:Int)
  ·have c157N:=nrm c157
   replace hr156:=ifP hr156
   refine goA ?_;obtain ⟨_,⟨_,_,_⟩,hr156⟩:=bI hr156;refine goA ?_;obtain ⟨y159,ehy159,hr156⟩:=bN hr156 ZqX;obtain ⟨_,hr156⟩:=bC hr156;have n1_u160_0:p38.length+y159.length≤140737488355328:=by omega
   have n2_u160_0:p38.length+y159.length≤9223372036854775807:=by omega
   refine goA ?_;obtain ⟨y161,ehy161,hr156⟩:=bN hr156 ZqZ;obtain ⟨u162_0,hr156⟩:=bC hr156
   have n1_u162_0:p38.length+(y159.length+y161.length)≤140737488355328:=by
    have h:=u162_0;try simp at h
    first | omega | (simp only [List.length_take,List.length_drop] at h ⊢; omega) | (simp only [List.length_take,List.length_drop]; omega)
   have n2_u162_0:p38.length+(y159.length+y161.length)≤9223372036854775807:=by
    have h:=u162_0;try simp at h
    first | omega | (simp only [List.length_take,List.length_drop] at h ⊢; omega) | (simp only [List.length_take,List.length_drop]; omega)
   refine goA ?_;exact bk hr156
  ·have c157N:=nrm c157
   replace hr156:=ifN hr156
   refine goA ?_;obtain ⟨r163,q163,rfl⟩:=ms hr156;refine goA ?_;rintro rfl
   refine goA ?_;unfold ZeU at q163;obtain ⟨y164,ehy164,q163⟩:=bN q163 ZfP;obtain ⟨_,q163⟩:=bC q163;have n1_u165_0:p38.length+y164.length≤140737488355328:=by omega
   have n2_u165_0:p38.length+y164.length≤9223372036854775807:=by omega
   refine goA ?_;by_cases c166:a1=true
   ·replace q163:=ifN q163
    refine goA ?_;refine lp 20 (fun (⟨p80,p81⟩:Int×(List Int))=>⟨(und 5++([.one (.ms 16 0 0 (p81.length) 1)]++(und 71++([.one (.slice .no (List.map Zs a0.2.1)),.one (.v (.int .i64 (a0.2.1.length:Int))),.one (.v (.int .i64 p80))]++(und 24)))):List PV),([(16,⟨0,1,Zd .u8 p81,false,true⟩)]:Boxes)⟩) q163 ?_;rintro ⟨p80,p81⟩ x185r hr185
    simp only [Zdf] at hr185;unfold b108_3;refine nst ?_;refine goA ?_;by_cases c186:p80<(a0.2.1.length:Int)
    ·have c186N:=nrm c186
     replace hr185:=ifP hr185
     refine goA ?_;obtain ⟨x187,⟨_,_,_⟩,hr185⟩:=bI hr185;refine goA ?_;obtain ⟨y188,ehy188,hr185⟩:=bN hr185 ZjU;obtain ⟨_,hr185⟩:=bC hr185;have n1_u189_0:p81.length+y188.length≤140737488355328:=by omega
     have n2_u189_0:p81.length+y188.length≤9223372036854775807:=by omega
     refine goA ?_;refine lp 24 (fun (⟨p109,p110⟩:Int×(List Int))=>⟨(und 5++([.one (.ms 16 0 0 (p110.length) 1)]++(und 71++([.one (.slice .no (List.map Zs a0.2.1)),.one (.v (.int .i64 (a0.2.1.length:Int))),.one (.v (.int .i64 p80))]++(und 11++([.one (.slice .no (List.map ZJ x187.2.2)),.one (.v (.int .i64 (x187.2.2.length:Int))),.one (.v (.int .i64 p109))]++(und 10)))))):List PV),([(16,⟨0,1,Zd .u8 p110,false,true⟩)]:Boxes)⟩) hr185 ?_;rintro ⟨p109,p110⟩ x196r hr196
     simp only [Zb7] at hr196;unfold b108_4;refine nst ?_;refine goA ?_;by_cases c197:p109<(x187.2.2.length:Int)
     ·have c197N:=nrm c197
      replace hr196:=ifP hr196
      refine goA ?_;obtain ⟨_,⟨_,_,_⟩,hr196⟩:=bI hr196;refine goA ?_;obtain ⟨y199,ehy199,hr196⟩:=bN hr196 ZqZ;obtain ⟨_,hr196⟩:=bC hr196;have n1_u200_0:p110.length+y199.length≤140737488355328:=by omega
      have n2_u200_0:p110.length+y199.length≤9223372036854775807:=by omega
      refine goA ?_;exact bk hr196
     ·have c197N:=nrm c197
      replace hr196:=ifN hr196
      refine goA ?_;obtain ⟨r201,q201,rfl⟩:=ms hr196;refine goA ?_;rintro rfl
      refine goA ?_;unfold ZgP at q201;refine goA ?_;exact bk q201
    ·have c186N:=nrm c186
     replace hr185:=ifN hr185
     refine goA ?_;obtain ⟨r202,q202,rfl⟩:=ms hr185;refine goA ?_;rintro rfl
     refine goA ?_;unfold ZgO at q202;refine goA ?_;exact fin q202
   ·replace q163:=ifP q163
    refine goA ?_;exact fin q163
end Go.Proofs.YthpkpciceodioaaGreatDoor
