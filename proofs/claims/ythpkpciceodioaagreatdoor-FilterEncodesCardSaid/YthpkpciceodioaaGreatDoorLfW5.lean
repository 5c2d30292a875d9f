import Derived.Test.YthpkpciceodioaaGreatDoorLfK
import Derived.Test.YthpkpciceodioaaGreatDoorCode
import Derived.Test.YthpkpciceodioaaGreatDoorBl
namespace Go.Proofs.YthpkpciceodioaaGreatDoor
open Go.RowKit
open Go.Av
open Go.Lc
set_option maxRecDepth 100000
set_option linter.unusedSimpArgs false
set_option linter.unusedVariables false
set_option maxHeartbeats 4000000
theorem w193 : Walk tt G [(195,K195.G)] (fun _=>[]) Tryz.f193 K193:=by
 refine .of [(3,⟨[1,2,3,4],[1,2,3],[]⟩),(7,⟨[2,3,5],[2,3],[]⟩)] false body193 Tryz.ntmps193 fun T hO hT a0 x hr=>⟨by simp,?_⟩
 simp only [tabAll] at hT; simp only at hr ⊢; unfold c193;unfold Lref03_schedule at hr;refine go ?_;refine lp 3 (fun (⟨p12,p13⟩ : Int×(Arr 64))=>⟨(und 1++([.ptr 1 0 0 0 64,.ptr 2 0 0 0 64,.ptr 3 0 0 0 64,.one (.v (.int .i64 p12))]++(und 92)) : List PV),([(1,⟨0,64,[arC .u8 a0],false,false⟩),(2,⟨0,64,[arC .u32 (zA 64)],false,false⟩),(3,⟨0,64,[arC .u32 p13],false,false⟩)] : Boxes)⟩) hr ?_;rintro ⟨p12,p13⟩ x80r hr80
 simp only [Lref03_schedule_s1] at hr80;unfold b193_1;refine nst ?_;refine go ?_;by_cases c81 : p12 < 16
 ·replace hr80:=ifP hr80
  refine go ?_;obtain ⟨j82,⟨_,_,_⟩,hr80⟩:=bA hr80;have j82d : j82≤63:=by omega
  obtain ⟨j85,⟨_,_,_⟩,hr80⟩:=bA hr80;have j85d : j85≤63:=by omega
  obtain ⟨j88,⟨_,_,_⟩,hr80⟩:=bA hr80;have j88d : j88≤63:=by omega
  obtain ⟨j91,⟨_,_,_⟩,hr80⟩:=bA hr80;have j91d : j91≤63:=by omega
  obtain ⟨j94,⟨_,_,_⟩,hr80⟩:=bA hr80;have j94d : j94≤63:=by omega
  refine go ?_;exact bk hr80
 ·replace hr80:=ifN hr80
  refine go ?_;obtain ⟨r96,q96,rfl⟩:=ms hr80;refine go ?_;rintro rfl
  refine go ?_;unfold Lref03_schedule_k1 at q96;refine go ?_;refine lp 7 (fun (⟨p38,p39⟩ : Int×(Arr 64))=>⟨(und 2++([.ptr 2 0 0 0 64,.ptr 3 0 0 0 64]++(und 1++([.one (.v (.int .i64 p38))]++(und 91)))) : List PV),([(2,⟨0,64,[arC .u32 (zA 64)],false,false⟩),(3,⟨0,64,[arC .u32 p39],false,false⟩)] : Boxes)⟩) q96 ?_;rintro ⟨p38,p39⟩ x126r hr126
  simp only [Lref03_schedule_s2] at hr126;unfold b193_2;refine nst ?_;refine go ?_;by_cases c127 : p38 < 64
  ·replace hr126:=ifP hr126
   refine go ?_;obtain ⟨j128,⟨_,_,_⟩,hr126⟩:=bA hr126;have j128d : j128≤63:=by omega
   obtain ⟨_,ehy131,hr126⟩:=bN hr126 G195_eq;have j128d : j128≤63:=by omega
   obtain ⟨_,ehy134,hr126⟩:=bN hr126 G195_eq;have j128d : j128≤63:=by omega
   refine go ?_;obtain ⟨j137,⟨_,_,_⟩,hr126⟩:=bA hr126;have j137d : j137≤63:=by omega
   obtain ⟨_,ehy140,hr126⟩:=bN hr126 G195_eq;have j137d : j137≤63:=by omega
   obtain ⟨_,ehy143,hr126⟩:=bN hr126 G195_eq;have j137d : j137≤63:=by omega
   refine go ?_;obtain ⟨j146,⟨_,_,_⟩,hr126⟩:=bA hr126;have j146d : j146≤63:=by omega
   obtain ⟨j149,⟨_,_,_⟩,hr126⟩:=bA hr126;have j149d : j149≤63:=by omega
   obtain ⟨j152,⟨_,_,_⟩,hr126⟩:=bA hr126;have j152d : j152≤63:=by omega
   refine go ?_;exact bk hr126
  ·replace hr126:=ifN hr126
   refine go ?_;obtain ⟨r154,q154,rfl⟩:=ms hr126;refine go ?_;rintro rfl
   refine go ?_;unfold Lref03_schedule_k2 at q154;refine go ?_;exact fin q154
theorem w194 : Walk tt G [] (fun _=>[]) Tryz.f194 K194:=by
 refine .of [] false body194 Tryz.ntmps194 fun T hO hT _ x hr=>⟨by simp,?_⟩
 simp only [tabAll] at hT; simp only at hr ⊢; unfold c194;unfold Lref03_constants at hr;refine go ?_;exact fin hr
def kp148 : Keep:=fun i=>if i = 4 then ⟨[2,4,5,6,7,8,9,10,11,12,13,14,15],[2,4,5,6],[]⟩ else ⟨[],[],[]⟩
theorem w148 {T : Tab} (hO : T.own = fun _=>[]) (hT193 : T 193 = some K193.G) (hT194 : T 194 = some K194.G) (hT195 : T 195 = some K195.G) (a0 : (Arr 8)) (a1 : (Arr 64)) (x : (Arr 8)) (hr : Lref03_Compress a0 a1 = some x) : ∃ kp fl n,execFn tt T G kp fl n Tryz.f148 (E148 (a0,a1)) = some (R148 (a0,a1) x):=by
 simp only [E148,R148];refine fnE (kp:=kp148) (w:=false) body148 (by simp) ?_;unfold c148;rw [Tryz.ntmps148];unfold Lref03_Compress at hr;refine ee_seq_reg rfl (by simp []; rfl) ?_;obtain ⟨y48,hy48,hr⟩:=bs hr;have ehy48:=G193_eq hy48;simp only [K193,nf,nfs] at ehy48;obtain ⟨y49,hy49,hr⟩:=bs hr;have ehy49:=G194_eq hy49;simp only [K194,nf,nfs] at ehy49;refine ee_seq_reg rfl (by simp [hO,hT193,ehy48,hT194,ehy49]; rfl) ?_;have ar50:=arC_get (k:=.u32) (a0) (i:=0) (by decide);have as51:=arC_sub (k:=.u32) (a0) (i:=0) (by decide);have ar52:=arC_get (k:=.u32) (a0) (i:=1) (by decide);have as53:=arC_sub (k:=.u32) (a0) (i:=1) (by decide);have ar54:=arC_get (k:=.u32) (a0) (i:=2) (by decide);have as55:=arC_sub (k:=.u32) (a0) (i:=2) (by decide);have ar56:=arC_get (k:=.u32) (a0) (i:=3) (by decide);have as57:=arC_sub (k:=.u32) (a0) (i:=3) (by decide);have ar58:=arC_get (k:=.u32) (a0) (i:=4) (by decide);have as59:=arC_sub (k:=.u32) (a0) (i:=4) (by decide);have ar60:=arC_get (k:=.u32) (a0) (i:=5) (by decide);have as61:=arC_sub (k:=.u32) (a0) (i:=5) (by decide);have ar62:=arC_get (k:=.u32) (a0) (i:=6) (by decide);have as63:=arC_sub (k:=.u32) (a0) (i:=6) (by decide);have ar64:=arC_get (k:=.u32) (a0) (i:=7) (by decide);have as65:=arC_sub (k:=.u32) (a0) (i:=7) (by decide);refine ee_seq_draw rfl (by simp [ar50,as51,ar52,as53,ar54,as55,ar56,as57,ar58,as59,ar60,as61,ar62,as63,ar64,as65]; first | exact ⟨rfl,rfl⟩ | rfl) (by kernel_rfl) ?_;refine ee_assoc ?_;refine ee_seq_reg rfl (by simp []; rfl) ?_;refine ee_seq_block ?_;refine ee_loop (kq:=⟨[2,4,5,6,7,8,9,10,11,12,13,14,15],[2,4,5,6],[]⟩) (H:=fun (s : Int×Int×Int×Int×Int×Int×Int×Int×Int)=>match s with | (p25,p26,p27,p28,p29,p30,p31,p32,p33)=>(⟨(und 2++([.ptr 2 0 0 0 8]++(und 1++([.ptr 4 0 0 0 8,.ptr 5 0 0 0 64,.ptr 6 0 0 0 64,.one (.v (.int .u32 p25)),.one (.v (.int .u32 p26)),.one (.v (.int .u32 p27)),.one (.v (.int .u32 p28)),.one (.v (.int .u32 p29)),.one (.v (.int .u32 p30)),.one (.v (.int .u32 p31)),.one (.v (.int .u32 p32)),.one (.v (.int .i64 p33))]++(und 117)))) : List PV),([(2,⟨0,8,[arC .u32 a0],false,false⟩),(4,⟨0,8,[arC .u32 (zA 8)],false,false⟩),(5,⟨0,64,[arC .u32 y48],false,false⟩),(6,⟨0,64,[arC .u32 y49],false,false⟩)] : Boxes)⟩ : ASt)) (by kernel_rfl) hr (by simp [und,List.replicate,]) ?_;rintro ⟨p25,p26,p27,p28,p29,p30,p31,p32,p33⟩ x80r hr80
 simp only [Lref03_Compress_s1] at hr80;unfold b148_1;simp only [und,List.replicate,List.cons_append,List.nil_append];refine ee_assoc ?_;refine ee_seq_reg rfl (by simp []; rfl) ?_;by_cases c81 : p33 < 64
 ·skip
  rw [if_pos] at hr80;rotate_left
  ·simp [c81]
  refine ee_seq_condT (by simp [bV,c81]) ?_;refine ee_seq_skip ?_;refine ee_seq_block ?_;obtain ⟨y82,hy82,hr80⟩:=bs hr80;have ehy82:=G195_eq hy82;simp only [K195,nf,nfs] at ehy82;obtain ⟨y83,hy83,hr80⟩:=bs hr80;have ehy83:=G195_eq hy83;simp only [K195,nf,nfs] at ehy83;obtain ⟨y84,hy84,hr80⟩:=bs hr80;have ehy84:=G195_eq hy84;simp only [K195,nf,nfs] at ehy84;obtain ⟨j85,hj85,hr80⟩:=bs hr80;obtain ⟨j85a,j85b,j85c⟩:=inA_some hj85;have j85d : j85≤63:=by omega
  have ar86:=arC_get (k:=.u32) (y49) (i:=j85) j85c;have as87:=arC_sub (k:=.u32) (y49) (i:=j85) j85c;obtain ⟨j85a,j85b,j85c⟩:=inA_some hj85;have j85d : j85≤63:=by omega
  have ar88:=arC_get (k:=.u32) (y48) (i:=j85) j85c;have as89:=arC_sub (k:=.u32) (y48) (i:=j85) j85c;refine ee_seq_draw rfl (by simp [hO,hT195,ehy82,ehy83,ehy84,j85a,j85b,j85c,j85d,ar86,as87,ar88,as89,c81]; first | exact ⟨rfl,rfl⟩ | rfl) (by kernel_rfl) ?_;obtain ⟨y90,hy90,hr80⟩:=bs hr80;have ehy90:=G195_eq hy90;simp only [K195,nf,nfs] at ehy90;obtain ⟨y91,hy91,hr80⟩:=bs hr80;have ehy91:=G195_eq hy91;simp only [K195,nf,nfs] at ehy91;obtain ⟨y92,hy92,hr80⟩:=bs hr80;have ehy92:=G195_eq hy92;simp only [K195,nf,nfs] at ehy92;refine ee_seq_reg rfl (by simp [hO,hT195,ehy90,ehy91,ehy92,c81]; rfl) ?_;refine ee_reg rfl (by simp [c81]; rfl) ?_;simp only [pq,reduceCtorEq];refine ee_reg rfl (by simp [c81]; rfl) ?_;obtain rfl:=Option.some.inj hr80;simp only [pq,reduceCtorEq];simp [und,List.replicate,Nat.add_assoc,c81]
 ·skip
  rw [if_neg] at hr80;rotate_left
  ·simp [c81]
  refine ee_seq_condF (by simp [bV,c81]) ?_;refine ee_seq_exit ?_;obtain ⟨r93,q93,rfl⟩:=ms hr80;simp only [pq,reduceCtorEq];rintro rfl
  try simp only [pq,reduceCtorEq]
  unfold Lref03_Compress_k1 at q93;have ar94:=arC_get (k:=.u32) (a0) (i:=0) (by decide);have as95:=arC_sub (k:=.u32) (a0) (i:=0) (by decide);have ar96:=arC_get (k:=.u32) (a0) (i:=1) (by decide);have as97:=arC_sub (k:=.u32) (a0) (i:=1) (by decide);have ar98:=arC_get (k:=.u32) (a0) (i:=2) (by decide);have as99:=arC_sub (k:=.u32) (a0) (i:=2) (by decide);have ar100:=arC_get (k:=.u32) (a0) (i:=3) (by decide);have as101:=arC_sub (k:=.u32) (a0) (i:=3) (by decide);have ar102:=arC_get (k:=.u32) (a0) (i:=4) (by decide);have as103:=arC_sub (k:=.u32) (a0) (i:=4) (by decide);have ar104:=arC_get (k:=.u32) (a0) (i:=5) (by decide);have as105:=arC_sub (k:=.u32) (a0) (i:=5) (by decide);have ar106:=arC_get (k:=.u32) (a0) (i:=6) (by decide);have as107:=arC_sub (k:=.u32) (a0) (i:=6) (by decide);have ar108:=arC_get (k:=.u32) (a0) (i:=7) (by decide);have as109:=arC_sub (k:=.u32) (a0) (i:=7) (by decide);have ap110:=arC_put (k:=.u32) (zA 8) (i:=0) (by decide) (IntKind.u32.wrap ((a0.at 0) + p25));have ap111:=arC_put (k:=.u32) ((zA 8).put 0 (IntKind.u32.wrap ((a0.at 0) + p25))) (i:=1) (by decide) (IntKind.u32.wrap ((a0.at 1) + p26));have ap112:=arC_put (k:=.u32) (((zA 8).put 0 (IntKind.u32.wrap ((a0.at 0) + p25))).put 1 (IntKind.u32.wrap ((a0.at 1) + p26))) (i:=2) (by decide) (IntKind.u32.wrap ((a0.at 2) + p27));have ap113:=arC_put (k:=.u32) ((((zA 8).put 0 (IntKind.u32.wrap ((a0.at 0) + p25))).put 1 (IntKind.u32.wrap ((a0.at 1) + p26))).put 2 (IntKind.u32.wrap ((a0.at 2) + p27))) (i:=3) (by decide) (IntKind.u32.wrap ((a0.at 3) + p28));have ap114:=arC_put (k:=.u32) (((((zA 8).put 0 (IntKind.u32.wrap ((a0.at 0) + p25))).put 1 (IntKind.u32.wrap ((a0.at 1) + p26))).put 2 (IntKind.u32.wrap ((a0.at 2) + p27))).put 3 (IntKind.u32.wrap ((a0.at 3) + p28))) (i:=4) (by decide) (IntKind.u32.wrap ((a0.at 4) + p29));have ap115:=arC_put (k:=.u32) ((((((zA 8).put 0 (IntKind.u32.wrap ((a0.at 0) + p25))).put 1 (IntKind.u32.wrap ((a0.at 1) + p26))).put 2 (IntKind.u32.wrap ((a0.at 2) + p27))).put 3 (IntKind.u32.wrap ((a0.at 3) + p28))).put 4 (IntKind.u32.wrap ((a0.at 4) + p29))) (i:=5) (by decide) (IntKind.u32.wrap ((a0.at 5) + p30));have ap116:=arC_put (k:=.u32) (((((((zA 8).put 0 (IntKind.u32.wrap ((a0.at 0) + p25))).put 1 (IntKind.u32.wrap ((a0.at 1) + p26))).put 2 (IntKind.u32.wrap ((a0.at 2) + p27))).put 3 (IntKind.u32.wrap ((a0.at 3) + p28))).put 4 (IntKind.u32.wrap ((a0.at 4) + p29))).put 5 (IntKind.u32.wrap ((a0.at 5) + p30))) (i:=6) (by decide) (IntKind.u32.wrap ((a0.at 6) + p31));have ap117:=arC_put (k:=.u32) ((((((((zA 8).put 0 (IntKind.u32.wrap ((a0.at 0) + p25))).put 1 (IntKind.u32.wrap ((a0.at 1) + p26))).put 2 (IntKind.u32.wrap ((a0.at 2) + p27))).put 3 (IntKind.u32.wrap ((a0.at 3) + p28))).put 4 (IntKind.u32.wrap ((a0.at 4) + p29))).put 5 (IntKind.u32.wrap ((a0.at 5) + p30))).put 6 (IntKind.u32.wrap ((a0.at 6) + p31))) (i:=7) (by decide) (IntKind.u32.wrap ((a0.at 7) + p32));refine ee_seq_reg rfl (by simp [ar94,as95,ar96,as97,ar98,as99,ar100,as101,ar102,as103,ar104,as105,ar106,as107,ar108,as109,ap110,ap111,ap112,ap113,ap114,ap115,ap116,ap117,c81]; rfl) ?_;refine ee_ret ?_;obtain rfl:=Option.some.inj q93;simp [FinQ,ar94,as95,ar96,as97,ar98,as99,ar100,as101,ar102,as103,ar104,as105,ar106,as107,ar108,as109,ap110,ap111,ap112,ap113,ap114,ap115,ap116,ap117,c81]
end Go.Proofs.YthpkpciceodioaaGreatDoor
