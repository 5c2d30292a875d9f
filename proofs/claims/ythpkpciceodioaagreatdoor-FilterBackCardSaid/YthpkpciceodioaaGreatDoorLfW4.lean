import Derived.Test.YthpkpciceodioaaGreatDoorLfK
import Derived.Test.YthpkpciceodioaaGreatDoorCode
import Derived.Test.YthpkpciceodioaaGreatDoorBl
namespace Go.Proofs.YthpkpciceodioaaGreatDoor
open Go.RowKit
open Go.Av
open Go.Lc
set_option maxRecDepth 100000
set_option linter.unusedSimpArgs false
set_option linter.unusedVariables false
set_option maxHeartbeats 4000000
theorem w193 : Walk tt G [(195,K195.G)] (fun _=>[]) Tryz.f193 K193:=by
 refine .of [(3,⟨[1,2,3,4],[1,2,3],[]⟩),(7,⟨[2,3,5],[2,3],[]⟩)] false body193 Tryz.ntmps193 fun T hO hT a0 x hr=>⟨by simp,?_⟩
 simp only [tabAll] at hT; simp only at hr ⊢; unfold c193;unfold Lref03_schedule at hr;refine go ?_;refine lp 3 (fun (⟨p12,p13⟩ : Int×(Arr 64))=>⟨(und 1++([.ptr 1 0 0 0 64,.ptr 2 0 0 0 64,.ptr 3 0 0 0 64,.one (.v (.int .i64 p12))]++(und 92)) : List PV),([(1,⟨0,64,[arC .u8 a0],false,false⟩),(2,⟨0,64,[arC .u32 (zA 64)],false,false⟩),(3,⟨0,64,[arC .u32 p13],false,false⟩)] : Boxes)⟩) hr ?_;rintro ⟨p12,p13⟩ x80r hr80
 simp only [Lref03_schedule_s1] at hr80;unfold b193_1;refine nst ?_;refine go ?_;by_cases c81 : p12 < 16
 ·replace hr80:=ifP hr80
  refine go ?_;obtain ⟨j82,⟨_,_,_⟩,hr80⟩:=bA hr80;have j82d : j82≤63:=by omega
  obtain ⟨j85,⟨_,_,_⟩,hr80⟩:=bA hr80;have j85d : j85≤63:=by omega
  obtain ⟨j88,⟨_,_,_⟩,hr80⟩:=bA hr80;have j88d : j88≤63:=by omega
  obtain ⟨j91,⟨_,_,_⟩,hr80⟩:=bA hr80;have j91d : j91≤63:=by omega
  obtain ⟨j94,⟨_,_,_⟩,hr80⟩:=bA hr80;have j94d : j94≤63:=by omega
  refine go ?_;exact bk hr80
 ·replace hr80:=ifN hr80
  refine go ?_;obtain ⟨r96,q96,rfl⟩:=ms hr80;refine go ?_;rintro rfl
  refine go ?_;unfold Lref03_schedule_k1 at q96;refine go ?_;refine lp 7 (fun (⟨p38,p39⟩ : Int×(Arr 64))=>⟨(und 2++([.ptr 2 0 0 0 64,.ptr 3 0 0 0 64]++(und 1++([.one (.v (.int .i64 p38))]++(und 91)))) : List PV),([(2,⟨0,64,[arC .u32 (zA 64)],false,false⟩),(3,⟨0,64,[arC .u32 p39],false,false⟩)] : Boxes)⟩) q96 ?_;rintro ⟨p38,p39⟩ x126r hr126
  simp only [Lref03_schedule_s2] at hr126;unfold b193_2;refine nst ?_;refine go ?_;by_cases c127 : p38 < 64
  ·replace hr126:=ifP hr126
   refine go ?_;obtain ⟨j128,⟨_,_,_⟩,hr126⟩:=bA hr126;have j128d : j128≤63:=by omega
   obtain ⟨_,ehy131,hr126⟩:=bN hr126 G195_eq;have j128d : j128≤63:=by omega
   obtain ⟨_,ehy134,hr126⟩:=bN hr126 G195_eq;have j128d : j128≤63:=by omega
   refine go ?_;obtain ⟨j137,⟨_,_,_⟩,hr126⟩:=bA hr126;have j137d : j137≤63:=by omega
   obtain ⟨_,ehy140,hr126⟩:=bN hr126 G195_eq;have j137d : j137≤63:=by omega
   obtain ⟨_,ehy143,hr126⟩:=bN hr126 G195_eq;have j137d : j137≤63:=by omega
   refine go ?_;obtain ⟨j146,⟨_,_,_⟩,hr126⟩:=bA hr126;have j146d : j146≤63:=by omega
   obtain ⟨j149,⟨_,_,_⟩,hr126⟩:=bA hr126;have j149d : j149≤63:=by omega
   obtain ⟨j152,⟨_,_,_⟩,hr126⟩:=bA hr126;have j152d : j152≤63:=by omega
   refine go ?_;exact bk hr126
  ·replace hr126:=ifN hr126
   refine go ?_;obtain ⟨r154,q154,rfl⟩:=ms hr126;refine go ?_;rintro rfl
   refine go ?_;unfold Lref03_schedule_k2 at q154;refine go ?_;exact fin q154
theorem w194 : Walk tt G [] (fun _=>[]) Tryz.f194 K194:=by
 refine .of [] false body194 Tryz.ntmps194 fun T hO hT _ x hr=>⟨by simp,?_⟩
 simp only [tabAll] at hT; simp only at hr ⊢; unfold c194;unfold Lref03_constants at hr;refine go ?_;exact fin hr
theorem w148 : Walk tt G [(193,K193.G),(194,K194.G),(195,K195.G)] (fun _=>[]) Tryz.f148 K148:=by
 refine .of [(4,⟨[2,4,5,6,7,8,9,10,11,12,13,14,15],[2,4,5,6],[]⟩)] false body148 Tryz.ntmps148 fun T hO hT ⟨a0,a1⟩ x hr=>⟨by simp,?_⟩
 simp only [tabAll] at hT; simp only at hr ⊢; unfold c148;unfold Lref03_Compress at hr;refine go ?_;obtain ⟨y48,ehy48,hr⟩:=bN hr G193_eq;obtain ⟨y49,ehy49,hr⟩:=bN hr G194_eq;refine go ?_;refine lp 4 (fun (⟨p25,p26,p27,p28,p29,p30,p31,p32,p33⟩ : Int×Int×Int×Int×Int×Int×Int×Int×Int)=>⟨(und 2++([.ptr 2 0 0 0 8]++(und 1++([.ptr 4 0 0 0 8,.ptr 5 0 0 0 64,.ptr 6 0 0 0 64,.one (.v (.int .u32 p25)),.one (.v (.int .u32 p26)),.one (.v (.int .u32 p27)),.one (.v (.int .u32 p28)),.one (.v (.int .u32 p29)),.one (.v (.int .u32 p30)),.one (.v (.int .u32 p31)),.one (.v (.int .u32 p32)),.one (.v (.int .i64 p33))]++(und 117)))) : List PV),([(2,⟨0,8,[arC .u32 a0],false,false⟩),(4,⟨0,8,[arC .u32 (zA 8)],false,false⟩),(5,⟨0,64,[arC .u32 y48],false,false⟩),(6,⟨0,64,[arC .u32 y49],false,false⟩)] : Boxes)⟩) hr ?_;rintro ⟨p25,p26,p27,p28,p29,p30,p31,p32,p33⟩ x80r hr80
 simp only [Lref03_Compress_s1] at hr80;unfold b148_1;refine nst ?_;refine go ?_;by_cases c81 : p33 < 64
 ·replace hr80:=ifP hr80
  refine go ?_;obtain ⟨_,ehy82,hr80⟩:=bN hr80 G195_eq;obtain ⟨_,ehy83,hr80⟩:=bN hr80 G195_eq;obtain ⟨_,ehy84,hr80⟩:=bN hr80 G195_eq;obtain ⟨j85,⟨_,_,_⟩,hr80⟩:=bA hr80;have j85d : j85≤63:=by omega
  have j85d : j85≤63:=by omega
  refine go ?_;obtain ⟨_,ehy90,hr80⟩:=bN hr80 G195_eq;obtain ⟨_,ehy91,hr80⟩:=bN hr80 G195_eq;obtain ⟨_,ehy92,hr80⟩:=bN hr80 G195_eq;refine go ?_;exact bk hr80
 ·replace hr80:=ifN hr80
  refine go ?_;obtain ⟨r93,q93,rfl⟩:=ms hr80;refine go ?_;rintro rfl
  refine go ?_;unfold Lref03_Compress_k1 at q93;refine go ?_;exact fin q93
def kp95 : Keep:=fun i=>if i = 4 then ⟨[2,3,4,5],[2,4,11],[]⟩ else if i = 11 then ⟨[2,7,33,34],[2,7],[]⟩ else ⟨[],[],[]⟩
theorem w95 {T : Tab} (hO : T.own = fun _=>[]) (hT146 : T 146 = some K146.G) (hT147 : T 147 = some K147.G) (hT148 : T 148 = some K148.G) (a0 : (List Int)) (x : (Arr 32)) (hr : Lref03_Sum a0 = some x) : ∃ kp fl n,execFn tt T G kp fl n Tryz.f95 (E95 a0) = some (R95 a0 x):=by
 simp only [E95,R95];refine fnE (kp:=kp95) (w:=false) body95 (by simp) ?_;unfold c95;rw [Tryz.ntmps95];unfold Lref03_Sum at hr;refine ee_seq_reg rfl (by simp [-intsR_app,-List.take_append,-List.drop_append,]; rfl) ?_;obtain ⟨_,u40,hr⟩:=bs hr;have u40_0:=chk_some u40;have n1_u40_0 : a0.length≤140737488355328:=by omega
 have n2_u40_0 : a0.length≤9223372036854775807:=by omega
 obtain ⟨y41,hy41,hr⟩:=bs hr;have ehy41:=G146_eq hy41;simp only [K146,nf,nfs] at ehy41;obtain ⟨_,u42,hr⟩:=bs hr;have u42_0:=chk_some u42;have n1_u42_0 : a0.length + y41.length≤140737488355328:=by omega
 have n2_u42_0 : a0.length + y41.length≤9223372036854775807:=by omega
 refine ee_seq_reg rfl (by simp [-intsR_app,-List.take_append,-List.drop_append,n1_u40_0,n2_u40_0,hO,hT146,ehy41,n1_u42_0,n2_u42_0]; rfl) ?_;obtain ⟨y43,hy43,hr⟩:=bs hr;have ehy43:=G147_eq hy43;simp only [K147,nf,nfs] at ehy43;refine ee_seq_reg rfl (by simp [-intsR_app,-List.take_append,-List.drop_append,hO,hT147,ehy43]; rfl) ?_;refine ee_assoc ?_;refine ee_seq_reg rfl (by simp [-intsR_app,-List.take_append,-List.drop_append,]; rfl) ?_;refine ee_seq_block ?_;refine ee_loop (kq:=⟨[2,3,4,5],[2,4,11],[]⟩) (H:=fun (s : Int×(Arr 8))=>match s with | (p11,p12)=>(⟨(und 2++([.ptr 2 0 0 0 32,.one (.ms 11 0 0 (a0.length + y41.length) 1),.ptr 4 0 0 0 8,.one (.v (.int .i64 p11))]++(und 60)) : List PV),([(2,⟨0,32,[arC .u8 (zA 32)],false,false⟩),(4,⟨0,8,[arC .u32 p12],false,false⟩),(11,⟨0,1,intsR .u8 (a0++y41),false,true⟩)] : Boxes)⟩ : ASt)) (by kernel_rfl) hr (by simp [und,List.replicate,]) ?_;rintro ⟨p11,p12⟩ x52r hr52
 simp only [Lref03_Sum_s1] at hr52;unfold b95_1;simp only [und,List.replicate,List.cons_append,List.nil_append];refine ee_assoc ?_;refine ee_seq_reg rfl (by simp [-intsR_app,-List.take_append,-List.drop_append,]; rfl) ?_;by_cases c53 : IntKind.i64.wrap (p11 + 64)≤(a0.length + y41.length : Int)
 ·skip
  have c53N:=c53;try simp at c53N
  first | have c53M : (_ = _) = True:=eq_true c53N | have c53M:=c53N
  rw [if_pos] at hr52;rotate_left
  ·simp [c53,c53M]
  refine ee_seq_condT (by simp [bV,c53,c53M]) ?_;refine ee_seq_skip ?_;refine ee_seq_block ?_;refine ee_seq_reg rfl (by simp [-intsR_app,-List.take_append,-List.drop_append,c53,c53M] <;> rfl) ?_;obtain ⟨_,u54,hr52⟩:=bs hr52;obtain ⟨u54_0,u54_1⟩:=chk_some u54
  have lu54_1 : p11≤((a0.length + y41.length : Nat) : Int):=by
   have h:=u54_1;try simp at h
   omega
  try simp only [Int.natCast_add] at lu54_1
  have sf55 : (p11).toNat≤(a0++y41).length:=by omega
  have sf56 : (p11).toNat≤a0.length + y41.length:=by omega
  have al57:=eq_true (fun l h=>intsR_all l (List.mem_of_mem_drop h) : ∀ l,l∈List.drop ((p11).toNat) (intsR .u8 (a0++y41))→l.length = 1);have ov57:=over_put (k:=.u8) (a:=zA 64) (l:=(a0++y41).drop (p11).toNat);try simp only [intsR_nil,intsR_cons,intsR_tk,intsR_dr,intsR_st,intsR_rep,List.length_drop,List.length_append] at ov57
  refine ee_seq_draw rfl (by simp [-intsR_app,-List.take_append,-List.drop_append,u54_0,u54_1,lu54_1,sf55,sf56,al57,ov57,c53,c53M]; first | exact ⟨rfl,rfl⟩ | rfl) (by kernel_rfl) ?_;obtain ⟨y58,hy58,hr52⟩:=bs hr52;have ehy58:=G148_eq hy58;simp only [K148,nf,nfs] at ehy58;refine ee_reg rfl (by simp [-intsR_app,-List.take_append,-List.drop_append,hO,hT148,ehy58,c53,c53M] <;> rfl) ?_;simp only [pq,reduceCtorEq];refine ee_reg rfl (by simp [-intsR_app,-List.take_append,-List.drop_append,c53,c53M] <;> rfl) ?_;obtain rfl:=Option.some.inj hr52;simp only [pq,reduceCtorEq];simp [und,List.replicate,Nat.add_assoc,c53,c53M]
 ·skip
  have c53N:=c53;try simp at c53N
  first | have c53M : (_ = _) = True:=eq_true c53N | have c53M:=c53N
  rw [if_neg] at hr52;rotate_left
  ·simp [c53,c53M]
  refine ee_seq_condF (by simp [bV,c53,c53M]) ?_;refine ee_seq_exit ?_;obtain ⟨r59,q59,rfl⟩:=ms hr52;simp only [pq,reduceCtorEq];rintro rfl
  try simp only [pq,reduceCtorEq]
  unfold Lref03_Sum_k1 at q59;refine ee_seq_reg rfl (by simp [-intsR_app,-List.take_append,-List.drop_append,c53,c53M] <;> rfl) ?_;refine ee_assoc ?_;refine ee_seq_reg rfl (by simp [-intsR_app,-List.take_append,-List.drop_append,c53,c53M] <;> rfl) ?_;refine ee_seq_block ?_;refine ee_loop (kq:=⟨[2,7,33,34],[2,7],[]⟩) (H:=fun (s : Int×(Arr 32))=>match s with | (p26,p27)=>(⟨(und 2++([.ptr 2 0 0 0 32]++(und 4++([.ptr 7 0 0 0 32]++(und 25++([.agg (arC .u32 p12),.one (.v (.int .i64 p26))]++(und 31)))))) : List PV),([(2,⟨0,32,[arC .u8 (zA 32)],false,false⟩),(7,⟨0,32,[arC .u8 p27],false,false⟩)] : Boxes)⟩ : ASt)) (by kernel_rfl) q59 (by simp [und,List.replicate,c53,c53M]) ?_;rintro ⟨p26,p27⟩ x74r hr74
  simp only [Lref03_Sum_s2] at hr74;unfold b95_2;simp only [und,List.replicate,List.cons_append,List.nil_append];refine ee_seq_reg rfl (by simp [-intsR_app,-List.take_append,-List.drop_append,c53,c53M] <;> rfl) ?_;by_cases c75 : p26 < 8
  ·skip
   rw [if_pos] at hr74;rotate_left
   ·simp [c53,c53M,c75]
   refine ee_seq_condT (by simp [bV,c53,c53M,c75]) ?_;refine ee_seq_skip ?_;refine ee_seq_block ?_;obtain ⟨j76,hj76,hr74⟩:=bs hr74;obtain ⟨j76a,j76b,j76c⟩:=inA_some hj76;have j76d : j76≤7:=by omega
   have ar77:=arC_get (k:=.u32) (p12) (i:=j76) j76c;have as78:=arC_sub (k:=.u32) (p12) (i:=j76) j76c;refine ee_seq_reg rfl (by simp [-intsR_app,-List.take_append,-List.drop_append,j76a,j76b,j76c,j76d,ar77,as78,c53,c53M,c75] <;> rfl) ?_;obtain ⟨j79,hj79,hr74⟩:=bs hr74;obtain ⟨j79a,j79b,j79c⟩:=inA_some hj79;have j79d : j79≤31:=by omega
   have ap80:=arC_put (k:=.u8) (p27) (i:=j79) j79c (IntKind.u8.wrap ((p12.at j76).fdiv 16777216));obtain ⟨j81,hj81,hr74⟩:=bs hr74;obtain ⟨j81a,j81b,j81c⟩:=inA_some hj81;have j81d : j81≤31:=by omega
   have ap82:=arC_put (k:=.u8) (p27.put j79 (IntKind.u8.wrap ((p12.at j76).fdiv 16777216))) (i:=j81) j81c (IntKind.u8.wrap ((p12.at j76).fdiv 65536));obtain ⟨j83,hj83,hr74⟩:=bs hr74;obtain ⟨j83a,j83b,j83c⟩:=inA_some hj83;have j83d : j83≤31:=by omega
   have ap84:=arC_put (k:=.u8) ((p27.put j79 (IntKind.u8.wrap ((p12.at j76).fdiv 16777216))).put j81 (IntKind.u8.wrap ((p12.at j76).fdiv 65536))) (i:=j83) j83c (IntKind.u8.wrap ((p12.at j76).fdiv 256));obtain ⟨j85,hj85,hr74⟩:=bs hr74;obtain ⟨j85a,j85b,j85c⟩:=inA_some hj85;have j85d : j85≤31:=by omega
   have ap86:=arC_put (k:=.u8) (((p27.put j79 (IntKind.u8.wrap ((p12.at j76).fdiv 16777216))).put j81 (IntKind.u8.wrap ((p12.at j76).fdiv 65536))).put j83 (IntKind.u8.wrap ((p12.at j76).fdiv 256))) (i:=j85) j85c (IntKind.u8.wrap (p12.at j76));refine ee_reg rfl (by simp [-intsR_app,-List.take_append,-List.drop_append,j79a,j79b,j79c,j79d,ap80,j81a,j81b,j81c,j81d,ap82,j83a,j83b,j83c,j83d,ap84,j85a,j85b,j85c,j85d,ap86,c53,c53M,c75] <;> rfl) ?_;simp only [pq,reduceCtorEq];refine ee_reg rfl (by simp [-intsR_app,-List.take_append,-List.drop_append,c53,c53M,c75] <;> rfl) ?_;obtain rfl:=Option.some.inj hr74;simp only [pq,reduceCtorEq];simp [und,List.replicate,Nat.add_assoc,c53,c53M,c75]
  ·skip
   rw [if_neg] at hr74;rotate_left
   ·simp [c53,c53M,c75]
   refine ee_seq_condF (by simp [bV,c53,c53M,c75]) ?_;refine ee_seq_exit ?_;obtain ⟨r87,q87,rfl⟩:=ms hr74;simp only [pq,reduceCtorEq];rintro rfl
   try simp only [pq,reduceCtorEq]
   unfold Lref03_Sum_k2 at q87;refine ee_seq_reg rfl (by simp [-intsR_app,-List.take_append,-List.drop_append,c53,c53M,c75] <;> rfl) ?_;refine ee_ret ?_;obtain rfl:=Option.some.inj q87;simp [FinQ,c53,c53M,c75,c53N]
theorem w51 : Walk tt G [(95,G95)] (fun _=>[]) Tryz.f51 K51:=by
 refine .of [] false body51 Tryz.ntmps51 fun T hO hT a0 x hr=>⟨by simp,?_⟩
 simp only [tabAll] at hT; simp only at hr ⊢; unfold c51;unfold Lref03_Double at hr;refine go ?_;obtain ⟨_,ehy3,hr⟩:=bG hr fun _=>G95_eq
 simp only [E95,R95,nf,nfs] at ehy3;refine go ?_;obtain ⟨_,ehy4,hr⟩:=bG hr fun _=>G95_eq
 simp only [E95,R95,nf,nfs] at ehy4;refine go ?_;exact fin hr
end Go.Proofs.YthpkpciceodioaaGreatDoor
