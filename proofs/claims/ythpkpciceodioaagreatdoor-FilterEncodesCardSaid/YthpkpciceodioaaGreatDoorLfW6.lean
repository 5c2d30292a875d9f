import Derived.Test.YthpkpciceodioaaGreatDoorLfK
import Derived.Test.YthpkpciceodioaaGreatDoorCode
import Derived.Test.YthpkpciceodioaaGreatDoorBl
namespace Go.Proofs.YthpkpciceodioaaGreatDoor
open Go.RowKit
open Go.Av
open Go.Lc
set_option maxRecDepth 100000
set_option linter.unusedSimpArgs false
set_option linter.unusedVariables false
set_option maxHeartbeats 4000000
def kp95 : Keep:=fun i=>if i = 4 then ⟨[2,3,4,5],[2,4,11],[]⟩ else if i = 11 then ⟨[2,7,33,34],[2,7],[]⟩ else ⟨[],[],[]⟩
theorem w95 {T : Tab} (hO : T.own = fun _=>[]) (hT146 : T 146 = some K146.G) (hT147 : T 147 = some K147.G) (hT148 : T 148 = some G148) (a0 : (List Int)) (x : (Arr 32)) (hr : Lref03_Sum a0 = some x) : ∃ kp fl n,execFn tt T G kp fl n Tryz.f95 (E95 a0) = some (R95 a0 x):=by
 simp only [E95,R95];refine fnE (kp:=kp95) (w:=false) body95 (by simp) ?_;unfold c95;rw [Tryz.ntmps95];unfold Lref03_Sum at hr;refine ee_seq_reg rfl (by simp [-intsR_app,-List.take_append,-List.drop_append,]; rfl) ?_;obtain ⟨_,u40,hr⟩:=bs hr;have u40_0:=chk_some u40;have n1_u40_0 : a0.length≤140737488355328:=by omega
 have n2_u40_0 : a0.length≤9223372036854775807:=by omega
 obtain ⟨y41,hy41,hr⟩:=bs hr;have ehy41:=G146_eq hy41;simp only [K146,nf,nfs] at ehy41;obtain ⟨_,u42,hr⟩:=bs hr;have u42_0:=chk_some u42;have n1_u42_0 : a0.length + y41.length≤140737488355328:=by omega
 have n2_u42_0 : a0.length + y41.length≤9223372036854775807:=by omega
 refine ee_seq_reg rfl (by simp [-intsR_app,-List.take_append,-List.drop_append,n1_u40_0,n2_u40_0,hO,hT146,ehy41,n1_u42_0,n2_u42_0]; rfl) ?_;obtain ⟨y43,hy43,hr⟩:=bs hr;have ehy43:=G147_eq hy43;simp only [K147,nf,nfs] at ehy43;refine ee_seq_reg rfl (by simp [-intsR_app,-List.take_append,-List.drop_append,hO,hT147,ehy43]; rfl) ?_;refine ee_assoc ?_;refine ee_seq_reg rfl (by simp [-intsR_app,-List.take_append,-List.drop_append,]; rfl) ?_;refine ee_seq_block ?_;refine ee_loop (kq:=⟨[2,3,4,5],[2,4,11],[]⟩) (H:=fun (s : Int×(Arr 8))=>match s with | (p11,p12)=>(⟨(und 2++([.ptr 2 0 0 0 32,.one (.ms 11 0 0 (a0.length + y41.length) 1),.ptr 4 0 0 0 8,.one (.v (.int .i64 p11))]++(und 60)) : List PV),([(2,⟨0,32,[arC .u8 (zA 32)],false,false⟩),(4,⟨0,8,[arC .u32 p12],false,false⟩),(11,⟨0,1,intsR .u8 (a0++y41),false,true⟩)] : Boxes)⟩ : ASt)) (by kernel_rfl) hr (by simp [und,List.replicate,]) ?_;rintro ⟨p11,p12⟩ x52r hr52
 simp only [Lref03_Sum_s1] at hr52;unfold b95_1;simp only [und,List.replicate,List.cons_append,List.nil_append];refine ee_assoc ?_;refine ee_seq_reg rfl (by simp [-intsR_app,-List.take_append,-List.drop_append,]; rfl) ?_;by_cases c53 : IntKind.i64.wrap (p11 + 64)≤(a0.length + y41.length : Int)
 ·skip
  have c53N:=c53;try simp at c53N
  first | have c53M : (_ = _) = True:=eq_true c53N | have c53M:=c53N
  rw [if_pos] at hr52;rotate_left
  ·simp [c53,c53M]
  refine ee_seq_condT (by simp [bV,c53,c53M]) ?_;refine ee_seq_skip ?_;refine ee_seq_block ?_;refine ee_seq_reg rfl (by simp [-intsR_app,-List.take_append,-List.drop_append,c53,c53M] <;> rfl) ?_;obtain ⟨_,u54,hr52⟩:=bs hr52;obtain ⟨u54_0,u54_1⟩:=chk_some u54
  have lu54_1 : p11≤((a0.length + y41.length : Nat) : Int):=by
   have h:=u54_1;try simp at h
   omega
  try simp only [Int.natCast_add] at lu54_1
  have sf55 : (p11).toNat≤(a0++y41).length:=by omega
  have sf56 : (p11).toNat≤a0.length + y41.length:=by omega
  have al57:=eq_true (fun l h=>intsR_all l (List.mem_of_mem_drop h) : ∀ l,l∈List.drop ((p11).toNat) (intsR .u8 (a0++y41))→l.length = 1);have ov57:=over_put (k:=.u8) (a:=zA 64) (l:=(a0++y41).drop (p11).toNat);try simp only [intsR_nil,intsR_cons,intsR_tk,intsR_dr,intsR_st,intsR_rep,List.length_drop,List.length_append] at ov57
  refine ee_seq_draw rfl (by simp [-intsR_app,-List.take_append,-List.drop_append,u54_0,u54_1,lu54_1,sf55,sf56,al57,ov57,c53,c53M]; first | exact ⟨rfl,rfl⟩ | rfl) (by kernel_rfl) ?_;obtain ⟨y58,hy58,hr52⟩:=bs hr52;have ehy58:=G148_eq hy58;simp only [E148,R148,nf,nfs] at ehy58;refine ee_reg rfl (by simp [-intsR_app,-List.take_append,-List.drop_append,hO,hT148,ehy58,c53,c53M] <;> rfl) ?_;simp only [pq,reduceCtorEq];refine ee_reg rfl (by simp [-intsR_app,-List.take_append,-List.drop_append,c53,c53M] <;> rfl) ?_;obtain rfl:=Option.some.inj hr52;simp only [pq,reduceCtorEq];simp [und,List.replicate,Nat.add_assoc,c53,c53M]
 ·skip
  have c53N:=c53;try simp at c53N
  first | have c53M : (_ = _) = True:=eq_true c53N | have c53M:=c53N
  rw [if_neg] at hr52;rotate_left
  ·simp [c53,c53M]
  refine ee_seq_condF (by simp [bV,c53,c53M]) ?_;refine ee_seq_exit ?_;obtain ⟨r59,q59,rfl⟩:=ms hr52;simp only [pq,reduceCtorEq];rintro rfl
  try simp only [pq,reduceCtorEq]
  unfold Lref03_Sum_k1 at q59;refine ee_seq_reg rfl (by simp [-intsR_app,-List.take_append,-List.drop_append,c53,c53M] <;> rfl) ?_;refine ee_assoc ?_;refine ee_seq_reg rfl (by simp [-intsR_app,-List.take_append,-List.drop_append,c53,c53M] <;> rfl) ?_;refine ee_seq_block ?_;refine ee_loop (kq:=⟨[2,7,33,34],[2,7],[]⟩) (H:=fun (s : Int×(Arr 32))=>match s with | (p26,p27)=>(⟨(und 2++([.ptr 2 0 0 0 32]++(und 4++([.ptr 7 0 0 0 32]++(und 25++([.agg (arC .u32 p12),.one (.v (.int .i64 p26))]++(und 31)))))) : List PV),([(2,⟨0,32,[arC .u8 (zA 32)],false,false⟩),(7,⟨0,32,[arC .u8 p27],false,false⟩)] : Boxes)⟩ : ASt)) (by kernel_rfl) q59 (by simp [und,List.replicate,c53,c53M]) ?_;rintro ⟨p26,p27⟩ x74r hr74
  simp only [Lref03_Sum_s2] at hr74;unfold b95_2;simp only [und,List.replicate,List.cons_append,List.nil_append];refine ee_seq_reg rfl (by simp [-intsR_app,-List.take_append,-List.drop_append,c53,c53M] <;> rfl) ?_;by_cases c75 : p26 < 8
  ·skip
   rw [if_pos] at hr74;rotate_left
   ·simp [c53,c53M,c75]
   refine ee_seq_condT (by simp [bV,c53,c53M,c75]) ?_;refine ee_seq_skip ?_;refine ee_seq_block ?_;obtain ⟨j76,hj76,hr74⟩:=bs hr74;obtain ⟨j76a,j76b,j76c⟩:=inA_some hj76;have j76d : j76≤7:=by omega
   have ar77:=arC_get (k:=.u32) (p12) (i:=j76) j76c;have as78:=arC_sub (k:=.u32) (p12) (i:=j76) j76c;refine ee_seq_reg rfl (by simp [-intsR_app,-List.take_append,-List.drop_append,j76a,j76b,j76c,j76d,ar77,as78,c53,c53M,c75] <;> rfl) ?_;obtain ⟨j79,hj79,hr74⟩:=bs hr74;obtain ⟨j79a,j79b,j79c⟩:=inA_some hj79;have j79d : j79≤31:=by omega
   have ap80:=arC_put (k:=.u8) (p27) (i:=j79) j79c (IntKind.u8.wrap ((p12.at j76).fdiv 16777216));obtain ⟨j81,hj81,hr74⟩:=bs hr74;obtain ⟨j81a,j81b,j81c⟩:=inA_some hj81;have j81d : j81≤31:=by omega
   have ap82:=arC_put (k:=.u8) (p27.put j79 (IntKind.u8.wrap ((p12.at j76).fdiv 16777216))) (i:=j81) j81c (IntKind.u8.wrap ((p12.at j76).fdiv 65536));obtain ⟨j83,hj83,hr74⟩:=bs hr74;obtain ⟨j83a,j83b,j83c⟩:=inA_some hj83;have j83d : j83≤31:=by omega
   have ap84:=arC_put (k:=.u8) ((p27.put j79 (IntKind.u8.wrap ((p12.at j76).fdiv 16777216))).put j81 (IntKind.u8.wrap ((p12.at j76).fdiv 65536))) (i:=j83) j83c (IntKind.u8.wrap ((p12.at j76).fdiv 256));obtain ⟨j85,hj85,hr74⟩:=bs hr74;obtain ⟨j85a,j85b,j85c⟩:=inA_some hj85;have j85d : j85≤31:=by omega
   have ap86:=arC_put (k:=.u8) (((p27.put j79 (IntKind.u8.wrap ((p12.at j76).fdiv 16777216))).put j81 (IntKind.u8.wrap ((p12.at j76).fdiv 65536))).put j83 (IntKind.u8.wrap ((p12.at j76).fdiv 256))) (i:=j85) j85c (IntKind.u8.wrap (p12.at j76));refine ee_reg rfl (by simp [-intsR_app,-List.take_append,-List.drop_append,j79a,j79b,j79c,j79d,ap80,j81a,j81b,j81c,j81d,ap82,j83a,j83b,j83c,j83d,ap84,j85a,j85b,j85c,j85d,ap86,c53,c53M,c75] <;> rfl) ?_;simp only [pq,reduceCtorEq];refine ee_reg rfl (by simp [-intsR_app,-List.take_append,-List.drop_append,c53,c53M,c75] <;> rfl) ?_;obtain rfl:=Option.some.inj hr74;simp only [pq,reduceCtorEq];simp [und,List.replicate,Nat.add_assoc,c53,c53M,c75]
  ·skip
   rw [if_neg] at hr74;rotate_left
   ·simp [c53,c53M,c75]
   refine ee_seq_condF (by simp [bV,c53,c53M,c75]) ?_;refine ee_seq_exit ?_;obtain ⟨r87,q87,rfl⟩:=ms hr74;simp only [pq,reduceCtorEq];rintro rfl
   try simp only [pq,reduceCtorEq]
   unfold Lref03_Sum_k2 at q87;refine ee_seq_reg rfl (by simp [-intsR_app,-List.take_append,-List.drop_append,c53,c53M,c75] <;> rfl) ?_;refine ee_ret ?_;obtain rfl:=Option.some.inj q87;simp [FinQ,c53,c53M,c75,c53N]
theorem w51 : Walk tt G [(95,G95)] (fun _=>[]) Tryz.f51 K51:=by
 refine .of [] false body51 Tryz.ntmps51 fun T hO hT a0 x hr=>⟨by simp,?_⟩
 simp only [tabAll] at hT; simp only at hr ⊢; unfold c51;unfold Lref03_Double at hr;refine go ?_;obtain ⟨_,ehy3,hr⟩:=bG hr fun _=>G95_eq
 simp only [E95,R95,nf,nfs] at ehy3;refine go ?_;obtain ⟨_,ehy4,hr⟩:=bG hr fun _=>G95_eq
 simp only [E95,R95,nf,nfs] at ehy4;refine go ?_;exact fin hr
theorem w31 : Walk tt G [(28,K28.G),(51,K51.G)] (fun _=>[]) Tryz.f31 K31:=by
 refine .of [] false body31 Tryz.ntmps31 fun T hO hT a0 x hr=>⟨by simp,?_⟩
 simp only [tabAll] at hT; simp only at hr ⊢; unfold c31;unfold Lref20_Hash at hr;refine go ?_;obtain ⟨y3,ehy3,hr⟩:=bN hr G28_eq;refine go ?_;rcases eqT (y3.2 = 0) with c4 | c4
 ·replace hr:=ifN hr
  refine go ?_;obtain ⟨_,ehy5,hr⟩:=bN hr G51_eq;refine go ?_;exact fin hr
 ·replace hr:=ifP hr
  refine go ?_;exact fin hr
end Go.Proofs.YthpkpciceodioaaGreatDoor
