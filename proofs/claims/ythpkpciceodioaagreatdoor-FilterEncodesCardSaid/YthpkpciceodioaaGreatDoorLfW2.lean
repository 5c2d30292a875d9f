import Derived.Test.YthpkpciceodioaaGreatDoorLfK
import Derived.Test.YthpkpciceodioaaGreatDoorCode
import Derived.Test.YthpkpciceodioaaGreatDoorBl
namespace Go.Proofs.YthpkpciceodioaaGreatDoor
open Go.RowKit
open Go.Av
open Go.Lc
set_option maxRecDepth 100000
set_option linter.unusedSimpArgs false
set_option linter.unusedVariables false
set_option maxHeartbeats 4000000
def kp57 : Keep:=fun i=>if i = 1000017 then ⟨[2,10,11,12,13],[],[]⟩ else ⟨[],[],[]⟩
theorem w57 {T : Tab} (hO : T.own = fun _=>[]) (hT100 : T 100 = some K100.G) (hT101 : T 101 = some K101.G) (hT102 : T 102 = some K102.G) (hT103 : T 103 = some K103.G) (a0 : (List Int)) (a1 : Int) (a2 : Int) (x : Int×Int×Int) (hr : Lcodec_Size a0 a1 a2 = some x) : ∃ kp fl n,execFn tt T G kp fl n Tryz.f57 (E57 (a0,a1,a2)) = some (R57 (a0,a1,a2) x):=by
 simp only [E57,R57];refine fnE (kp:=kp57) (w:=false) body57 (by simp) ?_;unfold c57;rw [Tryz.ntmps57];unfold Lcodec_Size at hr;refine ee_seq_reg rfl (by simp []; rfl) ?_;obtain ⟨y12,hy12,hr⟩:=bs hr;have ehy12:=G100_eq hy12;simp only [K100,nf,nfs] at ehy12;refine ee_seq_reg rfl (by simp [hO,hT100,ehy12]; rfl) ?_;refine ee_assoc ?_;refine ee_seq_reg rfl (by simp []; rfl) ?_;by_cases c13 : y12.2.2 = 0
 ·skip
  rw [if_neg (not_not_intro c13)] at hr;refine ee_seq_condF (by simp [bV,eq_true c13]) ?_;refine ee_seq_skip ?_;refine ee_seq_reg rfl (by simp [eq_true c13]; rfl) ?_;refine ee_assoc ?_;refine ee_seq_reg rfl (by simp [eq_true c13]; rfl) ?_;refine ee_seq_block ?_;refine ee_seq_reg rfl (by simp [eq_true c13]; rfl) ?_;refine ee_J hr (.normal) (fun (s : Int×Int×Int×Int)=>match s with | (p5,p6,p7,p8)=>(⟨(und 2++([.one (.v (.int .u64 a2))]++(und 7++([.one (.v (.int .i64 p5)),.one (.v (.int .i64 p6)),.one (.v (.int .u64 p7)),.one (.v (.int .u64 p8))]++(und 60)))) : List PV),([] : Boxes)⟩ : ASt)) (fun (s : Int×Int×Int×Int)=>match s with | (p5,p6,p7,p8)=>Lcodec_Size_k1 a2 p5 p6 p7 p8) ?_ ?_
  ·skip
   rintro ⟨p5,p6,p7,p8⟩ hk20
   change Lcodec_Size_k1 a2 p5 p6 p7 p8 = _ at hk20
   simp only [pq,reduceCtorEq];simp only [und,List.replicate,List.cons_append,List.nil_append];unfold Lcodec_Size_k1 at hk20;refine ee_seq_block ?_;refine ee_seq_regJ rfl (kq:=⟨[2,10,11,12,13],[],[]⟩) rfl (by simp [joinSt,eq_true c13]; rfl) (by simp [eq_true c13]; rfl) ?_;by_cases c21 : p6 = 0
   ·skip
    rw [if_neg (not_not_intro c21)] at hk20;refine ee_condF (by simp [bV,eq_true c13,eq_true c21]) ?_;refine ee_seq_reg rfl (by simp [eq_true c13,eq_true c21]; rfl) ?_;by_cases c22 : p7 < p8
    ·skip
     rw [if_pos c22] at hk20;refine ee_condT (by simp [bV,eq_true c13,eq_true c21,c22]) ?_;refine ee_seq_reg rfl (by simp [eq_true c13,eq_true c21,c22]; rfl) ?_;refine ee_ret ?_;obtain rfl:=Option.some.inj hk20;simp [FinQ,eq_true c13,eq_true c21,c22]
    ·skip
     rw [if_neg c22] at hk20;refine ee_condF (by simp [bV,eq_true c13,eq_true c21,c22]) ?_;refine ee_seq_reg rfl (by simp [eq_true c13,eq_true c21,c22]; rfl) ?_;by_cases c23 : a2 < p7
     ·skip
      rw [if_pos c23] at hk20;refine ee_condT (by simp [bV,eq_true c13,eq_true c21,c22,c23]) ?_;refine ee_seq_reg rfl (by simp [eq_true c13,eq_true c21,c22,c23]; rfl) ?_;refine ee_ret ?_;obtain rfl:=Option.some.inj hk20;simp [FinQ,eq_true c13,eq_true c21,c22,c23]
     ·skip
      rw [if_neg c23] at hk20;refine ee_condF (by simp [bV,eq_true c13,eq_true c21,c22,c23]) ?_;refine ee_skip ?_;simp only [pq,reduceCtorEq];refine ee_seq_reg rfl (by simp [eq_true c13,eq_true c21,c22,c23]; rfl) ?_;refine ee_ret ?_;obtain rfl:=Option.some.inj hk20;simp [FinQ,eq_true c13,eq_true c21,c22,c23]
   ·skip
    rw [if_pos c21] at hk20;refine ee_condT (by simp [bV,eq_true c13,c21]) ?_;refine ee_seq_reg rfl (by simp [eq_true c13,c21]; rfl) ?_;refine ee_ret ?_;obtain rfl:=Option.some.inj hk20;simp [FinQ,eq_true c13,c21]
  ·skip
   intro J20;simp only [pq,reduceCtorEq] at J20;by_cases c24 : y12.1 = 253
   ·skip
    rw [if_pos c24] at hr;refine ee_condT (by simp [bV,eq_true c13,eq_true c24]) ?_;refine ee_seq_reg rfl (by simp [eq_true c13,eq_true c24]; rfl) ?_;obtain ⟨y25,hy25,hr⟩:=bs hr;have ehy25:=G101_eq hy25;simp only [K101,nf,nfs] at ehy25;refine ee_seq_reg rfl (by simp [hO,hT101,ehy25,eq_true c13,eq_true c24]; rfl) ?_;refine ee_reg rfl (by simp [eq_true c13,eq_true c24]; rfl) ?_;simp only [pq,reduceCtorEq];exact ee_join (key:=1000017) (kq:=⟨[2,10,11,12,13],[],[]⟩) rfl rfl rfl (by simp [und,List.replicate,eq_true c13,eq_true c24]) (J20 (y25.2.1,y25.2.2,IntKind.u64.wrap (y25.1),253) hr)
   ·skip
    rw [if_neg c24] at hr;refine ee_condF (by simp [bV,eq_true c13,c24]) ?_;refine ee_seq_reg rfl (by simp [eq_true c13,c24]; rfl) ?_;by_cases c26 : y12.1 = 254
    ·skip
     rw [if_pos c26] at hr;refine ee_condT (by simp [bV,eq_true c13,c24,eq_true c26]) ?_;refine ee_seq_reg rfl (by simp [eq_true c13,c24,eq_true c26]; rfl) ?_;obtain ⟨y27,hy27,hr⟩:=bs hr;have ehy27:=G102_eq hy27;simp only [K102,nf,nfs] at ehy27;refine ee_seq_reg rfl (by simp [hO,hT102,ehy27,eq_true c13,c24,eq_true c26]; rfl) ?_;refine ee_reg rfl (by simp [eq_true c13,c24,eq_true c26]; rfl) ?_;simp only [pq,reduceCtorEq];exact ee_join (key:=1000017) (kq:=⟨[2,10,11,12,13],[],[]⟩) rfl rfl rfl (by simp [und,List.replicate,eq_true c13,c24,eq_true c26]) (J20 (y27.2.1,y27.2.2,IntKind.u64.wrap (y27.1),65536) hr)
    ·skip
     rw [if_neg c26] at hr;refine ee_condF (by simp [bV,eq_true c13,c24,c26]) ?_;refine ee_seq_reg rfl (by simp [eq_true c13,c24,c26]; rfl) ?_;by_cases c28 : y12.1 = 255
     ·skip
      rw [if_pos c28] at hr;refine ee_condT (by simp [bV,eq_true c13,c24,c26,eq_true c28]) ?_;obtain ⟨y29,hy29,hr⟩:=bs hr;have ehy29:=G103_eq hy29;simp only [K103,nf,nfs] at ehy29;refine ee_seq_reg rfl (by simp [hO,hT103,ehy29,eq_true c13,c24,c26,eq_true c28]; rfl) ?_;refine ee_reg rfl (by simp [eq_true c13,c24,c26,eq_true c28]; rfl) ?_;simp only [pq,reduceCtorEq];exact ee_join (key:=1000017) (kq:=⟨[2,10,11,12,13],[],[]⟩) rfl rfl rfl (by simp [und,List.replicate,eq_true c13,c24,c26,eq_true c28]) (J20 (y29.2.1,y29.2.2,y29.1,4294967296) hr)
     ·skip
      rw [if_neg c28] at hr;refine ee_condF (by simp [bV,eq_true c13,c24,c26,c28]) ?_;refine ee_skip ?_;simp only [pq,reduceCtorEq];exact ee_join (key:=1000017) (kq:=⟨[2,10,11,12,13],[],[]⟩) rfl rfl rfl (by simp [und,List.replicate,eq_true c13,c24,c26,c28]) (J20 (y12.2.1,y12.2.2,IntKind.u64.wrap (y12.1),0) hr)
 ·skip
  rw [if_pos c13] at hr;refine ee_seq_condT (by simp [bV,c13]) ?_;refine ee_assoc ?_;refine ee_seq_reg rfl (by simp [c13]; rfl) ?_;refine ee_seq_ret ?_;obtain rfl:=Option.some.inj hr;simp [FinQ,c13]
theorem w58 : Walk tt G [(57,G57),(97,K97.G)] (fun _=>[]) Tryz.f58 K58:=by
 refine .of [] false body58 Tryz.ntmps58 fun T hO hT ⟨a0,a1,a2⟩ x hr=>⟨by simp,?_⟩
 simp only [tabAll] at hT; simp only at hr ⊢; unfold c58;unfold Lcodec_Bytes at hr;refine go ?_;by_cases c4 : a2 < 0
 ·replace hr:=ifP hr
  refine go ?_;exact fin hr
 ·replace hr:=ifN hr
  refine go ?_;obtain ⟨y5,ehy5,hr⟩:=bG hr fun _=>G57_eq
  simp only [E57,R57,nf,nfs] at ehy5;refine go ?_;rcases eqT (y5.2.2 = 0) with c6 | c6
  ·replace hr:=ifN hr
   refine go ?_;by_cases c7 : IntKind.u64.wrap (IntKind.i64.wrap ((a0.length : Int) - y5.2.1)) < y5.1
   ·have c7N:=nrm c7
    replace hr:=ifP hr
    refine go ?_;exact fin hr
   ·have c7N:=nrm c7
    replace hr:=ifN hr
    refine go ?_;obtain ⟨⟨_,_,_⟩,hr⟩:=bC hr;have sf9 : (y5.2.1).toNat≤(IntKind.i64.wrap (y5.2.1 + (IntKind.i64.wrap (y5.1)))).toNat:=by omega
    have sf10 : (IntKind.i64.wrap (y5.2.1 + (IntKind.i64.wrap (y5.1)))).toNat≤a0.length:=by omega
    have sf11 : 0≤IntKind.i64.wrap (y5.2.1 + (IntKind.i64.wrap (y5.1))):=by omega
    obtain ⟨_,ehy12,hr⟩:=bN hr G97_eq;refine go ?_;exact fin hr
  ·replace hr:=ifP hr
   refine go ?_;exact fin hr
theorem w59 : Walk tt G [] (fun _=>[]) Tryz.f59 K59:=by
 refine .of [] false body59 Tryz.ntmps59 fun T hO hT ⟨a0,a1⟩ x hr=>⟨by simp,?_⟩
 simp only [tabAll] at hT; simp only at hr ⊢; unfold c59;unfold Lcodec_End at hr;refine go ?_;by_cases c1 : a1 < 0
 ·refine go ?_
  replace hr:=ifP hr
  refine go ?_;exact fin hr
 ·refine go ?_
  by_cases c2 : (a0.length : Int) < a1
  ·have c2N:=nrm c2
   replace hr:=ifP hr
   refine go ?_;exact fin hr
  ·have c2N:=nrm c2
   replace hr:=ifN hr
   refine go ?_;by_cases c3 : a1 < (a0.length : Int)
   ·have c3N:=nrm c3
    replace hr:=ifP hr
    refine go ?_;exact fin hr
   ·have c3N:=nrm c3
    replace hr:=ifN hr
    refine go ?_;exact fin hr
theorem w27 : Walk tt G [(57,G57),(58,K58.G),(59,K59.G)] (fun _=>[]) Tryz.f27 K27:=by
 refine .of [] false body27 Tryz.ntmps27 fun T hO hT a0 x hr=>⟨by simp,?_⟩
 simp only [tabAll] at hT; simp only at hr ⊢; unfold c27;unfold Lfilter_Decode at hr;refine go ?_;obtain ⟨y4,ehy4,hr⟩:=bG hr fun _=>G57_eq
 simp only [E57,R57,nf,nfs] at ehy4;refine go ?_;rcases eqT (y4.2.2 = 0) with c5 | c5
 ·replace hr:=ifN hr
  refine go ?_;obtain ⟨y6,ehy6,hr⟩:=bN hr G58_eq;refine go ?_;rcases eqT (y6.2.2 = 0) with c7 | c7
  ·replace hr:=ifN hr
   refine go ?_;obtain ⟨y8,ehy8,hr⟩:=bN hr G59_eq;refine go ?_;rcases eqT (y8 = 0) with c9 | c9
   ·replace hr:=ifN hr
    refine go ?_;exact fin hr
   ·replace hr:=ifP hr
    refine go ?_;exact fin hr
  ·replace hr:=ifP hr
   refine go ?_;exact fin hr
 ·replace hr:=ifP hr
  refine go ?_;exact fin hr
theorem w82 : Walk tt G [] (fun _=>[]) Tryz.f82 K82:=by
 refine .of [] true body82 Tryz.ntmps82 fun T hO hT ⟨a0,a1⟩ x hr=>⟨by simp,?_⟩
 simp only [tabAll] at hT; simp only at hr ⊢; unfold c82;unfold Lref01_joined at hr;refine go ?_;obtain ⟨⟨_,_⟩,hr⟩:=bC hr;have mf5 : 0≤(IntKind.i64.wrap ((a0.length : Int) + (a1.length : Int))).toNat:=by omega
 have mf6 : (IntKind.i64.wrap ((a0.length : Int) + (a1.length : Int))).toNat≤140737488355328:=by omega
 have mf7 : (IntKind.i64.wrap ((a0.length : Int) + (a1.length : Int))).toNat≤9223372036854775807:=by omega
 have mf8 : 0≤IntKind.i64.wrap ((a0.length : Int) + (a1.length : Int)):=by omega
 refine go ?_;obtain ⟨_,hr⟩:=bC hr;have n1_u9_0 : a0.length≤140737488355328:=by omega
 have n2_u9_0 : a0.length≤9223372036854775807:=by omega
 obtain ⟨_,hr⟩:=bC hr;have n1_u10_0 : a0.length + a1.length≤140737488355328:=by omega
 have n2_u10_0 : a0.length + a1.length≤9223372036854775807:=by omega
 refine go ?_;exact fin hr
theorem w96 : Walk tt G [] (fun _=>[]) Tryz.f96 K96:=by
 refine .of [(3,⟨[0,5,10,11],[8],[]⟩)] true body96 Tryz.ntmps96 fun T hO hT ⟨a0,a1⟩ x hr=>⟨by simp,?_⟩
 simp only [tabAll] at hT; simp only at hr ⊢; unfold c96;unfold Lref01_little at hr;refine go ?_;obtain ⟨⟨_,_⟩,hr⟩:=bC hr;have mf15 : (a1).toNat≤140737488355328:=by omega
 have mf16 : (a1).toNat≤9223372036854775807:=by omega
 have mf17 : 0≤a1:=by omega
 refine go ?_;refine lp 3 (fun (⟨p8,p9⟩ : Int×(List Int))=>⟨([.one (.v (.int .u64 a0))]++(und 4++([.one (.ms 8 0 0 (p9.length) 1)]++(und 4++([.one (.v (.int .i64 ((List.replicate ((a1).toNat) 0).length : Int))),.one (.v (.int .i64 p8))]++(und 12))))) : List PV),([(8,⟨0,1,intsR .u8 p9,false,true⟩)] : Boxes)⟩) hr ?_;rintro ⟨p8,p9⟩ x23r hr23
 simp only [Lref01_little_s1] at hr23;unfold b96_1;refine nst ?_;refine go ?_;by_cases c24 : p8 < ((List.replicate ((a1).toNat) 0).length : Int)
 ·have c24N:=nrm c24
  replace hr23:=ifP hr23
  refine go ?_;obtain ⟨_,hr23⟩:=bC hr23;obtain ⟨_,⟨_,_,_⟩,hr23⟩:=bA hr23;refine go ?_;exact bk hr23
 ·have c24N:=nrm c24
  replace hr23:=ifN hr23
  refine go ?_;obtain ⟨r27,q27,rfl⟩:=ms hr23;refine go ?_;rintro rfl
  refine go ?_;unfold Lref01_little_k1 at q27;refine go ?_;exact fin q27
theorem w61 : Walk tt G [(82,K82.G),(96,K96.G)] (fun _=>[]) Tryz.f61 K61:=by
 refine .of [] true body61 Tryz.ntmps61 fun T hO hT ⟨a0,a1⟩ x hr=>⟨by simp,?_⟩
 simp only [tabAll] at hT; simp only at hr ⊢; unfold c61;unfold Lref01_AppendSize at hr;refine go ?_;by_cases c12 : a1 < 253
 ·replace hr:=ifP hr
  refine go ?_;obtain ⟨_,ehy13,hr⟩:=bN hr G96_eq;obtain ⟨_,ehy14,hr⟩:=bN hr G82_eq;refine go ?_;exact fin hr
 ·replace hr:=ifN hr
  refine go ?_;by_cases c15 : a1 < 65536
  ·replace hr:=ifP hr
   refine go ?_;obtain ⟨_,ehy16,hr⟩:=bN hr G96_eq;obtain ⟨_,ehy17,hr⟩:=bN hr G82_eq;obtain ⟨_,ehy18,hr⟩:=bN hr G82_eq;refine go ?_;exact fin hr
  ·replace hr:=ifN hr
   refine go ?_;by_cases c19 : a1 < 4294967296
   ·replace hr:=ifP hr
    refine go ?_;obtain ⟨_,ehy20,hr⟩:=bN hr G96_eq;obtain ⟨_,ehy21,hr⟩:=bN hr G82_eq;obtain ⟨_,ehy22,hr⟩:=bN hr G82_eq;refine go ?_;exact fin hr
   ·replace hr:=ifN hr
    refine go ?_;obtain ⟨_,ehy23,hr⟩:=bN hr G96_eq;obtain ⟨_,ehy24,hr⟩:=bN hr G82_eq;obtain ⟨_,ehy25,hr⟩:=bN hr G82_eq;refine go ?_;exact fin hr
theorem w60 : Walk tt G [(61,K61.G),(82,K82.G)] (fun _=>[]) Tryz.f60 K60:=by
 refine .of [] true body60 Tryz.ntmps60 fun T hO hT ⟨a0,a1⟩ x hr=>⟨by simp,?_⟩
 simp only [tabAll] at hT; simp only at hr ⊢; unfold c60;unfold Lref01_AppendBytes at hr;refine go ?_;obtain ⟨_,ehy3,hr⟩:=bN hr G61_eq;obtain ⟨_,ehy4,hr⟩:=bN hr G82_eq;refine go ?_;exact fin hr
end Go.Proofs.YthpkpciceodioaaGreatDoor
