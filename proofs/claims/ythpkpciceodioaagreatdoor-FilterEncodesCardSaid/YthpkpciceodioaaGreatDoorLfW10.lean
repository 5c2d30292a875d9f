import Derived.Test.YthpkpciceodioaaGreatDoorLfK
import Derived.Test.YthpkpciceodioaaGreatDoorCode
import Derived.Test.YthpkpciceodioaaGreatDoorBl
namespace Go.Proofs.YthpkpciceodioaaGreatDoor
open Go.RowKit
open Go.Av
open Go.Lc
set_option maxRecDepth 100000
set_option linter.unusedSimpArgs false
set_option linter.unusedVariables false
set_option maxHeartbeats 4000000
theorem w188 : Walk tt G [(143,K143.G),(192,K192.G),(222,K222.G),(225,K225.G),(226,K226.G)] (fun _=>[]) Tryz.f188 K188:=by
 refine .of [(1000010,⟨[2,6],[2,6],[]⟩)] false body188 Tryz.ntmps188 fun T hO hT a0 x hr=>⟨by simp,?_⟩
 simp only [tabAll] at hT; simp only at hr ⊢; unfold c188;unfold Lref12_Expand at hr;refine go ?_;obtain ⟨_,ehy14,hr⟩:=bN hr G222_eq;refine go ?_;rcases eqT (bits .and .u32 a0 8388608 = 0) with c15 | c15
 ·replace hr:=ifN hr
  refine go ?_;refine ee_seq_J hr (fun (s : (Arr 4))=>match s with | p7=>(⟨(und 2++([.ptr 2 0 0 0 4]++(und 3++([.ptr 6 0 0 0 4]++(und 41)))) : List PV),([(2,⟨0,4,[arC .u64 (zA 4)],false,false⟩),(6,⟨0,4,[arC .u64 p7],false,false⟩)] : Boxes)⟩ : ASt)) (fun (s : (Arr 4))=>match s with | p7=>Lref12_Expand_k1 p7) ?_ ?_
  ·rintro p7 hk26
   change Lref12_Expand_k1 p7 = _ at hk26
   refine nst ?_;unfold Lref12_Expand_k1 at hk26;refine go ?_;obtain ⟨y27,ehy27,hk26⟩:=bN hk26 G192_eq;refine ee_seq_regJ rfl (kq:=⟨[2,6],[2,6],[]⟩) rfl (by simp [joinSt, *]; rfl) (by simp [*]; rfl) ?_;by_cases c28 : y27 = true
   ·replace hk26:=ifP hk26
    refine go ?_;exact fin hk26
   ·replace hk26:=ifN hk26
    refine go ?_;exact fin hk26
  ·intro J26
   by_cases c29 : IntKind.i64.wrap ((a0).fdiv 16777216) < 3
   ·replace hr:=ifP hr
    refine go ?_;obtain ⟨y30,ehy30,hr⟩:=bN hr G143_eq;refine go ?_;exact jn 1000010 (J26 y30 hr)
   ·replace hr:=ifN hr
    refine go ?_;obtain ⟨y31,ehy31,hr⟩:=bN hr G192_eq;by_cases c32 : y31 = true
    ·replace hr:=ifNb hr
     obtain ⟨_,hz33,hr⟩:=bs hr;obtain rfl:=Option.some.inj hz33;refine go ?_
     replace hr:=ifN hr
     refine go ?_;obtain ⟨y34,ehy34,hr⟩:=bN hr G226_eq;refine go ?_;exact jn 1000010 (J26 y34 hr)
    ·replace hr:=ifPb hr
     obtain ⟨_,hz35,hr⟩:=bs hr;obtain ⟨y36,ehy36,hz35⟩:=bN hz35 G225_eq;obtain rfl:=Option.some.inj hz35;refine go ?_;by_cases c37 : 256 < IntKind.i64.wrap (y36 + (IntKind.i64.wrap (8 * (IntKind.i64.wrap ((IntKind.i64.wrap ((a0).fdiv 16777216)) - 3)))))
     ·replace hr:=ifP hr
      refine go ?_;exact fin hr
     ·replace hr:=ifN hr
      refine go ?_;obtain ⟨y38,ehy38,hr⟩:=bN hr G226_eq;refine go ?_;exact jn 1000010 (J26 y38 hr)
 ·replace hr:=ifP hr
  refine go ?_;exact fin hr
theorem w189 : Walk tt G [] (fun _=>[]) Tryz.f189 K189:=by
 refine .of [(2,⟨[2,3,5],[2,3],[]⟩)] false body189 Tryz.ntmps189 fun T hO hT ⟨a0,a1⟩ x hr=>⟨by simp,?_⟩
 simp only [tabAll] at hT; simp only at hr ⊢; unfold c189;unfold Lref02_Cmp at hr;refine go ?_;refine lp 2 (fun (p3 : Int)=>⟨(und 2++([.ptr 2 0 0 0 4,.ptr 3 0 0 0 4]++(und 1++([.one (.v (.int .i64 p3))]++(und 18)))) : List PV),([(2,⟨0,4,[arC .u64 a0],false,false⟩),(3,⟨0,4,[arC .u64 a1],false,false⟩)] : Boxes)⟩) hr ?_;rintro p3 x20r hr20
 simp only [Lref02_Cmp_s1] at hr20;unfold b189_1;refine nst ?_;refine go ?_;by_cases c21 : 0≤p3
 ·replace hr20:=ifP hr20
  refine go ?_;obtain ⟨j22,⟨_,_,_⟩,hr20⟩:=bA hr20;have j22d : j22≤3:=by omega
  have j22d : j22≤3:=by omega
  refine go ?_;by_cases c27 : a0.at j22 < a1.at j22
  ·replace hr20:=ifP hr20
   refine go ?_;exact fin hr20
  ·replace hr20:=ifN hr20
   refine go ?_;have j22d : j22≤3:=by omega
   have j22d : j22≤3:=by omega
   refine go ?_;by_cases c32 : a1.at j22 < a0.at j22
   ·replace hr20:=ifP hr20
    refine go ?_;exact fin hr20
   ·replace hr20:=ifN hr20
    refine go ?_;exact bk hr20
 ·replace hr20:=ifN hr20
  refine go ?_;obtain ⟨r33,q33,rfl⟩:=ms hr20;refine go ?_;rintro rfl
  refine go ?_;unfold Lref02_Cmp_k1 at q33;refine go ?_;exact fin q33
theorem w190 : Walk tt G [] (fun _=>[]) Tryz.f190 K190:=by
 refine .of [(3,⟨[1,2,3,6],[1,2,3],[]⟩)] false body190 Tryz.ntmps190 fun T hO hT a0 x hr=>⟨by simp,?_⟩
 simp only [tabAll] at hT; simp only at hr ⊢; unfold c190;unfold Lref02_FromBytes at hr;refine go ?_;refine lp 3 (fun (⟨p8,p9⟩ : Int×(Arr 4))=>⟨(und 1++([.ptr 1 0 0 0 32,.ptr 2 0 0 0 4,.ptr 3 0 0 0 4]++(und 2++([.one (.v (.int .i64 p8))]++(und 20)))) : List PV),([(1,⟨0,32,[arC .u8 a0],false,false⟩),(2,⟨0,4,[arC .u64 (zA 4)],false,false⟩),(3,⟨0,4,[arC .u64 p9],false,false⟩)] : Boxes)⟩) hr ?_;rintro ⟨p8,p9⟩ x27r hr27
 simp only [Lref02_FromBytes_s1] at hr27;unfold b190_1;refine nst ?_;refine go ?_;by_cases c28 : p8 < 32
 ·replace hr27:=ifP hr27
  refine go ?_;obtain ⟨j29,⟨_,_,_⟩,hr27⟩:=bA hr27;have j29d : j29≤3:=by omega
  obtain ⟨j32,⟨_,_,_⟩,hr27⟩:=bA hr27;have j32d : j32≤31:=by omega
  obtain ⟨_,hr27⟩:=bC hr27;have j29d : j29≤3:=by omega
  refine go ?_;exact bk hr27
 ·replace hr27:=ifN hr27
  refine go ?_;obtain ⟨r37,q37,rfl⟩:=ms hr27;refine go ?_;rintro rfl
  refine go ?_;unfold Lref02_FromBytes_k1 at q37;refine go ?_;exact fin q37
end Go.Proofs.YthpkpciceodioaaGreatDoor
