import Derived.Test.YtjdoijdjeapekaaLfK
import Derived.Test.YtjdoijdjeapekaaCode
namespace Go.Proofs.Ytjdoijdjeapekaa
open Go.RowKit
open Go.Av
open Go.Lc
set_option maxRecDepth 100000
set_option linter.unusedSimpArgs false
set_option linter.unusedVariables false
set_option maxHeartbeats 4000000
variable {G : Glob}
theorem w14 : Walk tt G [] (fun _=>[]) Try.f14 K14:=by
 refine .of [] false body14 Try.ntmps14 fun T hO hT ⟨a0,a1⟩ x hr=>⟨by simp,?_⟩
 simp only [tabAll] at hT; simp only at hr ⊢; unfold c14;unfold Lbuild_Fee at hr;refine go ?_;by_cases c1 : a0 < 0
 ·refine go ?_
  replace hr:=ifP hr
  refine go ?_;exact fin hr
 ·by_cases c2 : 80000 < a0
  ·refine go ?_
   replace hr:=ifP hr
   refine go ?_;exact fin hr
  ·by_cases c3 : a1 < 0
   ·refine go ?_
    replace hr:=ifP hr
    refine go ?_;exact fin hr
   ·refine go ?_
    by_cases c4 : 1048576 < a1
    ·replace hr:=ifP hr
     refine go ?_;exact fin hr
    ·replace hr:=ifN hr
     refine go ?_;exact fin hr
theorem w16 : Walk tt G [] (fun _=>[]) Try.f16 K16:=by
 refine .of [] false body16 Try.ntmps16 fun T hO hT a0 x hr=>⟨by simp,?_⟩
 simp only [tabAll] at hT; simp only at hr ⊢; unfold c16;unfold Lbuild_InputWeight at hr;refine go ?_;exact fin hr
theorem w4 : Walk tt G [(14,K14.G),(16,K16.G)] (fun _=>[]) Try.f4 K4:=by
 refine .of [] false body4 Try.ntmps4 fun T hO hT _ x hr=>⟨by simp,?_⟩
 simp only [tabAll] at hT; simp only at hr ⊢; unfold c4;unfold Llaw34_sane at hr;refine go ?_;obtain ⟨y6,ehy6,hr⟩:=bN hr G14_eq;rcases eqT (y6 = 1001) with c7 | c7
 ·replace hr:=ifPb hr
  obtain ⟨_,hz8,hr⟩:=bs hr;obtain ⟨y9,ehy9,hz8⟩:=bN hz8 G14_eq;obtain rfl:=Option.some.inj hz8;rcases eqT (y9 = 1) with c10 | c10
  ·replace hr:=ifPb hr
   obtain ⟨_,hz11,hr⟩:=bs hr;obtain ⟨_,ehy12,hz11⟩:=bN hz11 G16_eq;obtain rfl:=Option.some.inj hz11;refine go ?_;exact fin hr
  ·replace hr:=ifNb hr
   obtain ⟨_,hz13,hr⟩:=bs hr;obtain rfl:=Option.some.inj hz13;refine go ?_;exact fin hr
 ·replace hr:=ifNb hr
  obtain ⟨_,hz14,hr⟩:=bs hr;obtain rfl:=Option.some.inj hz14
  replace hr:=ifNb hr
  obtain ⟨_,hz15,hr⟩:=bs hr;obtain rfl:=Option.some.inj hz15;refine go ?_;exact fin hr
theorem w5 : Walk tt G [] (fun _=>[]) Try.f5 K5:=by
 refine .of [] true body5 Try.ntmps5 fun T hO hT a0 x hr=>⟨by simp,?_⟩
 simp only [tabAll] at hT; simp only at hr ⊢; unfold c5;unfold Lmill_New at hr;refine go ?_;exact fin hr
theorem w8 : Walk tt G [] (fun _=>[]) Try.f8 K8:=by
 refine .of [(1000004,⟨[5],[],[]⟩)] false body8 Try.ntmps8 fun T hO hT ⟨a0,a1⟩ x hr=>⟨by simp,?_⟩
 simp only [tabAll] at hT; simp only at hr ⊢; unfold c8;unfold Lmill_Mod at hr;refine go ?_;obtain ⟨_,hr⟩:=bC hr;refine go ?_;refine ee_seq_J hr (fun (s : Int)=>match s with | p2=>(⟨(und 5++([.one (.v (.int .i64 p2))]++(und 9)) : List PV),([] : Boxes)⟩ : ASt)) (fun (s : Int)=>match s with | p2=>Lmill_Mod_k1 p2) ?_ ?_
 ·rintro p2 hk5
  change Lmill_Mod_k1 p2 = _ at hk5
  refine nst ?_;unfold Lmill_Mod_k1 at hk5;refine ee_seq_regJ rfl (kq:=⟨[5],[],[]⟩) rfl (by simp [joinSt, *]; rfl) (by simp [*]; rfl) ?_;refine go ?_;exact fin hk5
 ·intro J5
  by_cases c6 : (a0).tmod a1 < 0
  ·replace hr:=ifP hr
   refine go ?_;exact jn 1000004 (J5 (IntKind.i64.wrap (((a0).tmod a1) + a1)) hr)
  ·replace hr:=ifN hr
   refine go ?_;exact jn 1000004 (J5 ((a0).tmod a1) hr)
theorem w31 : Walk tt G [] (fun _=>[]) Try.f31 K31:=by
 refine .of [] false body31 Try.ntmps31 fun T hO hT a0 x hr=>⟨by simp,?_⟩
 simp only [tabAll] at hT; simp only at hr ⊢; unfold c31;unfold Lmill_Deck_Left at hr;refine go ?_;exact fin hr
theorem w17 : Walk tt G [(8,K8.G),(31,K31.G)] (fun _=>[]) Try.f17 K17:=by
 refine .of [] false body17 Try.ntmps17 fun T hO hT ⟨a0,a1⟩ x hr=>⟨by simp,?_⟩
 simp only [tabAll] at hT; simp only at hr ⊢; unfold c17;unfold Lmill_Deck_Next at hr;refine go ?_;obtain ⟨y4,ehy4,hr⟩:=bN hr G31_eq;refine go ?_;by_cases c5 : y4.1 = true
 ·replace hr:=ifN hr
  refine go ?_;obtain ⟨_,⟨_,_,_⟩,hr⟩:=bI hr;obtain ⟨_,ehy7,hr⟩:=bN hr G8_eq;refine go ?_;exact fin hr
 ·replace hr:=ifP hr
  refine go ?_;exact fin hr
theorem w18 : Walk tt G [] (fun _=>[]) Try.f18 K18:=by
 refine .of [] true body18 Try.ntmps18 fun T hO hT a0 x hr=>⟨by simp,?_⟩
 simp only [tabAll] at hT; simp only at hr ⊢; unfold c18;unfold Lmade_Script at hr;refine goR ?_;exact fin hr
theorem w19 : Walk tt G [(17,K17.G)] (fun _=>[]) Try.f19 K19:=by
 refine .of [] false body19 Try.ntmps19 fun T hO hT ⟨a0,a1,a2⟩ x hr=>⟨by simp,?_⟩
 simp only [tabAll] at hT; simp only at hr ⊢; unfold c19;unfold Lmill_Deck_Range at hr;refine go ?_;obtain ⟨_,ehy2,hr⟩:=bN hr G17_eq;refine go ?_;exact fin hr
theorem w6 : Walk tt G [(17,K17.G),(18,K18.G),(19,K19.G)] (fun _=>[]) Try.f6 K6:=by
 refine .of [(3,⟨[0,5,6],[39,1000000],[(5,none,39,38)]⟩)] true body6 Try.ntmps6 fun T hO hT ⟨a0,a1⟩ x hr=>⟨by simp,?_⟩
 simp only [tabAll] at hT; simp only at hr ⊢; unfold c6;unfold Lmill_Spendables at hr;refine go ?_;obtain ⟨_,ehy35,hr⟩:=bN hr G17_eq;refine go ?_;refine lp 3 (fun (⟨p18,p19,p20⟩ : Int×Tlightclientmill_Deck×(List Tapi_Spendable))=>⟨([.ptr 1000000 0 0 0 2]++(und 4++([.one (.ms 39 0 0 (p20.length) 38),.one (.v (.int .i64 p18))]++(und 34))) : List PV),([(39,⟨0,38,List.map eapi_Spendable p20,false,true⟩),(1000000,⟨0,2,[[.slice .no (intsR .i64 p19.1),.v (.int .i64 p19.2)]],false,false⟩)] : Boxes)⟩) hr ?_;rintro ⟨p18,p19,p20⟩ x47r hr47
 simp only [Lmill_Spendables_s1] at hr47;unfold b6_1;refine nst ?_;refine go ?_;by_cases c48 : 0 < p18
 ·replace hr47:=ifP hr47
  refine go ?_;obtain ⟨_,ehy50,hr47⟩:=bN hr47 G17_eq;obtain ⟨_,ehy51,hr47⟩:=bN hr47 G17_eq;obtain ⟨_,ehy52,hr47⟩:=bN hr47 G17_eq;obtain ⟨_,ehy53,hr47⟩:=bN hr47 G18_eq;obtain ⟨_,ehy54,hr47⟩:=bN hr47 G19_eq;refine go ?_;obtain ⟨_,ehy55,hr47⟩:=bN hr47 G17_eq;obtain ⟨_,hr47⟩:=bC hr47;have n1_u56_0 : (p20.length + 1) * 96≤140737488355328:=by omega
  have n2_u56_0 : p20.length + 1≤9223372036854775807:=by omega
  refine go ?_;exact bk hr47
 ·replace hr47:=ifN hr47
  refine go ?_;obtain ⟨r57,q57,rfl⟩:=ms hr47;refine go ?_;rintro rfl
  refine go ?_;unfold Lmill_Spendables_k1 at q57;refine go ?_;exact fin q57
theorem w7 : Walk tt G [(17,K17.G),(18,K18.G),(19,K19.G)] (fun _=>[]) Try.f7 K7:=by
 refine .of [(3,⟨[0,5,6],[24,1000000],[(5,none,24,2)]⟩)] true body7 Try.ntmps7 fun T hO hT ⟨a0,a1⟩ x hr=>⟨by simp,?_⟩
 simp only [tabAll] at hT; simp only at hr ⊢; unfold c7;unfold Lmill_Outputs at hr;refine go ?_;obtain ⟨_,ehy23,hr⟩:=bN hr G19_eq;refine go ?_;refine lp 3 (fun (⟨p12,p13,p14⟩ : Int×Tlightclientmill_Deck×(List Tapi_Output))=>⟨([.ptr 1000000 0 0 0 2]++(und 4++([.one (.ms 24 0 0 (p14.length) 2),.one (.v (.int .i64 p12))]++(und 19))) : List PV),([(24,⟨0,2,List.map eapi_Output p14,false,true⟩),(1000000,⟨0,2,[[.slice .no (intsR .i64 p13.1),.v (.int .i64 p13.2)]],false,false⟩)] : Boxes)⟩) hr ?_;rintro ⟨p12,p13,p14⟩ x31r hr31
 simp only [Lmill_Outputs_s1] at hr31;unfold b7_1;refine nst ?_;refine go ?_;by_cases c32 : 0 < p12
 ·replace hr31:=ifP hr31
  refine go ?_;obtain ⟨_,ehy33,hr31⟩:=bN hr31 G17_eq;obtain ⟨_,ehy34,hr31⟩:=bN hr31 G17_eq;obtain ⟨_,ehy35,hr31⟩:=bN hr31 G18_eq;obtain ⟨_,hr31⟩:=bC hr31;have n1_u36_0 : (p14.length + 1) * 32≤140737488355328:=by omega
  have n2_u36_0 : p14.length + 1≤9223372036854775807:=by omega
  refine go ?_;exact bk hr31
 ·replace hr31:=ifN hr31
  refine go ?_;obtain ⟨r37,q37,rfl⟩:=ms hr31;refine go ?_;rintro rfl
  refine go ?_;unfold Lmill_Outputs_k1 at q37;refine go ?_;exact fin q37
theorem w9 : Walk tt G [(8,K8.G),(18,K18.G)] (fun _=>[]) Try.f9 K9:=by
 refine .of [] false body9 Try.ntmps9 fun T hO hT a0 x hr=>⟨by simp,?_⟩
 simp only [tabAll] at hT; simp only at hr ⊢; unfold c9;unfold Llaw34_change at hr;refine go ?_;obtain ⟨y4,ehy4,hr⟩:=bN hr G8_eq;refine go ?_;rcases eqT (y4 = 0) with c5 | c5
 ·replace hr:=ifP hr
  refine go ?_;exact fin hr
 ·replace hr:=ifN hr
  refine go ?_;obtain ⟨_,ehy6,hr⟩:=bN hr G8_eq;obtain ⟨_,ehy7,hr⟩:=bN hr G18_eq;refine go ?_;exact fin hr
theorem w55 : Walk tt G [] (fun _=>[]) Try.f55 K55:=by
 refine .of [] true body55 Try.ntmps55 fun T hO hT ⟨a0,a1⟩ x hr=>⟨by simp,?_⟩
 simp only [tabAll] at hT; simp only at hr ⊢; unfold c55;unfold Lcodec_extend at hr;refine go ?_;obtain ⟨⟨_,_⟩,hr⟩:=bC hr;have mf5 : 0≤(IntKind.i64.wrap ((a0.length : Int) + (a1.length : Int))).toNat:=by omega
 have mf6 : (IntKind.i64.wrap ((a0.length : Int) + (a1.length : Int))).toNat≤140737488355328:=by omega
 have mf7 : (IntKind.i64.wrap ((a0.length : Int) + (a1.length : Int))).toNat≤9223372036854775807:=by omega
 have mf8 : 0≤IntKind.i64.wrap ((a0.length : Int) + (a1.length : Int)):=by omega
 refine go ?_;obtain ⟨_,hr⟩:=bC hr;have n1_u9_0 : a0.length≤140737488355328:=by omega
 have n2_u9_0 : a0.length≤9223372036854775807:=by omega
 refine go ?_;obtain ⟨_,hr⟩:=bC hr;have n1_u10_0 : a0.length + a1.length≤140737488355328:=by omega
 have n2_u10_0 : a0.length + a1.length≤9223372036854775807:=by omega
 refine go ?_;exact fin hr
theorem w56 : Walk tt G [] (fun _=>[]) Try.f56 K56:=by
 refine .of [(3,⟨[0,5,9,10],[8],[]⟩)] true body56 Try.ntmps56 fun T hO hT ⟨a0,a1⟩ x hr=>⟨by simp,?_⟩
 simp only [tabAll] at hT; simp only at hr ⊢; unfold c56;unfold Lcodec_lowest at hr;refine go ?_;obtain ⟨⟨_,_⟩,hr⟩:=bC hr;have mf15 : (a1).toNat≤140737488355328:=by omega
 have mf16 : (a1).toNat≤9223372036854775807:=by omega
 have mf17 : 0≤a1:=by omega
 refine go ?_;refine lp 3 (fun (⟨p8,p9⟩ : Int×(List Int))=>⟨([.one (.v (.int .u64 a0))]++(und 4++([.one (.ms 8 0 0 (p9.length) 1)]++(und 3++([.one (.v (.int .i64 a1)),.one (.v (.int .i64 p8))]++(und 12))))) : List PV),([(8,⟨0,1,intsR .u8 p9,false,true⟩)] : Boxes)⟩) hr ?_;rintro ⟨p8,p9⟩ x23r hr23
 simp only [Lcodec_lowest_s1] at hr23;unfold b56_1;refine nst ?_;refine go ?_;by_cases c24 : p8 < a1
 ·replace hr23:=ifP hr23
  refine go ?_;obtain ⟨_,hr23⟩:=bC hr23;obtain ⟨_,⟨_,_,_⟩,hr23⟩:=bA hr23;refine go ?_;exact bk hr23
 ·replace hr23:=ifN hr23
  refine go ?_;obtain ⟨r27,q27,rfl⟩:=ms hr23;refine go ?_;rintro rfl
  refine go ?_;unfold Lcodec_lowest_k1 at q27;refine go ?_;exact fin q27
theorem w47 : Walk tt G [(55,K55.G),(56,K56.G)] (fun _=>[]) Try.f47 K47:=by
 refine .of [] true body47 Try.ntmps47 fun T hO hT ⟨a0,a1⟩ x hr=>⟨by simp,?_⟩
 simp only [tabAll] at hT; simp only at hr ⊢; unfold c47;unfold Lcodec_AppendU32 at hr;refine go ?_;obtain ⟨_,ehy3,hr⟩:=bN hr G56_eq;obtain ⟨_,ehy4,hr⟩:=bN hr G55_eq;refine go ?_;exact fin hr
theorem w50 : Walk tt G [(55,K55.G),(56,K56.G)] (fun _=>[]) Try.f50 K50:=by
 refine .of [] true body50 Try.ntmps50 fun T hO hT ⟨a0,a1⟩ x hr=>⟨by simp,?_⟩
 simp only [tabAll] at hT; simp only at hr ⊢; unfold c50;unfold Lcodec_AppendU64 at hr;refine go ?_;obtain ⟨_,ehy3,hr⟩:=bN hr G56_eq;obtain ⟨_,ehy4,hr⟩:=bN hr G55_eq;refine go ?_;exact fin hr
theorem w57 : Walk tt G [(55,K55.G),(56,K56.G)] (fun _=>[]) Try.f57 K57:=by
 refine .of [] true body57 Try.ntmps57 fun T hO hT ⟨a0,a1⟩ x hr=>⟨by simp,?_⟩
 simp only [tabAll] at hT; simp only at hr ⊢; unfold c57;unfold Lcodec_AppendU16 at hr;refine go ?_;obtain ⟨_,ehy3,hr⟩:=bN hr G56_eq;obtain ⟨_,ehy4,hr⟩:=bN hr G55_eq;refine go ?_;exact fin hr
theorem w48 : Walk tt G [(47,K47.G),(50,K50.G),(55,K55.G),(57,K57.G)] (fun _=>[]) Try.f48 K48:=by
 refine .of [] true body48 Try.ntmps48 fun T hO hT ⟨a0,a1⟩ x hr=>⟨by simp,?_⟩
 simp only [tabAll] at hT; simp only at hr ⊢; unfold c48;unfold Lcodec_AppendSize at hr;refine go ?_;by_cases c8 : a1 < 253
 ·replace hr:=ifP hr
  refine go ?_;obtain ⟨_,ehy9,hr⟩:=bN hr G55_eq;refine go ?_;exact fin hr
 ·replace hr:=ifN hr
  refine go ?_;by_cases c10 : a1 < 65536
  ·replace hr:=ifP hr
   refine go ?_;obtain ⟨_,ehy11,hr⟩:=bN hr G55_eq;obtain ⟨_,ehy12,hr⟩:=bN hr G57_eq;refine go ?_;exact fin hr
  ·replace hr:=ifN hr
   refine go ?_;by_cases c13 : a1 < 4294967296
   ·replace hr:=ifP hr
    refine go ?_;obtain ⟨_,ehy14,hr⟩:=bN hr G55_eq;obtain ⟨_,ehy15,hr⟩:=bN hr G47_eq;refine go ?_;exact fin hr
   ·replace hr:=ifN hr
    refine go ?_;obtain ⟨_,ehy16,hr⟩:=bN hr G55_eq;obtain ⟨_,ehy17,hr⟩:=bN hr G50_eq;refine go ?_;exact fin hr
theorem w58 : Walk tt G [(55,K55.G)] (fun _=>[]) Try.f58 K58:=by
 refine .of [] true body58 Try.ntmps58 fun T hO hT ⟨a0,a1⟩ x hr=>⟨by simp,?_⟩
 simp only [tabAll] at hT; simp only at hr ⊢; unfold c58;unfold Lcodec_AppendHash at hr;refine go ?_;obtain ⟨_,ehy2,hr⟩:=bN hr G55_eq;refine go ?_;exact fin hr
theorem w49 : Walk tt G [(47,K47.G),(58,K58.G)] (fun _=>[]) Try.f49 K49:=by
 refine .of [] true body49 Try.ntmps49 fun T hO hT a0 x hr=>⟨by simp,?_⟩
 simp only [tabAll] at hT; simp only at hr ⊢; unfold c49;unfold Ltx_Point at hr;refine go ?_;obtain ⟨_,ehy3,hr⟩:=bN hr G58_eq;obtain ⟨_,ehy4,hr⟩:=bN hr G47_eq;refine go ?_;exact fin hr
theorem w51 : Walk tt G [(48,K48.G),(55,K55.G)] (fun _=>[]) Try.f51 K51:=by
 refine .of [] true body51 Try.ntmps51 fun T hO hT ⟨a0,a1⟩ x hr=>⟨by simp,?_⟩
 simp only [tabAll] at hT; simp only at hr ⊢; unfold c51;unfold Lcodec_AppendBytes at hr;refine go ?_;obtain ⟨_,ehy3,hr⟩:=bN hr G48_eq;obtain ⟨_,ehy4,hr⟩:=bN hr G55_eq;refine go ?_;exact fin hr
end Go.Proofs.Ytjdoijdjeapekaa
