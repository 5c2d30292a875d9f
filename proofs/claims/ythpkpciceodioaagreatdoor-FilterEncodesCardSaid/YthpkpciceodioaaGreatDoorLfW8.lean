import Derived.Test.YthpkpciceodioaaGreatDoorLfK
import Derived.Test.YthpkpciceodioaaGreatDoorCode
import Derived.Test.YthpkpciceodioaaGreatDoorBl
namespace Go.Proofs.YthpkpciceodioaaGreatDoor
open Go.RowKit
open Go.Av
open Go.Lc
set_option maxRecDepth 100000
set_option linter.unusedSimpArgs false
set_option linter.unusedVariables false
set_option maxHeartbeats 4000000
def kp8 : Keep:=fun i=>⟨[],[],[]⟩
theorem w8 {T : Tab} (hO : T.own = fun _=>[]) (hT9 : T 9 = some K9.G) (hT16 : T 16 = some K16.G) (hT25 : T 25 = some K25.G) (hT26 : T 26 = some K26.G) (hT27 : T 27 = some K27.G) (hT28 : T 28 = some K28.G) (hT29 : T 29 = some K29.G) (hT30 : T 30 = some K30.G) (hT31 : T 31 = some K31.G) (hT32 : T 32 = some K32.G) (hT33 : T 33 = some K33.G) (a0 : Tapi_Filter) (a1 : (List Int)) (a2 : (Arr 32)) (a3 : (Arr 32)) (x : Bool) (hr : Llaw20_FilterEncodes_c a0 a1 a2 a3 = some x) : ∃ kp fl n,execFn tt T G kp fl n Tryz.f8 (E8 (a0,a1,a2,a3)) = some (R8 (a0,a1,a2,a3) x):=by
 simp only [E8,R8];refine fnE (kp:=kp8) (w:=false) body8 (by simp) ?_;unfold c8;rw [Tryz.ntmps8];unfold Llaw20_FilterEncodes_c at hr;refine ee_seq_reg rfl (by simp []; rfl) ?_;refine ee_assoc ?_;obtain ⟨y16,hy16,hr⟩:=bs hr;have ehy16:=G9_eq hy16;simp only [K9,nf,nfs] at ehy16;refine ee_seq_reg rfl (by simp [hO,hT9,ehy16]; rfl) ?_;by_cases c17 : y16 = true
 ·skip
  rw [if_neg (not_not_intro c17)] at hr;refine ee_seq_condF (by simp [bV,c17]) ?_;refine ee_seq_skip ?_;refine ee_assoc ?_;by_cases c18 : 1000 < (a0.2.length : Int)
  ·skip
   have c18N:=c18;try simp at c18N
   first | have c18M : (_ = _) = True:=eq_true c18N | have c18M:=c18N
   refine ee_seq_reg rfl (by simp [c17,c18,c18M] <;> rfl) ?_;rw [if_pos] at hr;rotate_left
   ·simp [c17,c18,c18M]
   refine ee_seq_condT (by simp [bV,c17,c18,c18M]) ?_;refine ee_assoc ?_;refine ee_seq_reg rfl (by simp [c17,c18,c18M] <;> rfl) ?_;refine ee_seq_ret ?_;obtain rfl:=Option.some.inj hr;simp [FinQ,c17,c18,c18M,c18N]
  ·skip
   have c18N:=c18;try simp at c18N
   first | have c18M : (_ = _) = True:=eq_true c18N | have c18M:=c18N
   refine ee_seq_reg rfl (by simp [c17,c18,c18M] <;> rfl) ?_;by_cases c19 : 1000 < (a1.length : Int)
   ·skip
    have c19N:=c19;try simp at c19N
    first | have c19M : (_ = _) = True:=eq_true c19N | have c19M:=c19N
    rw [if_pos] at hr;rotate_left
    ·simp [c17,c18,c18M,c19,c19M]
    refine ee_seq_condT (by simp [bV,c17,c18,c18M,c19,c19M]) ?_;refine ee_assoc ?_;refine ee_seq_reg rfl (by simp [c17,c18,c18M,c19,c19M] <;> rfl) ?_;refine ee_seq_ret ?_;obtain rfl:=Option.some.inj hr;simp [FinQ,c17,c18,c18M,c19,c19M,c18N,c19N]
   ·skip
    have c19N:=c19;try simp at c19N
    first | have c19M : (_ = _) = True:=eq_true c19N | have c19M:=c19N
    rw [if_neg] at hr;rotate_left
    ·simp [c17,c18,c18M,c19,c19M]
    refine ee_seq_condF (by simp [bV,c17,c18,c18M,c19,c19M]) ?_;refine ee_seq_skip ?_;obtain ⟨y20,hy20,hr⟩:=bs hr;have ehy20:=G26_eq hy20;simp only [K26,nf,nfs] at ehy20;refine ee_seq_reg rfl (by simp [hO,hT26,ehy20,c17,c18,c18M,c19,c19M] <;> rfl) ?_;obtain ⟨y21,hy21,hr⟩:=bs hr;have ehy21:=G28_eq hy21;simp only [K28,nf,nfs] at ehy21;refine ee_seq_reg rfl (by simp [hO,hT28,ehy21,c17,c18,c18M,c19,c19M] <;> rfl) ?_;obtain ⟨y22,hy22,hr⟩:=bs hr;have ehy22:=G27_eq hy22;simp only [K27,nf,nfs] at ehy22;refine ee_seq_reg rfl (by simp [hO,hT27,ehy22,c17,c18,c18M,c19,c19M] <;> rfl) ?_;obtain ⟨y23,hy23,hr⟩:=bs hr;have ehy23:=G29_eq hy23;simp only [K29,nf,nfs] at ehy23;refine ee_seq_reg rfl (by simp [hO,hT29,ehy23,c17,c18,c18M,c19,c19M] <;> rfl) ?_;by_cases c24 : y20.2 = y21.2
    ·skip
     rw [if_pos] at hr;rotate_left
     ·simp [c17,c18,c18M,c19,c19M,eq_true c24]
     obtain ⟨z25,hz25,hr⟩:=bs hr;obtain ⟨y26,hy26,hz25⟩:=bs hz25;have ehy26:=G25_eq hy26;simp only [K25,nf,nfs] at ehy26;obtain rfl:=Option.some.inj hz25;by_cases c27 : y26 = true
     ·skip
      by_cases c28 : y22.2 = y23.2
      ·skip
       rw [if_pos] at hr;rotate_left
       ·simp [c17,c18,c18M,c19,c19M,eq_true c24,c27,eq_true c28]
       obtain ⟨z29,hz29,hr⟩:=bs hr;obtain ⟨y30,hy30,hz29⟩:=bs hz29;have ehy30:=G16_eq hy30;simp only [K16,nf,nfs] at ehy30;obtain rfl:=Option.some.inj hz29;by_cases c31 : y30 = true
       ·skip
        rw [if_pos] at hr;rotate_left
        ·simp [c17,c18,c18M,c19,c19M,eq_true c24,c27,eq_true c28,c31]
        obtain ⟨z32,hz32,hr⟩:=bs hr;obtain ⟨y33,hy33,hz32⟩:=bs hz32;have ehy33:=G30_eq hy33;simp only [K30,nf,nfs] at ehy33;obtain ⟨y34,hy34,hz32⟩:=bs hz32;have ehy34:=G31_eq hy34;simp only [K31,nf,nfs] at ehy34;obtain rfl:=Option.some.inj hz32;by_cases c35 : y33 = y34
        ·skip
         rw [if_pos] at hr;rotate_left
         ·simp [c17,c18,c18M,c19,c19M,eq_true c24,c27,eq_true c28,c31,eq_true c35]
         obtain ⟨z36,hz36,hr⟩:=bs hr;obtain ⟨y37,hy37,hz36⟩:=bs hz36;have ehy37:=G32_eq hy37;simp only [K32,nf,nfs] at ehy37;obtain ⟨y38,hy38,hz36⟩:=bs hz36;have ehy38:=G33_eq hy38;simp only [K33,nf,nfs] at ehy38;obtain rfl:=Option.some.inj hz36;refine ee_seq_draw rfl (by simp [hO,hT25,ehy26,hT16,ehy30,hT30,ehy33,hT31,ehy34,hT32,ehy37,hT33,ehy38,c17,c18,c18M,c19,c19M,eq_true c24,c27,eq_true c28,c31,eq_true c35]; first | exact ⟨rfl,rfl⟩ | rfl) (by kernel_rfl) ?_;refine ee_ret ?_;obtain rfl:=Option.some.inj hr;simp [FinQ,hO,hT25,ehy26,hT16,ehy30,hT30,ehy33,hT31,ehy34,hT32,ehy37,hT33,ehy38,c17,c18,c18M,c19,c19M,eq_true c24,c27,eq_true c28,c31,eq_true c35,c18N,c19N]
        ·skip
         rw [if_neg] at hr;rotate_left
         ·simp [c17,c18,c18M,c19,c19M,eq_true c24,c27,eq_true c28,c31,c35]
         obtain ⟨z39,hz39,hr⟩:=bs hr;obtain rfl:=Option.some.inj hz39;refine ee_seq_draw rfl (by simp [hO,hT25,ehy26,hT16,ehy30,hT30,ehy33,hT31,ehy34,c17,c18,c18M,c19,c19M,eq_true c24,c27,eq_true c28,c31,c35]; first | exact ⟨rfl,rfl⟩ | rfl) (by kernel_rfl) ?_;refine ee_ret ?_;obtain rfl:=Option.some.inj hr;simp [FinQ,hO,hT25,ehy26,hT16,ehy30,hT30,ehy33,hT31,ehy34,c17,c18,c18M,c19,c19M,eq_true c24,c27,eq_true c28,c31,c35,c18N,c19N]
       ·skip
        rw [if_neg] at hr;rotate_left
        ·simp [c17,c18,c18M,c19,c19M,eq_true c24,c27,eq_true c28,c31]
        obtain ⟨z40,hz40,hr⟩:=bs hr;obtain rfl:=Option.some.inj hz40;rw [if_neg] at hr;rotate_left
        ·simp [c17,c18,c18M,c19,c19M,eq_true c24,c27,eq_true c28,c31]
        obtain ⟨z41,hz41,hr⟩:=bs hr;obtain rfl:=Option.some.inj hz41;refine ee_seq_draw rfl (by simp [hO,hT25,ehy26,hT16,ehy30,c17,c18,c18M,c19,c19M,eq_true c24,c27,eq_true c28,c31]; first | exact ⟨rfl,rfl⟩ | rfl) (by kernel_rfl) ?_;refine ee_ret ?_;obtain rfl:=Option.some.inj hr;simp [FinQ,hO,hT25,ehy26,hT16,ehy30,c17,c18,c18M,c19,c19M,eq_true c24,c27,eq_true c28,c31,c18N,c19N]
      ·skip
       rw [if_neg] at hr;rotate_left
       ·simp [c17,c18,c18M,c19,c19M,eq_true c24,c27,c28]
       obtain ⟨z42,hz42,hr⟩:=bs hr;obtain rfl:=Option.some.inj hz42;rw [if_neg] at hr;rotate_left
       ·simp [c17,c18,c18M,c19,c19M,eq_true c24,c27,c28]
       obtain ⟨z43,hz43,hr⟩:=bs hr;obtain rfl:=Option.some.inj hz43;rw [if_neg] at hr;rotate_left
       ·simp [c17,c18,c18M,c19,c19M,eq_true c24,c27,c28]
       obtain ⟨z44,hz44,hr⟩:=bs hr;obtain rfl:=Option.some.inj hz44;refine ee_seq_draw rfl (by simp [hO,hT25,ehy26,c17,c18,c18M,c19,c19M,eq_true c24,c27,c28]; first | exact ⟨rfl,rfl⟩ | rfl) (by kernel_rfl) ?_;refine ee_ret ?_;obtain rfl:=Option.some.inj hr;simp [FinQ,hO,hT25,ehy26,c17,c18,c18M,c19,c19M,eq_true c24,c27,c28,c18N,c19N]
     ·skip
      rw [if_neg] at hr;rotate_left
      ·simp [c17,c18,c18M,c19,c19M,eq_true c24,c27]
      obtain ⟨z45,hz45,hr⟩:=bs hr;obtain rfl:=Option.some.inj hz45;rw [if_neg] at hr;rotate_left
      ·simp [c17,c18,c18M,c19,c19M,eq_true c24,c27]
      obtain ⟨z46,hz46,hr⟩:=bs hr;obtain rfl:=Option.some.inj hz46;rw [if_neg] at hr;rotate_left
      ·simp [c17,c18,c18M,c19,c19M,eq_true c24,c27]
      obtain ⟨z47,hz47,hr⟩:=bs hr;obtain rfl:=Option.some.inj hz47;refine ee_seq_draw rfl (by simp [hO,hT25,ehy26,c17,c18,c18M,c19,c19M,eq_true c24,c27]; first | exact ⟨rfl,rfl⟩ | rfl) (by kernel_rfl) ?_;refine ee_ret ?_;obtain rfl:=Option.some.inj hr;simp [FinQ,hO,hT25,ehy26,c17,c18,c18M,c19,c19M,eq_true c24,c27,c18N,c19N]
    ·skip
     rw [if_neg] at hr;rotate_left
     ·simp [c17,c18,c18M,c19,c19M,c24]
     obtain ⟨z48,hz48,hr⟩:=bs hr;obtain rfl:=Option.some.inj hz48;rw [if_neg] at hr;rotate_left
     ·simp [c17,c18,c18M,c19,c19M,c24]
     obtain ⟨z49,hz49,hr⟩:=bs hr;obtain rfl:=Option.some.inj hz49;rw [if_neg] at hr;rotate_left
     ·simp [c17,c18,c18M,c19,c19M,c24]
     obtain ⟨z50,hz50,hr⟩:=bs hr;obtain rfl:=Option.some.inj hz50;rw [if_neg] at hr;rotate_left
     ·simp [c17,c18,c18M,c19,c19M,c24]
     obtain ⟨z51,hz51,hr⟩:=bs hr;obtain rfl:=Option.some.inj hz51;refine ee_seq_draw rfl (by simp [c17,c18,c18M,c19,c19M,c24]; first | exact ⟨rfl,rfl⟩ | rfl) (by kernel_rfl) ?_;refine ee_ret ?_;obtain rfl:=Option.some.inj hr;simp [FinQ,c17,c18,c18M,c19,c19M,c24,c18N,c19N]
 ·skip
  rw [if_pos c17] at hr;refine ee_seq_condT (by simp [bV,c17]) ?_;refine ee_assoc ?_;refine ee_seq_reg rfl (by simp [c17]; rfl) ?_;refine ee_seq_ret ?_;obtain rfl:=Option.some.inj hr;simp [FinQ,c17]
theorem w53 : Walk tt G [(82,K82.G),(96,K96.G)] (fun _=>[]) Tryz.f53 K53:=by
 refine .of [] true body53 Tryz.ntmps53 fun T hO hT ⟨a0,a1⟩ x hr=>⟨by simp,?_⟩
 simp only [tabAll] at hT; simp only at hr ⊢; unfold c53;unfold Lref01_AppendU32 at hr;refine go ?_;obtain ⟨_,ehy3,hr⟩:=bN hr G96_eq;obtain ⟨_,ehy4,hr⟩:=bN hr G82_eq;refine go ?_;exact fin hr
theorem w54 : Walk tt G [(82,K82.G)] (fun _=>[]) Tryz.f54 K54:=by
 refine .of [] true body54 Tryz.ntmps54 fun T hO hT ⟨a0,a1⟩ x hr=>⟨by simp,?_⟩
 simp only [tabAll] at hT; simp only at hr ⊢; unfold c54;unfold Lref01_AppendHash at hr;refine go ?_;obtain ⟨_,ehy2,hr⟩:=bN hr G82_eq;refine go ?_;exact fin hr
theorem w52 : Walk tt G [(53,K53.G),(54,K54.G)] (fun _=>[]) Tryz.f52 K52:=by
 refine .of [(4,⟨[3,22,23,24],[22,900003],[(3,none,900003,0),(3,none,900003,1)]⟩)] true body52 Tryz.ntmps52 fun T hO hT a0 x hr=>⟨by simp,?_⟩
 simp only [tabAll] at hT; simp only at hr ⊢; unfold c52;unfold Lref11_EncodeHeader at hr;refine goR ?_;obtain ⟨_,ehy18,hr⟩:=bN hr G53_eq;refine goR ?_;obtain ⟨_,ehy19,hr⟩:=bN hr G54_eq;obtain ⟨_,ehy20,hr⟩:=bN hr G54_eq;refine goR ?_;refine lp 4 (fun (⟨p10,p11⟩ : Int×(List Int))=>⟨(und 3++([.one (.ms 900003 0 0 (p11.length) 1)]++(und 18++([.one (.ms 22 0 0 (3) 1),.one (.v (.int .i64 (3 : Int))),.one (.v (.int .i64 p10))]++(und 8)))) : List PV),([(22,⟨0,1,intsR .u32 [a0.2.2.2.1,a0.2.2.2.2.1,a0.2.2.2.2.2],false,true⟩),(900003,⟨0,1,intsR .u8 p11,false,true⟩)] : Boxes)⟩) hr ?_;rintro ⟨p10,p11⟩ x27r hr27
 simp only [Lref11_EncodeHeader_s1] at hr27;unfold b52_1;refine nst ?_;refine goR ?_;by_cases c28 : p10 < (3 : Int)
 ·replace hr27:=ifP hr27
  refine goR ?_;obtain ⟨j29,⟨_,_,_⟩,hr27⟩:=bA hr27;have j29d : j29≤2:=by omega
  obtain ⟨x30,hx30,hr27⟩:=bs hr27;have ghx30:=getE_of hx30;have mhx30 : (intsR .u32 ([a0.2.2.2.1,a0.2.2.2.2.1,a0.2.2.2.2.2]))[j29]? = some [.v (.int .u32 x30)]:=by rw [intsR_get,hx30]; rfl
  simp only [intsR_cons,intsR_nil] at mhx30;have mghx30:=getE_of mhx30;refine goR ?_;obtain ⟨_,ehy31,hr27⟩:=bN hr27 G53_eq;refine goR ?_;exact bk hr27
 ·replace hr27:=ifN hr27
  refine goR ?_;obtain ⟨r32,q32,rfl⟩:=ms hr27;refine goR ?_;rintro rfl
  refine goR ?_;unfold Lref11_EncodeHeader_k1 at q32;refine goR ?_;exact fin q32
theorem w22 : Walk tt G [(51,K51.G),(52,K52.G)] (fun _=>[]) Tryz.f22 K22:=by
 refine .of [] false body22 Tryz.ntmps22 fun T hO hT a0 x hr=>⟨by simp,?_⟩
 simp only [tabAll] at hT; simp only at hr ⊢; unfold c22;unfold Lref11_Hash at hr;refine go ?_;obtain ⟨_,ehy3,hr⟩:=bN hr G52_eq;obtain ⟨_,ehy4,hr⟩:=bN hr G51_eq;refine go ?_;exact fin hr
theorem w81 : Walk tt G [(97,K97.G)] (fun _=>[]) Tryz.f81 K81:=by
 refine .of [] true body81 Tryz.ntmps81 fun T hO hT ⟨a0,a1⟩ x hr=>⟨by simp,?_⟩
 simp only [tabAll] at hT; simp only at hr ⊢; unfold c81;unfold Lcodec_AppendHash at hr;refine go ?_;obtain ⟨_,ehy2,hr⟩:=bN hr G97_eq;refine go ?_;exact fin hr
end Go.Proofs.YthpkpciceodioaaGreatDoor
