import Derived.Test.YthpkpciceodioaaGreatDoorLfK
import Derived.Test.YthpkpciceodioaaGreatDoorCode
import Derived.Test.YthpkpciceodioaaGreatDoorBl
namespace Go.Proofs.YthpkpciceodioaaGreatDoor
open Go.RowKit
open Go.Av
open Go.Lc
set_option maxRecDepth 100000
set_option linter.unusedSimpArgs false
set_option linter.unusedVariables false
set_option maxHeartbeats 4000000
theorem w67 : Walk tt G [(80,K80.G),(81,K81.G)] (fun _=>[]) Tryz.f67 K67:=by
 refine .of [] true body67 Tryz.ntmps67 fun T hO hT a0 x hr=>⟨by simp,?_⟩
 simp only [tabAll] at hT; simp only at hr ⊢; unfold c67;unfold Lblock_EncodeHeader at hr;refine go ?_;obtain ⟨_,ehy7,hr⟩:=bN hr G80_eq;refine go ?_;obtain ⟨_,ehy8,hr⟩:=bN hr G81_eq;refine go ?_;obtain ⟨_,ehy9,hr⟩:=bN hr G81_eq;refine go ?_;obtain ⟨_,ehy10,hr⟩:=bN hr G80_eq;refine go ?_;obtain ⟨_,ehy11,hr⟩:=bN hr G80_eq;refine go ?_;obtain ⟨_,ehy12,hr⟩:=bN hr G80_eq;refine go ?_;exact fin hr
theorem w37 : Walk tt G [(65,K65.G),(67,K67.G)] (fun _=>[]) Tryz.f37 K37:=by
 refine .of [] false body37 Tryz.ntmps37 fun T hO hT a0 x hr=>⟨by simp,?_⟩
 simp only [tabAll] at hT; simp only at hr ⊢; unfold c37;unfold Lblock_Hash at hr;refine go ?_;obtain ⟨_,ehy3,hr⟩:=bN hr G67_eq;obtain ⟨_,ehy4,hr⟩:=bN hr G65_eq;refine go ?_;exact fin hr
theorem cnil42 (c : Nat) (w : World) : Calls Tryz.prog 42 #[.slice none 0 c] w fun e w'=>e = .returned (.slice none 0 0)∧w' = w:=by
 have h1 : ∀ w,(binOp .eql 32 (.slice none 0 c) (.slice none 0 0)).run Tryz.prog w = .ok (.bool true) w:=fun w=>by
  have h : ∀ d : Nat,(Op.equalIn (d + 1) 32 (.slice none 0 c) (.slice none 0 0)).run Tryz.prog w = .ok true w:=fun d=>by
   simp [Op.equalIn,run_underlying Tryz.underlying32]
  have h' : (Op.equal 32 (.slice none 0 c) (.slice none 0 0)).run Tryz.prog w = .ok true w:=h 9999;simp [binOp,h']
 go_enter Tryz.func42,Tryz.ntmps42
 go_wp2
 go_ret
 exact ⟨rfl,rfl⟩
theorem csome42 (b : Addr) (c : Nat) (w : World) : Calls Tryz.prog 42 #[.slice (some b) 0 c] w fun e w'=>e = .returned (.slice (some ⟨w.heap.size,0,none⟩) 0 0)∧w' = w.alloc (.cells #[] 5):=by
 have h1 : ∀ w,(binOp .eql 32 (.slice (some b) 0 c) (.slice none 0 0)).run Tryz.prog w = .ok (.bool false) w:=fun w=>by
  have h : (Op.equal 32 (.slice (some b) 0 c) (.slice none 0 0)).run Tryz.prog w = .ok false w:=eqIn_slice 9999 Tryz.underlying32;simp [binOp,h]
 have h2 : ∀ w,(Instr.buildSlice 32 0 #[]).run Tryz.prog w = .ok (.slice (some ⟨w.heap.size,0,none⟩) 0 0) (w.alloc (.cells #[] 5)):=fun w=>by kernel_rfl
 have hi0 : (Tryz.prog.info? 5).isSome = true:=by kernel_rfl
 obtain ⟨i,hi⟩:=Option.isSome_iff_exists.1 hi0;have h3 : ∀ (w : World) (x : Option Addr) ty,(Builtin.append_ #[32,32] ty #[.slice x 0 0,.slice (some b) 0 c]).run Tryz.prog w = .ok (.slice x 0 0) w:=fun w x ty=>run_append_zero w 32 ty 5 i Tryz.underlying32 hi x (some b) 0 0 c (Nat.le_refl _)
 clear hi hi0
 go_enter Tryz.func42,Tryz.ntmps42
 go_wp2
 go_ret
 exact ⟨rfl,rfl⟩
def kp42 : Keep:=fun i=>⟨[],[],[]⟩
theorem w42 {T : Tab} (a0 : (List Int)) (hne : a0≠[]) (x : (List Int)) (hr : Lslices_Clone_bytes a0 = some x) : ∃ kp fl n,execFn tt T G kp fl n Tryz.f42 [.one (.slice .no (intsR .u8 a0))] = some (.one (.own 1 (intsR .u8 a0)),[]):=by
 refine fnE (kp:=kp42) (w:=true) body42 (by simp) ?_;unfold c42;rw [Tryz.ntmps42];unfold Lslices_Clone_bytes at hr;obtain ⟨_,u1,hr⟩:=bs hr;have u2:=chk_some u1;have n1 : a0.length≤140737488355328:=by omega
 have n2 : a0.length≤9223372036854775807:=by omega
 have ne : intsR .u8 a0≠[]:=fun h=>hne (by simpa [intsR] using h)
 refine ee_seq_reg rfl (by simp; rfl) ?_
 first
 | (refine ee_assoc ?_; refine ee_seq_reg rfl (by simp [hne,ne]; rfl) ?_)
 | refine ee_seq_reg rfl (by simp [hne,ne]; rfl) ?_
 refine ee_seq_condF (by simp [bV]) ?_;refine ee_seq_skip ?_;refine ee_seq_reg rfl (by simp [n1,n2]; rfl) ?_;refine ee_ret ?_;simp [FinQ]
theorem v42 : Impl Tryz.prog G 42 G42:=by
 refine clone_impl (e:=1) (t:=5) (N:=0) (rows:=fun l : (List Int)=>intsR .u8 l) Tryz.func42 (by kernel_rfl) (by kernel_rfl) G42 (fun ps r hF=>?_) rfl (fun l hl r hF=>?_) (fun x c w=>?_)
 ·obtain ⟨x,rfl,h⟩:=lift_inv hF
  obtain ⟨y,hy,rfl⟩:=Option.map_eq_some_iff.1 h;unfold Lslices_Clone_bytes at hy;obtain ⟨_,u1,hy⟩:=bs hy;obtain rfl:=Option.some.inj hy;exact ⟨x,rfl,rfl⟩
 ·refine impl_of (T:=Av.tab []) mixed htt (Av.tab_ok trivial) Tryz.func42 body42 (by kernel_rfl) fun ps r' ho hF'=>?_
  split at hF'
  ·rename_i hps
   subst hps;injection hF' with hF';subst hF';obtain ⟨x,hx,h⟩:=lift_inv hF;obtain rfl:=E42i l x hx;obtain ⟨y,hy,rfl⟩:=Option.map_eq_some_iff.1 h;have hy' := hy;unfold Lslices_Clone_bytes at hy';obtain ⟨_,u1,hy'⟩:=bs hy';obtain rfl:=Option.some.inj hy';exact w42 l hl _ hy
  ·cases hF'
 ·cases x with
  | none=>exact (cnil42 c w).mono fun e w' h=>⟨none,h.1,.inl h.2⟩
  | some b=>exact (csome42 b c w).mono fun e w' h=>⟨_,h.1,.inr h.2⟩
theorem v210 : Impl Tryz.prog G 210 G210:=by
 refine impl_int (k:=.u64) (k' := .i64) (g:=fun x=>(Lib.bitLen x.toNat : Int)) (ok:=fun x=>0≤x∧x≤18446744073709551615) Tryz.func210 (by kernel_rfl) (by kernel_rfl) G210 (fun ps r hF=>?_) (fun x w hx=>bl210 x w hx.1 hx.2);obtain ⟨x,rfl,h⟩:=lift_inv hF;obtain ⟨y,hy,rfl⟩:=Option.map_eq_some_iff.1 h;unfold Lmath_bits_Len64 at hy;obtain ⟨_,u1,hy⟩:=bs hy;obtain rfl:=Option.some.inj hy;exact ⟨x,chk_some u1,rfl,rfl⟩
theorem w191 : Walk tt G [] (fun _=>[]) Tryz.f191 K191:=by
 refine .of [] false body191 Tryz.ntmps191 fun T hO hT ⟨a0,a1⟩ x hr=>⟨by simp,?_⟩
 simp only [tabAll] at hT; simp only at hr ⊢; unfold c191;unfold Lref02_Bit at hr;refine go ?_;obtain ⟨j3,⟨_,_,_⟩,hr⟩:=bA hr;have j3d : j3≤3:=by omega
 obtain ⟨_,hr⟩:=bC hr;refine go ?_;exact fin hr
theorem w143 : Walk tt G [(191,K191.G)] (fun _=>[]) Tryz.f143 K143:=by
 refine .of [(7,⟨[1,2,4,5,6],[2,4,5],[]⟩),(1000008,⟨[1,2,4,5,6],[2,4,5],[]⟩)] false body143 Tryz.ntmps143 fun T hO hT ⟨a0,a1⟩ x hr=>⟨by simp,?_⟩
 simp only [tabAll] at hT; simp only at hr ⊢; unfold c143;unfold Lref02_Shr at hr;refine go ?_;by_cases c23 : a1≤0
 ·replace hr:=ifP hr
  refine go ?_;exact fin hr
 ·replace hr:=ifN hr
  refine go ?_;by_cases c24 : 256≤a1
  ·replace hr:=ifP hr
   refine go ?_;exact fin hr
  ·replace hr:=ifN hr
   refine go ?_;refine lp 7 (fun (⟨p11,p12⟩ : Int×(Arr 4))=>⟨(und 1++([.one (.v (.int .i64 a1)),.ptr 2 0 0 0 4]++(und 1++([.ptr 4 0 0 0 4,.ptr 5 0 0 0 4,.one (.v (.int .i64 p11))]++(und 27)))) : List PV),([(2,⟨0,4,[arC .u64 a0],false,false⟩),(4,⟨0,4,[arC .u64 (zA 4)],false,false⟩),(5,⟨0,4,[arC .u64 p12],false,false⟩)] : Boxes)⟩) hr ?_;rintro ⟨p11,p12⟩ x42r hr42
   simp only [Lref02_Shr_s1] at hr42;unfold b143_1;refine nst ?_;refine go ?_;by_cases c43 : IntKind.i64.wrap (p11 + a1) < 256
   ·replace hr42:=ifP hr42
    refine go ?_;obtain ⟨y44,ehy44,hr42⟩:=bN hr42 G191_eq;refine go ?_;refine ee_J hr42 (.normal) (fun (s : (Arr 4))=>match s with | p20=>(⟨(und 1++([.one (.v (.int .i64 a1)),.ptr 2 0 0 0 4]++(und 1++([.ptr 4 0 0 0 4,.ptr 5 0 0 0 4,.one (.v (.int .i64 p11))]++(und 27)))) : List PV),([(2,⟨0,4,[arC .u64 a0],false,false⟩),(4,⟨0,4,[arC .u64 (zA 4)],false,false⟩),(5,⟨0,4,[arC .u64 p20],false,false⟩)] : Boxes)⟩ : ASt)) (fun (s : (Arr 4))=>match s with | p20=>Lref02_Shr_k2 p11 p20) ?_ ?_
    ·rintro p20 hk51
     change Lref02_Shr_k2 p11 p20 = _ at hk51
     refine go ?_;refine nst ?_;unfold Lref02_Shr_k2 at hk51;refine ee_regJ rfl (kq:=⟨[1,2,4,5,6],[2,4,5],[]⟩) rfl (by simp [joinSt, *]; rfl) (by simp [*]; rfl) ?_;exact bk hk51
    ·intro J51
     simp only [pq,reduceCtorEq] at J51;by_cases c52 : y44 = true
     ·replace hr42:=ifP hr42
      refine go ?_;obtain ⟨j53,⟨_,_,j53c⟩,hr42⟩:=bA hr42;have j53d : j53≤3:=by omega
      obtain ⟨_,hr42⟩:=bC hr42;have j53d : j53≤3:=by omega
      have ap57:=arC_put (k:=.u64) (p12) (i:=j53) j53c (bits .or .u64 (p12.at j53) (IntKind.u64.wrap (1 * (2 ^ (min ((p11).tmod 64).toNat 64)))));have ap57N:=ap57;simp only [Int.one_mul] at ap57N;refine go ?_;exact jn 1000008 (J51 (p12.put j53 (bits .or .u64 (p12.at j53) (IntKind.u64.wrap (1 * (2 ^ (min ((p11).tmod 64).toNat 64)))))) hr42)
     ·replace hr42:=ifN hr42
      refine go ?_;exact jn 1000008 (J51 p12 hr42)
   ·replace hr42:=ifN hr42
    refine go ?_;obtain ⟨r58,q58,rfl⟩:=ms hr42;refine go ?_;rintro rfl
    refine go ?_;unfold Lref02_Shr_k1 at q58;refine go ?_;exact fin q58
theorem w192 : Walk tt G [] (fun _=>[]) Tryz.f192 K192:=by
 refine .of [] false body192 Tryz.ntmps192 fun T hO hT a0 x hr=>⟨by simp,?_⟩
 simp only [tabAll] at hT; simp only at hr ⊢; unfold c192;unfold Lref02_Zero at hr;refine go ?_;exact fin hr
theorem w222 : Walk tt G [] (fun _=>[]) Tryz.f222 K222:=by
 refine .of [] false body222 Tryz.ntmps222 fun T hO hT a0 x hr=>⟨by simp,?_⟩
 simp only [tabAll] at hT; simp only at hr ⊢; unfold c222;unfold Lref02_FromUint at hr;refine go ?_;exact fin hr
theorem w225 : Walk tt G [(191,K191.G)] (fun _=>[]) Tryz.f225 K225:=by
 refine .of [(2,⟨[1,3],[1],[]⟩)] false body225 Tryz.ntmps225 fun T hO hT a0 x hr=>⟨by simp,?_⟩
 simp only [tabAll] at hT; simp only at hr ⊢; unfold c225;unfold Lref02_Len at hr;refine go ?_;refine lp 2 (fun (p4 : Int)=>⟨(und 1++([.ptr 1 0 0 0 4]++(und 1++([.one (.v (.int .i64 p4))]++(und 9)))) : List PV),([(1,⟨0,4,[arC .u64 a0],false,false⟩)] : Boxes)⟩) hr ?_;rintro p4 x12r hr12
 simp only [Lref02_Len_s1] at hr12;unfold b225_1;refine nst ?_;refine go ?_;by_cases c13 : 0≤p4
 ·replace hr12:=ifP hr12
  refine go ?_;obtain ⟨y14,ehy14,hr12⟩:=bN hr12 G191_eq;refine go ?_;by_cases c15 : y14 = true
  ·replace hr12:=ifP hr12
   refine go ?_;exact fin hr12
  ·replace hr12:=ifN hr12
   refine go ?_;exact bk hr12
 ·replace hr12:=ifN hr12
  refine go ?_;obtain ⟨r16,q16,rfl⟩:=ms hr12;refine go ?_;rintro rfl
  refine go ?_;unfold Lref02_Len_k1 at q16;refine go ?_;exact fin q16
theorem v237 : ImplX Tryz.prog G 237 G237:=by
 refine impl_ext3 (k:=.u64) (p:=fun x y b=>(x + y + b) % 18446744073709551616) (q:=fun x y b=>(x + y + b) / 18446744073709551616) (ok:=fun x y b=>b≤1) (fun ps r hF=>?_) (fun x y b w hx=>bl237 x y b hx w);obtain ⟨⟨x,y,b⟩,rfl,h⟩:=lift_inv hF;obtain ⟨z,hz,rfl⟩:=Option.map_eq_some_iff.1 h;unfold Lmath_bits_Add64 at hz;obtain ⟨_,u1,hz⟩:=bs hz;obtain rfl:=Option.some.inj hz;obtain ⟨⟨h1,h2⟩,⟨h3,h4⟩,h5⟩:=chk_some u1;obtain ⟨x,rfl⟩:=Int.eq_ofNat_of_zero_le h1;obtain ⟨y,rfl⟩:=Int.eq_ofNat_of_zero_le h2;obtain ⟨b,rfl⟩:=Int.eq_ofNat_of_zero_le h4;have h3' : (y : Int)≤18446744073709551615:=h3;have h5' : (b : Int)≤1:=h5;refine ⟨x,y,b,by omega,rfl,?_⟩;have e1 : ((x : Int) + y + b) % 18446744073709551616 = (((x + y + b) % 18446744073709551616 : Nat) : Int):=by omega
 have e2 : ((x : Int) + y + b) / 18446744073709551616 = (((x + y + b) / 18446744073709551616 : Nat) : Int):=by omega
 simp only [R237,e1,e2]
theorem w238 : Walk tt G [(237,G237)] (fun _=>[]) Tryz.f238 K238:=by
 refine .of [(4,⟨[2,3,4,6,7,9],[2,3,4,6],[]⟩)] false body238 Tryz.ntmps238 fun T hO hT ⟨a0,a1⟩ x hr=>⟨by simp,?_⟩
 simp only [tabAll] at hT; simp only at hr ⊢; unfold c238;unfold Lref02_Add at hr;refine go ?_;refine lp 4 (fun (⟨p7,p8,p9⟩ : Int×Int×(Arr 4))=>⟨(und 2++([.ptr 2 0 0 0 4,.ptr 3 0 0 0 4,.ptr 4 0 0 0 4]++(und 1++([.ptr 6 0 0 0 4,.one (.v (.int .u64 p7))]++(und 1++([.one (.v (.int .i64 p8))]++(und 19)))))) : List PV),([(2,⟨0,4,[arC .u64 a0],false,false⟩),(3,⟨0,4,[arC .u64 a1],false,false⟩),(4,⟨0,4,[arC .u64 (zA 4)],false,false⟩),(6,⟨0,4,[arC .u64 p9],false,false⟩)] : Boxes)⟩) hr ?_;rintro ⟨p7,p8,p9⟩ x24r hr24
 simp only [Lref02_Add_s1] at hr24;unfold b238_1;refine nst ?_;refine go ?_;by_cases c25 : p8 < 4
 ·replace hr24:=ifP hr24
  refine go ?_;obtain ⟨j26,⟨_,_,_⟩,hr24⟩:=bA hr24;have j26d : j26≤3:=by omega
  have j26d : j26≤3:=by omega
  obtain ⟨_,ehy31,hr24⟩:=bG hr24 fun _=>G237_eq
  simp only [E237,R237,nf,nfs] at ehy31;have j26d : j26≤3:=by omega
  refine go ?_;exact bk hr24
 ·replace hr24:=ifN hr24
  refine go ?_;obtain ⟨r33,q33,rfl⟩:=ms hr24;refine go ?_;rintro rfl
  refine go ?_;unfold Lref02_Add_k1 at q33;refine go ?_;exact fin q33
theorem w226 : Walk tt G [(238,K238.G)] (fun _=>[]) Tryz.f226 K226:=by
 refine .of [(3,⟨[1,2,4],[2,4],[]⟩)] false body226 Tryz.ntmps226 fun T hO hT ⟨a0,a1⟩ x hr=>⟨by simp,?_⟩
 simp only [tabAll] at hT; simp only at hr ⊢; unfold c226;unfold Lref02_Shl at hr;refine go ?_;by_cases c9 : 256≤a1
 ·replace hr:=ifP hr
  refine go ?_;exact fin hr
 ·replace hr:=ifN hr
  refine go ?_;refine lp 3 (fun (⟨p5,p6⟩ : Int×(Arr 4))=>⟨(und 1++([.one (.v (.int .i64 p5)),.ptr 2 0 0 0 4]++(und 1++([.ptr 4 0 0 0 4]++(und 14)))) : List PV),([(2,⟨0,4,[arC .u64 p6],false,false⟩),(4,⟨0,4,[arC .u64 (zA 4)],false,false⟩)] : Boxes)⟩) hr ?_;rintro ⟨p5,p6⟩ x14r hr14
  simp only [Lref02_Shl_s1] at hr14;unfold b226_1;refine nst ?_;refine go ?_;by_cases c15 : 0 < p5
  ·replace hr14:=ifP hr14
   refine go ?_;obtain ⟨_,ehy16,hr14⟩:=bN hr14 G238_eq;refine go ?_;exact bk hr14
  ·replace hr14:=ifN hr14
   refine go ?_;obtain ⟨r17,q17,rfl⟩:=ms hr14;refine go ?_;rintro rfl
   refine go ?_;unfold Lref02_Shl_k1 at q17;refine go ?_;exact fin q17
end Go.Proofs.YthpkpciceodioaaGreatDoor
