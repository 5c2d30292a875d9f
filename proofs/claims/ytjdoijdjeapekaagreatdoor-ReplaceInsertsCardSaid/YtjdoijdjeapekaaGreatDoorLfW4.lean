import Derived.Test.YtjdoijdjeapekaaGreatDoorLfK
import Derived.Test.YtjdoijdjeapekaaGreatDoorCode
namespace Go.Proofs.YtjdoijdjeapekaaGreatDoor
open Go.RowKit
open Go.Av
open Go.Lc
set_option maxRecDepth 100000
set_option linter.unusedSimpArgs false
set_option linter.unusedVariables false
set_option maxHeartbeats 4000000
theorem cnil57 (c : Nat) (w : World) : Calls Tryz.prog 57 #[.slice none 0 c] w fun e w'=>e = .returned (.slice none 0 0)∧w' = w:=by
 have h1 : ∀ w,(binOp .eql 29 (.slice none 0 c) (.slice none 0 0)).run Tryz.prog w = .ok (.bool true) w:=fun w=>by
  have h : ∀ d : Nat,(Op.equalIn (d + 1) 29 (.slice none 0 c) (.slice none 0 0)).run Tryz.prog w = .ok true w:=fun d=>by
   simp [Op.equalIn,run_underlying Tryz.underlying29]
  have h' : (Op.equal 29 (.slice none 0 c) (.slice none 0 0)).run Tryz.prog w = .ok true w:=h 9999;simp [binOp,h']
 go_enter Tryz.func57,Tryz.ntmps57
 go_wp2
 go_ret
 exact ⟨rfl,rfl⟩
theorem csome57 (b : Addr) (c : Nat) (w : World) : Calls Tryz.prog 57 #[.slice (some b) 0 c] w fun e w'=>e = .returned (.slice (some ⟨w.heap.size,0,none⟩) 0 0)∧w' = w.alloc (.cells #[] 58):=by
 have h1 : ∀ w,(binOp .eql 29 (.slice (some b) 0 c) (.slice none 0 0)).run Tryz.prog w = .ok (.bool false) w:=fun w=>by
  have h : (Op.equal 29 (.slice (some b) 0 c) (.slice none 0 0)).run Tryz.prog w = .ok false w:=eqIn_slice 9999 Tryz.underlying29;simp [binOp,h]
 have h2 : ∀ w,(Instr.buildSlice 29 0 #[]).run Tryz.prog w = .ok (.slice (some ⟨w.heap.size,0,none⟩) 0 0) (w.alloc (.cells #[] 58)):=fun w=>by kernel_rfl
 have hi0 : (Tryz.prog.info? 58).isSome = true:=by kernel_rfl
 obtain ⟨i,hi⟩:=Option.isSome_iff_exists.1 hi0;have h3 : ∀ (w : World) (x : Option Addr) ty,(Builtin.append_ #[29,29] ty #[.slice x 0 0,.slice (some b) 0 c]).run Tryz.prog w = .ok (.slice x 0 0) w:=fun w x ty=>run_append_zero w 29 ty 58 i Tryz.underlying29 hi x (some b) 0 0 c (Nat.le_refl _)
 clear hi hi0
 go_enter Tryz.func57,Tryz.ntmps57
 go_wp2
 go_ret
 exact ⟨rfl,rfl⟩
def kp57 : Keep:=fun i=>⟨[],[],[]⟩
theorem w57 {T : Tab} (a0 : (List Tapi_Input)) (hne : a0≠[]) (x : (List Tapi_Input)) (hr : Lslices_Clone_of__api_Input_api_Input a0 = some x) : ∃ kp fl n,execFn tt T G kp fl n Tryz.f57 [.one (.slice .no (List.map eapi_Input a0))] = some (.one (.own 35 (List.map eapi_Input a0)),[]):=by
 refine fnE (kp:=kp57) (w:=true) body57 (by simp) ?_;unfold c57;rw [Tryz.ntmps57];unfold Lslices_Clone_of__api_Input_api_Input at hr;obtain ⟨_,u1,hr⟩:=bs hr;have u2:=chk_some u1;have n1 : a0.length * 64≤140737488355328:=by omega
 have n2 : a0.length≤9223372036854775807:=by omega
 have ne : List.map eapi_Input a0≠[]:=fun h=>hne (by simpa [intsR] using h)
 refine ee_seq_reg rfl (by simp; rfl) ?_
 first
 | (refine ee_assoc ?_; refine ee_seq_reg rfl (by simp [hne,ne]; rfl) ?_)
 | refine ee_seq_reg rfl (by simp [hne,ne]; rfl) ?_
 refine ee_seq_condF (by simp [bV]) ?_;refine ee_seq_skip ?_;refine ee_seq_reg rfl (by simp [n1,n2]; rfl) ?_;refine ee_ret ?_;simp [FinQ]
theorem v57 : Impl Tryz.prog G 57 G57:=by
 refine clone_impl (e:=35) (t:=58) (N:=0) (rows:=fun l : (List Tapi_Input)=>List.map eapi_Input l) Tryz.func57 (by kernel_rfl) (by kernel_rfl) G57 (fun ps r hF=>?_) rfl (fun l hl r hF=>?_) (fun x c w=>?_)
 ·obtain ⟨x,rfl,h⟩:=lift_inv hF
  obtain ⟨y,hy,rfl⟩:=Option.map_eq_some_iff.1 h;unfold Lslices_Clone_of__api_Input_api_Input at hy;obtain ⟨_,u1,hy⟩:=bs hy;obtain rfl:=Option.some.inj hy;exact ⟨x,rfl,rfl⟩
 ·refine impl_of (T:=Av.tab []) mixed htt (Av.tab_ok trivial) Tryz.func57 body57 (by kernel_rfl) fun ps r' ho hF'=>?_
  split at hF'
  ·rename_i hps
   subst hps;injection hF' with hF';subst hF';obtain ⟨x,hx,h⟩:=lift_inv hF;obtain rfl:=E57i l x hx;obtain ⟨y,hy,rfl⟩:=Option.map_eq_some_iff.1 h;have hy' := hy;unfold Lslices_Clone_of__api_Input_api_Input at hy';obtain ⟨_,u1,hy'⟩:=bs hy';obtain rfl:=Option.some.inj hy';exact w57 l hl _ hy
  ·cases hF'
 ·cases x with
  | none=>exact (cnil57 c w).mono fun e w' h=>⟨none,h.1,.inl h.2⟩
  | some b=>exact (csome57 b c w).mono fun e w' h=>⟨_,h.1,.inr h.2⟩
theorem cnil58 (c : Nat) (w : World) : Calls Tryz.prog 58 #[.slice none 0 c] w fun e w'=>e = .returned (.slice none 0 0)∧w' = w:=by
 have h1 : ∀ w,(binOp .eql 30 (.slice none 0 c) (.slice none 0 0)).run Tryz.prog w = .ok (.bool true) w:=fun w=>by
  have h : ∀ d : Nat,(Op.equalIn (d + 1) 30 (.slice none 0 c) (.slice none 0 0)).run Tryz.prog w = .ok true w:=fun d=>by
   simp [Op.equalIn,run_underlying Tryz.underlying30]
  have h' : (Op.equal 30 (.slice none 0 c) (.slice none 0 0)).run Tryz.prog w = .ok true w:=h 9999;simp [binOp,h']
 go_enter Tryz.func58,Tryz.ntmps58
 go_wp2
 go_ret
 exact ⟨rfl,rfl⟩
theorem csome58 (b : Addr) (c : Nat) (w : World) : Calls Tryz.prog 58 #[.slice (some b) 0 c] w fun e w'=>e = .returned (.slice (some ⟨w.heap.size,0,none⟩) 0 0)∧w' = w.alloc (.cells #[] 61):=by
 have h1 : ∀ w,(binOp .eql 30 (.slice (some b) 0 c) (.slice none 0 0)).run Tryz.prog w = .ok (.bool false) w:=fun w=>by
  have h : (Op.equal 30 (.slice (some b) 0 c) (.slice none 0 0)).run Tryz.prog w = .ok false w:=eqIn_slice 9999 Tryz.underlying30;simp [binOp,h]
 have h2 : ∀ w,(Instr.buildSlice 30 0 #[]).run Tryz.prog w = .ok (.slice (some ⟨w.heap.size,0,none⟩) 0 0) (w.alloc (.cells #[] 61)):=fun w=>by kernel_rfl
 have hi0 : (Tryz.prog.info? 61).isSome = true:=by kernel_rfl
 obtain ⟨i,hi⟩:=Option.isSome_iff_exists.1 hi0;have h3 : ∀ (w : World) (x : Option Addr) ty,(Builtin.append_ #[30,30] ty #[.slice x 0 0,.slice (some b) 0 c]).run Tryz.prog w = .ok (.slice x 0 0) w:=fun w x ty=>run_append_zero w 30 ty 61 i Tryz.underlying30 hi x (some b) 0 0 c (Nat.le_refl _)
 clear hi hi0
 go_enter Tryz.func58,Tryz.ntmps58
 go_wp2
 go_ret
 exact ⟨rfl,rfl⟩
def kp58 : Keep:=fun i=>⟨[],[],[]⟩
theorem w58 {T : Tab} (a0 : (List Tapi_Output)) (hne : a0≠[]) (x : (List Tapi_Output)) (hr : Lslices_Clone_of__api_Output_api_Output a0 = some x) : ∃ kp fl n,execFn tt T G kp fl n Tryz.f58 [.one (.slice .no (List.map eapi_Output a0))] = some (.one (.own 2 (List.map eapi_Output a0)),[]):=by
 refine fnE (kp:=kp58) (w:=true) body58 (by simp) ?_;unfold c58;rw [Tryz.ntmps58];unfold Lslices_Clone_of__api_Output_api_Output at hr;obtain ⟨_,u1,hr⟩:=bs hr;have u2:=chk_some u1;have n1 : a0.length * 32≤140737488355328:=by omega
 have n2 : a0.length≤9223372036854775807:=by omega
 have ne : List.map eapi_Output a0≠[]:=fun h=>hne (by simpa [intsR] using h)
 refine ee_seq_reg rfl (by simp; rfl) ?_
 first
 | (refine ee_assoc ?_; refine ee_seq_reg rfl (by simp [hne,ne]; rfl) ?_)
 | refine ee_seq_reg rfl (by simp [hne,ne]; rfl) ?_
 refine ee_seq_condF (by simp [bV]) ?_;refine ee_seq_skip ?_;refine ee_seq_reg rfl (by simp [n1,n2]; rfl) ?_;refine ee_ret ?_;simp [FinQ]
theorem v58 : Impl Tryz.prog G 58 G58:=by
 refine clone_impl (e:=2) (t:=61) (N:=0) (rows:=fun l : (List Tapi_Output)=>List.map eapi_Output l) Tryz.func58 (by kernel_rfl) (by kernel_rfl) G58 (fun ps r hF=>?_) rfl (fun l hl r hF=>?_) (fun x c w=>?_)
 ·obtain ⟨x,rfl,h⟩:=lift_inv hF
  obtain ⟨y,hy,rfl⟩:=Option.map_eq_some_iff.1 h;unfold Lslices_Clone_of__api_Output_api_Output at hy;obtain ⟨_,u1,hy⟩:=bs hy;obtain rfl:=Option.some.inj hy;exact ⟨x,rfl,rfl⟩
 ·refine impl_of (T:=Av.tab []) mixed htt (Av.tab_ok trivial) Tryz.func58 body58 (by kernel_rfl) fun ps r' ho hF'=>?_
  split at hF'
  ·rename_i hps
   subst hps;injection hF' with hF';subst hF';obtain ⟨x,hx,h⟩:=lift_inv hF;obtain rfl:=E58i l x hx;obtain ⟨y,hy,rfl⟩:=Option.map_eq_some_iff.1 h;have hy' := hy;unfold Lslices_Clone_of__api_Output_api_Output at hy';obtain ⟨_,u1,hy'⟩:=bs hy';obtain rfl:=Option.some.inj hy';exact w58 l hl _ hy
  ·cases hF'
 ·cases x with
  | none=>exact (cnil58 c w).mono fun e w' h=>⟨none,h.1,.inl h.2⟩
  | some b=>exact (csome58 b c w).mono fun e w' h=>⟨_,h.1,.inr h.2⟩
theorem cnil60 (c : Nat) (w : World) : Calls Tryz.prog 60 #[.slice none 0 c] w fun e w'=>e = .returned (.slice none 0 0)∧w' = w:=by
 have h1 : ∀ w,(binOp .eql 59 (.slice none 0 c) (.slice none 0 0)).run Tryz.prog w = .ok (.bool true) w:=fun w=>by
  have h : ∀ d : Nat,(Op.equalIn (d + 1) 59 (.slice none 0 c) (.slice none 0 0)).run Tryz.prog w = .ok true w:=fun d=>by
   simp [Op.equalIn,run_underlying Tryz.underlying59]
  have h' : (Op.equal 59 (.slice none 0 c) (.slice none 0 0)).run Tryz.prog w = .ok true w:=h 9999;simp [binOp,h']
 go_enter Tryz.func60,Tryz.ntmps60
 go_wp2
 go_ret
 exact ⟨rfl,rfl⟩
theorem csome60 (b : Addr) (c : Nat) (w : World) : Calls Tryz.prog 60 #[.slice (some b) 0 c] w fun e w'=>e = .returned (.slice (some ⟨w.heap.size,0,none⟩) 0 0)∧w' = w.alloc (.cells #[] 5):=by
 have h1 : ∀ w,(binOp .eql 59 (.slice (some b) 0 c) (.slice none 0 0)).run Tryz.prog w = .ok (.bool false) w:=fun w=>by
  have h : (Op.equal 59 (.slice (some b) 0 c) (.slice none 0 0)).run Tryz.prog w = .ok false w:=eqIn_slice 9999 Tryz.underlying59;simp [binOp,h]
 have h2 : ∀ w,(Instr.buildSlice 59 0 #[]).run Tryz.prog w = .ok (.slice (some ⟨w.heap.size,0,none⟩) 0 0) (w.alloc (.cells #[] 5)):=fun w=>by kernel_rfl
 have hi0 : (Tryz.prog.info? 5).isSome = true:=by kernel_rfl
 obtain ⟨i,hi⟩:=Option.isSome_iff_exists.1 hi0;have h3 : ∀ (w : World) (x : Option Addr) ty,(Builtin.append_ #[59,59] ty #[.slice x 0 0,.slice (some b) 0 c]).run Tryz.prog w = .ok (.slice x 0 0) w:=fun w x ty=>run_append_zero w 59 ty 5 i Tryz.underlying59 hi x (some b) 0 0 c (Nat.le_refl _)
 clear hi hi0
 go_enter Tryz.func60,Tryz.ntmps60
 go_wp2
 go_ret
 exact ⟨rfl,rfl⟩
def kp60 : Keep:=fun i=>⟨[],[],[]⟩
theorem w60 {T : Tab} (a0 : (List Int)) (hne : a0≠[]) (x : (List Int)) (hr : Lbytes_Clone a0 = some x) : ∃ kp fl n,execFn tt T G kp fl n Tryz.f60 [.one (.slice .no (intsR .u8 a0))] = some (.one (.own 1 (intsR .u8 a0)),[]):=by
 refine fnE (kp:=kp60) (w:=true) body60 (by simp) ?_;unfold c60;rw [Tryz.ntmps60];unfold Lbytes_Clone at hr;obtain ⟨_,u1,hr⟩:=bs hr;have u2:=chk_some u1;have n1 : a0.length≤140737488355328:=by omega
 have n2 : a0.length≤9223372036854775807:=by omega
 have ne : intsR .u8 a0≠[]:=fun h=>hne (by simpa [intsR] using h)
 refine ee_seq_reg rfl (by simp; rfl) ?_
 first
 | (refine ee_assoc ?_; refine ee_seq_reg rfl (by simp [hne,ne]; rfl) ?_)
 | refine ee_seq_reg rfl (by simp [hne,ne]; rfl) ?_
 refine ee_seq_condF (by simp [bV]) ?_;refine ee_seq_skip ?_;refine ee_seq_reg rfl (by simp [n1,n2]; rfl) ?_;refine ee_ret ?_;simp [FinQ]
theorem v60 : Impl Tryz.prog G 60 G60:=by
 refine clone_impl (e:=1) (t:=5) (N:=0) (rows:=fun l : (List Int)=>intsR .u8 l) Tryz.func60 (by kernel_rfl) (by kernel_rfl) G60 (fun ps r hF=>?_) rfl (fun l hl r hF=>?_) (fun x c w=>?_)
 ·obtain ⟨x,rfl,h⟩:=lift_inv hF
  obtain ⟨y,hy,rfl⟩:=Option.map_eq_some_iff.1 h;unfold Lbytes_Clone at hy;obtain ⟨_,u1,hy⟩:=bs hy;obtain rfl:=Option.some.inj hy;exact ⟨x,rfl,rfl⟩
 ·refine impl_of (T:=Av.tab []) mixed htt (Av.tab_ok trivial) Tryz.func60 body60 (by kernel_rfl) fun ps r' ho hF'=>?_
  split at hF'
  ·rename_i hps
   subst hps;injection hF' with hF';subst hF';obtain ⟨x,hx,h⟩:=lift_inv hF;obtain rfl:=E60i l x hx;obtain ⟨y,hy,rfl⟩:=Option.map_eq_some_iff.1 h;have hy' := hy;unfold Lbytes_Clone at hy';obtain ⟨_,u1,hy'⟩:=bs hy';obtain rfl:=Option.some.inj hy';exact w60 l hl _ hy
  ·cases hF'
 ·cases x with
  | none=>exact (cnil60 c w).mono fun e w' h=>⟨none,h.1,.inl h.2⟩
  | some b=>exact (csome60 b c w).mono fun e w' h=>⟨_,h.1,.inr h.2⟩
theorem cnil89 (c : Nat) (w : World) : Calls Tryz.prog 89 #[.slice none 0 c] w fun e w'=>e = .returned (.slice none 0 0)∧w' = w:=by
 have h1 : ∀ w,(binOp .eql 56 (.slice none 0 c) (.slice none 0 0)).run Tryz.prog w = .ok (.bool true) w:=fun w=>by
  have h : ∀ d : Nat,(Op.equalIn (d + 1) 56 (.slice none 0 c) (.slice none 0 0)).run Tryz.prog w = .ok true w:=fun d=>by
   simp [Op.equalIn,run_underlying Tryz.underlying56]
  have h' : (Op.equal 56 (.slice none 0 c) (.slice none 0 0)).run Tryz.prog w = .ok true w:=h 9999;simp [binOp,h']
 go_enter Tryz.func89,Tryz.ntmps89
 go_wp2
 go_ret
 exact ⟨rfl,rfl⟩
theorem csome89 (b : Addr) (c : Nat) (w : World) : Calls Tryz.prog 89 #[.slice (some b) 0 c] w fun e w'=>e = .returned (.slice (some ⟨w.heap.size,0,none⟩) 0 0)∧w' = w.alloc (.cells #[] 59):=by
 have h1 : ∀ w,(binOp .eql 56 (.slice (some b) 0 c) (.slice none 0 0)).run Tryz.prog w = .ok (.bool false) w:=fun w=>by
  have h : (Op.equal 56 (.slice (some b) 0 c) (.slice none 0 0)).run Tryz.prog w = .ok false w:=eqIn_slice 9999 Tryz.underlying56;simp [binOp,h]
 have h2 : ∀ w,(Instr.buildSlice 56 0 #[]).run Tryz.prog w = .ok (.slice (some ⟨w.heap.size,0,none⟩) 0 0) (w.alloc (.cells #[] 59)):=fun w=>by kernel_rfl
 have hi0 : (Tryz.prog.info? 59).isSome = true:=by kernel_rfl
 obtain ⟨i,hi⟩:=Option.isSome_iff_exists.1 hi0;have h3 : ∀ (w : World) (x : Option Addr) ty,(Builtin.append_ #[56,56] ty #[.slice x 0 0,.slice (some b) 0 c]).run Tryz.prog w = .ok (.slice x 0 0) w:=fun w x ty=>run_append_zero w 56 ty 59 i Tryz.underlying56 hi x (some b) 0 0 c (Nat.le_refl _)
 clear hi hi0
 go_enter Tryz.func89,Tryz.ntmps89
 go_wp2
 go_ret
 exact ⟨rfl,rfl⟩
def kp89 : Keep:=fun i=>⟨[],[],[]⟩
theorem w89 {T : Tab} (a0 : (List (List Int))) (hne : a0≠[]) (x : (List (List Int))) (hr : Lslices_Clone_of__byte_byte a0 = some x) : ∃ kp fl n,execFn tt T G kp fl n Tryz.f89 [.one (.slice .no (List.map eS_I_u8 a0))] = some (.one (.own 1 (List.map eS_I_u8 a0)),[]):=by
 refine fnE (kp:=kp89) (w:=true) body89 (by simp) ?_;unfold c89;rw [Tryz.ntmps89];unfold Lslices_Clone_of__byte_byte at hr;obtain ⟨_,u1,hr⟩:=bs hr;have u2:=chk_some u1;have n1 : a0.length * 24≤140737488355328:=by omega
 have n2 : a0.length≤9223372036854775807:=by omega
 have ne : List.map eS_I_u8 a0≠[]:=fun h=>hne (by simpa [intsR] using h)
 refine ee_seq_reg rfl (by simp; rfl) ?_
 first
 | (refine ee_assoc ?_; refine ee_seq_reg rfl (by simp [hne,ne]; rfl) ?_)
 | refine ee_seq_reg rfl (by simp [hne,ne]; rfl) ?_
 refine ee_seq_condF (by simp [bV]) ?_;refine ee_seq_skip ?_;refine ee_seq_reg rfl (by simp [n1,n2]; rfl) ?_;refine ee_ret ?_;simp [FinQ]
theorem v89 : Impl Tryz.prog G 89 G89:=by
 refine clone_impl (e:=1) (t:=59) (N:=0) (rows:=fun l : (List (List Int))=>List.map eS_I_u8 l) Tryz.func89 (by kernel_rfl) (by kernel_rfl) G89 (fun ps r hF=>?_) rfl (fun l hl r hF=>?_) (fun x c w=>?_)
 ·obtain ⟨x,rfl,h⟩:=lift_inv hF
  obtain ⟨y,hy,rfl⟩:=Option.map_eq_some_iff.1 h;unfold Lslices_Clone_of__byte_byte at hy;obtain ⟨_,u1,hy⟩:=bs hy;obtain rfl:=Option.some.inj hy;exact ⟨x,rfl,rfl⟩
 ·refine impl_of (T:=Av.tab []) mixed htt (Av.tab_ok trivial) Tryz.func89 body89 (by kernel_rfl) fun ps r' ho hF'=>?_
  split at hF'
  ·rename_i hps
   subst hps;injection hF' with hF';subst hF';obtain ⟨x,hx,h⟩:=lift_inv hF;obtain rfl:=E89i l x hx;obtain ⟨y,hy,rfl⟩:=Option.map_eq_some_iff.1 h;have hy' := hy;unfold Lslices_Clone_of__byte_byte at hy';obtain ⟨_,u1,hy'⟩:=bs hy';obtain rfl:=Option.some.inj hy';exact w89 l hl _ hy
  ·cases hF'
 ·cases x with
  | none=>exact (cnil89 c w).mono fun e w' h=>⟨none,h.1,.inl h.2⟩
  | some b=>exact (csome89 b c w).mono fun e w' h=>⟨_,h.1,.inr h.2⟩
theorem w59 : Walk tt G [(60,G60),(89,G89)] (fun _=>[]) Tryz.f59 K59:=by
 refine .of [(3,⟨[0,7,8,9],[6],[]⟩)] true body59 Tryz.ntmps59 fun T hO hT a0 x hr=>⟨by simp,?_⟩
 simp only [tabAll] at hT; simp only at hr ⊢; unfold c59;unfold Lreplace_cloneItems at hr;refine go ?_;obtain ⟨y19,ehy19,hr⟩:=bG hr fun _=>G89_eq
 simp only [E89,R89,nf,nfs] at ehy19;refine go ?_;refine lp 3 (fun (⟨p11,p12⟩ : Int×(List (List Int)))=>⟨([.one (.ms 6 0 0 (p12.length) 1)]++(und 6++([.one (.ms 6 0 0 (p12.length) 1),.one (.v (.int .i64 (y19.length : Int))),.one (.v (.int .i64 p11))]++(und 11))) : List PV),([(6,⟨0,1,List.map eS_I_u8 p12,false,true⟩)] : Boxes)⟩) hr ?_;rintro ⟨p11,p12⟩ x26r hr26
 simp only [Lreplace_cloneItems_s1] at hr26;unfold b59_1;refine nst ?_;refine go ?_;by_cases c27 : p11 < (y19.length : Int)
 ·have c27N:=nrm c27
  replace hr26:=ifP hr26
  refine go ?_;obtain ⟨_,⟨_,_,_⟩,hr26⟩:=bA hr26;obtain ⟨_,hx29,hr26⟩:=bs hr26;have ghx29:=getE_of hx29;refine go ?_;obtain ⟨_,ehy30,hr26⟩:=bG hr26 fun _=>G60_eq
  simp only [E60,R60,nf,nfs] at ehy30;refine go ?_;exact bk hr26
 ·have c27N:=nrm c27
  replace hr26:=ifN hr26
  refine go ?_;obtain ⟨r31,q31,rfl⟩:=ms hr26;refine go ?_;rintro rfl
  refine go ?_;unfold Lreplace_cloneItems_k1 at q31;refine go ?_;exact fin q31
theorem w28 : Walk tt G [(57,G57),(58,G58),(59,K59.G),(60,G60)] (fun _=>[]) Tryz.f28 K28:=by
 refine .of [(3,⟨[1,2,16,17,18],[1,2,9,12],[]⟩),(8,⟨[1,2,33,34,35],[1,2,9,12],[]⟩)] true body28 Tryz.ntmps28 fun T hO hT a0 x hr=>⟨by simp,?_⟩
 simp only [tabAll] at hT; simp only at hr ⊢; unfold c28;unfold Lreplace_cloneTx at hr;refine go ?_;obtain ⟨y37,ehy37,hr⟩:=bG hr fun _=>G57_eq
 simp only [E57,R57,nf,nfs] at ehy37;obtain ⟨y38,ehy38,hr⟩:=bG hr fun _=>G58_eq
 simp only [E58,R58,nf,nfs] at ehy38;refine go ?_;refine lp 3 (fun (⟨p12,p13⟩ : Int×(List Tapi_Input))=>⟨(und 1++([.ptr 1 0 0 0 4,.ptr 2 0 0 0 4]++(und 13++([.one (.ms 9 0 0 (p13.length) 35),.one (.v (.int .i64 (y37.length : Int))),.one (.v (.int .i64 p12))]++(und 31)))) : List PV),([(1,⟨0,4,[[.v (.int .u32 a0.1),.ms 9 0 0 (p13.length) 35,.ms 12 0 0 (y38.length) 2,.v (.int .u32 a0.2.2.2)]],false,false⟩),(2,⟨0,4,[[.v (.int .u32 0),.slice .nil [],.slice .nil [],.v (.int .u32 0)]],false,false⟩),(9,⟨0,35,List.map eapi_Input p13,false,true⟩),(12,⟨0,2,List.map eapi_Output y38,false,true⟩)] : Boxes)⟩) hr ?_;rintro ⟨p12,p13⟩ x45r hr45
 simp only [Lreplace_cloneTx_s1] at hr45;unfold b28_1;refine nst ?_;refine go ?_;by_cases c46 : p12 < (y37.length : Int)
 ·have c46N:=nrm c46
  replace hr45:=ifP hr45
  refine go ?_;obtain ⟨_,⟨_,_,_⟩,hr45⟩:=bA hr45;obtain ⟨_,hx48,hr45⟩:=bs hr45;have ghx48:=getE_of hx48;refine go ?_;obtain ⟨_,ehy49,hr45⟩:=bN hr45 G59_eq;have ghx48:=getE_of hx48;refine go ?_;exact bk hr45
 ·have c46N:=nrm c46
  replace hr45:=ifN hr45
  refine go ?_;obtain ⟨r50,q50,rfl⟩:=ms hr45;refine go ?_;rintro rfl
  refine go ?_;unfold Lreplace_cloneTx_k1 at q50;refine go ?_;refine lp 8 (fun (⟨p26,p27⟩ : Int×(List Tapi_Output))=>⟨(und 1++([.ptr 1 0 0 0 4,.ptr 2 0 0 0 4]++(und 30++([.one (.ms 12 0 0 (p27.length) 2),.one (.v (.int .i64 (y38.length : Int))),.one (.v (.int .i64 p26))]++(und 14)))) : List PV),([(1,⟨0,4,[[.v (.int .u32 a0.1),.ms 9 0 0 (p13.length) 35,.ms 12 0 0 (p27.length) 2,.v (.int .u32 a0.2.2.2)]],false,false⟩),(2,⟨0,4,[[.v (.int .u32 0),.slice .nil [],.slice .nil [],.v (.int .u32 0)]],false,false⟩),(9,⟨0,35,List.map eapi_Input p13,false,true⟩),(12,⟨0,2,List.map eapi_Output p27,false,true⟩)] : Boxes)⟩) q50 ?_;rintro ⟨p26,p27⟩ x57r hr57
  simp only [Lreplace_cloneTx_s2] at hr57;unfold b28_2;refine nst ?_;refine go ?_;by_cases c58 : p26 < (y38.length : Int)
  ·have c58N:=nrm c58
   replace hr57:=ifP hr57
   refine go ?_;obtain ⟨_,⟨_,_,_⟩,hr57⟩:=bA hr57;obtain ⟨_,hx60,hr57⟩:=bs hr57;have ghx60:=getE_of hx60;refine go ?_;obtain ⟨_,ehy61,hr57⟩:=bG hr57 fun _=>G60_eq
   simp only [E60,R60,nf,nfs] at ehy61;have ghx60:=getE_of hx60;refine go ?_;exact bk hr57
  ·have c58N:=nrm c58
   replace hr57:=ifN hr57
   refine go ?_;obtain ⟨r62,q62,rfl⟩:=ms hr57;refine go ?_;rintro rfl
   refine go ?_;unfold Lreplace_cloneTx_k2 at q62;refine go ?_;exact fin q62
theorem w29 : Walk tt G [(61,K61.G)] (fun _=>[]) Tryz.f29 K29:=by
 refine .of [(3,⟨[3,4,12,13,14],[],[]⟩),(1000008,⟨[3,4,12,13,14],[],[]⟩)] false body29 Tryz.ntmps29 fun T hO hT a0 x hr=>⟨by simp,?_⟩
 simp only [tabAll] at hT; simp only at hr ⊢; unfold c29;unfold Lreplace_worst at hr;refine go ?_;obtain ⟨_,hx30,hr⟩:=bs hr;have hx30c:=getE_of hx30;obtain ⟨_,ehy31,hr⟩:=bN hr G61_eq;refine go ?_;refine lp 3 (fun (⟨p19,p20,p21⟩ : Int×Int×Int)=>⟨(und 3++([.one (.v (.int .i64 p19)),.one (.v (.int .i64 p20))]++(und 7++([.one (.slice .no (List.map eapi_Entry a0)),.one (.v (.int .i64 (a0.length : Int))),.one (.v (.int .i64 p21))]++(und 13)))) : List PV),([] : Boxes)⟩) hr ?_;rintro ⟨p19,p20,p21⟩ x40r hr40
 simp only [Lreplace_worst_s1] at hr40;unfold b29_1;refine nst ?_;refine go ?_;by_cases c41 : p21 < (a0.length : Int)
 ·have c41N:=nrm c41
  replace hr40:=ifP hr40
  refine go ?_;obtain ⟨_,⟨_,_,_⟩,hr40⟩:=bI hr40;refine go ?_;obtain ⟨y43,ehy43,hr40⟩:=bN hr40 G61_eq;refine go ?_;refine ee_J hr40 (.normal) (fun (s : Int×Int)=>match s with | (p28,p29)=>(⟨(und 3++([.one (.v (.int .i64 p28)),.one (.v (.int .i64 p29))]++(und 7++([.one (.slice .no (List.map eapi_Entry a0)),.one (.v (.int .i64 (a0.length : Int))),.one (.v (.int .i64 p21))]++(und 13)))) : List PV),([] : Boxes)⟩ : ASt)) (fun (s : Int×Int)=>match s with | (p28,p29)=>Lreplace_worst_k2 p21 p28 p29) ?_ ?_
  ·rintro ⟨p28,p29⟩ hk45
   change Lreplace_worst_k2 p21 p28 p29 = _ at hk45
   refine go ?_;refine nst ?_;unfold Lreplace_worst_k2 at hk45;refine ee_regJ rfl (kq:=⟨[3,4,12,13,14],[],[]⟩) rfl (by simp [joinSt, *]; rfl) (by simp [*] <;> rfl) ?_;exact bk hk45
  ·intro J45
   simp only [pq,reduceCtorEq] at J45;by_cases c46 : y43≤p20
   ·replace hr40:=ifP hr40
    refine go ?_;exact jn 1000008 (J45 (p21,y43) hr40)
   ·replace hr40:=ifN hr40
    refine go ?_;exact jn 1000008 (J45 (p19,p20) hr40)
 ·have c41N:=nrm c41
  replace hr40:=ifN hr40
  refine go ?_;obtain ⟨r47,q47,rfl⟩:=ms hr40;refine go ?_;rintro rfl
  refine go ?_;unfold Lreplace_worst_k1 at q47;refine go ?_;exact fin q47
theorem w27_29 : Walk tt G [(25,K25.G)] (fun _=>[]) Tryz.f27 K27_29:=by
 refine .of [] false body27 Tryz.ntmps27 fun T hO hT ⟨a0,a1⟩ x hr=>⟨by simp,?_⟩
 simp only [tabAll] at hT; simp only at hr ⊢; unfold c27;unfold Lreplace_Insert_1__r at hr;refine go ?_;obtain ⟨_,ehy2,hr⟩:=bN hr G25_eq;refine go ?_;exact fin hr
theorem w56_30 : Walk tt G [(27,K27_29.G)] (fun _=>[]) Tryz.f56 K56_30:=by
 refine .of [(2,⟨[0,1,7,8],[],[]⟩)] false body56 Tryz.ntmps56 fun T hO hT ⟨a0,a1⟩ x hr=>⟨by simp,?_⟩
 simp only [tabAll] at hT; simp only at hr ⊢; unfold c56;unfold Lslices_IndexFunc_of__api_Entry_api_Entry__replace_Insert_1 at hr;refine go ?_;refine lp 2 (fun (p6 : Int)=>⟨([.one (.slice .no (List.map eapi_Entry a0)),.clo 27 [.ref (arC .u8 a1)]]++(und 5++([.one (.v (.int .i64 (a0.length : Int))),.one (.v (.int .i64 p6))]++(und 10))) : List PV),([] : Boxes)⟩) hr ?_;rintro p6 x17r hr17
 simp only [Lslices_IndexFunc_of__api_Entry_api_Entry__replace_Insert_1_s1] at hr17;unfold b56_1;refine nst ?_;refine go ?_;by_cases c18 : p6 < (a0.length : Int)
 ·have c18N:=nrm c18
  replace hr17:=ifP hr17
  refine go ?_;obtain ⟨_,⟨_,_,_⟩,hr17⟩:=bI hr17;obtain ⟨y20,ehy20,hr17⟩:=bN hr17 G27_29_eq;refine go ?_;by_cases c21 : y20 = true
  ·replace hr17:=ifP hr17
   refine go ?_;exact fin hr17
  ·replace hr17:=ifN hr17
   refine go ?_;exact bk hr17
 ·have c18N:=nrm c18
  replace hr17:=ifN hr17
  refine go ?_;obtain ⟨r22,q22,rfl⟩:=ms hr17;refine go ?_;rintro rfl
  refine go ?_;unfold Lslices_IndexFunc_of__api_Entry_api_Entry__replace_Insert_1_k1 at q22;refine go ?_;exact fin q22
theorem w26_31 : Walk tt G [(56,K56_30.G)] (fun _=>[]) Tryz.f26 K26_31:=by
 refine .of [] false body26 Tryz.ntmps26 fun T hO hT ⟨a0,a1⟩ x hr=>⟨by simp,?_⟩
 simp only [tabAll] at hT; simp only at hr ⊢; unfold c26;unfold Lslices_ContainsFunc_of__api_Entry_api_Entry__replace_Insert_1 at hr;refine go ?_;obtain ⟨_,ehy2,hr⟩:=bN hr G56_30_eq;refine go ?_;exact fin hr
theorem cdel30_32 (w : World) (k n C i j : Nat) (arr : Array Value) (T : TypeId) (hb : w.heap[k]? = some (.cells arr T (0,0))) (hC : C * 5≤arr.size) (hn : n≤C) (hm : C≤maxLen) (hij : i < j) (hj : j≤n) (h1 : ∀ q v,q < n * 5→arr[q]? = some v→v.oneCell' = true) :
  Calls Tryz.prog 30 #[.slice (some ⟨k,0,none⟩) n C,.int .i64 i,.int .i64 j] w fun e w'=>e = .returned (.slice (some ⟨k,0,none⟩) (i + (n - j)) C)∧DelW w w' k 5 n i j arr T:=by
 have mixed:=mixed;have hic : i≤C:=by omega
 have hjc : j≤C:=by omega
 have hm' : C≤9223372036854775807:=hm;have hne : ¬ (i = j):=by omega
 obtain ⟨info,dd,z,k1,k2,k3,k4,k5,k6,k7,_⟩:=(tinfo_spec (htt 36 _ rfl)).ex;have hzw : ∀ w',(zeroValue 36).run Tryz.prog w' = .ok z w' := fun w'=>by simp [zeroValue,typeInfo,k1,k3]
 have hz2:=zcs_vals k6;have k4' : info.size = 5:=k4;obtain ⟨news,hnews⟩ : ∃ news,news = (arr.toList.drop (j * 5)).take ((n - j) * 5):=⟨_,rfl⟩
 have hnl : news.length = (n - j) * 5:=by rw [hnews]; simp; omega
 have h1c : ∀ u∈news,u.oneCell' = true:=by
  intro u hu;obtain ⟨q,hq⟩:=List.getElem?_of_mem hu;have hql:=getElem_pos hq;rw [hnews,List.getElem?_take_of_lt (by omega),List.getElem?_drop,Array.getElem?_toList] at hq;exact h1 _ u (by omega) hq
 obtain ⟨o2,hA,hsrc⟩ : ∃ o2,(if C = j then (some (⟨k,0,none⟩ : Addr)) else some ⟨k,j * 5,none⟩) = some ⟨k,o2,none⟩∧Lies w.drew k o2 news:=by
  by_cases h : C = j
  ·refine ⟨0,by simp [h],fun q u hu=>?_⟩
   have:=getElem_pos hu;omega
  ·refine ⟨j * 5,by simp [h],fun q u hu=>?_⟩
   have hql:=getElem_pos hu;rw [hnews,List.getElem?_take_of_lt (by omega),List.getElem?_drop,Array.getElem?_toList] at hu;show (w.cell? _) = _
   simp [World.cell?,hb,hu]
 have hsr:=src_row (P:=Tryz.prog) (size:=info.size) (c:=C - j) (m:=n - j) Tryz.underlying26 (by rw [k4']; exact hnl) hsrc;obtain ⟨W1,hW1⟩ : ∃ W1,W1 = w.drew.setRow k (arr.toList.take (0 + i * info.size)++news++arr.toList.drop (0 + i * info.size + news.length)).toArray:=⟨_,rfl⟩
 have hb1 : W1.heap[k]? = some (.cells (arr.toList.take (0 + i * info.size)++news++arr.toList.drop (0 + i * info.size + news.length)).toArray T (0,0)):=by rw [hW1]; exact setRow_heap w.drew k arr _ T (0,0) hb
 obtain ⟨zl,hzl,hcl⟩:=run_clear_row (m:=n - (i + (n - j))) (lo:=(i + (n - j)) * 5) Tryz.underlying26 hzw hz2 (C - (i + (n - j))) hb1 (by omega) (by rw [k4',show ti36.zero.length = 5 from rfl]; simp only [List.size_toArray,List.length_append,List.length_take,List.length_drop,Array.length_toList]; omega);have hzl' : zl.length = (n - (i + (n - j))) * 5:=hzl;have hD:=del_world (zl:=zl) (news:=news) (a1:=0 + i * info.size) hb hij hj (by omega) hnews hzl' (by rw [k4']; omega) (a2:=(i + (n - j)) * 5) rfl rfl;rw [← hW1] at hD;obtain ⟨W2,hcl2,hD2⟩ : ∃ W2,(∀ ty,(Builtin.clear_ #[26] ty #[.slice (some ⟨k,(i + (n - j)) * 5,none⟩) (n - (i + (n - j))) (C - (i + (n - j)))]).run Tryz.prog W1 = .ok (.tuple #[]) W2)∧DelW w W2 k 5 n i j arr T:=⟨_,hcl,hD⟩
 have hW : Hid (W1 = w.drew.setRow k (arr.toList.take (0 + i * info.size)++news++arr.toList.drop (0 + i * info.size + news.length)).toArray):=hW1;have s1 : Hid (∀ u∈news,u.oneCell' = true):=h1c;have s2' : 0 + i * info.size + news.length≤arr.size:=by rw [k4',hnl]; omega
 have s2 : Hid (0 + i * info.size + news.length≤arr.size):=s2';have sD : Hid (DelW w W2 k 5 n i j arr T):=hD2;have sr : Hid (Src _ _ _ _ _ _ news):=hsr;clear hb1 hzl hzl' hzw hz2 k3 k4 k4' k5 k6 k7 hW1 hnews hnl h1c hsrc hD hsr h1 s2' hcl hD2
 go_enter Tryz.func30,Tryz.ntmps30
 go_wp2_with fail
 go_region_law_o (refine step_app_in rfl (.tmp 22) (.tmp 25) 26 rfl 36 info Tryz.underlying26 k1 k i C (by simp [Act.eval,Act.put]) _ (n - j) news (by simp [Act.eval,Act.put,hA]) sr.out arr T hb s1.out (by omega) s2.out ?_; rw [← hW.out])
 go_wp2
 go_ret
 exact ⟨rfl,sD.out⟩
theorem w11 : Walk tt G [(17,K17.G),(18,K18.G),(24,K24.G),(25,K25.G),(26,K26_31.G),(28,K28.G),(29,K29.G),(30,G30_32)] (fun d=>if d = 104 then [[5]] else []) Tryz.f11 K11:=by
 refine .of [(8,⟨[2,3,5,12,13,29,30,31],[5,42,51],[(12,none,42,5),(13,none,51,5)]⟩),(1000013,⟨[2,3,5,12,13,29,30,31],[5,42,51],[]⟩),(19,⟨[2,3,5,13,17,60,61,62],[5,42,51,71],[(17,none,71,32)]⟩),(1000028,⟨[13,17],[71,900013],[]⟩),(24,⟨[3,13,17],[71,900013],[(13,none,900013,0),(13,none,900013,5)]⟩)] false body11 Tryz.ntmps11 fun T hO hT ⟨a0,a1,a2,a3⟩ x hr=>⟨by simp,?_⟩
 simp only [tabAll] at hT; simp only at hr ⊢; unfold c11;unfold Lreplace_Insert at hr;refine go ?_;obtain ⟨y89,ehy89,hr⟩:=bN hr G24_eq;refine go ?_;by_cases c90 : y89 = true
 ·replace hr:=ifN hr
  refine go ?_;obtain ⟨_,ehy91,hr⟩:=bN hr G25_eq;refine go ?_;obtain ⟨y92,ehy92,hr⟩:=bN hr G26_31_eq;refine go ?_;by_cases c93 : y92 = true
  ·replace hr:=ifP hr
   refine go ?_;exact fin hr
  ·replace hr:=ifN hr
   refine go ?_;refine lp 8 (fun (⟨p19,p20,p21⟩ : Int×(List Tapi_Entry)×(List Tapi_Entry))=>⟨(und 2++([.one (.v (.int .i64 a2)),.one (.v (.int .i64 a3))]++(und 1++([.ptr 5 0 0 0 4]++(und 6++([.one (.ms 42 0 0 (p20.length) 5),.one (.ms 51 0 0 (p21.length) 5)]++(und 15++([.one (.slice .no (List.map eapi_Entry a0)),.one (.v (.int .i64 (a0.length : Int))),.one (.v (.int .i64 p19))]++(und 75)))))))) : List PV),([(5,⟨0,4,[[.v (.int .u32 a1.1),.slice .no (List.map eapi_Input a1.2.1),.slice .no (List.map eapi_Output a1.2.2.1),.v (.int .u32 a1.2.2.2)]],false,false⟩),(42,⟨0,5,List.map eapi_Entry p20,false,true⟩),(51,⟨0,5,List.map eapi_Entry p21,false,true⟩)] : Boxes)⟩) hr ?_;rintro ⟨p19,p20,p21⟩ x108r hr108
   simp only [Lreplace_Insert_s1] at hr108;unfold b11_1;refine nst ?_;refine go ?_;by_cases c109 : p19 < (a0.length : Int)
   ·have c109N:=nrm c109
    replace hr108:=ifP hr108
    refine go ?_;obtain ⟨x110,⟨_,_,_⟩,hr108⟩:=bI hr108;refine go ?_;obtain ⟨y111,ehy111,hr108⟩:=bN hr108 G17_eq;refine go ?_;refine ee_J hr108 (.normal) (fun (s : (List Tapi_Entry)×(List Tapi_Entry))=>match s with | (p84,p85)=>(⟨(und 2++([.one (.v (.int .i64 a2)),.one (.v (.int .i64 a3))]++(und 1++([.ptr 5 0 0 0 4]++(und 6++([.one (.ms 42 0 0 (p84.length) 5),.one (.ms 51 0 0 (p85.length) 5)]++(und 15++([.one (.slice .no (List.map eapi_Entry a0)),.one (.v (.int .i64 (a0.length : Int))),.one (.v (.int .i64 p19))]++(und 75)))))))) : List PV),([(5,⟨0,4,[[.v (.int .u32 a1.1),.slice .no (List.map eapi_Input a1.2.1),.slice .no (List.map eapi_Output a1.2.2.1),.v (.int .u32 a1.2.2.2)]],false,false⟩),(42,⟨0,5,List.map eapi_Entry p84,false,true⟩),(51,⟨0,5,List.map eapi_Entry p85,false,true⟩)] : Boxes)⟩ : ASt)) (fun (s : (List Tapi_Entry)×(List Tapi_Entry))=>match s with | (p84,p85)=>Lreplace_Insert_k4 p19 p84 p85) ?_ ?_
    ·rintro ⟨p84,p85⟩ hk116
     change Lreplace_Insert_k4 p19 p84 p85 = _ at hk116
     refine go ?_;refine nst ?_;unfold Lreplace_Insert_k4 at hk116;refine ee_regJ rfl (kq:=⟨[2,3,5,12,13,29,30,31],[5,42,51],[]⟩) rfl (by simp [joinSt, *]; rfl) (by simp [*] <;> rfl) ?_;exact bk hk116
    ·intro J116
     simp only [pq,reduceCtorEq] at J116;by_cases c117 : y111 = true
     ·replace hr108:=ifP hr108
      refine go ?_;obtain ⟨_,hr108⟩:=bC hr108;have n1_u118_0 : (p20.length + 1) * 72≤140737488355328:=by omega
      have n2_u118_0 : p20.length + 1≤9223372036854775807:=by omega
      refine go ?_;exact jn 1000013 (J116 (p20++[x110],p21) hr108)
     ·replace hr108:=ifN hr108
      refine go ?_;obtain ⟨y119,ehy119,hr108⟩:=bN hr108 G28_eq;obtain ⟨_,hr108⟩:=bC hr108;have n1_u120_0 : (p21.length + 1) * 72≤140737488355328:=by omega
      have n2_u120_0 : p21.length + 1≤9223372036854775807:=by omega
      refine go ?_;exact jn 1000013 (J116 (p20,p21++[((y119.1,y119.2.1,y119.2.2.1,y119.2.2.2),x110.2)]) hr108)
   ·have c109N:=nrm c109
    replace hr108:=ifN hr108
    refine go ?_;obtain ⟨r121,q121,rfl⟩:=ms hr108;refine go ?_;rintro rfl
    refine go ?_;unfold Lreplace_Insert_k1 at q121;refine go ?_;obtain ⟨y122,ehy122,q121⟩:=bN q121 G18_eq;refine go ?_;rcases eqT (y122 = 0) with c123 | c123
    ·replace q121:=ifN q121
     refine go ?_;refine lp 19 (fun (⟨p39,p40⟩ : Int×(List (Arr 32)))=>⟨(und 2++([.one (.v (.int .i64 a2)),.one (.v (.int .i64 a3))]++(und 1++([.ptr 5 0 0 0 4]++(und 7++([.one (.ms 51 0 0 (p21.length) 5)]++(und 3++([.one (.ms 71 0 0 (p40.length) 32)]++(und 42++([.one (.ms 42 0 0 (p20.length) 5),.one (.v (.int .i64 (p20.length : Int))),.one (.v (.int .i64 p39))]++(und 44)))))))))) : List PV),([(5,⟨0,4,[[.v (.int .u32 a1.1),.slice .no (List.map eapi_Input a1.2.1),.slice .no (List.map eapi_Output a1.2.2.1),.v (.int .u32 a1.2.2.2)]],false,false⟩),(42,⟨0,5,List.map eapi_Entry p20,false,true⟩),(51,⟨0,5,List.map eapi_Entry p21,false,true⟩),(71,⟨0,32,List.map (arC .u8) p40,false,true⟩)] : Boxes)⟩) q121 ?_;rintro ⟨p39,p40⟩ x131r hr131
     simp only [Lreplace_Insert_s2] at hr131;unfold b11_2;refine nst ?_;refine go ?_;by_cases c132 : p39 < (p20.length : Int)
     ·have c132N:=nrm c132
      replace hr131:=ifP hr131
      refine go ?_;obtain ⟨_,⟨_,_,_⟩,hr131⟩:=bA hr131;obtain ⟨_,hx134,hr131⟩:=bs hr131;have ghx134:=getE_of hx134;refine go ?_;obtain ⟨_,ehy135,hr131⟩:=bN hr131 G25_eq;obtain ⟨_,hr131⟩:=bC hr131;have n1_u136_0 : (p40.length + 1) * 32≤140737488355328:=by omega
      have n2_u136_0 : p40.length + 1≤9223372036854775807:=by omega
      refine go ?_;exact bk hr131
     ·have c132N:=nrm c132
      replace hr131:=ifN hr131
      refine go ?_;obtain ⟨r137,q137,rfl⟩:=ms hr131;refine go ?_;rintro rfl
      refine go ?_;unfold Lreplace_Insert_k2 at q137;obtain ⟨_,ehy138,q137⟩:=bN q137 G28_eq;obtain ⟨_,q137⟩:=bC q137;have n1_u139_0 : (p21.length + 1) * 72≤140737488355328:=by omega
      have n2_u139_0 : p21.length + 1≤9223372036854775807:=by omega
      refine go ?_;refine ee_J q137 (.exit 4) (fun (s : (List Tapi_Entry)×(List (Arr 32)))=>match s with | (p61,p62)=>(⟨(und 13++([.one (.ms 900013 0 0 (p61.length) 5)]++(und 3++([.one (.ms 71 0 0 (p62.length) 32)]++(und 89)))) : List PV),([(71,⟨0,32,List.map (arC .u8) p62,false,true⟩),(900013,⟨0,5,List.map eapi_Entry p61,false,true⟩)] : Boxes)⟩ : ASt)) (fun (s : (List Tapi_Entry)×(List (Arr 32)))=>match s with | (p61,p62)=>Lreplace_Insert_k3 p61 p62) ?_ ?_
      ·rintro ⟨p61,p62⟩ hk151
       change Lreplace_Insert_k3 p61 p62 = _ at hk151
       refine go ?_;refine nst ?_;unfold Lreplace_Insert_k3 at hk151;refine ee_seq_regJ rfl (kq:=⟨[13,17],[71,900013],[]⟩) rfl (by simp [joinSt, *]; rfl) (by simp [*] <;> rfl) ?_;refine go ?_;exact fin hk151
      ·intro J151
       simp only [pq,reduceCtorEq] at J151;refine lp 24 (fun (⟨p61,p62⟩ : (List Tapi_Entry)×(List (Arr 32)))=>⟨(und 3++([.one (.v (.int .i64 a3))]++(und 9++([.one (.ms 900013 0 0 (p61.length) 5)]++(und 3++([.one (.ms 71 0 0 (p62.length) 32)]++(und 89)))))) : List PV),([(71,⟨0,32,List.map (arC .u8) p62,false,true⟩),(900013,⟨0,5,List.map eapi_Entry p61,false,true⟩)] : Boxes)⟩) q137 ?_;rintro ⟨p61,p62⟩ x152r hr152
       simp only [Lreplace_Insert_s3] at hr152;unfold b11_3;refine nst ?_;refine go ?_;by_cases c153 : 0 < (p61.length : Int)
       ·have c153N:=nrm c153
        refine go ?_;by_cases c154 : a3 < (p61.length : Int)
        ·have c154N:=nrm c154
         replace hr152:=ifP hr152
         refine go ?_;obtain ⟨_,ehy155,hr152⟩:=bN hr152 G29_eq;refine go ?_;obtain ⟨_,⟨_,_,_⟩,hr152⟩:=bA hr152;obtain ⟨_,hx157,hr152⟩:=bs hr152;have ghx157:=getE_of hx157;obtain ⟨_,ehy158,hr152⟩:=bN hr152 G25_eq;obtain ⟨_,hr152⟩:=bC hr152;have n1_u159_0 : (p62.length + 1) * 32≤140737488355328:=by omega
         have n2_u159_0 : p62.length + 1≤9223372036854775807:=by omega
         refine go ?_;obtain ⟨_,ehy160,hr152⟩:=bG hr152 fun _=>G30_32_eq
         simp only [E30_32,R30_32,nf,nfs] at ehy160;refine go ?_;exact bk hr152
        ·have c154N:=nrm c154
         replace hr152:=ifN hr152
         refine go ?_;obtain ⟨r161,q161,rfl⟩:=ms hr152;refine go ?_;rintro rfl
         refine go ?_;exact jn 1000028 (J151 (p61,p62) q161)
       ·have c153N:=nrm c153
        have c153L : ¬ 0 < p61.length:=by omega
        refine go ?_
        replace hr152:=ifN hr152
        refine go ?_;obtain ⟨r162,q162,rfl⟩:=ms hr152;refine go ?_;rintro rfl
        refine go ?_;exact jn 1000028 (J151 (p61,p62) q162)
    ·replace q121:=ifP q121
     refine go ?_;exact fin q121
 ·replace hr:=ifP hr
  refine go ?_;exact fin hr
theorem w32 : Walk tt G [] (fun _=>[]) Tryz.f32 K32:=by
 refine .of [(2,⟨[2,3,5],[2,3],[]⟩),(5,⟨[2,3,5,6],[2,3],[]⟩)] false body32 Tryz.ntmps32 fun T hO hT ⟨a0,a1⟩ x hr=>⟨by simp,?_⟩
 simp only [tabAll] at hT; simp only at hr ⊢; unfold c32;unfold Lref36_Conflict at hr;refine go ?_;refine lp 2 (fun (p18 : Int)=>⟨(und 2++([.ptr 2 0 0 0 4,.ptr 3 0 0 0 4]++(und 1++([.one (.v (.int .i64 p18))]++(und 28)))) : List PV),([(2,⟨0,4,[[.v (.int .u32 a0.1),.slice .no (List.map eapi_Input a0.2.1),.slice .no (List.map eapi_Output a0.2.2.1),.v (.int .u32 a0.2.2.2)]],false,false⟩),(3,⟨0,4,[[.v (.int .u32 a1.1),.slice .no (List.map eapi_Input a1.2.1),.slice .no (List.map eapi_Output a1.2.2.1),.v (.int .u32 a1.2.2.2)]],false,false⟩)] : Boxes)⟩) hr ?_;rintro p18 x54r hr54
 simp only [Lref36_Conflict_s1] at hr54;unfold b32_1;refine nst ?_;refine go ?_;by_cases c55 : p18 < (a0.2.1.length : Int)
 ·have c55N:=nrm c55
  replace hr54:=ifP hr54
  refine go ?_;refine lp 5 (fun (p32 : Int)=>⟨(und 2++([.ptr 2 0 0 0 4,.ptr 3 0 0 0 4]++(und 1++([.one (.v (.int .i64 p18)),.one (.v (.int .i64 p32))]++(und 27)))) : List PV),([(2,⟨0,4,[[.v (.int .u32 a0.1),.slice .no (List.map eapi_Input a0.2.1),.slice .no (List.map eapi_Output a0.2.2.1),.v (.int .u32 a0.2.2.2)]],false,false⟩),(3,⟨0,4,[[.v (.int .u32 a1.1),.slice .no (List.map eapi_Input a1.2.1),.slice .no (List.map eapi_Output a1.2.2.1),.v (.int .u32 a1.2.2.2)]],false,false⟩)] : Boxes)⟩) hr54 ?_;rintro p32 x63r hr63
  simp only [Lref36_Conflict_s2] at hr63;unfold b32_2;refine nst ?_;refine go ?_;by_cases c64 : p32 < (a1.2.1.length : Int)
  ·have c64N:=nrm c64
   replace hr63:=ifP hr63
   refine go ?_;obtain ⟨x65,⟨_,_,_⟩,hr63⟩:=bI hr63;obtain ⟨x66,⟨_,_,_⟩,hr63⟩:=bI hr63;refine go ?_;rcases eqT (x65.1.1 = x66.1.1) with c67 | c67
   ·rcases eqT (x65.1.2 = x66.1.2) with c68 | c68
    ·replace hr63:=ifP hr63
     refine go ?_;exact fin hr63
    ·replace hr63:=ifN hr63
     refine go ?_;exact bk hr63
   ·replace hr63:=ifN hr63
    refine go ?_;exact bk hr63
  ·have c64N:=nrm c64
   replace hr63:=ifN hr63
   refine go ?_;obtain ⟨r69,q69,rfl⟩:=ms hr63;refine go ?_;rintro rfl
   refine go ?_;unfold Lref36_Conflict_k2 at q69;refine go ?_;exact bk q69
 ·have c55N:=nrm c55
  replace hr54:=ifN hr54
  refine go ?_;obtain ⟨r70,q70,rfl⟩:=ms hr54;refine go ?_;rintro rfl
  refine go ?_;unfold Lref36_Conflict_k1 at q70;refine go ?_;exact fin q70
theorem w90 : Walk tt G [] (fun _=>[]) Tryz.f90 K90:=by
 refine .of [] false body90 Tryz.ntmps90 fun T hO hT a0 x hr=>⟨by simp,?_⟩
 simp only [tabAll] at hT; simp only at hr ⊢; unfold c90;unfold Lref09_Null at hr;refine go ?_;exact fin hr
theorem w63 : Walk tt G [(90,K90.G)] (fun _=>[]) Tryz.f63 K63:=by
 refine .of [] false body63 Tryz.ntmps63 fun T hO hT a0 x hr=>⟨by simp,?_⟩
 simp only [tabAll] at hT; simp only at hr ⊢; unfold c63;unfold Lref09_Coinbase at hr;refine go ?_;rcases eqT ((a0.2.1.length : Int) = 1) with c4 | c4
 ·have c4N:=nrm c4
  replace hr:=ifPb hr
  obtain ⟨_,hz5,hr⟩:=bs hr;obtain ⟨_,hx6,hz5⟩:=bs hz5;have hx6c:=getE_of hx6;obtain ⟨_,ehy7,hz5⟩:=bN hz5 G90_eq;obtain rfl:=Option.some.inj hz5;refine go ?_;exact fin hr
 ·have c4N:=nrm c4
  replace hr:=ifNb hr
  obtain ⟨_,hz8,hr⟩:=bs hr;obtain rfl:=Option.some.inj hz8;refine go ?_;exact fin hr
end Go.Proofs.YtjdoijdjeapekaaGreatDoor
