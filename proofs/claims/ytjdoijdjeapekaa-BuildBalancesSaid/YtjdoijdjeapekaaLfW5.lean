import Derived.Test.YtjdoijdjeapekaaLfK
import Derived.Test.YtjdoijdjeapekaaCode
namespace Go.Proofs.Ytjdoijdjeapekaa
open Go.RowKit
open Go.Av
open Go.Lc
set_option maxRecDepth 100000
set_option linter.unusedSimpArgs false
set_option linter.unusedVariables false
set_option maxHeartbeats 4000000
variable {G : Glob}
theorem cnil53 (c : Nat) (w : World) : Calls Try.prog 53 #[.slice none 0 c] w fun e w'=>e = .returned (.slice none 0 0)∧w' = w:=by
 have h1 : ∀ w,(binOp .eql 22 (.slice none 0 c) (.slice none 0 0)).run Try.prog w = .ok (.bool true) w:=fun w=>by
  have h : ∀ d : Nat,(Op.equalIn (d + 1) 22 (.slice none 0 c) (.slice none 0 0)).run Try.prog w = .ok true w:=fun d=>by
   simp [Op.equalIn,run_underlying Try.underlying22]
  have h' : (Op.equal 22 (.slice none 0 c) (.slice none 0 0)).run Try.prog w = .ok true w:=h 9999;simp [binOp,h']
 go_enter Try.func53,Try.ntmps53
 go_wp2
 go_ret
 exact ⟨rfl,rfl⟩
theorem csome53 (b : Addr) (c : Nat) (w : World) : Calls Try.prog 53 #[.slice (some b) 0 c] w fun e w'=>e = .returned (.slice (some ⟨w.heap.size,0,none⟩) 0 0)∧w' = w.alloc (.cells #[] 3):=by
 have h1 : ∀ w,(binOp .eql 22 (.slice (some b) 0 c) (.slice none 0 0)).run Try.prog w = .ok (.bool false) w:=fun w=>by
  have h : (Op.equal 22 (.slice (some b) 0 c) (.slice none 0 0)).run Try.prog w = .ok false w:=eqIn_slice 9999 Try.underlying22;simp [binOp,h]
 have h2 : ∀ w,(Instr.buildSlice 22 0 #[]).run Try.prog w = .ok (.slice (some ⟨w.heap.size,0,none⟩) 0 0) (w.alloc (.cells #[] 3)):=fun w=>by kernel_rfl
 have hi0 : (Try.prog.info? 3).isSome = true:=by kernel_rfl
 obtain ⟨i,hi⟩:=Option.isSome_iff_exists.1 hi0;have h3 : ∀ (w : World) (x : Option Addr) ty,(Builtin.append_ #[22,22] ty #[.slice x 0 0,.slice (some b) 0 c]).run Try.prog w = .ok (.slice x 0 0) w:=fun w x ty=>run_append_zero w 22 ty 3 i Try.underlying22 hi x (some b) 0 0 c (Nat.le_refl _)
 clear hi hi0
 go_enter Try.func53,Try.ntmps53
 go_wp2
 go_ret
 exact ⟨rfl,rfl⟩
def kp53 : Keep:=fun i=>⟨[],[],[]⟩
theorem w53 {T : Tab} (a0 : (List Int)) (hne : a0≠[]) (x : (List Int)) (hr : Lslices_Clone_of__int_int a0 = some x) : ∃ kp fl n,execFn tt T G kp fl n Try.f53 [.one (.slice .no (intsR .i64 a0))] = some (.one (.own 1 (intsR .i64 a0)),[]):=by
 refine fnE (kp:=kp53) (w:=true) body53 (by simp) ?_;unfold c53;rw [Try.ntmps53];unfold Lslices_Clone_of__int_int at hr;obtain ⟨_,u1,hr⟩:=bs hr;have u2:=chk_some u1;have n1 : a0.length * 8≤140737488355328:=by omega
 have n2 : a0.length≤9223372036854775807:=by omega
 have ne : intsR .i64 a0≠[]:=fun h=>hne (by simpa [intsR] using h)
 refine ee_seq_reg rfl (by simp; rfl) ?_
 first
 | (refine ee_assoc ?_; refine ee_seq_reg rfl (by simp [hne,ne]; rfl) ?_)
 | refine ee_seq_reg rfl (by simp [hne,ne]; rfl) ?_
 refine ee_seq_condF (by simp [bV]) ?_;refine ee_seq_skip ?_;refine ee_seq_reg rfl (by simp [n1,n2]; rfl) ?_;refine ee_ret ?_;simp [FinQ]
theorem v53 : Impl Try.prog G 53 G53:=by
 refine clone_impl (e:=1) (t:=3) (N:=0) (rows:=fun l : (List Int)=>intsR .i64 l) Try.func53 (by kernel_rfl) (by kernel_rfl) G53 (fun ps r hF=>?_) rfl (fun l hl r hF=>?_) (fun x c w=>?_)
 ·obtain ⟨x,rfl,h⟩:=lift_inv hF
  obtain ⟨y,hy,rfl⟩:=Option.map_eq_some_iff.1 h;unfold Lslices_Clone_of__int_int at hy;obtain ⟨_,u1,hy⟩:=bs hy;obtain rfl:=Option.some.inj hy;exact ⟨x,rfl,rfl⟩
 ·refine impl_of (T:=Av.tab []) mixed htt (Av.tab_ok trivial) Try.func53 body53 (by kernel_rfl) fun ps r' ho hF'=>?_
  split at hF'
  ·rename_i hps
   subst hps;injection hF' with hF';subst hF';obtain ⟨x,hx,h⟩:=lift_inv hF;obtain rfl:=E53i l x hx;obtain ⟨y,hy,rfl⟩:=Option.map_eq_some_iff.1 h;have hy' := hy;unfold Lslices_Clone_of__int_int at hy';obtain ⟨_,u1,hy'⟩:=bs hy';obtain rfl:=Option.some.inj hy';exact w53 l hl _ hy
  ·cases hF'
 ·cases x with
  | none=>exact (cnil53 c w).mono fun e w' h=>⟨none,h.1,.inl h.2⟩
  | some b=>exact (csome53 b c w).mono fun e w' h=>⟨_,h.1,.inr h.2⟩
def kp45_1 : Keep:=fun i=>⟨[],[],[]⟩
theorem w45_1 {T : Tab} (n : Nat) (hO : T.own = fun d=>if d = 67 then [[0,0,1]] else if d = 86 then [[0,0,1]] else []) (hT45 : T 45 = some (G45_1n n)) (hT53 : T 53 = some G53) (a0 : Tselection_search) (a1 : Int) (a2 : Int) (x : Tselection_search) (hr : Lselection_search_visit_b (Lselection_search_visit_n n) a0 a1 a2 = some x) : ∃ kp fl n,execFn tt T G kp fl n Try.f45 (E45_1 (a0,a1,a2)) = some (R45_1 (a0,a1,a2) x):=by
 simp only [E45_1,R45_1];refine fnE (kp:=kp45_1) (w:=false) body45 (by simp) ?_;unfold c45;rw [Try.ntmps45];unfold Lselection_search_visit_b at hr;refine ee_assoc ?_;refine ee_seq_reg rfl (by simp []; rfl) ?_;by_cases c10 : a0.2.1≤a2
 ·skip
  rw [if_pos c10] at hr;refine ee_seq_condT (by simp [bV,c10]) ?_;refine ee_assoc ?_;refine ee_assoc ?_;by_cases c11 : (a0.2.2.2.1.length : Int) = 0
  ·skip
   have c11N:=c11;try simp at c11N
   refine ee_seq_reg rfl (by simp [c10,eq_true c11,eq_true c11N]; rfl) ?_;rw [if_pos] at hr;rotate_left
   ·simp [c10,eq_true c11,eq_true c11N]
   refine ee_seq_condT (by simp [bV,c10,eq_true c11,eq_true c11N]) ?_;obtain ⟨y13,hy13,hr⟩:=bs hr;have ehy13:=G53_eq hy13;simp only [E53,R53,nf,nfs] at ehy13;refine ee_seq_reg rfl (by simp [hO,hT53,ehy13,c10,eq_true c11,eq_true c11N]; rfl) ?_;unfold Lselection_search_visit_k1 at hr;refine ee_seq_ret ?_;obtain rfl:=Option.some.inj hr;simp [FinQ,hO,hT53,ehy13,c10,eq_true c11,eq_true c11N]
  ·skip
   have c11N:=c11;try simp at c11N
   first | have c11M : (_ = _) = True:=eq_true c11N | have c11M:=c11N
   refine ee_seq_reg rfl (by simp [c10,c11,c11M] <;> rfl) ?_;by_cases c16 : a2 < a0.2.2.2.2
   ·skip
    rw [if_pos] at hr;rotate_left
    ·simp [c10,c11,c11M,c16]
    refine ee_seq_condT (by simp [bV,c10,c11,c11M,c16]) ?_;obtain ⟨y17,hy17,hr⟩:=bs hr;have ehy17:=G53_eq hy17;simp only [E53,R53,nf,nfs] at ehy17;refine ee_seq_reg rfl (by simp [hO,hT53,ehy17,c10,c11,c11M,c16] <;> rfl) ?_;unfold Lselection_search_visit_k1 at hr;refine ee_seq_ret ?_;obtain rfl:=Option.some.inj hr;simp [FinQ,hO,hT53,ehy17,c10,c11,c11M,c16,c11N]
   ·skip
    rw [if_neg] at hr;rotate_left
    ·simp [c10,c11,c11M,c16]
    refine ee_seq_condF (by simp [bV,c10,c11,c11M,c16]) ?_;refine ee_seq_skip ?_;unfold Lselection_search_visit_k1 at hr;refine ee_seq_ret ?_;obtain rfl:=Option.some.inj hr;simp [FinQ,c10,c11,c11M,c16,c11N]
 ·skip
  rw [if_neg c10] at hr;refine ee_seq_condF (by simp [bV,c10]) ?_;refine ee_seq_skip ?_;refine ee_assoc ?_;refine ee_seq_reg rfl (by simp [c10]; rfl) ?_;by_cases c18 : a1 = (a0.1.length : Int)
  ·skip
   have c18N:=c18;try simp at c18N
   rw [if_pos c18] at hr;refine ee_seq_condT (by simp [bV,c10,eq_true c18,eq_true c18N]) ?_;refine ee_seq_ret ?_;obtain rfl:=Option.some.inj hr;simp [FinQ,c10,eq_true c18,eq_true c18N]
  ·skip
   have c18N:=c18;try simp at c18N
   first | have c18M : (_ = _) = True:=eq_true c18N | have c18M:=c18N
   rw [if_neg c18] at hr;refine ee_seq_condF (by simp [bV,c10,c18,c18M]) ?_;refine ee_seq_skip ?_;obtain ⟨_,u19,hr⟩:=bs hr;have u19_0:=chk_some u19;have n1_u19_0 : (a0.2.2.1.length + 1) * 8≤140737488355328:=by omega
   have n2_u19_0 : a0.2.2.1.length + 1≤9223372036854775807:=by omega
   refine ee_seq_reg rfl (by simp [n1_u19_0,n2_u19_0,c10,c18,c18M] <;> rfl) ?_;obtain ⟨x20,hx20,hr⟩:=bs hr;obtain ⟨hx20a,hx20b⟩:=idx_some hx20;have hx20c:=getE_of hx20b;obtain ⟨y21,hy21,hr⟩:=bs hr;have ehy21:=G45_1n_eq hy21;simp only [E45_1,R45_1,nf,nfs] at ehy21;refine ee_seq_reg rfl (by simp [hx20a,hx20b,hx20c,hO,hT45,ehy21,c10,c18,c18M] <;> rfl) ?_;obtain ⟨_,u22,hr⟩:=bs hr;obtain ⟨u22_0,u22_1⟩:=chk_some u22;have sf23 : (IntKind.i64.wrap ((y21.2.2.1.length : Int) - 1)).toNat≤y21.2.2.1.length:=by omega
   have sf24 : 0≤IntKind.i64.wrap ((y21.2.2.1.length : Int) - 1):=by omega
   refine ee_seq_draw rfl (by simp [u22_0,u22_1,sf23,sf24,c10,c18,c18M]; first | exact ⟨rfl,rfl⟩ | rfl) (by kernel_rfl) ?_;obtain ⟨y25,hy25,hr⟩:=bs hr;have ehy25:=G45_1n_eq hy25;simp only [E45_1,R45_1,nf,nfs] at ehy25;refine ee_reg rfl (by simp [hO,hT45,ehy25,c10,c18,c18M,u22_0,u22_1] <;> rfl) ?_;obtain rfl:=Option.some.inj hr;simp [FinQ,hO,hT45,ehy25,c10,c18,c18M,u22_0,u22_1,c18N]
theorem w54_2 : Walk tt G [(44,K44.G)] (fun _=>[]) Try.f54 K54_2:=by
 refine .of [] false body54 Try.ntmps54 fun T hO hT ⟨a0,a1,a2⟩ x hr=>⟨by simp,?_⟩
 simp only [tabAll] at hT; simp only at hr ⊢; unfold c54;unfold Lselection_certificate_ends at hr;refine go ?_;by_cases c4 : a0.2.2.1≤a2
 ·replace hr:=ifPb hr
  obtain ⟨_,hz5,hr⟩:=bs hr;obtain rfl:=Option.some.inj hz5;refine go ?_;exact fin hr
 ·replace hr:=ifNb hr
  obtain ⟨_,hz6,hr⟩:=bs hr;obtain ⟨⟨_,_⟩,hz6⟩:=bC hz6;have sf8 : (a1).toNat≤a0.1.length:=by omega
  obtain ⟨_,ehy9,hz6⟩:=bN hz6 G44_eq;obtain rfl:=Option.some.inj hz6;refine go ?_;exact fin hr
def kp46_3 : Keep:=fun i=>⟨[],[],[]⟩
theorem w46_3 {T : Tab} (n : Nat) (hO : T.own = fun d=>if d = 15 then [[0,0,0,1]] else if d = 55 then [[0,0,0,1]] else if d = 60 then [[0,0,0,1]] else []) (hT46 : T 46 = some (G46_3n n)) (hT54 : T 54 = some K54_2.G) (a0 : Tselection_certificate) (a1 : Int) (a2 : Int) (x : Tselection_certificate) (hr : Lselection_certificate_branch_b (Lselection_certificate_branch_n n) a0 a1 a2 = some x) : ∃ kp fl n,execFn tt T G kp fl n Try.f46 (E46_3 (a0,a1,a2)) = some (R46_3 (a0,a1,a2) x):=by
 simp only [E46_3,R46_3];refine fnE (kp:=kp46_3) (w:=false) body46 (by simp) ?_;unfold c46;rw [Try.ntmps46];unfold Lselection_certificate_branch_b at hr;refine ee_assoc ?_;refine ee_seq_reg rfl (by simp []; rfl) ?_;by_cases c7 : 16384 < (a0.2.2.2.length : Int)
 ·skip
  have c7N:=c7;try simp at c7N
  first | have c7M : (_ = _) = True:=eq_true c7N | have c7M:=c7N
  rw [if_pos c7] at hr;refine ee_seq_condT (by simp [bV,c7,c7M]) ?_;refine ee_seq_ret ?_;obtain rfl:=Option.some.inj hr;simp [FinQ,c7,c7M,c7N]
 ·skip
  have c7N:=c7;try simp at c7N
  first | have c7M : (_ = _) = True:=eq_true c7N | have c7M:=c7N
  rw [if_neg c7] at hr;refine ee_seq_condF (by simp [bV,c7,c7M]) ?_;refine ee_seq_skip ?_;refine ee_assoc ?_;obtain ⟨y8,hy8,hr⟩:=bs hr;have ehy8:=G54_2_eq hy8;simp only [K54_2,nf,nfs] at ehy8;by_cases c9 : y8.1 = true
  ·skip
   refine ee_seq_reg rfl (by simp [hO,hT54,ehy8,c7,c7M,c9] <;> rfl) ?_;rw [if_pos] at hr;rotate_left
   ·simp [c7,c7M,c9]
   refine ee_seq_condT (by simp [bV,c7,c7M,c9]) ?_;refine ee_assoc ?_;obtain ⟨_,u10,hr⟩:=bs hr;have u10_0:=chk_some u10;have n1_u10_0 : y8.2.2.2.2.length + 1≤140737488355328:=by omega
   have n2_u10_0 : y8.2.2.2.2.length + 1≤9223372036854775807:=by omega
   refine ee_seq_reg rfl (by simp [n1_u10_0,n2_u10_0,c7,c7M,c9] <;> rfl) ?_;refine ee_seq_ret ?_;obtain rfl:=Option.some.inj hr;simp [FinQ,n1_u10_0,n2_u10_0,c7,c7M,c9,c7N]
  ·skip
   refine ee_seq_reg rfl (by simp [hO,hT54,ehy8,c7,c7M,c9] <;> rfl) ?_;by_cases c11 : a1 = (y8.2.1.length : Int)
   ·skip
    have c11N:=c11;try simp at c11N
    rw [if_pos] at hr;rotate_left
    ·simp [c7,c7M,c9,eq_true c11,eq_true c11N]
    refine ee_seq_condT (by simp [bV,c7,c7M,c9,eq_true c11,eq_true c11N]) ?_;refine ee_assoc ?_;obtain ⟨_,u12,hr⟩:=bs hr;have u12_0:=chk_some u12;have n1_u12_0 : y8.2.2.2.2.length + 1≤140737488355328:=by omega
    have n2_u12_0 : y8.2.2.2.2.length + 1≤9223372036854775807:=by omega
    refine ee_seq_reg rfl (by simp [n1_u12_0,n2_u12_0,c7,c7M,c9,eq_true c11,eq_true c11N] <;> rfl) ?_;refine ee_seq_ret ?_;obtain rfl:=Option.some.inj hr;simp [FinQ,n1_u12_0,n2_u12_0,c7,c7M,c9,eq_true c11,eq_true c11N,c7N]
   ·skip
    have c11N:=c11;try simp at c11N
    first | have c11M : (_ = _) = True:=eq_true c11N | have c11M:=c11N
    rw [if_neg] at hr;rotate_left
    ·simp [c7,c7M,c9,c11,c11M]
    refine ee_seq_condF (by simp [bV,c7,c7M,c9,c11,c11M]) ?_;refine ee_seq_skip ?_;obtain ⟨_,u13,hr⟩:=bs hr;have u13_0:=chk_some u13;have n1_u13_0 : y8.2.2.2.2.length + 1≤140737488355328:=by omega
    have n2_u13_0 : y8.2.2.2.2.length + 1≤9223372036854775807:=by omega
    refine ee_seq_reg rfl (by simp [n1_u13_0,n2_u13_0,c7,c7M,c9,c11,c11M] <;> rfl) ?_;obtain ⟨x14,hx14,hr⟩:=bs hr;obtain ⟨hx14a,hx14b⟩:=idx_some hx14;have hx14c:=getE_of hx14b;obtain ⟨y15,hy15,hr⟩:=bs hr;have ehy15:=G46_3n_eq hy15;simp only [E46_3,R46_3,nf,nfs] at ehy15;refine ee_seq_reg rfl (by simp [hx14a,hx14b,hx14c,hO,hT46,ehy15,c7,c7M,c9,c11,c11M] <;> rfl) ?_;obtain ⟨y16,hy16,hr⟩:=bs hr;have ehy16:=G46_3n_eq hy16;simp only [E46_3,R46_3,nf,nfs] at ehy16;refine ee_reg rfl (by simp [hO,hT46,ehy16,c7,c7M,c9,c11,c11M] <;> rfl) ?_;obtain rfl:=Option.some.inj hr;simp [FinQ,hO,hT46,ehy16,c7,c7M,c9,c11,c11M,c7N,c11N]
end Go.Proofs.Ytjdoijdjeapekaa
