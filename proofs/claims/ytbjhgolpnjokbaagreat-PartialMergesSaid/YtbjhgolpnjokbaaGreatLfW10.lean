import Derived.Test.YtbjhgolpnjokbaaGreatLfK
import Derived.Test.YtbjhgolpnjokbaaGreatCode
import Derived.Test.YtbjhgolpnjokbaaGreatBl
namespace Go.Proofs.YtbjhgolpnjokbaaGreat
open Go.RowKit
open Go.Av
open Go.Lc
set_option maxRecDepth 100000
set_option linter.unusedSimpArgs false
set_option linter.unusedVariables false
set_option maxHeartbeats 4000000
variable {G : Glob}
theorem Ztu (c : Nat) (w : World) : Calls Tryz.prog 56 #[.slice none 0 c] w fun e w'=>e = .returned (.slice none 0 0)∧w' = w:=by
 have h1 : ∀ w,(binOp .eql 49 (.slice none 0 c) (.slice none 0 0)).run Tryz.prog w = .ok (.bool true) w:=fun w=>by
  have h : ∀ d : Nat,(Op.equalIn (d + 1) 49 (.slice none 0 c) (.slice none 0 0)).run Tryz.prog w = .ok true w:=fun d=>by
   simp [Op.equalIn,run_underlying Tryz.underlying49]
  have h' : (Op.equal 49 (.slice none 0 c) (.slice none 0 0)).run Tryz.prog w = .ok true w:=h 9999;simp [binOp,h']
 go_enter Tryz.func56,Tryz.ntmps56
 go_wp2
 go_ret
 exact ⟨rfl,rfl⟩
theorem Zsc (b : Addr) (c : Nat) (w : World) : Calls Tryz.prog 56 #[.slice (some b) 0 c] w fun e w'=>e = .returned (.slice (some ⟨w.heap.size,0,none⟩) 0 0)∧w' = w.alloc (.cells #[] 5):=by
 have h1 : ∀ w,(binOp .eql 49 (.slice (some b) 0 c) (.slice none 0 0)).run Tryz.prog w = .ok (.bool false) w:=fun w=>by
  have h : (Op.equal 49 (.slice (some b) 0 c) (.slice none 0 0)).run Tryz.prog w = .ok false w:=ZdC 9999 Tryz.underlying49;simp [binOp,h]
 have h2 : ∀ w,(Instr.buildSlice 49 0 #[]).run Tryz.prog w = .ok (.slice (some ⟨w.heap.size,0,none⟩) 0 0) (w.alloc (.cells #[] 5)):=fun w=>by kernel_rfl
 have hi0 : (Tryz.prog.info? 5).isSome = true:=by kernel_rfl
 obtain ⟨i,hi⟩:=Option.isSome_iff_exists.1 hi0;have h3 : ∀ (w : World) (x : Option Addr) ty,(Builtin.append_ #[49,49] ty #[.slice x 0 0,.slice (some b) 0 c]).run Tryz.prog w = .ok (.slice x 0 0) w:=fun w x ty=>ZbN w 49 ty 5 i Tryz.underlying49 hi x (some b) 0 0 c (Nat.le_refl _)
 clear hi hi0
 go_enter Tryz.func56,Tryz.ntmps56
 go_wp2
 go_ret
 exact ⟨rfl,rfl⟩
def kp56 : Keep:=fun i=>⟨[],[],[]⟩
theorem w56 {T : Tab} (a0 : (List Int)) (hne : a0≠[]) (x : (List Int)) (hr : Xn a0 = some x) : ∃ kp fl n,Zt tt T G kp fl n Tryz.f56 [.one (.slice .no (Zl .u8 a0))] = some (.one (.own 1 (Zl .u8 a0)),[]):=by
 refine fnE (kp:=kp56) (w:=true) body56 (by simp) ?_;unfold c56;rw [Tryz.ntmps56];unfold Xn at hr;obtain ⟨_,u1,hr⟩:=bs hr;have u2:=ZD u1;have n1 : a0.length≤140737488355328:=by omega
 have n2 : a0.length≤9223372036854775807:=by omega
 have ne : Zl .u8 a0≠[]:=fun h=>hne (by simpa [Zl] using h)
 refine Za rfl (by simp; rfl) ?_
 first
 | (refine Zb ?_; refine Za rfl (by simp [hne,ne]; rfl) ?_)
 | refine Za rfl (by simp [hne,ne]; rfl) ?_
 refine Ze (by simp [bV]) ?_;refine Zh ?_;refine Za rfl (by simp [n1,n2]; rfl) ?_;refine Zi ?_;simp [Zj]
theorem v56 : ZK Tryz.prog G 56 G56:=by
 refine ZeP (e:=1) (t:=5) (N:=0) (rows:=fun l : (List Int)=>Zl .u8 l) Tryz.func56 (by kernel_rfl) (by kernel_rfl) G56 (fun ps r hF=>?_) rfl (fun l hl r hF=>?_) (fun x c w=>?_)
 ·obtain ⟨x,rfl,h⟩:=ZaV hF
  obtain ⟨y,hy,rfl⟩:=Option.map_eq_some_iff.1 h;unfold Xn at hy;obtain ⟨_,u1,hy⟩:=bs hy;obtain rfl:=Option.some.inj hy;exact ⟨x,rfl,rfl⟩
 ·refine Zgl (T:=Av.tab []) mixed htt (Av.tab_ok trivial) Tryz.func56 body56 (by kernel_rfl) fun ps r' ho hF'=>?_
  split at hF'
  ·rename_i hps
   subst hps;injection hF' with hF';subst hF';obtain ⟨x,hx,h⟩:=ZaV hF;obtain rfl:=E56i l x hx;obtain ⟨y,hy,rfl⟩:=Option.map_eq_some_iff.1 h;have hy' := hy;unfold Xn at hy';obtain ⟨_,u1,hy'⟩:=bs hy';obtain rfl:=Option.some.inj hy';exact w56 l hl _ hy
  ·cases hF'
 ·cases x with
  | none=>exact (Ztu c w).mono fun e w' h=>⟨none,h.1,.inl h.2⟩
  | some b=>exact (Zsc b c w).mono fun e w' h=>⟨_,h.1,.inr h.2⟩
theorem Ztv (c : Nat) (w : World) : Calls Tryz.prog 89 #[.slice none 0 c] w fun e w'=>e = .returned (.slice none 0 0)∧w' = w:=by
 have h1 : ∀ w,(binOp .eql 25 (.slice none 0 c) (.slice none 0 0)).run Tryz.prog w = .ok (.bool true) w:=fun w=>by
  have h : ∀ d : Nat,(Op.equalIn (d + 1) 25 (.slice none 0 c) (.slice none 0 0)).run Tryz.prog w = .ok true w:=fun d=>by
   simp [Op.equalIn,run_underlying Tryz.underlying25]
  have h' : (Op.equal 25 (.slice none 0 c) (.slice none 0 0)).run Tryz.prog w = .ok true w:=h 9999;simp [binOp,h']
 go_enter Tryz.func89,Tryz.ntmps89
 go_wp2
 go_ret
 exact ⟨rfl,rfl⟩
theorem Zsd (b : Addr) (c : Nat) (w : World) : Calls Tryz.prog 89 #[.slice (some b) 0 c] w fun e w'=>e = .returned (.slice (some ⟨w.heap.size,0,none⟩) 0 0)∧w' = w.alloc (.cells #[] 108):=by
 have h1 : ∀ w,(binOp .eql 25 (.slice (some b) 0 c) (.slice none 0 0)).run Tryz.prog w = .ok (.bool false) w:=fun w=>by
  have h : (Op.equal 25 (.slice (some b) 0 c) (.slice none 0 0)).run Tryz.prog w = .ok false w:=ZdC 9999 Tryz.underlying25;simp [binOp,h]
 have h2 : ∀ w,(Instr.buildSlice 25 0 #[]).run Tryz.prog w = .ok (.slice (some ⟨w.heap.size,0,none⟩) 0 0) (w.alloc (.cells #[] 108)):=fun w=>by kernel_rfl
 have hi0 : (Tryz.prog.info? 108).isSome = true:=by kernel_rfl
 obtain ⟨i,hi⟩:=Option.isSome_iff_exists.1 hi0;have h3 : ∀ (w : World) (x : Option Addr) ty,(Builtin.append_ #[25,25] ty #[.slice x 0 0,.slice (some b) 0 c]).run Tryz.prog w = .ok (.slice x 0 0) w:=fun w x ty=>ZbN w 25 ty 108 i Tryz.underlying25 hi x (some b) 0 0 c (Nat.le_refl _)
 clear hi hi0
 go_enter Tryz.func89,Tryz.ntmps89
 go_wp2
 go_ret
 exact ⟨rfl,rfl⟩
def kp89 : Keep:=fun i=>⟨[],[],[]⟩
theorem w89 {T : Tab} (a0 : (List Tapi_Input)) (hne : a0≠[]) (x : (List Tapi_Input)) (hr : Z4 a0 = some x) : ∃ kp fl n,Zt tt T G kp fl n Tryz.f89 [.one (.slice .no (List.map Zm a0))] = some (.one (.own 35 (List.map Zm a0)),[]):=by
 refine fnE (kp:=kp89) (w:=true) body89 (by simp) ?_;unfold c89;rw [Tryz.ntmps89];unfold Z4 at hr;obtain ⟨_,u1,hr⟩:=bs hr;have u2:=ZD u1;have n1 : a0.length * 64≤140737488355328:=by omega
 have n2 : a0.length≤9223372036854775807:=by omega
 have ne : List.map Zm a0≠[]:=fun h=>hne (by simpa [Zl] using h)
 refine Za rfl (by simp; rfl) ?_
 first
 | (refine Zb ?_; refine Za rfl (by simp [hne,ne]; rfl) ?_)
 | refine Za rfl (by simp [hne,ne]; rfl) ?_
 refine Ze (by simp [bV]) ?_;refine Zh ?_;refine Za rfl (by simp [n1,n2]; rfl) ?_;refine Zi ?_;simp [Zj]
theorem v89 : ZK Tryz.prog G 89 G89:=by
 refine ZeP (e:=35) (t:=108) (N:=0) (rows:=fun l : (List Tapi_Input)=>List.map Zm l) Tryz.func89 (by kernel_rfl) (by kernel_rfl) G89 (fun ps r hF=>?_) rfl (fun l hl r hF=>?_) (fun x c w=>?_)
 ·obtain ⟨x,rfl,h⟩:=ZaV hF
  obtain ⟨y,hy,rfl⟩:=Option.map_eq_some_iff.1 h;unfold Z4 at hy;obtain ⟨_,u1,hy⟩:=bs hy;obtain rfl:=Option.some.inj hy;exact ⟨x,rfl,rfl⟩
 ·refine Zgl (T:=Av.tab []) mixed htt (Av.tab_ok trivial) Tryz.func89 body89 (by kernel_rfl) fun ps r' ho hF'=>?_
  split at hF'
  ·rename_i hps
   subst hps;injection hF' with hF';subst hF';obtain ⟨x,hx,h⟩:=ZaV hF;obtain rfl:=E89i l x hx;obtain ⟨y,hy,rfl⟩:=Option.map_eq_some_iff.1 h;have hy' := hy;unfold Z4 at hy';obtain ⟨_,u1,hy'⟩:=bs hy';obtain rfl:=Option.some.inj hy';exact w89 l hl _ hy
  ·cases hF'
 ·cases x with
  | none=>exact (Ztv c w).mono fun e w' h=>⟨none,h.1,.inl h.2⟩
  | some b=>exact (Zsd b c w).mono fun e w' h=>⟨_,h.1,.inr h.2⟩
theorem Ztw (c : Nat) (w : World) : Calls Tryz.prog 90 #[.slice none 0 c] w fun e w'=>e = .returned (.slice none 0 0)∧w' = w:=by
 have h1 : ∀ w,(binOp .eql 26 (.slice none 0 c) (.slice none 0 0)).run Tryz.prog w = .ok (.bool true) w:=fun w=>by
  have h : ∀ d : Nat,(Op.equalIn (d + 1) 26 (.slice none 0 c) (.slice none 0 0)).run Tryz.prog w = .ok true w:=fun d=>by
   simp [Op.equalIn,run_underlying Tryz.underlying26]
  have h' : (Op.equal 26 (.slice none 0 c) (.slice none 0 0)).run Tryz.prog w = .ok true w:=h 9999;simp [binOp,h']
 go_enter Tryz.func90,Tryz.ntmps90
 go_wp2
 go_ret
 exact ⟨rfl,rfl⟩
theorem Zse (b : Addr) (c : Nat) (w : World) : Calls Tryz.prog 90 #[.slice (some b) 0 c] w fun e w'=>e = .returned (.slice (some ⟨w.heap.size,0,none⟩) 0 0)∧w' = w.alloc (.cells #[] 103):=by
 have h1 : ∀ w,(binOp .eql 26 (.slice (some b) 0 c) (.slice none 0 0)).run Tryz.prog w = .ok (.bool false) w:=fun w=>by
  have h : (Op.equal 26 (.slice (some b) 0 c) (.slice none 0 0)).run Tryz.prog w = .ok false w:=ZdC 9999 Tryz.underlying26;simp [binOp,h]
 have h2 : ∀ w,(Instr.buildSlice 26 0 #[]).run Tryz.prog w = .ok (.slice (some ⟨w.heap.size,0,none⟩) 0 0) (w.alloc (.cells #[] 103)):=fun w=>by kernel_rfl
 have hi0 : (Tryz.prog.info? 103).isSome = true:=by kernel_rfl
 obtain ⟨i,hi⟩:=Option.isSome_iff_exists.1 hi0;have h3 : ∀ (w : World) (x : Option Addr) ty,(Builtin.append_ #[26,26] ty #[.slice x 0 0,.slice (some b) 0 c]).run Tryz.prog w = .ok (.slice x 0 0) w:=fun w x ty=>ZbN w 26 ty 103 i Tryz.underlying26 hi x (some b) 0 0 c (Nat.le_refl _)
 clear hi hi0
 go_enter Tryz.func90,Tryz.ntmps90
 go_wp2
 go_ret
 exact ⟨rfl,rfl⟩
def kp90 : Keep:=fun i=>⟨[],[],[]⟩
theorem w90 {T : Tab} (a0 : (List Tapi_Output)) (hne : a0≠[]) (x : (List Tapi_Output)) (hr : Z3 a0 = some x) : ∃ kp fl n,Zt tt T G kp fl n Tryz.f90 [.one (.slice .no (List.map Zk a0))] = some (.one (.own 2 (List.map Zk a0)),[]):=by
 refine fnE (kp:=kp90) (w:=true) body90 (by simp) ?_;unfold c90;rw [Tryz.ntmps90];unfold Z3 at hr;obtain ⟨_,u1,hr⟩:=bs hr;have u2:=ZD u1;have n1 : a0.length * 32≤140737488355328:=by omega
 have n2 : a0.length≤9223372036854775807:=by omega
 have ne : List.map Zk a0≠[]:=fun h=>hne (by simpa [Zl] using h)
 refine Za rfl (by simp; rfl) ?_
 first
 | (refine Zb ?_; refine Za rfl (by simp [hne,ne]; rfl) ?_)
 | refine Za rfl (by simp [hne,ne]; rfl) ?_
 refine Ze (by simp [bV]) ?_;refine Zh ?_;refine Za rfl (by simp [n1,n2]; rfl) ?_;refine Zi ?_;simp [Zj]
theorem v90 : ZK Tryz.prog G 90 G90:=by
 refine ZeP (e:=2) (t:=103) (N:=0) (rows:=fun l : (List Tapi_Output)=>List.map Zk l) Tryz.func90 (by kernel_rfl) (by kernel_rfl) G90 (fun ps r hF=>?_) rfl (fun l hl r hF=>?_) (fun x c w=>?_)
 ·obtain ⟨x,rfl,h⟩:=ZaV hF
  obtain ⟨y,hy,rfl⟩:=Option.map_eq_some_iff.1 h;unfold Z3 at hy;obtain ⟨_,u1,hy⟩:=bs hy;obtain rfl:=Option.some.inj hy;exact ⟨x,rfl,rfl⟩
 ·refine Zgl (T:=Av.tab []) mixed htt (Av.tab_ok trivial) Tryz.func90 body90 (by kernel_rfl) fun ps r' ho hF'=>?_
  split at hF'
  ·rename_i hps
   subst hps;injection hF' with hF';subst hF';obtain ⟨x,hx,h⟩:=ZaV hF;obtain rfl:=E90i l x hx;obtain ⟨y,hy,rfl⟩:=Option.map_eq_some_iff.1 h;have hy' := hy;unfold Z3 at hy';obtain ⟨_,u1,hy'⟩:=bs hy';obtain rfl:=Option.some.inj hy';exact w90 l hl _ hy
  ·cases hF'
 ·cases x with
  | none=>exact (Ztw c w).mono fun e w' h=>⟨none,h.1,.inl h.2⟩
  | some b=>exact (Zse b c w).mono fun e w' h=>⟨_,h.1,.inr h.2⟩
theorem Zsf (c : Nat) (w : World) : Calls Tryz.prog 104 #[.slice none 0 c] w fun e w'=>e = .returned (.slice none 0 0)∧w' = w:=by
 have h1 : ∀ w,(binOp .eql 63 (.slice none 0 c) (.slice none 0 0)).run Tryz.prog w = .ok (.bool true) w:=fun w=>by
  have h : ∀ d : Nat,(Op.equalIn (d + 1) 63 (.slice none 0 c) (.slice none 0 0)).run Tryz.prog w = .ok true w:=fun d=>by
   simp [Op.equalIn,run_underlying Tryz.underlying63]
  have h' : (Op.equal 63 (.slice none 0 c) (.slice none 0 0)).run Tryz.prog w = .ok true w:=h 9999;simp [binOp,h']
 go_enter Tryz.func104,Tryz.ntmps104
 go_wp2
 go_ret
 exact ⟨rfl,rfl⟩
theorem Zq2 (b : Addr) (c : Nat) (w : World) : Calls Tryz.prog 104 #[.slice (some b) 0 c] w fun e w'=>e = .returned (.slice (some ⟨w.heap.size,0,none⟩) 0 0)∧w' = w.alloc (.cells #[] 49):=by
 have h1 : ∀ w,(binOp .eql 63 (.slice (some b) 0 c) (.slice none 0 0)).run Tryz.prog w = .ok (.bool false) w:=fun w=>by
  have h : (Op.equal 63 (.slice (some b) 0 c) (.slice none 0 0)).run Tryz.prog w = .ok false w:=ZdC 9999 Tryz.underlying63;simp [binOp,h]
 have h2 : ∀ w,(Instr.buildSlice 63 0 #[]).run Tryz.prog w = .ok (.slice (some ⟨w.heap.size,0,none⟩) 0 0) (w.alloc (.cells #[] 49)):=fun w=>by kernel_rfl
 have hi0 : (Tryz.prog.info? 49).isSome = true:=by kernel_rfl
 obtain ⟨i,hi⟩:=Option.isSome_iff_exists.1 hi0;have h3 : ∀ (w : World) (x : Option Addr) ty,(Builtin.append_ #[63,63] ty #[.slice x 0 0,.slice (some b) 0 c]).run Tryz.prog w = .ok (.slice x 0 0) w:=fun w x ty=>ZbN w 63 ty 49 i Tryz.underlying63 hi x (some b) 0 0 c (Nat.le_refl _)
 clear hi hi0
 go_enter Tryz.func104,Tryz.ntmps104
 go_wp2
 go_ret
 exact ⟨rfl,rfl⟩
def kp104 : Keep:=fun i=>⟨[],[],[]⟩
theorem w104 {T : Tab} (a0 : (List (List Int))) (hne : a0≠[]) (x : (List (List Int))) (hr : Yk a0 = some x) : ∃ kp fl n,Zt tt T G kp fl n Tryz.f104 [.one (.slice .no (List.map Yd a0))] = some (.one (.own 1 (List.map Yd a0)),[]):=by
 refine fnE (kp:=kp104) (w:=true) body104 (by simp) ?_;unfold c104;rw [Tryz.ntmps104];unfold Yk at hr;obtain ⟨_,u1,hr⟩:=bs hr;have u2:=ZD u1;have n1 : a0.length * 24≤140737488355328:=by omega
 have n2 : a0.length≤9223372036854775807:=by omega
 have ne : List.map Yd a0≠[]:=fun h=>hne (by simpa [Zl] using h)
 refine Za rfl (by simp; rfl) ?_
 first
 | (refine Zb ?_; refine Za rfl (by simp [hne,ne]; rfl) ?_)
 | refine Za rfl (by simp [hne,ne]; rfl) ?_
 refine Ze (by simp [bV]) ?_;refine Zh ?_;refine Za rfl (by simp [n1,n2]; rfl) ?_;refine Zi ?_;simp [Zj]
theorem v104 : ZK Tryz.prog G 104 G104:=by
 refine ZeP (e:=1) (t:=49) (N:=0) (rows:=fun l : (List (List Int))=>List.map Yd l) Tryz.func104 (by kernel_rfl) (by kernel_rfl) G104 (fun ps r hF=>?_) rfl (fun l hl r hF=>?_) (fun x c w=>?_)
 ·obtain ⟨x,rfl,h⟩:=ZaV hF
  obtain ⟨y,hy,rfl⟩:=Option.map_eq_some_iff.1 h;unfold Yk at hy;obtain ⟨_,u1,hy⟩:=bs hy;obtain rfl:=Option.some.inj hy;exact ⟨x,rfl,rfl⟩
 ·refine Zgl (T:=Av.tab []) mixed htt (Av.tab_ok trivial) Tryz.func104 body104 (by kernel_rfl) fun ps r' ho hF'=>?_
  split at hF'
  ·rename_i hps
   subst hps;injection hF' with hF';subst hF';obtain ⟨x,hx,h⟩:=ZaV hF;obtain rfl:=E104i l x hx;obtain ⟨y,hy,rfl⟩:=Option.map_eq_some_iff.1 h;have hy' := hy;unfold Yk at hy';obtain ⟨_,u1,hy'⟩:=bs hy';obtain rfl:=Option.some.inj hy';exact w104 l hl _ hy
  ·cases hF'
 ·cases x with
  | none=>exact (Zsf c w).mono fun e w' h=>⟨none,h.1,.inl h.2⟩
  | some b=>exact (Zq2 b c w).mono fun e w' h=>⟨_,h.1,.inr h.2⟩
def kp91 : Keep:=fun i=>if i = 3 then ⟨[0,7,8,9],[6],[]⟩ else ⟨[],[],[]⟩
theorem w91 {T : Tab} (hO : T.own = fun _=>[]) (hT56 : T 56 = some G56) (hT104 : T 104 = some G104) (a0 : (List (List Int))) (x : (List (List Int))) (hr : YU a0 = some x) : ∃ kp fl n,Zt tt T G kp fl n Tryz.f91 (E91 a0) = some (R91 a0 x):=by
 simp only [E91,R91];refine fnE (kp:=kp91) (w:=true) body91 (by simp) ?_;unfold c91;rw [Tryz.ntmps91];unfold YU at hr;refine Za rfl (by simp []; rfl) ?_;obtain ⟨y19,hy19,hr⟩:=bs hr;have ehy19:=Zr5 hy19;simp only [Zlo,ZqX,nf,nfs] at ehy19;refine Za rfl (by simp [hO,hT104,ehy19]; rfl) ?_;refine Zb ?_;refine Za rfl (by simp []; rfl) ?_;refine Zg ?_;refine ZJ (kq:=⟨[0,7,8,9],[6],[]⟩) (H:=fun (s : Int×(List (List Int)))=>match s with | (p11,p12)=>(⟨([.one (.ms 6 0 0 (p12.length) 1)]++(und 6++([.one (.ms 6 0 0 (p12.length) 1),.one (.v (.int .i64 (y19.length : Int))),.one (.v (.int .i64 p11))]++(und 11))) : List PV),([(6,⟨0,1,List.map Yd p12,false,true⟩)] : Boxes)⟩ : ASt)) (by kernel_rfl) hr (by simp [und,List.replicate,]) ?_;rintro ⟨p11,p12⟩ x26r hr26
 simp only [Zcd] at hr26;unfold b91_1;simp only [und,List.replicate,List.cons_append,List.nil_append];refine Za rfl (by simp []; rfl) ?_;by_cases c27 : p11 < (y19.length : Int)
 ·skip
  have c27N:=c27;try simp at c27N
  first | have c27M : (_ = _) = True:=eq_true c27N | have c27M:=c27N
  rw [if_pos] at hr26;rotate_left
  ·simp [c27,c27M]
  refine Zd (by simp [bV,c27,c27M]) ?_;refine Zh ?_;refine Zg ?_;obtain ⟨j28,hj28,hr26⟩:=bs hr26;obtain ⟨j28a,j28b,j28c⟩:=Yc hj28;obtain ⟨x29,hx29,hr26⟩:=bs hr26;have ghx29:=Zq hx29;refine Za rfl (by simp [j28a,j28b,j28c,hx29,ghx29,c27,c27M]; rfl) ?_;obtain ⟨y30,hy30,hr26⟩:=bs hr26;have ehy30:=Zm9 hy30;simp only [E56,R56,nf,nfs] at ehy30;obtain ⟨j28a,j28b,j28c⟩:=Yc hj28;refine ZA rfl (by simp [hO,hT56,ehy30,j28a,j28b,j28c,c27,c27M]; rfl) ?_;simp only [pq,reduceCtorEq];refine ZA rfl (by simp [c27,c27M]; rfl) ?_;obtain rfl:=Option.some.inj hr26;simp only [pq,reduceCtorEq];simp [und,List.replicate,Nat.add_assoc,c27,c27M]
 ·skip
  have c27N:=c27;try simp at c27N
  first | have c27M : (_ = _) = True:=eq_true c27N | have c27M:=c27N
  rw [if_neg] at hr26;rotate_left
  ·simp [c27,c27M]
  refine Ze (by simp [bV,c27,c27M]) ?_;refine Zr ?_;obtain ⟨r31,q31,rfl⟩:=ms hr26;simp only [pq,reduceCtorEq];rintro rfl
  try simp only [pq,reduceCtorEq]
  unfold Zd1 at q31;refine Za rfl (by simp [c27,c27M]; rfl) ?_;refine Zi ?_;obtain rfl:=Option.some.inj q31;simp [Zj,c27,c27M,c27N]
def kp54 : Keep:=fun i=>if i = 3 then ⟨[1,2,16,17,18],[1,2,9,12],[]⟩ else if i = 8 then ⟨[1,2,33,34,35],[1,2,9,12],[]⟩ else ⟨[],[],[]⟩
theorem w54 {T : Tab} (hO : T.own = fun _=>[]) (hT56 : T 56 = some G56) (hT89 : T 89 = some G89) (hT90 : T 90 = some G90) (hT91 : T 91 = some G91) (a0 : Tapi_Tx) (x : Tapi_Tx) (hr : Xo a0 = some x) : ∃ kp fl n,Zt tt T G kp fl n Tryz.f54 (E54 a0) = some (R54 a0 x):=by
 simp only [E54,R54];refine fnE (kp:=kp54) (w:=true) body54 (by simp) ?_;unfold c54;rw [Tryz.ntmps54];unfold Xo at hr;refine Za rfl (by simp []; rfl) ?_;obtain ⟨y37,hy37,hr⟩:=bs hr;have ehy37:=Zs8 hy37;simp only [E89,R89,nf,nfs] at ehy37;obtain ⟨y38,hy38,hr⟩:=bs hr;have ehy38:=Zs9 hy38;simp only [E90,R90,nf,nfs] at ehy38;refine ZC rfl (by simp [hO,hT89,ehy37,hT90,ehy38]; first | exact ⟨rfl,rfl⟩ | rfl) (by kernel_rfl) ?_;refine Zb ?_;refine Za rfl (by simp []; rfl) ?_;refine Zg ?_;refine ZJ (kq:=⟨[1,2,16,17,18],[1,2,9,12],[]⟩) (H:=fun (s : Int×(List Tapi_Input))=>match s with | (p12,p13)=>(⟨(und 1++([.ptr 1 0 0 0 4,.ptr 2 0 0 0 4]++(und 13++([.one (.ms 9 0 0 (p13.length) 35),.one (.v (.int .i64 (y37.length : Int))),.one (.v (.int .i64 p12))]++(und 31)))) : List PV),([(1,⟨0,4,[[.v (.int .u32 a0.1),.ms 9 0 0 (p13.length) 35,.ms 12 0 0 (y38.length) 2,.v (.int .u32 a0.2.2.2)]],false,false⟩),(2,⟨0,4,[[.v (.int .u32 0),.slice .nil [],.slice .nil [],.v (.int .u32 0)]],false,false⟩),(9,⟨0,35,List.map Zm p13,false,true⟩),(12,⟨0,2,List.map Zk y38,false,true⟩)] : Boxes)⟩ : ASt)) (by kernel_rfl) hr (by simp [und,List.replicate,]) ?_;rintro ⟨p12,p13⟩ x45r hr45
 simp only [Zal] at hr45;unfold b54_1;simp only [und,List.replicate,List.cons_append,List.nil_append];refine Za rfl (by simp []; rfl) ?_;by_cases c46 : p12 < (y37.length : Int)
 ·skip
  have c46N:=c46;try simp at c46N
  first | have c46M : (_ = _) = True:=eq_true c46N | have c46M:=c46N
  rw [if_pos] at hr45;rotate_left
  ·simp [c46,c46M]
  refine Zd (by simp [bV,c46,c46M]) ?_;refine Zh ?_;refine Zg ?_;obtain ⟨j47,hj47,hr45⟩:=bs hr45;obtain ⟨j47a,j47b,j47c⟩:=Yc hj47;obtain ⟨x48,hx48,hr45⟩:=bs hr45;have ghx48:=Zq hx48;refine Za rfl (by simp [j47a,j47b,j47c,hx48,ghx48,c46,c46M]; rfl) ?_;obtain ⟨y49,hy49,hr45⟩:=bs hr45;have ehy49:=Zta hy49;simp only [E91,R91,nf,nfs] at ehy49;obtain ⟨j47a,j47b,j47c⟩:=Yc hj47;have ghx48:=Zq hx48;refine Zbk rfl (by simp [hO,hT91,ehy49,j47a,j47b,j47c,hx48,ghx48,c46,c46M]; first | exact ⟨rfl,rfl⟩ | rfl) (by kernel_rfl) ?_;simp only [pq,reduceCtorEq];refine ZA rfl (by simp [c46,c46M]; rfl) ?_;obtain rfl:=Option.some.inj hr45;simp only [pq,reduceCtorEq];simp [und,List.replicate,Nat.add_assoc,c46,c46M]
 ·skip
  have c46N:=c46;try simp at c46N
  first | have c46M : (_ = _) = True:=eq_true c46N | have c46M:=c46N
  rw [if_neg] at hr45;rotate_left
  ·simp [c46,c46M]
  refine Ze (by simp [bV,c46,c46M]) ?_;refine Zr ?_;obtain ⟨r50,q50,rfl⟩:=ms hr45;simp only [pq,reduceCtorEq];rintro rfl
  try simp only [pq,reduceCtorEq]
  unfold ZbA at q50;refine Zb ?_;refine Za rfl (by simp [c46,c46M]; rfl) ?_;refine Zg ?_;refine ZJ (kq:=⟨[1,2,33,34,35],[1,2,9,12],[]⟩) (H:=fun (s : Int×(List Tapi_Output))=>match s with | (p26,p27)=>(⟨(und 1++([.ptr 1 0 0 0 4,.ptr 2 0 0 0 4]++(und 30++([.one (.ms 12 0 0 (p27.length) 2),.one (.v (.int .i64 (y38.length : Int))),.one (.v (.int .i64 p26))]++(und 14)))) : List PV),([(1,⟨0,4,[[.v (.int .u32 a0.1),.ms 9 0 0 (p13.length) 35,.ms 12 0 0 (p27.length) 2,.v (.int .u32 a0.2.2.2)]],false,false⟩),(2,⟨0,4,[[.v (.int .u32 0),.slice .nil [],.slice .nil [],.v (.int .u32 0)]],false,false⟩),(9,⟨0,35,List.map Zm p13,false,true⟩),(12,⟨0,2,List.map Zk p27,false,true⟩)] : Boxes)⟩ : ASt)) (by kernel_rfl) q50 (by simp [und,List.replicate,c46,c46M]) ?_;rintro ⟨p26,p27⟩ x57r hr57
  simp only [Zak] at hr57;unfold b54_2;simp only [und,List.replicate,List.cons_append,List.nil_append];refine Za rfl (by simp [c46,c46M]; rfl) ?_;by_cases c58 : p26 < (y38.length : Int)
  ·skip
   have c58N:=c58;try simp at c58N
   first | have c58M : (_ = _) = True:=eq_true c58N | have c58M:=c58N
   rw [if_pos] at hr57;rotate_left
   ·simp [c46,c46M,c58,c58M]
   refine Zd (by simp [bV,c46,c46M,c58,c58M]) ?_;refine Zh ?_;refine Zg ?_;obtain ⟨j59,hj59,hr57⟩:=bs hr57;obtain ⟨j59a,j59b,j59c⟩:=Yc hj59;obtain ⟨x60,hx60,hr57⟩:=bs hr57;have ghx60:=Zq hx60;refine Za rfl (by simp [j59a,j59b,j59c,hx60,ghx60,c46,c46M,c58,c58M]; rfl) ?_;obtain ⟨y61,hy61,hr57⟩:=bs hr57;have ehy61:=Zm9 hy61;simp only [E56,R56,nf,nfs] at ehy61;obtain ⟨j59a,j59b,j59c⟩:=Yc hj59;have ghx60:=Zq hx60;refine Zbk rfl (by simp [hO,hT56,ehy61,j59a,j59b,j59c,hx60,ghx60,c46,c46M,c58,c58M]; first | exact ⟨rfl,rfl⟩ | rfl) (by kernel_rfl) ?_;simp only [pq,reduceCtorEq];refine ZA rfl (by simp [c46,c46M,c58,c58M]; rfl) ?_;obtain rfl:=Option.some.inj hr57;simp only [pq,reduceCtorEq];simp [und,List.replicate,Nat.add_assoc,c46,c46M,c58,c58M]
  ·skip
   have c58N:=c58;try simp at c58N
   first | have c58M : (_ = _) = True:=eq_true c58N | have c58M:=c58N
   rw [if_neg] at hr57;rotate_left
   ·simp [c46,c46M,c58,c58M]
   refine Ze (by simp [bV,c46,c46M,c58,c58M]) ?_;refine Zr ?_;obtain ⟨r62,q62,rfl⟩:=ms hr57;simp only [pq,reduceCtorEq];rintro rfl
   try simp only [pq,reduceCtorEq]
   unfold Ze7 at q62;refine Za rfl (by simp [c46,c46M,c58,c58M]; rfl) ?_;refine Zi ?_;obtain rfl:=Option.some.inj q62;simp [Zj,c46,c46M,c58,c58M,c46N,c58N]
theorem Ztx (c : Nat) (w : World) : Calls Tryz.prog 55 #[.slice none 0 c] w fun e w'=>e = .returned (.slice none 0 0)∧w' = w:=by
 have h1 : ∀ w,(binOp .eql 29 (.slice none 0 c) (.slice none 0 0)).run Tryz.prog w = .ok (.bool true) w:=fun w=>by
  have h : ∀ d : Nat,(Op.equalIn (d + 1) 29 (.slice none 0 c) (.slice none 0 0)).run Tryz.prog w = .ok true w:=fun d=>by
   simp [Op.equalIn,run_underlying Tryz.underlying29]
  have h' : (Op.equal 29 (.slice none 0 c) (.slice none 0 0)).run Tryz.prog w = .ok true w:=h 9999;simp [binOp,h']
 go_enter Tryz.func55,Tryz.ntmps55
 go_wp2
 go_ret
 exact ⟨rfl,rfl⟩
theorem Zsg (b : Addr) (c : Nat) (w : World) : Calls Tryz.prog 55 #[.slice (some b) 0 c] w fun e w'=>e = .returned (.slice (some ⟨w.heap.size,0,none⟩) 0 0)∧w' = w.alloc (.cells #[] 105):=by
 have h1 : ∀ w,(binOp .eql 29 (.slice (some b) 0 c) (.slice none 0 0)).run Tryz.prog w = .ok (.bool false) w:=fun w=>by
  have h : (Op.equal 29 (.slice (some b) 0 c) (.slice none 0 0)).run Tryz.prog w = .ok false w:=ZdC 9999 Tryz.underlying29;simp [binOp,h]
 have h2 : ∀ w,(Instr.buildSlice 29 0 #[]).run Tryz.prog w = .ok (.slice (some ⟨w.heap.size,0,none⟩) 0 0) (w.alloc (.cells #[] 105)):=fun w=>by kernel_rfl
 have hi0 : (Tryz.prog.info? 105).isSome = true:=by kernel_rfl
 obtain ⟨i,hi⟩:=Option.isSome_iff_exists.1 hi0;have h3 : ∀ (w : World) (x : Option Addr) ty,(Builtin.append_ #[29,29] ty #[.slice x 0 0,.slice (some b) 0 c]).run Tryz.prog w = .ok (.slice x 0 0) w:=fun w x ty=>ZbN w 29 ty 105 i Tryz.underlying29 hi x (some b) 0 0 c (Nat.le_refl _)
 clear hi hi0
 go_enter Tryz.func55,Tryz.ntmps55
 go_wp2
 go_ret
 exact ⟨rfl,rfl⟩
def kp55 : Keep:=fun i=>⟨[],[],[]⟩
theorem w55 {T : Tab} (a0 : (List Tapi_Coin)) (hne : a0≠[]) (x : (List Tapi_Coin)) (hr : Z5 a0 = some x) : ∃ kp fl n,Zt tt T G kp fl n Tryz.f55 [.one (.slice .no (List.map ZB a0))] = some (.one (.own 37 (List.map ZB a0)),[]):=by
 refine fnE (kp:=kp55) (w:=true) body55 (by simp) ?_;unfold c55;rw [Tryz.ntmps55];unfold Z5 at hr;obtain ⟨_,u1,hr⟩:=bs hr;have u2:=ZD u1;have n1 : a0.length * 88≤140737488355328:=by omega
 have n2 : a0.length≤9223372036854775807:=by omega
 have ne : List.map ZB a0≠[]:=fun h=>hne (by simpa [Zl] using h)
 refine Za rfl (by simp; rfl) ?_
 first
 | (refine Zb ?_; refine Za rfl (by simp [hne,ne]; rfl) ?_)
 | refine Za rfl (by simp [hne,ne]; rfl) ?_
 refine Ze (by simp [bV]) ?_;refine Zh ?_;refine Za rfl (by simp [n1,n2]; rfl) ?_;refine Zi ?_;simp [Zj]
theorem v55 : ZK Tryz.prog G 55 G55:=by
 refine ZeP (e:=37) (t:=105) (N:=0) (rows:=fun l : (List Tapi_Coin)=>List.map ZB l) Tryz.func55 (by kernel_rfl) (by kernel_rfl) G55 (fun ps r hF=>?_) rfl (fun l hl r hF=>?_) (fun x c w=>?_)
 ·obtain ⟨x,rfl,h⟩:=ZaV hF
  obtain ⟨y,hy,rfl⟩:=Option.map_eq_some_iff.1 h;unfold Z5 at hy;obtain ⟨_,u1,hy⟩:=bs hy;obtain rfl:=Option.some.inj hy;exact ⟨x,rfl,rfl⟩
 ·refine Zgl (T:=Av.tab []) mixed htt (Av.tab_ok trivial) Tryz.func55 body55 (by kernel_rfl) fun ps r' ho hF'=>?_
  split at hF'
  ·rename_i hps
   subst hps;injection hF' with hF';subst hF';obtain ⟨x,hx,h⟩:=ZaV hF;obtain rfl:=E55i l x hx;obtain ⟨y,hy,rfl⟩:=Option.map_eq_some_iff.1 h;have hy' := hy;unfold Z5 at hy';obtain ⟨_,u1,hy'⟩:=bs hy';obtain rfl:=Option.some.inj hy';exact w55 l hl _ hy
  ·cases hF'
 ·cases x with
  | none=>exact (Ztx c w).mono fun e w' h=>⟨none,h.1,.inl h.2⟩
  | some b=>exact (Zsg b c w).mono fun e w' h=>⟨_,h.1,.inr h.2⟩
def kp29 : Keep:=fun i=>if i = 3 then ⟨[1,2,14,15,16],[1,2,7,10,100007],[]⟩ else ⟨[],[],[]⟩
theorem w29 {T : Tab} (hO : T.own = fun _=>[]) (hT54 : T 54 = some G54) (hT55 : T 55 = some G55) (hT56 : T 56 = some G56) (a0 : Tapi_Plan) (x : Tapi_Plan) (hr : YQ a0 = some x) : ∃ kp fl n,Zt tt T G kp fl n Tryz.f29 (E29 a0) = some (R29 a0 x):=by
 simp only [E29,R29];refine fnE (kp:=kp29) (w:=true) body29 (by simp) ?_;unfold c29;rw [Tryz.ntmps29];unfold YQ at hr;refine Za rfl (by simp []; rfl) ?_;obtain ⟨y20,hy20,hr⟩:=bs hr;have ehy20:=Ztb hy20;simp only [E54,R54,nf,nfs] at ehy20;obtain ⟨y21,hy21,hr⟩:=bs hr;have ehy21:=Ztc hy21;simp only [E55,R55,nf,nfs] at ehy21;refine ZC rfl (by simp [hO,hT54,ehy20,hT55,ehy21]; first | exact ⟨rfl,rfl⟩ | rfl) (by kernel_rfl) ?_;refine Zb ?_;refine Za rfl (by simp []; rfl) ?_;refine Zg ?_;refine ZJ (kq:=⟨[1,2,14,15,16],[1,2,7,10,100007],[]⟩) (H:=fun (s : Int×(List Tapi_Coin))=>match s with | (p12,p13)=>(⟨(und 1++([.ptr 1 0 0 0 7,.ptr 2 0 0 0 7]++(und 11++([.one (.ms 10 0 0 (p13.length) 37),.one (.v (.int .i64 (y21.length : Int))),.one (.v (.int .i64 p12))]++(und 16)))) : List PV),([(1,⟨0,7,[[.v (.int .u32 y20.1),.ms 7 0 0 (y20.2.1.length) 35,.ms 100007 0 0 (y20.2.2.1.length) 2,.v (.int .u32 y20.2.2.2),.ms 10 0 0 (p13.length) 37,.v (.int .i64 a0.2.2.1),.v (.int .i64 a0.2.2.2)]],false,false⟩),(2,⟨0,7,[[.v (.int .u32 0),.slice .nil [],.slice .nil [],.v (.int .u32 0),.slice .nil [],.v (.int .i64 0),.v (.int .i64 0)]],false,false⟩),(7,⟨0,35,List.map Zm y20.2.1,false,true⟩),(10,⟨0,37,List.map ZB p13,false,true⟩),(100007,⟨0,2,List.map Zk y20.2.2.1,false,true⟩)] : Boxes)⟩ : ASt)) (by kernel_rfl) hr (by simp [und,List.replicate,]) ?_;rintro ⟨p12,p13⟩ x28r hr28
 simp only [XQ] at hr28;unfold b29_1;simp only [und,List.replicate,List.cons_append,List.nil_append];refine Za rfl (by simp []; rfl) ?_;by_cases c29 : p12 < (y21.length : Int)
 ·skip
  have c29N:=c29;try simp at c29N
  first | have c29M : (_ = _) = True:=eq_true c29N | have c29M:=c29N
  rw [if_pos] at hr28;rotate_left
  ·simp [c29,c29M]
  refine Zd (by simp [bV,c29,c29M]) ?_;refine Zh ?_;refine Zg ?_;obtain ⟨j30,hj30,hr28⟩:=bs hr28;obtain ⟨j30a,j30b,j30c⟩:=Yc hj30;obtain ⟨x31,hx31,hr28⟩:=bs hr28;have ghx31:=Zq hx31;refine Za rfl (by simp [j30a,j30b,j30c,hx31,ghx31,c29,c29M]; rfl) ?_;obtain ⟨y32,hy32,hr28⟩:=bs hr28;have ehy32:=Zm9 hy32;simp only [E56,R56,nf,nfs] at ehy32;obtain ⟨j30a,j30b,j30c⟩:=Yc hj30;have ghx31:=Zq hx31;refine Zbk rfl (by simp [hO,hT56,ehy32,j30a,j30b,j30c,hx31,ghx31,c29,c29M]; first | exact ⟨rfl,rfl⟩ | rfl) (by kernel_rfl) ?_;simp only [pq,reduceCtorEq];refine ZA rfl (by simp [c29,c29M]; rfl) ?_;obtain rfl:=Option.some.inj hr28;simp only [pq,reduceCtorEq];simp [und,List.replicate,Nat.add_assoc,c29,c29M]
 ·skip
  have c29N:=c29;try simp at c29N
  first | have c29M : (_ = _) = True:=eq_true c29N | have c29M:=c29N
  rw [if_neg] at hr28;rotate_left
  ·simp [c29,c29M]
  refine Ze (by simp [bV,c29,c29M]) ?_;refine Zr ?_;obtain ⟨r33,q33,rfl⟩:=ms hr28;simp only [pq,reduceCtorEq];rintro rfl
  try simp only [pq,reduceCtorEq]
  unfold ZeD at q33;refine Za rfl (by simp [c29,c29M]; rfl) ?_;refine Zi ?_;obtain rfl:=Option.some.inj q33;simp [Zj,c29,c29M,c29N]
def kp73 : Keep:=fun i=>⟨[],[],[]⟩
theorem w73 {T : Tab} (a0 : (List Int)) (a1 : (List Int)) (x : Bool) (hr : X6 a0 a1 = some x) : ∃ kp fl n,Zt tt T G kp fl n Tryz.f73 (E73 (a0,a1)) = some (R73 (a0,a1) x):=by
 simp only [E73,R73];refine fnE (kp:=kp73) (w:=false) body73 (by simp) ?_;unfold c73;rw [Tryz.ntmps73];unfold X6 at hr;refine Za rfl (by simp []; rfl) ?_;refine Za rfl (by simp []; rfl) ?_;refine Zi ?_;obtain rfl:=Option.some.inj hr;simp [Zj,]
def kp72_1 : Keep:=fun i=>if i = 4 then ⟨[1,2,15,16,17],[],[]⟩ else ⟨[],[],[]⟩
theorem Zub {T : Tab} (hO : T.own = fun _=>[]) (hT73 : T 73 = some G73) (a0 : (List (List Int))) (a1 : (List (List Int))) (x : Bool) (hr : ZM a0 a1 = some x) : ∃ kp fl n,Zt tt T G kp fl n Tryz.f72 (Zgg (a0,a1)) = some (Zjz (a0,a1) x):=by
 simp only [Zgg,Zjz];refine fnE (kp:=kp72_1) (w:=false) body72 (by simp) ?_;unfold c72;rw [Tryz.ntmps72];unfold ZM at hr;refine Za rfl (by simp []; rfl) ?_;refine Zb ?_;refine Za rfl (by simp []; rfl) ?_;by_cases c15 : (a0.length : Int) = (a1.length : Int)
 ·skip
  have c15N:=c15;try simp at c15N
  rw [if_neg (not_not_intro c15)] at hr;refine Ze (by simp [bV,eq_true c15,eq_true c15N]) ?_;refine Zh ?_;refine Zb ?_;refine Za rfl (by simp [eq_true c15,eq_true c15N]; rfl) ?_;refine Zg ?_;refine ZJ (kq:=⟨[1,2,15,16,17],[],[]⟩) (H:=fun (s : Int)=>match s with | p8=>(⟨(und 1++([.one (.slice .no (List.map Yd a1)),.fn 73]++(und 12++([.one (.slice .no (List.map Yd a0)),.one (.v (.int .i64 (a0.length : Int))),.one (.v (.int .i64 p8))]++(und 14)))) : List PV),([] : Boxes)⟩ : ASt)) (by kernel_rfl) hr (by simp [und,List.replicate,eq_true c15,eq_true c15N]) ?_;rintro p8 x23r hr23
  simp only [Ya] at hr23;unfold b72_1;simp only [und,List.replicate,List.cons_append,List.nil_append];refine Za rfl (by simp [eq_true c15,eq_true c15N]; rfl) ?_;by_cases c24 : p8 < (a0.length : Int)
  ·skip
   have c24N:=c24;try simp at c24N
   first | have c24M : (_ = _) = True:=eq_true c24N | have c24M:=c24N
   rw [if_pos] at hr23;rotate_left
   ·simp [eq_true c15,eq_true c15N,c24,c24M]
   refine Zd (by simp [bV,eq_true c15,eq_true c15N,c24,c24M]) ?_;refine Zh ?_;refine Zg ?_;obtain ⟨x25,hx25,hr23⟩:=bs hr23;obtain ⟨hx25a,hx25b⟩:=Zz hx25;have hx25c:=Zq hx25b;refine Za rfl (by simp [hx25a,hx25b,hx25c,eq_true c15,eq_true c15N,c24,c24M]; rfl) ?_;obtain ⟨x26,hx26,hr23⟩:=bs hr23;obtain ⟨hx26a,hx26b⟩:=Zz hx26;have hx26c:=Zq hx26b;refine Za rfl (by simp [hx26a,hx26b,hx26c,eq_true c15,eq_true c15N,c24,c24M]; rfl) ?_;obtain ⟨y27,hy27,hr23⟩:=bs hr23;have ehy27:=ZpY hy27;simp only [E73,R73,nf,nfs] at ehy27;refine Za rfl (by simp [hO,hT73,ehy27,eq_true c15,eq_true c15N,c24,c24M]; rfl) ?_;by_cases c28 : y27 = true
   ·skip
    rw [if_neg (not_not_intro c28)] at hr23;refine Zy (by simp [bV,eq_true c15,eq_true c15N,c24,c24M,c28]) ?_;refine ZV ?_;simp only [pq,reduceCtorEq];refine ZA rfl (by simp [eq_true c15,eq_true c15N,c24,c24M,c28]; rfl) ?_;obtain rfl:=Option.some.inj hr23;simp only [pq,reduceCtorEq];simp [und,List.replicate,Nat.add_assoc,eq_true c15,eq_true c15N,c24,c24M,c28]
   ·skip
    rw [if_pos c28] at hr23;refine Zp (by simp [bV,eq_true c15,eq_true c15N,c24,c24M,c28]) ?_;refine Za rfl (by simp [eq_true c15,eq_true c15N,c24,c24M,c28]; rfl) ?_;refine Zi ?_;obtain rfl:=Option.some.inj hr23;simp only [pq,reduceCtorEq];rintro rfl
    simp [Zj,eq_true c15,eq_true c15N,c24,c24M,c28,c24N]
  ·skip
   have c24N:=c24;try simp at c24N
   first | have c24M : (_ = _) = True:=eq_true c24N | have c24M:=c24N
   rw [if_neg] at hr23;rotate_left
   ·simp [eq_true c15,eq_true c15N,c24,c24M]
   refine Ze (by simp [bV,eq_true c15,eq_true c15N,c24,c24M]) ?_;refine Zr ?_;obtain ⟨r29,q29,rfl⟩:=ms hr23;simp only [pq,reduceCtorEq];rintro rfl
   try simp only [pq,reduceCtorEq]
   unfold Lslices_EqualFunc_of__byte_byte_byte_byte__bytes_Equal_k1 at q29;refine Za rfl (by simp [eq_true c15,eq_true c15N,c24,c24M]; rfl) ?_;refine Zi ?_;obtain rfl:=Option.some.inj q29;simp [Zj,eq_true c15,eq_true c15N,c24,c24M,c24N]
 ·skip
  have c15N:=c15;try simp at c15N
  first | have c15M : (_ = _) = True:=eq_true c15N | have c15M:=c15N
  rw [if_pos c15] at hr;refine Zd (by simp [bV,c15,c15M]) ?_;refine Zb ?_;refine Za rfl (by simp [c15,c15M]; rfl) ?_;refine Zn ?_;obtain rfl:=Option.some.inj hr;simp [Zj,c15,c15M,c15N]
def kp71 : Keep:=fun i=>⟨[],[],[]⟩
theorem w71 {T : Tab} (hO : T.own = fun _=>[]) (hT72 : T 72 = some G72_1) (a0 : Tapi_Input) (a1 : Tapi_Input) (x : Bool) (hr : Y8 a0 a1 = some x) : ∃ kp fl n,Zt tt T G kp fl n Tryz.f71 (E71 (a0,a1)) = some (R71 (a0,a1) x):=by
 simp only [E71,R71];refine fnE (kp:=kp71) (w:=false) body71 (by simp) ?_;unfold c71;rw [Tryz.ntmps71];unfold Y8 at hr;refine Za rfl (by simp []; rfl) ?_;by_cases c3 : a0.1.1 = a1.1.1
 ·skip
  by_cases c4 : a0.1.2 = a1.1.2
  ·skip
   by_cases c5 : a0.2.1 = a1.2.1
   ·skip
    rw [if_pos] at hr;rotate_left
    ·simp [eq_true c3,eq_true c4,eq_true c5]
    obtain ⟨z6,hz6,hr⟩:=bs hr;obtain ⟨y7,hy7,hz6⟩:=bs hz6;have ehy7:=ZqY hy7;simp only [Zgg,Zjz,nf,nfs] at ehy7;obtain rfl:=Option.some.inj hz6;refine Za rfl (by simp [hO,hT72,ehy7,eq_true c3,eq_true c4,eq_true c5]; rfl) ?_;refine Zi ?_;obtain rfl:=Option.some.inj hr;simp [Zj,hO,hT72,ehy7,eq_true c3,eq_true c4,eq_true c5]
   ·skip
    rw [if_neg] at hr;rotate_left
    ·simp [eq_true c3,eq_true c4,c5]
    obtain ⟨z8,hz8,hr⟩:=bs hr;obtain rfl:=Option.some.inj hz8;refine Za rfl (by simp [eq_true c3,eq_true c4,c5]; rfl) ?_;refine Zi ?_;obtain rfl:=Option.some.inj hr;simp [Zj,eq_true c3,eq_true c4,c5]
  ·skip
   rw [if_neg] at hr;rotate_left
   ·simp [eq_true c3,c4]
   obtain ⟨z9,hz9,hr⟩:=bs hr;obtain rfl:=Option.some.inj hz9;refine Za rfl (by simp [eq_true c3,c4]; rfl) ?_;refine Zi ?_;obtain rfl:=Option.some.inj hr;simp [Zj,eq_true c3,c4]
 ·skip
  rw [if_neg] at hr;rotate_left
  ·simp [c3]
  obtain ⟨z10,hz10,hr⟩:=bs hr;obtain rfl:=Option.some.inj hz10;refine Za rfl (by simp [c3]; rfl) ?_;refine Zi ?_;obtain rfl:=Option.some.inj hr;simp [Zj,c3]
def kp75 : Keep:=fun i=>⟨[],[],[]⟩
theorem w75 {T : Tab} (hO : T.own = fun _=>[]) (hT73 : T 73 = some G73) (a0 : Tapi_Output) (a1 : Tapi_Output) (x : Bool) (hr : YI a0 a1 = some x) : ∃ kp fl n,Zt tt T G kp fl n Tryz.f75 (E75 (a0,a1)) = some (R75 (a0,a1) x):=by
 simp only [E75,R75];refine fnE (kp:=kp75) (w:=false) body75 (by simp) ?_;unfold c75;rw [Tryz.ntmps75];unfold YI at hr;refine Za rfl (by simp []; rfl) ?_;by_cases c3 : a0.1 = a1.1
 ·skip
  rw [if_pos] at hr;rotate_left
  ·simp [eq_true c3]
  obtain ⟨z4,hz4,hr⟩:=bs hr;obtain ⟨y5,hy5,hz4⟩:=bs hz4;have ehy5:=ZpY hy5;simp only [E73,R73,nf,nfs] at ehy5;obtain rfl:=Option.some.inj hz4;refine Za rfl (by simp [hO,hT73,ehy5,eq_true c3]; rfl) ?_;refine Zi ?_;obtain rfl:=Option.some.inj hr;simp [Zj,hO,hT73,ehy5,eq_true c3]
 ·skip
  rw [if_neg] at hr;rotate_left
  ·simp [c3]
  obtain ⟨z6,hz6,hr⟩:=bs hr;obtain rfl:=Option.some.inj hz6;refine Za rfl (by simp [c3]; rfl) ?_;refine Zi ?_;obtain rfl:=Option.some.inj hr;simp [Zj,c3]
def kp74 : Keep:=fun i=>⟨[],[],[]⟩
theorem w74 {T : Tab} (hO : T.own = fun _=>[]) (hT75 : T 75 = some G75) (a0 : Tapi_Coin) (a1 : Tapi_Coin) (x : Bool) (hr : Y9 a0 a1 = some x) : ∃ kp fl n,Zt tt T G kp fl n Tryz.f74 (E74 (a0,a1)) = some (R74 (a0,a1) x):=by
 simp only [E74,R74];refine fnE (kp:=kp74) (w:=false) body74 (by simp) ?_;unfold c74;rw [Tryz.ntmps74];unfold Y9 at hr;refine Za rfl (by simp []; rfl) ?_;by_cases c3 : a0.1.1 = a1.1.1
 ·skip
  by_cases c4 : a0.1.2 = a1.1.2
  ·skip
   rw [if_pos] at hr;rotate_left
   ·simp [eq_true c3,eq_true c4]
   obtain ⟨z5,hz5,hr⟩:=bs hr;obtain ⟨y6,hy6,hz5⟩:=bs hz5;have ehy6:=ZpZ hy6;simp only [E75,R75,nf,nfs] at ehy6;obtain rfl:=Option.some.inj hz5;by_cases c7 : y6 = true
   ·skip
    by_cases c8 : a0.2.2.1 = a1.2.2.1
    ·skip
     refine Za rfl (by simp [hO,hT75,ehy6,eq_true c3,eq_true c4,c7,eq_true c8]; rfl) ?_;refine Zi ?_;obtain rfl:=Option.some.inj hr;simp [Zj,hO,hT75,ehy6,eq_true c3,eq_true c4,c7,eq_true c8]
    ·skip
     refine Za rfl (by simp [hO,hT75,ehy6,eq_true c3,eq_true c4,c7,c8]; rfl) ?_;refine Zi ?_;obtain rfl:=Option.some.inj hr;simp [Zj,hO,hT75,ehy6,eq_true c3,eq_true c4,c7,c8]
   ·skip
    refine Za rfl (by simp [hO,hT75,ehy6,eq_true c3,eq_true c4,c7]; rfl) ?_;refine Zi ?_;obtain rfl:=Option.some.inj hr;simp [Zj,hO,hT75,ehy6,eq_true c3,eq_true c4,c7]
  ·skip
   rw [if_neg] at hr;rotate_left
   ·simp [eq_true c3,c4]
   obtain ⟨z9,hz9,hr⟩:=bs hr;obtain rfl:=Option.some.inj hz9;refine Za rfl (by simp [eq_true c3,c4]; rfl) ?_;refine Zi ?_;obtain rfl:=Option.some.inj hr;simp [Zj,eq_true c3,c4]
 ·skip
  rw [if_neg] at hr;rotate_left
  ·simp [c3]
  obtain ⟨z10,hz10,hr⟩:=bs hr;obtain rfl:=Option.some.inj hz10;refine Za rfl (by simp [c3]; rfl) ?_;refine Zi ?_;obtain rfl:=Option.some.inj hr;simp [Zj,c3]
end Go.Proofs.YtbjhgolpnjokbaaGreat
