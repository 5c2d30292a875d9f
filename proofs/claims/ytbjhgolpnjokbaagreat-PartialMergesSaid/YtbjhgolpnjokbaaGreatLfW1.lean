import Derived.Test.YtbjhgolpnjokbaaGreatLfK
import Derived.Test.YtbjhgolpnjokbaaGreatCode
import Derived.Test.YtbjhgolpnjokbaaGreatBl
namespace Go.Proofs.YtbjhgolpnjokbaaGreat
open Go.RowKit
open Go.Av
open Go.Lc
set_option maxRecDepth 100000
set_option linter.unusedSimpArgs false
set_option linter.unusedVariables false
set_option maxHeartbeats 4000000
variable {G : Glob}
def kp79 : Keep:=fun i=>if i = 3 then ⟨[1,2,3,6],[1,2,3],[]⟩ else ⟨[],[],[]⟩
theorem w79 {T : Tab} (a0 : (Arr 4)) (x : (Arr 32)) (hr : ZaC a0 = some x) : ∃ kp fl n,Zt tt T G kp fl n Tryz.f79 (E79 a0) = some (R79 a0 x):=by
 simp only [E79,R79];refine fnE (kp:=kp79) (w:=false) body79 (by simp) ?_;unfold c79;rw [Tryz.ntmps79];unfold ZaC at hr;refine Za rfl (by simp []; rfl) ?_;refine Za rfl (by simp []; rfl) ?_;refine Zb ?_;refine Za rfl (by simp []; rfl) ?_;refine Zg ?_;refine ZJ (kq:=⟨[1,2,3,6],[1,2,3],[]⟩) (H:=fun (s : Int×(Arr 32))=>match s with | (p8,p9)=>(⟨(und 1++([.ptr 1 0 0 0 4,.ptr 2 0 0 0 32,.ptr 3 0 0 0 32]++(und 2++([.one (.v (.int .i64 p8))]++(und 17)))) : List PV),([(1,⟨0,4,[arC .u64 a0],false,false⟩),(2,⟨0,32,[arC .u8 (zA 32)],false,false⟩),(3,⟨0,32,[arC .u8 p9],false,false⟩)] : Boxes)⟩ : ASt)) (by kernel_rfl) hr (by simp [und,List.replicate,]) ?_;rintro ⟨p8,p9⟩ x25r hr25
 simp only [Zdb] at hr25;unfold b79_1;simp only [und,List.replicate,List.cons_append,List.nil_append];refine Za rfl (by simp []; rfl) ?_;by_cases c26 : p8 < 32
 ·skip
  rw [if_pos] at hr25;rotate_left
  ·simp [c26]
  refine Zd (by simp [bV,c26]) ?_;refine Zh ?_;refine Zg ?_;refine Za rfl (by simp [c26]; rfl) ?_;refine Za rfl (by simp [c26]; rfl) ?_;obtain ⟨j27,hj27,hr25⟩:=bs hr25;obtain ⟨j27a,j27b,j27c⟩:=Yc hj27;have j27d : j27≤3:=by omega
  have ar28:=YZ (k:=.u64) (a0) (i:=j27) j27c;have as29:=Xf (k:=.u64) (a0) (i:=j27) j27c;obtain ⟨_,u30,hr25⟩:=bs hr25;have u30_0:=ZD u30;obtain ⟨j31,hj31,hr25⟩:=bs hr25;obtain ⟨j31a,j31b,j31c⟩:=Yc hj31;have j31d : j31≤31:=by omega
  have ap32:=Zac (k:=.u8) (p9) (i:=j31) j31c (IntKind.u8.wrap ((a0.at j27).fdiv (2 ^ (min (IntKind.i64.wrap (8 * ((IntKind.i64.wrap (31 - p8)).tmod 8))).toNat 64))));refine ZA rfl (by simp [j27a,j27b,j27c,j27d,ar28,as29,u30_0,j31a,j31b,j31c,j31d,ap32,c26]; rfl) ?_;simp only [pq,reduceCtorEq];refine ZA rfl (by simp [c26]; rfl) ?_;obtain rfl:=Option.some.inj hr25;simp only [pq,reduceCtorEq];simp [und,List.replicate,Nat.add_assoc,c26]
 ·skip
  rw [if_neg] at hr25;rotate_left
  ·simp [c26]
  refine Ze (by simp [bV,c26]) ?_;refine Zr ?_;obtain ⟨r33,q33,rfl⟩:=ms hr25;simp only [pq,reduceCtorEq];rintro rfl
  try simp only [pq,reduceCtorEq]
  unfold Zda at q33;refine Za rfl (by simp [c26]; rfl) ?_;refine Zi ?_;obtain rfl:=Option.some.inj q33;simp [Zj,c26]
def kp42 : Keep:=fun i=>⟨[],[],[]⟩
theorem w42 {T : Tab} (hO : T.own = fun _=>[]) (hT79 : T 79 = some G79) (a0 : (Arr 4)) (x : (List Int)) (hr : Za9 a0 = some x) : ∃ kp fl n,Zt tt T G kp fl n Tryz.f42 (E42 a0) = some (R42 a0 x):=by
 simp only [E42,R42];refine fnE (kp:=kp42) (w:=false) body42 (by simp) ?_;unfold c42;rw [Tryz.ntmps42];unfold Za9 at hr;refine Za rfl (by simp []; rfl) ?_;obtain ⟨y2,hy2,hr⟩:=bs hr;have ehy2:=ZsH hy2;simp only [E79,R79,nf,nfs] at ehy2;refine Za rfl (by simp [hO,hT79,ehy2]; rfl) ?_;refine Za rfl (by simp []; rfl) ?_;refine Zi ?_;obtain rfl:=Option.some.inj hr;simp [Zj,]
end Go.Proofs.YtbjhgolpnjokbaaGreat
