import Derived.Test.YtbjhgolpnjokbaaGreatLfK
import Derived.Test.YtbjhgolpnjokbaaGreatCode
import Derived.Test.YtbjhgolpnjokbaaGreatBl
namespace Go.Proofs.YtbjhgolpnjokbaaGreat
open Go.RowKit
open Go.Av
open Go.Lc
set_option maxRecDepth 100000
set_option linter.unusedSimpArgs false
set_option linter.unusedVariables false
set_option maxHeartbeats 4000000
variable {G : Glob}
def kp52 : Keep:=fun i=>⟨[],[],[]⟩
theorem w52 {T : Tab} (hO : T.own = fun _=>[]) (hT87 : T 87 = some G87) (a0 : Tapi_Tx) (x : Bool) (hr : XY a0 = some x) : ∃ kp fl n,Zt tt T G kp fl n Tryz.f52 (E52 a0) = some (R52 a0 x):=by
 simp only [E52,R52];refine fnE (kp:=kp52) (w:=false) body52 (by simp) ?_;unfold c52;rw [Tryz.ntmps52];unfold XY at hr;refine Za rfl (by simp []; rfl) ?_;by_cases c4 : (a0.2.1.length : Int) = 1
 ·skip
  have c4N:=c4;try simp at c4N
  rw [if_pos] at hr;rotate_left
  ·simp [eq_true c4,eq_true c4N]
  obtain ⟨z5,hz5,hr⟩:=bs hr;obtain ⟨x6,hx6,hz5⟩:=bs hz5;have hx6c:=Zq hx6;obtain ⟨y7,hy7,hz5⟩:=bs hz5;have ehy7:=ZsW hy7;simp only [E87,R87,nf,nfs] at ehy7;obtain rfl:=Option.some.inj hz5;refine Za rfl (by simp [hx6,hx6c,hO,hT87,ehy7,eq_true c4,eq_true c4N]; rfl) ?_;refine Zi ?_;obtain rfl:=Option.some.inj hr;simp [Zj,hx6,hx6c,hO,hT87,ehy7,eq_true c4,eq_true c4N]
 ·skip
  have c4N:=c4;try simp at c4N
  first | have c4M : (_ = _) = True:=eq_true c4N | have c4M:=c4N
  rw [if_neg] at hr;rotate_left
  ·simp [c4,c4M]
  obtain ⟨z8,hz8,hr⟩:=bs hr;obtain rfl:=Option.some.inj hz8;refine Za rfl (by simp [c4,c4M]; rfl) ?_;refine Zi ?_;obtain rfl:=Option.some.inj hr;simp [Zj,c4,c4M,c4N]
def kp117 : Keep:=fun i=>⟨[],[],[]⟩
theorem w117 {T : Tab} (a0 : (List Int)) (a1 : (List Int)) (x : (List Int)) (hr : Ys a0 a1 = some x) : ∃ kp fl n,Zt tt T G kp fl n Tryz.f117 (Zdx (a0,a1)) = some (Ze5 (a0,a1) x):=by
 simp only [Zdx,Ze5];refine fnE (kp:=kp117) (w:=true) body117 (by simp) ?_;unfold c117;rw [Tryz.ntmps117];unfold Ys at hr;refine Za rfl (by simp []; rfl) ?_;obtain ⟨_,u4,hr⟩:=bs hr;obtain ⟨u4_0,u4_1⟩:=ZD u4;have mf5 : 0≤(IntKind.i64.wrap ((a0.length : Int) + (a1.length : Int))).toNat:=by omega
 have mf6 : (IntKind.i64.wrap ((a0.length : Int) + (a1.length : Int))).toNat≤140737488355328:=by omega
 have mf7 : (IntKind.i64.wrap ((a0.length : Int) + (a1.length : Int))).toNat≤9223372036854775807:=by omega
 have mf8 : 0≤IntKind.i64.wrap ((a0.length : Int) + (a1.length : Int)):=by omega
 refine Za rfl (by simp [u4_0,u4_1,mf5,mf6,mf7,mf8]; rfl) ?_;obtain ⟨_,u9,hr⟩:=bs hr;have u9_0:=ZD u9;have n1_u9_0 : a0.length≤140737488355328:=by omega
 have n2_u9_0 : a0.length≤9223372036854775807:=by omega
 refine Za rfl (by simp [n1_u9_0,n2_u9_0]; rfl) ?_;obtain ⟨_,u10,hr⟩:=bs hr;have u10_0:=ZD u10;have n1_u10_0 : a0.length + a1.length≤140737488355328:=by omega
 have n2_u10_0 : a0.length + a1.length≤9223372036854775807:=by omega
 refine Za rfl (by simp [n1_u10_0,n2_u10_0]; rfl) ?_;refine Zi ?_;obtain rfl:=Option.some.inj hr;simp [Zj,n1_u10_0,n2_u10_0]
def kp118 : Keep:=fun i=>if i = 3 then ⟨[0,5,9,10],[8],[]⟩ else ⟨[],[],[]⟩
theorem w118 {T : Tab} (a0 : Int) (a1 : Int) (x : (List Int)) (hr : YJ a0 a1 = some x) : ∃ kp fl n,Zt tt T G kp fl n Tryz.f118 (ZgM (a0,a1)) = some (Zjj (a0,a1) x):=by
 simp only [ZgM,Zjj];refine fnE (kp:=kp118) (w:=true) body118 (by simp) ?_;unfold c118;rw [Tryz.ntmps118];unfold YJ at hr;refine Za rfl (by simp []; rfl) ?_;obtain ⟨_,u14,hr⟩:=bs hr;obtain ⟨u14_0,u14_1⟩:=ZD u14;have mf15 : (a1).toNat≤140737488355328:=by omega
 have mf16 : (a1).toNat≤9223372036854775807:=by omega
 have mf17 : 0≤a1:=by omega
 refine Za rfl (by simp [u14_0,u14_1,mf15,mf16,mf17]; rfl) ?_;refine Zb ?_;refine Za rfl (by simp []; rfl) ?_;refine Zg ?_;refine ZJ (kq:=⟨[0,5,9,10],[8],[]⟩) (H:=fun (s : Int×(List Int))=>match s with | (p8,p9)=>(⟨([.one (.v (.int .u64 a0))]++(und 4++([.one (.ms 8 0 0 (p9.length) 1)]++(und 3++([.one (.v (.int .i64 a1)),.one (.v (.int .i64 p8))]++(und 12))))) : List PV),([(8,⟨0,1,Zl .u8 p9,false,true⟩)] : Boxes)⟩ : ASt)) (by kernel_rfl) hr (by simp [und,List.replicate,]) ?_;rintro ⟨p8,p9⟩ x23r hr23
 simp only [Zbq] at hr23;unfold b118_1;simp only [und,List.replicate,List.cons_append,List.nil_append];refine Za rfl (by simp []; rfl) ?_;by_cases c24 : p8 < a1
 ·skip
  rw [if_pos] at hr23;rotate_left
  ·simp [c24]
  refine Zd (by simp [bV,c24]) ?_;refine Zh ?_;refine Zg ?_;refine Za rfl (by simp [c24]; rfl) ?_;obtain ⟨_,u25,hr23⟩:=bs hr23;have u25_0:=ZD u25;obtain ⟨j26,hj26,hr23⟩:=bs hr23;obtain ⟨j26a,j26b,j26c⟩:=Yc hj26;refine ZA rfl (by simp [u25_0,j26a,j26b,j26c,c24]; rfl) ?_;simp only [pq,reduceCtorEq];refine ZA rfl (by simp [c24]; rfl) ?_;obtain rfl:=Option.some.inj hr23;simp only [pq,reduceCtorEq];simp [und,List.replicate,Nat.add_assoc,c24]
 ·skip
  rw [if_neg] at hr23;rotate_left
  ·simp [c24]
  refine Ze (by simp [bV,c24]) ?_;refine Zr ?_;obtain ⟨r27,q27,rfl⟩:=ms hr23;simp only [pq,reduceCtorEq];rintro rfl
  try simp only [pq,reduceCtorEq]
  unfold Zep at q27;refine Za rfl (by simp [c24]; rfl) ?_;refine Zi ?_;obtain rfl:=Option.some.inj q27;simp [Zj,c24]
def kp107 : Keep:=fun i=>⟨[],[],[]⟩
theorem w107 {T : Tab} (hO : T.own = fun _=>[]) (hT117 : T 117 = some G117) (hT118 : T 118 = some G118) (a0 : (List Int)) (a1 : Int) (x : (List Int)) (hr : YB a0 a1 = some x) : ∃ kp fl n,Zt tt T G kp fl n Tryz.f107 (Zfr (a0,a1)) = some (Zhb (a0,a1) x):=by
 simp only [Zfr,Zhb];refine fnE (kp:=kp107) (w:=true) body107 (by simp) ?_;unfold c107;rw [Tryz.ntmps107];unfold YB at hr;refine Za rfl (by simp []; rfl) ?_;obtain ⟨y3,hy3,hr⟩:=bs hr;have ehy3:=Zlj hy3;simp only [ZgM,Zjj,nf,nfs] at ehy3;obtain ⟨y4,hy4,hr⟩:=bs hr;have ehy4:=ZdQ hy4;simp only [Zdx,Ze5,nf,nfs] at ehy4;refine Za rfl (by simp [hO,hT118,ehy3,hT117,ehy4]; rfl) ?_;refine Zi ?_;obtain rfl:=Option.some.inj hr;simp [Zj,hO,hT118,ehy3,hT117,ehy4]
def kp110 : Keep:=fun i=>⟨[],[],[]⟩
theorem w110 {T : Tab} (hO : T.own = fun _=>[]) (hT117 : T 117 = some G117) (hT118 : T 118 = some G118) (a0 : (List Int)) (a1 : Int) (x : (List Int)) (hr : Y0 a0 a1 = some x) : ∃ kp fl n,Zt tt T G kp fl n Tryz.f110 (Zhc (a0,a1)) = some (Zkp (a0,a1) x):=by
 simp only [Zhc,Zkp];refine fnE (kp:=kp110) (w:=true) body110 (by simp) ?_;unfold c110;rw [Tryz.ntmps110];unfold Y0 at hr;refine Za rfl (by simp []; rfl) ?_;obtain ⟨y3,hy3,hr⟩:=bs hr;have ehy3:=Zlj hy3;simp only [ZgM,Zjj,nf,nfs] at ehy3;obtain ⟨y4,hy4,hr⟩:=bs hr;have ehy4:=ZdQ hy4;simp only [Zdx,Ze5,nf,nfs] at ehy4;refine Za rfl (by simp [hO,hT118,ehy3,hT117,ehy4]; rfl) ?_;refine Zi ?_;obtain rfl:=Option.some.inj hr;simp [Zj,hO,hT118,ehy3,hT117,ehy4]
def kp119 : Keep:=fun i=>⟨[],[],[]⟩
theorem w119 {T : Tab} (hO : T.own = fun _=>[]) (hT117 : T 117 = some G117) (hT118 : T 118 = some G118) (a0 : (List Int)) (a1 : Int) (x : (List Int)) (hr : Xj a0 a1 = some x) : ∃ kp fl n,Zt tt T G kp fl n Tryz.f119 (Zic (a0,a1)) = some (Zlk (a0,a1) x):=by
 simp only [Zic,Zlk];refine fnE (kp:=kp119) (w:=true) body119 (by simp) ?_;unfold c119;rw [Tryz.ntmps119];unfold Xj at hr;refine Za rfl (by simp []; rfl) ?_;obtain ⟨y3,hy3,hr⟩:=bs hr;have ehy3:=Zlj hy3;simp only [ZgM,Zjj,nf,nfs] at ehy3;obtain ⟨y4,hy4,hr⟩:=bs hr;have ehy4:=ZdQ hy4;simp only [Zdx,Ze5,nf,nfs] at ehy4;refine Za rfl (by simp [hO,hT118,ehy3,hT117,ehy4]; rfl) ?_;refine Zi ?_;obtain rfl:=Option.some.inj hr;simp [Zj,hO,hT118,ehy3,hT117,ehy4]
def kp108 : Keep:=fun i=>⟨[],[],[]⟩
theorem w108 {T : Tab} (hO : T.own = fun _=>[]) (hT107 : T 107 = some G107) (hT110 : T 110 = some G110) (hT117 : T 117 = some G117) (hT119 : T 119 = some G119) (a0 : (List Int)) (a1 : Int) (x : (List Int)) (hr : YD a0 a1 = some x) : ∃ kp fl n,Zt tt T G kp fl n Tryz.f108 (Zf2 (a0,a1)) = some (Zid (a0,a1) x):=by
 simp only [Zf2,Zid];refine fnE (kp:=kp108) (w:=true) body108 (by simp) ?_;unfold c108;rw [Tryz.ntmps108];unfold YD at hr;refine Za rfl (by simp []; rfl) ?_;refine Zg ?_;refine Za rfl (by simp []; rfl) ?_;by_cases c8 : a1 < 253
 ·skip
  rw [if_pos c8] at hr;refine Zp (by simp [bV,c8]) ?_;obtain ⟨y9,hy9,hr⟩:=bs hr;have ehy9:=ZdQ hy9;simp only [Zdx,Ze5,nf,nfs] at ehy9;refine Za rfl (by simp [hO,hT117,ehy9,c8]; rfl) ?_;refine Zi ?_;obtain rfl:=Option.some.inj hr;simp [Zj,hO,hT117,ehy9,c8]
 ·skip
  rw [if_neg c8] at hr;refine Zy (by simp [bV,c8]) ?_;refine Za rfl (by simp [c8]; rfl) ?_;by_cases c10 : a1 < 65536
  ·skip
   rw [if_pos c10] at hr;refine Zp (by simp [bV,c8,c10]) ?_;obtain ⟨y11,hy11,hr⟩:=bs hr;have ehy11:=ZdQ hy11;simp only [Zdx,Ze5,nf,nfs] at ehy11;obtain ⟨y12,hy12,hr⟩:=bs hr;have ehy12:=Zr1 hy12;simp only [Zic,Zlk,nf,nfs] at ehy12;refine Za rfl (by simp [hO,hT117,ehy11,hT119,ehy12,c8,c10]; rfl) ?_;refine Zi ?_;obtain rfl:=Option.some.inj hr;simp [Zj,hO,hT117,ehy11,hT119,ehy12,c8,c10]
  ·skip
   rw [if_neg c10] at hr;refine Zy (by simp [bV,c8,c10]) ?_;refine Za rfl (by simp [c8,c10]; rfl) ?_;by_cases c13 : a1 < 4294967296
   ·skip
    rw [if_pos c13] at hr;refine Zp (by simp [bV,c8,c10,c13]) ?_;obtain ⟨y14,hy14,hr⟩:=bs hr;have ehy14:=ZdQ hy14;simp only [Zdx,Ze5,nf,nfs] at ehy14;obtain ⟨y15,hy15,hr⟩:=bs hr;have ehy15:=ZhA hy15;simp only [Zfr,Zhb,nf,nfs] at ehy15;refine Za rfl (by simp [hO,hT117,ehy14,hT107,ehy15,c8,c10,c13]; rfl) ?_;refine Zi ?_;obtain rfl:=Option.some.inj hr;simp [Zj,hO,hT117,ehy14,hT107,ehy15,c8,c10,c13]
   ·skip
    rw [if_neg c13] at hr;refine Zy (by simp [bV,c8,c10,c13]) ?_;refine ZV ?_;simp only [pq,reduceCtorEq];obtain ⟨y16,hy16,hr⟩:=bs hr;have ehy16:=ZdQ hy16;simp only [Zdx,Ze5,nf,nfs] at ehy16;obtain ⟨y17,hy17,hr⟩:=bs hr;have ehy17:=ZnU hy17;simp only [Zhc,Zkp,nf,nfs] at ehy17;refine Za rfl (by simp [hO,hT117,ehy16,hT110,ehy17,c8,c10,c13]; rfl) ?_;refine Zi ?_;obtain rfl:=Option.some.inj hr;simp [Zj,hO,hT117,ehy16,hT110,ehy17,c8,c10,c13]
def kp120 : Keep:=fun i=>⟨[],[],[]⟩
theorem w120 {T : Tab} (hO : T.own = fun _=>[]) (hT117 : T 117 = some G117) (a0 : (List Int)) (a1 : (Arr 32)) (x : (List Int)) (hr : Y4 a0 a1 = some x) : ∃ kp fl n,Zt tt T G kp fl n Tryz.f120 (Zie (a0,a1)) = some (Zll (a0,a1) x):=by
 simp only [Zie,Zll];refine fnE (kp:=kp120) (w:=true) body120 (by simp) ?_;unfold c120;rw [Tryz.ntmps120];unfold Y4 at hr;refine Za rfl (by simp []; rfl) ?_;obtain ⟨y2,hy2,hr⟩:=bs hr;have ehy2:=ZdQ hy2;simp only [Zdx,Ze5,nf,nfs] at ehy2;refine Za rfl (by simp [hO,hT117,ehy2]; rfl) ?_;refine Zi ?_;obtain rfl:=Option.some.inj hr;simp [Zj,hO,hT117,ehy2]
def kp109 : Keep:=fun i=>⟨[],[],[]⟩
theorem w109 {T : Tab} (hO : T.own = fun _=>[]) (hT107 : T 107 = some G107) (hT120 : T 120 = some G120) (a0 : Tapi_OutPoint) (x : (List Int)) (hr : Zcq a0 = some x) : ∃ kp fl n,Zt tt T G kp fl n Tryz.f109 (Zif a0) = some (Zlm a0 x):=by
 simp only [Zif,Zlm];refine fnE (kp:=kp109) (w:=true) body109 (by simp) ?_;unfold c109;rw [Tryz.ntmps109];unfold Zcq at hr;refine Za rfl (by simp []; rfl) ?_;obtain ⟨y3,hy3,hr⟩:=bs hr;have ehy3:=Zr2 hy3;simp only [Zie,Zll,nf,nfs] at ehy3;obtain ⟨y4,hy4,hr⟩:=bs hr;have ehy4:=ZhA hy4;simp only [Zfr,Zhb,nf,nfs] at ehy4;refine ZC rfl (by simp [hO,hT120,ehy3,hT107,ehy4]; first | exact ⟨rfl,rfl⟩ | rfl) (by kernel_rfl) ?_;refine Zi ?_;obtain rfl:=Option.some.inj hr;simp [Zj,hO,hT120,ehy3,hT107,ehy4]
def kp111 : Keep:=fun i=>⟨[],[],[]⟩
theorem w111 {T : Tab} (hO : T.own = fun _=>[]) (hT108 : T 108 = some G108) (hT117 : T 117 = some G117) (a0 : (List Int)) (a1 : (List Int)) (x : (List Int)) (hr : YM a0 a1 = some x) : ∃ kp fl n,Zt tt T G kp fl n Tryz.f111 (Zhd (a0,a1)) = some (Zkq (a0,a1) x):=by
 simp only [Zhd,Zkq];refine fnE (kp:=kp111) (w:=true) body111 (by simp) ?_;unfold c111;rw [Tryz.ntmps111];unfold YM at hr;refine Za rfl (by simp []; rfl) ?_;obtain ⟨y3,hy3,hr⟩:=bs hr;have ehy3:=Zjy hy3;simp only [Zf2,Zid,nf,nfs] at ehy3;obtain ⟨y4,hy4,hr⟩:=bs hr;have ehy4:=ZdQ hy4;simp only [Zdx,Ze5,nf,nfs] at ehy4;refine Za rfl (by simp [hO,hT108,ehy3,hT117,ehy4]; rfl) ?_;refine Zi ?_;obtain rfl:=Option.some.inj hr;simp [Zj,hO,hT108,ehy3,hT117,ehy4]
def kp103 : Keep:=fun i=>if i = 4 then ⟨[1,2,5,25,26,27],[2,16],[]⟩ else if i = 11 then ⟨[1,2,5,50,51,52],[2,16],[]⟩ else if i = 20 then ⟨[5,77,78,79],[16],[]⟩ else if i = 24 then ⟨[5,77,78,79,91,92,93],[16],[]⟩ else ⟨[],[],[]⟩
theorem w103 {T : Tab} (hO : T.own = fun _=>[]) (hT107 : T 107 = some G107) (hT108 : T 108 = some G108) (hT109 : T 109 = some G109) (hT110 : T 110 = some G110) (hT111 : T 111 = some G111) (a0 : Tapi_Tx) (a1 : Bool) (x : (List Int)) (hr : ZbO a0 a1 = some x) : ∃ kp fl n,Zt tt T G kp fl n Tryz.f103 (Zig (a0,a1)) = some (Zln (a0,a1) x):=by
 simp only [Zig,Zln];refine fnE (kp:=kp103) (w:=true) body103 (by simp) ?_;unfold c103;rw [Tryz.ntmps103];unfold ZbO at hr;refine Za rfl (by simp [Nat.add_assoc,]; rfl) ?_;obtain ⟨y127,hy127,hr⟩:=bs hr;have ehy127:=ZhA hy127;simp only [Zfr,Zhb,nf,nfs] at ehy127;refine Za rfl (by simp [Nat.add_assoc,hO,hT107,ehy127]; rfl) ?_;obtain ⟨y128,hy128,hr⟩:=bs hr;have ehy128:=Zjy hy128;simp only [Zf2,Zid,nf,nfs] at ehy128;obtain ⟨_,u129,hr⟩:=bs hr;have u129_0:=ZD u129;have n1_u129_0 : y127.length + y128.length≤140737488355328:=by omega
 have n2_u129_0 : y127.length + y128.length≤9223372036854775807:=by omega
 refine Za rfl (by simp [Nat.add_assoc,hO,hT108,ehy128,n1_u129_0,n2_u129_0]; rfl) ?_;refine Zb ?_;refine Za rfl (by simp [Nat.add_assoc,]; rfl) ?_;refine Zg ?_;refine ZJ (kq:=⟨[1,2,5,25,26,27],[2,16],[]⟩) (H:=fun (s : Int×(List Int))=>match s with | (p16,p17)=>(⟨(und 1++([.one (.v (.bool a1)),.ptr 2 0 0 0 4]++(und 2++([.one (.ms 16 0 0 (p17.length) 1)]++(und 19++([.one (.slice .no (List.map Zm a0.2.1)),.one (.v (.int .i64 (a0.2.1.length : Int))),.one (.v (.int .i64 p16))]++(und 76)))))) : List PV),([(2,⟨0,4,[[.v (.int .u32 a0.1),.slice .no (List.map Zm a0.2.1),.slice .no (List.map Zk a0.2.2.1),.v (.int .u32 a0.2.2.2)]],false,false⟩),(16,⟨0,1,Zl .u8 p17,false,true⟩)] : Boxes)⟩ : ASt)) (by kernel_rfl) hr (by simp [Nat.add_assoc,und,List.replicate,]) ?_;rintro ⟨p16,p17⟩ x138r hr138
 simp only [ZcQ] at hr138;unfold b103_1;simp only [und,List.replicate,List.cons_append,List.nil_append];refine Za rfl (by simp [Nat.add_assoc,]; rfl) ?_;by_cases c139 : p16 < (a0.2.1.length : Int)
 ·skip
  have c139N:=c139;try simp at c139N
  first | have c139M : (_ = _) = True:=eq_true c139N | have c139M:=c139N
  rw [if_pos] at hr138;rotate_left
  ·simp [Nat.add_assoc,c139,c139M]
  refine Zd (by simp [Nat.add_assoc,bV,c139,c139M]) ?_;refine Zh ?_;refine Zg ?_;obtain ⟨x140,hx140,hr138⟩:=bs hr138;obtain ⟨hx140a,hx140b⟩:=Zz hx140;have hx140c:=Zq hx140b;refine Za rfl (by simp [Nat.add_assoc,hx140a,hx140b,hx140c,c139,c139M]; rfl) ?_;obtain ⟨y141,hy141,hr138⟩:=bs hr138;have ehy141:=Zr3 hy141;simp only [Zif,Zlm,nf,nfs] at ehy141;obtain ⟨_,u142,hr138⟩:=bs hr138;have u142_0:=ZD u142;have n1_u142_0 : p17.length + y141.length≤140737488355328:=by omega
  have n2_u142_0 : p17.length + y141.length≤9223372036854775807:=by omega
  refine Za rfl (by simp [Nat.add_assoc,hO,hT109,ehy141,n1_u142_0,n2_u142_0,c139,c139M]; rfl) ?_;obtain ⟨y143,hy143,hr138⟩:=bs hr138;have ehy143:=ZhA hy143;simp only [Zfr,Zhb,nf,nfs] at ehy143;obtain ⟨_,u144,hr138⟩:=bs hr138;have u144_0:=ZD u144
  have n1_u144_0 : p17.length + (y141.length + y143.length)≤140737488355328:=by
   have h:=u144_0;try simp at h
   omega
  have n2_u144_0 : p17.length + (y141.length + y143.length)≤9223372036854775807:=by
   have h:=u144_0;try simp at h
   omega
  refine ZA rfl (by simp [Nat.add_assoc,hO,hT107,ehy143,n1_u144_0,n2_u144_0,c139,c139M]; rfl) ?_;simp only [pq,reduceCtorEq];refine ZA rfl (by simp [Nat.add_assoc,c139,c139M]; rfl) ?_;obtain rfl:=Option.some.inj hr138;simp only [pq,reduceCtorEq];simp [Nat.add_assoc,und,List.replicate,Nat.add_assoc,c139,c139M]
 ·skip
  have c139N:=c139;try simp at c139N
  first | have c139M : (_ = _) = True:=eq_true c139N | have c139M:=c139N
  rw [if_neg] at hr138;rotate_left
  ·simp [Nat.add_assoc,c139,c139M]
  refine Ze (by simp [Nat.add_assoc,bV,c139,c139M]) ?_;refine Zr ?_;obtain ⟨r145,q145,rfl⟩:=ms hr138;simp only [pq,reduceCtorEq];rintro rfl
  try simp only [pq,reduceCtorEq]
  unfold Zea at q145;obtain ⟨y146,hy146,q145⟩:=bs q145;have ehy146:=Zjy hy146;simp only [Zf2,Zid,nf,nfs] at ehy146;obtain ⟨_,u147,q145⟩:=bs q145;have u147_0:=ZD u147;have n1_u147_0 : p17.length + y146.length≤140737488355328:=by omega
  have n2_u147_0 : p17.length + y146.length≤9223372036854775807:=by omega
  refine Za rfl (by simp [Nat.add_assoc,hO,hT108,ehy146,n1_u147_0,n2_u147_0,c139,c139M]; rfl) ?_;refine Zb ?_;refine Za rfl (by simp [Nat.add_assoc,c139,c139M]; rfl) ?_;refine Zg ?_;refine ZJ (kq:=⟨[1,2,5,50,51,52],[2,16],[]⟩) (H:=fun (s : Int×(List Int))=>match s with | (p37,p38)=>(⟨(und 1++([.one (.v (.bool a1)),.ptr 2 0 0 0 4]++(und 2++([.one (.ms 16 0 0 (p38.length) 1)]++(und 44++([.one (.slice .no (List.map Zk a0.2.2.1)),.one (.v (.int .i64 (a0.2.2.1.length : Int))),.one (.v (.int .i64 p37))]++(und 51)))))) : List PV),([(2,⟨0,4,[[.v (.int .u32 a0.1),.slice .no (List.map Zm a0.2.1),.slice .no (List.map Zk a0.2.2.1),.v (.int .u32 a0.2.2.2)]],false,false⟩),(16,⟨0,1,Zl .u8 p38,false,true⟩)] : Boxes)⟩ : ASt)) (by kernel_rfl) q145 (by simp [Nat.add_assoc,und,List.replicate,c139,c139M]) ?_;rintro ⟨p37,p38⟩ x156r hr156
  simp only [ZcP] at hr156;unfold b103_2;simp only [und,List.replicate,List.cons_append,List.nil_append];refine Za rfl (by simp [Nat.add_assoc,c139,c139M]; rfl) ?_;by_cases c157 : p37 < (a0.2.2.1.length : Int)
  ·skip
   have c157N:=c157;try simp at c157N
   first | have c157M : (_ = _) = True:=eq_true c157N | have c157M:=c157N
   rw [if_pos] at hr156;rotate_left
   ·simp [Nat.add_assoc,c139,c139M,c157,c157M]
   refine Zd (by simp [Nat.add_assoc,bV,c139,c139M,c157,c157M]) ?_;refine Zh ?_;refine Zg ?_;obtain ⟨x158,hx158,hr156⟩:=bs hr156;obtain ⟨hx158a,hx158b⟩:=Zz hx158;have hx158c:=Zq hx158b;refine Za rfl (by simp [Nat.add_assoc,hx158a,hx158b,hx158c,c139,c139M,c157,c157M]; rfl) ?_;obtain ⟨y159,hy159,hr156⟩:=bs hr156;have ehy159:=ZnU hy159;simp only [Zhc,Zkp,nf,nfs] at ehy159;obtain ⟨_,u160,hr156⟩:=bs hr156;have u160_0:=ZD u160;have n1_u160_0 : p38.length + y159.length≤140737488355328:=by omega
   have n2_u160_0 : p38.length + y159.length≤9223372036854775807:=by omega
   refine Za rfl (by simp [Nat.add_assoc,hO,hT110,ehy159,n1_u160_0,n2_u160_0,c139,c139M,c157,c157M]; rfl) ?_;obtain ⟨y161,hy161,hr156⟩:=bs hr156;have ehy161:=ZnV hy161;simp only [Zhd,Zkq,nf,nfs] at ehy161;obtain ⟨_,u162,hr156⟩:=bs hr156;have u162_0:=ZD u162
   have n1_u162_0 : p38.length + (y159.length + y161.length)≤140737488355328:=by
    have h:=u162_0;try simp at h
    omega
   have n2_u162_0 : p38.length + (y159.length + y161.length)≤9223372036854775807:=by
    have h:=u162_0;try simp at h
    omega
   refine ZA rfl (by simp [Nat.add_assoc,hO,hT111,ehy161,n1_u162_0,n2_u162_0,c139,c139M,c157,c157M]; rfl) ?_;simp only [pq,reduceCtorEq];refine ZA rfl (by simp [Nat.add_assoc,c139,c139M,c157,c157M]; rfl) ?_;obtain rfl:=Option.some.inj hr156;simp only [pq,reduceCtorEq];simp [Nat.add_assoc,und,List.replicate,Nat.add_assoc,c139,c139M,c157,c157M]
  ·skip
   have c157N:=c157;try simp at c157N
   first | have c157M : (_ = _) = True:=eq_true c157N | have c157M:=c157N
   rw [if_neg] at hr156;rotate_left
   ·simp [Nat.add_assoc,c139,c139M,c157,c157M]
   refine Ze (by simp [Nat.add_assoc,bV,c139,c139M,c157,c157M]) ?_;refine Zr ?_;obtain ⟨r163,q163,rfl⟩:=ms hr156;simp only [pq,reduceCtorEq];rintro rfl
   try simp only [pq,reduceCtorEq]
   unfold Zd9 at q163;obtain ⟨y164,hy164,q163⟩:=bs q163;have ehy164:=ZhA hy164;simp only [Zfr,Zhb,nf,nfs] at ehy164;obtain ⟨_,u165,q163⟩:=bs q163;have u165_0:=ZD u165;have n1_u165_0 : p38.length + y164.length≤140737488355328:=by omega
   have n2_u165_0 : p38.length + y164.length≤9223372036854775807:=by omega
   refine Za rfl (by simp [Nat.add_assoc,hO,hT107,ehy164,n1_u165_0,n2_u165_0,c139,c139M,c157,c157M]; rfl) ?_;refine Zb ?_;refine Za rfl (by simp [Nat.add_assoc,c139,c139M,c157,c157M]; rfl) ?_;by_cases c166 : a1 = true
   ·skip
    rw [if_neg (not_not_intro c166)] at q163;refine Ze (by simp [Nat.add_assoc,bV,c139,c139M,c157,c157M,c166]) ?_;refine Zh ?_;refine Zb ?_;refine Za rfl (by simp [Nat.add_assoc,c139,c139M,c157,c157M,c166]; rfl) ?_;refine Zg ?_;refine ZJ (kq:=⟨[5,77,78,79],[16],[]⟩) (H:=fun (s : Int×(List Int))=>match s with | (p80,p81)=>(⟨(und 5++([.one (.ms 16 0 0 (p81.length) 1)]++(und 71++([.one (.slice .no (List.map Zm a0.2.1)),.one (.v (.int .i64 (a0.2.1.length : Int))),.one (.v (.int .i64 p80))]++(und 24)))) : List PV),([(16,⟨0,1,Zl .u8 p81,false,true⟩)] : Boxes)⟩ : ASt)) (by kernel_rfl) q163 (by simp [Nat.add_assoc,und,List.replicate,c139,c139M,c157,c157M,c166]) ?_;rintro ⟨p80,p81⟩ x185r hr185
    simp only [ZcO] at hr185;unfold b103_3;simp only [und,List.replicate,List.cons_append,List.nil_append];refine Za rfl (by simp [Nat.add_assoc,c139,c139M,c157,c157M,c166]; rfl) ?_;by_cases c186 : p80 < (a0.2.1.length : Int)
    ·skip
     have c186N:=c186;try simp at c186N
     first | have c186M : (_ = _) = True:=eq_true c186N | have c186M:=c186N
     rw [if_pos] at hr185;rotate_left
     ·simp [Nat.add_assoc,c139,c139M,c157,c157M,c166,c186,c186M]
     refine Zd (by simp [Nat.add_assoc,bV,c139,c139M,c157,c157M,c166,c186,c186M]) ?_;refine Zh ?_;refine Zg ?_;obtain ⟨x187,hx187,hr185⟩:=bs hr185;obtain ⟨hx187a,hx187b⟩:=Zz hx187;have hx187c:=Zq hx187b;refine Za rfl (by simp [Nat.add_assoc,hx187a,hx187b,hx187c,c139,c139M,c157,c157M,c166,c186,c186M]; rfl) ?_;obtain ⟨y188,hy188,hr185⟩:=bs hr185;have ehy188:=Zjy hy188;simp only [Zf2,Zid,nf,nfs] at ehy188;obtain ⟨_,u189,hr185⟩:=bs hr185;have u189_0:=ZD u189;have n1_u189_0 : p81.length + y188.length≤140737488355328:=by omega
     have n2_u189_0 : p81.length + y188.length≤9223372036854775807:=by omega
     refine Za rfl (by simp [Nat.add_assoc,hO,hT108,ehy188,n1_u189_0,n2_u189_0,c139,c139M,c157,c157M,c166,c186,c186M]; rfl) ?_;refine Za rfl (by simp [Nat.add_assoc,c139,c139M,c157,c157M,c166,c186,c186M]; rfl) ?_;refine ZaW ?_;refine ZJ (kq:=⟨[5,77,78,79,91,92,93],[16],[]⟩) (H:=fun (s : Int×(List Int))=>match s with | (p109,p110)=>(⟨(und 5++([.one (.ms 16 0 0 (p110.length) 1)]++(und 71++([.one (.slice .no (List.map Zm a0.2.1)),.one (.v (.int .i64 (a0.2.1.length : Int))),.one (.v (.int .i64 p80))]++(und 11++([.one (.slice .no (List.map Yd x187.2.2)),.one (.v (.int .i64 (x187.2.2.length : Int))),.one (.v (.int .i64 p109))]++(und 10)))))) : List PV),([(16,⟨0,1,Zl .u8 p110,false,true⟩)] : Boxes)⟩ : ASt)) (by kernel_rfl) hr185 (by simp [Nat.add_assoc,und,List.replicate,c139,c139M,c157,c157M,c166,c186,c186M]) ?_;rintro ⟨p109,p110⟩ x196r hr196
     simp only [ZbD] at hr196;unfold b103_4;simp only [und,List.replicate,List.cons_append,List.nil_append];refine Za rfl (by simp [Nat.add_assoc,c139,c139M,c157,c157M,c166,c186,c186M]; rfl) ?_;by_cases c197 : p109 < (x187.2.2.length : Int)
     ·skip
      have c197N:=c197;try simp at c197N
      first | have c197M : (_ = _) = True:=eq_true c197N | have c197M:=c197N
      rw [if_pos] at hr196;rotate_left
      ·simp [Nat.add_assoc,c139,c139M,c157,c157M,c166,c186,c186M,c197,c197M]
      refine Zd (by simp [Nat.add_assoc,bV,c139,c139M,c157,c157M,c166,c186,c186M,c197,c197M]) ?_;refine Zh ?_;refine Zg ?_;obtain ⟨x198,hx198,hr196⟩:=bs hr196;obtain ⟨hx198a,hx198b⟩:=Zz hx198;have hx198c:=Zq hx198b;refine Za rfl (by simp [Nat.add_assoc,hx198a,hx198b,hx198c,c139,c139M,c157,c157M,c166,c186,c186M,c197,c197M]; rfl) ?_;obtain ⟨y199,hy199,hr196⟩:=bs hr196;have ehy199:=ZnV hy199;simp only [Zhd,Zkq,nf,nfs] at ehy199;obtain ⟨_,u200,hr196⟩:=bs hr196;have u200_0:=ZD u200;have n1_u200_0 : p110.length + y199.length≤140737488355328:=by omega
      have n2_u200_0 : p110.length + y199.length≤9223372036854775807:=by omega
      refine ZA rfl (by simp [Nat.add_assoc,hO,hT111,ehy199,n1_u200_0,n2_u200_0,c139,c139M,c157,c157M,c166,c186,c186M,c197,c197M]; rfl) ?_;simp only [pq,reduceCtorEq];refine ZA rfl (by simp [Nat.add_assoc,c139,c139M,c157,c157M,c166,c186,c186M,c197,c197M]; rfl) ?_;obtain rfl:=Option.some.inj hr196;simp only [pq,reduceCtorEq];simp [Nat.add_assoc,und,List.replicate,Nat.add_assoc,c139,c139M,c157,c157M,c166,c186,c186M,c197,c197M]
     ·skip
      have c197N:=c197;try simp at c197N
      first | have c197M : (_ = _) = True:=eq_true c197N | have c197M:=c197N
      rw [if_neg] at hr196;rotate_left
      ·simp [Nat.add_assoc,c139,c139M,c157,c157M,c166,c186,c186M,c197,c197M]
      refine Ze (by simp [Nat.add_assoc,bV,c139,c139M,c157,c157M,c166,c186,c186M,c197,c197M]) ?_;refine Zr ?_;obtain ⟨r201,q201,rfl⟩:=ms hr196;simp only [pq,reduceCtorEq];rintro rfl
      try simp only [pq,reduceCtorEq]
      unfold ZfQ at q201;refine ZA rfl (by simp [Nat.add_assoc,c139,c139M,c157,c157M,c166,c186,c186M,c197,c197M]; rfl) ?_;obtain rfl:=Option.some.inj q201;simp only [pq,reduceCtorEq];simp [Nat.add_assoc,und,List.replicate,Nat.add_assoc,c139,c139M,c157,c157M,c166,c186,c186M,c197,c197M]
    ·skip
     have c186N:=c186;try simp at c186N
     first | have c186M : (_ = _) = True:=eq_true c186N | have c186M:=c186N
     rw [if_neg] at hr185;rotate_left
     ·simp [Nat.add_assoc,c139,c139M,c157,c157M,c166,c186,c186M]
     refine Ze (by simp [Nat.add_assoc,bV,c139,c139M,c157,c157M,c166,c186,c186M]) ?_;refine Zr ?_;obtain ⟨r202,q202,rfl⟩:=ms hr185;simp only [pq,reduceCtorEq];rintro rfl
     try simp only [pq,reduceCtorEq]
     unfold ZfP at q202;refine Za rfl (by simp [Nat.add_assoc,c139,c139M,c157,c157M,c166,c186,c186M]; rfl) ?_;refine Zi ?_;obtain rfl:=Option.some.inj q202;simp [Nat.add_assoc,Zj,c139,c139M,c157,c157M,c166,c186,c186M,c139N,c157N,c186N]
   ·skip
    rw [if_pos c166] at q163;refine Zd (by simp [Nat.add_assoc,bV,c139,c139M,c157,c157M,c166]) ?_;refine Zb ?_;refine Za rfl (by simp [Nat.add_assoc,c139,c139M,c157,c157M,c166]; rfl) ?_;refine Zn ?_;obtain rfl:=Option.some.inj q163;simp [Nat.add_assoc,Zj,c139,c139M,c157,c157M,c166,c139N,c157N]
end Go.Proofs.YtbjhgolpnjokbaaGreat
