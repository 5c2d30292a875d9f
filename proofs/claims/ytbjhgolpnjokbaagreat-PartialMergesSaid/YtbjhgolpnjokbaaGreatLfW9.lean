import Derived.Test.YtbjhgolpnjokbaaGreatLfK
import Derived.Test.YtbjhgolpnjokbaaGreatCode
import Derived.Test.YtbjhgolpnjokbaaGreatBl
namespace Go.Proofs.YtbjhgolpnjokbaaGreat
open Go.RowKit
open Go.Av
open Go.Lc
set_option maxRecDepth 100000
set_option linter.unusedSimpArgs false
set_option linter.unusedVariables false
set_option maxHeartbeats 4000000
variable {G : Glob}
def kp28 : Keep:=fun i=>if i = 4 then ⟨[1,18,19,20],[1],[]⟩ else ⟨[],[],[]⟩
theorem w28 {T : Tab} (hO : T.own = fun _=>[]) (hT51 : T 51 = some G51) (hT52 : T 52 = some G52) (hT53 : T 53 = some G53) (a0 : Tapi_Plan) (x : Bool) (hr : XB a0 = some x) : ∃ kp fl n,Zt tt T G kp fl n Tryz.f28 (E28 a0) = some (R28 a0 x):=by
 simp only [E28,R28];refine fnE (kp:=kp28) (w:=false) body28 (by simp) ?_;unfold c28;rw [Tryz.ntmps28];unfold XB at hr;refine Za rfl (by simp []; rfl) ?_;refine Zb ?_;obtain ⟨y11,hy11,hr⟩:=bs hr;have ehy11:=ZpR hy11;simp only [E51,R51,nf,nfs] at ehy11;by_cases c12 : y11 = 0
 ·skip
  rw [if_neg] at hr;rotate_left
  ·simp [eq_true c12]
  obtain ⟨z13,hz13,hr⟩:=bs hr;obtain ⟨y14,hy14,hz13⟩:=bs hz13;have ehy14:=ZpQ hy14;simp only [E52,R52,nf,nfs] at ehy14;obtain rfl:=Option.some.inj hz13;refine Za rfl (by simp [hO,hT51,ehy11,hT52,ehy14,eq_true c12]; rfl) ?_;by_cases c15 : y14 = true
  ·skip
   rw [if_pos] at hr;rotate_left
   ·simp [eq_true c12,c15]
   refine Zd (by simp [bV,eq_true c12,c15]) ?_;refine Zb ?_;refine Za rfl (by simp [eq_true c12,c15]; rfl) ?_;refine Zn ?_;obtain rfl:=Option.some.inj hr;simp [Zj,eq_true c12,c15]
  ·skip
   rw [if_neg] at hr;rotate_left
   ·simp [eq_true c12,c15]
   refine Ze (by simp [bV,eq_true c12,c15]) ?_;refine Zh ?_;refine Zb ?_;refine Za rfl (by simp [eq_true c12,c15]; rfl) ?_;refine Zg ?_;refine ZJ (kq:=⟨[1,18,19,20],[1],[]⟩) (H:=fun (s : Int)=>match s with | p7=>(⟨(und 1++([.ptr 1 0 0 0 7]++(und 16++([.one (.slice .no (List.map Zm a0.1.2.1)),.one (.v (.int .i64 (a0.1.2.1.length : Int))),.one (.v (.int .i64 p7))]++(und 36)))) : List PV),([(1,⟨0,7,[[.v (.int .u32 a0.1.1),.slice .no (List.map Zm a0.1.2.1),.slice .no (List.map Zk a0.1.2.2.1),.v (.int .u32 a0.1.2.2.2),.slice .no (List.map ZB a0.2.1),.v (.int .i64 a0.2.2.1),.v (.int .i64 a0.2.2.2)]],false,false⟩)] : Boxes)⟩ : ASt)) (by kernel_rfl) hr (by simp [und,List.replicate,eq_true c12,c15]) ?_;rintro p7 x21r hr21
   simp only [YY] at hr21;unfold b28_1;simp only [und,List.replicate,List.cons_append,List.nil_append];refine Za rfl (by simp [eq_true c12,c15]; rfl) ?_;by_cases c22 : p7 < (a0.1.2.1.length : Int)
   ·skip
    have c22N:=c22;try simp at c22N
    first | have c22M : (_ = _) = True:=eq_true c22N | have c22M:=c22N
    rw [if_pos] at hr21;rotate_left
    ·simp [eq_true c12,c15,c22,c22M]
    refine Zd (by simp [bV,eq_true c12,c15,c22,c22M]) ?_;refine Zh ?_;refine Zg ?_;obtain ⟨x23,hx23,hr21⟩:=bs hr21;obtain ⟨hx23a,hx23b⟩:=Zz hx23;have hx23c:=Zq hx23b;refine Za rfl (by simp [hx23a,hx23b,hx23c,eq_true c12,c15,c22,c22M]; rfl) ?_;refine Za rfl (by simp [eq_true c12,c15,c22,c22M]; rfl) ?_;by_cases c24 : 0 < (x23.2.2.length : Int)
    ·skip
     have c24N:=c24;try simp at c24N
     first | have c24M : (_ = _) = True:=eq_true c24N | have c24M:=c24N
     rw [if_pos c24] at hr21;refine Zp (by simp [bV,eq_true c12,c15,c22,c22M,c24,c24M]) ?_;refine Za rfl (by simp [eq_true c12,c15,c22,c22M,c24,c24M]; rfl) ?_;refine Zi ?_;obtain rfl:=Option.some.inj hr21;simp only [pq,reduceCtorEq];rintro rfl
     simp [Zj,eq_true c12,c15,c22,c22M,c24,c24M,c22N,c24N]
    ·skip
     have c24N:=c24;try simp at c24N
     first | have c24M : (_ = _) = True:=eq_true c24N | have c24M:=c24N
     have c24L : ¬ 0 < x23.2.2.length:=by omega
     rw [if_neg c24] at hr21;refine Zy (by simp [bV,eq_true c12,c15,c22,c22M,c24,c24M,c24L]) ?_;refine ZV ?_;simp only [pq,reduceCtorEq];refine ZA rfl (by simp [eq_true c12,c15,c22,c22M,c24,c24M,c24L]; rfl) ?_;obtain rfl:=Option.some.inj hr21;simp only [pq,reduceCtorEq];simp [und,List.replicate,Nat.add_assoc,eq_true c12,c15,c22,c22M,c24,c24M,c24L]
   ·skip
    have c22N:=c22;try simp at c22N
    first | have c22M : (_ = _) = True:=eq_true c22N | have c22M:=c22N
    rw [if_neg] at hr21;rotate_left
    ·simp [eq_true c12,c15,c22,c22M]
    refine Ze (by simp [bV,eq_true c12,c15,c22,c22M]) ?_;refine Zr ?_;obtain ⟨r25,q25,rfl⟩:=ms hr21;simp only [pq,reduceCtorEq];rintro rfl
    try simp only [pq,reduceCtorEq]
    unfold Zc8 at q25;refine Zb ?_;by_cases c26 : a0.2.2.2 < (-1)
    ·skip
     refine Za rfl (by simp [eq_true c12,c15,c22,c22M,c26]; rfl) ?_;rw [if_pos] at q25;rotate_left
     ·simp [eq_true c12,c15,c22,c22M,c26]
     refine Zd (by simp [bV,eq_true c12,c15,c22,c22M,c26]) ?_;refine Zb ?_;refine Za rfl (by simp [eq_true c12,c15,c22,c22M,c26]; rfl) ?_;refine Zn ?_;obtain rfl:=Option.some.inj q25;simp [Zj,eq_true c12,c15,c22,c22M,c26,c22N]
    ·skip
     refine Za rfl (by simp [eq_true c12,c15,c22,c22M,c26]; rfl) ?_;by_cases c27 : (a0.1.2.2.1.length : Int)≤a0.2.2.2
     ·skip
      have c27N:=c27;try simp at c27N
      first | have c27M : (_ = _) = True:=eq_true c27N | have c27M:=c27N
      rw [if_pos] at q25;rotate_left
      ·simp [eq_true c12,c15,c22,c22M,c26,c27,c27M]
      refine Zd (by simp [bV,eq_true c12,c15,c22,c22M,c26,c27,c27M]) ?_;refine Zb ?_;refine Za rfl (by simp [eq_true c12,c15,c22,c22M,c26,c27,c27M]; rfl) ?_;refine Zn ?_;obtain rfl:=Option.some.inj q25;simp [Zj,eq_true c12,c15,c22,c22M,c26,c27,c27M,c22N,c27N]
     ·skip
      have c27N:=c27;try simp at c27N
      first | have c27M : (_ = _) = True:=eq_true c27N | have c27M:=c27N
      rw [if_neg] at q25;rotate_left
      ·simp [eq_true c12,c15,c22,c22M,c26,c27,c27M]
      refine Ze (by simp [bV,eq_true c12,c15,c22,c22M,c26,c27,c27M]) ?_;refine Zh ?_;obtain ⟨y28,hy28,q25⟩:=bs q25;have ehy28:=Zs0 hy28;simp only [E53,R53,nf,nfs] at ehy28;refine Za rfl (by simp [hO,hT53,ehy28,eq_true c12,c15,c22,c22M,c26,c27,c27M]; rfl) ?_;by_cases c29 : y28.2 = 0
      ·skip
       refine Za rfl (by simp [eq_true c12,c15,c22,c22M,c26,c27,c27M,eq_true c29]; rfl) ?_;refine Zi ?_;obtain rfl:=Option.some.inj q25;simp [Zj,eq_true c12,c15,c22,c22M,c26,c27,c27M,eq_true c29,c22N,c27N]
      ·skip
       refine Za rfl (by simp [eq_true c12,c15,c22,c22M,c26,c27,c27M,c29]; rfl) ?_;refine Zi ?_;obtain rfl:=Option.some.inj q25;simp [Zj,eq_true c12,c15,c22,c22M,c26,c27,c27M,c29,c22N,c27N]
 ·skip
  rw [if_pos] at hr;rotate_left
  ·simp [c12]
  obtain ⟨z30,hz30,hr⟩:=bs hr;obtain rfl:=Option.some.inj hz30;refine Za rfl (by simp [hO,hT51,ehy11,c12]; rfl) ?_;rw [if_pos] at hr;rotate_left
  ·simp [c12]
  refine Zd (by simp [bV,c12]) ?_;refine Zb ?_;refine Za rfl (by simp [c12]; rfl) ?_;refine Zn ?_;obtain rfl:=Option.some.inj hr;simp [Zj,c12]
def kp66 : Keep:=fun i=>if i = 2 then ⟨[2,3,5],[2,3],[]⟩ else ⟨[],[],[]⟩
theorem w66 {T : Tab} (a0 : (Arr 4)) (a1 : (Arr 4)) (x : Int) (hr : Zb1 a0 a1 = some x) : ∃ kp fl n,Zt tt T G kp fl n Tryz.f66 (E66 (a0,a1)) = some (R66 (a0,a1) x):=by
 simp only [E66,R66];refine fnE (kp:=kp66) (w:=false) body66 (by simp) ?_;unfold c66;rw [Tryz.ntmps66];unfold Zb1 at hr;refine Za rfl (by simp []; rfl) ?_;refine Zb ?_;refine Za rfl (by simp []; rfl) ?_;refine Zg ?_;refine ZJ (kq:=⟨[2,3,5],[2,3],[]⟩) (H:=fun (s : Int)=>match s with | p3=>(⟨(und 2++([.ptr 2 0 0 0 4,.ptr 3 0 0 0 4]++(und 1++([.one (.v (.int .i64 p3))]++(und 18)))) : List PV),([(2,⟨0,4,[arC .u64 a0],false,false⟩),(3,⟨0,4,[arC .u64 a1],false,false⟩)] : Boxes)⟩ : ASt)) (by kernel_rfl) hr (by simp [und,List.replicate,]) ?_;rintro p3 x20r hr20
 simp only [Zbu] at hr20;unfold b66_1;simp only [und,List.replicate,List.cons_append,List.nil_append];refine Zb ?_;refine Za rfl (by simp []; rfl) ?_;by_cases c21 : 0≤p3
 ·skip
  rw [if_pos] at hr20;rotate_left
  ·simp [c21]
  refine Zd (by simp [bV,c21]) ?_;refine Zh ?_;refine Zg ?_;refine Zb ?_;obtain ⟨j22,hj22,hr20⟩:=bs hr20;obtain ⟨j22a,j22b,j22c⟩:=Yc hj22;have j22d : j22≤3:=by omega
  have ar23:=YZ (k:=.u64) (a0) (i:=j22) j22c;have as24:=Xf (k:=.u64) (a0) (i:=j22) j22c;obtain ⟨j22a,j22b,j22c⟩:=Yc hj22;have j22d : j22≤3:=by omega
  have ar25:=YZ (k:=.u64) (a1) (i:=j22) j22c;have as26:=Xf (k:=.u64) (a1) (i:=j22) j22c;refine ZC rfl (by simp [j22a,j22b,j22c,j22d,ar23,as24,ar25,as26,c21]; first | exact ⟨rfl,rfl⟩ | rfl) (by kernel_rfl) ?_;by_cases c27 : a0.at j22 < a1.at j22
  ·skip
   rw [if_pos] at hr20;rotate_left
   ·simp [c21,c27]
   refine Zd (by simp [bV,c21,c27]) ?_;refine Zb ?_;refine Za rfl (by simp [c21,c27]; rfl) ?_;refine Zn ?_;obtain rfl:=Option.some.inj hr20;simp only [pq,reduceCtorEq];rintro rfl
   simp [Zj,c21,c27]
  ·skip
   rw [if_neg] at hr20;rotate_left
   ·simp [c21,c27]
   refine Ze (by simp [bV,c21,c27]) ?_;refine Zh ?_;obtain ⟨j22a,j22b,j22c⟩:=Yc hj22;have j22d : j22≤3:=by omega
   have ar28:=YZ (k:=.u64) (a0) (i:=j22) j22c;have as29:=Xf (k:=.u64) (a0) (i:=j22) j22c;obtain ⟨j22a,j22b,j22c⟩:=Yc hj22;have j22d : j22≤3:=by omega
   have ar30:=YZ (k:=.u64) (a1) (i:=j22) j22c;have as31:=Xf (k:=.u64) (a1) (i:=j22) j22c;refine ZC rfl (by simp [j22a,j22b,j22c,j22d,ar28,as29,ar30,as31,c21,c27]; first | exact ⟨rfl,rfl⟩ | rfl) (by kernel_rfl) ?_;by_cases c32 : a1.at j22 < a0.at j22
   ·skip
    rw [if_pos] at hr20;rotate_left
    ·simp [c21,c27,c32]
    refine Zp (by simp [bV,c21,c27,c32]) ?_;refine Za rfl (by simp [c21,c27,c32]; rfl) ?_;refine Zi ?_;obtain rfl:=Option.some.inj hr20;simp only [pq,reduceCtorEq];rintro rfl
    simp [Zj,c21,c27,c32]
   ·skip
    rw [if_neg] at hr20;rotate_left
    ·simp [c21,c27,c32]
    refine Zy (by simp [bV,c21,c27,c32]) ?_;refine ZV ?_;simp only [pq,reduceCtorEq];refine ZA rfl (by simp [c21,c27,c32]; rfl) ?_;obtain rfl:=Option.some.inj hr20;simp only [pq,reduceCtorEq];simp [und,List.replicate,Nat.add_assoc,c21,c27,c32]
 ·skip
  rw [if_neg] at hr20;rotate_left
  ·simp [c21]
  refine Ze (by simp [bV,c21]) ?_;refine Zr ?_;obtain ⟨r33,q33,rfl⟩:=ms hr20;simp only [pq,reduceCtorEq];rintro rfl
  try simp only [pq,reduceCtorEq]
  unfold Lwide_Cmp_k1 at q33;refine Za rfl (by simp [c21]; rfl) ?_;refine Zi ?_;obtain rfl:=Option.some.inj q33;simp [Zj,c21]
def kp94 : Keep:=fun i=>⟨[],[],[]⟩
theorem w94 {T : Tab} (x : (Arr 4)) (hr : Lgroup_Order  = some x) : ∃ kp fl n,Zt tt T G kp fl n Tryz.f94 (E94 ()) = some (R94 () x):=by
 simp only [E94,R94];refine fnE (kp:=kp94) (w:=false) body94 (by simp) ?_;unfold c94;rw [Tryz.ntmps94];unfold Lgroup_Order at hr;refine Za rfl (by simp []; rfl) ?_;have ap1:=Zac (k:=.u64) (zA 4) (i:=0) (by decide) (18446744073709533559);have ap2:=Zac (k:=.u64) ((zA 4).put 0 18446744073709533559) (i:=1) (by decide) (18446744073709551615);have ap3:=Zac (k:=.u64) (((zA 4).put 0 18446744073709533559).put 1 18446744073709551615) (i:=2) (by decide) (18446744073709551615);have ap4:=Zac (k:=.u64) ((((zA 4).put 0 18446744073709533559).put 1 18446744073709551615).put 2 18446744073709551615) (i:=3) (by decide) (9223372036854775807);refine Za rfl (by simp [ap1,ap2,ap3,ap4]; rfl) ?_;refine Zi ?_;obtain rfl:=Option.some.inj hr;simp [Zj,ap1,ap2,ap3,ap4]
def kp61 : Keep:=fun i=>⟨[],[],[]⟩
theorem w61 {T : Tab} (hO : T.own = fun _=>[]) (hT66 : T 66 = some G66) (hT94 : T 94 = some G94) (a0 : (Arr 4)) (x : Bool) (hr : X5 a0 = some x) : ∃ kp fl n,Zt tt T G kp fl n Tryz.f61 (E61 a0) = some (R61 a0 x):=by
 simp only [E61,R61];refine fnE (kp:=kp61) (w:=false) body61 (by simp) ?_;unfold c61;rw [Tryz.ntmps61];unfold X5 at hr;refine Za rfl (by simp []; rfl) ?_;obtain ⟨y3,hy3,hr⟩:=bs hr;have ehy3:=Zs2 hy3;simp only [E94,R94,nf,nfs] at ehy3;obtain ⟨y4,hy4,hr⟩:=bs hr;have ehy4:=ZpS hy4;simp only [E66,R66,nf,nfs] at ehy4;refine ZC rfl (by simp [hO,hT94,ehy3,hT66,ehy4]; first | exact ⟨rfl,rfl⟩ | rfl) (by kernel_rfl) ?_;refine Zi ?_;obtain rfl:=Option.some.inj hr;simp [Zj,hO,hT94,ehy3,hT66,ehy4]
def kp31 : Keep:=fun i=>⟨[],[],[]⟩
theorem w31 {T : Tab} (hO : T.own = fun _=>[]) (hT46 : T 46 = some G46) (hT61 : T 61 = some G61) (a0 : (List Int)) (x : Tapi_Signature×Int) (hr : ZaF a0 = some x) : ∃ kp fl n,Zt tt T G kp fl n Tryz.f31 (E31 a0) = some (R31 a0 x):=by
 simp only [E31,R31];refine fnE (kp:=kp31) (w:=false) body31 (by simp) ?_;unfold c31;rw [Tryz.ntmps31];unfold ZaF at hr;refine Za rfl (by simp []; rfl) ?_;refine Zb ?_;refine Za rfl (by simp []; rfl) ?_;by_cases c10 : (a0.length : Int) = 64
 ·skip
  have c10N:=c10;try simp at c10N
  rw [if_neg (not_not_intro c10)] at hr;refine Ze (by simp [bV,eq_true c10,eq_true c10N]) ?_;refine Zh ?_;obtain ⟨_,u11,hr⟩:=bs hr;have u11_0:=ZD u11;have sf12 : 32≤a0.length:=by omega
  obtain ⟨_,u13,hr⟩:=bs hr;have u13_0:=ZD u13;have fp14:=ZiX (k:=.u8) (l:=(a0).take 32) (o:=0) (n:=32) (by simpa using u13_0);simp only [List.drop_zero,Nat.zero_add,ZcA,Zeo] at fp14;have fp14l : 32≤(Zl .u8 ((a0).take 32)).flatten.length:=by rw [Zit]; exact u13_0
  simp only [ZcA,Zeo] at fp14l;have fp14m:=fp14l;try simp at fp14m
  obtain ⟨y15,hy15,hr⟩:=bs hr;have ehy15:=Zm7 hy15;simp only [E46,R46,nf,nfs] at ehy15;obtain ⟨_,u16,hr⟩:=bs hr;have u16_0:=ZD u16;have sf17 : 32≤a0.length:=by omega
  obtain ⟨_,u18,hr⟩:=bs hr;have u18_0:=ZD u18;have u18_0N:=u18_0;try simp at u18_0N
  have fp19:=ZiX (k:=.u8) (l:=(a0).drop 32) (o:=0) (n:=32) (by simpa using u18_0);simp only [List.drop_zero,Nat.zero_add,ZcA,Zeo] at fp19;have fp19l : 32≤(Zl .u8 ((a0).drop 32)).flatten.length:=by rw [Zit]; exact u18_0
  simp only [ZcA,Zeo] at fp19l;have fp19m:=fp19l;try simp at fp19m
  obtain ⟨y20,hy20,hr⟩:=bs hr;have ehy20:=Zm7 hy20;simp only [E46,R46,nf,nfs] at ehy20;refine ZC rfl (by simp [u11_0,sf12,u13_0,fp14,fp14l,fp14m,hO,hT46,ehy15,u16_0,sf17,u18_0N,u18_0,fp19,fp19l,fp19m,ehy20,eq_true c10,eq_true c10N]; first | exact ⟨rfl,rfl⟩ | rfl) (by kernel_rfl) ?_;refine Zb ?_;obtain ⟨y21,hy21,hr⟩:=bs hr;have ehy21:=ZpT hy21;simp only [E61,R61,nf,nfs] at ehy21;by_cases c22 : y21 = true
  ·skip
   rw [if_neg] at hr;rotate_left
   ·simp [eq_true c10,eq_true c10N,c22]
   obtain ⟨z23,hz23,hr⟩:=bs hr;obtain ⟨y24,hy24,hz23⟩:=bs hz23;have ehy24:=ZpT hy24;simp only [E61,R61,nf,nfs] at ehy24;obtain rfl:=Option.some.inj hz23;refine Za rfl (by simp [hO,hT61,ehy21,ehy24,eq_true c10,eq_true c10N,c22]; rfl) ?_;by_cases c25 : y24 = true
   ·skip
    rw [if_neg] at hr;rotate_left
    ·simp [eq_true c10,eq_true c10N,c22,c25]
    refine Ze (by simp [bV,eq_true c10,eq_true c10N,c22,c25]) ?_;refine Zh ?_;refine Za rfl (by simp [eq_true c10,eq_true c10N,c22,c25]; rfl) ?_;refine Zi ?_;obtain rfl:=Option.some.inj hr;simp [Zj,eq_true c10,eq_true c10N,c22,c25]
   ·skip
    rw [if_pos] at hr;rotate_left
    ·simp [eq_true c10,eq_true c10N,c22,c25]
    refine Zd (by simp [bV,eq_true c10,eq_true c10N,c22,c25]) ?_;refine Zb ?_;refine Za rfl (by simp [eq_true c10,eq_true c10N,c22,c25]; rfl) ?_;refine Zn ?_;obtain rfl:=Option.some.inj hr;simp [Zj,eq_true c10,eq_true c10N,c22,c25]
  ·skip
   rw [if_pos] at hr;rotate_left
   ·simp [eq_true c10,eq_true c10N,c22]
   obtain ⟨z26,hz26,hr⟩:=bs hr;obtain rfl:=Option.some.inj hz26;refine Za rfl (by simp [hO,hT61,ehy21,eq_true c10,eq_true c10N,c22]; rfl) ?_;rw [if_pos] at hr;rotate_left
   ·simp [eq_true c10,eq_true c10N,c22]
   refine Zd (by simp [bV,eq_true c10,eq_true c10N,c22]) ?_;refine Zb ?_;refine Za rfl (by simp [eq_true c10,eq_true c10N,c22]; rfl) ?_;refine Zn ?_;obtain rfl:=Option.some.inj hr;simp [Zj,eq_true c10,eq_true c10N,c22]
 ·skip
  have c10N:=c10;try simp at c10N
  first | have c10M : (_ = _) = True:=eq_true c10N | have c10M:=c10N
  rw [if_pos c10] at hr;refine Zd (by simp [bV,c10,c10M]) ?_;refine Zb ?_;refine Za rfl (by simp [c10,c10M]; rfl) ?_;refine Zn ?_;obtain rfl:=Option.some.inj hr;simp [Zj,c10,c10M,c10N]
def kp62 : Keep:=fun i=>if i = 3 then ⟨[3,6,7,8],[14],[(3,none,14,1)]⟩ else ⟨[],[],[]⟩
theorem w62 {T : Tab} (a0 : (List (Arr 32))) (x : (List Int)) (hr : Zcs a0 = some x) : ∃ kp fl n,Zt tt T G kp fl n Tryz.f62 (E62 a0) = some (R62 a0 x):=by
 simp only [E62,R62];refine fnE (kp:=kp62) (w:=true) body62 (by simp) ?_;unfold c62;rw [Tryz.ntmps62];unfold Zcs at hr;refine Za rfl (by simp []; rfl) ?_;refine Za rfl (by simp []; rfl) ?_;refine Zb ?_;refine Za rfl (by simp []; rfl) ?_;refine Zg ?_;refine ZJ (kq:=⟨[3,6,7,8],[14],[(3,none,14,1)]⟩) (H:=fun (s : Int×(List Int))=>match s with | (p7,p8)=>(⟨(und 3++([.one (.ms 14 0 0 (p8.length) 1)]++(und 2++([.one (.slice .no (List.map (arC .u8) a0)),.one (.v (.int .i64 (a0.length : Int))),.one (.v (.int .i64 p7))]++(und 8)))) : List PV),([(14,⟨0,1,Zl .u8 p8,false,true⟩)] : Boxes)⟩ : ASt)) (by kernel_rfl) hr (by simp [und,List.replicate,]) ?_;rintro ⟨p7,p8⟩ x18r hr18
 simp only [Zdl] at hr18;unfold b62_1;simp only [und,List.replicate,List.cons_append,List.nil_append];refine Za rfl (by simp []; rfl) ?_;by_cases c19 : p7 < (a0.length : Int)
 ·skip
  have c19N:=c19;try simp at c19N
  first | have c19M : (_ = _) = True:=eq_true c19N | have c19M:=c19N
  rw [if_pos] at hr18;rotate_left
  ·simp [c19,c19M]
  refine Zd (by simp [bV,c19,c19M]) ?_;refine Zh ?_;refine Zg ?_;obtain ⟨x20,hx20,hr18⟩:=bs hr18;obtain ⟨hx20a,hx20b⟩:=Zz hx20;have hx20c:=Zq hx20b;refine Za rfl (by simp [hx20a,hx20b,hx20c,c19,c19M]; rfl) ?_;obtain ⟨_,u21,hr18⟩:=bs hr18;have u21_0:=ZD u21;have n1_u21_0 : p8.length + x20.l.length≤140737488355328:=by omega
  have n2_u21_0 : p8.length + x20.l.length≤9223372036854775807:=by omega
  have n1v_u21_0:=n1_u21_0;try simp [Arr.hl] at n1v_u21_0
  have n2v_u21_0:=n2_u21_0;try simp [Arr.hl] at n2v_u21_0
  refine ZA rfl (by simp [n1_u21_0,n2_u21_0,n1v_u21_0,n2v_u21_0,c19,c19M]; rfl) ?_;simp only [pq,reduceCtorEq];refine ZA rfl (by simp [c19,c19M]; rfl) ?_;obtain rfl:=Option.some.inj hr18;simp only [pq,reduceCtorEq];simp [und,List.replicate,Nat.add_assoc,c19,c19M]
 ·skip
  have c19N:=c19;try simp at c19N
  first | have c19M : (_ = _) = True:=eq_true c19N | have c19M:=c19N
  rw [if_neg] at hr18;rotate_left
  ·simp [c19,c19M]
  refine Ze (by simp [bV,c19,c19M]) ?_;refine Zr ?_;obtain ⟨r22,q22,rfl⟩:=ms hr18;simp only [pq,reduceCtorEq];rintro rfl
  try simp only [pq,reduceCtorEq]
  unfold ZiY at q22;refine Za rfl (by simp [c19,c19M]; rfl) ?_;refine Zi ?_;obtain rfl:=Option.some.inj q22;simp [Zj,c19,c19M,c19N]
def kp63 : Keep:=fun i=>if i = 3 then ⟨[1,2,3,5],[1,2,3],[]⟩ else ⟨[],[],[]⟩
theorem w63 {T : Tab} (a0 : (Arr 4)) (x : (Arr 32)) (hr : Zav a0 = some x) : ∃ kp fl n,Zt tt T G kp fl n Tryz.f63 (E63 a0) = some (R63 a0 x):=by
 simp only [E63,R63];refine fnE (kp:=kp63) (w:=false) body63 (by simp) ?_;unfold c63;rw [Tryz.ntmps63];unfold Zav at hr;refine Za rfl (by simp []; rfl) ?_;refine Za rfl (by simp []; rfl) ?_;refine Zb ?_;refine Za rfl (by simp []; rfl) ?_;refine Zg ?_;refine ZJ (kq:=⟨[1,2,3,5],[1,2,3],[]⟩) (H:=fun (s : Int×(Arr 32))=>match s with | (p8,p9)=>(⟨(und 1++([.ptr 1 0 0 0 4,.ptr 2 0 0 0 32,.ptr 3 0 0 0 32]++(und 1++([.one (.v (.int .i64 p8))]++(und 17)))) : List PV),([(1,⟨0,4,[arC .u64 a0],false,false⟩),(2,⟨0,32,[arC .u8 (zA 32)],false,false⟩),(3,⟨0,32,[arC .u8 p9],false,false⟩)] : Boxes)⟩ : ASt)) (by kernel_rfl) hr (by simp [und,List.replicate,]) ?_;rintro ⟨p8,p9⟩ x25r hr25
 simp only [Zcm] at hr25;unfold b63_1;simp only [und,List.replicate,List.cons_append,List.nil_append];refine Za rfl (by simp []; rfl) ?_;by_cases c26 : p8 < 32
 ·skip
  rw [if_pos] at hr25;rotate_left
  ·simp [c26]
  refine Zd (by simp [bV,c26]) ?_;refine Zh ?_;refine Zg ?_;refine Za rfl (by simp [c26]; rfl) ?_;obtain ⟨j27,hj27,hr25⟩:=bs hr25;obtain ⟨j27a,j27b,j27c⟩:=Yc hj27;have j27d : j27≤3:=by omega
  have ar28:=YZ (k:=.u64) (a0) (i:=j27) j27c;have as29:=Xf (k:=.u64) (a0) (i:=j27) j27c;obtain ⟨_,u30,hr25⟩:=bs hr25;have u30_0:=ZD u30;obtain ⟨j31,hj31,hr25⟩:=bs hr25;obtain ⟨j31a,j31b,j31c⟩:=Yc hj31;have j31d : j31≤31:=by omega
  have ap32:=Zac (k:=.u8) (p9) (i:=j31) j31c (IntKind.u8.wrap ((a0.at j27).fdiv (2 ^ (min (IntKind.i64.wrap (56 - (IntKind.i64.wrap (((p8).tmod 8) * 8)))).toNat 64))));refine ZA rfl (by simp [j27a,j27b,j27c,j27d,ar28,as29,u30_0,j31a,j31b,j31c,j31d,ap32,c26]; rfl) ?_;simp only [pq,reduceCtorEq];refine ZA rfl (by simp [c26]; rfl) ?_;obtain rfl:=Option.some.inj hr25;simp only [pq,reduceCtorEq];simp [und,List.replicate,Nat.add_assoc,c26]
 ·skip
  rw [if_neg] at hr25;rotate_left
  ·simp [c26]
  refine Ze (by simp [bV,c26]) ?_;refine Zr ?_;obtain ⟨r33,q33,rfl⟩:=ms hr25;simp only [pq,reduceCtorEq];rintro rfl
  try simp only [pq,reduceCtorEq]
  unfold Zhj at q33;refine Za rfl (by simp [c26]; rfl) ?_;refine Zi ?_;obtain rfl:=Option.some.inj q33;simp [Zj,c26]
def kp32 : Keep:=fun i=>⟨[],[],[]⟩
theorem w32 {T : Tab} (hO : T.own = fun _=>[]) (hT62 : T 62 = some G62) (hT63 : T 63 = some G63) (a0 : Tapi_Signature) (x : (List Int)) (hr : ZaG a0 = some x) : ∃ kp fl n,Zt tt T G kp fl n Tryz.f32 (E32 a0) = some (R32 a0 x):=by
 simp only [E32,R32];refine fnE (kp:=kp32) (w:=true) body32 (by simp) ?_;unfold c32;rw [Tryz.ntmps32];unfold ZaG at hr;refine Za rfl (by simp []; rfl) ?_;obtain ⟨y4,hy4,hr⟩:=bs hr;have ehy4:=ZpU hy4;simp only [E63,R63,nf,nfs] at ehy4;obtain ⟨y5,hy5,hr⟩:=bs hr;have ehy5:=ZpU hy5;simp only [E63,R63,nf,nfs] at ehy5;obtain ⟨y6,hy6,hr⟩:=bs hr;have ehy6:=Zs4 hy6;simp only [E62,R62,nf,nfs] at ehy6;refine ZC rfl (by simp [hO,hT63,ehy4,ehy5,List.range,List.range.loop,hT62,ehy6]; first | exact ⟨rfl,rfl⟩ | rfl) (by kernel_rfl) ?_;refine Zi ?_;obtain rfl:=Option.some.inj hr;simp [Zj,hO,hT63,ehy4,ehy5,List.range,List.range.loop,hT62,ehy6]
def kp64 : Keep:=fun i=>if i = 3 then ⟨[3,6,7,8],[],[]⟩ else ⟨[],[],[]⟩
theorem w64 {T : Tab} (a0 : (List Int)) (x : Int) (hr : XP a0 = some x) : ∃ kp fl n,Zt tt T G kp fl n Tryz.f64 (E64 a0) = some (R64 a0 x):=by
 simp only [E64,R64];refine fnE (kp:=kp64) (w:=false) body64 (by simp) ?_;unfold c64;rw [Tryz.ntmps64];unfold XP at hr;refine Za rfl (by simp []; rfl) ?_;refine Za rfl (by simp []; rfl) ?_;refine Zb ?_;refine Za rfl (by simp []; rfl) ?_;refine Zg ?_;refine ZJ (kq:=⟨[3,6,7,8],[],[]⟩) (H:=fun (s : Int)=>match s with | p4=>(⟨(und 3++([.one (.v (.int .i64 0))]++(und 2++([.one (.slice .no (Zl .i64 a0)),.one (.v (.int .i64 (a0.length : Int))),.one (.v (.int .i64 p4))]++(und 9)))) : List PV),([] : Boxes)⟩ : ASt)) (by kernel_rfl) hr (by simp [und,List.replicate,]) ?_;rintro p4 x12r hr12
 simp only [Xu] at hr12;unfold b64_1;simp only [und,List.replicate,List.cons_append,List.nil_append];refine Za rfl (by simp []; rfl) ?_;by_cases c13 : p4 < (a0.length : Int)
 ·skip
  have c13N:=c13;try simp at c13N
  first | have c13M : (_ = _) = True:=eq_true c13N | have c13M:=c13N
  rw [if_pos] at hr12;rotate_left
  ·simp [c13,c13M]
  refine Zd (by simp [bV,c13,c13M]) ?_;refine Zh ?_;refine Zg ?_;obtain ⟨x14,hx14,hr12⟩:=bs hr12;obtain ⟨hx14a,hx14b⟩:=Zz hx14;have hx14c:=Zq hx14b;refine Za rfl (by simp [hx14a,hx14b,hx14c,c13,c13M]; rfl) ?_;refine Za rfl (by simp [c13,c13M]; rfl) ?_;by_cases c15 : x14 = 0
  ·skip
   rw [if_neg (not_not_intro c15)] at hr12;refine Zy (by simp [bV,c13,c13M,eq_true c15]) ?_;refine ZV ?_;simp only [pq,reduceCtorEq];refine ZA rfl (by simp [c13,c13M,eq_true c15]; rfl) ?_;obtain rfl:=Option.some.inj hr12;simp only [pq,reduceCtorEq];simp [und,List.replicate,Nat.add_assoc,c13,c13M,eq_true c15]
  ·skip
   rw [if_pos c15] at hr12;refine Zp (by simp [bV,c13,c13M,c15]) ?_;refine Za rfl (by simp [c13,c13M,c15]; rfl) ?_;refine Zi ?_;obtain rfl:=Option.some.inj hr12;simp only [pq,reduceCtorEq];rintro rfl
   simp [Zj,c13,c13M,c15,c13N]
 ·skip
  have c13N:=c13;try simp at c13N
  first | have c13M : (_ = _) = True:=eq_true c13N | have c13M:=c13N
  rw [if_neg] at hr12;rotate_left
  ·simp [c13,c13M]
  refine Ze (by simp [bV,c13,c13M]) ?_;refine Zr ?_;obtain ⟨r16,q16,rfl⟩:=ms hr12;simp only [pq,reduceCtorEq];rintro rfl
  try simp only [pq,reduceCtorEq]
  unfold Lcmp_Or_of_int_k1 at q16;refine Za rfl (by simp [c13,c13M]; rfl) ?_;refine Zi ?_;obtain rfl:=Option.some.inj q16;simp [Zj,c13,c13M,c13N]
def kp95 : Keep:=fun i=>⟨[],[],[]⟩
theorem w95 {T : Tab} (a0 : Int) (x : Bool) (hr : Y6 a0 = some x) : ∃ kp fl n,Zt tt T G kp fl n Tryz.f95 (E95 a0) = some (R95 a0 x):=by
 simp only [E95,R95];refine fnE (kp:=kp95) (w:=false) body95 (by simp) ?_;unfold c95;rw [Tryz.ntmps95];unfold Y6 at hr;refine Za rfl (by simp []; rfl) ?_;refine Za rfl (by simp []; rfl) ?_;refine Zi ?_;obtain rfl:=Option.some.inj hr;simp [Zj,]
def kp65 : Keep:=fun i=>⟨[],[],[]⟩
theorem w65 {T : Tab} (hO : T.own = fun _=>[]) (hT95 : T 95 = some G95) (a0 : Int) (a1 : Int) (x : Int) (hr : YT a0 a1 = some x) : ∃ kp fl n,Zt tt T G kp fl n Tryz.f65 (E65 (a0,a1)) = some (R65 (a0,a1) x):=by
 simp only [E65,R65];refine fnE (kp:=kp65) (w:=false) body65 (by simp) ?_;unfold c65;rw [Tryz.ntmps65];unfold YT at hr;refine Za rfl (by simp []; rfl) ?_;obtain ⟨y3,hy3,hr⟩:=bs hr;have ehy3:=ZpV hy3;simp only [E95,R95,nf,nfs] at ehy3;refine Za rfl (by simp [hO,hT95,ehy3]; rfl) ?_;obtain ⟨y4,hy4,hr⟩:=bs hr;have ehy4:=ZpV hy4;simp only [E95,R95,nf,nfs] at ehy4;refine Za rfl (by simp [hO,hT95,ehy4]; rfl) ?_;refine Zb ?_;refine Za rfl (by simp []; rfl) ?_;by_cases c5 : y3 = true
 ·skip
  rw [if_pos c5] at hr;refine Zd (by simp [bV,c5]) ?_;refine Zb ?_;refine Zb ?_;refine Za rfl (by simp [c5]; rfl) ?_;by_cases c6 : y4 = true
  ·skip
   rw [if_pos c6] at hr;refine Zd (by simp [bV,c5,c6]) ?_;refine Zb ?_;refine Za rfl (by simp [c5,c6]; rfl) ?_;refine Zn ?_;obtain rfl:=Option.some.inj hr;simp [Zj,c5,c6]
  ·skip
   rw [if_neg c6] at hr;refine Ze (by simp [bV,c5,c6]) ?_;refine Zh ?_;refine Zb ?_;refine Za rfl (by simp [c5,c6]; rfl) ?_;refine Zn ?_;obtain rfl:=Option.some.inj hr;simp [Zj,c5,c6]
 ·skip
  rw [if_neg c5] at hr;refine Ze (by simp [bV,c5]) ?_;refine Zh ?_;refine Zb ?_;refine Za rfl (by simp [c5]; rfl) ?_;by_cases c7 : y4 = true
  ·skip
   rw [if_pos c7] at hr;refine Zd (by simp [bV,c5,c7]) ?_;refine Zb ?_;refine Za rfl (by simp [c5,c7]; rfl) ?_;refine Zn ?_;obtain rfl:=Option.some.inj hr;simp [Zj,c5,c7]
  ·skip
   rw [if_neg c7] at hr;refine Ze (by simp [bV,c5,c7]) ?_;refine Zh ?_;refine Zb ?_;refine Za rfl (by simp [c5,c7]; rfl) ?_;by_cases c8 : a0 < a1
   ·skip
    rw [if_pos c8] at hr;refine Zd (by simp [bV,c5,c7,c8]) ?_;refine Zb ?_;refine Za rfl (by simp [c5,c7,c8]; rfl) ?_;refine Zn ?_;obtain rfl:=Option.some.inj hr;simp [Zj,c5,c7,c8]
   ·skip
    rw [if_neg c8] at hr;refine Ze (by simp [bV,c5,c7,c8]) ?_;refine Zh ?_;refine Zb ?_;refine Za rfl (by simp [c5,c7,c8]; rfl) ?_;by_cases c9 : a1 < a0
    ·skip
     rw [if_pos c9] at hr;refine Zd (by simp [bV,c5,c7,c8,c9]) ?_;refine Zb ?_;refine Za rfl (by simp [c5,c7,c8,c9]; rfl) ?_;refine Zn ?_;obtain rfl:=Option.some.inj hr;simp [Zj,c5,c7,c8,c9]
    ·skip
     rw [if_neg c9] at hr;refine Ze (by simp [bV,c5,c7,c8,c9]) ?_;refine Zh ?_;refine Za rfl (by simp [c5,c7,c8,c9]; rfl) ?_;refine Zi ?_;obtain rfl:=Option.some.inj hr;simp [Zj,c5,c7,c8,c9]
def kp33 : Keep:=fun i=>⟨[],[],[]⟩
theorem w33 {T : Tab} (hO : T.own = fun _=>[]) (hT64 : T 64 = some G64) (hT65 : T 65 = some G65) (hT66 : T 66 = some G66) (a0 : Tapi_Signed) (a1 : Tapi_Signed) (x : Int) (hr : Y1 a0 a1 = some x) : ∃ kp fl n,Zt tt T G kp fl n Tryz.f33 (E33 (a0,a1)) = some (R33 (a0,a1) x):=by
 simp only [E33,R33];refine fnE (kp:=kp33) (w:=false) body33 (by simp) ?_;unfold c33;rw [Tryz.ntmps33];unfold Y1 at hr;refine Za rfl (by simp []; rfl) ?_;obtain ⟨y4,hy4,hr⟩:=bs hr;have ehy4:=Zs7 hy4;simp only [E65,R65,nf,nfs] at ehy4;obtain ⟨y5,hy5,hr⟩:=bs hr;have ehy5:=ZpS hy5;simp only [E66,R66,nf,nfs] at ehy5;obtain ⟨y6,hy6,hr⟩:=bs hr;have ehy6:=Zs6 hy6;simp only [E64,R64,nf,nfs] at ehy6;refine ZC rfl (by simp [hO,hT65,ehy4,hT66,ehy5,List.range,List.range.loop,hT64,ehy6]; first | exact ⟨rfl,rfl⟩ | rfl) (by kernel_rfl) ?_;refine Zi ?_;obtain rfl:=Option.some.inj hr;simp [Zj,hO,hT65,ehy4,hT66,ehy5,List.range,List.range.loop,hT64,ehy6]
def kp11 : Keep:=fun i=>if i = 4 then ⟨[1,12,13,14],[1],[]⟩ else ⟨[],[],[]⟩
theorem w11 {T : Tab} (hO : T.own = fun _=>[]) (hT28 : T 28 = some G28) (hT31 : T 31 = some G31) (hT32 : T 32 = some G32) (hT33 : T 33 = some G33) (a0 : Tapi_PartialTx) (x : Bool) (hr : Xs a0 = some x) : ∃ kp fl n,Zt tt T G kp fl n Tryz.f11 (E11 a0) = some (R11 a0 x):=by
 simp only [E11,R11];refine fnE (kp:=kp11) (w:=false) body11 (by simp) ?_;unfold c11;rw [Tryz.ntmps11];unfold Xs at hr;refine Za rfl (by simp []; rfl) ?_;refine Zb ?_;obtain ⟨y28,hy28,hr⟩:=bs hr;have ehy28:=Zs1 hy28;simp only [E28,R28,nf,nfs] at ehy28;refine Za rfl (by simp [hO,hT28,ehy28]; rfl) ?_;by_cases c29 : y28 = true
 ·skip
  rw [if_neg (not_not_intro c29)] at hr;refine Ze (by simp [bV,c29]) ?_;refine Zh ?_;refine Zb ?_;refine Za rfl (by simp [c29]; rfl) ?_;refine Zg ?_;refine ZJ (kq:=⟨[1,12,13,14],[1],[]⟩) (H:=fun (s : Int)=>match s with | p15=>(⟨(und 1++([.ptr 1 0 0 0 8]++(und 10++([.one (.slice .no (List.map ZE a0.2)),.one (.v (.int .i64 (a0.2.length : Int))),.one (.v (.int .i64 p15))]++(und 40)))) : List PV),([(1,⟨0,8,[[.v (.int .u32 a0.1.1.1),.slice .no (List.map Zm a0.1.1.2.1),.slice .no (List.map Zk a0.1.1.2.2.1),.v (.int .u32 a0.1.1.2.2.2),.slice .no (List.map ZB a0.1.2.1),.v (.int .i64 a0.1.2.2.1),.v (.int .i64 a0.1.2.2.2),.slice .no (List.map ZE a0.2)]],false,false⟩)] : Boxes)⟩ : ASt)) (by kernel_rfl) hr (by simp [und,List.replicate,c29]) ?_;rintro p15 x45r hr45
  simp only [Za3] at hr45;unfold b11_1;simp only [und,List.replicate,List.cons_append,List.nil_append];refine Za rfl (by simp [c29]; rfl) ?_;by_cases c46 : p15 < (a0.2.length : Int)
  ·skip
   have c46N:=c46;try simp at c46N
   first | have c46M : (_ = _) = True:=eq_true c46N | have c46M:=c46N
   rw [if_pos] at hr45;rotate_left
   ·simp [c29,c46,c46M]
   refine Zd (by simp [bV,c29,c46,c46M]) ?_;refine Zh ?_;refine Zg ?_;obtain ⟨x47,hx47,hr45⟩:=bs hr45;obtain ⟨hx47a,hx47b⟩:=Zz hx47;have hx47c:=Zq hx47b;refine Za rfl (by simp [hx47a,hx47b,hx47c,c29,c46,c46M]; rfl) ?_;refine Zb ?_;by_cases c48 : x47.1 < 0
   ·skip
    refine Za rfl (by simp [c29,c46,c46M,c48]; rfl) ?_;rw [if_pos] at hr45;rotate_left
    ·simp [c29,c46,c46M,c48]
    refine Zd (by simp [bV,c29,c46,c46M,c48]) ?_;refine Zb ?_;refine Za rfl (by simp [c29,c46,c46M,c48]; rfl) ?_;refine Zn ?_;obtain rfl:=Option.some.inj hr45;simp only [pq,reduceCtorEq];rintro rfl
    simp [Zj,c29,c46,c46M,c48,c46N]
   ·skip
    refine Za rfl (by simp [c29,c46,c46M,c48]; rfl) ?_;by_cases c49 : (a0.1.1.2.1.length : Int)≤x47.1
    ·skip
     have c49N:=c49;try simp at c49N
     first | have c49M : (_ = _) = True:=eq_true c49N | have c49M:=c49N
     rw [if_pos] at hr45;rotate_left
     ·simp [c29,c46,c46M,c48,c49,c49M]
     refine Zd (by simp [bV,c29,c46,c46M,c48,c49,c49M]) ?_;refine Zb ?_;refine Za rfl (by simp [c29,c46,c46M,c48,c49,c49M]; rfl) ?_;refine Zn ?_;obtain rfl:=Option.some.inj hr45;simp only [pq,reduceCtorEq];rintro rfl
     simp [Zj,c29,c46,c46M,c48,c49,c49M,c46N,c49N]
    ·skip
     have c49N:=c49;try simp at c49N
     first | have c49M : (_ = _) = True:=eq_true c49N | have c49M:=c49N
     rw [if_neg] at hr45;rotate_left
     ·simp [c29,c46,c46M,c48,c49,c49M]
     refine Ze (by simp [bV,c29,c46,c46M,c48,c49,c49M]) ?_;refine Zh ?_;refine Zb ?_;obtain ⟨y50,hy50,hr45⟩:=bs hr45;have ehy50:=Zs5 hy50;simp only [E32,R32,nf,nfs] at ehy50;obtain ⟨y51,hy51,hr45⟩:=bs hr45;have ehy51:=Zs3 hy51;simp only [E31,R31,nf,nfs] at ehy51;refine Za rfl (by simp [hO,hT32,ehy50,hT31,ehy51,c29,c46,c46M,c48,c49,c49M]; rfl) ?_;refine Zb ?_;refine Za rfl (by simp [c29,c46,c46M,c48,c49,c49M]; rfl) ?_;by_cases c52 : y51.2 = 0
     ·skip
      rw [if_neg (not_not_intro c52)] at hr45;refine Ze (by simp [bV,c29,c46,c46M,c48,c49,c49M,eq_true c52]) ?_;refine Zh ?_;by_cases c53 : 0 < p15
      ·skip
       rw [if_pos] at hr45;rotate_left
       ·simp [c29,c46,c46M,c48,c49,c49M,eq_true c52,c53]
       obtain ⟨z54,hz54,hr45⟩:=bs hr45;obtain ⟨x55,hx55,hz54⟩:=bs hz54;obtain ⟨hx55a,hx55b⟩:=Zz hx55;have hx55c:=Zq hx55b;obtain ⟨y56,hy56,hz54⟩:=bs hz54;have ehy56:=ZpW hy56;simp only [E33,R33,nf,nfs] at ehy56;obtain rfl:=Option.some.inj hz54;refine ZC rfl (by simp [hx55a,hx55b,hx55c,hO,hT33,ehy56,c29,c46,c46M,c48,c49,c49M,eq_true c52,c53]; first | exact ⟨rfl,rfl⟩ | rfl) (by kernel_rfl) ?_;by_cases c57 : 0≤y56
       ·skip
        rw [if_pos] at hr45;rotate_left
        ·simp [c29,c46,c46M,c48,c49,c49M,eq_true c52,c53,c57]
        refine Zp (by simp [bV,c29,c46,c46M,c48,c49,c49M,eq_true c52,c53,c57]) ?_;refine Za rfl (by simp [c29,c46,c46M,c48,c49,c49M,eq_true c52,c53,c57]; rfl) ?_;refine Zi ?_;obtain rfl:=Option.some.inj hr45;simp only [pq,reduceCtorEq];rintro rfl
        simp [Zj,c29,c46,c46M,c48,c49,c49M,eq_true c52,c53,c57,c46N,c49N]
       ·skip
        rw [if_neg] at hr45;rotate_left
        ·simp [c29,c46,c46M,c48,c49,c49M,eq_true c52,c53,c57]
        refine Zy (by simp [bV,c29,c46,c46M,c48,c49,c49M,eq_true c52,c53,c57]) ?_;refine ZV ?_;simp only [pq,reduceCtorEq];refine ZA rfl (by simp [c29,c46,c46M,c48,c49,c49M,eq_true c52,c53,c57]; rfl) ?_;obtain rfl:=Option.some.inj hr45;simp only [pq,reduceCtorEq];simp [und,List.replicate,Nat.add_assoc,c29,c46,c46M,c48,c49,c49M,eq_true c52,c53,c57]
      ·skip
       rw [if_neg] at hr45;rotate_left
       ·simp [c29,c46,c46M,c48,c49,c49M,eq_true c52,c53]
       obtain ⟨z58,hz58,hr45⟩:=bs hr45;obtain rfl:=Option.some.inj hz58;refine ZC rfl (by simp [c29,c46,c46M,c48,c49,c49M,eq_true c52,c53]; first | exact ⟨rfl,rfl⟩ | rfl) (by kernel_rfl) ?_;rw [if_neg] at hr45;rotate_left
       ·simp [c29,c46,c46M,c48,c49,c49M,eq_true c52,c53]
       refine Zy (by simp [bV,c29,c46,c46M,c48,c49,c49M,eq_true c52,c53]) ?_;refine ZV ?_;simp only [pq,reduceCtorEq];refine ZA rfl (by simp [c29,c46,c46M,c48,c49,c49M,eq_true c52,c53]; rfl) ?_;obtain rfl:=Option.some.inj hr45;simp only [pq,reduceCtorEq];simp [und,List.replicate,Nat.add_assoc,c29,c46,c46M,c48,c49,c49M,eq_true c52,c53]
     ·skip
      rw [if_pos c52] at hr45;refine Zd (by simp [bV,c29,c46,c46M,c48,c49,c49M,c52]) ?_;refine Zb ?_;refine Za rfl (by simp [c29,c46,c46M,c48,c49,c49M,c52]; rfl) ?_;refine Zn ?_;obtain rfl:=Option.some.inj hr45;simp only [pq,reduceCtorEq];rintro rfl
      simp [Zj,c29,c46,c46M,c48,c49,c49M,c52,c46N,c49N]
  ·skip
   have c46N:=c46;try simp at c46N
   first | have c46M : (_ = _) = True:=eq_true c46N | have c46M:=c46N
   rw [if_neg] at hr45;rotate_left
   ·simp [c29,c46,c46M]
   refine Ze (by simp [bV,c29,c46,c46M]) ?_;refine Zr ?_;obtain ⟨r59,q59,rfl⟩:=ms hr45;simp only [pq,reduceCtorEq];rintro rfl
   try simp only [pq,reduceCtorEq]
   unfold Lpartial_Valid_k1 at q59;refine Za rfl (by simp [c29,c46,c46M]; rfl) ?_;refine Zi ?_;obtain rfl:=Option.some.inj q59;simp [Zj,c29,c46,c46M,c46N]
 ·skip
  rw [if_pos c29] at hr;refine Zd (by simp [bV,c29]) ?_;refine Zb ?_;refine Za rfl (by simp [c29]; rfl) ?_;refine Zn ?_;obtain rfl:=Option.some.inj hr;simp [Zj,c29]
end Go.Proofs.YtbjhgolpnjokbaaGreat
