import Derived.Test.YtbjhgolpnjokbaaGreatLfK
import Derived.Test.YtbjhgolpnjokbaaGreatCode
import Derived.Test.YtbjhgolpnjokbaaGreatBl
namespace Go.Proofs.YtbjhgolpnjokbaaGreat
open Go.RowKit
open Go.Av
open Go.Lc
set_option maxRecDepth 100000
set_option linter.unusedSimpArgs false
set_option linter.unusedVariables false
set_option maxHeartbeats 4000000
variable {G : Glob}
def kp30 : Keep:=fun i=>if i = 4 then ⟨[1,3],[1],[]⟩ else ⟨[],[],[]⟩
theorem w30 {T : Tab} (hO : T.own = fun _=>[]) (hT57 : T 57 = some G57) (hT58 : T 58 = some G58) (hT59 : T 59 = some G59) (hT60 : T 60 = some G60) (a0 : Tapi_Plan) (x : Bool) (hr : X1 a0 = some x) : ∃ kp fl n,Zt tt T G kp fl n Tryz.f30 (E30 a0) = some (R30 a0 x):=by
 simp only [E30,R30];refine fnE (kp:=kp30) (w:=false) body30 (by simp) ?_;unfold c30;rw [Tryz.ntmps30];unfold X1 at hr;refine Za rfl (by simp []; rfl) ?_;refine Zb ?_;obtain ⟨y13,hy13,hr⟩:=bs hr;have ehy13:=Zp2 hy13;simp only [E57,R57,nf,nfs] at ehy13;by_cases c14 : y13 = 0
 ·skip
  rw [if_neg] at hr;rotate_left
  ·simp [eq_true c14]
  obtain ⟨z15,hz15,hr⟩:=bs hr;obtain ⟨y16,hy16,hz15⟩:=bs hz15;have ehy16:=Zp1 hy16;simp only [E58,R58,nf,nfs] at ehy16;obtain rfl:=Option.some.inj hz15;by_cases c17 : y16 = true
  ·skip
   rw [if_pos] at hr;rotate_left
   ·simp [eq_true c14,c17]
   obtain ⟨z18,hz18,hr⟩:=bs hr;obtain rfl:=Option.some.inj hz18;refine Za rfl (by simp [hO,hT57,ehy13,hT58,ehy16,eq_true c14,c17]; rfl) ?_;rw [if_pos] at hr;rotate_left
   ·simp [eq_true c14,c17]
   refine Zd (by simp [bV,eq_true c14,c17]) ?_;refine Zb ?_;refine Za rfl (by simp [eq_true c14,c17]; rfl) ?_;refine Zn ?_;obtain rfl:=Option.some.inj hr;simp [Zj,eq_true c14,c17]
  ·skip
   rw [if_neg] at hr;rotate_left
   ·simp [eq_true c14,c17]
   obtain ⟨z19,hz19,hr⟩:=bs hr;obtain ⟨y20,hy20,hz19⟩:=bs hz19;have ehy20:=Ztj hy20;simp only [E59,R59,nf,nfs] at ehy20;obtain rfl:=Option.some.inj hz19;refine Za rfl (by simp [hO,hT57,ehy13,hT58,ehy16,hT59,ehy20,eq_true c14,c17]; rfl) ?_;by_cases c21 : y20 = true
   ·skip
    rw [if_neg] at hr;rotate_left
    ·simp [eq_true c14,c17,c21]
    refine Ze (by simp [bV,eq_true c14,c17,c21]) ?_;refine Zh ?_;refine Zb ?_;refine Za rfl (by simp [eq_true c14,c17,c21]; rfl) ?_;refine Zg ?_;refine ZJ (kq:=⟨[1,3],[1],[]⟩) (H:=fun (s : Int)=>match s with | p9=>(⟨(und 1++([.ptr 1 0 0 0 7]++(und 1++([.one (.v (.int .i64 p9))]++(und 55)))) : List PV),([(1,⟨0,7,[[.v (.int .u32 a0.1.1),.slice .no (List.map Zm a0.1.2.1),.slice .no (List.map Zk a0.1.2.2.1),.v (.int .u32 a0.1.2.2.2),.slice .no (List.map ZB a0.2.1),.v (.int .i64 a0.2.2.1),.v (.int .i64 a0.2.2.2)]],false,false⟩)] : Boxes)⟩ : ASt)) (by kernel_rfl) hr (by simp [und,List.replicate,eq_true c14,c17,c21]) ?_;rintro p9 x27r hr27
    simp only [ZaQ] at hr27;unfold b30_1;simp only [und,List.replicate,List.cons_append,List.nil_append];refine Zb ?_;refine Za rfl (by simp [eq_true c14,c17,c21]; rfl) ?_;by_cases c28 : p9 < (a0.1.2.1.length : Int)
    ·skip
     have c28N:=c28;try simp at c28N
     first | have c28M : (_ = _) = True:=eq_true c28N | have c28M:=c28N
     rw [if_pos] at hr27;rotate_left
     ·simp [eq_true c14,c17,c21,c28,c28M]
     refine Zd (by simp [bV,eq_true c14,c17,c21,c28,c28M]) ?_;refine Zh ?_;refine Zg ?_;obtain ⟨x29,hx29,hr27⟩:=bs hr27;obtain ⟨hx29a,hx29b⟩:=Zz hx29;have hx29c:=Zq hx29b;refine Za rfl (by simp [hx29a,hx29b,hx29c,eq_true c14,c17,c21,c28,c28M]; rfl) ?_;by_cases c30 : 0 < (x29.2.2.length : Int)
     ·skip
      have c30N:=c30;try simp at c30N
      first | have c30M : (_ = _) = True:=eq_true c30N | have c30M:=c30N
      rw [if_pos c30] at hr27;refine Zp (by simp [bV,eq_true c14,c17,c21,c28,c28M,c30,c30M]) ?_;refine Za rfl (by simp [eq_true c14,c17,c21,c28,c28M,c30,c30M]; rfl) ?_;refine Zi ?_;obtain rfl:=Option.some.inj hr27;simp only [pq,reduceCtorEq];rintro rfl
      simp [Zj,eq_true c14,c17,c21,c28,c28M,c30,c30M,c28N,c30N]
     ·skip
      have c30N:=c30;try simp at c30N
      first | have c30M : (_ = _) = True:=eq_true c30N | have c30M:=c30N
      have c30L : ¬ 0 < x29.2.2.length:=by omega
      rw [if_neg c30] at hr27;refine Zy (by simp [bV,eq_true c14,c17,c21,c28,c28M,c30,c30M,c30L]) ?_;refine ZV ?_;simp only [pq,reduceCtorEq];refine ZA rfl (by simp [eq_true c14,c17,c21,c28,c28M,c30,c30M,c30L]; rfl) ?_;obtain rfl:=Option.some.inj hr27;simp only [pq,reduceCtorEq];simp [und,List.replicate,Nat.add_assoc,eq_true c14,c17,c21,c28,c28M,c30,c30M,c30L]
    ·skip
     have c28N:=c28;try simp at c28N
     first | have c28M : (_ = _) = True:=eq_true c28N | have c28M:=c28N
     rw [if_neg] at hr27;rotate_left
     ·simp [eq_true c14,c17,c21,c28,c28M]
     refine Ze (by simp [bV,eq_true c14,c17,c21,c28,c28M]) ?_;refine Zr ?_;obtain ⟨r31,q31,rfl⟩:=ms hr27;simp only [pq,reduceCtorEq];rintro rfl
     try simp only [pq,reduceCtorEq]
     unfold ZeR at q31;obtain ⟨y32,hy32,q31⟩:=bs q31;have ehy32:=Ztk hy32;simp only [E60,R60,nf,nfs] at ehy32;refine Za rfl (by simp [hO,hT60,ehy32,eq_true c14,c17,c21,c28,c28M]; rfl) ?_;by_cases c33 : y32.2 = 0
     ·skip
      refine Za rfl (by simp [eq_true c14,c17,c21,c28,c28M,eq_true c33]; rfl) ?_;refine Zi ?_;obtain rfl:=Option.some.inj q31;simp [Zj,eq_true c14,c17,c21,c28,c28M,eq_true c33,c28N]
     ·skip
      refine Za rfl (by simp [eq_true c14,c17,c21,c28,c28M,c33]; rfl) ?_;refine Zi ?_;obtain rfl:=Option.some.inj q31;simp [Zj,eq_true c14,c17,c21,c28,c28M,c33,c28N]
   ·skip
    rw [if_pos] at hr;rotate_left
    ·simp [eq_true c14,c17,c21]
    refine Zd (by simp [bV,eq_true c14,c17,c21]) ?_;refine Zb ?_;refine Za rfl (by simp [eq_true c14,c17,c21]; rfl) ?_;refine Zn ?_;obtain rfl:=Option.some.inj hr;simp [Zj,eq_true c14,c17,c21]
 ·skip
  rw [if_pos] at hr;rotate_left
  ·simp [c14]
  obtain ⟨z34,hz34,hr⟩:=bs hr;obtain rfl:=Option.some.inj hz34;rw [if_pos] at hr;rotate_left
  ·simp [c14]
  obtain ⟨z35,hz35,hr⟩:=bs hr;obtain rfl:=Option.some.inj hz35;refine Za rfl (by simp [hO,hT57,ehy13,c14]; rfl) ?_;rw [if_pos] at hr;rotate_left
  ·simp [c14]
  refine Zd (by simp [bV,c14]) ?_;refine Zb ?_;refine Za rfl (by simp [c14]; rfl) ?_;refine Zn ?_;obtain rfl:=Option.some.inj hr;simp [Zj,c14]
def kp34 : Keep:=fun i=>if i = 2 then ⟨[2,3,5],[2,3],[]⟩ else ⟨[],[],[]⟩
theorem w34 {T : Tab} (a0 : (Arr 4)) (a1 : (Arr 4)) (x : Int) (hr : Zba a0 a1 = some x) : ∃ kp fl n,Zt tt T G kp fl n Tryz.f34 (E34 (a0,a1)) = some (R34 (a0,a1) x):=by
 simp only [E34,R34];refine fnE (kp:=kp34) (w:=false) body34 (by simp) ?_;unfold c34;rw [Tryz.ntmps34];unfold Zba at hr;refine Za rfl (by simp []; rfl) ?_;refine Zb ?_;refine Za rfl (by simp []; rfl) ?_;refine Zg ?_;refine ZJ (kq:=⟨[2,3,5],[2,3],[]⟩) (H:=fun (s : Int)=>match s with | p3=>(⟨(und 2++([.ptr 2 0 0 0 4,.ptr 3 0 0 0 4]++(und 1++([.one (.v (.int .i64 p3))]++(und 18)))) : List PV),([(2,⟨0,4,[arC .u64 a0],false,false⟩),(3,⟨0,4,[arC .u64 a1],false,false⟩)] : Boxes)⟩ : ASt)) (by kernel_rfl) hr (by simp [und,List.replicate,]) ?_;rintro p3 x20r hr20
 simp only [Ziu] at hr20;unfold b34_1;simp only [und,List.replicate,List.cons_append,List.nil_append];refine Zb ?_;refine Za rfl (by simp []; rfl) ?_;by_cases c21 : 0≤p3
 ·skip
  rw [if_pos] at hr20;rotate_left
  ·simp [c21]
  refine Zd (by simp [bV,c21]) ?_;refine Zh ?_;refine Zg ?_;refine Zb ?_;obtain ⟨j22,hj22,hr20⟩:=bs hr20;obtain ⟨j22a,j22b,j22c⟩:=Yc hj22;have j22d : j22≤3:=by omega
  have ar23:=YZ (k:=.u64) (a0) (i:=j22) j22c;have as24:=Xf (k:=.u64) (a0) (i:=j22) j22c;obtain ⟨j22a,j22b,j22c⟩:=Yc hj22;have j22d : j22≤3:=by omega
  have ar25:=YZ (k:=.u64) (a1) (i:=j22) j22c;have as26:=Xf (k:=.u64) (a1) (i:=j22) j22c;refine ZC rfl (by simp [j22a,j22b,j22c,j22d,ar23,as24,ar25,as26,c21]; first | exact ⟨rfl,rfl⟩ | rfl) (by kernel_rfl) ?_;by_cases c27 : a0.at j22 < a1.at j22
  ·skip
   rw [if_pos] at hr20;rotate_left
   ·simp [c21,c27]
   refine Zd (by simp [bV,c21,c27]) ?_;refine Zb ?_;refine Za rfl (by simp [c21,c27]; rfl) ?_;refine Zn ?_;obtain rfl:=Option.some.inj hr20;simp only [pq,reduceCtorEq];rintro rfl
   simp [Zj,c21,c27]
  ·skip
   rw [if_neg] at hr20;rotate_left
   ·simp [c21,c27]
   refine Ze (by simp [bV,c21,c27]) ?_;refine Zh ?_;obtain ⟨j22a,j22b,j22c⟩:=Yc hj22;have j22d : j22≤3:=by omega
   have ar28:=YZ (k:=.u64) (a0) (i:=j22) j22c;have as29:=Xf (k:=.u64) (a0) (i:=j22) j22c;obtain ⟨j22a,j22b,j22c⟩:=Yc hj22;have j22d : j22≤3:=by omega
   have ar30:=YZ (k:=.u64) (a1) (i:=j22) j22c;have as31:=Xf (k:=.u64) (a1) (i:=j22) j22c;refine ZC rfl (by simp [j22a,j22b,j22c,j22d,ar28,as29,ar30,as31,c21,c27]; first | exact ⟨rfl,rfl⟩ | rfl) (by kernel_rfl) ?_;by_cases c32 : a1.at j22 < a0.at j22
   ·skip
    rw [if_pos] at hr20;rotate_left
    ·simp [c21,c27,c32]
    refine Zp (by simp [bV,c21,c27,c32]) ?_;refine Za rfl (by simp [c21,c27,c32]; rfl) ?_;refine Zi ?_;obtain rfl:=Option.some.inj hr20;simp only [pq,reduceCtorEq];rintro rfl
    simp [Zj,c21,c27,c32]
   ·skip
    rw [if_neg] at hr20;rotate_left
    ·simp [c21,c27,c32]
    refine Zy (by simp [bV,c21,c27,c32]) ?_;refine ZV ?_;simp only [pq,reduceCtorEq];refine ZA rfl (by simp [c21,c27,c32]; rfl) ?_;obtain rfl:=Option.some.inj hr20;simp only [pq,reduceCtorEq];simp [und,List.replicate,Nat.add_assoc,c21,c27,c32]
 ·skip
  rw [if_neg] at hr20;rotate_left
  ·simp [c21]
  refine Ze (by simp [bV,c21]) ?_;refine Zr ?_;obtain ⟨r33,q33,rfl⟩:=ms hr20;simp only [pq,reduceCtorEq];rintro rfl
  try simp only [pq,reduceCtorEq]
  unfold Lref02_Cmp_k1 at q33;refine Za rfl (by simp [c21]; rfl) ?_;refine Zi ?_;obtain rfl:=Option.some.inj q33;simp [Zj,c21]
def kp96 : Keep:=fun i=>⟨[],[],[]⟩
theorem w96 {T : Tab} (a0 : (Arr 4)) (a1 : Int) (x : Bool) (hr : Zb2 a0 a1 = some x) : ∃ kp fl n,Zt tt T G kp fl n Tryz.f96 (E96 (a0,a1)) = some (R96 (a0,a1) x):=by
 simp only [E96,R96];refine fnE (kp:=kp96) (w:=false) body96 (by simp) ?_;unfold c96;rw [Tryz.ntmps96];unfold Zb2 at hr;refine Za rfl (by simp []; rfl) ?_;obtain ⟨j3,hj3,hr⟩:=bs hr;obtain ⟨j3a,j3b,j3c⟩:=Yc hj3;have j3d : j3≤3:=by omega
 have ar4:=YZ (k:=.u64) (a0) (i:=j3) j3c;have as5:=Xf (k:=.u64) (a0) (i:=j3) j3c;obtain ⟨_,u6,hr⟩:=bs hr;have u6_0:=ZD u6;refine Za rfl (by simp [j3a,j3b,j3c,j3d,ar4,as5,u6_0]; rfl) ?_;refine Zi ?_;obtain rfl:=Option.some.inj hr;simp [Zj,j3a,j3b,j3c,j3d,ar4,as5,u6_0]
def kp67 : Keep:=fun i=>if i = 7 then ⟨[1,2,4,5,6],[2,4,5],[]⟩ else if i = 1000008 then ⟨[1,2,4,5,6],[2,4,5],[]⟩ else ⟨[],[],[]⟩
theorem w67 {T : Tab} (hO : T.own = fun _=>[]) (hT96 : T 96 = some G96) (a0 : (Arr 4)) (a1 : Int) (x : (Arr 4)) (hr : Zb3 a0 a1 = some x) : ∃ kp fl n,Zt tt T G kp fl n Tryz.f67 (E67 (a0,a1)) = some (R67 (a0,a1) x):=by
 simp only [E67,R67];refine fnE (kp:=kp67) (w:=false) body67 (by simp) ?_;unfold c67;rw [Tryz.ntmps67];unfold Zb3 at hr;refine Za rfl (by simp []; rfl) ?_;refine Zb ?_;refine Za rfl (by simp []; rfl) ?_;by_cases c23 : a1≤0
 ·skip
  rw [if_pos c23] at hr;refine Zd (by simp [bV,c23]) ?_;refine Zb ?_;refine Za rfl (by simp [c23]; rfl) ?_;refine Zn ?_;obtain rfl:=Option.some.inj hr;simp [Zj,c23]
 ·skip
  rw [if_neg c23] at hr;refine Ze (by simp [bV,c23]) ?_;refine Zh ?_;refine Zb ?_;refine Za rfl (by simp [c23]; rfl) ?_;by_cases c24 : 256≤a1
  ·skip
   rw [if_pos c24] at hr;refine Zd (by simp [bV,c23,c24]) ?_;refine Zb ?_;refine Za rfl (by simp [c23,c24]; rfl) ?_;refine Zn ?_;obtain rfl:=Option.some.inj hr;simp [Zj,c23,c24]
  ·skip
   rw [if_neg c24] at hr;refine Ze (by simp [bV,c23,c24]) ?_;refine Zh ?_;refine Za rfl (by simp [c23,c24]; rfl) ?_;refine Zb ?_;refine Za rfl (by simp [c23,c24]; rfl) ?_;refine Zg ?_;refine ZJ (kq:=⟨[1,2,4,5,6],[2,4,5],[]⟩) (H:=fun (s : Int×(Arr 4))=>match s with | (p11,p12)=>(⟨(und 1++([.one (.v (.int .i64 a1)),.ptr 2 0 0 0 4]++(und 1++([.ptr 4 0 0 0 4,.ptr 5 0 0 0 4,.one (.v (.int .i64 p11))]++(und 27)))) : List PV),([(2,⟨0,4,[arC .u64 a0],false,false⟩),(4,⟨0,4,[arC .u64 (zA 4)],false,false⟩),(5,⟨0,4,[arC .u64 p12],false,false⟩)] : Boxes)⟩ : ASt)) (by kernel_rfl) hr (by simp [und,List.replicate,c23,c24]) ?_;rintro ⟨p11,p12⟩ x42r hr42
   simp only [Zee] at hr42;unfold b67_1;simp only [und,List.replicate,List.cons_append,List.nil_append];refine Zb ?_;refine Za rfl (by simp [c23,c24]; rfl) ?_;by_cases c43 : IntKind.i64.wrap (p11 + a1) < 256
   ·skip
    rw [if_pos] at hr42;rotate_left
    ·simp [c23,c24,c43]
    refine Zd (by simp [bV,c23,c24,c43]) ?_;refine Zh ?_;refine Zg ?_;obtain ⟨y44,hy44,hr42⟩:=bs hr42;have ehy44:=Ztm hy44;simp only [E96,R96,nf,nfs] at ehy44;refine Za rfl (by simp [hO,hT96,ehy44,c23,c24,c43]; rfl) ?_;refine Zk5 hr42 (.normal) (fun (s : (Arr 4))=>match s with | p20=>(⟨(und 1++([.one (.v (.int .i64 a1)),.ptr 2 0 0 0 4]++(und 1++([.ptr 4 0 0 0 4,.ptr 5 0 0 0 4,.one (.v (.int .i64 p11))]++(und 27)))) : List PV),([(2,⟨0,4,[arC .u64 a0],false,false⟩),(4,⟨0,4,[arC .u64 (zA 4)],false,false⟩),(5,⟨0,4,[arC .u64 p20],false,false⟩)] : Boxes)⟩ : ASt)) (fun (s : (Arr 4))=>match s with | p20=>ZaX p11 p20) ?_ ?_
    ·skip
     rintro p20 hk51
     change ZaX p11 p20 = _ at hk51
     simp only [pq,reduceCtorEq];simp only [und,List.replicate,List.cons_append,List.nil_append];unfold ZaX at hk51;refine Zk6 rfl (kq:=⟨[1,2,4,5,6],[2,4,5],[]⟩) rfl (by simp [XA,c23,c24,c43]; rfl) (by simp [c23,c24,c43]; rfl) ?_;obtain rfl:=Option.some.inj hk51;simp only [pq,reduceCtorEq];simp [und,List.replicate,Nat.add_assoc,c23,c24,c43]
    ·skip
     intro J51;simp only [pq,reduceCtorEq] at J51;by_cases c52 : y44 = true
     ·skip
      rw [if_pos c52] at hr42;refine Zp (by simp [bV,c23,c24,c43,c52]) ?_;obtain ⟨j53,hj53,hr42⟩:=bs hr42;obtain ⟨j53a,j53b,j53c⟩:=Yc hj53;have j53d : j53≤3:=by omega
      have ar54:=YZ (k:=.u64) (p12) (i:=j53) j53c;have as55:=Xf (k:=.u64) (p12) (i:=j53) j53c;obtain ⟨_,u56,hr42⟩:=bs hr42;have u56_0:=ZD u56;obtain ⟨j53a,j53b,j53c⟩:=Yc hj53;have j53d : j53≤3:=by omega
      have ap57:=Zac (k:=.u64) (p12) (i:=j53) j53c (bits .or .u64 (p12.at j53) (IntKind.u64.wrap (1 * (2 ^ (min ((p11).tmod 64).toNat 64)))));have ap57N:=ap57;simp only [Int.one_mul] at ap57N;refine Zbk rfl (by simp [j53a,j53b,j53c,j53d,ar54,as55,u56_0,ap57,ap57N,c23,c24,c43,c52]; first | exact ⟨rfl,rfl⟩ | rfl) (by kernel_rfl) ?_;simp only [pq,reduceCtorEq];exact YR (key:=1000008) (kq:=⟨[1,2,4,5,6],[2,4,5],[]⟩) rfl rfl rfl (by simp [und,List.replicate,c23,c24,c43,c52]) (J51 (p12.put j53 (bits .or .u64 (p12.at j53) (IntKind.u64.wrap (1 * (2 ^ (min ((p11).tmod 64).toNat 64)))))) hr42)
     ·skip
      rw [if_neg c52] at hr42;refine Zy (by simp [bV,c23,c24,c43,c52]) ?_;refine ZV ?_;simp only [pq,reduceCtorEq];exact YR (key:=1000008) (kq:=⟨[1,2,4,5,6],[2,4,5],[]⟩) rfl rfl rfl (by simp [und,List.replicate,c23,c24,c43,c52]) (J51 p12 hr42)
   ·skip
    rw [if_neg] at hr42;rotate_left
    ·simp [c23,c24,c43]
    refine Ze (by simp [bV,c23,c24,c43]) ?_;refine Zr ?_;obtain ⟨r58,q58,rfl⟩:=ms hr42;simp only [pq,reduceCtorEq];rintro rfl
    try simp only [pq,reduceCtorEq]
    unfold Zed at q58;refine Za rfl (by simp [c23,c24,c43]; rfl) ?_;refine Zi ?_;obtain rfl:=Option.some.inj q58;simp [Zj,c23,c24,c43]
theorem v106 : Zoa Tryz.prog G 106 G106:=by
 refine Zpj (k:=.u64) (p:=fun x y b=>(x + 18446744073709551616 - y - b) % 18446744073709551616) (q:=fun x y b=>if x < y + b then 1 else 0) (ok:=fun x y b=>b≤1) (fun ps r hF=>?_) (fun x y b w hx=>ZtS x y b hx w);obtain ⟨⟨x,y,b⟩,rfl,h⟩:=ZaV hF;obtain ⟨z,hz,rfl⟩:=Option.map_eq_some_iff.1 h;unfold Zap at hz;obtain ⟨_,u1,hz⟩:=bs hz;obtain rfl:=Option.some.inj hz;obtain ⟨⟨h1,h2⟩,⟨h3,h4⟩,h5⟩:=ZD u1;obtain ⟨x,rfl⟩:=Int.eq_ofNat_of_zero_le h1;obtain ⟨y,rfl⟩:=Int.eq_ofNat_of_zero_le h2;obtain ⟨b,rfl⟩:=Int.eq_ofNat_of_zero_le h4;have h3' : (y : Int)≤18446744073709551615:=h3;have h5' : (b : Int)≤1:=h5;refine ⟨x,y,b,by omega,rfl,?_⟩;have e1 : ((x : Int) + 18446744073709551616 - y - b) % 18446744073709551616 = (((x + 18446744073709551616 - y - b) % 18446744073709551616 : Nat) : Int):=by omega
 have e2 : (if (x : Int) < (y : Int) + (b : Int) then (1 : Int) else 0) = ((if x < y + b then 1 else 0 : Nat) : Int):=by split <;> split <;> first | rfl | omega
 simp only [ZoH,e1,e2]
def kp97 : Keep:=fun i=>if i = 4 then ⟨[2,3,4,6,7,9],[2,3,4,6],[]⟩ else ⟨[],[],[]⟩
theorem w97 {T : Tab} (hO : T.own = fun _=>[]) (hT106 : T 106 = some G106) (a0 : (Arr 4)) (a1 : (Arr 4)) (x : (Arr 4)×Bool) (hr : Zb4 a0 a1 = some x) : ∃ kp fl n,Zt tt T G kp fl n Tryz.f97 (E97 (a0,a1)) = some (R97 (a0,a1) x):=by
 simp only [E97,R97];refine fnE (kp:=kp97) (w:=false) body97 (by simp) ?_;unfold c97;rw [Tryz.ntmps97];unfold Zb4 at hr;refine Za rfl (by simp []; rfl) ?_;refine Za rfl (by simp []; rfl) ?_;refine Za rfl (by simp []; rfl) ?_;refine Zb ?_;refine Za rfl (by simp []; rfl) ?_;refine Zg ?_;refine ZJ (kq:=⟨[2,3,4,6,7,9],[2,3,4,6],[]⟩) (H:=fun (s : Int×Int×(Arr 4))=>match s with | (p7,p8,p9)=>(⟨(und 2++([.ptr 2 0 0 0 4,.ptr 3 0 0 0 4,.ptr 4 0 0 0 4]++(und 1++([.ptr 6 0 0 0 4,.one (.v (.int .u64 p7))]++(und 1++([.one (.v (.int .i64 p8))]++(und 19)))))) : List PV),([(2,⟨0,4,[arC .u64 a0],false,false⟩),(3,⟨0,4,[arC .u64 a1],false,false⟩),(4,⟨0,4,[arC .u64 (zA 4)],false,false⟩),(6,⟨0,4,[arC .u64 p9],false,false⟩)] : Boxes)⟩ : ASt)) (by kernel_rfl) hr (by simp [und,List.replicate,]) ?_;rintro ⟨p7,p8,p9⟩ x24r hr24
 simp only [Zeg] at hr24;unfold b97_1;simp only [und,List.replicate,List.cons_append,List.nil_append];refine Za rfl (by simp []; rfl) ?_;by_cases c25 : p8 < 4
 ·skip
  rw [if_pos] at hr24;rotate_left
  ·simp [c25]
  refine Zd (by simp [bV,c25]) ?_;refine Zh ?_;refine Zg ?_;refine Za rfl (by simp [c25]; rfl) ?_;obtain ⟨j26,hj26,hr24⟩:=bs hr24;obtain ⟨j26a,j26b,j26c⟩:=Yc hj26;have j26d : j26≤3:=by omega
  have ar27:=YZ (k:=.u64) (a0) (i:=j26) j26c;have as28:=Xf (k:=.u64) (a0) (i:=j26) j26c;obtain ⟨j26a,j26b,j26c⟩:=Yc hj26;have j26d : j26≤3:=by omega
  have ar29:=YZ (k:=.u64) (a1) (i:=j26) j26c;have as30:=Xf (k:=.u64) (a1) (i:=j26) j26c;obtain ⟨y31,hy31,hr24⟩:=bs hr24;have ehy31:=Zsb hy31;simp only [Zlu,ZoH,nf,nfs] at ehy31;obtain ⟨j26a,j26b,j26c⟩:=Yc hj26;have j26d : j26≤3:=by omega
  have ap32:=Zac (k:=.u64) (p9) (i:=j26) j26c (y31.1);refine Zbk rfl (by simp [j26a,j26b,j26c,j26d,ar27,as28,ar29,as30,hO,hT106,ehy31,ap32,c25]; first | exact ⟨rfl,rfl⟩ | rfl) (by kernel_rfl) ?_;simp only [pq,reduceCtorEq];refine ZA rfl (by simp [c25]; rfl) ?_;obtain rfl:=Option.some.inj hr24;simp only [pq,reduceCtorEq];simp [und,List.replicate,Nat.add_assoc,c25]
 ·skip
  rw [if_neg] at hr24;rotate_left
  ·simp [c25]
  refine Ze (by simp [bV,c25]) ?_;refine Zr ?_;obtain ⟨r33,q33,rfl⟩:=ms hr24;simp only [pq,reduceCtorEq];rintro rfl
  try simp only [pq,reduceCtorEq]
  unfold Zef at q33;refine Za rfl (by simp [c25]; rfl) ?_;refine Zi ?_;obtain rfl:=Option.some.inj q33;simp [Zj,c25]
def kp68 : Keep:=fun i=>⟨[],[],[]⟩
theorem w68 {T : Tab} (hO : T.own = fun _=>[]) (hT38 : T 38 = some G38) (hT97 : T 97 = some G97) (x : (Arr 4)) (hr : Lref05_Modulus  = some x) : ∃ kp fl n,Zt tt T G kp fl n Tryz.f68 (E68 ()) = some (R68 () x):=by
 simp only [E68,R68];refine fnE (kp:=kp68) (w:=false) body68 (by simp) ?_;unfold c68;rw [Tryz.ntmps68];unfold Lref05_Modulus at hr;refine Za rfl (by simp []; rfl) ?_;obtain ⟨y3,hy3,hr⟩:=bs hr;have ehy3:=Zji hy3;simp only [E38,R38,nf,nfs] at ehy3;obtain ⟨y4,hy4,hr⟩:=bs hr;have ehy4:=Zto hy4;simp only [E97,R97,nf,nfs] at ehy4;refine Za rfl (by simp [hO,hT38,ehy3,hT97,ehy4]; rfl) ?_;refine Za rfl (by simp []; rfl) ?_;refine Zi ?_;obtain rfl:=Option.some.inj hr;simp [Zj,]
def kp35 : Keep:=fun i=>⟨[],[],[]⟩
theorem w35 {T : Tab} (hO : T.own = fun _=>[]) (hT67 : T 67 = some G67) (hT68 : T 68 = some G68) (x : (Arr 4)) (hr : Lref05_Order  = some x) : ∃ kp fl n,Zt tt T G kp fl n Tryz.f35 (E35 ()) = some (R35 () x):=by
 simp only [E35,R35];refine fnE (kp:=kp35) (w:=false) body35 (by simp) ?_;unfold c35;rw [Tryz.ntmps35];unfold Lref05_Order at hr;refine Za rfl (by simp []; rfl) ?_;obtain ⟨y3,hy3,hr⟩:=bs hr;have ehy3:=Ztp hy3;simp only [E68,R68,nf,nfs] at ehy3;obtain ⟨y4,hy4,hr⟩:=bs hr;have ehy4:=Ztn hy4;simp only [E67,R67,nf,nfs] at ehy4;refine Za rfl (by simp [hO,hT68,ehy3,hT67,ehy4]; rfl) ?_;refine Zi ?_;obtain rfl:=Option.some.inj hr;simp [Zj,hO,hT68,ehy3,hT67,ehy4]
def kp36 : Keep:=fun i=>⟨[],[],[]⟩
theorem w36 {T : Tab} (hO : T.own = fun _=>[]) (hT34 : T 34 = some G34) (a0 : Tapi_Signed) (a1 : Tapi_Signed) (x : Bool) (hr : XJ a0 a1 = some x) : ∃ kp fl n,Zt tt T G kp fl n Tryz.f36 (E36 (a0,a1)) = some (R36 (a0,a1) x):=by
 simp only [E36,R36];refine fnE (kp:=kp36) (w:=false) body36 (by simp) ?_;unfold c36;rw [Tryz.ntmps36];unfold XJ at hr;refine Za rfl (by simp []; rfl) ?_;by_cases c4 : a0.1 < a1.1
 ·skip
  rw [if_pos] at hr;rotate_left
  ·simp [c4]
  obtain ⟨z5,hz5,hr⟩:=bs hr;obtain rfl:=Option.some.inj hz5;refine Za rfl (by simp [c4]; rfl) ?_;refine Zi ?_;obtain rfl:=Option.some.inj hr;simp [Zj,c4]
 ·skip
  rw [if_neg] at hr;rotate_left
  ·simp [c4]
  obtain ⟨z6,hz6,hr⟩:=bs hr;by_cases c7 : a0.1 = a1.1
  ·skip
   rw [if_pos] at hz6;rotate_left
   ·simp [c4,eq_true c7]
   obtain ⟨z8,hz8,hz6⟩:=bs hz6;obtain ⟨y9,hy9,hz8⟩:=bs hz8;have ehy9:=Zna hy9;simp only [E34,R34,nf,nfs] at ehy9;obtain rfl:=Option.some.inj hz8;obtain rfl:=Option.some.inj hz6;refine Za rfl (by simp [hO,hT34,ehy9,c4,eq_true c7]; rfl) ?_;refine Zi ?_;obtain rfl:=Option.some.inj hr;simp [Zj,hO,hT34,ehy9,c4,eq_true c7]
  ·skip
   rw [if_neg] at hz6;rotate_left
   ·simp [c4,c7]
   obtain ⟨z10,hz10,hz6⟩:=bs hz6;obtain rfl:=Option.some.inj hz10;obtain rfl:=Option.some.inj hz6;refine Za rfl (by simp [c4,c7]; rfl) ?_;refine Zi ?_;obtain rfl:=Option.some.inj hr;simp [Zj,c4,c7]
def kp12 : Keep:=fun i=>if i = 4 then ⟨[1,3],[1],[]⟩ else ⟨[],[],[]⟩
theorem w12 {T : Tab} (hO : T.own = fun _=>[]) (hT30 : T 30 = some G30) (hT34 : T 34 = some G34) (hT35 : T 35 = some G35) (hT36 : T 36 = some G36) (a0 : Tapi_PartialTx) (x : Bool) (hr : X9 a0 = some x) : ∃ kp fl n,Zt tt T G kp fl n Tryz.f12 (E12 a0) = some (R12 a0 x):=by
 simp only [E12,R12];refine fnE (kp:=kp12) (w:=false) body12 (by simp) ?_;unfold c12;rw [Tryz.ntmps12];unfold X9 at hr;refine Za rfl (by simp []; rfl) ?_;refine Zb ?_;obtain ⟨y48,hy48,hr⟩:=bs hr;have ehy48:=Ztl hy48;simp only [E30,R30,nf,nfs] at ehy48;refine Za rfl (by simp [hO,hT30,ehy48]; rfl) ?_;by_cases c49 : y48 = true
 ·skip
  rw [if_neg (not_not_intro c49)] at hr;refine Ze (by simp [bV,c49]) ?_;refine Zh ?_;refine Zb ?_;refine Za rfl (by simp [c49]; rfl) ?_;refine Zg ?_;refine ZJ (kq:=⟨[1,3],[1],[]⟩) (H:=fun (s : Int)=>match s with | p25=>(⟨(und 1++([.ptr 1 0 0 0 8]++(und 1++([.one (.v (.int .i64 p25))]++(und 61)))) : List PV),([(1,⟨0,8,[[.v (.int .u32 a0.1.1.1),.slice .no (List.map Zm a0.1.1.2.1),.slice .no (List.map Zk a0.1.1.2.2.1),.v (.int .u32 a0.1.1.2.2.2),.slice .no (List.map ZB a0.1.2.1),.v (.int .i64 a0.1.2.2.1),.v (.int .i64 a0.1.2.2.2),.slice .no (List.map ZE a0.2)]],false,false⟩)] : Boxes)⟩ : ASt)) (by kernel_rfl) hr (by simp [und,List.replicate,c49]) ?_;rintro p25 x80r hr80
  simp only [Zb5] at hr80;unfold b12_1;simp only [und,List.replicate,List.cons_append,List.nil_append];refine Zb ?_;refine Za rfl (by simp [c49]; rfl) ?_;by_cases c81 : p25 < (a0.2.length : Int)
  ·skip
   have c81N:=c81;try simp at c81N
   first | have c81M : (_ = _) = True:=eq_true c81N | have c81M:=c81N
   rw [if_pos] at hr80;rotate_left
   ·simp [c49,c81,c81M]
   refine Zd (by simp [bV,c49,c81,c81M]) ?_;refine Zh ?_;refine Zg ?_;obtain ⟨x82,hx82,hr80⟩:=bs hr80;obtain ⟨hx82a,hx82b⟩:=Zz hx82;have hx82c:=Zq hx82b;refine Za rfl (by simp [hx82a,hx82b,hx82c,c49,c81,c81M]; rfl) ?_;by_cases c83 : x82.1 < 0
   ·skip
    rw [if_pos] at hr80;rotate_left
    ·simp [c49,c81,c81M,c83]
    obtain ⟨z84,hz84,hr80⟩:=bs hr80;obtain rfl:=Option.some.inj hz84;rw [if_pos] at hr80;rotate_left
    ·simp [c49,c81,c81M,c83]
    obtain ⟨z85,hz85,hr80⟩:=bs hr80;obtain rfl:=Option.some.inj hz85;rw [if_pos] at hr80;rotate_left
    ·simp [c49,c81,c81M,c83]
    obtain ⟨z86,hz86,hr80⟩:=bs hr80;obtain rfl:=Option.some.inj hz86;refine ZC rfl (by simp [c49,c81,c81M,c83]; first | exact ⟨rfl,rfl⟩ | rfl) (by kernel_rfl) ?_;rw [if_pos] at hr80;rotate_left
    ·simp [c49,c81,c81M,c83]
    refine Zp (by simp [bV,c49,c81,c81M,c83]) ?_;refine Za rfl (by simp [c49,c81,c81M,c83]; rfl) ?_;refine Zi ?_;obtain rfl:=Option.some.inj hr80;simp only [pq,reduceCtorEq];rintro rfl
    simp [Zj,c49,c81,c81M,c83,c81N]
   ·skip
    by_cases c87 : (a0.1.1.2.1.length : Int)≤x82.1
    ·skip
     have c87N:=c87;try simp at c87N
     first | have c87M : (_ = _) = True:=eq_true c87N | have c87M:=c87N
     rw [if_pos] at hr80;rotate_left
     ·simp [c49,c81,c81M,c83,c87,c87M]
     obtain ⟨z88,hz88,hr80⟩:=bs hr80;obtain rfl:=Option.some.inj hz88;rw [if_pos] at hr80;rotate_left
     ·simp [c49,c81,c81M,c83,c87,c87M]
     obtain ⟨z89,hz89,hr80⟩:=bs hr80;obtain rfl:=Option.some.inj hz89;rw [if_pos] at hr80;rotate_left
     ·simp [c49,c81,c81M,c83,c87,c87M]
     obtain ⟨z90,hz90,hr80⟩:=bs hr80;obtain rfl:=Option.some.inj hz90;refine ZC rfl (by simp [c49,c81,c81M,c83,c87,c87M]; first | exact ⟨rfl,rfl⟩ | rfl) (by kernel_rfl) ?_;rw [if_pos] at hr80;rotate_left
     ·simp [c49,c81,c81M,c83,c87,c87M]
     refine Zp (by simp [bV,c49,c81,c81M,c83,c87,c87M]) ?_;refine Za rfl (by simp [c49,c81,c81M,c83,c87,c87M]; rfl) ?_;refine Zi ?_;obtain rfl:=Option.some.inj hr80;simp only [pq,reduceCtorEq];rintro rfl
     simp [Zj,c49,c81,c81M,c83,c87,c87M,c81N,c87N]
    ·skip
     have c87N:=c87;try simp at c87N
     first | have c87M : (_ = _) = True:=eq_true c87N | have c87M:=c87N
     rw [if_neg] at hr80;rotate_left
     ·simp [c49,c81,c81M,c83,c87,c87M]
     obtain ⟨z91,hz91,hr80⟩:=bs hr80;obtain ⟨y92,hy92,hz91⟩:=bs hz91;have ehy92:=Zp3 hy92;simp only [E35,R35,nf,nfs] at ehy92;obtain ⟨y93,hy93,hz91⟩:=bs hz91;have ehy93:=Zna hy93;simp only [E34,R34,nf,nfs] at ehy93;obtain rfl:=Option.some.inj hz91;by_cases c94 : 0≤y93
     ·skip
      rw [if_pos] at hr80;rotate_left
      ·simp [c49,c81,c81M,c83,c87,c87M,c94]
      obtain ⟨z95,hz95,hr80⟩:=bs hr80;obtain rfl:=Option.some.inj hz95;rw [if_pos] at hr80;rotate_left
      ·simp [c49,c81,c81M,c83,c87,c87M,c94]
      obtain ⟨z96,hz96,hr80⟩:=bs hr80;obtain rfl:=Option.some.inj hz96;refine ZC rfl (by simp [hO,hT35,ehy92,hT34,ehy93,c49,c81,c81M,c83,c87,c87M,c94]; first | exact ⟨rfl,rfl⟩ | rfl) (by kernel_rfl) ?_;rw [if_pos] at hr80;rotate_left
      ·simp [c49,c81,c81M,c83,c87,c87M,c94]
      refine Zp (by simp [bV,c49,c81,c81M,c83,c87,c87M,c94]) ?_;refine Za rfl (by simp [c49,c81,c81M,c83,c87,c87M,c94]; rfl) ?_;refine Zi ?_;obtain rfl:=Option.some.inj hr80;simp only [pq,reduceCtorEq];rintro rfl
      simp [Zj,c49,c81,c81M,c83,c87,c87M,c94,c81N,c87N]
     ·skip
      rw [if_neg] at hr80;rotate_left
      ·simp [c49,c81,c81M,c83,c87,c87M,c94]
      obtain ⟨z97,hz97,hr80⟩:=bs hr80;obtain ⟨y98,hy98,hz97⟩:=bs hz97;obtain rfl : y92 = y98:=Option.some.inj (hy92.symm.trans hy98);have ehy98:=Zp3 hy98;simp only [E35,R35,nf,nfs] at ehy98;obtain ⟨y99,hy99,hz97⟩:=bs hz97;have ehy99:=Zna hy99;simp only [E34,R34,nf,nfs] at ehy99;obtain rfl:=Option.some.inj hz97;by_cases c100 : 0≤y99
      ·skip
       rw [if_pos] at hr80;rotate_left
       ·simp [c49,c81,c81M,c83,c87,c87M,c94,c100]
       obtain ⟨z101,hz101,hr80⟩:=bs hr80;obtain rfl:=Option.some.inj hz101;refine ZC rfl (by simp [hO,hT35,ehy92,hT34,ehy93,ehy98,ehy99,c49,c81,c81M,c83,c87,c87M,c94,c100]; first | exact ⟨rfl,rfl⟩ | rfl) (by kernel_rfl) ?_;rw [if_pos] at hr80;rotate_left
       ·simp [c49,c81,c81M,c83,c87,c87M,c94,c100]
       refine Zp (by simp [bV,c49,c81,c81M,c83,c87,c87M,c94,c100]) ?_;refine Za rfl (by simp [c49,c81,c81M,c83,c87,c87M,c94,c100]; rfl) ?_;refine Zi ?_;obtain rfl:=Option.some.inj hr80;simp only [pq,reduceCtorEq];rintro rfl
       simp [Zj,c49,c81,c81M,c83,c87,c87M,c94,c100,c81N,c87N]
      ·skip
       rw [if_neg] at hr80;rotate_left
       ·simp [c49,c81,c81M,c83,c87,c87M,c94,c100]
       obtain ⟨z102,hz102,hr80⟩:=bs hr80;by_cases c103 : 0 < p25
       ·skip
        rw [if_pos] at hz102;rotate_left
        ·simp [c49,c81,c81M,c83,c87,c87M,c94,c100,c103]
        obtain ⟨z104,hz104,hz102⟩:=bs hz102;obtain ⟨x105,hx105,hz104⟩:=bs hz104;obtain ⟨hx105a,hx105b⟩:=Zz hx105;have hx105c:=Zq hx105b;obtain ⟨y106,hy106,hz104⟩:=bs hz104;have ehy106:=Zp4 hy106;simp only [E36,R36,nf,nfs] at ehy106;obtain rfl:=Option.some.inj hz104;obtain rfl:=Option.some.inj hz102;refine ZC rfl (by simp [hO,hT35,ehy92,hT34,ehy93,ehy98,ehy99,hx105a,hx105b,hx105c,hT36,ehy106,c49,c81,c81M,c83,c87,c87M,c94,c100,c103]; first | exact ⟨rfl,rfl⟩ | rfl) (by kernel_rfl) ?_;by_cases c107 : y106 = true
        ·skip
         rw [if_neg] at hr80;rotate_left
         ·simp [c49,c81,c81M,c83,c87,c87M,c94,c100,c103,c107]
         refine Zy (by simp [bV,c49,c81,c81M,c83,c87,c87M,c94,c100,c103,c107]) ?_;refine ZV ?_;simp only [pq,reduceCtorEq];refine ZA rfl (by simp [c49,c81,c81M,c83,c87,c87M,c94,c100,c103,c107]; rfl) ?_;obtain rfl:=Option.some.inj hr80;simp only [pq,reduceCtorEq];simp [und,List.replicate,Nat.add_assoc,c49,c81,c81M,c83,c87,c87M,c94,c100,c103,c107]
        ·skip
         rw [if_pos] at hr80;rotate_left
         ·simp [c49,c81,c81M,c83,c87,c87M,c94,c100,c103,c107]
         refine Zp (by simp [bV,c49,c81,c81M,c83,c87,c87M,c94,c100,c103,c107]) ?_;refine Za rfl (by simp [c49,c81,c81M,c83,c87,c87M,c94,c100,c103,c107]; rfl) ?_;refine Zi ?_;obtain rfl:=Option.some.inj hr80;simp only [pq,reduceCtorEq];rintro rfl
         simp [Zj,c49,c81,c81M,c83,c87,c87M,c94,c100,c103,c107,c81N,c87N]
       ·skip
        rw [if_neg] at hz102;rotate_left
        ·simp [c49,c81,c81M,c83,c87,c87M,c94,c100,c103]
        obtain ⟨z108,hz108,hz102⟩:=bs hz102;obtain rfl:=Option.some.inj hz108;obtain rfl:=Option.some.inj hz102;refine ZC rfl (by simp [hO,hT35,ehy92,hT34,ehy93,ehy98,ehy99,c49,c81,c81M,c83,c87,c87M,c94,c100,c103]; first | exact ⟨rfl,rfl⟩ | rfl) (by kernel_rfl) ?_;rw [if_neg] at hr80;rotate_left
        ·simp [c49,c81,c81M,c83,c87,c87M,c94,c100,c103]
        refine Zy (by simp [bV,c49,c81,c81M,c83,c87,c87M,c94,c100,c103]) ?_;refine ZV ?_;simp only [pq,reduceCtorEq];refine ZA rfl (by simp [c49,c81,c81M,c83,c87,c87M,c94,c100,c103]; rfl) ?_;obtain rfl:=Option.some.inj hr80;simp only [pq,reduceCtorEq];simp [und,List.replicate,Nat.add_assoc,c49,c81,c81M,c83,c87,c87M,c94,c100,c103]
  ·skip
   have c81N:=c81;try simp at c81N
   first | have c81M : (_ = _) = True:=eq_true c81N | have c81M:=c81N
   rw [if_neg] at hr80;rotate_left
   ·simp [c49,c81,c81M]
   refine Ze (by simp [bV,c49,c81,c81M]) ?_;refine Zr ?_;obtain ⟨r109,q109,rfl⟩:=ms hr80;simp only [pq,reduceCtorEq];rintro rfl
   try simp only [pq,reduceCtorEq]
   unfold Lref35_Valid_k1 at q109;refine Za rfl (by simp [c49,c81,c81M]; rfl) ?_;refine Zi ?_;obtain rfl:=Option.some.inj q109;simp [Zj,c49,c81,c81M,c81N]
 ·skip
  rw [if_pos c49] at hr;refine Zd (by simp [bV,c49]) ?_;refine Zb ?_;refine Za rfl (by simp [c49]; rfl) ?_;refine Zn ?_;obtain rfl:=Option.some.inj hr;simp [Zj,c49]
def kp40 : Keep:=fun i=>if i = 2 then ⟨[0,1,5,7],[5],[]⟩ else ⟨[],[],[]⟩
theorem w40 {T : Tab} (a0 : (List Tapi_Signed)) (a1 : Int) (a2 : (Arr 4)) (x : Int) (hr : Zay a0 a1 a2 = some x) : ∃ kp fl n,Zt tt T G kp fl n Tryz.f40 (E40 (a0,a1,a2)) = some (R40 (a0,a1,a2) x):=by
 simp only [E40,R40];refine fnE (kp:=kp40) (w:=false) body40 (by simp) ?_;unfold c40;rw [Tryz.ntmps40];unfold Zay at hr;refine Za rfl (by simp []; rfl) ?_;refine Zb ?_;refine Za rfl (by simp []; rfl) ?_;refine Zg ?_;refine ZJ (kq:=⟨[0,1,5,7],[5],[]⟩) (H:=fun (s : Int)=>match s with | p4=>(⟨([.one (.slice .no (List.map ZE a0)),.one (.v (.int .i64 a1))]++(und 3++([.ptr 5 0 0 0 4]++(und 1++([.one (.v (.int .i64 p4))]++(und 23))))) : List PV),([(5,⟨0,4,[arC .u64 a2],false,false⟩)] : Boxes)⟩ : ASt)) (by kernel_rfl) hr (by simp [und,List.replicate,]) ?_;rintro p4 x13r hr13
 simp only [Zbn] at hr13;unfold b40_1;simp only [und,List.replicate,List.cons_append,List.nil_append];refine Zb ?_;refine Za rfl (by simp []; rfl) ?_;by_cases c14 : p4 < (a0.length : Int)
 ·skip
  have c14N:=c14;try simp at c14N
  first | have c14M : (_ = _) = True:=eq_true c14N | have c14M:=c14N
  rw [if_pos] at hr13;rotate_left
  ·simp [c14,c14M]
  refine Zd (by simp [bV,c14,c14M]) ?_;refine Zh ?_;refine Zg ?_;obtain ⟨x15,hx15,hr13⟩:=bs hr13;obtain ⟨hx15a,hx15b⟩:=Zz hx15;have hx15c:=Zq hx15b;by_cases c16 : x15.1 = a1
  ·skip
   obtain ⟨hx15a,hx15b⟩:=Zz hx15;have hx15c:=Zq hx15b;refine ZC rfl (by simp [hx15a,hx15b,hx15c,c14,c14M,eq_true c16]; first | exact ⟨rfl,rfl⟩ | rfl) (by kernel_rfl) ?_;by_cases c17 : x15.2.1 = a2
   ·skip
    rw [if_pos] at hr13;rotate_left
    ·simp [c14,c14M,eq_true c16,eq_true c17]
    refine Zp (by simp [bV,c14,c14M,eq_true c16,eq_true c17]) ?_;refine Za rfl (by simp [c14,c14M,eq_true c16,eq_true c17]; rfl) ?_;refine Zi ?_;obtain rfl:=Option.some.inj hr13;simp only [pq,reduceCtorEq];rintro rfl
    simp [Zj,c14,c14M,eq_true c16,eq_true c17,c14N]
   ·skip
    rw [if_neg] at hr13;rotate_left
    ·simp [c14,c14M,eq_true c16,c17]
    refine Zy (by simp [bV,c14,c14M,eq_true c16,c17]) ?_;refine ZV ?_;simp only [pq,reduceCtorEq];refine ZA rfl (by simp [c14,c14M,eq_true c16,c17]; rfl) ?_;obtain rfl:=Option.some.inj hr13;simp only [pq,reduceCtorEq];simp [und,List.replicate,Nat.add_assoc,c14,c14M,eq_true c16,c17]
  ·skip
   refine ZC rfl (by simp [hx15a,hx15b,hx15c,c14,c14M,c16]; first | exact ⟨rfl,rfl⟩ | rfl) (by kernel_rfl) ?_;rw [if_neg] at hr13;rotate_left
   ·simp [c14,c14M,c16]
   refine Zy (by simp [bV,c14,c14M,c16]) ?_;refine ZV ?_;simp only [pq,reduceCtorEq];refine ZA rfl (by simp [c14,c14M,c16]; rfl) ?_;obtain rfl:=Option.some.inj hr13;simp only [pq,reduceCtorEq];simp [und,List.replicate,Nat.add_assoc,c14,c14M,c16]
 ·skip
  have c14N:=c14;try simp at c14N
  first | have c14M : (_ = _) = True:=eq_true c14N | have c14M:=c14N
  rw [if_neg] at hr13;rotate_left
  ·simp [c14,c14M]
  refine Ze (by simp [bV,c14,c14M]) ?_;refine Zr ?_;obtain ⟨r18,q18,rfl⟩:=ms hr13;simp only [pq,reduceCtorEq];rintro rfl
  try simp only [pq,reduceCtorEq]
  unfold Lref35_find_k1 at q18;refine Za rfl (by simp [c14,c14M]; rfl) ?_;refine Zi ?_;obtain rfl:=Option.some.inj q18;simp [Zj,c14,c14M,c14N]
end Go.Proofs.YtbjhgolpnjokbaaGreat
