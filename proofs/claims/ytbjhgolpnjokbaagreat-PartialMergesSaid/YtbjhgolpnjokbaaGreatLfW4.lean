import Derived.Test.YtbjhgolpnjokbaaGreatLfK
import Derived.Test.YtbjhgolpnjokbaaGreatCode
import Derived.Test.YtbjhgolpnjokbaaGreatBl
namespace Go.Proofs.YtbjhgolpnjokbaaGreat
open Go.RowKit
open Go.Av
open Go.Lc
set_option maxRecDepth 100000
set_option linter.unusedSimpArgs false
set_option linter.unusedVariables false
set_option maxHeartbeats 4000000
variable {G : Glob}
def kp45 : Keep:=fun i=>⟨[],[],[]⟩
theorem w45 {T : Tab} (hO : T.own = fun _=>[]) (hT83 : T 83 = some G83) (a0 : (List Int)) (x : Int) (hr : YP a0 = some x) : ∃ kp fl n,Zt tt T G kp fl n Tryz.f45 (E45 a0) = some (R45 a0 x):=by
 simp only [E45,R45];refine fnE (kp:=kp45) (w:=false) body45 (by simp) ?_;unfold c45;rw [Tryz.ntmps45];unfold YP at hr;refine Za rfl (by simp []; rfl) ?_;refine Zb ?_;by_cases c9 : (a0.length : Int) < 2
 ·skip
  have c9N:=c9;try simp at c9N
  first | have c9M : (_ = _) = True:=eq_true c9N | have c9M:=c9N
  rw [if_pos] at hr;rotate_left
  ·simp [c9,c9M]
  obtain ⟨z10,hz10,hr⟩:=bs hr;obtain rfl:=Option.some.inj hz10;refine Za rfl (by simp [c9,c9M]; rfl) ?_;rw [if_pos] at hr;rotate_left
  ·simp [c9,c9M]
  refine Zd (by simp [bV,c9,c9M]) ?_;refine Zb ?_;refine Za rfl (by simp [c9,c9M]; rfl) ?_;refine Zn ?_;obtain rfl:=Option.some.inj hr;simp [Zj,c9,c9M,c9N]
 ·skip
  have c9N:=c9;try simp at c9N
  first | have c9M : (_ = _) = True:=eq_true c9N | have c9M:=c9N
  rw [if_neg] at hr;rotate_left
  ·simp [c9,c9M]
  obtain ⟨z11,hz11,hr⟩:=bs hr;obtain ⟨x12,hx12,hz11⟩:=bs hz11;have hx12c:=Zq hx12;obtain rfl:=Option.some.inj hz11;refine Za rfl (by simp [hx12,hx12c,c9,c9M]; rfl) ?_;by_cases c13 : x12 = 1
  ·skip
   rw [if_neg] at hr;rotate_left
   ·simp [c9,c9M,eq_true c13]
   refine Ze (by simp [bV,c9,c9M,eq_true c13]) ?_;refine Zh ?_;obtain ⟨x14,hx14,hr⟩:=bs hr;have hx14c:=Zq hx14;refine Za rfl (by simp [hx14,hx14c,c9,c9M,eq_true c13]; rfl) ?_;refine Zb ?_;refine Za rfl (by simp [c9,c9M,eq_true c13]; rfl) ?_;by_cases c15 : (a0.length : Int) < IntKind.i64.wrap ((IntKind.i64.wrap (2 + (IntKind.i64.wrap (x14)))) + 2)
   ·skip
    have c15N:=c15;try simp at c15N
    first | have c15M : (_ = _) = True:=eq_true c15N | have c15M:=c15N
    rw [if_pos c15] at hr;refine Zd (by simp [bV,c9,c9M,eq_true c13,c15,c15M]) ?_;refine Zb ?_;refine Za rfl (by simp [c9,c9M,eq_true c13,c15,c15M]; rfl) ?_;refine Zn ?_;obtain rfl:=Option.some.inj hr;simp [Zj,c9,c9M,eq_true c13,c15,c15M,c9N,c15N]
   ·skip
    have c15N:=c15;try simp at c15N
    first | have c15M : (_ = _) = True:=eq_true c15N | have c15M:=c15N
    rw [if_neg c15] at hr;refine Ze (by simp [bV,c9,c9M,eq_true c13,c15,c15M]) ?_;refine Zh ?_;refine Zb ?_;obtain ⟨_,u16,hr⟩:=bs hr;obtain ⟨u16_0,u16_1⟩:=ZD u16;have sf17 : 2≤(IntKind.i64.wrap (2 + (IntKind.i64.wrap (x14)))).toNat:=by omega
    have sf18 : (IntKind.i64.wrap (2 + (IntKind.i64.wrap (x14)))).toNat≤a0.length:=by omega
    have sf19 : 0≤IntKind.i64.wrap (2 + (IntKind.i64.wrap (x14))):=by omega
    obtain ⟨y20,hy20,hr⟩:=bs hr;have ehy20:=ZsL hy20;simp only [E83,R83,nf,nfs] at ehy20;refine Za rfl (by simp [u16_0,u16_1,sf17,sf18,sf19,hO,hT83,ehy20,c9,c9M,eq_true c13,c15,c15M]; rfl) ?_;refine Zb ?_;refine Za rfl (by simp [c9,c9M,eq_true c13,c15,c15M]; rfl) ?_;by_cases c21 : y20.2 = 0
    ·skip
     rw [if_neg (not_not_intro c21)] at hr;refine Ze (by simp [bV,c9,c9M,eq_true c13,c15,c15M,eq_true c21]) ?_;refine Zh ?_;refine Zb ?_;obtain ⟨x22,hx22,hr⟩:=bs hr;obtain ⟨hx22a,hx22b⟩:=Zz hx22;have hx22c:=Zq hx22b;by_cases c23 : x22 = 12
     ·skip
      rw [if_neg] at hr;rotate_left
      ·simp [c9,c9M,eq_true c13,c15,c15M,eq_true c21,eq_true c23]
      obtain ⟨z24,hz24,hr⟩:=bs hr;obtain ⟨x25,hx25,hz24⟩:=bs hz24;obtain ⟨hx25a,hx25b⟩:=Zz hx25;have hx25c:=Zq hx25b;obtain rfl:=Option.some.inj hz24;refine Za rfl (by simp [hx22a,hx22b,hx22c,hx25a,hx25b,hx25c,c9,c9M,eq_true c13,c15,c15M,eq_true c21,eq_true c23]; rfl) ?_;by_cases c26 : x25 = 3
      ·skip
       rw [if_neg] at hr;rotate_left
       ·simp [c9,c9M,eq_true c13,c15,c15M,eq_true c21,eq_true c23,eq_true c26]
       refine Ze (by simp [bV,c9,c9M,eq_true c13,c15,c15M,eq_true c21,eq_true c23,eq_true c26]) ?_;refine Zh ?_;refine Za rfl (by simp [c9,c9M,eq_true c13,c15,c15M,eq_true c21,eq_true c23,eq_true c26]; rfl) ?_;refine Zi ?_;obtain rfl:=Option.some.inj hr;simp [Zj,c9,c9M,eq_true c13,c15,c15M,eq_true c21,eq_true c23,eq_true c26,c9N,c15N]
      ·skip
       rw [if_pos] at hr;rotate_left
       ·simp [c9,c9M,eq_true c13,c15,c15M,eq_true c21,eq_true c23,c26]
       refine Zd (by simp [bV,c9,c9M,eq_true c13,c15,c15M,eq_true c21,eq_true c23,c26]) ?_;refine Zb ?_;refine Za rfl (by simp [c9,c9M,eq_true c13,c15,c15M,eq_true c21,eq_true c23,c26]; rfl) ?_;refine Zn ?_;obtain rfl:=Option.some.inj hr;simp [Zj,c9,c9M,eq_true c13,c15,c15M,eq_true c21,eq_true c23,c26,c9N,c15N]
     ·skip
      obtain ⟨hx22a,hx22b⟩:=Zz hx22;have hx22c:=Zq hx22b;by_cases c27 : x22 = 13
      ·skip
       rw [if_neg] at hr;rotate_left
       ·simp [c9,c9M,eq_true c13,c15,c15M,eq_true c21,c23,eq_true c27]
       obtain ⟨z28,hz28,hr⟩:=bs hr;obtain ⟨x29,hx29,hz28⟩:=bs hz28;obtain ⟨hx29a,hx29b⟩:=Zz hx29;have hx29c:=Zq hx29b;obtain rfl:=Option.some.inj hz28;refine Za rfl (by simp [hx22a,hx22b,hx22c,hx29a,hx29b,hx29c,c9,c9M,eq_true c13,c15,c15M,eq_true c21,c23,eq_true c27]; rfl) ?_;by_cases c30 : x29 = 3
       ·skip
        rw [if_neg] at hr;rotate_left
        ·simp [c9,c9M,eq_true c13,c15,c15M,eq_true c21,c23,eq_true c27,eq_true c30]
        refine Ze (by simp [bV,c9,c9M,eq_true c13,c15,c15M,eq_true c21,c23,eq_true c27,eq_true c30]) ?_;refine Zh ?_;refine Za rfl (by simp [c9,c9M,eq_true c13,c15,c15M,eq_true c21,c23,eq_true c27,eq_true c30]; rfl) ?_;refine Zi ?_;obtain rfl:=Option.some.inj hr;simp [Zj,c9,c9M,eq_true c13,c15,c15M,eq_true c21,c23,eq_true c27,eq_true c30,c9N,c15N]
       ·skip
        rw [if_pos] at hr;rotate_left
        ·simp [c9,c9M,eq_true c13,c15,c15M,eq_true c21,c23,eq_true c27,c30]
        refine Zd (by simp [bV,c9,c9M,eq_true c13,c15,c15M,eq_true c21,c23,eq_true c27,c30]) ?_;refine Zb ?_;refine Za rfl (by simp [c9,c9M,eq_true c13,c15,c15M,eq_true c21,c23,eq_true c27,c30]; rfl) ?_;refine Zn ?_;obtain rfl:=Option.some.inj hr;simp [Zj,c9,c9M,eq_true c13,c15,c15M,eq_true c21,c23,eq_true c27,c30,c9N,c15N]
      ·skip
       rw [if_pos] at hr;rotate_left
       ·simp [c9,c9M,eq_true c13,c15,c15M,eq_true c21,c23,c27]
       obtain ⟨z31,hz31,hr⟩:=bs hr;obtain rfl:=Option.some.inj hz31;refine Za rfl (by simp [hx22a,hx22b,hx22c,c9,c9M,eq_true c13,c15,c15M,eq_true c21,c23,c27]; rfl) ?_;rw [if_pos] at hr;rotate_left
       ·simp [c9,c9M,eq_true c13,c15,c15M,eq_true c21,c23,c27]
       refine Zd (by simp [bV,c9,c9M,eq_true c13,c15,c15M,eq_true c21,c23,c27]) ?_;refine Zb ?_;refine Za rfl (by simp [c9,c9M,eq_true c13,c15,c15M,eq_true c21,c23,c27]; rfl) ?_;refine Zn ?_;obtain rfl:=Option.some.inj hr;simp [Zj,c9,c9M,eq_true c13,c15,c15M,eq_true c21,c23,c27,c9N,c15N]
    ·skip
     rw [if_pos c21] at hr;refine Zd (by simp [bV,c9,c9M,eq_true c13,c15,c15M,c21]) ?_;refine Zb ?_;refine Za rfl (by simp [c9,c9M,eq_true c13,c15,c15M,c21]; rfl) ?_;refine Zn ?_;obtain rfl:=Option.some.inj hr;simp [Zj,c9,c9M,eq_true c13,c15,c15M,c21,c9N,c15N]
  ·skip
   rw [if_pos] at hr;rotate_left
   ·simp [c9,c9M,c13]
   refine Zd (by simp [bV,c9,c9M,c13]) ?_;refine Zb ?_;refine Za rfl (by simp [c9,c9M,c13]; rfl) ?_;refine Zn ?_;obtain rfl:=Option.some.inj hr;simp [Zj,c9,c9M,c13,c9N]
def kp46 : Keep:=fun i=>if i = 3 then ⟨[2,3,7,8],[2,3],[]⟩ else ⟨[],[],[]⟩
theorem w46 {T : Tab} (a0 : (Arr 32)) (x : (Arr 4)) (hr : Yy a0 = some x) : ∃ kp fl n,Zt tt T G kp fl n Tryz.f46 (E46 a0) = some (R46 a0 x):=by
 simp only [E46,R46];refine fnE (kp:=kp46) (w:=false) body46 (by simp) ?_;unfold c46;rw [Tryz.ntmps46];unfold Yy at hr;refine Za rfl (by simp []; rfl) ?_;refine Za rfl (by simp []; rfl) ?_;refine Zb ?_;refine Za rfl (by simp []; rfl) ?_;refine Zg ?_;refine ZJ (kq:=⟨[2,3,7,8],[2,3],[]⟩) (H:=fun (s : Int×(Arr 4))=>match s with | (p6,p7)=>(⟨(und 2++([.ptr 2 0 0 0 4,.ptr 3 0 0 0 4]++(und 3++([.agg (arC .u8 a0),.one (.v (.int .i64 p6))]++(und 17)))) : List PV),([(2,⟨0,4,[arC .u64 (zA 4)],false,false⟩),(3,⟨0,4,[arC .u64 p7],false,false⟩)] : Boxes)⟩ : ASt)) (by kernel_rfl) hr (by simp [und,List.replicate,]) ?_;rintro ⟨p6,p7⟩ x22r hr22
 simp only [Xm] at hr22;unfold b46_1;simp only [und,List.replicate,List.cons_append,List.nil_append];refine Za rfl (by simp []; rfl) ?_;by_cases c23 : p6 < 32
 ·skip
  rw [if_pos] at hr22;rotate_left
  ·simp [c23]
  refine Zd (by simp [bV,c23]) ?_;refine Zh ?_;refine Zg ?_;obtain ⟨j24,hj24,hr22⟩:=bs hr22;obtain ⟨j24a,j24b,j24c⟩:=Yc hj24;have j24d : j24≤31:=by omega
  have ar25:=YZ (k:=.u8) (a0) (i:=j24) j24c;have as26:=Xf (k:=.u8) (a0) (i:=j24) j24c;refine Za rfl (by simp [j24a,j24b,j24c,j24d,ar25,as26,c23]; rfl) ?_;refine Za rfl (by simp [c23]; rfl) ?_;obtain ⟨j27,hj27,hr22⟩:=bs hr22;obtain ⟨j27a,j27b,j27c⟩:=Yc hj27;have j27d : j27≤3:=by omega
  have ar28:=YZ (k:=.u64) (p7) (i:=j27) j27c;have as29:=Xf (k:=.u64) (p7) (i:=j27) j27c;obtain ⟨j27a,j27b,j27c⟩:=Yc hj27;have j27d : j27≤3:=by omega
  have ap30:=Zac (k:=.u64) (p7) (i:=j27) j27c (bits .or .u64 (IntKind.u64.wrap ((p7.at j27) * 256)) (IntKind.u64.wrap (a0.at j24)));refine ZA rfl (by simp [j27a,j27b,j27c,j27d,ar28,as29,ap30,c23]; rfl) ?_;simp only [pq,reduceCtorEq];refine ZA rfl (by simp [c23]; rfl) ?_;obtain rfl:=Option.some.inj hr22;simp only [pq,reduceCtorEq];simp [und,List.replicate,Nat.add_assoc,c23]
 ·skip
  rw [if_neg] at hr22;rotate_left
  ·simp [c23]
  refine Ze (by simp [bV,c23]) ?_;refine Zr ?_;obtain ⟨r31,q31,rfl⟩:=ms hr22;simp only [pq,reduceCtorEq];rintro rfl
  try simp only [pq,reduceCtorEq]
  unfold Zb0 at q31;refine Za rfl (by simp [c23]; rfl) ?_;refine Zi ?_;obtain rfl:=Option.some.inj q31;simp [Zj,c23]
def kp19 : Keep:=fun i=>if i = 5 then ⟨[0,7],[],[]⟩ else if i = 14 then ⟨[8,10,11,47,48,49],[69],[(11,none,69,4)]⟩ else ⟨[],[],[]⟩
theorem w19 {T : Tab} (hO : T.own = fun _=>[]) (hT44 : T 44 = some G44) (hT45 : T 45 = some G45) (hT46 : T 46 = some G46) (a0 : (List Int)) (x : (List (Arr 4))×Int×Bool) (hr : XH a0 = some x) : ∃ kp fl n,Zt tt T G kp fl n Tryz.f19 (E19 a0) = some (R19 a0 x):=by
 simp only [E19,R19];refine fnE (kp:=kp19) (w:=false) body19 (by simp) ?_;unfold c19;rw [Tryz.ntmps19];unfold XH at hr;refine Za rfl (by simp []; rfl) ?_;refine Zb ?_;obtain ⟨y37,hy37,hr⟩:=bs hr;have ehy37:=ZpI hy37;simp only [E44,R44,nf,nfs] at ehy37;refine Za rfl (by simp [hO,hT44,ehy37]; rfl) ?_;refine Zb ?_;refine Za rfl (by simp []; rfl) ?_;by_cases c38 : y37.2 = 0
 ·skip
  rw [if_neg (not_not_intro c38)] at hr;refine Ze (by simp [bV,eq_true c38]) ?_;refine Zh ?_;refine Zb ?_;obtain ⟨y39,hy39,hr⟩:=bs hr;have ehy39:=ZpJ hy39;simp only [E45,R45,nf,nfs] at ehy39;refine Za rfl (by simp [hO,hT45,ehy39,eq_true c38]; rfl) ?_;refine Zg ?_;refine ZJ (kq:=⟨[0,7],[],[]⟩) (H:=fun (s : (List Int)×Int)=>match s with | (p9,p10)=>(⟨([.one (.slice .no (Zl .u8 p9))]++(und 6++([.one (.v (.int .i64 p10))]++(und 99))) : List PV),([] : Boxes)⟩ : ASt)) (by kernel_rfl) hr (by simp [und,List.replicate,eq_true c38]) ?_;rintro ⟨p9,p10⟩ x46r hr46
  simp only [Lpartial_Keys_s1] at hr46;unfold b19_1;simp only [und,List.replicate,List.cons_append,List.nil_append];refine Zb ?_;refine Za rfl (by simp [eq_true c38]; rfl) ?_;by_cases c47 : 0 < p10
  ·skip
   rw [if_pos] at hr46;rotate_left
   ·simp [eq_true c38,c47]
   refine Zd (by simp [bV,eq_true c38,c47]) ?_;refine Zh ?_;refine Zg ?_;obtain ⟨_,u48,hr46⟩:=bs hr46;obtain ⟨u48_0,u48_1⟩:=ZD u48;have sf49 : (p10).toNat≤p9.length:=by omega
   refine ZA rfl (by simp [u48_0,u48_1,sf49,eq_true c38,c47]; rfl) ?_;simp only [pq,reduceCtorEq];obtain ⟨y50,hy50,hr46⟩:=bs hr46;have ehy50:=ZpJ hy50;simp only [E45,R45,nf,nfs] at ehy50;refine ZA rfl (by simp [hO,hT45,ehy50,eq_true c38,c47]; rfl) ?_;obtain rfl:=Option.some.inj hr46;simp only [pq,reduceCtorEq];simp [und,List.replicate,Nat.add_assoc,hO,hT45,ehy50,eq_true c38,c47]
  ·skip
   rw [if_neg] at hr46;rotate_left
   ·simp [eq_true c38,c47]
   refine Ze (by simp [bV,eq_true c38,c47]) ?_;refine Zr ?_;obtain ⟨r51,q51,rfl⟩:=ms hr46;simp only [pq,reduceCtorEq];rintro rfl
   try simp only [pq,reduceCtorEq]
   unfold ZcG at q51;obtain ⟨y52,hy52,q51⟩:=bs q51;have ehy52:=ZpI hy52;simp only [E44,R44,nf,nfs] at ehy52;refine Za rfl (by simp [hO,hT44,ehy52,eq_true c38,c47]; rfl) ?_;refine Zb ?_;by_cases c53 : y52.2 = 0
   ·skip
    refine Za rfl (by simp [eq_true c38,c47,eq_true c53]; rfl) ?_;by_cases c54 : (y52.1.length : Int) < 2
    ·skip
     have c54N:=c54;try simp at c54N
     first | have c54M : (_ = _) = True:=eq_true c54N | have c54M:=c54N
     rw [if_pos] at q51;rotate_left
     ·simp [eq_true c38,c47,eq_true c53,c54,c54M]
     refine Zd (by simp [bV,eq_true c38,c47,eq_true c53,c54,c54M]) ?_;refine Zb ?_;refine Za rfl (by simp [eq_true c38,c47,eq_true c53,c54,c54M]; rfl) ?_;refine Zn ?_;obtain rfl:=Option.some.inj q51;simp [Zj,eq_true c38,c47,eq_true c53,c54,c54M,c54N]
    ·skip
     have c54N:=c54;try simp at c54N
     first | have c54M : (_ = _) = True:=eq_true c54N | have c54M:=c54N
     rw [if_neg] at q51;rotate_left
     ·simp [eq_true c38,c47,eq_true c53,c54,c54M]
     refine Ze (by simp [bV,eq_true c38,c47,eq_true c53,c54,c54M]) ?_;refine Zh ?_;refine Za rfl (by simp [eq_true c38,c47,eq_true c53,c54,c54M]; rfl) ?_;refine Za rfl (by simp [eq_true c38,c47,eq_true c53,c54,c54M]; rfl) ?_;refine Zb ?_;obtain ⟨_,u55,q51⟩:=bs q51;obtain ⟨u55_0,u55_1⟩:=ZD u55;have sf56 : (IntKind.i64.wrap ((y52.1.length : Int) - 1)).toNat≤y52.1.length:=by omega
     have sf57 : 0≤IntKind.i64.wrap ((y52.1.length : Int) - 1):=by omega
     refine Za rfl (by simp [u55_0,u55_1,sf56,sf57,eq_true c38,c47,eq_true c53,c54,c54M]; rfl) ?_;refine Zg ?_;refine ZJ (kq:=⟨[8,10,11,47,48,49],[69],[(11,none,69,4)]⟩) (H:=fun (s : Int×(List (Arr 4)))=>match s with | (p24,p25)=>(⟨(und 8++([.one (.slice .no (List.map XS y52.1))]++(und 1++([.one (.v (.int .i64 (IntKind.i64.wrap ((y52.1.length : Int) - 1)))),.one (.ms 69 0 0 (p25.length) 4)]++(und 35++([.one (.slice .no (List.map XS ((y52.1).take ((IntKind.i64.wrap ((y52.1.length : Int) - 1)).toNat)))),.one (.v (.int .i64 (((y52.1).take ((IntKind.i64.wrap ((y52.1.length : Int) - 1)).toNat)).length : Int))),.one (.v (.int .i64 p24))]++(und 57)))))) : List PV),([(69,⟨0,4,List.map (arC .u64) p25,false,true⟩)] : Boxes)⟩ : ASt)) (by kernel_rfl) q51 (by simp [und,List.replicate,sf56,sf57,eq_true c38,c47,eq_true c53,c54,c54M]) ?_;rintro ⟨p24,p25⟩ x68r hr68
     simp only [ZcF] at hr68;unfold b19_2;simp only [und,List.replicate,List.cons_append,List.nil_append];refine Za rfl (by simp [eq_true c38,c47,eq_true c53,c54,c54M]; rfl) ?_;by_cases c69 : p24 < (((y52.1).take ((IntKind.i64.wrap ((y52.1.length : Int) - 1)).toNat)).length : Int)
     ·skip
      have c69N:=c69;try simp at c69N
      first | have c69M : (_ = _) = True:=eq_true c69N | have c69M:=c69N
      rw [if_pos] at hr68;rotate_left
      ·simp [eq_true c38,c47,eq_true c53,c54,c54M,c69,c69M]
      refine Zd (by simp [bV,eq_true c38,c47,eq_true c53,c54,c54M,c69,c69M]) ?_;refine Zh ?_;refine Zg ?_;obtain ⟨x70,hx70,hr68⟩:=bs hr68;obtain ⟨hx70a,hx70b⟩:=Zz hx70;have hx70c:=Zq hx70b;have hx70t:=ZqB hx70b;have hx70u:=Zq hx70t;refine Za rfl (by simp [hx70a,hx70b,hx70c,hx70t,hx70u,eq_true c38,c47,eq_true c53,c54,c54M,c69,c69M]; rfl) ?_;refine Zb ?_;by_cases c71 : x70.1 = 1
      ·skip
       refine Za rfl (by simp [eq_true c38,c47,eq_true c53,c54,c54M,c69,c69M,eq_true c71]; rfl) ?_;by_cases c72 : (x70.2.1.length : Int) = 32
       ·skip
        have c72N:=c72;try simp at c72N
        rw [if_neg] at hr68;rotate_left
        ·simp [eq_true c38,c47,eq_true c53,c54,c54M,c69,c69M,eq_true c71,eq_true c72,eq_true c72N]
        refine Ze (by simp [bV,eq_true c38,c47,eq_true c53,c54,c54M,c69,c69M,eq_true c71,eq_true c72,eq_true c72N]) ?_;refine Zh ?_;obtain ⟨_,u73,hr68⟩:=bs hr68;have u73_0:=ZD u73;have fp74:=ZiX (k:=.u8) (l:=x70.2.1) (o:=0) (n:=32) (by simpa using u73_0);simp only [List.drop_zero,Nat.zero_add,ZcA,Zeo] at fp74;obtain ⟨y75,hy75,hr68⟩:=bs hr68;have ehy75:=Zm7 hy75;simp only [E46,R46,nf,nfs] at ehy75;obtain ⟨_,u76,hr68⟩:=bs hr68;have u76_0:=ZD u76;have n1_u76_0 : (p25.length + 1) * 32≤140737488355328:=by omega
        have n2_u76_0 : p25.length + 1≤9223372036854775807:=by omega
        refine ZA rfl (by simp [u73_0,fp74,hO,hT46,ehy75,n1_u76_0,n2_u76_0,eq_true c38,c47,eq_true c53,c54,c54M,c69,c69M,eq_true c71,eq_true c72,eq_true c72N]; rfl) ?_;simp only [pq,reduceCtorEq];refine ZA rfl (by simp [eq_true c38,c47,eq_true c53,c54,c54M,c69,c69M,eq_true c71,eq_true c72,eq_true c72N]; rfl) ?_;obtain rfl:=Option.some.inj hr68;simp only [pq,reduceCtorEq];simp [und,List.replicate,Nat.add_assoc,eq_true c38,c47,eq_true c53,c54,c54M,c69,c69M,eq_true c71,eq_true c72,eq_true c72N]
       ·skip
        have c72N:=c72;try simp at c72N
        first | have c72M : (_ = _) = True:=eq_true c72N | have c72M:=c72N
        rw [if_pos] at hr68;rotate_left
        ·simp [eq_true c38,c47,eq_true c53,c54,c54M,c69,c69M,eq_true c71,c72,c72M]
        refine Zd (by simp [bV,eq_true c38,c47,eq_true c53,c54,c54M,c69,c69M,eq_true c71,c72,c72M]) ?_;refine Zb ?_;refine Za rfl (by simp [eq_true c38,c47,eq_true c53,c54,c54M,c69,c69M,eq_true c71,c72,c72M]; rfl) ?_;refine Zn ?_;obtain rfl:=Option.some.inj hr68;simp only [pq,reduceCtorEq];rintro rfl
        simp [Zj,eq_true c38,c47,eq_true c53,c54,c54M,c69,c69M,eq_true c71,c72,c72M,c54N,c69N,c72N]
      ·skip
       refine Za rfl (by simp [eq_true c38,c47,eq_true c53,c54,c54M,c69,c69M,c71]; rfl) ?_;rw [if_pos] at hr68;rotate_left
       ·simp [eq_true c38,c47,eq_true c53,c54,c54M,c69,c69M,c71]
       refine Zd (by simp [bV,eq_true c38,c47,eq_true c53,c54,c54M,c69,c69M,c71]) ?_;refine Zb ?_;refine Za rfl (by simp [eq_true c38,c47,eq_true c53,c54,c54M,c69,c69M,c71]; rfl) ?_;refine Zn ?_;obtain rfl:=Option.some.inj hr68;simp only [pq,reduceCtorEq];rintro rfl
       simp [Zj,eq_true c38,c47,eq_true c53,c54,c54M,c69,c69M,c71,c54N,c69N]
     ·skip
      have c69N:=c69;try simp at c69N
      first | have c69M : (_ = _) = True:=eq_true c69N | have c69M:=c69N
      rw [if_neg] at hr68;rotate_left
      ·simp [eq_true c38,c47,eq_true c53,c54,c54M,c69,c69M]
      refine Ze (by simp [bV,eq_true c38,c47,eq_true c53,c54,c54M,c69,c69M]) ?_;refine Zr ?_;obtain ⟨r77,q77,rfl⟩:=ms hr68;simp only [pq,reduceCtorEq];rintro rfl
      try simp only [pq,reduceCtorEq]
      unfold ZcE at q77;refine Zg ?_;obtain ⟨x78,hx78,q77⟩:=bs q77;obtain ⟨hx78a,hx78b⟩:=Zz hx78;have hx78c:=Zq hx78b;by_cases c79 : x78.1 = 10
      ·skip
       refine Za rfl (by simp [hx78a,hx78b,hx78c,eq_true c38,c47,eq_true c53,c54,c54M,c69,c69M,eq_true c79]; rfl) ?_;by_cases c80 : (p25.length : Int) = 1
       ·skip
        have c80N:=c80;try simp at c80N
        rw [if_pos] at q77;rotate_left
        ·simp [eq_true c38,c47,eq_true c53,c54,c54M,c69,c69M,eq_true c79,eq_true c80,eq_true c80N]
        refine Zp (by simp [bV,eq_true c38,c47,eq_true c53,c54,c54M,c69,c69M,eq_true c79,eq_true c80,eq_true c80N]) ?_;refine Za rfl (by simp [eq_true c38,c47,eq_true c53,c54,c54M,c69,c69M,eq_true c79,eq_true c80,eq_true c80N]; rfl) ?_;refine Zi ?_;obtain rfl:=Option.some.inj q77;simp [Zj,eq_true c38,c47,eq_true c53,c54,c54M,c69,c69M,eq_true c79,eq_true c80,eq_true c80N,c54N,c69N]
       ·skip
        have c80N:=c80;try simp at c80N
        first | have c80M : (_ = _) = True:=eq_true c80N | have c80M:=c80N
        rw [if_neg] at q77;rotate_left
        ·simp [eq_true c38,c47,eq_true c53,c54,c54M,c69,c69M,eq_true c79,c80,c80M]
        refine Zy (by simp [bV,eq_true c38,c47,eq_true c53,c54,c54M,c69,c69M,eq_true c79,c80,c80M]) ?_;obtain ⟨hx78a,hx78b⟩:=Zz hx78;have hx78c:=Zq hx78b;by_cases c81 : x78.1 = 11
        ·skip
         obtain ⟨hx78a,hx78b⟩:=Zz hx78;have hx78c:=Zq hx78b;refine Za rfl (by simp [hx78a,hx78b,hx78c,eq_true c38,c47,eq_true c53,c54,c54M,c69,c69M,eq_true c79,c80,c80M,eq_true c81]; rfl) ?_;by_cases c82 : x78.2.2.2 = (p25.length : Int)
         ·skip
          have c82N:=c82;try simp at c82N
          rw [if_pos] at q77;rotate_left
          ·simp [eq_true c38,c47,eq_true c53,c54,c54M,c69,c69M,eq_true c79,c80,c80M,eq_true c81,eq_true c82,eq_true c82N]
          refine Zp (by simp [bV,eq_true c38,c47,eq_true c53,c54,c54M,c69,c69M,eq_true c79,c80,c80M,eq_true c81,eq_true c82,eq_true c82N]) ?_;obtain ⟨hx78a,hx78b⟩:=Zz hx78;have hx78c:=Zq hx78b;refine ZC rfl (by simp [hx78a,hx78b,hx78c,eq_true c38,c47,eq_true c53,c54,c54M,c69,c69M,eq_true c79,c80,c80M,eq_true c81,eq_true c82,eq_true c82N]; first | exact ⟨rfl,rfl⟩ | rfl) (by kernel_rfl) ?_;refine Zi ?_;obtain rfl:=Option.some.inj q77;simp [Zj,hx78a,hx78b,hx78c,eq_true c38,c47,eq_true c53,c54,c54M,c69,c69M,eq_true c79,c80,c80M,eq_true c81,eq_true c82,eq_true c82N,c54N,c69N,c80N]
         ·skip
          have c82N:=c82;try simp at c82N
          first | have c82M : (_ = _) = True:=eq_true c82N | have c82M:=c82N
          rw [if_neg] at q77;rotate_left
          ·simp [eq_true c38,c47,eq_true c53,c54,c54M,c69,c69M,eq_true c79,c80,c80M,eq_true c81,c82,c82M]
          refine Zy (by simp [bV,eq_true c38,c47,eq_true c53,c54,c54M,c69,c69M,eq_true c79,c80,c80M,eq_true c81,c82,c82M]) ?_;refine ZV ?_;simp only [pq,reduceCtorEq];refine Za rfl (by simp [eq_true c38,c47,eq_true c53,c54,c54M,c69,c69M,eq_true c79,c80,c80M,eq_true c81,c82,c82M]; rfl) ?_;refine Zi ?_;obtain rfl:=Option.some.inj q77;simp [Zj,eq_true c38,c47,eq_true c53,c54,c54M,c69,c69M,eq_true c79,c80,c80M,eq_true c81,c82,c82M,c54N,c69N,c80N,c82N]
        ·skip
         refine Za rfl (by simp [hx78a,hx78b,hx78c,eq_true c38,c47,eq_true c53,c54,c54M,c69,c69M,eq_true c79,c80,c80M,c81]; rfl) ?_;rw [if_neg] at q77;rotate_left
         ·simp [eq_true c38,c47,eq_true c53,c54,c54M,c69,c69M,eq_true c79,c80,c80M,c81]
         refine Zy (by simp [bV,eq_true c38,c47,eq_true c53,c54,c54M,c69,c69M,eq_true c79,c80,c80M,c81]) ?_;refine ZV ?_;simp only [pq,reduceCtorEq];refine Za rfl (by simp [eq_true c38,c47,eq_true c53,c54,c54M,c69,c69M,eq_true c79,c80,c80M,c81]; rfl) ?_;refine Zi ?_;obtain rfl:=Option.some.inj q77;simp [Zj,eq_true c38,c47,eq_true c53,c54,c54M,c69,c69M,eq_true c79,c80,c80M,c81,c54N,c69N,c80N]
      ·skip
       refine Za rfl (by simp [hx78a,hx78b,hx78c,eq_true c38,c47,eq_true c53,c54,c54M,c69,c69M,c79]; rfl) ?_;rw [if_neg] at q77;rotate_left
       ·simp [eq_true c38,c47,eq_true c53,c54,c54M,c69,c69M,c79]
       refine Zy (by simp [bV,eq_true c38,c47,eq_true c53,c54,c54M,c69,c69M,c79]) ?_;obtain ⟨hx78a,hx78b⟩:=Zz hx78;have hx78c:=Zq hx78b;by_cases c83 : x78.1 = 11
       ·skip
        obtain ⟨hx78a,hx78b⟩:=Zz hx78;have hx78c:=Zq hx78b;refine Za rfl (by simp [hx78a,hx78b,hx78c,eq_true c38,c47,eq_true c53,c54,c54M,c69,c69M,c79,eq_true c83]; rfl) ?_;by_cases c84 : x78.2.2.2 = (p25.length : Int)
        ·skip
         have c84N:=c84;try simp at c84N
         rw [if_pos] at q77;rotate_left
         ·simp [eq_true c38,c47,eq_true c53,c54,c54M,c69,c69M,c79,eq_true c83,eq_true c84,eq_true c84N]
         refine Zp (by simp [bV,eq_true c38,c47,eq_true c53,c54,c54M,c69,c69M,c79,eq_true c83,eq_true c84,eq_true c84N]) ?_;obtain ⟨hx78a,hx78b⟩:=Zz hx78;have hx78c:=Zq hx78b;refine ZC rfl (by simp [hx78a,hx78b,hx78c,eq_true c38,c47,eq_true c53,c54,c54M,c69,c69M,c79,eq_true c83,eq_true c84,eq_true c84N]; first | exact ⟨rfl,rfl⟩ | rfl) (by kernel_rfl) ?_;refine Zi ?_;obtain rfl:=Option.some.inj q77;simp [Zj,hx78a,hx78b,hx78c,eq_true c38,c47,eq_true c53,c54,c54M,c69,c69M,c79,eq_true c83,eq_true c84,eq_true c84N,c54N,c69N]
        ·skip
         have c84N:=c84;try simp at c84N
         first | have c84M : (_ = _) = True:=eq_true c84N | have c84M:=c84N
         rw [if_neg] at q77;rotate_left
         ·simp [eq_true c38,c47,eq_true c53,c54,c54M,c69,c69M,c79,eq_true c83,c84,c84M]
         refine Zy (by simp [bV,eq_true c38,c47,eq_true c53,c54,c54M,c69,c69M,c79,eq_true c83,c84,c84M]) ?_;refine ZV ?_;simp only [pq,reduceCtorEq];refine Za rfl (by simp [eq_true c38,c47,eq_true c53,c54,c54M,c69,c69M,c79,eq_true c83,c84,c84M]; rfl) ?_;refine Zi ?_;obtain rfl:=Option.some.inj q77;simp [Zj,eq_true c38,c47,eq_true c53,c54,c54M,c69,c69M,c79,eq_true c83,c84,c84M,c54N,c69N,c84N]
       ·skip
        refine Za rfl (by simp [hx78a,hx78b,hx78c,eq_true c38,c47,eq_true c53,c54,c54M,c69,c69M,c79,c83]; rfl) ?_;rw [if_neg] at q77;rotate_left
        ·simp [eq_true c38,c47,eq_true c53,c54,c54M,c69,c69M,c79,c83]
        refine Zy (by simp [bV,eq_true c38,c47,eq_true c53,c54,c54M,c69,c69M,c79,c83]) ?_;refine ZV ?_;simp only [pq,reduceCtorEq];refine Za rfl (by simp [eq_true c38,c47,eq_true c53,c54,c54M,c69,c69M,c79,c83]; rfl) ?_;refine Zi ?_;obtain rfl:=Option.some.inj q77;simp [Zj,eq_true c38,c47,eq_true c53,c54,c54M,c69,c69M,c79,c83,c54N,c69N]
   ·skip
    refine Za rfl (by simp [eq_true c38,c47,c53]; rfl) ?_;rw [if_pos] at q51;rotate_left
    ·simp [eq_true c38,c47,c53]
    refine Zd (by simp [bV,eq_true c38,c47,c53]) ?_;refine Zb ?_;refine Za rfl (by simp [eq_true c38,c47,c53]; rfl) ?_;refine Zn ?_;obtain rfl:=Option.some.inj q51;simp [Zj,eq_true c38,c47,c53]
 ·skip
  rw [if_pos c38] at hr;refine Zd (by simp [bV,c38]) ?_;refine Zb ?_;refine Za rfl (by simp [c38]; rfl) ?_;refine Zn ?_;obtain rfl:=Option.some.inj hr;simp [Zj,c38]
def kp20 : Keep:=fun i=>⟨[],[],[]⟩
theorem w20 {T : Tab} (hO : T.own = fun _=>[]) (hT47 : T 47 = some G47) (a0 : (List Int)) (a1 : (List Int)) (x : (List Int)) (hr : Zah a0 a1 = some x) : ∃ kp fl n,Zt tt T G kp fl n Tryz.f20 (E20 (a0,a1)) = some (R20 (a0,a1) x):=by
 simp only [E20,R20];refine fnE (kp:=kp20) (w:=true) body20 (by simp) ?_;unfold c20;rw [Tryz.ntmps20];unfold Zah at hr;refine Za rfl (by simp []; rfl) ?_;obtain ⟨y2,hy2,hr⟩:=bs hr;have ehy2:=ZkV hy2;simp only [E47,R47,nf,nfs] at ehy2;refine Za rfl (by simp [List.range,List.range.loop,hO,hT47,ehy2]; rfl) ?_;refine Zi ?_;obtain rfl:=Option.some.inj hr;simp [Zj,List.range,List.range.loop,hO,hT47,ehy2]
def kp5 : Keep:=fun i=>⟨[],[],[]⟩
theorem w5 {T : Tab} (hO : T.own = fun _=>[]) (hT17 : T 17 = some G17) (hT18 : T 18 = some G18) (hT19 : T 19 = some G19) (hT20 : T 20 = some G20) (x : Bool) (hr : Llaw35_sane  = some x) : ∃ kp fl n,Zt tt T G kp fl n Tryz.f5 (E5 ()) = some (R5 () x):=by
 simp only [E5,R5];refine fnE (kp:=kp5) (w:=false) body5 (by simp) ?_;unfold c5;rw [Tryz.ntmps5];unfold Llaw35_sane at hr;refine Za rfl (by simp []; rfl) ?_;obtain ⟨y11,hy11,hr⟩:=bs hr;have ehy11:=Zd4 hy11;simp only [E18,R18,nf,nfs] at ehy11;obtain ⟨y12,hy12,hr⟩:=bs hr;have ehy12:=Zd4 hy12;simp only [E18,R18,nf,nfs] at ehy12;obtain ⟨y13,hy13,hr⟩:=bs hr;have ehy13:=Zd4 hy13;simp only [E18,R18,nf,nfs] at ehy13;obtain ⟨y14,hy14,hr⟩:=bs hr;have ehy14:=ZpH hy14;simp only [E17,R17,nf,nfs] at ehy14;refine Za rfl (by simp [hO,hT18,ehy11,ehy12,ehy13,List.range,List.range.loop,hT17,ehy14]; rfl) ?_;obtain ⟨y15,hy15,hr⟩:=bs hr;have ehy15:=ZpK hy15;simp only [E19,R19,nf,nfs] at ehy15;refine Za rfl (by simp [hO,hT19,ehy15]; rfl) ?_;obtain ⟨y16,hy16,hr⟩:=bs hr;have ehy16:=ZsM hy16;simp only [E20,R20,nf,nfs] at ehy16;obtain ⟨y17,hy17,hr⟩:=bs hr;have ehy17:=ZpK hy17;simp only [E19,R19,nf,nfs] at ehy17;refine Za rfl (by simp [hO,hT20,ehy16,hT19,ehy17]; rfl) ?_;by_cases c18 : y15.2.2 = true
 ·skip
  by_cases c19 : y15.2.1 = 2
  ·skip
   by_cases c20 : (y15.1.length : Int) = 3
   ·skip
    have c20N:=c20;try simp at c20N
    rw [if_pos] at hr;rotate_left
    ·simp [c18,eq_true c19,eq_true c20,eq_true c20N]
    obtain ⟨z21,hz21,hr⟩:=bs hr;obtain ⟨x22,hx22,hz21⟩:=bs hz21;have hx22c:=Zq hx22;obtain ⟨y23,hy23,hz21⟩:=bs hz21;obtain rfl : y13 = y23:=Option.some.inj (hy13.symm.trans hy23);have ehy23:=Zd4 hy23;simp only [E18,R18,nf,nfs] at ehy23;obtain rfl:=Option.some.inj hz21;by_cases c24 : x22 = y13
    ·skip
     refine ZC rfl (by simp [hx22,hx22c,hO,hT18,ehy23,c18,eq_true c19,eq_true c20,eq_true c20N,eq_true c24]; first | exact ⟨rfl,rfl⟩ | rfl) (by kernel_rfl) ?_;refine Zi ?_;obtain rfl:=Option.some.inj hr;simp [Zj,hx22,hx22c,hO,hT18,ehy23,c18,eq_true c19,eq_true c20,eq_true c20N,eq_true c24]
    ·skip
     refine ZC rfl (by simp [hx22,hx22c,hO,hT18,ehy23,c18,eq_true c19,eq_true c20,eq_true c20N,c24]; first | exact ⟨rfl,rfl⟩ | rfl) (by kernel_rfl) ?_;refine Zi ?_;obtain rfl:=Option.some.inj hr;simp [Zj,hx22,hx22c,hO,hT18,ehy23,c18,eq_true c19,eq_true c20,eq_true c20N,c24]
   ·skip
    have c20N:=c20;try simp at c20N
    first | have c20M : (_ = _) = True:=eq_true c20N | have c20M:=c20N
    rw [if_neg] at hr;rotate_left
    ·simp [c18,eq_true c19,c20,c20M]
    obtain ⟨z25,hz25,hr⟩:=bs hr;obtain rfl:=Option.some.inj hz25;refine ZC rfl (by simp [c18,eq_true c19,c20,c20M]; first | exact ⟨rfl,rfl⟩ | rfl) (by kernel_rfl) ?_;refine Zi ?_;obtain rfl:=Option.some.inj hr;simp [Zj,c18,eq_true c19,c20,c20M,c20N]
  ·skip
   rw [if_neg] at hr;rotate_left
   ·simp [c18,c19]
   obtain ⟨z26,hz26,hr⟩:=bs hr;obtain rfl:=Option.some.inj hz26;refine ZC rfl (by simp [c18,c19]; first | exact ⟨rfl,rfl⟩ | rfl) (by kernel_rfl) ?_;refine Zi ?_;obtain rfl:=Option.some.inj hr;simp [Zj,c18,c19]
 ·skip
  rw [if_neg] at hr;rotate_left
  ·simp [c18]
  obtain ⟨z27,hz27,hr⟩:=bs hr;obtain rfl:=Option.some.inj hz27;refine ZC rfl (by simp [c18]; first | exact ⟨rfl,rfl⟩ | rfl) (by kernel_rfl) ?_;refine Zi ?_;obtain rfl:=Option.some.inj hr;simp [Zj,c18]
def kp26 : Keep:=fun i=>if i = 1000004 then ⟨[5],[],[]⟩ else ⟨[],[],[]⟩
theorem w26 {T : Tab} (a0 : Int) (a1 : Int) (x : Int) (hr : XN a0 a1 = some x) : ∃ kp fl n,Zt tt T G kp fl n Tryz.f26 (E26 (a0,a1)) = some (R26 (a0,a1) x):=by
 simp only [E26,R26];refine fnE (kp:=kp26) (w:=false) body26 (by simp) ?_;unfold c26;rw [Tryz.ntmps26];unfold XN at hr;refine Za rfl (by simp []; rfl) ?_;obtain ⟨_,u3,hr⟩:=bs hr;have u3_0:=ZD u3;refine Za rfl (by simp [u3_0]; rfl) ?_;refine Zb ?_;refine Za rfl (by simp []; rfl) ?_;refine Zj8 hr (fun (s : Int)=>match s with | p2=>(⟨(und 5++([.one (.v (.int .i64 p2))]++(und 9)) : List PV),([] : Boxes)⟩ : ASt)) (fun (s : Int)=>match s with | p2=>Zcj p2) ?_ ?_
 ·skip
  rintro p2 hk5
  change Zcj p2 = _ at hk5
  simp only [und,List.replicate,List.cons_append,List.nil_append];unfold Zcj at hk5;refine Zc0 rfl (kq:=⟨[5],[],[]⟩) rfl (by simp [XA,]; rfl) (by simp []; rfl) ?_;refine Zi ?_;obtain rfl:=Option.some.inj hk5;simp [Zj,]
 ·skip
  intro J5;by_cases c6 : (a0).tmod a1 < 0
  ·skip
   rw [if_pos c6] at hr;refine Zd (by simp [bV,c6]) ?_;refine Za rfl (by simp [c6]; rfl) ?_;exact YR (key:=1000004) (kq:=⟨[5],[],[]⟩) rfl rfl rfl (by simp [und,List.replicate,c6]) (J5 (IntKind.i64.wrap (((a0).tmod a1) + a1)) hr)
  ·skip
   rw [if_neg c6] at hr;refine Ze (by simp [bV,c6]) ?_;refine Zh ?_;exact YR (key:=1000004) (kq:=⟨[5],[],[]⟩) rfl rfl rfl (by simp [und,List.replicate,c6]) (J5 ((a0).tmod a1) hr)
def kp50 : Keep:=fun i=>⟨[],[],[]⟩
theorem w50 {T : Tab} (a0 : Tlightclientmill_Deck) (x : Bool×Tlightclientmill_Deck) (hr : XX a0 = some x) : ∃ kp fl n,Zt tt T G kp fl n Tryz.f50 (E50 a0) = some (R50 a0 x):=by
 simp only [E50,R50];refine fnE (kp:=kp50) (w:=false) body50 (by simp) ?_;unfold c50;rw [Tryz.ntmps50];unfold XX at hr;refine Za rfl (by simp []; rfl) ?_;refine ZC rfl (by simp []; first | exact ⟨rfl,rfl⟩ | rfl) (by kernel_rfl) ?_;refine Zi ?_;obtain rfl:=Option.some.inj hr;simp [Zj,]
def kp25 : Keep:=fun i=>⟨[],[],[]⟩
theorem w25 {T : Tab} (hO : T.own = fun _=>[]) (hT26 : T 26 = some G26) (hT50 : T 50 = some G50) (a0 : Tlightclientmill_Deck) (a1 : Int) (x : Int×Tlightclientmill_Deck) (hr : Yh a0 a1 = some x) : ∃ kp fl n,Zt tt T G kp fl n Tryz.f25 (E25 (a0,a1)) = some (R25 (a0,a1) x):=by
 simp only [E25,R25];refine fnE (kp:=kp25) (w:=false) body25 (by simp) ?_;unfold c25;rw [Tryz.ntmps25];unfold Yh at hr;refine Za rfl (by simp []; rfl) ?_;refine Zb ?_;obtain ⟨y4,hy4,hr⟩:=bs hr;have ehy4:=ZsN hy4;simp only [E50,R50,nf,nfs] at ehy4;refine Za rfl (by simp [hO,hT50,ehy4]; rfl) ?_;by_cases c5 : y4.1 = true
 ·skip
  rw [if_neg (not_not_intro c5)] at hr;refine Ze (by simp [bV,c5]) ?_;refine Zh ?_;refine Za rfl (by simp [c5]; rfl) ?_;obtain ⟨x6,hx6,hr⟩:=bs hr;obtain ⟨hx6a,hx6b⟩:=Zz hx6;have hx6c:=Zq hx6b;obtain ⟨y7,hy7,hr⟩:=bs hr;have ehy7:=Zhz hy7;simp only [E26,R26,nf,nfs] at ehy7;refine ZC rfl (by simp [hx6a,hx6b,hx6c,hO,hT26,ehy7,c5]; first | exact ⟨rfl,rfl⟩ | rfl) (by kernel_rfl) ?_;refine Zi ?_;obtain rfl:=Option.some.inj hr;simp [Zj,hx6a,hx6b,hx6c,hO,hT26,ehy7,c5]
 ·skip
  rw [if_pos c5] at hr;refine Zd (by simp [bV,c5]) ?_;refine Zb ?_;refine Za rfl (by simp [c5]; rfl) ?_;refine Zn ?_;obtain rfl:=Option.some.inj hr;simp [Zj,c5]
end Go.Proofs.YtbjhgolpnjokbaaGreat
