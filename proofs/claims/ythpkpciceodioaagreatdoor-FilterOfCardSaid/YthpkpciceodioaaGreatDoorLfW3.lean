import Derived.Test.YthpkpciceodioaaGreatDoorLfK
import Derived.Test.YthpkpciceodioaaGreatDoorCode
import Derived.Test.YthpkpciceodioaaGreatDoorBl
namespace Go.Proofs.YthpkpciceodioaaGreatDoor
open Go.RowKit
open Go.Av
open Go.Lc
set_option maxRecDepth 100000
set_option linter.unusedSimpArgs false
set_option linter.unusedVariables false
set_option maxHeartbeats 4000000
theorem w110:Walk tt G [(157,K157.G),(158,K158.G),(159,K159_1.G),(160,K160_2.G)] (fun d=>if d=44 then [[1]] else if d=47 then [[1]] else if d=51 then [[1]] else []) Tryz.f110 K110:=by
 refine .of [(10,⟨[1,2,6,9,40,41],[6,39,3002496],[]⟩)] false body110 Tryz.ntmps110 fun T hO hT ⟨a0,a1,a2⟩ x hr=>⟨by simp,?_⟩
 simp only [Zi] at hT; simp only at hr ⊢; unfold c110;unfold Zau at hr;refine go ?_;obtain ⟨y16,ehy16,hr⟩:=bN hr ZtL;refine go ?_;by_cases c17:y16=true
 ·replace hr:=ifN hr
  refine go ?_;by_cases c18:a2<0
  ·refine go ?_
   replace hr:=ifP hr
   refine go ?_;exact fin hr
  ·refine go ?_
   by_cases c19:32<a2
   ·replace hr:=ifP hr
    refine go ?_;exact fin hr
   ·replace hr:=ifN hr
    refine go ?_;obtain ⟨_,hr⟩:=bC hr;refine go ?_;by_cases c21:65536<(a1).fdiv (2 ^ (min (a2).toNat 64))
    ·have c21N:=nrm c21
     refine go ?_
     replace hr:=ifP hr
     refine go ?_;exact fin hr
    ·have c21N:=nrm c21
     refine go ?_;by_cases c22:1600000<IntKind.i64.wrap ((IntKind.i64.wrap ((IntKind.i64.wrap (a0.2+(IntKind.i64.wrap ((a1).fdiv (2 ^ (min (a2).toNat 64))))))+1))+a2)
     ·have c22N:=nrm c22
      replace hr:=ifP hr
      refine go ?_;exact fin hr
     ·have c22N:=nrm c22
      replace hr:=ifN hr
      refine go ?_;obtain ⟨_,ehy23,hr⟩:=bN hr ZtM;refine go ?_;refine lp 10 (fun (⟨p9,p10,p11⟩:Int×Int×(List Int))=>⟨(und 1++([.one (.v (.int .u64 a1)),.one (.v (.int .i64 a2))]++(und 3++([.ptr 6 0 0 0 2]++(und 2++([.ptr 39 0 0 0 2]++(und 30++([.one (.v (.int .u64 ((a1).fdiv (2 ^ (min (a2).toNat 64))))),.one (.v (.int .u64 p9))]++(und 14)))))))):List PV),([(6,⟨0,2,[[.slice .nil [],.v (.int .i64 0)]],false,false⟩),(39,⟨0,2,[[.ms 3002496 0 0 (p11.length) 1,.v (.int .i64 p10)]],false,false⟩),(3002496,⟨0,1,Zd .u8 p11,false,true⟩)]:Boxes)⟩) hr ?_;rintro ⟨p9,p10,p11⟩ x28r hr28
      simp only [ZaO] at hr28;unfold b110_1;refine nst ?_;refine go ?_;by_cases c29:p9<(a1).fdiv (2 ^ (min (a2).toNat 64))
      ·have c29N:=nrm c29
       replace hr28:=ifP hr28
       refine go ?_;obtain ⟨_,ehy30,hr28⟩:=bN hr28 ZjV;refine go ?_;exact bk hr28
      ·have c29N:=nrm c29
       replace hr28:=ifN hr28
       refine go ?_;obtain ⟨r31,q31,rfl⟩:=ms hr28;refine go ?_;rintro rfl
       refine go ?_;unfold ZdM at q31;obtain ⟨_,ehy32,q31⟩:=bN q31 ZjV;refine go ?_;obtain ⟨_,ehy33,q31⟩:=bN q31 Zq0;refine go ?_;exact fin q31
 ·replace hr:=ifP hr
  refine go ?_;exact fin hr
theorem w70:Walk tt G [(109,K109.G),(110,K110.G)] (fun _=>[]) Tryz.f70 K70:=by
 refine .of [(10,⟨[0,1,4,6,7,27,28,29],[4,6],[(6,some 0,0,0)]⟩)] false body70 Tryz.ntmps70 fun T hO hT ⟨a0,a1⟩ x hr=>⟨by simp,?_⟩
 simp only [Zi] at hT; simp only at hr ⊢; unfold c70;unfold ZaZ at hr;refine go ?_;by_cases c18:4096<(a0.length:Int)
 ·have c18N:=nrm c18
  replace hr:=ifP hr
  refine go ?_;exact fin hr
 ·have c18N:=nrm c18
  replace hr:=ifN hr
  refine go ?_;by_cases c19:a1<0
  ·refine go ?_
   replace hr:=ifP hr
   refine go ?_;exact fin hr
  ·refine go ?_
   by_cases c20:32<a1
   ·replace hr:=ifP hr
    refine go ?_;exact fin hr
   ·replace hr:=ifN hr
    refine go ?_;obtain ⟨y21,ehy21,hr⟩:=bN hr ZtK;refine go ?_;by_cases c22:y21=true
    ·replace hr:=ifN hr
     refine go ?_;refine lp 10 (fun (⟨p10,p11,p12,p13⟩:Int×Int×(List Int)×Int)=>⟨([.one (.slice .no (Zd .u64 a0)),.one (.v (.int .i64 a1))]++(und 2++([.ptr 4 0 0 0 2]++(und 1++([.ptr 6 0 0 0 2,.one (.v (.int .u64 p10))]++(und 19++([.one (.slice .no (Zd .u64 a0)),.one (.v (.int .i64 (a0.length:Int))),.one (.v (.int .i64 p11))]++(und 24))))))):List PV),([(4,⟨0,2,[[.v (.int .i64 0),.slice .nil []]],false,false⟩),(6,⟨0,2,[[.slice .no (Zd .u8 p12),.v (.int .i64 p13)]],false,false⟩)]:Boxes)⟩) hr ?_;rintro ⟨p10,p11,p12,p13⟩ x29r hr29
     simp only [ZcG] at hr29;unfold b70_1;refine nst ?_;refine go ?_;by_cases c30:p11<(a0.length:Int)
     ·have c30N:=nrm c30
      replace hr29:=ifP hr29
      refine go ?_;obtain ⟨_,⟨_,_,_⟩,hr29⟩:=bI hr29;refine go ?_;obtain ⟨y32,ehy32,hr29⟩:=bN hr29 ZtN;refine go ?_;rcases eqT (y32.2=0) with c33 | c33
      ·replace hr29:=ifN hr29
       refine go ?_;exact bk hr29
      ·replace hr29:=ifP hr29
       refine go ?_;exact fin hr29
     ·have c30N:=nrm c30
      replace hr29:=ifN hr29
      refine go ?_;obtain ⟨r34,q34,rfl⟩:=ms hr29;refine go ?_;rintro rfl
      refine go ?_;unfold ZeB at q34;refine go ?_;exact fin q34
    ·replace hr:=ifP hr
     refine go ?_;exact fin hr
theorem w161:Walk tt G [] (fun _=>[]) Tryz.f161 K161:=by
 refine .of [] false body161 Tryz.ntmps161 fun T hO hT ⟨a0,a1⟩ x hr=>⟨by simp,?_⟩
 simp only [Zi] at hT; simp only at hr ⊢; unfold c161;unfold Za0 at hr;refine go ?_;exact fin hr
theorem w111:Walk tt G [(161,K161.G)] (fun _=>[]) Tryz.f111 K111:=by
 refine .of [] false body111 Tryz.ntmps111 fun T hO hT ⟨a0,a1⟩ x hr=>⟨by simp,?_⟩
 simp only [Zi] at hT; simp only at hr ⊢; unfold c111;unfold ZfG at hr;refine go ?_;obtain ⟨_,ehy2,hr⟩:=bN hr ZoJ;refine go ?_;exact fin hr
theorem w200:Walk tt G [] (fun _=>[]) Tryz.f200 K200:=by
 refine .of [] false body200 Tryz.ntmps200 fun T hO hT ⟨a0,a1⟩ x hr=>⟨by simp,?_⟩
 simp only [Zi] at hT; simp only at hr ⊢; unfold c200;unfold ZI at hr;refine go ?_;obtain ⟨_,hr⟩:=bC hr;obtain ⟨_,hr⟩:=bC hr;refine go ?_;exact fin hr
theorem w163:Walk tt G [(200,K200.G)] (fun _=>[]) Tryz.f163 K163:=by
 refine .of [(2,⟨[2,4,5,6],[2,4],[]⟩)] false body163 Tryz.ntmps163 fun T hO hT ⟨a0,a1⟩ x hr=>⟨by simp,?_⟩
 simp only [Zi] at hT; simp only at hr ⊢; unfold c163;unfold Zdy at hr;refine go ?_;refine lp 2 (fun (⟨p19,p20⟩:Int×(Arr 4))=>⟨(und 2++([.ptr 2 0 0 0 4]++(und 1++([.ptr 4 0 0 0 4,.one (.v (.int .i64 a1)),.one (.v (.int .i64 p19))]++(und 75)))):List PV),([(2,⟨0,4,[arC .u64 p20],false,false⟩),(4,⟨0,4,[arC .u64 (zA 4)],false,false⟩)]:Boxes)⟩) hr ?_;rintro ⟨p19,p20⟩ x106r hr106
 simp only [ZcL] at hr106;unfold b163_1;refine nst ?_;refine go ?_;by_cases c107:p19<a1
 ·replace hr106:=ifP hr106
  refine go ?_;obtain ⟨y115,ehy115,hr106⟩:=bN hr106 Zce;refine go ?_;obtain ⟨y124,ehy124,hr106⟩:=bN hr106 Zce;refine go ?_;obtain ⟨x130,hx130,hr106⟩:=bs hr106;have qhx130:=Option.some.inj hx130;have ap131:=(Xq (k:=.u64) ((((p20.put 0 (IntKind.u64.wrap ((p20.at 0)+(p20.at 1)))).put 1 y115).put 1 (bits .xor .u64 (((p20.put 0 (IntKind.u64.wrap ((p20.at 0)+(p20.at 1)))).put 1 y115).at 1) (((p20.put 0 (IntKind.u64.wrap ((p20.at 0)+(p20.at 1)))).put 1 y115).at 0))).put 0 y124) (i:=2) (by decide) (IntKind.u64.wrap ((((((p20.put 0 (IntKind.u64.wrap ((p20.at 0)+(p20.at 1)))).put 1 y115).put 1 (bits .xor .u64 (((p20.put 0 (IntKind.u64.wrap ((p20.at 0)+(p20.at 1)))).put 1 y115).at 1) (((p20.put 0 (IntKind.u64.wrap ((p20.at 0)+(p20.at 1)))).put 1 y115).at 0))).put 0 y124).at 2)+(((((p20.put 0 (IntKind.u64.wrap ((p20.at 0)+(p20.at 1)))).put 1 y115).put 1 (bits .xor .u64 (((p20.put 0 (IntKind.u64.wrap ((p20.at 0)+(p20.at 1)))).put 1 y115).at 1) (((p20.put 0 (IntKind.u64.wrap ((p20.at 0)+(p20.at 1)))).put 1 y115).at 0))).put 0 y124).at 3)))).trans (congrArg _ qhx130);refine go ?_;obtain ⟨y134,ehy134,hr106⟩:=bN hr106 Zce;refine go ?_;obtain ⟨y148,ehy148,hr106⟩:=bN hr106 Zce;refine go ?_;obtain ⟨_,hx154,hr106⟩:=bs hr106;have qhx154:=Option.some.inj hx154;have ap155:=(Xq (k:=.u64) ((((x130.put 3 y134).put 3 (bits .xor .u64 ((x130.put 3 y134).at 3) ((x130.put 3 y134).at 2))).put 0 (IntKind.u64.wrap ((((x130.put 3 y134).put 3 (bits .xor .u64 ((x130.put 3 y134).at 3) ((x130.put 3 y134).at 2))).at 0)+(((x130.put 3 y134).put 3 (bits .xor .u64 ((x130.put 3 y134).at 3) ((x130.put 3 y134).at 2))).at 3)))).put 3 y148) (i:=3) (by decide) (bits .xor .u64 (((((x130.put 3 y134).put 3 (bits .xor .u64 ((x130.put 3 y134).at 3) ((x130.put 3 y134).at 2))).put 0 (IntKind.u64.wrap ((((x130.put 3 y134).put 3 (bits .xor .u64 ((x130.put 3 y134).at 3) ((x130.put 3 y134).at 2))).at 0)+(((x130.put 3 y134).put 3 (bits .xor .u64 ((x130.put 3 y134).at 3) ((x130.put 3 y134).at 2))).at 3)))).put 3 y148).at 3) (((((x130.put 3 y134).put 3 (bits .xor .u64 ((x130.put 3 y134).at 3) ((x130.put 3 y134).at 2))).put 0 (IntKind.u64.wrap ((((x130.put 3 y134).put 3 (bits .xor .u64 ((x130.put 3 y134).at 3) ((x130.put 3 y134).at 2))).at 0)+(((x130.put 3 y134).put 3 (bits .xor .u64 ((x130.put 3 y134).at 3) ((x130.put 3 y134).at 2))).at 3)))).put 3 y148).at 0))).trans (congrArg _ qhx154);refine go ?_;obtain ⟨_,ehy163,hr106⟩:=bN hr106 Zce;refine go ?_;obtain ⟨_,ehy172,hr106⟩:=bN hr106 Zce;refine go ?_;exact bk hr106
 ·replace hr106:=ifN hr106
  refine go ?_;obtain ⟨r174,q174,rfl⟩:=ms hr106;refine go ?_;rintro rfl
  refine go ?_;unfold Zf3 at q174;refine go ?_;exact fin q174
theorem w162:Walk tt G [(163,K163.G)] (fun _=>[]) Tryz.f162 K162:=by
 refine .of [] false body162 Tryz.ntmps162 fun T hO hT ⟨a0,a1⟩ x hr=>⟨by simp,?_⟩
 simp only [Zi] at hT; simp only at hr ⊢; unfold c162;unfold ZcB at hr;refine go ?_;obtain ⟨_,ehy5,hr⟩:=bN hr ZoK;refine go ?_;exact fin hr
theorem w112:Walk tt G [(69,K69.G),(162,K162.G),(163,K163.G)] (fun _=>[]) Tryz.f112 K112:=by
 refine .of [(4,⟨[1,5,6,24,25],[5],[]⟩)] false body112 Tryz.ntmps112 fun T hO hT ⟨a0,a1⟩ x hr=>⟨by simp,?_⟩
 simp only [Zi] at hT; simp only at hr ⊢; unfold c112;unfold Zf4 at hr;refine Xd ?_;refine lp 4 (fun (⟨p9,p10⟩:Int×(Arr 4))=>⟨(und 1++([.one (.slice .no (Zd .u8 a1))]++(und 3++([.ptr 5 0 0 0 4,.one (.v (.int .i64 (IntKind.i64.wrap (((a1.length:Int)).tdiv 8))))]++(und 17++([.one (.v (.int .i64 (IntKind.i64.wrap (((a1.length:Int)).tdiv 8)))),.one (.v (.int .i64 p9))]++(und 43)))))):List PV),([(5,⟨0,4,[arC .u64 p10],false,false⟩)]:Boxes)⟩) hr ?_;rintro ⟨p9,p10⟩ x42r hr42
 simp only [ZeN] at hr42;unfold b112_1;refine nst ?_;refine Xd ?_;by_cases c43:p9<IntKind.i64.wrap (((a1.length:Int)).tdiv 8)
 ·have c43N:=nrm c43
  replace hr42:=ifP hr42
  refine Xd ?_;obtain ⟨⟨_,_,_⟩,hr42⟩:=bC hr42;have sf45:(IntKind.i64.wrap (8 * p9)).toNat≤(IntKind.i64.wrap ((IntKind.i64.wrap (8 * p9))+8)).toNat:=by omega
  have sf46:(IntKind.i64.wrap ((IntKind.i64.wrap (8 * p9))+8)).toNat≤a1.length:=by omega
  have sf47:0≤IntKind.i64.wrap ((IntKind.i64.wrap (8 * p9))+8):=by omega
  obtain ⟨_,ehy48,hr42⟩:=bN hr42 Zlt;obtain ⟨_,ehy49,hr42⟩:=bN hr42 ZoL;refine Xd ?_;exact bk hr42
 ·have c43N:=nrm c43
  replace hr42:=ifN hr42
  refine Xd ?_;obtain ⟨r50,q50,rfl⟩:=ms hr42;refine Xd ?_;rintro rfl
  refine Xd ?_;unfold Zh5 at q50;obtain ⟨⟨_,_⟩,q50⟩:=bC q50;have sf52:(IntKind.i64.wrap (8 * (IntKind.i64.wrap (((a1.length:Int)).tdiv 8)))).toNat≤a1.length:=by omega
  obtain ⟨_,ehy53,q50⟩:=bN q50 Zlt;obtain ⟨_,ehy54,q50⟩:=bN q50 ZoL;refine Xd ?_;obtain ⟨_,ehy58,q50⟩:=bN q50 ZoK;refine Xd ?_;exact fin q50
theorem v209:Zh Tryz.prog G 209 G209:=by
 refine Znk (k:=.u32) (k' := .i64) (g:=fun x=>(Lib.bitLen x.toNat:Int)) (ok:=fun x=>0≤x∧x≤4294967295) Tryz.func209 (by kernel_rfl) (by kernel_rfl) G209 (fun ps r hF=>?_) (fun x w hx=>ZvX x w hx.1 hx.2);obtain ⟨x,rfl,h⟩:=ZdZ hF;obtain ⟨y,hy,rfl⟩:=Option.map_eq_some_iff.1 h;unfold ZhF at hy;obtain ⟨_,u1,hy⟩:=bs hy;obtain rfl:=Option.some.inj hy;exact ⟨x,ZC u1,rfl,rfl⟩
theorem v210:Zh Tryz.prog G 210 G210:=by
 refine Znk (k:=.u64) (k' := .i64) (g:=fun x=>(Lib.bitLen x.toNat:Int)) (ok:=fun x=>0≤x∧x≤18446744073709551615) Tryz.func210 (by kernel_rfl) (by kernel_rfl) G210 (fun ps r hF=>?_) (fun x w hx=>ZvY x w hx.1 hx.2);obtain ⟨x,rfl,h⟩:=ZdZ hF;obtain ⟨y,hy,rfl⟩:=Option.map_eq_some_iff.1 h;unfold X3 at hy;obtain ⟨_,u1,hy⟩:=bs hy;obtain rfl:=Option.some.inj hy;exact ⟨x,ZC u1,rfl,rfl⟩
theorem w165:Walk tt G [(210,G210)] (fun _=>[]) Tryz.f165 K165:=by
 refine .of [] false body165 Tryz.ntmps165 fun T hO hT a0 x hr=>⟨by simp,?_⟩
 simp only [Zi] at hT; simp only at hr ⊢; unfold c165;unfold Za1 at hr;refine go ?_;obtain ⟨_,ehy2,hr⟩:=bG hr fun _=>ZtQ
 simp only [ZlR,ZpK,nf,nfs] at ehy2;refine go ?_;exact fin hr
theorem w229:Walk tt G [(165,K165.G)] (fun _=>[]) Tryz.f229 K229:=by
 refine .of [] false body229 Tryz.ntmps229 fun T hO hT a0 x hr=>⟨by simp,?_⟩
 simp only [Zi] at hT; simp only at hr ⊢; unfold c229;unfold XD at hr;refine go ?_;obtain ⟨_,ehy3,hr⟩:=bN hr ZoM;obtain ⟨_,hr⟩:=bC hr;refine go ?_;exact fin hr
theorem w230:Walk tt G [] (fun _=>[]) Tryz.f230 K230:=by
 refine .of [] false body230 Tryz.ntmps230 fun T hO hT a0 x hr=>⟨by simp,?_⟩
 simp only [Zi] at hT; simp only at hr ⊢; unfold c230;unfold ZaA at hr;refine go ?_;exact fin hr
theorem w240:Walk tt G [(156,K156.G)] (fun _=>[]) Tryz.f240 K240:=by
 refine .of [] false body240 Tryz.ntmps240 fun T hO hT ⟨a0,a1,a2,a3⟩ x hr=>⟨by simp,?_⟩
 simp only [Zi] at hT; simp only at hr ⊢; unfold c240;unfold Ys at hr;refine go ?_;obtain ⟨_,⟨_,_,_⟩,hr⟩:=bI hr;obtain ⟨_,⟨_,_,_⟩,hr⟩:=bI hr;obtain ⟨y6,ehy6,hr⟩:=bN hr Zal;refine go ?_;by_cases c7:y6=true
 ·replace hr:=ifP hr
  refine go ?_;exact fin hr
 ·replace hr:=ifN hr
  refine go ?_;exact fin hr
theorem w232:Walk tt G [(240,K240.G)] (fun _=>[]) Tryz.f232 K232:=by
 refine .of [] false body232 Tryz.ntmps232 fun T hO hT ⟨a0,a1,a2,a3,a4⟩ x hr=>⟨by simp,?_⟩
 simp only [Zi] at hT; simp only at hr ⊢; unfold c232;unfold YF at hr;refine go ?_;obtain ⟨_,ehy4,hr⟩:=bN hr ZlS;refine go ?_;obtain ⟨_,ehy5,hr⟩:=bN hr ZlS;refine go ?_;obtain ⟨_,ehy6,hr⟩:=bN hr ZlS;refine go ?_;exact fin hr
theorem w231:Walk tt G [(232,K232.G)] (fun _=>[]) Tryz.f231 K231:=by
 refine .of [] false body231 Tryz.ntmps231 fun T hO hT ⟨a0,a1,a2⟩ x hr=>⟨by simp,?_⟩
 simp only [Zi] at hT; simp only at hr ⊢; unfold c231;unfold ZZ at hr;refine go ?_;obtain ⟨_,ehy2,hr⟩:=bN hr ZoN;refine go ?_;exact fin hr
theorem w204:Walk tt G [(231,K231.G),(232,K232.G)] (fun _=>[]) Tryz.f204 K204:=by
 refine .of [(1000012,⟨[9,11],[9],[]⟩),(1000011,⟨[0,9,10,11,12],[9],[]⟩)] false body204 Tryz.ntmps204 fun T hO hT ⟨a0,a1,a2⟩ x hr=>⟨by simp,?_⟩
 simp only [Zi] at hT; simp only at hr ⊢; unfold c204;unfold Yz at hr;refine Xd ?_;refine ZaU hr (fun (s:Int×Int)=>match s with | (p9,p10)=>(⟨(und 9++([.ptr 9 0 0 0 1]++(und 1++([.one (.v (.int .i64 p9))]++(und 45)))):List PV),([(9,⟨0,1,[[.v (.int .i64 p10)]],false,false⟩)]:Boxes)⟩:ASt)) (fun (s:Int×Int)=>match s with | (p9,p10)=>Ye p9 p10) ?_ ?_
 ·rintro ⟨p9,p10⟩ hk33
  change Ye p9 p10=_ at hk33
  refine nst ?_;unfold Ye at hk33;refine Xe rfl (kq:=⟨[9,11],[9],[]⟩) rfl (by simp [-Int.natCast_tdiv_eq_ediv,Nat.add_assoc,Yq, *]; rfl) (by simp [-Int.natCast_tdiv_eq_ediv,Nat.add_assoc, *]; rfl) ?_;refine Xd ?_;rcases eqT (p10=0) with c34 | c34
  ·replace hk33:=ifP hk33
   refine Xd ?_;exact fin hk33
  ·replace hk33:=ifN hk33
   refine Xd ?_;rcases eqT (p10=12) with c35 | c35
   ·replace hk33:=ifP hk33
    refine Xd ?_;exact fin hk33
   ·replace hk33:=ifN hk33
    refine Xd ?_;exact fin hk33
 ·intro J33
  by_cases c36:8≤IntKind.i64.wrap (a2-a1)
  ·replace hr:=ifP hr
   refine Xd ?_;refine ZaU hr (fun (s:Int×Int×Int×Int)=>match s with | (p14,p15,p16,p17)=>(⟨([.one (.slice .no (Zd .u64 a0))]++(und 8++([.ptr 9 0 0 0 1,.one (.v (.int .i64 p14)),.one (.v (.int .i64 p15)),.one (.v (.int .i64 p16))]++(und 44))):List PV),([(9,⟨0,1,[[.v (.int .i64 p17)]],false,false⟩)]:Boxes)⟩:ASt)) (fun (s:Int×Int×Int×Int)=>match s with | (p14,p15,p16,p17)=>Yf a0 p14 p15 p16 p17) ?_ ?_
   ·rintro ⟨p14,p15,p16,p17⟩ hk41
    change Yf a0 p14 p15 p16 p17=_ at hk41
    refine nst ?_;unfold Yf at hk41;obtain ⟨y42,ehy42,hk41⟩:=bN hk41 ZoN;refine Xe rfl (kq:=⟨[0,9,10,11,12],[9],[]⟩) rfl (by simp [-Int.natCast_tdiv_eq_ediv,Nat.add_assoc,Yq, *]; rfl) (by simp [-Int.natCast_tdiv_eq_ediv,Nat.add_assoc, *]; rfl) ?_;exact jn 1000012 (J33 (y42.1,y42.2) hk41)
   ·intro J41
    by_cases c43:50≤IntKind.i64.wrap (a2-a1)
    ·replace hr:=ifP hr
     refine Xd ?_;obtain ⟨y44,ehy44,hr⟩:=bN hr ZlT;refine Xd ?_;obtain ⟨y45,ehy45,hr⟩:=bN hr ZlT;refine Xd ?_;obtain ⟨y46,ehy46,hr⟩:=bN hr ZlT;refine Xd ?_;exact jn 1000011 (J41 (y44.1,y45.1,y46.1,y46.2) hr)
    ·replace hr:=ifN hr
     refine Xd ?_;exact jn 1000011 (J41 (IntKind.i64.wrap (a1+(IntKind.i64.wrap (IntKind.i64.wrap ((IntKind.i64.wrap (a2-a1)).tdiv 4)))),IntKind.i64.wrap (a1+(IntKind.i64.wrap ((IntKind.i64.wrap ((IntKind.i64.wrap (a2-a1)).tdiv 4)) * 2))),IntKind.i64.wrap (a1+(IntKind.i64.wrap ((IntKind.i64.wrap ((IntKind.i64.wrap (a2-a1)).tdiv 4)) * 3))),0) hr)
  ·replace hr:=ifN hr
   refine Xd ?_;exact jn 1000012 (J33 (IntKind.i64.wrap (a1+(IntKind.i64.wrap ((IntKind.i64.wrap ((IntKind.i64.wrap (a2-a1)).tdiv 4)) * 2))),0) hr)
def kp201_3:Keep:=fun i=>if i=1 then ⟨[0,1,2,6],[1000000],[]⟩ else if i=1000002 then ⟨[0,1,2,6],[1000000],[]⟩ else if i=4 then ⟨[0,1,2,6,7],[1000000],[]⟩ else ⟨[],[],[]⟩
theorem Zvz {T:Tab} (hO:T.own=fun _=>[]) (hT156:T 156=some K156.G) (a0:(List Int)) (a1:Int) (a2:Int) (x:(List Int)) (hr:Z2 a0 a1 a2=some x):∃ kp fl n,Xj tt T G kp fl n Tryz.f201 (ZfQ (a0,a1,a2))=some (Ziy (a0,a1,a2) x):=by
 simp only [ZfQ,Ziy];refine fnE (kp:=kp201_3) (w:=false) body201 (by simp) ?_;unfold c201;rw [Tryz.ntmps201];unfold Z2 at hr;refine Ze rfl (by simp [-Za]; rfl) ?_;refine XX ?_;refine XR (kq:=⟨[0,1,2,6],[1000000],[]⟩) (H:=fun (s:Int×(List Int))=>match s with | (p77,p78)=>(⟨([.one (.ms 1000000 0 0 (p78.length) 1),.one (.v (.int .i64 a1)),.one (.v (.int .i64 a2))]++(und 3++([.one (.v (.int .i64 p77))]++(und 42))):List PV),([(1000000,⟨0,1,Zd .u64 p78,false,true⟩)]:Boxes)⟩:ASt)) (by kernel_rfl) hr (by simp [-Za,und,List.replicate,]) ?_;rintro ⟨p77,p78⟩ x127r hr127
 simp only [YH] at hr127;unfold b201_1;simp only [und,List.replicate,List.cons_append,List.nil_append];refine ZE ?_;refine Ze rfl (by simp [-Za]; rfl) ?_;by_cases c128:p77<a2
 ·skip
  rw [if_pos] at hr127;rotate_left
  ·simp [-Za,c128]
  refine ZK (by simp [-Za,bV,c128]) ?_;refine ZB ?_;refine Yh ?_;refine Ze rfl (by simp [-Za,c128]; rfl) ?_;refine XX ?_;refine ZeA hr127 (.exit 1) (fun (s:(List Int))=>match s with | p104=>(⟨([.one (.ms 1000000 0 0 (p104.length) 1),.one (.v (.int .i64 a1)),.one (.v (.int .i64 a2))]++(und 3++([.one (.v (.int .i64 p77))]++(und 42))):List PV),([(1000000,⟨0,1,Zd .u64 p104,false,true⟩)]:Boxes)⟩:ASt)) (fun (s:(List Int))=>match s with | p104=>Yo p77 p104) ?_ ?_
  ·skip
   rintro p104 hk146
   change Yo p77 p104=_ at hk146
   simp only [pq];simp only [und,List.replicate,List.cons_append,List.nil_append];unfold Yo at hk146;refine Zeh rfl (kq:=⟨[0,1,2,6],[1000000],[]⟩) rfl (by simp [-Za,Yq]; rfl) (by simp [-Za]; rfl) ?_;obtain rfl:=Option.some.inj hk146;simp only [pq];simp [-Za]
  ·skip
   intro J146;simp only [pq] at J146;refine XR (kq:=⟨[0,1,2,6,7],[1000000],[]⟩) (H:=fun (s:Int×(List Int))=>match s with | (p103,p104)=>(⟨([.one (.ms 1000000 0 0 (p104.length) 1),.one (.v (.int .i64 a1)),.one (.v (.int .i64 a2))]++(und 3++([.one (.v (.int .i64 p77)),.one (.v (.int .i64 p103))]++(und 41))):List PV),([(1000000,⟨0,1,Zd .u64 p104,false,true⟩)]:Boxes)⟩:ASt)) (by kernel_rfl) hr127 (by simp [-Za,und,List.replicate]) ?_;rintro ⟨p103,p104⟩ x147r hr147
   simp only [Yc] at hr147;unfold b201_2;simp only [und,List.replicate,List.cons_append,List.nil_append];refine ZE ?_;by_cases c148:a1<p103
   ·skip
    rw [if_pos] at hr147;rotate_left
    ·simp [-Za,c148]
    obtain ⟨z149,hz149,hr147⟩:=bs hr147;obtain ⟨j150,hj150,hz149⟩:=bs hz149;obtain ⟨j150a,j150b,j150c⟩:=Zq hj150;obtain ⟨x151,hx151,hz149⟩:=bs hz149;have ghx151:=Zk hx151;obtain ⟨j152,hj152,hz149⟩:=bs hz149;obtain ⟨j152a,j152b,j152c⟩:=Zq hj152;obtain ⟨x153,hx153,hz149⟩:=bs hz149;have ghx153:=Zk hx153;obtain ⟨y154,hy154,hz149⟩:=bs hz149;have ehy154:=Zal hy154;simp only [K156] at ehy154;try simp only [Zj] at ehy154
    obtain rfl:=Option.some.inj hz149;refine ZY rfl (by simp [-Za,j150a,j150b,j150c,ghx151,j152a,j152b,j152c,ghx153,hO,hT156,ehy154,c148]; first | exact ⟨rfl,rfl⟩ | rfl) (by kernel_rfl) ?_;by_cases c155:y154=true
    ·skip
     rw [if_pos] at hr147;rotate_left
     ·simp [-Za,c148,c155]
     refine ZK (by simp [-Za,bV,c155]) ?_;refine ZB ?_;refine Yh ?_;obtain ⟨j156,hj156,hr147⟩:=bs hr147;obtain ⟨j156a,j156b,j156c⟩:=Zq hj156;obtain rfl:j152=j156:=j152b.symm.trans j156b;obtain ⟨x157,hx157,hr147⟩:=bs hr147;have ghx157:=Zk hx157;obtain ⟨j158,hj158,hr147⟩:=bs hr147;obtain ⟨j158a,j158b,j158c⟩:=Zq hj158;obtain rfl:j150=j158:=j150b.symm.trans j158b;obtain ⟨x159,hx159,hr147⟩:=bs hr147;have ghx159:=Zk hx159;obtain ⟨j150a,j150b,j150c⟩:=Zq hj158;obtain ⟨j160,hj160,hr147⟩:=bs hr147;obtain ⟨j160a,j160b,j160c⟩:=Zq hj160;try simp only [List.length_set] at j160c
     obtain rfl:j152=j160:=j152b.symm.trans j160b;refine Zhh rfl (by simp [-Za,Zj,j156a,j156b,j156c,ghx157,j158a,j158b,j158c,ghx159,c155]; first | exact ⟨rfl,rfl⟩ | rfl) (by kernel_rfl) ?_;simp only [pq];refine Y8 rfl (by simp [-Za]; rfl) ?_;obtain rfl:=Option.some.inj hr147;simp only [pq];simp [-Za]
    ·skip
     rw [if_neg] at hr147;rotate_left
     ·simp [-Za,c148,c155]
     refine Zn (by simp [-Za,bV,c155]) ?_;refine Z4 ?_;obtain ⟨r161,q161,rfl⟩:=ms hr147;simp only [pq];rintro rfl
     try simp only [pq,reduceCtorEq]
     exact Xh (key:=1000002) (kq:=⟨[0,1,2,6],[1000000],[]⟩) rfl rfl rfl (by simp [-Za,und,List.replicate,c155]) (J146 p104 q161)
   ·skip
    rw [if_neg] at hr147;rotate_left
    ·simp [-Za,c148]
    obtain ⟨z162,hz162,hr147⟩:=bs hr147;obtain rfl:=Option.some.inj hz162;refine ZY rfl (by simp [-Za,c148]; first | exact ⟨rfl,rfl⟩ | rfl) (by kernel_rfl) ?_;rw [if_neg] at hr147;rotate_left
    ·simp [-Za,c148]
    refine Zn (by simp [-Za,bV]) ?_;refine Z4 ?_;obtain ⟨r163,q163,rfl⟩:=ms hr147;simp only [pq];rintro rfl
    try simp only [pq,reduceCtorEq]
    exact Xh (key:=1000002) (kq:=⟨[0,1,2,6],[1000000],[]⟩) rfl rfl rfl (by simp [-Za,und,List.replicate]) (J146 p104 q163)
 ·skip
  rw [if_neg] at hr127;rotate_left
  ·simp [-Za,c128]
  refine Zn (by simp [-Za,bV,c128]) ?_;refine Z4 ?_;obtain ⟨_,u164,hr127⟩:=bs hr127;have u164_0:=ZC u164;obtain rfl:=Option.some.inj hr127;simp only [pq];rintro rfl
  simp [-Za,ZaN,u164_0,c128]
end Go.Proofs.YthpkpciceodioaaGreatDoor
