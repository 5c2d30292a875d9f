import Derived.Test.YthpkpciceodioaaGreatDoorLfK
import Derived.Test.YthpkpciceodioaaGreatDoorCode
import Derived.Test.YthpkpciceodioaaGreatDoorBl
namespace Go.Proofs.YthpkpciceodioaaGreatDoor
open Go.RowKit
open Go.Av
open Go.Lc
set_option maxRecDepth 100000
set_option linter.unusedSimpArgs false
set_option linter.unusedVariables false
set_option maxHeartbeats 4000000
theorem w156 : Walk tt G [(199,K199.G)] (fun _=>[]) Tryz.f156 K156:=by
 refine .of [] false body156 Tryz.ntmps156 fun T hO hT ⟨a0,a1⟩ x hr=>⟨by simp,?_⟩
 simp only [Zq] at hT; simp only at hr ⊢; unfold c156;unfold ZM at hr;refine go ?_;obtain ⟨y4,ehy4,hr⟩:=bN hr Zl2;by_cases c5 : y4 = true
 ·replace hr:=Zgb hr
  obtain ⟨_,hz6,hr⟩:=bs hr;obtain ⟨y7,ehy7,hz6⟩:=bN hz6 Zl2;obtain rfl:=Option.some.inj hz6;by_cases c8 : y7 = true
  ·refine go ?_
   exact fin hr
  ·refine go ?_
   exact fin hr
 ·replace hr:=Zgc hr
  obtain ⟨_,hz9,hr⟩:=bs hr;obtain rfl:=Option.some.inj hz9;refine go ?_;exact fin hr
theorem v209 : Zi Tryz.prog G 209 G209:=by
 refine ZkP (k:=.u32) (k' := .i64) (g:=fun x=>(Lib.bitLen x.toNat : Int)) (ok:=fun x=>0≤x∧x≤4294967295) Tryz.func209 (by kernel_rfl) (by kernel_rfl) G209 (fun ps r hF=>?_) (fun x w hx=>Zsi x w hx.1 hx.2);obtain ⟨x,rfl,h⟩:=ZcS hF;obtain ⟨y,hy,rfl⟩:=Option.map_eq_some_iff.1 h;unfold ZdX at hy;obtain ⟨_,u1,hy⟩:=bs hy;obtain rfl:=Option.some.inj hy;exact ⟨x,ZA u1,rfl,rfl⟩
theorem v210 : Zi Tryz.prog G 210 G210:=by
 refine ZkP (k:=.u64) (k' := .i64) (g:=fun x=>(Lib.bitLen x.toNat : Int)) (ok:=fun x=>0≤x∧x≤18446744073709551615) Tryz.func210 (by kernel_rfl) (by kernel_rfl) G210 (fun ps r hF=>?_) (fun x w hx=>Zsj x w hx.1 hx.2);obtain ⟨x,rfl,h⟩:=ZcS hF;obtain ⟨y,hy,rfl⟩:=Option.map_eq_some_iff.1 h;unfold XJ at hy;obtain ⟨_,u1,hy⟩:=bs hy;obtain rfl:=Option.some.inj hy;exact ⟨x,ZA u1,rfl,rfl⟩
theorem w165 : Walk tt G [(210,G210)] (fun _=>[]) Tryz.f165 K165:=by
 refine .of [] false body165 Tryz.ntmps165 fun T hO hT a0 x hr=>⟨by simp,?_⟩
 simp only [Zq] at hT; simp only at hr ⊢; unfold c165;unfold Zat at hr;refine go ?_;obtain ⟨_,ehy2,hr⟩:=bG hr fun _=>Zqu
 simp only [Zjs,Zm4,nf,nfs] at ehy2;refine go ?_;exact fin hr
theorem w229 : Walk tt G [(165,K165.G)] (fun _=>[]) Tryz.f229 K229:=by
 refine .of [] false body229 Tryz.ntmps229 fun T hO hT a0 x hr=>⟨by simp,?_⟩
 simp only [Zq] at hT; simp only at hr ⊢; unfold c229;unfold Xt at hr;refine go ?_;obtain ⟨_,ehy3,hr⟩:=bN hr Zl3;obtain ⟨_,hr⟩:=bC hr;refine go ?_;exact fin hr
theorem w230 : Walk tt G [] (fun _=>[]) Tryz.f230 K230:=by
 refine .of [] false body230 Tryz.ntmps230 fun T hO hT a0 x hr=>⟨by simp,?_⟩
 simp only [Zq] at hT; simp only at hr ⊢; unfold c230;unfold Zae at hr;refine go ?_;exact fin hr
theorem w240 : Walk tt G [(156,K156.G)] (fun _=>[]) Tryz.f240 K240:=by
 refine .of [] false body240 Tryz.ntmps240 fun T hO hT ⟨a0,a1,a2,a3⟩ x hr=>⟨by simp,?_⟩
 simp only [Zq] at hT; simp only at hr ⊢; unfold c240;unfold Yp at hr;refine go ?_;obtain ⟨_,⟨_,_,_⟩,hr⟩:=bI hr;obtain ⟨_,⟨_,_,_⟩,hr⟩:=bI hr;obtain ⟨y6,ehy6,hr⟩:=bN hr Zag;refine go ?_;by_cases c7 : y6 = true
 ·replace hr:=ifP hr
  refine go ?_;exact fin hr
 ·replace hr:=ifN hr
  refine go ?_;exact fin hr
theorem w232 : Walk tt G [(240,K240.G)] (fun _=>[]) Tryz.f232 K232:=by
 refine .of [] false body232 Tryz.ntmps232 fun T hO hT ⟨a0,a1,a2,a3,a4⟩ x hr=>⟨by simp,?_⟩
 simp only [Zq] at hT; simp only at hr ⊢; unfold c232;unfold YC at hr;refine go ?_;obtain ⟨_,ehy4,hr⟩:=bN hr Zjt;refine go ?_;obtain ⟨_,ehy5,hr⟩:=bN hr Zjt;refine go ?_;obtain ⟨_,ehy6,hr⟩:=bN hr Zjt;refine go ?_;exact fin hr
theorem w231 : Walk tt G [(232,K232.G)] (fun _=>[]) Tryz.f231 K231:=by
 refine .of [] false body231 Tryz.ntmps231 fun T hO hT ⟨a0,a1,a2⟩ x hr=>⟨by simp,?_⟩
 simp only [Zq] at hT; simp only at hr ⊢; unfold c231;unfold ZV at hr;refine go ?_;obtain ⟨_,ehy2,hr⟩:=bN hr Zl4;refine go ?_;exact fin hr
theorem w204 : Walk tt G [(231,K231.G),(232,K232.G)] (fun _=>[]) Tryz.f204 K204:=by
 refine .of [(1000012,⟨[9,11],[9],[]⟩),(1000011,⟨[0,9,10,11,12],[9],[]⟩)] false body204 Tryz.ntmps204 fun T hO hT ⟨a0,a1,a2⟩ x hr=>⟨by simp,?_⟩
 simp only [Zq] at hT; simp only at hr ⊢; unfold c204;unfold Yw at hr;refine Y3 ?_;refine Zcj hr (fun (s : Int×Int)=>match s with | (p9,p10)=>(⟨(und 9++([.ptr 9 0 0 0 1]++(und 1++([.one (.v (.int .i64 p9))]++(und 45)))) : List PV),([(9,⟨0,1,[[.v (.int .i64 p10)]],false,false⟩)] : Boxes)⟩ : ASt)) (fun (s : Int×Int)=>match s with | (p9,p10)=>Yb p9 p10) ?_ ?_
 ·rintro ⟨p9,p10⟩ hk33
  change Yb p9 p10 = _ at hk33
  refine nst ?_;unfold Yb at hk33;refine Y5 rfl (kq:=⟨[9,11],[9],[]⟩) rfl (by simp [-Int.natCast_tdiv_eq_ediv,Nat.add_assoc,Yk, *]; rfl) (by simp [-Int.natCast_tdiv_eq_ediv,Nat.add_assoc, *]; rfl) ?_;refine Y3 ?_;rcases eqT (p10 = 0) with c34 | c34
  ·replace hk33:=ifP hk33
   refine Y3 ?_;exact fin hk33
  ·replace hk33:=ifN hk33
   refine Y3 ?_;rcases eqT (p10 = 12) with c35 | c35
   ·replace hk33:=ifP hk33
    refine Y3 ?_;exact fin hk33
   ·replace hk33:=ifN hk33
    refine Y3 ?_;exact fin hk33
 ·intro J33
  by_cases c36 : 8≤IntKind.i64.wrap (a2 - a1)
  ·replace hr:=ifP hr
   refine Y3 ?_;refine Zcj hr (fun (s : Int×Int×Int×Int)=>match s with | (p14,p15,p16,p17)=>(⟨([.one (.slice .no (Ze .u64 a0))]++(und 8++([.ptr 9 0 0 0 1,.one (.v (.int .i64 p14)),.one (.v (.int .i64 p15)),.one (.v (.int .i64 p16))]++(und 44))) : List PV),([(9,⟨0,1,[[.v (.int .i64 p17)]],false,false⟩)] : Boxes)⟩ : ASt)) (fun (s : Int×Int×Int×Int)=>match s with | (p14,p15,p16,p17)=>Yc a0 p14 p15 p16 p17) ?_ ?_
   ·rintro ⟨p14,p15,p16,p17⟩ hk41
    change Yc a0 p14 p15 p16 p17 = _ at hk41
    refine nst ?_;unfold Yc at hk41;obtain ⟨y42,ehy42,hk41⟩:=bN hk41 Zl4;refine Y5 rfl (kq:=⟨[0,9,10,11,12],[9],[]⟩) rfl (by simp [-Int.natCast_tdiv_eq_ediv,Nat.add_assoc,Yk, *]; rfl) (by simp [-Int.natCast_tdiv_eq_ediv,Nat.add_assoc, *]; rfl) ?_;exact jn 1000012 (J33 (y42.1,y42.2) hk41)
   ·intro J41
    by_cases c43 : 50≤IntKind.i64.wrap (a2 - a1)
    ·replace hr:=ifP hr
     refine Y3 ?_;obtain ⟨y44,ehy44,hr⟩:=bN hr Zju;refine Y3 ?_;obtain ⟨y45,ehy45,hr⟩:=bN hr Zju;refine Y3 ?_;obtain ⟨y46,ehy46,hr⟩:=bN hr Zju;refine Y3 ?_;exact jn 1000011 (J41 (y44.1,y45.1,y46.1,y46.2) hr)
    ·replace hr:=ifN hr
     refine Y3 ?_;exact jn 1000011 (J41 (IntKind.i64.wrap (a1 + (IntKind.i64.wrap (IntKind.i64.wrap ((IntKind.i64.wrap (a2 - a1)).tdiv 4)))),IntKind.i64.wrap (a1 + (IntKind.i64.wrap ((IntKind.i64.wrap ((IntKind.i64.wrap (a2 - a1)).tdiv 4)) * 2))),IntKind.i64.wrap (a1 + (IntKind.i64.wrap ((IntKind.i64.wrap ((IntKind.i64.wrap (a2 - a1)).tdiv 4)) * 3))),0) hr)
  ·replace hr:=ifN hr
   refine Y3 ?_;exact jn 1000012 (J33 (IntKind.i64.wrap (a1 + (IntKind.i64.wrap ((IntKind.i64.wrap ((IntKind.i64.wrap (a2 - a1)).tdiv 4)) * 2))),0) hr)
def kp201_1 : Keep:=fun i=>if i = 1 then ⟨[0,1,2,6],[1000000],[]⟩ else if i = 1000002 then ⟨[0,1,2,6],[1000000],[]⟩ else if i = 4 then ⟨[0,1,2,6,7],[1000000],[]⟩ else ⟨[],[],[]⟩
theorem ZrU {T : Tab} (hO : T.own = fun _=>[]) (hT156 : T 156 = some K156.G) (a0 : (List Int)) (a1 : Int) (a2 : Int) (x : (List Int)) (hr : ZX a0 a1 a2 = some x) : ∃ kp fl n,Y8 tt T G kp fl n Tryz.f201 (Zeu (a0,a1,a2)) = some (Zgv (a0,a1,a2) x):=by
 simp only [Zeu,Zgv];refine fnE (kp:=kp201_1) (w:=false) body201 (by simp) ?_;unfold c201;rw [Tryz.ntmps201];unfold ZX at hr;refine Zd rfl (by simp [-Zb,Za]; rfl) ?_;refine XH ?_;refine XB (kq:=⟨[0,1,2,6],[1000000],[]⟩) (H:=fun (s : Int×(List Int))=>match s with | (p77,p78)=>(⟨([.one (.ms 1000000 0 0 (p78.length) 1),.one (.v (.int .i64 a1)),.one (.v (.int .i64 a2))]++(und 3++([.one (.v (.int .i64 p77))]++(und 42))) : List PV),([(1000000,⟨0,1,Ze .u64 p78,false,true⟩)] : Boxes)⟩ : ASt)) (by kernel_rfl) hr (by simp [-Zb,Za,und,List.replicate,]) ?_;rintro ⟨p77,p78⟩ x127r hr127
 simp only [YD] at hr127;unfold b201_1;simp only [und,List.replicate,List.cons_append,List.nil_append];refine Zy ?_;refine Zd rfl (by simp [-Zb,Za]; rfl) ?_;by_cases c128 : p77 < a2
 ·skip
  rw [if_pos] at hr127;rotate_left
  ·simp [-Zb,Za,c128]
  refine ZB (by simp [-Zb,Za,bV,c128]) ?_;refine Zz ?_;refine Yd ?_;refine Zd rfl (by simp [-Zb,Za,c128]; rfl) ?_;refine XH ?_;refine Zb7 hr127 (.exit 1) (fun (s : (List Int))=>match s with | p104=>(⟨([.one (.ms 1000000 0 0 (p104.length) 1),.one (.v (.int .i64 a1)),.one (.v (.int .i64 a2))]++(und 3++([.one (.v (.int .i64 p77))]++(und 42))) : List PV),([(1000000,⟨0,1,Ze .u64 p104,false,true⟩)] : Boxes)⟩ : ASt)) (fun (s : (List Int))=>match s with | p104=>Yn p77 p104) ?_ ?_
  ·skip
   rintro p104 hk146
   change Yn p77 p104 = _ at hk146
   simp only [pq,reduceCtorEq];simp only [und,List.replicate,List.cons_append,List.nil_append];unfold Yn at hk146;refine Zb8 rfl (kq:=⟨[0,1,2,6],[1000000],[]⟩) rfl (by simp [-Zb,Za,Yk,c128]; rfl) (by simp [-Zb,Za,c128]; rfl) ?_;obtain rfl:=Option.some.inj hk146;simp only [pq,reduceCtorEq];simp [-Zb,Za,und,List.replicate,Nat.add_assoc,c128]
  ·skip
   intro J146;simp only [pq,reduceCtorEq] at J146;refine XB (kq:=⟨[0,1,2,6,7],[1000000],[]⟩) (H:=fun (s : Int×(List Int))=>match s with | (p103,p104)=>(⟨([.one (.ms 1000000 0 0 (p104.length) 1),.one (.v (.int .i64 a1)),.one (.v (.int .i64 a2))]++(und 3++([.one (.v (.int .i64 p77)),.one (.v (.int .i64 p103))]++(und 41))) : List PV),([(1000000,⟨0,1,Ze .u64 p104,false,true⟩)] : Boxes)⟩ : ASt)) (by kernel_rfl) hr127 (by simp [-Zb,Za,und,List.replicate,c128]) ?_;rintro ⟨p103,p104⟩ x147r hr147
   simp only [Z8] at hr147;unfold b201_2;simp only [und,List.replicate,List.cons_append,List.nil_append];refine Zy ?_;by_cases c148 : a1 < p103
   ·skip
    rw [if_pos] at hr147;rotate_left
    ·simp [-Zb,Za,c128,c148]
    obtain ⟨z149,hz149,hr147⟩:=bs hr147;obtain ⟨j150,hj150,hz149⟩:=bs hz149;obtain ⟨j150a,j150b,j150c⟩:=Zn hj150;obtain ⟨x151,hx151,hz149⟩:=bs hz149;have ghx151:=Zj hx151;obtain ⟨j152,hj152,hz149⟩:=bs hz149;obtain ⟨j152a,j152b,j152c⟩:=Zn hj152;obtain ⟨x153,hx153,hz149⟩:=bs hz149;have ghx153:=Zj hx153;obtain ⟨y154,hy154,hz149⟩:=bs hz149;have ehy154:=Zag hy154;simp only [K156,nf,nfs] at ehy154;try simp only [Za] at ehy154
    obtain rfl:=Option.some.inj hz149;refine ZZ rfl (by simp [-Zb,Za,j150a,j150b,j150c,hx151,ghx151,j152a,j152b,j152c,hx153,ghx153,hO,hT156,ehy154,c128,c148]; first | exact ⟨rfl,rfl⟩ | rfl) (by kernel_rfl) ?_;by_cases c155 : y154 = true
    ·skip
     rw [if_pos] at hr147;rotate_left
     ·simp [-Zb,Za,c128,c148,c155]
     refine ZB (by simp [-Zb,Za,bV,c128,c148,c155]) ?_;refine Zz ?_;refine Yd ?_;obtain ⟨j156,hj156,hr147⟩:=bs hr147;obtain ⟨j156a,j156b,j156c⟩:=Zn hj156;obtain rfl : j152 = j156:=j152b.symm.trans j156b;obtain ⟨x157,hx157,hr147⟩:=bs hr147;have ghx157:=Zj hx157;obtain ⟨j158,hj158,hr147⟩:=bs hr147;obtain ⟨j158a,j158b,j158c⟩:=Zn hj158;obtain rfl : j150 = j158:=j150b.symm.trans j158b;obtain ⟨x159,hx159,hr147⟩:=bs hr147;have ghx159:=Zj hx159;obtain ⟨j150a,j150b,j150c⟩:=Zn hj158;obtain ⟨j160,hj160,hr147⟩:=bs hr147;obtain ⟨j160a,j160b,j160c⟩:=Zn hj160;try simp only [List.length_set] at j160c
     obtain rfl : j152 = j160:=j152b.symm.trans j160b;refine Zfw rfl (by simp [-Zb,Za,j156a,j156b,j156c,j152a,j152b,j152c,hx157,ghx157,j158a,j158b,j158c,j150a,j150b,j150c,hx159,ghx159,j160a,j160b,j160c,c128,c148,c155]; first | exact ⟨rfl,rfl⟩ | rfl) (by kernel_rfl) ?_;simp only [pq,reduceCtorEq];refine Y4 rfl (by simp [-Zb,Za,c128,c148,c155]; rfl) ?_;obtain rfl:=Option.some.inj hr147;simp only [pq,reduceCtorEq];simp [-Zb,Za,und,List.replicate,Nat.add_assoc,c128,c148,c155]
    ·skip
     rw [if_neg] at hr147;rotate_left
     ·simp [-Zb,Za,c128,c148,c155]
     refine Zl (by simp [-Zb,Za,bV,c128,c148,c155]) ?_;refine Z0 ?_;obtain ⟨r161,q161,rfl⟩:=ms hr147;simp only [pq,reduceCtorEq];rintro rfl
     try simp only [pq,reduceCtorEq]
     exact Y7 (key:=1000002) (kq:=⟨[0,1,2,6],[1000000],[]⟩) rfl rfl rfl (by simp [-Zb,Za,und,List.replicate,c128,c148,c155]) (J146 p104 q161)
   ·skip
    rw [if_neg] at hr147;rotate_left
    ·simp [-Zb,Za,c128,c148]
    obtain ⟨z162,hz162,hr147⟩:=bs hr147;obtain rfl:=Option.some.inj hz162;refine ZZ rfl (by simp [-Zb,Za,c128,c148]; first | exact ⟨rfl,rfl⟩ | rfl) (by kernel_rfl) ?_;rw [if_neg] at hr147;rotate_left
    ·simp [-Zb,Za,c128,c148]
    refine Zl (by simp [-Zb,Za,bV,c128,c148]) ?_;refine Z0 ?_;obtain ⟨r163,q163,rfl⟩:=ms hr147;simp only [pq,reduceCtorEq];rintro rfl
    try simp only [pq,reduceCtorEq]
    exact Y7 (key:=1000002) (kq:=⟨[0,1,2,6],[1000000],[]⟩) rfl rfl rfl (by simp [-Zb,Za,und,List.replicate,c128,c148]) (J146 p104 q163)
 ·skip
  rw [if_neg] at hr127;rotate_left
  ·simp [-Zb,Za,c128]
  refine Zl (by simp [-Zb,Za,bV,c128]) ?_;refine Z0 ?_;obtain ⟨_,u164,hr127⟩:=bs hr127;have u164_0:=ZA u164;obtain rfl:=Option.some.inj hr127;simp only [pq,reduceCtorEq];rintro rfl
  simp [-Zb,Za,Zaj,u164_0,c128]
theorem w228_2 : Walk tt G [(156,K156.G)] (fun _=>[]) Tryz.f228 K228_2:=by
 refine .of [(1,⟨[0,2,3,8],[1000000],[]⟩),(1000005,⟨[0,2,3,8,9],[1000000],[]⟩)] false body228 Tryz.ntmps228 fun T hO hT ⟨a0,a1,a2,a3⟩ x hr=>⟨by simp,?_⟩
 simp only [Zq] at hT; simp only at hr ⊢; unfold c228;unfold YK at hr;refine goL ?_;refine lp 1 (fun (⟨p29,p30⟩ : Int×(List Int))=>⟨([.one (.ms 1000000 0 0 (p30.length) 1)]++(und 1++([.one (.v (.int .i64 a2)),.one (.v (.int .i64 a3))]++(und 4++([.one (.v (.int .i64 p29))]++(und 67))))) : List PV),([(1000000,⟨0,1,Ze .u64 p30,false,true⟩)] : Boxes)⟩) hr ?_;rintro ⟨p29,p30⟩ x44r hr44
 simp only [ZT] at hr44;unfold b228_1;refine nst ?_;refine goL ?_;by_cases c45 : a2≤IntKind.i64.wrap ((IntKind.i64.wrap (2 * p29)) + 1)
 ·replace hr44:=ifP hr44
  refine goL ?_;obtain ⟨_,hr44⟩:=bC hr44;exact fin hr44
 ·replace hr44:=ifN hr44
  refine goL ?_;by_cases c47 : IntKind.i64.wrap ((IntKind.i64.wrap ((IntKind.i64.wrap (2 * p29)) + 1)) + 1) < a2
  ·replace hr44:=Zgb hr44
   obtain ⟨_,hz48,hr44⟩:=bs hr44;obtain ⟨_,⟨_,_,_⟩,hz48⟩:=bA hz48;obtain ⟨_,hx50,hz48⟩:=bs hz48;have ghx50:=Zj hx50;obtain ⟨_,⟨_,_,_⟩,hz48⟩:=bA hz48;obtain ⟨_,hx52,hz48⟩:=bs hz48;have ghx52:=Zj hx52;obtain ⟨y53,ehy53,hz48⟩:=bN hz48 Zag;try simp only [Za] at ehy53
   obtain rfl:=Option.some.inj hz48;refine goL ?_;refine Zcj hr44 (fun (s : Int)=>match s with | p37=>(⟨([.one (.ms 1000000 0 0 (p30.length) 1)]++(und 1++([.one (.v (.int .i64 a2)),.one (.v (.int .i64 a3))]++(und 4++([.one (.v (.int .i64 p29)),.one (.v (.int .i64 p37))]++(und 66))))) : List PV),([(1000000,⟨0,1,Ze .u64 p30,false,true⟩)] : Boxes)⟩ : ASt)) (fun (s : Int)=>match s with | p37=>ZS p30 a3 p29 a0 p37) ?_ ?_
   ·rintro p37 hk55
    change ZS p30 a3 p29 a0 p37 = _ at hk55
    refine nst ?_;unfold ZS at hk55;refine goL ?_;obtain ⟨_,⟨_,_,_⟩,hk55⟩:=bA hk55;obtain ⟨_,hx57,hk55⟩:=bs hk55;have ghx57:=Zj hx57;obtain ⟨j58,⟨_,j58b,_⟩,hk55⟩:=bA hk55;obtain ⟨_,hx59,hk55⟩:=bs hk55;have ghx59:=Zj hx59;obtain ⟨y60,ehy60,hk55⟩:=bN hk55 Zag;try simp only [Za] at ehy60
    refine ZaH rfl (kq:=⟨[0,2,3,8,9],[1000000],[]⟩) rfl (by simp [-Zb,Za,Yk, *]; rfl) (by simp [-Zb,Za, *]; first | exact ⟨rfl,rfl⟩ | rfl) (by kernel_rfl) ?_;by_cases c61 : y60 = true
    ·replace hk55:=ifN hk55
     refine goL ?_;have ghx59:=Zj hx59;have ghx57:=Zj hx57;obtain ⟨j62,⟨_,j62b,j62c⟩,hk55⟩:=bA hk55;try simp only [List.length_set] at j62c
     obtain rfl : j58 = j62:=j58b.symm.trans j62b;refine goL ?_;exact bk hk55
    ·replace hk55:=ifP hk55
     refine goL ?_;obtain ⟨_,hk55⟩:=bC hk55;exact fin hk55
   ·intro J55
    by_cases c64 : y53 = true
    ·replace hr44:=ifP hr44
     refine goL ?_;exact jn 1000005 (J55 (IntKind.i64.wrap ((IntKind.i64.wrap ((IntKind.i64.wrap (2 * p29)) + 1)) + 1)) hr44)
    ·replace hr44:=ifN hr44
     refine goL ?_;exact jn 1000005 (J55 (IntKind.i64.wrap ((IntKind.i64.wrap (2 * p29)) + 1)) hr44)
  ·replace hr44:=Zgc hr44
   obtain ⟨_,hz65,hr44⟩:=bs hr44;obtain rfl:=Option.some.inj hz65;refine goL ?_
   replace hr44:=ifN hr44
   refine goL ?_;unfold ZS at hr44;refine goL ?_;obtain ⟨_,⟨_,_,_⟩,hr44⟩:=bA hr44;obtain ⟨_,hx67,hr44⟩:=bs hr44;have ghx67:=Zj hx67;obtain ⟨j68,⟨_,j68b,_⟩,hr44⟩:=bA hr44;obtain ⟨_,hx69,hr44⟩:=bs hr44;have ghx69:=Zj hx69;obtain ⟨y70,ehy70,hr44⟩:=bN hr44 Zag;try simp only [Za] at ehy70
   refine ZaH rfl (kq:=⟨[0,2,3,8,9],[1000000],[]⟩) rfl (by simp [-Zb,Za,Yk, *]; rfl) (by simp [-Zb,Za, *]; first | exact ⟨rfl,rfl⟩ | rfl) (by kernel_rfl) ?_;by_cases c71 : y70 = true
   ·replace hr44:=ifN hr44
    refine goL ?_;have ghx69:=Zj hx69;have ghx67:=Zj hx67;obtain ⟨j72,⟨_,j72b,j72c⟩,hr44⟩:=bA hr44;try simp only [List.length_set] at j72c
    obtain rfl : j68 = j72:=j68b.symm.trans j72b;refine goL ?_;exact bk hr44
   ·replace hr44:=ifP hr44
    refine goL ?_;obtain ⟨_,hr44⟩:=bC hr44;exact fin hr44
theorem w202_3 : Walk tt G [(228,K228_2.G)] (fun d=>if d = 26 then [[1000001]] else if d = 55 then [[1000001]] else []) Tryz.f202 K202_3:=by
 refine .of [(4,⟨[0,6,7,8,9],[1000000],[]⟩),(8,⟨[0,6,7,10],[1000000],[]⟩)] false body202 Tryz.ntmps202 fun T hO hT ⟨a0,a1,a2⟩ x hr=>⟨by simp,?_⟩
 simp only [Zq] at hT; simp only at hr ⊢; unfold c202;unfold YL at hr;refine goL ?_;refine lp 4 (fun (⟨p7,p8⟩ : Int×(List Int))=>⟨([.one (.ms 1000000 0 0 (p8.length) 1)]++(und 5++([.one (.v (.int .i64 a1)),.one (.v (.int .i64 0)),.one (.v (.int .i64 (IntKind.i64.wrap (a2 - a1)))),.one (.v (.int .i64 p7))]++(und 46))) : List PV),([(1000000,⟨0,1,Ze .u64 p8,false,true⟩)] : Boxes)⟩) hr ?_;rintro ⟨p7,p8⟩ x44r hr44
 simp only [Y0] at hr44;unfold b202_1;refine nst ?_;refine goL ?_;by_cases c45 : 0≤p7
 ·replace hr44:=ifP hr44
  refine goL ?_;obtain ⟨_,ehy46,hr44⟩:=bN hr44 Zj2;try simp only [Za] at ehy46
  obtain ⟨u47_0,hr44⟩:=bC hr44;have ck48:=Z1 (k:=.u64) u47_0;refine goL ?_;exact bk hr44
 ·replace hr44:=ifN hr44
  refine goL ?_;obtain ⟨r49,q49,rfl⟩:=ms hr44;refine goL ?_;rintro rfl
  refine goL ?_;unfold XK at q49;refine goL ?_;refine lp 8 (fun (⟨p27,p28⟩ : Int×(List Int))=>⟨([.one (.ms 1000000 0 0 (p28.length) 1)]++(und 5++([.one (.v (.int .i64 a1)),.one (.v (.int .i64 0))]++(und 2++([.one (.v (.int .i64 p27))]++(und 45))))) : List PV),([(1000000,⟨0,1,Ze .u64 p28,false,true⟩)] : Boxes)⟩) q49 ?_;rintro ⟨p27,p28⟩ x50r hr50
  simp only [YZ] at hr50;unfold b202_2;refine nst ?_;refine goL ?_;by_cases c51 : 0≤p27
  ·replace hr50:=ifP hr50
   refine goL ?_;obtain ⟨j52,⟨_,j52b,_⟩,hr50⟩:=bA hr50;obtain ⟨_,hx53,hr50⟩:=bs hr50;have ghx53:=Zj hx53;obtain ⟨_,⟨_,_,_⟩,hr50⟩:=bA hr50;obtain ⟨_,hx55,hr50⟩:=bs hr50;have ghx55:=Zj hx55;obtain ⟨j56,⟨_,j56b,j56c⟩,hr50⟩:=bA hr50;try simp only [List.length_set] at j56c
   obtain rfl : j52 = j56:=j52b.symm.trans j56b;refine goL ?_;obtain ⟨_,ehy57,hr50⟩:=bN hr50 Zj2;try simp only [Za] at ehy57
   obtain ⟨u58_0,hr50⟩:=bC hr50;have ck59:=Z1 (k:=.u64) u58_0;simp only [List.length_set] at ck59 u58_0;refine goL ?_;exact bk hr50
  ·replace hr50:=ifN hr50
   refine goL ?_;obtain ⟨_,hr50⟩:=bC hr50;exact fin hr50
end Go.Proofs.YthpkpciceodioaaGreatDoor
