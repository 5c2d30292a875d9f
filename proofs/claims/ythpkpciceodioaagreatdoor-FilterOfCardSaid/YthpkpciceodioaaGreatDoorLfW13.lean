import Derived.Test.YthpkpciceodioaaGreatDoorLfK
import Derived.Test.YthpkpciceodioaaGreatDoorCode
import Derived.Test.YthpkpciceodioaaGreatDoorBl
namespace Go.Proofs.YthpkpciceodioaaGreatDoor
open Go.RowKit
open Go.Av
open Go.Lc
set_option maxRecDepth 100000
set_option linter.unusedSimpArgs false
set_option linter.unusedVariables false
set_option maxHeartbeats 4000000
def kp3:Keep:=fun i=>⟨[],[],[]⟩
theorem w3 {T:Tab} (hO:T.own=fun _=>[]) (hT9:T 9=some K9.G) (hT10:T 10=some K10.G) (hT11:T 11=some K11.G) (hT12:T 12=some K12.G) (hT13:T 13=some K13.G) (hT14:T 14=some K14.G) (hT15:T 15=some K15.G) (hT16:T 16=some K16.G) (a0:Tapi_Block) (x:Bool) (hr:Zag a0=some x):∃ kp fl n,Xj tt T G kp fl n Tryz.f3 (E3 a0)=some (R3 a0 x):=by
 simp only [E3,R3];refine fnE (kp:=kp3) (w:=false) body3 (by simp) ?_;unfold c3;rw [Tryz.ntmps3];unfold Zag at hr;refine Ze rfl (by simp []; rfl) ?_;refine ZE ?_;obtain ⟨y10,hy10,hr⟩:=bs hr;have ehy10:=Zwu hy10;simp only [K9] at ehy10;refine Ze rfl (by simp [hT9,ehy10]; rfl) ?_;by_cases c11:y10=true
 ·skip
  rw [if_neg (not_not_intro c11)] at hr;refine Zn (by simp [bV,c11]) ?_;refine ZB ?_;refine ZE ?_;obtain ⟨y12,hy12,hr⟩:=bs hr;have ehy12:=Zu4 hy12;simp only [K10] at ehy12;refine Ze rfl (by simp [hO,hT10,ehy12,c11]; rfl) ?_;by_cases c13:y12=true
  ·skip
   rw [if_neg (not_not_intro c13)] at hr;refine Zn (by simp [bV,c13]) ?_;refine ZB ?_;obtain ⟨y14,hy14,hr⟩:=bs hr;have ehy14:=Zvh hy14;simp only [K11] at ehy14;refine Ze rfl (by simp [hO,hT11,ehy14,c13]; rfl) ?_;obtain ⟨y15,hy15,hr⟩:=bs hr;have ehy15:=Zvu hy15;simp only [K12] at ehy15;refine Ze rfl (by simp [hO,hT12,ehy15]; rfl) ?_;obtain ⟨y16,hy16,hr⟩:=bs hr;have ehy16:=ZqW hy16;simp only [K14] at ehy16;obtain ⟨y17,hy17,hr⟩:=bs hr;have ehy17:=Zq7 hy17;simp only [K15] at ehy17;obtain ⟨y18,hy18,hr⟩:=bs hr;have ehy18:=Zvv hy18;simp only [K13] at ehy18;by_cases c19:y18=true
   ·skip
    by_cases c20:y14.2=y15.2
    ·skip
     rw [if_pos] at hr;rotate_left
     ·simp [c19,eq_true c20]
     obtain ⟨z21,hz21,hr⟩:=bs hr;obtain ⟨y22,hy22,hz21⟩:=bs hz21;have ehy22:=Zvw hy22;simp only [K16] at ehy22;obtain rfl:=Option.some.inj hz21;refine ZY rfl (by simp [hO,hT14,ehy16,hT15,ehy17,hT13,ehy18,hT16,ehy22,c19,eq_true c20]; first | exact ⟨rfl,rfl⟩ | rfl) (by kernel_rfl) ?_;refine ZbR ?_;obtain rfl:=Option.some.inj hr;simp [ZaN,c19,eq_true c20]
    ·skip
     rw [if_neg] at hr;rotate_left
     ·simp [c19,c20]
     obtain ⟨z23,hz23,hr⟩:=bs hr;obtain rfl:=Option.some.inj hz23;refine ZY rfl (by simp [hO,hT14,ehy16,hT15,ehy17,hT13,ehy18,c19,c20]; first | exact ⟨rfl,rfl⟩ | rfl) (by kernel_rfl) ?_;refine ZbR ?_;obtain rfl:=Option.some.inj hr;simp [ZaN,c19,c20]
   ·skip
    rw [if_neg] at hr;rotate_left
    ·simp [c19]
    obtain ⟨z24,hz24,hr⟩:=bs hr;obtain rfl:=Option.some.inj hz24;refine ZY rfl (by simp [hO,hT14,ehy16,hT15,ehy17,hT13,ehy18,c19]; first | exact ⟨rfl,rfl⟩ | rfl) (by kernel_rfl) ?_;refine ZbR ?_;obtain rfl:=Option.some.inj hr;simp [ZaN,c19]
  ·skip
   rw [if_pos c13] at hr;refine ZK (by simp [bV,c13]) ?_;refine ZE ?_;refine Ze rfl (by simp [c13]; rfl) ?_;refine Zck ?_;obtain rfl:=Option.some.inj hr;simp [ZaN]
 ·skip
  rw [if_pos c11] at hr;refine ZK (by simp [bV,c11]) ?_;refine ZE ?_;refine Ze rfl (by simp [c11]; rfl) ?_;refine Zck ?_;obtain rfl:=Option.some.inj hr;simp [ZaN]
theorem w191:Walk tt G [] (fun _=>[]) Tryz.f191 K191:=by
 refine .of [] false body191 Tryz.ntmps191 fun T hO hT ⟨a0,a1⟩ x hr=>⟨by simp,?_⟩
 simp only [Zi] at hT; simp only at hr ⊢; unfold c191;unfold Zc8 at hr;refine go ?_;obtain ⟨j3,⟨_,_,_⟩,hr⟩:=bA hr;have j3d:j3≤3:=by omega
 obtain ⟨_,hr⟩:=bC hr;refine go ?_;exact fin hr
theorem w143:Walk tt G [(191,K191.G)] (fun _=>[]) Tryz.f143 K143:=by
 refine .of [(7,⟨[1,2,4,5,6],[2,4,5],[]⟩),(1000008,⟨[1,2,4,5,6],[2,4,5],[]⟩)] false body143 Tryz.ntmps143 fun T hO hT ⟨a0,a1⟩ x hr=>⟨by simp,?_⟩
 simp only [Zi] at hT; simp only at hr ⊢; unfold c143;unfold Zc9 at hr;refine go ?_;by_cases c23:a1≤0
 ·replace hr:=ifP hr
  refine go ?_;exact fin hr
 ·replace hr:=ifN hr
  refine go ?_;by_cases c24:256≤a1
  ·replace hr:=ifP hr
   refine go ?_;exact fin hr
  ·replace hr:=ifN hr
   refine go ?_;refine lp 7 (fun (⟨p11,p12⟩:Int×(Arr 4))=>⟨(und 1++([.one (.v (.int .i64 a1)),.ptr 2 0 0 0 4]++(und 1++([.ptr 4 0 0 0 4,.ptr 5 0 0 0 4,.one (.v (.int .i64 p11))]++(und 27)))):List PV),([(2,⟨0,4,[arC .u64 a0],false,false⟩),(4,⟨0,4,[arC .u64 (zA 4)],false,false⟩),(5,⟨0,4,[arC .u64 p12],false,false⟩)]:Boxes)⟩) hr ?_;rintro ⟨p11,p12⟩ x42r hr42
   simp only [Ze0] at hr42;unfold b143_1;refine nst ?_;refine go ?_;by_cases c43:IntKind.i64.wrap (p11+a1)<256
   ·replace hr42:=ifP hr42
    refine go ?_;obtain ⟨y44,ehy44,hr42⟩:=bN hr42 ZoR;refine go ?_;refine ZeA hr42 (.normal) (fun (s:(Arr 4))=>match s with | p20=>(⟨(und 1++([.one (.v (.int .i64 a1)),.ptr 2 0 0 0 4]++(und 1++([.ptr 4 0 0 0 4,.ptr 5 0 0 0 4,.one (.v (.int .i64 p11))]++(und 27)))):List PV),([(2,⟨0,4,[arC .u64 a0],false,false⟩),(4,⟨0,4,[arC .u64 (zA 4)],false,false⟩),(5,⟨0,4,[arC .u64 p20],false,false⟩)]:Boxes)⟩:ASt)) (fun (s:(Arr 4))=>match s with | p20=>Zbx p11 p20) ?_ ?_
    ·rintro p20 hk51
     change Zbx p11 p20=_ at hk51
     refine go ?_;refine nst ?_;unfold Zbx at hk51;refine Zeh rfl (kq:=⟨[1,2,4,5,6],[2,4,5],[]⟩) rfl (by simp [Yq, *]; rfl) (by simp [*]; rfl) ?_;exact bk hk51
    ·intro J51
     simp only [pq,reduceCtorEq] at J51;by_cases c52:y44=true
     ·replace hr42:=ifP hr42
      refine go ?_;obtain ⟨j53,⟨_,_,j53c⟩,hr42⟩:=bA hr42;have j53d:j53≤3:=by omega
      obtain ⟨_,hr42⟩:=bC hr42;have j53d:j53≤3:=by omega
      have ap57:=Xq (k:=.u64) (p12) (i:=j53) j53c (bits .or .u64 (p12.at j53) (IntKind.u64.wrap (1 * (2 ^ (min ((p11).tmod 64).toNat 64)))));have ap57N:=ap57;simp only [Int.one_mul] at ap57N;refine go ?_;exact jn 1000008 (J51 (p12.put j53 (bits .or .u64 (p12.at j53) (IntKind.u64.wrap (1 * (2 ^ (min ((p11).tmod 64).toNat 64)))))) hr42)
     ·replace hr42:=ifN hr42
      refine go ?_;exact jn 1000008 (J51 p12 hr42)
   ·replace hr42:=ifN hr42
    refine go ?_;obtain ⟨r58,q58,rfl⟩:=ms hr42;refine go ?_;rintro rfl
    refine go ?_;unfold ZeZ at q58;refine go ?_;exact fin q58
theorem w192:Walk tt G [] (fun _=>[]) Tryz.f192 K192:=by
 refine .of [] false body192 Tryz.ntmps192 fun T hO hT a0 x hr=>⟨by simp,?_⟩
 simp only [Zi] at hT; simp only at hr ⊢; unfold c192;unfold ZcC at hr;refine go ?_;exact fin hr
theorem w222:Walk tt G [] (fun _=>[]) Tryz.f222 K222:=by
 refine .of [] false body222 Tryz.ntmps222 fun T hO hT a0 x hr=>⟨by simp,?_⟩
 simp only [Zi] at hT; simp only at hr ⊢; unfold c222;unfold Zbr at hr;refine go ?_;exact fin hr
theorem w225:Walk tt G [(191,K191.G)] (fun _=>[]) Tryz.f225 K225:=by
 refine .of [(2,⟨[1,3],[1],[]⟩)] false body225 Tryz.ntmps225 fun T hO hT a0 x hr=>⟨by simp,?_⟩
 simp only [Zi] at hT; simp only at hr ⊢; unfold c225;unfold Zeq at hr;refine go ?_;refine lp 2 (fun (p4:Int)=>⟨(und 1++([.ptr 1 0 0 0 4]++(und 1++([.one (.v (.int .i64 p4))]++(und 9)))):List PV),([(1,⟨0,4,[arC .u64 a0],false,false⟩)]:Boxes)⟩) hr ?_;rintro p4 x12r hr12
 simp only [Ze1] at hr12;unfold b225_1;refine nst ?_;refine go ?_;by_cases c13:0≤p4
 ·replace hr12:=ifP hr12
  refine go ?_;obtain ⟨y14,ehy14,hr12⟩:=bN hr12 ZoR;refine go ?_;by_cases c15:y14=true
  ·replace hr12:=ifP hr12
   refine go ?_;exact fin hr12
  ·replace hr12:=ifN hr12
   refine go ?_;exact bk hr12
 ·replace hr12:=ifN hr12
  refine go ?_;obtain ⟨r16,q16,rfl⟩:=ms hr12;refine go ?_;rintro rfl
  refine go ?_;unfold Lref02_Len_k1 at q16;refine go ?_;exact fin q16
theorem v237:Zo7 Tryz.prog G 237 G237:=by
 refine Zqn (k:=.u64) (p:=fun x y b=>(x+y+b) % 18446744073709551616) (q:=fun x y b=>(x+y+b) / 18446744073709551616) (ok:=fun x y b=>b≤1) (fun ps r hF=>?_) (fun x y b w hx=>ZvZ x y b hx w);obtain ⟨⟨x,y,b⟩,rfl,h⟩:=ZdZ hF;obtain ⟨z,hz,rfl⟩:=Option.map_eq_some_iff.1 h;unfold Za5 at hz;obtain ⟨_,u1,hz⟩:=bs hz;obtain rfl:=Option.some.inj hz;obtain ⟨⟨h1,h2⟩,⟨h3,h4⟩,h5⟩:=ZC u1;obtain ⟨x,rfl⟩:=Int.eq_ofNat_of_zero_le h1;obtain ⟨y,rfl⟩:=Int.eq_ofNat_of_zero_le h2;obtain ⟨b,rfl⟩:=Int.eq_ofNat_of_zero_le h4;have h3':(y:Int)≤18446744073709551615:=h3;have h5':(b:Int)≤1:=h5;refine ⟨x,y,b,by omega,rfl,?_⟩;have e1:((x:Int)+y+b) % 18446744073709551616=(((x+y+b) % 18446744073709551616:Nat):Int):=by omega
 have e2:((x:Int)+y+b) / 18446744073709551616=(((x+y+b) / 18446744073709551616:Nat):Int):=by omega
 simp only [ZpP,e1,e2]
theorem w238:Walk tt G [(237,G237)] (fun _=>[]) Tryz.f238 K238:=by
 refine .of [(4,⟨[2,3,4,6,7,9],[2,3,4,6],[]⟩)] false body238 Tryz.ntmps238 fun T hO hT ⟨a0,a1⟩ x hr=>⟨by simp,?_⟩
 simp only [Zi] at hT; simp only at hr ⊢; unfold c238;unfold Zer at hr;refine go ?_;refine lp 4 (fun (⟨p7,p8,p9⟩:Int×Int×(Arr 4))=>⟨(und 2++([.ptr 2 0 0 0 4,.ptr 3 0 0 0 4,.ptr 4 0 0 0 4]++(und 1++([.ptr 6 0 0 0 4,.one (.v (.int .u64 p7))]++(und 1++([.one (.v (.int .i64 p8))]++(und 19)))))):List PV),([(2,⟨0,4,[arC .u64 a0],false,false⟩),(3,⟨0,4,[arC .u64 a1],false,false⟩),(4,⟨0,4,[arC .u64 (zA 4)],false,false⟩),(6,⟨0,4,[arC .u64 p9],false,false⟩)]:Boxes)⟩) hr ?_;rintro ⟨p7,p8,p9⟩ x24r hr24
 simp only [Ze3] at hr24;unfold b238_1;refine nst ?_;refine go ?_;by_cases c25:p8<4
 ·replace hr24:=ifP hr24
  refine go ?_;obtain ⟨j26,⟨_,_,_⟩,hr24⟩:=bA hr24;have j26d:j26≤3:=by omega
  have j26d:j26≤3:=by omega
  obtain ⟨_,ehy31,hr24⟩:=bG hr24 fun _=>Zua
  simp only [ZlW,ZpP,nf,nfs] at ehy31;have j26d:j26≤3:=by omega
  refine go ?_;exact bk hr24
 ·replace hr24:=ifN hr24
  refine go ?_;obtain ⟨r33,q33,rfl⟩:=ms hr24;refine go ?_;rintro rfl
  refine go ?_;unfold Ze2 at q33;refine go ?_;exact fin q33
theorem w226:Walk tt G [(238,K238.G)] (fun _=>[]) Tryz.f226 K226:=by
 refine .of [(3,⟨[1,2,4],[2,4],[]⟩)] false body226 Tryz.ntmps226 fun T hO hT ⟨a0,a1⟩ x hr=>⟨by simp,?_⟩
 simp only [Zi] at hT; simp only at hr ⊢; unfold c226;unfold Zes at hr;refine go ?_;by_cases c9:256≤a1
 ·replace hr:=ifP hr
  refine go ?_;exact fin hr
 ·replace hr:=ifN hr
  refine go ?_;refine lp 3 (fun (⟨p5,p6⟩:Int×(Arr 4))=>⟨(und 1++([.one (.v (.int .i64 p5)),.ptr 2 0 0 0 4]++(und 1++([.ptr 4 0 0 0 4]++(und 14)))):List PV),([(2,⟨0,4,[arC .u64 p6],false,false⟩),(4,⟨0,4,[arC .u64 (zA 4)],false,false⟩)]:Boxes)⟩) hr ?_;rintro ⟨p5,p6⟩ x14r hr14
  simp only [Lref02_Shl_s1] at hr14;unfold b226_1;refine nst ?_;refine go ?_;by_cases c15:0<p5
  ·replace hr14:=ifP hr14
   refine go ?_;obtain ⟨_,ehy16,hr14⟩:=bN hr14 Zub;refine go ?_;exact bk hr14
  ·replace hr14:=ifN hr14
   refine go ?_;obtain ⟨r17,q17,rfl⟩:=ms hr14;refine go ?_;rintro rfl
   refine go ?_;unfold Ze4 at q17;refine go ?_;exact fin q17
theorem w188:Walk tt G [(143,K143.G),(192,K192.G),(222,K222.G),(225,K225.G),(226,K226.G)] (fun _=>[]) Tryz.f188 K188:=by
 refine .of [(1000010,⟨[2,6],[2,6],[]⟩)] false body188 Tryz.ntmps188 fun T hO hT a0 x hr=>⟨by simp,?_⟩
 simp only [Zi] at hT; simp only at hr ⊢; unfold c188;unfold Zdm at hr;refine go ?_;obtain ⟨_,ehy14,hr⟩:=bN hr Zt8;refine go ?_;rcases eqT (bits .and .u32 a0 8388608=0) with c15 | c15
 ·replace hr:=ifN hr
  refine go ?_;refine ZaU hr (fun (s:(Arr 4))=>match s with | p7=>(⟨(und 2++([.ptr 2 0 0 0 4]++(und 3++([.ptr 6 0 0 0 4]++(und 41)))):List PV),([(2,⟨0,4,[arC .u64 (zA 4)],false,false⟩),(6,⟨0,4,[arC .u64 p7],false,false⟩)]:Boxes)⟩:ASt)) (fun (s:(Arr 4))=>match s with | p7=>Zay p7) ?_ ?_
  ·rintro p7 hk26
   change Zay p7=_ at hk26
   refine nst ?_;unfold Zay at hk26;refine go ?_;obtain ⟨y27,ehy27,hk26⟩:=bN hk26 ZoS;refine Xe rfl (kq:=⟨[2,6],[2,6],[]⟩) rfl (by simp [Yq, *]; rfl) (by simp [*]; rfl) ?_;by_cases c28:y27=true
   ·replace hk26:=ifP hk26
    refine go ?_;exact fin hk26
   ·replace hk26:=ifN hk26
    refine go ?_;exact fin hk26
  ·intro J26
   by_cases c29:IntKind.i64.wrap ((a0).fdiv 16777216)<3
   ·replace hr:=ifP hr
    refine go ?_;obtain ⟨y30,ehy30,hr⟩:=bN hr Zt7;refine go ?_;exact jn 1000010 (J26 y30 hr)
   ·replace hr:=ifN hr
    refine go ?_;obtain ⟨y31,ehy31,hr⟩:=bN hr ZoS;by_cases c32:y31=true
    ·replace hr:=ZiZ hr
     obtain ⟨_,hz33,hr⟩:=bs hr;obtain rfl:=Option.some.inj hz33;refine go ?_
     replace hr:=ifN hr
     refine go ?_;obtain ⟨y34,ehy34,hr⟩:=bN hr ZoT;refine go ?_;exact jn 1000010 (J26 y34 hr)
    ·replace hr:=ZiY hr
     obtain ⟨_,hz35,hr⟩:=bs hr;obtain ⟨y36,ehy36,hz35⟩:=bN hz35 Zt9;obtain rfl:=Option.some.inj hz35;refine go ?_;by_cases c37:256<IntKind.i64.wrap (y36+(IntKind.i64.wrap (8 * (IntKind.i64.wrap ((IntKind.i64.wrap ((a0).fdiv 16777216))-3)))))
     ·replace hr:=ifP hr
      refine go ?_;exact fin hr
     ·replace hr:=ifN hr
      refine go ?_;obtain ⟨y38,ehy38,hr⟩:=bN hr ZoT;refine go ?_;exact jn 1000010 (J26 y38 hr)
 ·replace hr:=ifP hr
  refine go ?_;exact fin hr
theorem w189:Walk tt G [] (fun _=>[]) Tryz.f189 K189:=by
 refine .of [(2,⟨[2,3,5],[2,3],[]⟩)] false body189 Tryz.ntmps189 fun T hO hT ⟨a0,a1⟩ x hr=>⟨by simp,?_⟩
 simp only [Zi] at hT; simp only at hr ⊢; unfold c189;unfold ZfI at hr;refine go ?_;refine lp 2 (fun (p3:Int)=>⟨(und 2++([.ptr 2 0 0 0 4,.ptr 3 0 0 0 4]++(und 1++([.one (.v (.int .i64 p3))]++(und 18)))):List PV),([(2,⟨0,4,[arC .u64 a0],false,false⟩),(3,⟨0,4,[arC .u64 a1],false,false⟩)]:Boxes)⟩) hr ?_;rintro p3 x20r hr20
 simp only [ZeY] at hr20;unfold b189_1;refine nst ?_;refine go ?_;by_cases c21:0≤p3
 ·replace hr20:=ifP hr20
  refine go ?_;obtain ⟨j22,⟨_,_,_⟩,hr20⟩:=bA hr20;have j22d:j22≤3:=by omega
  have j22d:j22≤3:=by omega
  refine go ?_;by_cases c27:a0.at j22<a1.at j22
  ·replace hr20:=ifP hr20
   refine go ?_;exact fin hr20
  ·replace hr20:=ifN hr20
   refine go ?_;have j22d:j22≤3:=by omega
   have j22d:j22≤3:=by omega
   refine go ?_;by_cases c32:a1.at j22<a0.at j22
   ·replace hr20:=ifP hr20
    refine go ?_;exact fin hr20
   ·replace hr20:=ifN hr20
    refine go ?_;exact bk hr20
 ·replace hr20:=ifN hr20
  refine go ?_;obtain ⟨r33,q33,rfl⟩:=ms hr20;refine go ?_;rintro rfl
  refine go ?_;unfold Lref02_Cmp_k1 at q33;refine go ?_;exact fin q33
theorem w190:Walk tt G [] (fun _=>[]) Tryz.f190 K190:=by
 refine .of [(3,⟨[1,2,3,6],[1,2,3],[]⟩)] false body190 Tryz.ntmps190 fun T hO hT a0 x hr=>⟨by simp,?_⟩
 simp only [Zi] at hT; simp only at hr ⊢; unfold c190;unfold ZbZ at hr;refine go ?_;refine lp 3 (fun (⟨p8,p9⟩:Int×(Arr 4))=>⟨(und 1++([.ptr 1 0 0 0 32,.ptr 2 0 0 0 4,.ptr 3 0 0 0 4]++(und 2++([.one (.v (.int .i64 p8))]++(und 20)))):List PV),([(1,⟨0,32,[arC .u8 a0],false,false⟩),(2,⟨0,4,[arC .u64 (zA 4)],false,false⟩),(3,⟨0,4,[arC .u64 p9],false,false⟩)]:Boxes)⟩) hr ?_;rintro ⟨p8,p9⟩ x27r hr27
 simp only [Zb6] at hr27;unfold b190_1;refine nst ?_;refine go ?_;by_cases c28:p8<32
 ·replace hr27:=ifP hr27
  refine go ?_;obtain ⟨j29,⟨_,_,_⟩,hr27⟩:=bA hr27;have j29d:j29≤3:=by omega
  obtain ⟨j32,⟨_,_,_⟩,hr27⟩:=bA hr27;have j32d:j32≤31:=by omega
  obtain ⟨_,hr27⟩:=bC hr27;have j29d:j29≤3:=by omega
  refine go ?_;exact bk hr27
 ·replace hr27:=ifN hr27
  refine go ?_;obtain ⟨r37,q37,rfl⟩:=ms hr27;refine go ?_;rintro rfl
  refine go ?_;unfold Zb5 at q37;refine go ?_;exact fin q37
end Go.Proofs.YthpkpciceodioaaGreatDoor
