import Derived.Test.YthpkpciceodioaaGreatDoorLfK
import Derived.Test.YthpkpciceodioaaGreatDoorCode
import Derived.Test.YthpkpciceodioaaGreatDoorBl
namespace Go.Proofs.YthpkpciceodioaaGreatDoor
open Go.RowKit
open Go.Av
open Go.Lc
set_option maxRecDepth 100000
set_option linter.unusedSimpArgs false
set_option linter.unusedVariables false
set_option maxHeartbeats 4000000
theorem w113_10 : Walk tt G [(164,G164_8),(165,K165.G)] (fun d=>if d = 10 then [[1000001]] else []) Tryz.f113 K113_10:=by
 refine .of [] false body113 Tryz.ntmps113 fun T hO hT a0 x hr=>⟨by simp,?_⟩
 simp only [Zq] at hT; simp only at hr ⊢; unfold c113;unfold Y1 at hr;refine goL ?_;obtain ⟨_,ehy4,hr⟩:=bN hr Zl3;try simp only [Za] at ehy4
 obtain ⟨_,ehy5,hr⟩:=bG hr fun _=>Zoj
 simp only [XS,Zah,nf,nfs] at ehy5;try simp only [Za] at ehy5
 obtain ⟨u6_0,hr⟩:=bC hr;have ck7:=Z1 (k:=.u64) u6_0;refine goL ?_;obtain ⟨u8_0,hr⟩:=bC hr;try simp only [u6_0] at u8_0
 exact fin hr
theorem w71 : Walk tt G [(111,K111.G),(112,K112.G),(113,K113_10.G)] (fun d=>if d = 31 then [[1000001]] else []) Tryz.f71 K71:=by
 refine .of [(3,⟨[2,3,4,9,12,13,14],[4,28],[(9,none,28,1)]⟩)] true body71 Tryz.ntmps71 fun T hO hT ⟨a0,a1,a2,a3⟩ x hr=>⟨by simp,?_⟩
 simp only [Zq] at hT; simp only at hr ⊢; unfold c71;unfold Zbf at hr;refine go ?_;refine lp 3 (fun (⟨p10,p11⟩ : Int×(List Int))=>⟨(und 2++([.one (.v (.int .i64 a2)),.one (.v (.int .u64 a3)),.ptr 4 0 0 0 2]++(und 4++([.one (.ms 28 0 0 (p11.length) 1)]++(und 2++([.one (.slice .no (List.map YF a1)),.one (.v (.int .i64 (a1.length : Int))),.one (.v (.int .i64 p10))]++(und 18)))))) : List PV),([(4,⟨0,2,[arC .u64 a0],false,false⟩),(28,⟨0,1,Ze .u64 p11,false,true⟩)] : Boxes)⟩) hr ?_;rintro ⟨p10,p11⟩ x29r hr29
 simp only [Za7] at hr29;unfold b71_1;refine nst ?_;refine go ?_;by_cases c30 : p10 < (a1.length : Int)
 ·have c30N:=nrm c30
  replace hr29:=ifP hr29
  refine go ?_;obtain ⟨_,⟨_,_,_⟩,hr29⟩:=bI hr29;refine go ?_;obtain ⟨_,ehy32,hr29⟩:=bN hr29 Zqt;obtain ⟨_,ehy33,hr29⟩:=bN hr29 Zqs;obtain ⟨_,hr29⟩:=bC hr29;have n1_u34_0 : (p11.length + 1) * 8≤140737488355328:=by omega
  have n2_u34_0 : p11.length + 1≤9223372036854775807:=by omega
  refine go ?_;exact bk hr29
 ·have c30N:=nrm c30
  replace hr29:=ifN hr29
  refine go ?_;obtain ⟨r35,q35,rfl⟩:=ms hr29;refine go ?_;rintro rfl
  refine go ?_;unfold Zdj at q35;obtain ⟨_,ehy36,q35⟩:=bN q35 Zm5;obtain ⟨u37_0,q35⟩:=bC q35;have ck38:=Z1 (k:=.u64) u37_0;refine go ?_;exact fin q35
def kp122_11 : Keep:=fun i=>if i = 4 then ⟨[0,3],[99000000],[]⟩ else if i = 9 then ⟨[0,3,4,5],[99000000],[]⟩ else if i = 1000010 then ⟨[0,3,4,5],[99000000],[]⟩ else ⟨[],[],[]⟩
theorem ZqS {T : Tab} (a0 : (List Int)) (x : (List Int)) (hr : Ye a0 = some x) : ∃ kp fl n,Y8 tt T G kp fl n Tryz.f122 (Zdh a0) = some (Zfy a0 x):=by
 simp only [Zdh,Zfy];refine fnE (kp:=kp122_11) (w:=true) body122 (by simp) ?_;unfold c122;rw [Tryz.ntmps122];unfold Ye at hr;refine Zd rfl (by simp []; rfl) ?_;refine Zy ?_;refine Zd rfl (by simp []; rfl) ?_;by_cases c151 : (a0.length : Int) < 2
 ·skip
  have c151N:=c151;try simp at c151N
  first | have c151M : (_ = _) = True:=eq_true c151N | have c151M:=c151N
  rw [if_pos c151] at hr;refine ZB (by simp [bV,c151,c151M]) ?_;refine Zy ?_;refine Zd rfl (by simp [c151,c151M] <;> rfl) ?_;refine ZaD ?_;obtain rfl:=Option.some.inj hr;simp [Zaj,c151,c151M,c151N]
 ·skip
  have c151N:=c151;try simp at c151N
  first | have c151M : (_ = _) = True:=eq_true c151N | have c151M:=c151N
  rw [if_neg c151] at hr;refine Zl (by simp [bV,c151,c151M]) ?_;refine Zz ?_;refine Zy ?_;refine Zd rfl (by simp [c151,c151M] <;> rfl) ?_;refine Yd ?_;refine XB (kq:=⟨[0,3],[99000000],[]⟩) (H:=fun (s : Int)=>match s with | p72=>(⟨([.one (.ms 99000000 0 0 (a0.length) 1)]++(und 2++([.one (.v (.int .i64 p72))]++(und 57))) : List PV),([(99000000,⟨0,1,Ze .u64 a0,false,true⟩)] : Boxes)⟩ : ASt)) (by kernel_rfl) hr (by simp [und,List.replicate,c151,c151M]) ?_;rintro p72 x194r hr194
  simp only [YA] at hr194;unfold b122_1;simp only [und,List.replicate,List.cons_append,List.nil_append];refine Zy ?_;refine Zd rfl (by simp [c151,c151M] <;> rfl) ?_;by_cases c195 : p72 < (a0.length : Int)
  ·skip
   have c195N:=c195;try simp at c195N
   first | have c195M : (_ = _) = True:=eq_true c195N | have c195M:=c195N
   rw [if_pos] at hr194;rotate_left
   ·simp [c151,c151M,c195,c195M]
   refine ZB (by simp [bV,c151,c151M,c195,c195M]) ?_;refine Zz ?_;refine Yd ?_;obtain ⟨j196,hj196,hr194⟩:=bs hr194;obtain ⟨j196a,j196b,j196c⟩:=Zn hj196;obtain ⟨x197,hx197,hr194⟩:=bs hr194;have ghx197:=Zj hx197;obtain ⟨j198,hj198,hr194⟩:=bs hr194;obtain ⟨j198a,j198b,j198c⟩:=Zn hj198;obtain ⟨x199,hx199,hr194⟩:=bs hr194;have ghx199:=Zj hx199;refine ZZ rfl (by simp [j196a,j196b,j196c,hx197,ghx197,j198a,j198b,j198c,hx199,ghx199,c151,c151M,c195,c195M]; first | exact ⟨rfl,rfl⟩ | rfl) (by kernel_rfl) ?_;by_cases c200 : x197 = x199
   ·skip
    rw [if_pos c200] at hr194;refine Zbn (by simp [bV,c151,c151M,c195,c195M,eq_true c200]) ?_;obtain ⟨_,u201,hr194⟩:=bs hr194;obtain ⟨u201_0,u201_1⟩:=ZA u201;have sf202 : (p72).toNat≤a0.length:=by omega
    refine Zd rfl (by simp [u201_0,u201_1,sf202,c151,c151M,c195,c195M,eq_true c200] <;> rfl) ?_;refine Zy ?_;refine Zd rfl (by simp [c151,c151M,c195,c195M,eq_true c200] <;> rfl) ?_;refine Yd ?_;refine XB (kq:=⟨[0,3,4,5],[99000000],[]⟩) (H:=fun (s : Int×Int×(List Int))=>match s with | (p131,p132,p133)=>(⟨([.one (.ms 99000000 0 0 (p133.length) 1)]++(und 2++([.one (.v (.int .i64 p131)),.one (.ms 99000000 0 ((p72).toNat) ((a0.length - (p72).toNat)) 1),.one (.v (.int .i64 p132))]++(und 55))) : List PV),([(99000000,⟨0,1,Ze .u64 p133,false,true⟩)] : Boxes)⟩ : ASt)) (by kernel_rfl) hr194 (by simp [und,List.replicate,c151,c151M,c195,c195M,eq_true c200]) ?_;rintro ⟨p131,p132,p133⟩ x215r hr215
    simp only [Yl] at hr215;unfold b122_2;simp only [und,List.replicate,List.cons_append,List.nil_append];refine Zy ?_;refine Zd rfl (by simp [c151,c151M,c195,c195M,eq_true c200] <;> rfl) ?_;by_cases c216 : p132 < (((a0.length - (p72).toNat) : Nat) : Int)
    ·skip
     have c216N:=c216;try simp at c216N
     first | have c216M : (_ = _) = True:=eq_true c216N | have c216M:=c216N
     rw [if_pos] at hr215;rotate_left
     ·simp [c151,c151M,c195,c195M,eq_true c200,c216,c216M]
     refine ZB (by simp [bV,c151,c151M,c195,c195M,eq_true c200,c216,c216M]) ?_;refine Zz ?_;refine Yd ?_;obtain ⟨j217,hj217,hr215⟩:=bs hr215;obtain ⟨j217a,j217b,j217c⟩:=Zn hj217;obtain ⟨x218,hx218,hr215⟩:=bs hr215;have ghx218:=Zj hx218;obtain ⟨j219,hj219,hr215⟩:=bs hr215;obtain ⟨j219a,j219b,j219c⟩:=Zn hj219;obtain ⟨x220,hx220,hr215⟩:=bs hr215;have ghx220:=Zj hx220;refine ZZ rfl (by simp [j217a,j217b,j217c,hx218,ghx218,j219a,j219b,j219c,hx220,ghx220,c151,c151M,c195,c195M,eq_true c200,c216,c216M]; first | exact ⟨rfl,rfl⟩ | rfl) (by kernel_rfl) ?_;refine Zb7 hr215 (.normal) (fun (s : Int×(List Int))=>match s with | (p148,p149)=>(⟨([.one (.ms 99000000 0 0 (p149.length) 1)]++(und 2++([.one (.v (.int .i64 p148)),.one (.ms 99000000 0 ((p72).toNat) ((a0.length - (p72).toNat)) 1),.one (.v (.int .i64 p132))]++(und 55))) : List PV),([(99000000,⟨0,1,Ze .u64 p149,false,true⟩)] : Boxes)⟩ : ASt)) (fun (s : Int×(List Int))=>match s with | (p148,p149)=>ZU p132 p148 p149) ?_ ?_
     ·skip
      rintro ⟨p148,p149⟩ hk223
      change ZU p132 p148 p149 = _ at hk223
      simp only [pq,reduceCtorEq];simp only [und,List.replicate,List.cons_append,List.nil_append];unfold ZU at hk223;refine Zb8 rfl (kq:=⟨[0,3,4,5],[99000000],[]⟩) rfl (by simp [Yk,c151,c151M,c195,c195M,eq_true c200,c216,c216M]; rfl) (by simp [c151,c151M,c195,c195M,eq_true c200,c216,c216M] <;> rfl) ?_;obtain rfl:=Option.some.inj hk223;simp only [pq,reduceCtorEq];simp [und,List.replicate,Nat.add_assoc,c151,c151M,c195,c195M,eq_true c200,c216,c216M]
     ·skip
      intro J223;simp only [pq,reduceCtorEq] at J223;by_cases c224 : x218 = x220
      ·skip
       rw [if_neg (not_not_intro c224)] at hr215;refine Zbo (by simp [bV,c151,c151M,c195,c195M,eq_true c200,c216,c216M,eq_true c224]) ?_;refine Zgl ?_;simp only [pq,reduceCtorEq];exact Y7 (key:=1000010) (kq:=⟨[0,3,4,5],[99000000],[]⟩) rfl rfl rfl (by simp [und,List.replicate,c151,c151M,c195,c195M,eq_true c200,c216,c216M,eq_true c224]) (J223 (p131,p133) hr215)
      ·skip
       rw [if_pos c224] at hr215;refine Zbn (by simp [bV,c151,c151M,c195,c195M,eq_true c200,c216,c216M,c224]) ?_;obtain ⟨j217a,j217b,j217c⟩:=Zn hj217;have ghx218:=Zj hx218;obtain ⟨j225,hj225,hr215⟩:=bs hr215;obtain ⟨j225a,j225b,j225c⟩:=Zn hj225;refine Zd rfl (by simp [j217a,j217b,j217c,hx218,ghx218,j225a,j225b,j225c,c151,c151M,c195,c195M,eq_true c200,c216,c216M,c224] <;> rfl) ?_;refine Y4 rfl (by simp [c151,c151M,c195,c195M,eq_true c200,c216,c216M,c224] <;> rfl) ?_;simp only [pq,reduceCtorEq];exact Y7 (key:=1000010) (kq:=⟨[0,3,4,5],[99000000],[]⟩) rfl rfl rfl (by simp [und,List.replicate,c151,c151M,c195,c195M,eq_true c200,c216,c216M,c224]) (J223 (IntKind.i64.wrap (p131 + 1),(p133).set j225 x218) hr215)
    ·skip
     have c216N:=c216;try simp at c216N
     first | have c216M : (_ = _) = True:=eq_true c216N | have c216M:=c216N
     rw [if_neg] at hr215;rotate_left
     ·simp [c151,c151M,c195,c195M,eq_true c200,c216,c216M]
     refine Zl (by simp [bV,c151,c151M,c195,c195M,eq_true c200,c216,c216M]) ?_;refine Z0 ?_;obtain ⟨r226,q226,rfl⟩:=ms hr215;simp only [pq,reduceCtorEq];rintro rfl
     try simp only [pq,reduceCtorEq]
     unfold XN at q226;obtain ⟨_,u227,q226⟩:=bs q226;obtain ⟨u227_0,u227_1⟩:=ZA u227;have sf228 : (p131).toNat≤p133.length:=by omega
     have cl229:=ZoT (k:=.u64) (l:=p133) (i:=(p131).toNat) (n:=(p133.length - (p131).toNat)) (by first | omega | (simp only [List.length_set]; omega));refine Zd rfl (by simp [u227_0,u227_1,sf228,cl229,c151,c151M,c195,c195M,eq_true c200,c216,c216M] <;> rfl) ?_;obtain ⟨_,u230,q226⟩:=bs q226;obtain ⟨u230_0,u230_1⟩:=ZA u230
     have lu230_0 : p131≤((p133.length : Nat) : Int):=by
      have h:=u230_0;try simp at h
      omega
     try simp only [Int.natCast_add] at lu230_0
     have sf231 : (p131).toNat≤(clr (p133) ((p131).toNat) (p133.length - (p131).toNat) 0).length:=by omega
     have sf232 : 0≤p131:=by omega
     have sf233 : (p131).toNat≤p133.length:=by omega
     have sf234 : 0≤p131:=by omega
     refine Zd rfl (by simp [u230_0,u230_1,lu230_0,sf231,sf232,sf233,sf234,c151,c151M,c195,c195M,eq_true c200,c216,c216M] <;> rfl) ?_;refine Zbm ?_;obtain rfl:=Option.some.inj q226;simp only [pq,reduceCtorEq];rintro rfl
     simp [Zaj,u230_0,u230_1,lu230_0,sf231,sf232,sf233,sf234,c151,c151M,c195,c195M,eq_true c200,c216,c216M,c151N,c195N,c216N]
   ·skip
    rw [if_neg c200] at hr194;refine Zbo (by simp [bV,c151,c151M,c195,c195M,c200]) ?_;refine Zgl ?_;simp only [pq,reduceCtorEq];refine Y4 rfl (by simp [c151,c151M,c195,c195M,c200] <;> rfl) ?_;obtain rfl:=Option.some.inj hr194;simp only [pq,reduceCtorEq];simp [und,List.replicate,Nat.add_assoc,c151,c151M,c195,c195M,c200]
  ·skip
   have c195N:=c195;try simp at c195N
   first | have c195M : (_ = _) = True:=eq_true c195N | have c195M:=c195N
   rw [if_neg] at hr194;rotate_left
   ·simp [c151,c151M,c195,c195M]
   refine Zl (by simp [bV,c151,c151M,c195,c195M]) ?_;refine Z0 ?_;obtain ⟨r235,q235,rfl⟩:=ms hr194;simp only [pq,reduceCtorEq];rintro rfl
   try simp only [pq,reduceCtorEq]
   unfold XM at q235;refine Zd rfl (by simp [c151,c151M,c195,c195M] <;> rfl) ?_;refine Zbm ?_;obtain rfl:=Option.some.inj q235;simp [Zaj,c151,c151M,c195,c195M,c151N,c195N]
theorem w85 : Walk tt G [(71,K71.G),(122,G122_11)] (fun d=>if d = 32 then [[1]] else []) Tryz.f85 K85:=by
 refine .of [] false body85 Tryz.ntmps85 fun T hO hT ⟨a0,a1,a2,a3⟩ x hr=>⟨by simp,?_⟩
 simp only [Zq] at hT; simp only at hr ⊢; unfold c85;unfold Zbh at hr;refine go ?_;by_cases c3 : 4096 < (a1.length : Int)
 ·have c3N:=nrm c3
  replace hr:=ifP hr
  refine go ?_;exact fin hr
 ·have c3N:=nrm c3
  replace hr:=ifN hr
  refine go ?_;by_cases c4 : a2 < 0
  ·refine go ?_
   replace hr:=ifP hr
   refine go ?_;exact fin hr
  ·by_cases c5 : 4096 < a2
   ·refine go ?_
    replace hr:=ifP hr
    refine go ?_;exact fin hr
   ·by_cases c6 : a3 < 1
    ·refine go ?_
     replace hr:=ifP hr
     refine go ?_;exact fin hr
    ·refine go ?_
     by_cases c7 : 1099511627776 < a3
     ·replace hr:=ifP hr
      refine go ?_;exact fin hr
     ·replace hr:=ifN hr
      refine go ?_;obtain ⟨_,ehy8,hr⟩:=bN hr ZrC;obtain ⟨_,ehy9,hr⟩:=bG hr fun _=>Zm6
      simp only [Zdh,Zfy,nf,nfs] at ehy9;refine go ?_;exact fin hr
theorem w47 : Walk tt G [(84,K84.G),(85,K85.G)] (fun _=>[]) Tryz.f47 K47:=by
 refine .of [(9,⟨[12,15,39,40,41],[],[]⟩),(1000013,⟨[12,15,17,39,40,41],[],[]⟩),(11,⟨[12,15,17,39,40,41],[],[]⟩)] false body47 Tryz.ntmps47 fun T hO hT ⟨a0,a1,a2,a3,a4⟩ x hr=>⟨by simp,?_⟩
 simp only [Zq] at hT; simp only at hr ⊢; unfold c47;unfold ZbH at hr;refine go ?_;obtain ⟨y53,ehy53,hr⟩:=bN hr ZrA;refine go ?_;rcases eqT (y53.2 = 0) with c54 | c54
 ·replace hr:=ifN hr
  refine go ?_;obtain ⟨y55,ehy55,hr⟩:=bN hr ZrD;refine go ?_;rcases eqT (y55.2 = 0) with c56 | c56
  ·replace hr:=ifN hr
   refine go ?_;refine lp 9 (fun (⟨p27,p28⟩ : Int×Int)=>⟨(und 12++([.one (.slice .no (Ze .u64 y53.1))]++(und 2++([.one (.v (.int .i64 p27))]++(und 23++([.one (.slice .no (Ze .u64 y55.1)),.one (.v (.int .i64 (y55.1.length : Int))),.one (.v (.int .i64 p28))]++(und 30)))))) : List PV),([] : Boxes)⟩) hr ?_;rintro ⟨p27,p28⟩ x83r hr83
   simp only [Zaw] at hr83;unfold b47_1;refine nst ?_;refine go ?_;by_cases c84 : p28 < (y55.1.length : Int)
   ·have c84N:=nrm c84
    replace hr83:=ifP hr83
    refine go ?_;obtain ⟨x85,⟨_,_,_⟩,hr83⟩:=bI hr83;refine go ?_;refine Zb7 hr83 (.exit 2) (fun (s : Int)=>match s with | p46=>(⟨(und 12++([.one (.slice .no (Ze .u64 y53.1))]++(und 2++([.one (.v (.int .i64 p46))]++(und 1++([.one (.v (.int .u64 x85))]++(und 21++([.one (.slice .no (Ze .u64 y55.1)),.one (.v (.int .i64 (y55.1.length : Int))),.one (.v (.int .i64 p28))]++(und 30)))))))) : List PV),([] : Boxes)⟩ : ASt)) (fun (s : Int)=>match s with | p46=>XP p46 y53 x85 p28) ?_ ?_
    ·rintro p46 hk94
     change XP p46 y53 x85 p28 = _ at hk94
     refine go ?_;refine nst ?_;unfold XP at hk94;by_cases c95 : p46 < (y53.1.length : Int)
     ·have c95N:=nrm c95
      replace hk94:=Zgb hk94
      obtain ⟨_,hz96,hk94⟩:=bs hk94;obtain ⟨x97,⟨_,_,_⟩,hz96⟩:=bI hz96;obtain rfl:=Option.some.inj hz96;refine Y5 rfl (kq:=⟨[12,15,17,39,40,41],[],[]⟩) rfl (by simp [Yk, *]; rfl) (by simp [*] <;> rfl) ?_;rcases eqT (x97 = x85) with c98 | c98
      ·replace hk94:=ifP hk94
       refine go ?_;exact fin hk94
      ·replace hk94:=ifN hk94
       refine go ?_;exact bk hk94
     ·have c95N:=nrm c95
      replace hk94:=Zgc hk94
      obtain ⟨_,hz99,hk94⟩:=bs hk94;obtain rfl:=Option.some.inj hz99;refine Y5 rfl (kq:=⟨[12,15,17,39,40,41],[],[]⟩) rfl (by simp [Yk, *]; rfl) (by simp [*] <;> rfl) ?_
      replace hk94:=ifN hk94
      refine go ?_;exact bk hk94
    ·intro J94
     simp only [pq,reduceCtorEq] at J94;refine lp 11 (fun (p46 : Int)=>⟨(und 12++([.one (.slice .no (Ze .u64 y53.1))]++(und 2++([.one (.v (.int .i64 p46))]++(und 1++([.one (.v (.int .u64 x85))]++(und 21++([.one (.slice .no (Ze .u64 y55.1)),.one (.v (.int .i64 (y55.1.length : Int))),.one (.v (.int .i64 p28))]++(und 30)))))))) : List PV),([] : Boxes)⟩) hr83 ?_;rintro p46 x100r hr100
     simp only [XQ] at hr100;unfold b47_2;refine nst ?_;refine go ?_;by_cases c101 : p46 < (y53.1.length : Int)
     ·have c101N:=nrm c101
      replace hr100:=Zgb hr100
      obtain ⟨_,hz102,hr100⟩:=bs hr100;obtain ⟨x103,⟨_,_,_⟩,hz102⟩:=bI hz102;obtain rfl:=Option.some.inj hz102;refine go ?_;by_cases c104 : x103 < x85
      ·replace hr100:=ifP hr100
       refine go ?_;exact bk hr100
      ·replace hr100:=ifN hr100
       refine go ?_;obtain ⟨r105,q105,rfl⟩:=ms hr100;refine go ?_;rintro rfl
       refine go ?_;exact jn 1000013 (J94 p46 q105)
     ·have c101N:=nrm c101
      replace hr100:=Zgc hr100
      obtain ⟨_,hz106,hr100⟩:=bs hr100;obtain rfl:=Option.some.inj hz106;refine go ?_
      replace hr100:=ifN hr100
      refine go ?_;obtain ⟨r107,q107,rfl⟩:=ms hr100;refine go ?_;rintro rfl
      refine go ?_;exact jn 1000013 (J94 p46 q107)
   ·have c84N:=nrm c84
    replace hr83:=ifN hr83
    refine go ?_;obtain ⟨r108,q108,rfl⟩:=ms hr83;refine go ?_;rintro rfl
    refine go ?_;unfold Lgolomb_Match_k1 at q108;refine go ?_;exact fin q108
  ·replace hr:=ifP hr
   refine go ?_;exact fin hr
 ·replace hr:=ifP hr
  refine go ?_;exact fin hr
theorem w18 : Walk tt G [(36,K36.G),(47,K47.G)] (fun _=>[]) Tryz.f18 K18:=by
 refine .of [(3,⟨[3,4,8,11,12,13],[3,4,23],[(8,none,23,1)]⟩),(1000007,⟨[3,4,8,11,12,13],[3,4,23],[]⟩)] false body18 Tryz.ntmps18 fun T hO hT ⟨a0,a1,a2⟩ x hr=>⟨by simp,?_⟩
 simp only [Zq] at hT; simp only at hr ⊢; unfold c18;unfold ZbI at hr;refine go ?_;refine lp 3 (fun (⟨p8,p9⟩ : Int×(List (List Int)))=>⟨(und 3++([.ptr 3 0 0 0 2,.ptr 4 0 0 0 32]++(und 3++([.one (.ms 23 0 0 (p9.length) 1)]++(und 2++([.one (.slice .no (List.map YF a2)),.one (.v (.int .i64 (a2.length : Int))),.one (.v (.int .i64 p8))]++(und 18)))))) : List PV),([(3,⟨0,2,[[.v (.int .i64 a0.1),.slice .no (Ze .u8 a0.2)]],false,false⟩),(4,⟨0,32,[arC .u8 a1],false,false⟩),(23,⟨0,1,List.map YF p9,false,true⟩)] : Boxes)⟩) hr ?_;rintro ⟨p8,p9⟩ x28r hr28
 simp only [Zco] at hr28;unfold b18_1;refine nst ?_;refine go ?_;by_cases c29 : p8 < (a2.length : Int)
 ·have c29N:=nrm c29
  replace hr28:=ifP hr28
  refine go ?_;obtain ⟨x30,⟨_,_,_⟩,hr28⟩:=bI hr28;refine go ?_;refine Zb7 hr28 (.normal) (fun (s : (List (List Int)))=>match s with | p17=>(⟨(und 3++([.ptr 3 0 0 0 2,.ptr 4 0 0 0 32]++(und 3++([.one (.ms 23 0 0 (p17.length) 1)]++(und 2++([.one (.slice .no (List.map YF a2)),.one (.v (.int .i64 (a2.length : Int))),.one (.v (.int .i64 p8))]++(und 18)))))) : List PV),([(3,⟨0,2,[[.v (.int .i64 a0.1),.slice .no (Ze .u8 a0.2)]],false,false⟩),(4,⟨0,32,[arC .u8 a1],false,false⟩),(23,⟨0,1,List.map YF p17,false,true⟩)] : Boxes)⟩ : ASt)) (fun (s : (List (List Int)))=>match s with | p17=>Zax p8 p17) ?_ ?_
  ·rintro p17 hk33
   change Zax p8 p17 = _ at hk33
   refine go ?_;refine nst ?_;unfold Zax at hk33;refine Zb8 rfl (kq:=⟨[3,4,8,11,12,13],[3,4,23],[]⟩) rfl (by simp [Yk, *]; rfl) (by simp [*] <;> rfl) ?_;exact bk hk33
  ·intro J33
   simp only [pq,reduceCtorEq] at J33;by_cases c34 : 0 < (x30.length : Int)
   ·have c34N:=nrm c34
    replace hr28:=ifP hr28
    refine go ?_;obtain ⟨_,hr28⟩:=bC hr28;have n1_u35_0 : (p9.length + 1) * 24≤140737488355328:=by omega
    have n2_u35_0 : p9.length + 1≤9223372036854775807:=by omega
    refine go ?_;exact jn 1000007 (J33 (p9++[x30]) hr28)
   ·have c34N:=nrm c34
    have c34L : ¬ 0 < x30.length:=by omega
    replace hr28:=ifN hr28
    refine go ?_;exact jn 1000007 (J33 p9 hr28)
 ·have c29N:=nrm c29
  replace hr28:=ifN hr28
  refine go ?_;obtain ⟨r36,q36,rfl⟩:=ms hr28;refine go ?_;rintro rfl
  refine go ?_;unfold Zd2 at q36;obtain ⟨_,ehy37,q36⟩:=bN q36 Zrz;obtain ⟨_,ehy38,q36⟩:=bN q36 ZrE;refine go ?_;exact fin q36
end Go.Proofs.YthpkpciceodioaaGreatDoor
