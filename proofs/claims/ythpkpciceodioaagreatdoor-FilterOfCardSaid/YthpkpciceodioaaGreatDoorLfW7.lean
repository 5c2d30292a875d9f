import Derived.Test.YthpkpciceodioaaGreatDoorLfK
import Derived.Test.YthpkpciceodioaaGreatDoorCode
import Derived.Test.YthpkpciceodioaaGreatDoorBl
namespace Go.Proofs.YthpkpciceodioaaGreatDoor
open Go.RowKit
open Go.Av
open Go.Lc
set_option maxRecDepth 100000
set_option linter.unusedSimpArgs false
set_option linter.unusedVariables false
set_option maxHeartbeats 4000000
def kp203_11:Keep:=fun i=>if i=5 then ⟨[0,1,6,7,8,9],[7,1000000],[]⟩ else if i=1000010 then ⟨[0,1,6,7,8,9,10],[7,1000000],[]⟩ else ⟨[],[],[]⟩
theorem Zud {T:Tab} (hO:T.own=fun _=>[]) (hT229:T 229=some K229.G) (hT230:T 230=some K230.G) (a0:(List Int)) (a1:Int) (a2:Int) (x:(List Int)) (hr:Z3 a0 a1 a2=some x):∃ kp fl n,Xj tt T G kp fl n Tryz.f203 (Zey (a0,a1,a2))=some (Zhm (a0,a1,a2) x):=by
 simp only [Zey,Zhm];refine fnE (kp:=kp203_11) (w:=false) body203 (by simp) ?_;unfold c203;rw [Tryz.ntmps203];unfold Z3 at hr;refine Ze rfl (by simp [-Int.natCast_tdiv_eq_ediv,-Za]; rfl) ?_;refine Ze rfl (by simp [-Int.natCast_tdiv_eq_ediv,-Za]; rfl) ?_;by_cases c29:8≤IntKind.i64.wrap (a2-a1)
 ·skip
  rw [if_pos c29] at hr;refine Zcx (by simp [-Int.natCast_tdiv_eq_ediv,-Za,bV,c29]) ?_;refine Ze rfl (by simp [-Int.natCast_tdiv_eq_ediv,-Za,c29]; rfl) ?_;obtain ⟨y30,hy30,hr⟩:=bs hr;have ehy30:=ZtR hy30;simp only [K229] at ehy30;try simp only [Zj] at ehy30
  refine Ze rfl (by simp [-Int.natCast_tdiv_eq_ediv,-Za,hO,hT229,ehy30]; rfl) ?_;refine Ze rfl (by simp [-Int.natCast_tdiv_eq_ediv,-Za]; rfl) ?_;refine XX ?_;refine XR (kq:=⟨[0,1,6,7,8,9],[7,1000000],[]⟩) (H:=fun (s:Int×(List Int)×Int)=>match s with | (p19,p20,p21)=>(⟨([.one (.ms 1000000 0 0 (p20.length) 1),.one (.v (.int .i64 a1))]++(und 4++([.one (.v (.int .i64 (IntKind.i64.wrap (a2-a1)))),.ptr 7 0 0 0 1,.one (.v (.int .u64 y30)),.one (.v (.int .i64 p19))]++(und 55))):List PV),([(7,⟨0,1,[[.v (.int .u64 p21)]],false,false⟩),(1000000,⟨0,1,Zd .u64 p20,false,true⟩)]:Boxes)⟩:ASt)) (by kernel_rfl) hr (by simp [-Int.natCast_tdiv_eq_ediv,-Za,und,List.replicate]) ?_;rintro ⟨p19,p20,p21⟩ x31r hr31
  simp only [YI] at hr31;unfold b203_1;simp only [und,List.replicate,List.cons_append,List.nil_append];refine ZE ?_;refine Ze rfl (by simp [-Int.natCast_tdiv_eq_ediv,-Za]; rfl) ?_;by_cases c32:p19≤IntKind.i64.wrap ((IntKind.i64.wrap (a1+(IntKind.i64.wrap ((IntKind.i64.wrap ((IntKind.i64.wrap (a2-a1)).tdiv 4)) * 2))))+1)
  ·skip
   rw [if_pos] at hr31;rotate_left
   ·simp [-Int.natCast_tdiv_eq_ediv,-Za,c32]
   refine ZK (by simp [-Int.natCast_tdiv_eq_ediv,-Za,bV,c32]) ?_;refine ZB ?_;refine Yh ?_;obtain ⟨y33,hy33,hr31⟩:=bs hr31;have ehy33:=ZtS hy33;simp only [K230] at ehy33;try simp only [Zj] at ehy33
   refine Ze rfl (by simp [-Int.natCast_tdiv_eq_ediv,-Za,hO,hT230,ehy33,c32]; rfl) ?_;refine ZE ?_;refine Ze rfl (by simp [-Int.natCast_tdiv_eq_ediv,-Za]; rfl) ?_;refine ZaU hr31 (fun (s:Int)=>match s with | p23=>(⟨([.one (.ms 1000000 0 0 (p20.length) 1),.one (.v (.int .i64 a1))]++(und 4++([.one (.v (.int .i64 (IntKind.i64.wrap (a2-a1)))),.ptr 7 0 0 0 1,.one (.v (.int .u64 y30)),.one (.v (.int .i64 p19)),.one (.v (.int .i64 p23))]++(und 54))):List PV),([(7,⟨0,1,[[.v (.int .u64 y33.2)]],false,false⟩),(1000000,⟨0,1,Zd .u64 p20,false,true⟩)]:Boxes)⟩:ASt)) (fun (s:Int)=>match s with | p23=>ZS p20 a1 p19 y33 p23) ?_ ?_
   ·skip
    rintro p23 hk35
    change ZS p20 a1 p19 y33 p23=_ at hk35
    simp only [und,List.replicate,List.cons_append,List.nil_append];unfold ZS at hk35;obtain ⟨j36,hj36,hk35⟩:=bs hk35;obtain ⟨j36a,j36b,j36c⟩:=Zq hj36;obtain ⟨x37,hx37,hk35⟩:=bs hk35;have ghx37:=Zk hx37;obtain ⟨j38,hj38,hk35⟩:=bs hk35;obtain ⟨j38a,j38b,j38c⟩:=Zq hj38;obtain ⟨x39,hx39,hk35⟩:=bs hk35;have ghx39:=Zk hx39;obtain ⟨j38a,j38b,j38c⟩:=Zq hj38;obtain ⟨j40,hj40,hk35⟩:=bs hk35;obtain ⟨j40a,j40b,j40c⟩:=Zq hj40;try simp only [List.length_set] at j40c
    obtain rfl:j36=j40:=j36b.symm.trans j40b;refine Znf rfl (kq:=⟨[0,1,6,7,8,9,10],[7,1000000],[]⟩) rfl (by simp [-Int.natCast_tdiv_eq_ediv,-Za,Yq]; rfl) (by simp [-Int.natCast_tdiv_eq_ediv,-Za,Zj,j36a,j36b,j36c,ghx37,j38a,j38b,j38c,ghx39]; first | exact ⟨rfl,rfl⟩ | rfl) (by kernel_rfl) ?_;simp only [pq];refine Y8 rfl (by simp [-Int.natCast_tdiv_eq_ediv,-Za]; rfl) ?_;obtain rfl:=Option.some.inj hk35;simp only [pq];simp [-Int.natCast_tdiv_eq_ediv,-Za]
   ·skip
    intro J35;by_cases c41:IntKind.i64.wrap (a2-a1)≤IntKind.i64.wrap (bits .and .u64 y33.1 (IntKind.u64.wrap (y30-1)))
    ·skip
     rw [if_pos c41] at hr31;refine ZK (by simp [-Int.natCast_tdiv_eq_ediv,-Za,bV,c41]) ?_;refine Ze rfl (by simp [-Int.natCast_tdiv_eq_ediv,-Za,c41]; rfl) ?_;exact Xh (key:=1000010) (kq:=⟨[0,1,6,7,8,9,10],[7,1000000],[]⟩) rfl rfl rfl (by simp [-Int.natCast_tdiv_eq_ediv,-Za,und,List.replicate]) (J35 (IntKind.i64.wrap ((IntKind.i64.wrap (bits .and .u64 y33.1 (IntKind.u64.wrap (y30-1))))-(IntKind.i64.wrap (a2-a1)))) hr31)
    ·skip
     rw [if_neg c41] at hr31;refine Zn (by simp [-Int.natCast_tdiv_eq_ediv,-Za,bV,c41]) ?_;refine ZB ?_;exact Xh (key:=1000010) (kq:=⟨[0,1,6,7,8,9,10],[7,1000000],[]⟩) rfl rfl rfl (by simp [-Int.natCast_tdiv_eq_ediv,-Za,und,List.replicate,c41]) (J35 (IntKind.i64.wrap (bits .and .u64 y33.1 (IntKind.u64.wrap (y30-1)))) hr31)
  ·skip
   rw [if_neg] at hr31;rotate_left
   ·simp [-Int.natCast_tdiv_eq_ediv,-Za,c32]
   refine Zn (by simp [-Int.natCast_tdiv_eq_ediv,-Za,bV,c32]) ?_;refine Z4 ?_;obtain ⟨_,u42,hr31⟩:=bs hr31;have u42_0:=ZC u42;obtain rfl:=Option.some.inj hr31;simp only [pq];rintro rfl
   simp [-Int.natCast_tdiv_eq_ediv,-Za,ZaN,u42_0,c32]
 ·skip
  rw [if_neg c29] at hr;refine Zcy (by simp [-Int.natCast_tdiv_eq_ediv,-Za,bV,c29]) ?_;refine Zka ?_;obtain rfl:=Option.some.inj hr;simp [-Int.natCast_tdiv_eq_ediv,-Za,ZaN,c29]
end Go.Proofs.YthpkpciceodioaaGreatDoor
