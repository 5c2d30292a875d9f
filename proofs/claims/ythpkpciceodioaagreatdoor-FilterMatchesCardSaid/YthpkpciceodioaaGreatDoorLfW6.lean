import Derived.Test.YthpkpciceodioaaGreatDoorLfK
import Derived.Test.YthpkpciceodioaaGreatDoorCode
import Derived.Test.YthpkpciceodioaaGreatDoorBl
namespace Go.Proofs.YthpkpciceodioaaGreatDoor
open Go.RowKit
open Go.Av
open Go.Lc
set_option maxRecDepth 100000
set_option linter.unusedSimpArgs false
set_option linter.unusedVariables false
set_option maxHeartbeats 4000000
def kp203_9 : Keep:=fun i=>if i = 5 then ⟨[0,1,6,7,8,9],[7,1000000],[]⟩ else if i = 1000010 then ⟨[0,1,6,7,8,9,10],[7,1000000],[]⟩ else ⟨[],[],[]⟩
theorem ZrX {T : Tab} (hO : T.own = fun _=>[]) (hT229 : T 229 = some K229.G) (hT230 : T 230 = some K230.G) (a0 : (List Int)) (a1 : Int) (a2 : Int) (x : (List Int)) (hr : ZY a0 a1 a2 = some x) : ∃ kp fl n,Y8 tt T G kp fl n Tryz.f203 (Zev (a0,a1,a2)) = some (Zgw (a0,a1,a2) x):=by
 simp only [Zev,Zgw];refine fnE (kp:=kp203_9) (w:=false) body203 (by simp) ?_;unfold c203;rw [Tryz.ntmps203];unfold ZY at hr;refine Zd rfl (by simp [-Int.natCast_tdiv_eq_ediv,Nat.add_assoc,-Zb,Za]; rfl) ?_;refine Zd rfl (by simp [-Int.natCast_tdiv_eq_ediv,Nat.add_assoc,-Zb,Za]; rfl) ?_;by_cases c29 : 8≤IntKind.i64.wrap (a2 - a1)
 ·skip
  rw [if_pos c29] at hr;refine Zbn (by simp [-Int.natCast_tdiv_eq_ediv,Nat.add_assoc,-Zb,Za,bV,c29]) ?_;refine Zd rfl (by simp [-Int.natCast_tdiv_eq_ediv,Nat.add_assoc,-Zb,Za,c29]; rfl) ?_;obtain ⟨y30,hy30,hr⟩:=bs hr;have ehy30:=Zqv hy30;simp only [K229,nf,nfs] at ehy30;try simp only [Za] at ehy30
  refine Zd rfl (by simp [-Int.natCast_tdiv_eq_ediv,Nat.add_assoc,-Zb,Za,hO,hT229,ehy30,c29]; rfl) ?_;refine Zd rfl (by simp [-Int.natCast_tdiv_eq_ediv,Nat.add_assoc,-Zb,Za,c29]; rfl) ?_;refine XH ?_;refine XB (kq:=⟨[0,1,6,7,8,9],[7,1000000],[]⟩) (H:=fun (s : Int×(List Int)×Int)=>match s with | (p19,p20,p21)=>(⟨([.one (.ms 1000000 0 0 (p20.length) 1),.one (.v (.int .i64 a1))]++(und 4++([.one (.v (.int .i64 (IntKind.i64.wrap (a2 - a1)))),.ptr 7 0 0 0 1,.one (.v (.int .u64 y30)),.one (.v (.int .i64 p19))]++(und 55))) : List PV),([(7,⟨0,1,[[.v (.int .u64 p21)]],false,false⟩),(1000000,⟨0,1,Ze .u64 p20,false,true⟩)] : Boxes)⟩ : ASt)) (by kernel_rfl) hr (by simp [-Int.natCast_tdiv_eq_ediv,Nat.add_assoc,-Zb,Za,und,List.replicate,c29]) ?_;rintro ⟨p19,p20,p21⟩ x31r hr31
  simp only [YE] at hr31;unfold b203_1;simp only [und,List.replicate,List.cons_append,List.nil_append];refine Zy ?_;refine Zd rfl (by simp [-Int.natCast_tdiv_eq_ediv,Nat.add_assoc,-Zb,Za,c29]; rfl) ?_;by_cases c32 : p19≤IntKind.i64.wrap ((IntKind.i64.wrap (a1 + (IntKind.i64.wrap ((IntKind.i64.wrap ((IntKind.i64.wrap (a2 - a1)).tdiv 4)) * 2)))) + 1)
  ·skip
   rw [if_pos] at hr31;rotate_left
   ·simp [-Int.natCast_tdiv_eq_ediv,Nat.add_assoc,-Zb,Za,c29,c32]
   refine ZB (by simp [-Int.natCast_tdiv_eq_ediv,Nat.add_assoc,-Zb,Za,bV,c29,c32]) ?_;refine Zz ?_;refine Yd ?_;obtain ⟨y33,hy33,hr31⟩:=bs hr31;have ehy33:=Zqw hy33;simp only [K230,nf,nfs] at ehy33;try simp only [Za] at ehy33
   refine Zd rfl (by simp [-Int.natCast_tdiv_eq_ediv,Nat.add_assoc,-Zb,Za,hO,hT230,ehy33,c29,c32]; rfl) ?_;refine Zy ?_;refine Zd rfl (by simp [-Int.natCast_tdiv_eq_ediv,Nat.add_assoc,-Zb,Za,c29,c32]; rfl) ?_;refine Zcj hr31 (fun (s : Int)=>match s with | p23=>(⟨([.one (.ms 1000000 0 0 (p20.length) 1),.one (.v (.int .i64 a1))]++(und 4++([.one (.v (.int .i64 (IntKind.i64.wrap (a2 - a1)))),.ptr 7 0 0 0 1,.one (.v (.int .u64 y30)),.one (.v (.int .i64 p19)),.one (.v (.int .i64 p23))]++(und 54))) : List PV),([(7,⟨0,1,[[.v (.int .u64 y33.2)]],false,false⟩),(1000000,⟨0,1,Ze .u64 p20,false,true⟩)] : Boxes)⟩ : ASt)) (fun (s : Int)=>match s with | p23=>ZO p20 a1 p19 y33 p23) ?_ ?_
   ·skip
    rintro p23 hk35
    change ZO p20 a1 p19 y33 p23 = _ at hk35
    simp only [und,List.replicate,List.cons_append,List.nil_append];unfold ZO at hk35;obtain ⟨j36,hj36,hk35⟩:=bs hk35;obtain ⟨j36a,j36b,j36c⟩:=Zn hj36;obtain ⟨x37,hx37,hk35⟩:=bs hk35;have ghx37:=Zj hx37;obtain ⟨j38,hj38,hk35⟩:=bs hk35;obtain ⟨j38a,j38b,j38c⟩:=Zn hj38;obtain ⟨x39,hx39,hk35⟩:=bs hk35;have ghx39:=Zj hx39;obtain ⟨j38a,j38b,j38c⟩:=Zn hj38;obtain ⟨j40,hj40,hk35⟩:=bs hk35;obtain ⟨j40a,j40b,j40c⟩:=Zn hj40;try simp only [List.length_set] at j40c
    obtain rfl : j36 = j40:=j36b.symm.trans j40b;refine ZkM rfl (kq:=⟨[0,1,6,7,8,9,10],[7,1000000],[]⟩) rfl (by simp [-Int.natCast_tdiv_eq_ediv,Nat.add_assoc,-Zb,Za,Yk,j36a,j36b,j36c,hx37,ghx37,j38a,j38b,j38c,hx39,ghx39,j40a,j40b,j40c,c29,c32]; rfl) (by simp [-Int.natCast_tdiv_eq_ediv,Nat.add_assoc,-Zb,Za,j36a,j36b,j36c,hx37,ghx37,j38a,j38b,j38c,hx39,ghx39,j40a,j40b,j40c,c29,c32]; first | exact ⟨rfl,rfl⟩ | rfl) (by kernel_rfl) ?_;simp only [pq,reduceCtorEq];refine Y4 rfl (by simp [-Int.natCast_tdiv_eq_ediv,Nat.add_assoc,-Zb,Za,c29,c32]; rfl) ?_;obtain rfl:=Option.some.inj hk35;simp only [pq,reduceCtorEq];simp [-Int.natCast_tdiv_eq_ediv,Nat.add_assoc,-Zb,Za,und,List.replicate,Nat.add_assoc,c29,c32]
   ·skip
    intro J35;by_cases c41 : IntKind.i64.wrap (a2 - a1)≤IntKind.i64.wrap (bits .and .u64 y33.1 (IntKind.u64.wrap (y30 - 1)))
    ·skip
     rw [if_pos c41] at hr31;refine ZB (by simp [-Int.natCast_tdiv_eq_ediv,Nat.add_assoc,-Zb,Za,bV,c29,c32,c41]) ?_;refine Zd rfl (by simp [-Int.natCast_tdiv_eq_ediv,Nat.add_assoc,-Zb,Za,c29,c32,c41]; rfl) ?_;exact Y7 (key:=1000010) (kq:=⟨[0,1,6,7,8,9,10],[7,1000000],[]⟩) rfl rfl rfl (by simp [-Int.natCast_tdiv_eq_ediv,Nat.add_assoc,-Zb,Za,und,List.replicate,c29,c32,c41]) (J35 (IntKind.i64.wrap ((IntKind.i64.wrap (bits .and .u64 y33.1 (IntKind.u64.wrap (y30 - 1)))) - (IntKind.i64.wrap (a2 - a1)))) hr31)
    ·skip
     rw [if_neg c41] at hr31;refine Zl (by simp [-Int.natCast_tdiv_eq_ediv,Nat.add_assoc,-Zb,Za,bV,c29,c32,c41]) ?_;refine Zz ?_;exact Y7 (key:=1000010) (kq:=⟨[0,1,6,7,8,9,10],[7,1000000],[]⟩) rfl rfl rfl (by simp [-Int.natCast_tdiv_eq_ediv,Nat.add_assoc,-Zb,Za,und,List.replicate,c29,c32,c41]) (J35 (IntKind.i64.wrap (bits .and .u64 y33.1 (IntKind.u64.wrap (y30 - 1)))) hr31)
  ·skip
   rw [if_neg] at hr31;rotate_left
   ·simp [-Int.natCast_tdiv_eq_ediv,Nat.add_assoc,-Zb,Za,c29,c32]
   refine Zl (by simp [-Int.natCast_tdiv_eq_ediv,Nat.add_assoc,-Zb,Za,bV,c29,c32]) ?_;refine Z0 ?_;obtain ⟨_,u42,hr31⟩:=bs hr31;have u42_0:=ZA u42;obtain rfl:=Option.some.inj hr31;simp only [pq,reduceCtorEq];rintro rfl
   simp [-Int.natCast_tdiv_eq_ediv,Nat.add_assoc,-Zb,Za,Zaj,u42_0,c29,c32]
 ·skip
  rw [if_neg c29] at hr;refine Zbo (by simp [-Int.natCast_tdiv_eq_ediv,Nat.add_assoc,-Zb,Za,bV,c29]) ?_;refine Zgl ?_;obtain rfl:=Option.some.inj hr;simp [-Int.natCast_tdiv_eq_ediv,Nat.add_assoc,-Zb,Za,Zaj,c29]
end Go.Proofs.YthpkpciceodioaaGreatDoor
