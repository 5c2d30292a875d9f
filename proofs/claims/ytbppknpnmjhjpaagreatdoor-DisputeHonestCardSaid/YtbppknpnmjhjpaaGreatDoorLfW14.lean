import Derived.Test.YtbppknpnmjhjpaaGreatDoorLfK
import Derived.Test.YtbppknpnmjhjpaaGreatDoorCode
import Derived.Test.YtbppknpnmjhjpaaGreatDoorBl
namespace Go.Proofs.YtbppknpnmjhjpaaGreatDoor
open Go.RowKit
open Go.Av
open Go.Lc
set_option maxRecDepth 100000
set_option linter.unusedSimpArgs false
set_option linter.unusedVariables false
set_option maxHeartbeats 4000000
def kp202_4:Keep:=fun i=>if i=1 then⟨[0,1,2,6],[1000000],[]⟩ else if i=1000002 then⟨[0,1,2,6],[1000000],[]⟩ else if i=4 then⟨[0,1,2,6,7],[1000000],[]⟩ else⟨[],[],[]⟩
theorem Zy2 {T:Tab}(hO:T.own=fun _=>[]) (hT168:T 168=some K168.G) (a0:(List Int)) (a1:Int) (a2:Int) (x:(List Int)) (hr:Zy a0 a1 a2=some x):∃ kp fl n,ZN tt T G kp fl n Tryz.f202 (Zc9 (a0,a1,a2))=some (Zfw (a0,a1,a2) x):=by
 simp only[Zc9,Zfw];refine fnE (kp:=kp202_4) (w:=false) body202 (by simp) ?_;unfold c202;rw[Tryz.ntmps202];unfold Zy at hr;refine Zd rfl (by simp[-Zt,Zp]; rfl) ?_;refine ZgU ?_;refine Xs (kq:=⟨[0,1,2,6],[1000000],[]⟩) (H:=fun(s:Int×(List Int))=>match s with | (p77,p78)=>(⟨([.one (.ms 1000000 0 0 (p78.length) 1),.one (.v (.int .i64 a1)),.one (.v (.int .i64 a2))]++(und 3++([.one (.v (.int .i64 p77))]++(und 42))):List PV),([(1000000,⟨0,1,Zg .u64 p78,false,true⟩)]:Boxes)⟩:ASt)) (by kernel_rfl) hr (by simp[-Zt,Zp,und,List.replicate,]) ?_;rintro⟨p77,p78⟩ x127r hr127
 simp only[Z4] at hr127;unfold b202_1;simp only[und,List.replicate,List.cons_append,List.nil_append];refine ZA ?_;refine Zd rfl (by simp[-Zt,Zp]; rfl) ?_;by_cases c128:p77<a2
 ·skip
  rw[if_pos] at hr127;rotate_left
  ·simp[-Zt,Zp,c128]
  refine Zw (by simp[-Zt,Zp,bV,c128]) ?_;refine ZD ?_;refine Zx ?_;refine Zd rfl (by simp[-Zt,Zp,c128]; rfl) ?_;refine ZgU ?_;refine ZtB hr127 (.exit 1) (fun(s:(List Int))=>match s with | p104=>(⟨([.one (.ms 1000000 0 0 (p104.length) 1),.one (.v (.int .i64 a1)),.one (.v (.int .i64 a2))]++(und 3++([.one (.v (.int .i64 p77))]++(und 42))):List PV),([(1000000,⟨0,1,Zg .u64 p104,false,true⟩)]:Boxes)⟩:ASt)) (fun(s:(List Int))=>match s with | p104=>ZV p77 p104) ?_ ?_
  ·skip
   rintro p104 hk146
   change ZV p77 p104=_ at hk146
   simp only[pq,reduceCtorEq];simp only[und,List.replicate,List.cons_append,List.nil_append];unfold ZV at hk146;refine Zl5 rfl (kq:=⟨[0,1,2,6],[1000000],[]⟩) rfl (by simp[-Zt,Zp,ZbL,c128]; rfl) (by simp[-Zt,Zp,c128]; rfl) ?_;obtain rfl:=Option.some.inj hk146;simp only[pq,reduceCtorEq];simp[-Zt,Zp,und,List.replicate,Nat.add_assoc,c128]
  ·skip
   intro J146;simp only[pq,reduceCtorEq] at J146;refine Xs (kq:=⟨[0,1,2,6,7],[1000000],[]⟩) (H:=fun(s:Int×(List Int))=>match s with | (p103,p104)=>(⟨([.one (.ms 1000000 0 0 (p104.length) 1),.one (.v (.int .i64 a1)),.one (.v (.int .i64 a2))]++(und 3++([.one (.v (.int .i64 p77)),.one (.v (.int .i64 p103))]++(und 41))):List PV),([(1000000,⟨0,1,Zg .u64 p104,false,true⟩)]:Boxes)⟩:ASt)) (by kernel_rfl) hr127 (by simp[-Zt,Zp,und,List.replicate,c128]) ?_;rintro⟨p103,p104⟩ x147r hr147
   simp only[ZM] at hr147;unfold b202_2;simp only[und,List.replicate,List.cons_append,List.nil_append];refine ZA ?_;by_cases c148:a1<p103
   ·skip
    rw[if_pos] at hr147;rotate_left
    ·simp[-Zt,Zp,c128,c148]
    obtain⟨z149,hz149,hr147⟩:=bs hr147;obtain⟨j150,hj150,hz149⟩:=bs hz149;obtain⟨j150a,j150b,j150c⟩:=Yj hj150;obtain⟨x151,hx151,hz149⟩:=bs hz149;have ghx151:=Yb hx151;obtain⟨j152,hj152,hz149⟩:=bs hz149;obtain⟨j152a,j152b,j152c⟩:=Yj hj152;obtain⟨x153,hx153,hz149⟩:=bs hz149;have ghx153:=Yb hx153;obtain⟨y154,hy154,hz149⟩:=bs hz149;have ehy154:=K168.q2 hy154;simp only[K168,kS,nf,nfs,Z5] at ehy154;try simp only[Zp] at ehy154
    obtain rfl:=Option.some.inj hz149;refine Z6 rfl (by simp[-Zt,Zp,j150a,j150b,j150c,hx151,ghx151,j152a,j152b,j152c,hx153,ghx153,hO,hT168,ehy154,c128,c148]; first | exact⟨rfl,rfl⟩ | rfl) (by kernel_rfl) ?_;by_cases c155:y154=true
    ·skip
     rw[if_pos] at hr147;rotate_left
     ·simp[-Zt,Zp,c128,c148,c155]
     refine Zw (by simp[-Zt,Zp,bV,c128,c148,c155]) ?_;refine ZD ?_;refine Zx ?_;obtain⟨j156,hj156,hr147⟩:=bs hr147;obtain⟨j156a,j156b,j156c⟩:=Yj hj156;obtain rfl:j152=j156:=j152b.symm.trans j156b;obtain⟨x157,hx157,hr147⟩:=bs hr147;have ghx157:=Yb hx157;obtain⟨j158,hj158,hr147⟩:=bs hr147;obtain⟨j158a,j158b,j158c⟩:=Yj hj158;obtain rfl:j150=j158:=j150b.symm.trans j158b;obtain⟨x159,hx159,hr147⟩:=bs hr147;have ghx159:=Yb hx159;obtain⟨j150a,j150b,j150c⟩:=Yj hj158;obtain⟨j160,hj160,hr147⟩:=bs hr147;obtain⟨j160a,j160b,j160c⟩:=Yj hj160;try simp only[List.length_set] at j160c
     obtain rfl:j152=j160:=j152b.symm.trans j160b;refine Zpz rfl (by simp[-Zt,Zp,j156a,j156b,j156c,j152a,j152b,j152c,hx157,ghx157,j158a,j158b,j158c,j150a,j150b,j150c,hx159,ghx159,j160a,j160b,j160c,c128,c148,c155]; first | exact⟨rfl,rfl⟩ | rfl) (by kernel_rfl) ?_;simp only[pq,reduceCtorEq];refine Xb rfl (by simp[-Zt,Zp,c128,c148,c155]; rfl) ?_;obtain rfl:=Option.some.inj hr147;simp only[pq,reduceCtorEq];simp[-Zt,Zp,und,List.replicate,Nat.add_assoc,c128,c148,c155]
    ·skip
     rw[if_neg] at hr147;rotate_left
     ·simp[-Zt,Zp,c128,c148,c155]
     refine Zv (by simp[-Zt,Zp,bV,c128,c148,c155]) ?_;refine Z7 ?_;obtain⟨r161,q161,rfl⟩:=ms hr147;simp only[pq,reduceCtorEq];rintro rfl
     try simp only[pq,reduceCtorEq]
     exact ZiE (key:=1000002) (kq:=⟨[0,1,2,6],[1000000],[]⟩) rfl rfl rfl (by simp[-Zt,Zp,und,List.replicate,c128,c148,c155]) (J146 p104 q161)
   ·skip
    rw[if_neg] at hr147;rotate_left
    ·simp[-Zt,Zp,c128,c148]
    obtain⟨z162,hz162,hr147⟩:=bs hr147;obtain rfl:=Option.some.inj hz162;refine Z6 rfl (by simp[-Zt,Zp,c128,c148]; first | exact⟨rfl,rfl⟩ | rfl) (by kernel_rfl) ?_;rw[if_neg] at hr147;rotate_left
    ·simp[-Zt,Zp,c128,c148]
    refine Zv (by simp[-Zt,Zp,bV,c128,c148]) ?_;refine Z7 ?_;obtain⟨r163,q163,rfl⟩:=ms hr147;simp only[pq,reduceCtorEq];rintro rfl
    try simp only[pq,reduceCtorEq]
    exact ZiE (key:=1000002) (kq:=⟨[0,1,2,6],[1000000],[]⟩) rfl rfl rfl (by simp[-Zt,Zp,und,List.replicate,c128,c148]) (J146 p104 q163)
 ·skip
  rw[if_neg] at hr127;rotate_left
  ·simp[-Zt,Zp,c128]
  refine Zv (by simp[-Zt,Zp,bV,c128]) ?_;refine Z7 ?_;obtain⟨_,u164,hr127⟩:=bs hr127;have u164_0:=ZO u164;obtain rfl:=Option.some.inj hr127;simp only[pq,reduceCtorEq];rintro rfl
  simp[-Zt,Zp,YP,u164_0,c128]
end Go.Proofs.YtbppknpnmjhjpaaGreatDoor
