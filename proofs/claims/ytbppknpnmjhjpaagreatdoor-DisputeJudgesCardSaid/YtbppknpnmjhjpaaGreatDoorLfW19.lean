import Derived.Test.YtbppknpnmjhjpaaGreatDoorLfK
import Derived.Test.YtbppknpnmjhjpaaGreatDoorCode
import Derived.Test.YtbppknpnmjhjpaaGreatDoorBl
namespace Go.Proofs.YtbppknpnmjhjpaaGreatDoor
open Go.RowKit
open Go.Av
open Go.Lc
set_option maxRecDepth 100000
set_option linter.unusedSimpArgs false
set_option linter.unusedVariables false
set_option maxHeartbeats 4000000
theorem w217_7:Walk tt G [] (fun _=>[]) Tryz.f217 K217_7:=by
 refine .sk [(1000003,⟨[1,2,4],[2,4,99000000],[]⟩),(1000005,⟨[2,4],[2,4,99000000],[]⟩)] true Tryz.ntmps217 (hi:=by intro x; simp[E217_7]) (fun T hO hT ⟨a0,a1⟩ x hr=>?_);simp only[Zg] at hT; simp only[kS,E217_7,nfs] at hr ⊢;unfold ZeK at hr;refine go ?_;refine Zl5 hr (fun(s:(List Int))=>match s with | p2=>(⟨(und 1++([.one (.v (.bool a1)),.ptr 2 0 0 0 2]++(und 1++([.ptr 4 0 0 0 2]++(und 29)))):List PV),([(2,⟨0,2,[[.ms 99000000 0 0 (p2.length) 1,.v (.int .i64 a0.2)]],false,false⟩),(4,⟨0,2,[[.slice .nil [],.v (.int .i64 0)]],false,false⟩),(99000000,⟨0,1,Zf .u8 p2,false,true⟩)]:Boxes)⟩:ASt)) (fun(s:(List Int))=>match s with | p2=>ZbL a1 a0 p2) ?_ ?_
 ·rintro p2 hk13
  change ZbL a1 a0 p2=_ at hk13
  refine nst ?_;unfold ZbL at hk13;refine go ?_;refine ZgI rfl (kq:=⟨[1,2,4],[2,4,99000000],[]⟩) rfl (by simp[XF, *]; rfl) (by simp[*]; rfl) ?_;refine Zl5 hk13 (fun(s:(List Int))=>match s with | p6=>(⟨(und 2++([.ptr 2 0 0 0 2]++(und 1++([.ptr 4 0 0 0 2]++(und 29)))):List PV),([(2,⟨0,2,[[.ms 99000000 0 0 (p6.length) 1,.v (.int .i64 a0.2)]],false,false⟩),(4,⟨0,2,[[.slice .nil [],.v (.int .i64 0)]],false,false⟩),(99000000,⟨0,1,Zf .u8 p6,false,true⟩)]:Boxes)⟩:ASt)) (fun(s:(List Int))=>match s with | p6=>Zc3 a0 p6) ?_ ?_
  ·rintro p6 hk18
   change Zc3 a0 p6=_ at hk18
   refine nst ?_;unfold Zc3 at hk18;refine ZgI rfl (kq:=⟨[2,4],[2,4,99000000],[]⟩) rfl (by simp[XF, *]; rfl) (by simp[*]; rfl) ?_;refine go ?_;exact fin hk18
  ·intro J18
   by_cases c19:a1=true
   ·replace hk13:=ifP hk13
    refine go ?_;obtain⟨j20,⟨_,_,_⟩,hk13⟩:=bA hk13;obtain⟨x21,hx21,hk13⟩:=bs hk13;have ghx21:=Z8 hx21;obtain⟨_,hk13⟩:=bC hk13;refine go ?_;exact jn 1000005 (J18 ((p2).set j20 (bits .or .u8 x21 (IntKind.u8.wrap (1 * (2 ^ (min (IntKind.i64.wrap (7-((a0.2).tmod 8))).toNat 8)))))) hk13)
   ·replace hk13:=ifN hk13
    refine go ?_;exact jn 1000005 (J18 p2 hk13)
 ·intro J13
  rcases eqT ((a0.2).tmod 8=0) with c23 | c23
  ·replace hr:=ifP hr
   refine go ?_;obtain⟨_,hr⟩:=bC hr;have n1_u24_0:a0.1.length+1≤140737488355328:=by omega
   have n2_u24_0:a0.1.length+1≤9223372036854775807:=by omega
   refine go ?_;exact jn 1000003 (J13 (a0.1++[0]) hr)
  ·replace hr:=ifN hr
   refine go ?_;exact jn 1000003 (J13 a0.1 hr)
theorem w188:Walk tt G [(88,K88.G),(216,K216.G),(217,K217_7.G)] (fun d=>if d=58 then[[1]] else if d=60 then[[1]] else if d=73 then[[1]] else[]) Tryz.f188 K188:=by
 refine .ak [(9,⟨[1,2,6,8,9],[6,8,800800],[(8,some 0,800800,0),(8,some 0,800800,1)]⟩),(14,⟨[1,6,8,10],[6,8,800800],[(8,some 0,800800,0),(8,some 0,800800,1)]⟩)] false Tryz.ntmps188 fun T hO hT ⟨a0,a1,a2⟩ x=>?_
 simp only[Zg] at hT; simp only[kS,nfs,Zaq,Zbi,Zbj];refine au ?_
 intros; refine lpP 9 (fun⟨p12,p13,p14⟩=>([(9,.one (.v (.int .u64 p12)))],[(8,⟨0,2,[[.ms 800800 0 0 (p14.length) 1,.v (.int .i64 p13)]],false,false⟩),(800800,⟨0,1,Zf .u8 p14,false,true⟩)])) ?_; rintro⟨p12,p13,p14⟩ x; simp only[Zbk,Zbi,Zbj]
 refine au ?_
 intros; refine lpP 14 (fun⟨p24,p25,p26⟩=>([(10,.one (.v (.int .i64 p24)))],[(8,⟨0,2,[[.ms 800800 0 0 (p26.length) 1,.v (.int .i64 p25)]],false,false⟩),(800800,⟨0,1,Zf .u8 p26,false,true⟩)])) ?_; rintro⟨p24,p25,p26⟩ x; simp only[Zal,Zbi,Zbj]
 exact au
theorem w144:Walk tt G [(188,K188.G)] (fun _=>[]) Tryz.f144 K144:=by
 refine .ak [(6,⟨[0,1,4,6],[4],[]⟩),(13,⟨[0,1,4,7,8,41,42,43],[4,7],[(7,some 0,0,0)]⟩)] false Tryz.ntmps144 fun T hO hT ⟨a0,a1⟩ x=>?_
 simp only[Zg] at hT; simp only[kS,nfs,Zc4,ZdW,ZdX];refine au ?_
 intros; refine lpP 6 (fun p6=>([(6,.one (.v (.int .i64 p6)))],[])) ?_; rintro p6 x; simp only[Zb3,ZdW,ZdX]
 refine au ?_
 intros; refine lpP 13 (fun⟨p17,p18,p19,p20⟩=>([(8,.one (.v (.int .u64 p17))),(43,.one (.v (.int .i64 p18)))],[(7,⟨0,2,[[.slice .no (Zf .u8 p19),.v (.int .i64 p20)]],false,false⟩)])) ?_; rintro⟨p17,p18,p19,p20⟩ x; simp only[Zf4,ZdW,ZdX]
 exact au
end Go.Proofs.YtbppknpnmjhjpaaGreatDoor
