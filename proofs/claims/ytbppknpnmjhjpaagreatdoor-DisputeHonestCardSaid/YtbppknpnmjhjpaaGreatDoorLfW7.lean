import Derived.Test.YtbppknpnmjhjpaaGreatDoorLfK
import Derived.Test.YtbppknpnmjhjpaaGreatDoorCode
import Derived.Test.YtbppknpnmjhjpaaGreatDoorBl
namespace Go.Proofs.YtbppknpnmjhjpaaGreatDoor
open Go.RowKit
open Go.Av
open Go.Lc
set_option maxRecDepth 100000
set_option linter.unusedSimpArgs false
set_option linter.unusedVariables false
set_option maxHeartbeats 4000000
section
attribute [local simp] Zua
theorem w106:Walk tt G [] (fun _=>[]) Tryz.f106 K106:=by
 refine .sk [(3,⟨[3,7,8,9],[37],[(3,none,37,1)]⟩),(1000008,⟨[3,5,6,7,8,9],[37],[]⟩),(6,⟨[3,5,6,7,8,9],[37],[]⟩)] false Tryz.ntmps106 fun T hO hT a0 x hr=>?_
 simp only[Zh] at hT; simp only[kS,nfs] at hr ⊢;unfold ZcX at hr;refine Zd7 ?_;refine lp 3 (fun(⟨p28,p29⟩:Int×(List Int))=>⟨(und 3++([.one (.ms 37 0 0 (p29.length) 1)]++(und 3++([.one (.slice .no (Zg .u32 a0)),.one (.v (.int .i64 (a0.length:Int))),.one (.v (.int .i64 p28))]++(und 38)))):List PV),([(37,⟨0,1,Zg .u32 p29,false,true⟩)]:Boxes)⟩) hr ?_;rintro⟨p28,p29⟩ x97r hr97
 simp only[Ziq] at hr97;refine nst ?_;refine Zd7 ?_;by_cases c98:p28<(a0.length:Int)
 ·have c98N:=nrm c98
  replace hr97:=ifP hr97
  refine Zd7 ?_;obtain⟨x99,⟨_,_,_⟩,hr97⟩:=bI hr97;refine Zd7 ?_;refine ZtB hr97 (.exit 2) (fun(s:Int)=>match s with | p56=>(⟨(und 3++([.one (.ms 37 0 0 (p29.length) 1)]++(und 1++([.one (.v (.int .u32 x99)),.one (.v (.int .i64 p56)),.one (.slice .no (Zg .u32 a0)),.one (.v (.int .i64 (a0.length:Int))),.one (.v (.int .i64 p28))]++(und 38)))):List PV),([(37,⟨0,1,Zg .u32 p29,false,true⟩)]:Boxes)⟩:ASt)) (fun(s:Int)=>match s with | p56=>ZdW p56 p29 p28 x99) ?_ ?_
  ·rintro p56 hk109
   change ZdW p56 p29 p28 x99=_ at hk109
   refine Zd7 ?_;refine nst ?_;unfold ZdW at hk109;obtain⟨⟨_,_⟩,hk109⟩:=bC hk109;have sf111:(p56).toNat≤p29.length:=by omega
   have sf112:0≤p56:=by omega
   obtain⟨⟨_,_⟩,hk109⟩:=bC hk109;have sf114:(p56).toNat≤p29.length:=by omega
   obtain⟨u115_0,hk109⟩:=bC hk109;have u115_0N:=u115_0;try simp at u115_0N
   have n1_u115_0:(1+(((p29).drop (p56).toNat).take (p29.length-(p56).toNat)).length) * 4≤140737488355328:=by omega
   have n2_u115_0:1+(((p29).drop (p56).toNat).take (p29.length-(p56).toNat)).length≤9223372036854775807:=by omega
   have n1s_u115_0:=n1_u115_0;try simp only[List.length_drop,List.length_take,Nat.min_self,Nat.sub_le_iff_le_add,Nat.min_eq_left,sf111,sf112,sf114] at n1s_u115_0
   have n2s_u115_0:=n2_u115_0;try simp only[List.length_drop,List.length_take,Nat.min_self,Nat.sub_le_iff_le_add,Nat.min_eq_left,sf111,sf112,sf114] at n2s_u115_0
   obtain⟨u116_0,hk109⟩:=bC hk109;have u116_0N:=u116_0;try simp at u116_0N
   have n1_u116_0:(((p29).take (p56).toNat).length+(1+(((p29).drop (p56).toNat).take (p29.length-(p56).toNat)).length)) * 4≤140737488355328:=by
    have h:=u116_0;try simp at h
    first | omega | (simp only[List.length_take,List.length_drop] at h ⊢; omega) | (simp only[List.length_take,List.length_drop]; omega)
   have n2_u116_0:((p29).take (p56).toNat).length+(1+(((p29).drop (p56).toNat).take (p29.length-(p56).toNat)).length)≤9223372036854775807:=by
    have h:=u116_0;try simp at h
    first | omega | (simp only[List.length_take,List.length_drop] at h ⊢; omega) | (simp only[List.length_take,List.length_drop]; omega)
   have n1s_u116_0:=n1_u116_0;try simp only[List.length_drop,List.length_take,Nat.min_self,Nat.sub_le_iff_le_add,Nat.min_eq_left,sf111,sf112,sf114] at n1s_u116_0
   have n2s_u116_0:=n2_u116_0;try simp only[List.length_drop,List.length_take,Nat.min_self,Nat.sub_le_iff_le_add,Nat.min_eq_left,sf111,sf112,sf114] at n2s_u116_0
   have z1:(p56.toNat+(p29.length-p56.toNat+1)) * 4≤140737488355328:=by omega
   have z2:p56.toNat+(p29.length-p56.toNat+1)≤9223372036854775807:=by omega
   refine Zwd rfl (kq:=⟨[3,5,6,7,8,9],[37],[]⟩) rfl (by simp[-Int.natCast_tdiv_eq_ediv,Nat.add_assoc,ZbL, *]; rfl) (by simp[-Int.natCast_tdiv_eq_ediv,Nat.add_assoc, *]; first | exact⟨rfl,rfl⟩ | rfl) (by kernel_rfl) ?_;refine Zd7 ?_;exact bk hk109
  ·intro J109
   simp only[pq,reduceCtorEq] at J109;refine lp 6 (fun(p56:Int)=>⟨(und 3++([.one (.ms 37 0 0 (p29.length) 1)]++(und 1++([.one (.v (.int .u32 x99)),.one (.v (.int .i64 p56)),.one (.slice .no (Zg .u32 a0)),.one (.v (.int .i64 (a0.length:Int))),.one (.v (.int .i64 p28))]++(und 38)))):List PV),([(37,⟨0,1,Zg .u32 p29,false,true⟩)]:Boxes)⟩) hr97 ?_;rintro p56 x117r hr117
   simp only[Zip] at hr117;refine nst ?_;refine Zd7 ?_;by_cases c118:p56<(p29.length:Int)
   ·have c118N:=nrm c118
    replace hr117:=ZlP hr117
    obtain⟨_,hz119,hr117⟩:=bs hr117;obtain⟨_,⟨_,_,_⟩,hz119⟩:=bA hz119;obtain⟨x121,hx121,hz119⟩:=bs hz119;have ghx121:=Yb hx121;obtain rfl:=Option.some.inj hz119;refine Zd7 ?_;by_cases c122:x121≤x99
    ·replace hr117:=ifP hr117
     refine Zd7 ?_;exact bk hr117
    ·replace hr117:=ifN hr117
     refine Zd7 ?_;obtain⟨r123,q123,rfl⟩:=ms hr117;refine Zd7 ?_;rintro rfl
     refine Zd7 ?_;exact jn 1000008 (J109 p56 q123)
   ·have c118N:=nrm c118
    replace hr117:=ZmO hr117
    obtain⟨_,hz124,hr117⟩:=bs hr117;obtain rfl:=Option.some.inj hz124;refine Zd7 ?_
    replace hr117:=ifN hr117
    refine Zd7 ?_;obtain⟨r125,q125,rfl⟩:=ms hr117;refine Zd7 ?_;rintro rfl
    refine Zd7 ?_;exact jn 1000008 (J109 p56 q125)
 ·have c98N:=nrm c98
  replace hr97:=ifN hr97
  refine Zd7 ?_;obtain⟨r126,q126,rfl⟩:=ms hr97;refine Zd7 ?_;rintro rfl
  refine Zd7 ?_;unfold Zio at q126;refine Zd7 ?_;rcases eqT ((p29.length:Int)=0) with c127 | c127
  ·have c127N:=nrm c127
   replace q126:=ifP q126
   refine Zd7 ?_;exact fin q126
  ·have c127N:=nrm c127
   replace q126:=ifN q126
   refine Zd7 ?_;obtain⟨_,⟨_,_,_⟩,q126⟩:=bA q126;obtain⟨_,hx129,q126⟩:=bs q126;have ghx129:=Yb hx129;refine Zd7 ?_;exact fin q126
end
section
attribute [local simp] az64 bz4
theorem w94:Walk tt G [(9,K9.G),(104,K104.G),(105,K105.G),(106,K106.G)] (fun _=>[]) Tryz.f94 K94:=by
 refine .sk [(4,⟨[8,9,11],[8,11],[]⟩)] false Tryz.ntmps94 fun T hO hT ⟨a0,a1,a2,a3⟩ x hr=>?_
 simp only[Zh] at hT; simp only[kS,nfs] at hr ⊢;unfold Zgu at hr;refine go ?_;obtain⟨y13,ehy13,hr⟩:=bN hr K104.q2;refine go ?_;obtain⟨y14,ehy14,hr⟩:=bN hr K106.q1;refine go ?_;refine lp 4 (fun(p8:Int)=>⟨(und 8++([.ptr 8 0 0 0 68,.one (.v (.int .u32 y13.1))]++(und 1++([.ptr 11 0 0 0 68]++(und 33)))):List PV),([(8,⟨0,68,[(.v (.int .u32 0)) :: ((arC .u8 (zA 32))++((arC .u8 (zA 32))++((.v (.int .u32 0)) :: ((.v (.int .u32 0)) :: ((.v (.int .u32 0)) :: [])))))],false,false⟩),(11,⟨0,68,[(.v (.int .u32 a0.2.2.2.2.2.1)) :: ((arC .u8 a1.2.1)++((arC .u8 a2)++((.v (.int .u32 (IntKind.u32.wrap ((IntKind.u32.wrap (y14+1))+a3)))) :: ((.v (.int .u32 y13.1)) :: ((.v (.int .u32 p8)) :: [])))))],false,false⟩)]:Boxes)⟩) hr ?_;rintro p8 x21r hr21
 simp only[Zjw] at hr21;refine nst ?_;refine go ?_;by_cases c22:p8<20000
 ·replace hr21:=ifP hr21
  refine go ?_;obtain⟨_,ehy23,hr21⟩:=bN hr21 K9.q1;obtain⟨y24,ehy24,hr21⟩:=bN hr21 K105.q2;refine go ?_;by_cases c25:y24=true
  ·replace hr21:=ifP hr21
   refine go ?_;exact fin hr21
  ·replace hr21:=ifN hr21
   refine go ?_;exact bk hr21
 ·replace hr21:=ifN hr21
  refine go ?_;obtain⟨r26,q26,rfl⟩:=ms hr21;refine go ?_;rintro rfl
  refine go ?_;unfold Zl7 at q26;refine go ?_;exact fin q26
end
theorem w95:Walk tt G [] (fun _=>[]) Tryz.f95 K95:=by
 refine .ak [] false Tryz.ntmps95 fun T hO hT a0 x=>?_
 simp only[Zh] at hT; simp only[kS,nfs,Zf7];exact au
section
attribute [local simp] az64 bz4
theorem w50:Walk tt G [(84,K84.G),(90,G90),(91,K91.G),(92,K92.G),(93,K93.G),(94,K94.G),(95,K95.G)] (fun _=>[]) Tryz.f50 K50:=by
 refine .sk [] true Tryz.ntmps50 fun T hO hT ⟨a0,a1,a2,a3⟩ x hr=>?_
 simp only[Zh] at hT; simp only[kS,nfs] at hr ⊢;unfold Zfk at hr;refine go ?_;obtain⟨y9,ehy9,hr⟩:=bG hr fun _=>ZvH
 simp only[E90,R90,kS,nf,nfs,Z5] at ehy9;refine go ?_;obtain⟨_,ehy10,hr⟩:=bN hr K92.q2;obtain⟨_,ehy11,hr⟩:=bN hr K93.q1;obtain⟨y12,ehy12,hr⟩:=bN hr K91.q3;obtain⟨_,hr⟩:=bC hr;have n1_u13_0:(1+y9.1.length) * 64≤140737488355328:=by omega
 have n2_u13_0:1+y9.1.length≤9223372036854775807:=by omega
 refine go ?_;obtain⟨_,ehy14,hr⟩:=bN hr K84.q1;obtain⟨_,ehy15,hr⟩:=bN hr K95.q1;obtain⟨_,ehy16,hr⟩:=bN hr K94.q4;cases hb:(y12.2.1.any ((fun l=>l.any Cell.isSl) ∘ Zbs) || y12.2.2.1.any ((fun l=>l.any Cell.isSl) ∘ Y2)) <;> (refine go ?_; exact fin hr)
end
theorem w182:Walk tt G [(136,K136.G),(139,K139.G)] (fun _=>[]) Tryz.f182 K182:=by
 refine .ak [] false Tryz.ntmps182 fun T hO hT ⟨a0,a1⟩ x=>?_
 simp only[Zh] at hT; simp only[kS,nfs,Zem];exact au
theorem w137:Walk tt G [(26,K26.G),(149,K149.G),(182,K182.G)] (fun _=>[]) Tryz.f137 K137:=by
 refine .ak [(3,⟨[3,17,18,19],[15],[]⟩)] true Tryz.ntmps137 fun T hO hT a0 x=>?_
 simp only[Zh] at hT; simp only[kS,nfs,Zen,Zir];refine au ?_
 intros; refine lpP 3 (fun⟨p11,p12⟩=>([(3,.one (.ms 15 0 0 (p12.length) 1)),(19,.one (.v (.int .i64 p11)))],[(15,⟨0,1,Zg .u8 p12,false,true⟩)])) ?_; rintro⟨p11,p12⟩ x; simp only[ZfN,Zir]
 exact au
theorem w77:Walk tt G [(136,K136.G),(137,K137.G)] (fun _=>[]) Tryz.f77 K77:=by
 refine .ak [(4,⟨[1,10,11,12],[1],[]⟩)] false Tryz.ntmps77 fun T hO hT a0 x=>?_
 simp only[Zh] at hT; simp only[kS,nfs,Zgq,Zdv];refine au ?_
 intros; refine lpP 4 (fun p6=>([(12,.one (.v (.int .i64 p6)))],[])) ?_; rintro p6 x; simp only[Xu,Zdv]
 exact au
theorem w138:Walk tt G [] (fun _=>[]) Tryz.f138 K138:=by
 refine .ak [] false Tryz.ntmps138 fun T hO hT a0 x=>?_
 simp only[Zh] at hT; simp only[kS,nfs,ZeM];exact au
theorem w78:Walk tt G [(138,K138.G)] (fun _=>[]) Tryz.f78 K78:=by
 refine .ak [] false Tryz.ntmps78 fun T hO hT a0 x=>?_
 simp only[Zh] at hT; simp only[kS,nfs,Zaq];exact au
theorem w79:Walk tt G [(78,K78.G),(136,K136.G),(138,K138.G)] (fun _=>[]) Tryz.f79 K79:=by
 refine .ak [(7,⟨[1,3,24,25,26],[1],[]⟩),(16,⟨[1,42,43],[1],[]⟩),(19,⟨[1,6,7,42,43],[1],[]⟩),(25,⟨[1,66,67,68],[1],[]⟩)] false Tryz.ntmps79 fun T hO hT a0 x=>?_
 simp only[Zh] at hT; simp only[kS,nfs,ZdO,Lref09_Check_k3,Zar,Zbd,XH];refine au ?_
 intros; refine lpP 7 (fun⟨p6,p7⟩=>([(3,.one (.v (.int .i64 p6))),(26,.one (.v (.int .i64 p7)))],[])) ?_; rintro⟨p6,p7⟩ x; simp only[ZcE,Lref09_Check_k3,Zar,Zbd,XH]
 refine au ?_
 intros; refine lpP 16 (fun p25=>([(43,.one (.v (.int .i64 p25)))],[])) ?_; rintro p25 x; simp only[ZcD,Lref09_Check_k3,Zar,Zbd,XH]
 refine au ?_ ?_
 ·intros; refine lpP 19 (fun p57=>([(7,.one (.v (.int .i64 p57)))],[])) ?_; rintro p57 x; simp only[Zbe,Lref09_Check_k3,Zar,Zbd,XH]
  exact au
 ·intros; refine lpP 25 (fun p43=>([(68,.one (.v (.int .i64 p43)))],[])) ?_; rintro p43 x; simp only[ZcC,Lref09_Check_k3,Zar,Zbd,XH]
  exact au
end Go.Proofs.YtbppknpnmjhjpaaGreatDoor
