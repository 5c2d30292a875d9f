import Derived.Test.YtcfpmbefhfbdjaaGreatDoorLfK
import Derived.Test.YtcfpmbefhfbdjaaGreatDoorCode
import Derived.Test.YtcfpmbefhfbdjaaGreatDoorBl
namespace Go.Proofs.YtcfpmbefhfbdjaaGreatDoor
open Go.RowKit
open Go.Av
open Go.Lc
set_option maxRecDepth 100000
set_option linter.unusedSimpArgs false
set_option linter.unusedVariables false
set_option maxHeartbeats 4000000
section
attribute [local simp] Zsh
theorem w85:Walk tt G [] (fun _=>[]) Tryz.f85 K85:=by
 refine .sk [(3,⟨[3,7,8,9],[37],[(3,none,37,1)]⟩),(1000008,⟨[3,5,6,7,8,9],[37],[]⟩),(6,⟨[3,5,6,7,8,9],[37],[]⟩)] false Tryz.ntmps85 fun T hO hT a0 x hr=>?_
 simp only[Zh] at hT; simp only[kS,nfs] at hr ⊢;unfold Zcg at hr;refine Zdi ?_;refine lp 3 (fun(⟨p28,p29⟩:Int×(List Int))=>⟨(und 3++([.one (.ms 37 0 0 (p29.length) 1)]++(und 3++([.one (.slice .no (Zg .u32 a0)),.one (.v (.int .i64 (a0.length:Int))),.one (.v (.int .i64 p28))]++(und 38)))):List PV),([(37,⟨0,1,Zg .u32 p29,false,true⟩)]:Boxes)⟩) hr ?_;rintro⟨p28,p29⟩ x97r hr97
 simp only[Zhg] at hr97;refine nst ?_;refine Zdi ?_;by_cases c98:p28<(a0.length:Int)
 ·have c98N:=nrm c98
  replace hr97:=ifP hr97
  refine Zdi ?_;obtain⟨x99,⟨_,_,_⟩,hr97⟩:=bI hr97;refine Zdi ?_;refine ZrI hr97 (.exit 2) (fun(s:Int)=>match s with | p56=>(⟨(und 3++([.one (.ms 37 0 0 (p29.length) 1)]++(und 1++([.one (.v (.int .u32 x99)),.one (.v (.int .i64 p56)),.one (.slice .no (Zg .u32 a0)),.one (.v (.int .i64 (a0.length:Int))),.one (.v (.int .i64 p28))]++(und 38)))):List PV),([(37,⟨0,1,Zg .u32 p29,false,true⟩)]:Boxes)⟩:ASt)) (fun(s:Int)=>match s with | p56=>Zc8 p56 p29 p28 x99) ?_ ?_
  ·rintro p56 hk109
   change Zc8 p56 p29 p28 x99=_ at hk109
   refine Zdi ?_;refine nst ?_;unfold Zc8 at hk109;obtain⟨⟨_,_⟩,hk109⟩:=bC hk109;have sf111:(p56).toNat≤p29.length:=by omega
   have sf112:0≤p56:=by omega
   obtain⟨⟨_,_⟩,hk109⟩:=bC hk109;have sf114:(p56).toNat≤p29.length:=by omega
   obtain⟨u115_0,hk109⟩:=bC hk109;have u115_0N:=u115_0;try simp at u115_0N
   have n1_u115_0:(1+(((p29).drop (p56).toNat).take (p29.length-(p56).toNat)).length) * 4≤140737488355328:=by omega
   have n2_u115_0:1+(((p29).drop (p56).toNat).take (p29.length-(p56).toNat)).length≤9223372036854775807:=by omega
   have n1s_u115_0:=n1_u115_0;try simp only[List.length_drop,List.length_take,Nat.min_self,Nat.sub_le_iff_le_add,Nat.min_eq_left,sf111,sf112,sf114] at n1s_u115_0
   have n2s_u115_0:=n2_u115_0;try simp only[List.length_drop,List.length_take,Nat.min_self,Nat.sub_le_iff_le_add,Nat.min_eq_left,sf111,sf112,sf114] at n2s_u115_0
   obtain⟨u116_0,hk109⟩:=bC hk109;have u116_0N:=u116_0;try simp at u116_0N
   have n1_u116_0:(((p29).take (p56).toNat).length+(1+(((p29).drop (p56).toNat).take (p29.length-(p56).toNat)).length)) * 4≤140737488355328:=by
    have h:=u116_0;try simp at h
    first | omega | (simp only[List.length_take,List.length_drop] at h ⊢; omega) | (simp only[List.length_take,List.length_drop]; omega)
   have n2_u116_0:((p29).take (p56).toNat).length+(1+(((p29).drop (p56).toNat).take (p29.length-(p56).toNat)).length)≤9223372036854775807:=by
    have h:=u116_0;try simp at h
    first | omega | (simp only[List.length_take,List.length_drop] at h ⊢; omega) | (simp only[List.length_take,List.length_drop]; omega)
   have n1s_u116_0:=n1_u116_0;try simp only[List.length_drop,List.length_take,Nat.min_self,Nat.sub_le_iff_le_add,Nat.min_eq_left,sf111,sf112,sf114] at n1s_u116_0
   have n2s_u116_0:=n2_u116_0;try simp only[List.length_drop,List.length_take,Nat.min_self,Nat.sub_le_iff_le_add,Nat.min_eq_left,sf111,sf112,sf114] at n2s_u116_0
   have z1:(p56.toNat+(p29.length-p56.toNat+1)) * 4≤140737488355328:=by omega
   have z2:p56.toNat+(p29.length-p56.toNat+1)≤9223372036854775807:=by omega
   refine Zt8 rfl (kq:=⟨[3,5,6,7,8,9],[37],[]⟩) rfl (by simp[-Int.natCast_tdiv_eq_ediv,Nat.add_assoc,Zbd, *]; rfl) (by simp[-Int.natCast_tdiv_eq_ediv,Nat.add_assoc, *]; first | exact⟨rfl,rfl⟩ | rfl) (by kernel_rfl) ?_;refine Zdi ?_;exact bk hk109
  ·intro J109
   simp only[pq,reduceCtorEq] at J109;refine lp 6 (fun(p56:Int)=>⟨(und 3++([.one (.ms 37 0 0 (p29.length) 1)]++(und 1++([.one (.v (.int .u32 x99)),.one (.v (.int .i64 p56)),.one (.slice .no (Zg .u32 a0)),.one (.v (.int .i64 (a0.length:Int))),.one (.v (.int .i64 p28))]++(und 38)))):List PV),([(37,⟨0,1,Zg .u32 p29,false,true⟩)]:Boxes)⟩) hr97 ?_;rintro p56 x117r hr117
   simp only[Zhf] at hr117;refine nst ?_;refine Zdi ?_;by_cases c118:p56<(p29.length:Int)
   ·have c118N:=nrm c118
    replace hr117:=Zlg hr117
    obtain⟨_,hz119,hr117⟩:=bs hr117;obtain⟨_,⟨_,_,_⟩,hz119⟩:=bA hz119;obtain⟨x121,hx121,hz119⟩:=bs hz119;have ghx121:=YL hx121;obtain rfl:=Option.some.inj hz119;refine Zdi ?_;by_cases c122:x121≤x99
    ·replace hr117:=ifP hr117
     refine Zdi ?_;exact bk hr117
    ·replace hr117:=ifN hr117
     refine Zdi ?_;obtain⟨r123,q123,rfl⟩:=ms hr117;refine Zdi ?_;rintro rfl
     refine Zdi ?_;exact jn 1000008 (J109 p56 q123)
   ·have c118N:=nrm c118
    replace hr117:=Zlh hr117
    obtain⟨_,hz124,hr117⟩:=bs hr117;obtain rfl:=Option.some.inj hz124;refine Zdi ?_
    replace hr117:=ifN hr117
    refine Zdi ?_;obtain⟨r125,q125,rfl⟩:=ms hr117;refine Zdi ?_;rintro rfl
    refine Zdi ?_;exact jn 1000008 (J109 p56 q125)
 ·have c98N:=nrm c98
  replace hr97:=ifN hr97
  refine Zdi ?_;obtain⟨r126,q126,rfl⟩:=ms hr97;refine Zdi ?_;rintro rfl
  refine Zdi ?_;unfold Zhe at q126;refine Zdi ?_;rcases eqT ((p29.length:Int)=0) with c127 | c127
  ·have c127N:=nrm c127
   replace q126:=ifP q126
   refine Zdi ?_;exact fin q126
  ·have c127N:=nrm c127
   replace q126:=ifN q126
   refine Zdi ?_;obtain⟨_,⟨_,_,_⟩,q126⟩:=bA q126;obtain⟨_,hx129,q126⟩:=bs q126;have ghx129:=YL hx129;refine Zdi ?_;exact fin q126
end
section
attribute [local simp] az64 bz4
theorem w72:Walk tt G [(20,K20.G),(83,K83.G),(84,K84.G),(85,K85.G)] (fun _=>[]) Tryz.f72 K72:=by
 refine .sk [(4,⟨[8,9,11],[8,11],[]⟩)] false Tryz.ntmps72 fun T hO hT ⟨a0,a1,a2,a3⟩ x hr=>?_
 simp only[Zh] at hT; simp only[kS,nfs] at hr ⊢;unfold Zfx at hr;refine go ?_;obtain⟨y13,ehy13,hr⟩:=bN hr K83.q2;refine go ?_;obtain⟨y14,ehy14,hr⟩:=bN hr K85.q1;refine go ?_;refine lp 4 (fun(p8:Int)=>⟨(und 8++([.ptr 8 0 0 0 68,.one (.v (.int .u32 y13.1))]++(und 1++([.ptr 11 0 0 0 68]++(und 33)))):List PV),([(8,⟨0,68,[(.v (.int .u32 0)) :: ((arC .u8 (zA 32))++((arC .u8 (zA 32))++((.v (.int .u32 0)) :: ((.v (.int .u32 0)) :: ((.v (.int .u32 0)) :: [])))))],false,false⟩),(11,⟨0,68,[(.v (.int .u32 a0.2.2.2.2.2.1)) :: ((arC .u8 a1.2.1)++((arC .u8 a2)++((.v (.int .u32 (IntKind.u32.wrap ((IntKind.u32.wrap (y14+1))+a3)))) :: ((.v (.int .u32 y13.1)) :: ((.v (.int .u32 p8)) :: [])))))],false,false⟩)]:Boxes)⟩) hr ?_;rintro p8 x21r hr21
 simp only[Zik] at hr21;refine nst ?_;refine go ?_;by_cases c22:p8<20000
 ·replace hr21:=ifP hr21
  refine go ?_;obtain⟨_,ehy23,hr21⟩:=bN hr21 K20.q1;obtain⟨y24,ehy24,hr21⟩:=bN hr21 K84.q2;refine go ?_;by_cases c25:y24=true
  ·replace hr21:=ifP hr21
   refine go ?_;exact fin hr21
  ·replace hr21:=ifN hr21
   refine go ?_;exact bk hr21
 ·replace hr21:=ifN hr21
  refine go ?_;obtain⟨r26,q26,rfl⟩:=ms hr21;refine go ?_;rintro rfl
  refine go ?_;unfold ZkJ at q26;refine go ?_;exact fin q26
end
theorem w110:Walk tt G [(37,K37.G),(141,K141.G),(142,K142.G)] (fun _=>[]) Tryz.f110 K110:=by
 refine .ak [] false Tryz.ntmps110 fun T hO hT a0 x=>?_
 simp only[Zh] at hT; simp only[kS,nfs,Zfq];exact au
theorem w150:Walk tt G [(102,K102.G)] (fun _=>[]) Tryz.f150 K150:=by
 refine .ak [(3,⟨[3,6,7,8],[900003],[(3,none,900003,0),(3,none,900003,1)]⟩)] true Tryz.ntmps150 fun T hO hT a0 x=>?_
 simp only[Zh] at hT; simp only[kS,nfs,ZaK,Zgd];refine au ?_
 intros; refine lpP 3 (fun⟨p7,p8⟩=>([(3,.one (.ms 900003 0 0 (p8.length) 1)),(8,.one (.v (.int .i64 p7)))],[(900003,⟨0,1,Zg .u8 p8,false,true⟩)])) ?_; rintro⟨p7,p8⟩ x; simp only[ZcH,Zgd]
 exact au
theorem w176:Walk tt G [(58,G58),(150,K150.G)] (fun _=>[]) Tryz.f176 K176:=by
 refine .ak [] false Tryz.ntmps176 fun T hO hT ⟨a0,a1⟩ x=>?_
 simp only[Zh] at hT; simp only[kS,nfs,Zfr];exact auR
theorem w143:Walk tt G [(176,K176.G)] (fun _=>[]) Tryz.f143 K143:=by
 refine .ak [(2,⟨[0,3],[7],[(0,none,1,1)]⟩),(5,⟨[0,3,4,5],[7,900004],[(4,none,900004,32)]⟩)] true Tryz.ntmps143 fun T hO hT a0 x=>?_
 simp only[Zh] at hT; simp only[kS,nfs,Zdw,ZeO,Zc9,Zbu];refine au ?_
 intros; refine lpP 2 (fun⟨p51,p52⟩=>([(0,.one (.slice .no (List.map (arC .u8) p51))),(3,.one (.ms 7 0 0 (p52.length) 1))],[(7,⟨0,1,List.map ZgR p52,false,true⟩)])) ?_; rintro⟨p51,p52⟩ x; simp only[Lref07_levels_s1,ZeO,Zc9,Zbu]
 refine au ?_
 intros; refine lpP 5 (fun⟨p91,p92⟩=>([(4,.one (.ms 900004 0 0 (p92.length) 32)),(5,.one (.v (.int .i64 p91)))],[(900004,⟨0,32,List.map (arC .u8) p92,false,true⟩)])) ?_; rintro⟨p91,p92⟩ x; simp only[Zhh,ZeO,Zc9,Zbu]
 exact au
theorem w111:Walk tt G [(143,K143.G)] (fun _=>[]) Tryz.f111 K111:=by
 refine .ak [] false Tryz.ntmps111 fun T hO hT a0 x=>?_
 simp only[Zh] at hT; simp only[kS,nfs,Zfs];exact au
theorem w73:Walk tt G [(110,K110.G),(111,K111.G)] (fun _=>[]) Tryz.f73 K73:=by
 refine .ak [(3,⟨[2,3,6,7,8],[2,16],[(3,none,16,32)]⟩)] false Tryz.ntmps73 fun T hO hT a0 x=>?_
 simp only[Zh] at hT; simp only[kS,nfs,ZdV,Zgf];refine au ?_
 intros; refine lpP 3 (fun⟨p8,p9⟩=>([(3,.one (.ms 16 0 0 (p9.length) 32)),(8,.one (.v (.int .i64 p8)))],[(16,⟨0,32,List.map (arC .u8) p9,false,true⟩)])) ?_; rintro⟨p8,p9⟩ x; simp only[Zih,Zgf]
 exact au
theorem w74:Walk tt G [] (fun _=>[]) Tryz.f74 K74:=by
 refine .ak [] false Tryz.ntmps74 fun T hO hT a0 x=>?_
 simp only[Zh] at hT; simp only[kS,nfs,Ze8];exact au
section
attribute [local simp] az64 bz4
theorem w43:Walk tt G [(68,G68),(69,K69.G),(70,K70.G),(71,K71.G),(72,K72.G),(73,K73.G),(74,K74.G)] (fun _=>[]) Tryz.f43 K43:=by
 refine .sk [] true Tryz.ntmps43 fun T hO hT ⟨a0,a1,a2,a3⟩ x hr=>?_
 simp only[Zh] at hT; simp only[kS,nfs] at hr ⊢;unfold Zeo at hr;refine go ?_;obtain⟨y9,ehy9,hr⟩:=bG hr fun _=>ZtD
 simp only[E68,R68,kS,nf,nfs,Yp] at ehy9;refine go ?_;obtain⟨_,ehy10,hr⟩:=bN hr K70.q2;obtain⟨_,ehy11,hr⟩:=bN hr K71.q1;obtain⟨y12,ehy12,hr⟩:=bN hr K69.q3;obtain⟨_,hr⟩:=bC hr;have n1_u13_0:(1+y9.1.length) * 64≤140737488355328:=by omega
 have n2_u13_0:1+y9.1.length≤9223372036854775807:=by omega
 refine go ?_;obtain⟨_,ehy14,hr⟩:=bN hr K73.q1;obtain⟨_,ehy15,hr⟩:=bN hr K74.q1;obtain⟨_,ehy16,hr⟩:=bN hr K72.q4;cases hb:(y12.2.1.any ((fun l=>l.any Cell.isSl) ∘ Za1) || y12.2.2.1.any ((fun l=>l.any Cell.isSl) ∘ Xh)) <;> (refine go ?_; exact fin hr)
end
end Go.Proofs.YtcfpmbefhfbdjaaGreatDoor
