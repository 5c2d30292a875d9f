import Derived.Test.YtcfpmbefhfbdjaaGreatDoorLfK
import Derived.Test.YtcfpmbefhfbdjaaGreatDoorCode
import Derived.Test.YtcfpmbefhfbdjaaGreatDoorBl
namespace Go.Proofs.YtcfpmbefhfbdjaaGreatDoor
open Go.RowKit
open Go.Av
open Go.Lc
set_option maxRecDepth 100000
set_option linter.unusedSimpArgs false
set_option linter.unusedVariables false
set_option maxHeartbeats 4000000
def kp178:Keep:=fun i=>⟨[],[],[]⟩
theorem w178 {T:Tab}(hO:T.own=fun _=>[]) (hT58:T 58=some G58) (a0:ByteArray) (a1:(List Int)) (x:(Arr 32)) (hr:Zan a0 a1=some x):∃ kp fl n,ZZ tt T G kp fl n Tryz.f178 (Zhn (a0,a1))=some (Zjk (a0,a1) x):=by
 simp only[Zhn,Zjk];refine fnE (kp:=kp178) (w:=false) body178 (by simp) ?_;unfold c178;rw[Tryz.ntmps178];unfold Zan at hr;refine Zd rfl (by simp[Nat.add_assoc,]; rfl) ?_;obtain⟨_,u7,hr⟩:=bs hr;have u7_0:=ZK u7;obtain⟨y8,hy8,hr⟩:=bs hr;have ehy8:=Zqc hy8;simp only[E58,R58,kS,nf,nfs,Yp] at ehy8;refine Zd rfl (by simp[Nat.add_assoc,u7_0,hO,hT58,ehy8]; rfl) ?_;obtain⟨_,u9,hr⟩:=bs hr;have u9_0:=ZK u9;have n1_u9_0:y8.l.length≤140737488355328:=by omega
 have n2_u9_0:y8.l.length≤9223372036854775807:=by omega
 have n1v_u9_0:=n1_u9_0;try simp[Nat.add_assoc,Arr.hl] at n1v_u9_0
 have n2v_u9_0:=n2_u9_0;try simp[Nat.add_assoc,Arr.hl] at n2v_u9_0
 obtain⟨_,u10,hr⟩:=bs hr;have u10_0:=ZK u10;have n1_u10_0:y8.l.length+y8.l.length≤140737488355328:=by omega
 have n2_u10_0:y8.l.length+y8.l.length≤9223372036854775807:=by omega
 have n1v_u10_0:=n1_u10_0;try simp[Nat.add_assoc,Arr.hl] at n1v_u10_0
 have n2v_u10_0:=n2_u10_0;try simp[Nat.add_assoc,Arr.hl] at n2v_u10_0
 obtain⟨_,u11,hr⟩:=bs hr;have u11_0:=ZK u11
 have n1_u11_0:y8.l.length+(y8.l.length+a1.length)≤140737488355328:=by
  have h:=u11_0;try simp at h
  first | omega | (simp only[List.length_take,List.length_drop] at h ⊢; omega) | (simp only[List.length_take,List.length_drop]; omega)
 have n2_u11_0:y8.l.length+(y8.l.length+a1.length)≤9223372036854775807:=by
  have h:=u11_0;try simp at h
  first | omega | (simp only[List.length_take,List.length_drop] at h ⊢; omega) | (simp only[List.length_take,List.length_drop]; omega)
 obtain⟨y12,hy12,hr⟩:=bs hr;have ehy12:=Zqc hy12;simp only[E58,R58,kS,nf,nfs,Yp] at ehy12;have z64a:64+a1.length≤140737488355328:=by have:=y8.hl; omega
 have z64b:64+a1.length≤9223372036854775807:=by omega
 have z64c:64+a1.length≤32+(32+a1.length):=by omega
 have z64d:List.take (64+a1.length) (Zg IntKind.u8 y8.l)=Zg .u8 y8.l:=List.take_of_length_le (by simp; omega);have z64e:List.take (64+a1.length-32) (Zg IntKind.u8 y8.l)=Zg .u8 y8.l:=List.take_of_length_le (by simp; omega);have z64f:List.take (64+a1.length-32-32) (Zg IntKind.u8 a1)=Zg .u8 a1:=List.take_of_length_le (by simp; omega);refine Xf rfl (by simp[Nat.add_assoc,z64a,z64b,z64c,z64d,z64e,z64f,n1_u9_0,n2_u9_0,n1v_u9_0,n2v_u9_0,n1_u10_0,n2_u10_0,n1v_u10_0,n2v_u10_0,n1_u11_0,n2_u11_0,hO,hT58,ehy12]; first | exact⟨rfl,rfl⟩ | rfl) (by kernel_rfl) ?_;refine Zaf ?_;obtain rfl:=Option.some.inj hr;simp[Nat.add_assoc,YW,n1_u9_0,n2_u9_0,n1v_u9_0,n2v_u9_0,n1_u10_0,n2_u10_0,n1v_u10_0,n2v_u10_0,n1_u11_0,n2_u11_0,hO,hT58,ehy12]
theorem w152:Walk tt G [(58,G58),(59,K59.G),(60,K60.G),(141,K141.G),(173,K173.G),(174,K174.G),(178,G178)] (fun _=>[]) Tryz.f152 K152:=by
 refine .ak [(7,⟨[1,3,5,6,8,9,10,42,43,44],[3,5,6,52,900009],[(9,none,900009,0),(9,none,900009,1),(8,none,52,1)]⟩),(13,⟨[1,3,5,6,8,9,10,59,60,61],[3,5,6,52,68,900009],[(10,none,68,1)]⟩)] false Tryz.ntmps152 fun T hO hT ⟨a0,a1,a2⟩ x=>?_
 simp only[Zh] at hT; simp only[kS,nfs,ZcP,Zcn,Zco];refine au ?_
 intros; refine lpP 7 (fun⟨p13,p14,p15⟩=>([(8,.one (.ms 52 0 0 (p14.length) 1)),(9,.one (.ms 900009 0 0 (p15.length) 1)),(44,.one (.v (.int .i64 p13)))],[(52,⟨0,1,Zg .u8 p14,false,true⟩),(900009,⟨0,1,Zg .u8 p15,false,true⟩)])) ?_; rintro⟨p13,p14,p15⟩ x; simp only[Zgx,Zcn,Zco]
 refine au ?_
 intros; refine lpP 13 (fun⟨p28,p29⟩=>([(10,.one (.ms 68 0 0 (p29.length) 1)),(61,.one (.v (.int .i64 p28)))],[(68,⟨0,1,Zg .u8 p29,false,true⟩)])) ?_; rintro⟨p28,p29⟩ x; simp only[Zgw,Zcn,Zco]
 exact au
theorem w118:Walk tt G [(152,K152.G),(153,K153.G)] (fun _=>[]) Tryz.f118 K118:=by
 refine .ak [] false Tryz.ntmps118 fun T hO hT ⟨a0,a1,a2,a3⟩ x=>?_
 simp only[Zh] at hT; simp only[kS,nfs,Zep];exact au
theorem w77:Walk tt G [(114,G114),(116,K116.G),(117,K117.G),(118,K118.G)] (fun _=>[]) Tryz.f77 K77:=by
 refine .ak [(9,⟨[1,2,3,8,28,29],[3],[]⟩)] false Tryz.ntmps77 fun T hO hT ⟨a0,a1,a2⟩ x=>?_
 simp only[Zh] at hT; simp only[kS,nfs,Zeq,ZhU];refine au ?_
 intros; refine lpP 9 (fun p9=>([(29,.one (.v (.int .i64 p9)))],[])) ?_; rintro p9 x; simp only[ZfO,ZhU]
 exact au
theorem w78:Walk tt G [] (fun _=>[]) Tryz.f78 K78:=by
 refine .ak [] false Tryz.ntmps78 fun T hO hT ⟨a0,a1⟩ x=>?_
 simp only[Zh] at hT; simp only[kS,nfs,ZcL];exact au
theorem w82:Walk tt G [(108,K108.G),(116,K116.G)] (fun _=>[]) Tryz.f82 K82:=by
 refine .ak [(4,⟨[1,2,5,6,12,13,14],[2,6,30],[(5,none,30,37)]⟩)] true Tryz.ntmps82 fun T hO hT ⟨a0,a1⟩ x=>?_
 simp only[Zh] at hT; simp only[kS,nfs,ZaC,Zgs];refine au ?_
 intros; refine lpP 4 (fun⟨p9,p10⟩=>([(5,.one (.ms 30 0 0 (p10.length) 37)),(14,.one (.v (.int .i64 p9)))],[(30,⟨0,37,List.map Zr p10,false,true⟩)])) ?_; rintro⟨p9,p10⟩ x; simp only[Zgt,Zgs]
 exact au
end Go.Proofs.YtcfpmbefhfbdjaaGreatDoor
