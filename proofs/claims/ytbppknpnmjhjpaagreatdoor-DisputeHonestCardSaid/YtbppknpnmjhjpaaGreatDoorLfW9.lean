import Derived.Test.YtbppknpnmjhjpaaGreatDoorLfK
import Derived.Test.YtbppknpnmjhjpaaGreatDoorCode
import Derived.Test.YtbppknpnmjhjpaaGreatDoorBl
namespace Go.Proofs.YtbppknpnmjhjpaaGreatDoor
open Go.RowKit
open Go.Av
open Go.Lc
set_option maxRecDepth 100000
set_option linter.unusedSimpArgs false
set_option linter.unusedVariables false
set_option maxHeartbeats 4000000
def kp153:Keep:=fun i=>if i=4 then⟨[13,14,15],[],[]⟩ else⟨[],[],[]⟩
theorem w153 {T:Tab}(a0:Tapi_Tx) (a1:Int) (x:Bool) (hr:ZaD a0 a1=some x):∃ kp fl n,ZN tt T G kp fl n Tryz.f153 (ZhQ (a0,a1))=some (ZjR (a0,a1) x):=by
 simp only[ZhQ,ZjR];refine fnE (kp:=kp153) (w:=false) body153 (by simp) ?_;unfold c153;rw[Tryz.ntmps153];unfold ZaD at hr;refine Zd rfl (by simp[]; rfl) ?_;refine ZA ?_;refine Zd rfl (by simp[]; rfl) ?_;by_cases c7:IntKind.i64.wrap (a0.2.2.2)≤a1
 ·skip
  rw[if_pos c7] at hr;refine Zw (by simp[bV,c7]) ?_;refine ZA ?_;refine Zd rfl (by simp[c7]; rfl) ?_;refine Zac ?_;obtain rfl:=Option.some.inj hr;simp[YP,c7]
 ·skip
  rw[if_neg c7] at hr;refine Zv (by simp[bV,c7]) ?_;refine ZD ?_;refine ZA ?_;refine Zd rfl (by simp[c7]; rfl) ?_;refine Zx ?_;refine Xs (kq:=⟨[13,14,15],[],[]⟩) (H:=fun(s:Int)=>match s with | p4=>(⟨(und 13++([.one (.slice .no (List.map Zbs a0.2.1)),.one (.v (.int .i64 (a0.2.1.length:Int))),.one (.v (.int .i64 p4))]++(und 7)):List PV),([]:Boxes)⟩:ASt)) (by kernel_rfl) hr (by simp[und,List.replicate,c7]) ?_;rintro p4 x13r hr13
  simp only[ZgI] at hr13;unfold b153_1;simp only[und,List.replicate,List.cons_append,List.nil_append];refine Zd rfl (by simp[c7]; rfl) ?_;by_cases c14:p4<(a0.2.1.length:Int)
  ·skip
   have c14N:=c14;try simp at c14N
   first | have c14M:(_=_)=True:=eq_true c14N | have c14M:=c14N
   rw[if_pos] at hr13;rotate_left
   ·simp[c7,c14,c14M]
   refine Zw (by simp[bV,c7,c14,c14M]) ?_;refine ZD ?_;refine Zx ?_;obtain⟨x15,hx15,hr13⟩:=bs hr13;obtain⟨hx15a,hx15b⟩:=ZbP hx15;have hx15c:=Yb hx15b;refine Zd rfl (by simp[hx15a,hx15b,hx15c,c7,c14,c14M] <;> rfl) ?_;refine Zd rfl (by simp[c7,c14,c14M] <;> rfl) ?_;by_cases c16:x15.2.1=4294967295
   ·skip
    rw[if_neg (not_not_intro c16)] at hr13;refine ZdI (by simp[bV,c7,c14,c14M,eq_true c16]) ?_;refine Ze7 ?_;simp only[pq,reduceCtorEq];refine Xb rfl (by simp[c7,c14,c14M,eq_true c16] <;> rfl) ?_;obtain rfl:=Option.some.inj hr13;simp only[pq,reduceCtorEq];simp[und,List.replicate,Nat.add_assoc,c7,c14,c14M,eq_true c16]
   ·skip
    rw[if_pos c16] at hr13;refine ZcS (by simp[bV,c7,c14,c14M,c16]) ?_;refine Zd rfl (by simp[c7,c14,c14M,c16] <;> rfl) ?_;refine Zai ?_;obtain rfl:=Option.some.inj hr13;simp only[pq,reduceCtorEq];rintro rfl
    simp[YP,c7,c14,c14M,c16,c14N]
  ·skip
   have c14N:=c14;try simp at c14N
   first | have c14M:(_=_)=True:=eq_true c14N | have c14M:=c14N
   rw[if_neg] at hr13;rotate_left
   ·simp[c7,c14,c14M]
   refine Zv (by simp[bV,c7,c14,c14M]) ?_;refine Z7 ?_;obtain⟨r17,q17,rfl⟩:=ms hr13;simp only[pq,reduceCtorEq];rintro rfl
   try simp only[pq,reduceCtorEq]
   unfold Lref09_Final_k1 at q17;refine Zd rfl (by simp[c7,c14,c14M] <;> rfl) ?_;refine Zai ?_;obtain rfl:=Option.some.inj q17;simp[YP,c7,c14,c14M,c14N]
theorem w96:Walk tt G [(39,K39.G),(110,K110.G),(152,K152.G),(153,G153)] (fun _=>[]) Tryz.f96 K96:=by
 refine .sk [] false Tryz.ntmps96 fun T hO hT ⟨a0,a1,a2⟩ x hr=>?_
 simp only[Zh] at hT; simp only[kS,nfs] at hr ⊢;unfold Zfe at hr;refine go ?_;obtain⟨y8,ehy8,hr⟩:=bN hr K110.q1;by_cases c9:y8=true
 ·replace hr:=ZmO hr
  obtain⟨_,hz10,hr⟩:=bs hr;obtain⟨y11,ehy11,hz10⟩:=bN hz10 K152.q1;obtain rfl:=Option.some.inj hz10;refine go ?_;by_cases c12:y11=true
  ·replace hr:=ifN hr
   refine go ?_;rcases eqT (a1.1=16777216) with c13 | c13
   ·replace hr:=ifP hr
    refine go ?_;exact fin hr
   ·replace hr:=ifN hr
    refine go ?_;rcases eqT (a2.1.2.1=a1.2.1) with c14 | c14
    ·replace hr:=ifN hr
     refine go ?_;obtain⟨y15,ehy15,hr⟩:=bN hr K39.q1;refine go ?_;rcases eqT (y15=0) with c16 | c16
     ·replace hr:=ifN hr
      refine go ?_;obtain⟨_,hx17,hr⟩:=bs hr;have hx17c:=Yb hx17;obtain⟨x18,hx18,hr⟩:=bs hr;have hx18c:=Yb hx18;refine go ?_;rcases eqT (IntKind.i64.wrap (x18.2.1)=IntKind.i64.wrap (a1.1+1)) with c19 | c19
      ·replace hr:=ifN hr
       refine go ?_;have hx17c:=Yb hx17;obtain⟨y20,ehy20,hr⟩:=bG hr fun _=>Zs4
       simp only[ZhQ,ZjR,kS,nf,nfs,Z5] at ehy20;refine go ?_;by_cases c21:y20=true
       ·replace hr:=ifN hr
        refine go ?_;exact fin hr
       ·replace hr:=ifP hr
        refine go ?_;exact fin hr
      ·replace hr:=ifP hr
       refine go ?_;exact fin hr
     ·replace hr:=ifP hr
      refine go ?_;exact fin hr
    ·replace hr:=ifP hr
     refine go ?_;exact fin hr
  ·replace hr:=ifP hr
   refine go ?_;exact fin hr
 ·replace hr:=ZlP hr
  obtain⟨_,hz22,hr⟩:=bs hr;obtain rfl:=Option.some.inj hz22;refine go ?_
  replace hr:=ifP hr
  refine go ?_;exact fin hr
theorem w100:Walk tt G [] (fun _=>[]) Tryz.f100 K100:=by
 refine .ak [(2,⟨[0,3,7,8],[3],[]⟩)] false Tryz.ntmps100 fun T hO hT ⟨a0,a1⟩ x=>?_
 simp only[Zh] at hT; simp only[kS,nfs,Zdk,Lref23_find_k1];refine au ?_
 intros; refine lpP 2 (fun p4=>([(8,.one (.v (.int .i64 p4)))],[])) ?_; rintro p4 x; simp only[Zhq,Lref23_find_k1]
 exact au
theorem w154:Walk tt G [(88,K88.G)] (fun _=>[]) Tryz.f154 K154:=by
 refine .ak [] true Tryz.ntmps154 fun T hO hT a0 x=>?_
 simp only[Zh] at hT; simp only[kS,nfs,Zbm];exact au
theorem w97:Walk tt G [(100,K100.G),(154,K154.G)] (fun _=>[]) Tryz.f97 K97:=by
 refine .ak [(3,⟨[1,3,4,10,17,18,19],[4,36],[(10,none,36,37)]⟩),(11,⟨[3,4,10,38,39,40],[4,36],[]⟩)] false Tryz.ntmps97 fun T hO hT ⟨a0,a1,a2,a3⟩ x=>?_
 simp only[Zh] at hT; simp only[kS,nfs,Zff,ZgJ,Zez];refine au ?_
 intros; refine lpP 3 (fun⟨p12,p13⟩=>([(10,.one (.ms 36 0 0 (p13.length) 37)),(19,.one (.v (.int .i64 p12)))],[(36,⟨0,37,List.map Zs p13,false,true⟩)])) ?_; rintro⟨p12,p13⟩ x; simp only[Zi3,ZgJ,Zez]
 refine au ?_
 intros; refine lpP 11 (fun p24=>([(40,.one (.v (.int .i64 p24)))],[])) ?_; rintro p24 x; simp only[ZgK,ZgJ,Zez]
 exact au
theorem w155:Walk tt G [(79,K79.G)] (fun _=>[]) Tryz.f155 K155:=by
 refine .ak [(7,⟨[1,2,25,26],[2],[]⟩),(14,⟨[2,8,42,43,44],[2],[]⟩),(23,⟨[8,67,68,69],[],[]⟩)] false Tryz.ntmps155 fun T hO hT ⟨a0,a1⟩ x=>?_
 simp only[Zh] at hT; simp only[kS,nfs,Zhl,ZbC,ZcV,ZbD];refine au ?_
 intros; refine lpP 7 (fun p7=>([(26,.one (.v (.int .i64 p7)))],[])) ?_; rintro p7 x; simp only[Zeg,ZbC,ZcV,ZbD]
 refine au ?_
 intros; refine lpP 14 (fun⟨p14,p15⟩=>([(8,.one (.v (.int .i64 p14))),(44,.one (.v (.int .i64 p15)))],[])) ?_; rintro⟨p14,p15⟩ x; simp only[Zef,ZbC,ZcV,ZbD]
 refine au ?_
 intros; refine lpP 23 (fun⟨p21,p22⟩=>([(8,.one (.v (.int .i64 p21))),(69,.one (.v (.int .i64 p22)))],[])) ?_; rintro⟨p21,p22⟩ x; simp only[ZaH,ZbC,ZcV,ZbD]
 exact au
def kp218:Keep:=fun i=>⟨[],[],[]⟩
theorem w218 {T:Tab}(hO:T.own=fun _=>[]) (hT57:T 57=some G57) (a0:ByteArray) (a1:(List Int)) (x:(Arr 32)) (hr:ZaJ a0 a1=some x):∃ kp fl n,ZN tt T G kp fl n Tryz.f218 (ZiA (a0,a1))=some (Zkz (a0,a1) x):=by
 simp only[ZiA,Zkz];refine fnE (kp:=kp218) (w:=false) body218 (by simp) ?_;unfold c218;rw[Tryz.ntmps218];unfold ZaJ at hr;refine Zd rfl (by simp[Nat.add_assoc,]; rfl) ?_;obtain⟨_,u7,hr⟩:=bs hr;have u7_0:=ZO u7;obtain⟨y8,hy8,hr⟩:=bs hr;have ehy8:=ZrW hy8;simp only[E57,R57,kS,nf,nfs,Z5] at ehy8;refine Zd rfl (by simp[Nat.add_assoc,u7_0,hO,hT57,ehy8]; rfl) ?_;obtain⟨_,u9,hr⟩:=bs hr;have u9_0:=ZO u9;have n1_u9_0:y8.l.length≤140737488355328:=by omega
 have n2_u9_0:y8.l.length≤9223372036854775807:=by omega
 have n1v_u9_0:=n1_u9_0;try simp[Nat.add_assoc,Arr.hl] at n1v_u9_0
 have n2v_u9_0:=n2_u9_0;try simp[Nat.add_assoc,Arr.hl] at n2v_u9_0
 obtain⟨_,u10,hr⟩:=bs hr;have u10_0:=ZO u10;have n1_u10_0:y8.l.length+y8.l.length≤140737488355328:=by omega
 have n2_u10_0:y8.l.length+y8.l.length≤9223372036854775807:=by omega
 have n1v_u10_0:=n1_u10_0;try simp[Nat.add_assoc,Arr.hl] at n1v_u10_0
 have n2v_u10_0:=n2_u10_0;try simp[Nat.add_assoc,Arr.hl] at n2v_u10_0
 obtain⟨_,u11,hr⟩:=bs hr;have u11_0:=ZO u11
 have n1_u11_0:y8.l.length+(y8.l.length+a1.length)≤140737488355328:=by
  have h:=u11_0;try simp at h
  first | omega | (simp only[List.length_take,List.length_drop] at h ⊢; omega) | (simp only[List.length_take,List.length_drop]; omega)
 have n2_u11_0:y8.l.length+(y8.l.length+a1.length)≤9223372036854775807:=by
  have h:=u11_0;try simp at h
  first | omega | (simp only[List.length_take,List.length_drop] at h ⊢; omega) | (simp only[List.length_take,List.length_drop]; omega)
 obtain⟨y12,hy12,hr⟩:=bs hr;have ehy12:=ZrW hy12;simp only[E57,R57,kS,nf,nfs,Z5] at ehy12;have z64a:64+a1.length≤140737488355328:=by have:=y8.hl; omega
 have z64b:64+a1.length≤9223372036854775807:=by omega
 have z64c:64+a1.length≤32+(32+a1.length):=by omega
 have z64d:List.take (64+a1.length) (Zg IntKind.u8 y8.l)=Zg .u8 y8.l:=List.take_of_length_le (by simp; omega);have z64e:List.take (64+a1.length-32) (Zg IntKind.u8 y8.l)=Zg .u8 y8.l:=List.take_of_length_le (by simp; omega);have z64f:List.take (64+a1.length-32-32) (Zg IntKind.u8 a1)=Zg .u8 a1:=List.take_of_length_le (by simp; omega);refine Z6 rfl (by simp[Nat.add_assoc,z64a,z64b,z64c,z64d,z64e,z64f,n1_u9_0,n2_u9_0,n1v_u9_0,n2v_u9_0,n1_u10_0,n2_u10_0,n1v_u10_0,n2v_u10_0,n1_u11_0,n2_u11_0,hO,hT57,ehy12]; first | exact⟨rfl,rfl⟩ | rfl) (by kernel_rfl) ?_;refine Zai ?_;obtain rfl:=Option.some.inj hr;simp[Nat.add_assoc,YP,n1_u9_0,n2_u9_0,n1v_u9_0,n2v_u9_0,n1_u10_0,n2_u10_0,n1v_u10_0,n2v_u10_0,n1_u11_0,n2_u11_0,hO,hT57,ehy12]
end Go.Proofs.YtbppknpnmjhjpaaGreatDoor
