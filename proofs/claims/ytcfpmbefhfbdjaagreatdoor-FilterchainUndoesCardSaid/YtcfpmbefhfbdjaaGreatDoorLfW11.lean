import Derived.Test.YtcfpmbefhfbdjaaGreatDoorLfK
import Derived.Test.YtcfpmbefhfbdjaaGreatDoorCode
import Derived.Test.YtcfpmbefhfbdjaaGreatDoorBl
namespace Go.Proofs.YtcfpmbefhfbdjaaGreatDoor
open Go.RowKit
open Go.Av
open Go.Lc
set_option maxRecDepth 100000
set_option linter.unusedSimpArgs false
set_option linter.unusedVariables false
set_option maxHeartbeats 4000000
theorem w113:Walk tt G [(73,K73.G),(108,K108.G),(116,K116.G),(145,K145.G),(146,K146.G),(147,K147.G),(148,K148.G),(149,K149.G)] (fun _=>[]) Tryz.f113 K113:=by
 refine .ak [(6,⟨[1,20,21,22],[1],[]⟩),(13,⟨[1,5,34,35,36],[1],[]⟩),(20,⟨[1,5,47,48,49],[1,62],[(5,none,62,32)]⟩)] false Tryz.ntmps113 fun T hO hT a0 x=>?_
 simp only[Zh] at hT; simp only[kS,nfs,ZbT,Zb5,Zb6,Zb7];refine au ?_
 intros; refine lpP 6 (fun p7=>([(22,.one (.v (.int .i64 p7)))],[])) ?_; rintro p7 x; simp only[ZfK,Zb5,Zb6,Zb7]
 refine au ?_
 intros; refine lpP 13 (fun p15=>([(36,.one (.v (.int .i64 p15)))],[])) ?_; rintro p15 x; simp only[ZfJ,Zb5,Zb6,Zb7]
 refine au ?_
 intros; refine lpP 20 (fun⟨p27,p28⟩=>([(5,.one (.ms 62 0 0 (p28.length) 32)),(49,.one (.v (.int .i64 p27)))],[(62,⟨0,32,List.map (arC .u8) p28,false,true⟩)])) ?_; rintro⟨p27,p28⟩ x; simp only[ZhQ,Zb5,Zb6,Zb7]
 exact au
def kp114:Keep:=fun i=>if i=4 then⟨[13,14,15],[],[]⟩ else⟨[],[],[]⟩
theorem w114 {T:Tab}(a0:Tapi_Tx) (a1:Int) (x:Bool) (hr:Zaj a0 a1=some x):∃ kp fl n,ZZ tt T G kp fl n Tryz.f114 (ZgA (a0,a1))=some (ZiE (a0,a1) x):=by
 simp only[ZgA,ZiE];refine fnE (kp:=kp114) (w:=false) body114 (by simp) ?_;unfold c114;rw[Tryz.ntmps114];unfold Zaj at hr;refine Zd rfl (by simp[]; rfl) ?_;refine ZH ?_;refine Zd rfl (by simp[]; rfl) ?_;by_cases c7:IntKind.i64.wrap (a0.2.2.2)≤a1
 ·skip
  rw[if_pos c7] at hr;refine ZC (by simp[bV,c7]) ?_;refine ZH ?_;refine Zd rfl (by simp[c7]; rfl) ?_;refine ZaO ?_;obtain rfl:=Option.some.inj hr;simp[YW,c7]
 ·skip
  rw[if_neg c7] at hr;refine ZF (by simp[bV,c7]) ?_;refine ZM ?_;refine ZH ?_;refine Zd rfl (by simp[c7]; rfl) ?_;refine ZD ?_;refine X8 (kq:=⟨[13,14,15],[],[]⟩) (H:=fun(s:Int)=>match s with | p4=>(⟨(und 13++([.one (.slice .no (List.map Za1 a0.2.1)),.one (.v (.int .i64 (a0.2.1.length:Int))),.one (.v (.int .i64 p4))]++(und 7)):List PV),([]:Boxes)⟩:ASt)) (by kernel_rfl) hr (by simp[und,List.replicate,c7]) ?_;rintro p4 x13r hr13
  simp only[ZfL] at hr13;unfold b114_1;simp only[und,List.replicate,List.cons_append,List.nil_append];refine Zd rfl (by simp[c7]; rfl) ?_;by_cases c14:p4<(a0.2.1.length:Int)
  ·skip
   have c14N:=c14;try simp at c14N
   first | have c14M:(_=_)=True:=eq_true c14N | have c14M:=c14N
   rw[if_pos] at hr13;rotate_left
   ·simp[c7,c14,c14M]
   refine ZC (by simp[bV,c7,c14,c14M]) ?_;refine ZM ?_;refine ZD ?_;obtain⟨x15,hx15,hr13⟩:=bs hr13;obtain⟨hx15a,hx15b⟩:=Zcb hx15;have hx15c:=YL hx15b;refine Zd rfl (by simp[hx15a,hx15b,hx15c,c7,c14,c14M] <;> rfl) ?_;refine Zd rfl (by simp[c7,c14,c14M] <;> rfl) ?_;by_cases c16:x15.2.1=4294967295
   ·skip
    rw[if_neg (not_not_intro c16)] at hr13;refine Zg8 (by simp[bV,c7,c14,c14M,eq_true c16]) ?_;refine Zic ?_;simp only[pq,reduceCtorEq];refine XY rfl (by simp[c7,c14,c14M,eq_true c16] <;> rfl) ?_;obtain rfl:=Option.some.inj hr13;simp only[pq,reduceCtorEq];simp[und,List.replicate,Nat.add_assoc,c7,c14,c14M,eq_true c16]
   ·skip
    rw[if_pos c16] at hr13;refine Zg7 (by simp[bV,c7,c14,c14M,c16]) ?_;refine Zd rfl (by simp[c7,c14,c14M,c16] <;> rfl) ?_;refine Zaf ?_;obtain rfl:=Option.some.inj hr13;simp only[pq,reduceCtorEq];rintro rfl
    simp[YW,c7,c14,c14M,c16,c14N]
  ·skip
   have c14N:=c14;try simp at c14N
   first | have c14M:(_=_)=True:=eq_true c14N | have c14M:=c14N
   rw[if_neg] at hr13;rotate_left
   ·simp[c7,c14,c14M]
   refine ZF (by simp[bV,c7,c14,c14M]) ?_;refine Ys ?_;obtain⟨r17,q17,rfl⟩:=ms hr13;simp only[pq,reduceCtorEq];rintro rfl
   try simp only[pq,reduceCtorEq]
   unfold Lref09_Final_k1 at q17;refine Zd rfl (by simp[c7,c14,c14M] <;> rfl) ?_;refine Zaf ?_;obtain rfl:=Option.some.inj q17;simp[YW,c7,c14,c14M,c14N]
theorem w75:Walk tt G [(89,K89.G),(112,K112.G),(113,K113.G),(114,G114)] (fun _=>[]) Tryz.f75 K75:=by
 refine .sk [] false Tryz.ntmps75 fun T hO hT ⟨a0,a1,a2⟩ x hr=>?_
 simp only[Zh] at hT; simp only[kS,nfs] at hr ⊢;unfold Zei at hr;refine go ?_;obtain⟨y8,ehy8,hr⟩:=bN hr K89.q1;by_cases c9:y8=true
 ·replace hr:=Zlh hr
  obtain⟨_,hz10,hr⟩:=bs hr;obtain⟨y11,ehy11,hz10⟩:=bN hz10 K112.q1;obtain rfl:=Option.some.inj hz10;refine go ?_;by_cases c12:y11=true
  ·replace hr:=ifN hr
   refine go ?_;rcases eqT (a1.1=16777216) with c13 | c13
   ·replace hr:=ifP hr
    refine go ?_;exact fin hr
   ·replace hr:=ifN hr
    refine go ?_;rcases eqT (a2.1.2.1=a1.2.1) with c14 | c14
    ·replace hr:=ifN hr
     refine go ?_;obtain⟨y15,ehy15,hr⟩:=bN hr K113.q1;refine go ?_;rcases eqT (y15=0) with c16 | c16
     ·replace hr:=ifN hr
      refine go ?_;obtain⟨_,hx17,hr⟩:=bs hr;have hx17c:=YL hx17;obtain⟨x18,hx18,hr⟩:=bs hr;have hx18c:=YL hx18;refine go ?_;rcases eqT (IntKind.i64.wrap (x18.2.1)=IntKind.i64.wrap (a1.1+1)) with c19 | c19
      ·replace hr:=ifN hr
       refine go ?_;have hx17c:=YL hx17;obtain⟨y20,ehy20,hr⟩:=bG hr fun _=>Zrc
       simp only[ZgA,ZiE,kS,nf,nfs,Yp] at ehy20;refine go ?_;by_cases c21:y20=true
       ·replace hr:=ifN hr
        refine go ?_;exact fin hr
       ·replace hr:=ifP hr
        refine go ?_;exact fin hr
      ·replace hr:=ifP hr
       refine go ?_;exact fin hr
     ·replace hr:=ifP hr
      refine go ?_;exact fin hr
    ·replace hr:=ifP hr
     refine go ?_;exact fin hr
  ·replace hr:=ifP hr
   refine go ?_;exact fin hr
 ·replace hr:=Zlg hr
  obtain⟨_,hz22,hr⟩:=bs hr;obtain rfl:=Option.some.inj hz22;refine go ?_
  replace hr:=ifP hr
  refine go ?_;exact fin hr
theorem w79:Walk tt G [] (fun _=>[]) Tryz.f79 K79:=by
 refine .ak [(2,⟨[0,3,7,8],[3],[]⟩)] false Tryz.ntmps79 fun T hO hT ⟨a0,a1⟩ x=>?_
 simp only[Zh] at hT; simp only[kS,nfs,Zcz,Lref23_find_k1];refine au ?_
 intros; refine lpP 2 (fun p4=>([(8,.one (.v (.int .i64 p4)))],[])) ?_; rintro p4 x; simp only[Zgg,Lref23_find_k1]
 exact au
theorem w115:Walk tt G [(150,K150.G)] (fun _=>[]) Tryz.f115 K115:=by
 refine .ak [] true Tryz.ntmps115 fun T hO hT a0 x=>?_
 simp only[Zh] at hT; simp only[kS,nfs,ZaV];exact au
theorem w76:Walk tt G [(79,K79.G),(115,K115.G)] (fun _=>[]) Tryz.f76 K76:=by
 refine .ak [(3,⟨[1,3,4,10,17,18,19],[4,36],[(10,none,36,37)]⟩),(11,⟨[3,4,10,38,39,40],[4,36],[]⟩)] false Tryz.ntmps76 fun T hO hT ⟨a0,a1,a2,a3⟩ x=>?_
 simp only[Zh] at hT; simp only[kS,nfs,Zej,ZfM,ZdK];refine au ?_
 intros; refine lpP 3 (fun⟨p12,p13⟩=>([(10,.one (.ms 36 0 0 (p13.length) 37)),(19,.one (.v (.int .i64 p12)))],[(36,⟨0,37,List.map Zr p13,false,true⟩)])) ?_; rintro⟨p12,p13⟩ x; simp only[ZhR,ZfM,ZdK]
 refine au ?_
 intros; refine lpP 11 (fun p24=>([(40,.one (.v (.int .i64 p24)))],[])) ?_; rintro p24 x; simp only[ZfN,ZfM,ZdK]
 exact au
theorem w117:Walk tt G [(146,K146.G)] (fun _=>[]) Tryz.f117 K117:=by
 refine .ak [(7,⟨[1,2,25,26],[2],[]⟩),(14,⟨[2,8,42,43,44],[2],[]⟩),(23,⟨[8,67,68,69],[],[]⟩)] false Tryz.ntmps117 fun T hO hT ⟨a0,a1⟩ x=>?_
 simp only[Zh] at hT; simp only[kS,nfs,Zf9,Za8,Zcf,Za9];refine au ?_
 intros; refine lpP 7 (fun p7=>([(26,.one (.v (.int .i64 p7)))],[])) ?_; rintro p7 x; simp only[Zdq,Za8,Zcf,Za9]
 refine au ?_
 intros; refine lpP 14 (fun⟨p14,p15⟩=>([(8,.one (.v (.int .i64 p14))),(44,.one (.v (.int .i64 p15)))],[])) ?_; rintro⟨p14,p15⟩ x; simp only[Zdp,Za8,Zcf,Za9]
 refine au ?_
 intros; refine lpP 23 (fun⟨p21,p22⟩=>([(8,.one (.v (.int .i64 p21))),(69,.one (.v (.int .i64 p22)))],[])) ?_; rintro⟨p21,p22⟩ x; simp only[Zam,Za8,Zcf,Za9]
 exact au
end Go.Proofs.YtcfpmbefhfbdjaaGreatDoor
