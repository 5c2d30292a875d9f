import Derived.Test.YthpkpciceodioaaGreatDoorLfK
import Derived.Test.YthpkpciceodioaaGreatDoorCode
import Derived.Test.YthpkpciceodioaaGreatDoorBl
namespace Go.Proofs.YthpkpciceodioaaGreatDoor
open Go.RowKit
open Go.Av
open Go.Lc
set_option maxRecDepth 100000
set_option linter.unusedSimpArgs false
set_option linter.unusedVariables false
set_option maxHeartbeats 4000000
section
@[local simp] theorem ZAk {k:IntKind}{n:Nat}{a:Arr n}{l:List Cell}{j:Nat}(h:j<n):(arC k a++l)[j]? = (arC k a)[j]? := List.getElem?_append_left (by simpa using h)
def kp214:Keep:=fun i=>if i=2 then⟨[2,3,6],[2,3],[]⟩ else⟨[],[],[]⟩
theorem w214 {T:Tab}(a0:Tapi_OutPoint) (a1:Tapi_OutPoint) (x:Int) (hr:Xd a0 a1=some x):∃ kp fl n,ZP tt T G kp fl n Tryz.f214 (Zg7 (a0,a1))=some (Zjj (a0,a1) x):=by
 simp only[Zg7,Zjj];refine fnE (kp:=kp214) (w:=false) body214 (by simp) ?_;unfold c214;rw[Tryz.ntmps214];unfold Xd at hr;refine Zi rfl (by simp[]; rfl) ?_;refine Yk ?_;refine Zi rfl (by simp[]; rfl) ?_;refine ZR ?_;refine Zbr (kq:=⟨[2,3,6],[2,3],[]⟩) (H:=fun(s:Int)=>match s with | p3=>(⟨(und 2++([.ptr 2 0 0 0 33,.ptr 3 0 0 0 33]++(und 2++([.one (.v (.int .i64 p3))]++(und 33)))):List PV),([(2,⟨0,33,[(arC .u8 a0.1)++((.v (.int .u32 a0.2)) :: [])],false,false⟩),(3,⟨0,33,[(arC .u8 a1.1)++((.v (.int .u32 a1.2)) :: [])],false,false⟩)]:Boxes)⟩:ASt)) (by kernel_rfl) hr (by simp[und,List.replicate,]) ?_;rintro p3 x20r hr20
 simp only[ZgX] at hr20;unfold b214_1;simp only[und,List.replicate,List.cons_append,List.nil_append];refine Zi rfl (by simp[]; rfl) ?_;by_cases c21:p3<32
 ·skip
  rw[if_pos] at hr20;rotate_left
  ·simp[c21]
  refine Z9 (by simp[bV,c21]) ?_;refine Z7 ?_;refine ZR ?_;refine Zi rfl (by simp[c21]; rfl) ?_;refine Yk ?_;obtain⟨j22,hj22,hr20⟩:=bs hr20;obtain⟨j22a,j22b,j22c⟩:=YU hj22;have j22d:j22≤31:=by omega
  have ar23:=YR (k:=.u8) (a0.1) (i:=j22) j22c;have as24:=Y7 (k:=.u8) (a0.1) (i:=j22) j22c;obtain⟨j22a,j22b,j22c⟩:=YU hj22;have j22d:j22≤31:=by omega
  have ar25:=YR (k:=.u8) (a1.1) (i:=j22) j22c;have as26:=Y7 (k:=.u8) (a1.1) (i:=j22) j22c;refine Xq rfl (by simp[j22a,j22b,j22c,j22d,ar23,as24,ar25,as26,c21]; first | exact⟨rfl,rfl⟩ | rfl) (by kernel_rfl) ?_;by_cases c27:a0.1.at j22<a1.1.at j22
  ·skip
   rw[if_pos] at hr20;rotate_left
   ·simp[c21,c27]
   refine Z9 (by simp[bV,c21,c27]) ?_;refine Yk ?_;refine Zi rfl (by simp[c21,c27]; rfl) ?_;refine Zki ?_;obtain rfl:=Option.some.inj hr20;simp only[pq,reduceCtorEq];rintro rfl
   simp[ZaR,c21,c27]
  ·skip
   rw[if_neg] at hr20;rotate_left
   ·simp[c21,c27]
   refine ZX (by simp[bV,c21,c27]) ?_;refine Z7 ?_;obtain⟨j22a,j22b,j22c⟩:=YU hj22;have j22d:j22≤31:=by omega
   have ar28:=YR (k:=.u8) (a0.1) (i:=j22) j22c;have as29:=Y7 (k:=.u8) (a0.1) (i:=j22) j22c;obtain⟨j22a,j22b,j22c⟩:=YU hj22;have j22d:j22≤31:=by omega
   have ar30:=YR (k:=.u8) (a1.1) (i:=j22) j22c;have as31:=Y7 (k:=.u8) (a1.1) (i:=j22) j22c;refine Xq rfl (by simp[j22a,j22b,j22c,j22d,ar28,as29,ar30,as31,c21,c27]; first | exact⟨rfl,rfl⟩ | rfl) (by kernel_rfl) ?_;by_cases c32:a1.1.at j22<a0.1.at j22
   ·skip
    rw[if_pos] at hr20;rotate_left
    ·simp[c21,c27,c32]
    refine ZiT (by simp[bV,c21,c27,c32]) ?_;refine Zi rfl (by simp[c21,c27,c32]; rfl) ?_;refine ZdW ?_;obtain rfl:=Option.some.inj hr20;simp only[pq,reduceCtorEq];rintro rfl
    simp[ZaR,c21,c27,c32]
   ·skip
    rw[if_neg] at hr20;rotate_left
    ·simp[c21,c27,c32]
    refine ZiU (by simp[bV,c21,c27,c32]) ?_;refine Zko ?_;simp only[pq,reduceCtorEq];refine Zb0 rfl (by simp[c21,c27,c32]; rfl) ?_;obtain rfl:=Option.some.inj hr20;simp only[pq,reduceCtorEq];simp[und,List.replicate,Nat.add_assoc,c21,c27,c32]
 ·skip
  rw[if_neg] at hr20;rotate_left
  ·simp[c21]
  refine ZX (by simp[bV,c21]) ?_;refine YZ ?_;obtain⟨r33,q33,rfl⟩:=ms hr20;simp only[pq,reduceCtorEq];rintro rfl
  try simp only[pq,reduceCtorEq]
  unfold ZgW at q33;refine ZR ?_;refine Zi rfl (by simp[c21]; rfl) ?_;by_cases c34:a0.2<a1.2
  ·skip
   rw[if_pos c34] at q33;refine ZiT (by simp[bV,c21,c34]) ?_;refine Zi rfl (by simp[c21,c34]; rfl) ?_;refine ZdW ?_;obtain rfl:=Option.some.inj q33;simp[ZaR,c21,c34]
  ·skip
   rw[if_neg c34] at q33;refine ZiU (by simp[bV,c21,c34]) ?_;refine Zi rfl (by simp[c21,c34]; rfl) ?_;by_cases c35:a1.2<a0.2
   ·skip
    rw[if_pos c35] at q33;refine ZiT (by simp[bV,c21,c34,c35]) ?_;refine Zi rfl (by simp[c21,c34,c35]; rfl) ?_;refine ZdW ?_;obtain rfl:=Option.some.inj q33;simp[ZaR,c21,c34,c35]
   ·skip
    rw[if_neg c35] at q33;refine ZiU (by simp[bV,c21,c34,c35]) ?_;refine Zko ?_;simp only[pq,reduceCtorEq];refine Zi rfl (by simp[c21,c34,c35]; rfl) ?_;refine ZdW ?_;obtain rfl:=Option.some.inj q33;simp[ZaR,c21,c34,c35]
end
theorem w180:Walk tt G [(214,G214)] (fun _=>[]) Tryz.f180 K180:=by
 refine .ak [(5,⟨[1,3,21,22,23],[1],[]⟩)] false Tryz.ntmps180 fun T hO hT a0 x=>?_
 simp only[Zg] at hT; simp only[kS,nfs,Zdt,Lref23_Sound_k1];refine au ?_
 intros; refine lpP 5 (fun⟨p11,p12⟩=>([(3,.one (.v (.int .i64 p11))),(23,.one (.v (.int .i64 p12)))],[])) ?_; rintro⟨p11,p12⟩ x; simp only[Ziq,Lref23_Sound_k1]
 exact au
theorem w115:Walk tt G [(72,K72.G),(114,K114.G)] (fun _=>[]) Tryz.f115 K115:=by
 refine .ak [] false Tryz.ntmps115 fun T hO hT ⟨a0,a1⟩ x=>?_
 simp only[Zg] at hT; simp only[kS,nfs,Zbj];exact au
theorem w73:Walk tt G [(52,K52.G),(61,K61.G),(115,K115.G)] (fun _=>[]) Tryz.f73 K73:=by
 refine .ak [(3,⟨[3,17,18,19],[15],[]⟩)] true Tryz.ntmps73 fun T hO hT a0 x=>?_
 simp only[Zg] at hT; simp only[kS,nfs,Zbk,ZhT];refine au ?_
 intros; refine lpP 3 (fun⟨p11,p12⟩=>([(3,.one (.ms 15 0 0 (p12.length) 1)),(19,.one (.v (.int .i64 p11)))],[(15,⟨0,1,Zf .u8 p12,false,true⟩)])) ?_; rintro⟨p11,p12⟩ x; simp only[ZbD,ZhT]
 exact au
theorem w39:Walk tt G [(72,K72.G),(73,K73.G)] (fun _=>[]) Tryz.f39 K39:=by
 refine .ak [(4,⟨[1,10,11,12],[1],[]⟩)] false Tryz.ntmps39 fun T hO hT a0 x=>?_
 simp only[Zg] at hT; simp only[kS,nfs,ZcP,XZ];refine au ?_
 intros; refine lpP 4 (fun p6=>([(12,.one (.v (.int .i64 p6)))],[])) ?_; rintro p6 x; simp only[ZZ,XZ]
 exact au
theorem w83:Walk tt G [] (fun _=>[]) Tryz.f83 K83:=by
 refine .ak [] false Tryz.ntmps83 fun T hO hT a0 x=>?_
 simp only[Zg] at hT; simp only[kS,nfs,Zed];exact au
theorem w46:Walk tt G [(83,K83.G)] (fun _=>[]) Tryz.f46 K46:=by
 refine .ak [] false Tryz.ntmps46 fun T hO hT a0 x=>?_
 simp only[Zg] at hT; simp only[kS,nfs,Zaa];exact au
theorem w215:Walk tt G [(46,K46.G),(72,K72.G),(83,K83.G)] (fun _=>[]) Tryz.f215 K215:=by
 refine .ak [(7,⟨[1,3,24,25,26],[1],[]⟩),(16,⟨[1,42,43],[1],[]⟩),(19,⟨[1,6,7,42,43],[1],[]⟩),(25,⟨[1,66,67,68],[1],[]⟩)] false Tryz.ntmps215 fun T hO hT a0 x=>?_
 simp only[Zg] at hT; simp only[kS,nfs,Zdi,Lref09_Check_k3,Zab,ZaT,Xy];refine au ?_
 intros; refine lpP 7 (fun⟨p6,p7⟩=>([(3,.one (.v (.int .i64 p6))),(26,.one (.v (.int .i64 p7)))],[])) ?_; rintro⟨p6,p7⟩ x; simp only[Zcd,Lref09_Check_k3,Zab,ZaT,Xy]
 refine au ?_
 intros; refine lpP 16 (fun p25=>([(43,.one (.v (.int .i64 p25)))],[])) ?_; rintro p25 x; simp only[Zcc,Lref09_Check_k3,Zab,ZaT,Xy]
 refine au ?_ ?_
 ·intros; refine lpP 19 (fun p57=>([(7,.one (.v (.int .i64 p57)))],[])) ?_; rintro p57 x; simp only[ZaU,Lref09_Check_k3,Zab,ZaT,Xy]
  exact au
 ·intros; refine lpP 25 (fun p43=>([(68,.one (.v (.int .i64 p43)))],[])) ?_; rintro p43 x; simp only[Zcb,Lref09_Check_k3,Zab,ZaT,Xy]
  exact au
theorem w216:Walk tt G [] (fun _=>[]) Tryz.f216 K216:=by
 refine .ak [(2,⟨[0,3,7,8],[3],[]⟩)] false Tryz.ntmps216 fun T hO hT ⟨a0,a1⟩ x=>?_
 simp only[Zg] at hT; simp only[kS,nfs,Zdu,Lref11_place_k1];refine au ?_
 intros; refine lpP 2 (fun p4=>([(8,.one (.v (.int .i64 p4)))],[])) ?_; rintro p4 x; simp only[Zgc,Lref11_place_k1]
 exact au
theorem w217:Walk tt G [(216,K216.G)] (fun _=>[]) Tryz.f217 K217:=by
 refine .ak [(2,⟨[1,10,11,12],[],[]⟩),(5,⟨[1,5,10,11,12,18,19,20],[],[]⟩)] false Tryz.ntmps217 fun T hO hT ⟨a0,a1⟩ x=>?_
 simp only[Zg] at hT; simp only[kS,nfs,Zc3,Lref11_forward_k1,Zcy];refine au ?_
 intros; refine lpP 2 (fun p20=>([(12,.one (.v (.int .i64 p20)))],[])) ?_; rintro p20 x; simp only[Zex,Lref11_forward_k1,Zcy]
 refine au ?_
 intros; refine lpP 5 (fun p36=>([(20,.one (.v (.int .i64 p36)))],[])) ?_; rintro p36 x; simp only[Zew,Lref11_forward_k1,Zcy]
 exact au
theorem w218:Walk tt G [] (fun _=>[]) Tryz.f218 K218:=by
 refine .ak [(3,⟨[3,11,12,13],[39],[(3,none,39,33)]⟩),(6,⟨[3,11,12,13,18,19,20],[39],[]⟩),(9,⟨[3,7,11,12,13,18,19,20,24,25,26],[7,39],[]⟩)] false Tryz.ntmps218 fun T hO hT a0 x=>?_
 simp only[Zg] at hT; simp only[kS,nfs,ZeH,Lref11_twice_k1,Zd3,Zcf];refine au ?_
 intros; refine lpP 3 (fun⟨p69,p70⟩=>([(3,.one (.ms 39 0 0 (p70.length) 33)),(13,.one (.v (.int .i64 p69)))],[(39,⟨0,33,List.map eapi_OutPoint p70,false,true⟩)])) ?_; rintro⟨p69,p70⟩ x; simp only[Zis,Lref11_twice_k1,Zd3,Zcf]
 refine au ?_
 intros; refine lpP 6 (fun⟨p129,p130⟩=>([(3,.one (.ms 39 0 0 (p130.length) 33)),(20,.one (.v (.int .i64 p129)))],[(39,⟨0,33,List.map eapi_OutPoint p130,false,true⟩)])) ?_; rintro⟨p129,p130⟩ x; simp only[Zir,Lref11_twice_k1,Zd3,Zcf]
 refine au ?_
 intros; refine lpP 9 (fun p147=>([(26,.one (.v (.int .i64 p147)))],[])) ?_; rintro p147 x; simp only[Zgd,Lref11_twice_k1,Zd3,Zcf]
 exact au
theorem w181:Walk tt G [(39,K39.G),(46,K46.G),(129,K129.G),(176,K176.G),(215,K215.G),(216,K216.G),(217,K217.G),(218,K218.G)] (fun _=>[]) Tryz.f181 K181:=by
 refine .ak [(6,⟨[1,20,21,22],[1],[]⟩),(13,⟨[1,5,34,35,36],[1],[]⟩),(20,⟨[1,5,47,48,49],[1,62],[(5,none,62,32)]⟩)] false Tryz.ntmps181 fun T hO hT a0 x=>?_
 simp only[Zg] at hT; simp only[kS,nfs,ZeI,Zcg,Zch,Zci];refine au ?_
 intros; refine lpP 6 (fun p7=>([(22,.one (.v (.int .i64 p7)))],[])) ?_; rintro p7 x; simp only[Zgf,Zcg,Zch,Zci]
 refine au ?_
 intros; refine lpP 13 (fun p15=>([(36,.one (.v (.int .i64 p15)))],[])) ?_; rintro p15 x; simp only[Zge,Zcg,Zch,Zci]
 refine au ?_
 intros; refine lpP 20 (fun⟨p27,p28⟩=>([(5,.one (.ms 62 0 0 (p28.length) 32)),(49,.one (.v (.int .i64 p27)))],[(62,⟨0,32,List.map (arC .u8) p28,false,true⟩)])) ?_; rintro⟨p27,p28⟩ x; simp only[Zit,Zcg,Zch,Zci]
 exact au
def kp182:Keep:=fun i=>if i=4 then⟨[13,14,15],[],[]⟩ else⟨[],[],[]⟩
theorem w182 {T:Tab}(a0:Tapi_Tx) (a1:Int) (x:Bool) (hr:Zak a0 a1=some x):∃ kp fl n,ZP tt T G kp fl n Tryz.f182 (Zg8 (a0,a1))=some (Zjk (a0,a1) x):=by
 simp only[Zg8,Zjk];refine fnE (kp:=kp182) (w:=false) body182 (by simp) ?_;unfold c182;rw[Tryz.ntmps182];unfold Zak at hr;refine Zi rfl (by simp[]; rfl) ?_;refine Yk ?_;refine Zi rfl (by simp[]; rfl) ?_;by_cases c7:IntKind.i64.wrap (a0.2.2.2)≤a1
 ·skip
  rw[if_pos c7] at hr;refine Z9 (by simp[bV,c7]) ?_;refine Yk ?_;refine Zi rfl (by simp[c7]; rfl) ?_;refine Zki ?_;obtain rfl:=Option.some.inj hr;simp[ZaR,c7]
 ·skip
  rw[if_neg c7] at hr;refine ZX (by simp[bV,c7]) ?_;refine Z7 ?_;refine Yk ?_;refine Zi rfl (by simp[c7]; rfl) ?_;refine ZR ?_;refine Zbr (kq:=⟨[13,14,15],[],[]⟩) (H:=fun(s:Int)=>match s with | p4=>(⟨(und 13++([.one (.slice .no (List.map Za5 a0.2.1)),.one (.v (.int .i64 (a0.2.1.length:Int))),.one (.v (.int .i64 p4))]++(und 7)):List PV),([]:Boxes)⟩:ASt)) (by kernel_rfl) hr (by simp[und,List.replicate,c7]) ?_;rintro p4 x13r hr13
  simp only[Zgg] at hr13;unfold b182_1;simp only[und,List.replicate,List.cons_append,List.nil_append];refine Zi rfl (by simp[c7]; rfl) ?_;by_cases c14:p4<(a0.2.1.length:Int)
  ·skip
   have c14N:=c14;try simp at c14N
   first | have c14M:(_=_)=True:=eq_true c14N | have c14M:=c14N
   rw[if_pos] at hr13;rotate_left
   ·simp[c7,c14,c14M]
   refine Z9 (by simp[bV,c7,c14,c14M]) ?_;refine Z7 ?_;refine ZR ?_;obtain⟨x15,hx15,hr13⟩:=bs hr13;obtain⟨hx15a,hx15b⟩:=Ze7 hx15;have hx15c:=Xk hx15b;refine Zi rfl (by simp[hx15a,hx15b,hx15c,c7,c14,c14M] <;> rfl) ?_;refine Zi rfl (by simp[c7,c14,c14M] <;> rfl) ?_;by_cases c16:x15.2.1=4294967295
   ·skip
    rw[if_neg (not_not_intro c16)] at hr13;refine ZiU (by simp[bV,c7,c14,c14M,eq_true c16]) ?_;refine Zko ?_;simp only[pq,reduceCtorEq];refine Zb0 rfl (by simp[c7,c14,c14M,eq_true c16] <;> rfl) ?_;obtain rfl:=Option.some.inj hr13;simp only[pq,reduceCtorEq];simp[und,List.replicate,Nat.add_assoc,c7,c14,c14M,eq_true c16]
   ·skip
    rw[if_pos c16] at hr13;refine ZiT (by simp[bV,c7,c14,c14M,c16]) ?_;refine Zi rfl (by simp[c7,c14,c14M,c16] <;> rfl) ?_;refine ZdW ?_;obtain rfl:=Option.some.inj hr13;simp only[pq,reduceCtorEq];rintro rfl
    simp[ZaR,c7,c14,c14M,c16,c14N]
  ·skip
   have c14N:=c14;try simp at c14N
   first | have c14M:(_=_)=True:=eq_true c14N | have c14M:=c14N
   rw[if_neg] at hr13;rotate_left
   ·simp[c7,c14,c14M]
   refine ZX (by simp[bV,c7,c14,c14M]) ?_;refine YZ ?_;obtain⟨r17,q17,rfl⟩:=ms hr13;simp only[pq,reduceCtorEq];rintro rfl
   try simp only[pq,reduceCtorEq]
   unfold Lref09_Final_k1 at q17;refine Zi rfl (by simp[c7,c14,c14M] <;> rfl) ?_;refine ZdW ?_;obtain rfl:=Option.some.inj q17;simp[ZaR,c7,c14,c14M,c14N]
theorem w131:Walk tt G [(145,K145.G),(180,K180.G),(181,K181.G),(182,G182)] (fun _=>[]) Tryz.f131 K131:=by
 refine .sk [] false Tryz.ntmps131 fun T hO hT ⟨a0,a1,a2⟩ x hr=>?_
 simp only[Zg] at hT; simp only[kS,nfs] at hr ⊢;unfold ZeJ at hr;refine go ?_;obtain⟨y8,ehy8,hr⟩:=bN hr K145.q1;by_cases c9:y8=true
 ·replace hr:=ZqV hr
  obtain⟨_,hz10,hr⟩:=bs hr;obtain⟨y11,ehy11,hz10⟩:=bN hz10 K180.q1;obtain rfl:=Option.some.inj hz10;refine go ?_;by_cases c12:y11=true
  ·replace hr:=ifN hr
   refine go ?_;rcases eqT (a1.1=16777216) with c13 | c13
   ·replace hr:=ifP hr
    refine go ?_;exact fin hr
   ·replace hr:=ifN hr
    refine go ?_;rcases eqT (a2.1.2.1=a1.2.1) with c14 | c14
    ·replace hr:=ifN hr
     refine go ?_;obtain⟨y15,ehy15,hr⟩:=bN hr K181.q1;refine go ?_;rcases eqT (y15=0) with c16 | c16
     ·replace hr:=ifN hr
      refine go ?_;obtain⟨_,hx17,hr⟩:=bs hr;have hx17c:=Xk hx17;obtain⟨x18,hx18,hr⟩:=bs hr;have hx18c:=Xk hx18;refine go ?_;rcases eqT (IntKind.i64.wrap (x18.2.1)=IntKind.i64.wrap (a1.1+1)) with c19 | c19
      ·replace hr:=ifN hr
       refine go ?_;have hx17c:=Xk hx17;obtain⟨y20,ehy20,hr⟩:=bG hr fun _=>Zsu
       simp only[Zg8,Zjk,kS,nf,nfs] at ehy20;refine go ?_;by_cases c21:y20=true
       ·replace hr:=ifN hr
        refine go ?_;exact fin hr
       ·replace hr:=ifP hr
        refine go ?_;exact fin hr
      ·replace hr:=ifP hr
       refine go ?_;exact fin hr
     ·replace hr:=ifP hr
      refine go ?_;exact fin hr
    ·replace hr:=ifP hr
     refine go ?_;exact fin hr
  ·replace hr:=ifP hr
   refine go ?_;exact fin hr
 ·replace hr:=ZoY hr
  obtain⟨_,hz22,hr⟩:=bs hr;obtain rfl:=Option.some.inj hz22;refine go ?_
  replace hr:=ifP hr
  refine go ?_;exact fin hr
theorem w135:Walk tt G [] (fun _=>[]) Tryz.f135 K135:=by
 refine .ak [(2,⟨[0,3,7,8],[3],[]⟩)] false Tryz.ntmps135 fun T hO hT ⟨a0,a1⟩ x=>?_
 simp only[Zg] at hT; simp only[kS,nfs,ZcQ,Lref23_find_k1];refine au ?_
 intros; refine lpP 2 (fun p4=>([(8,.one (.v (.int .i64 p4)))],[])) ?_; rintro p4 x; simp only[ZgM,Lref23_find_k1]
 exact au
theorem w183:Walk tt G [(45,K45.G)] (fun _=>[]) Tryz.f183 K183:=by
 refine .ak [] true Tryz.ntmps183 fun T hO hT a0 x=>?_
 simp only[Zg] at hT; simp only[kS,nfs,ZaW];exact au
theorem w132:Walk tt G [(135,K135.G),(183,K183.G)] (fun _=>[]) Tryz.f132 K132:=by
 refine .ak [(3,⟨[1,3,4,10,17,18,19],[4,36],[(10,none,36,37)]⟩),(11,⟨[3,4,10,38,39,40],[4,36],[]⟩)] false Tryz.ntmps132 fun T hO hT ⟨a0,a1,a2,a3⟩ x=>?_
 simp only[Zg] at hT; simp only[kS,nfs,ZeK,Zgh,Zd4];refine au ?_
 intros; refine lpP 3 (fun⟨p12,p13⟩=>([(10,.one (.ms 36 0 0 (p13.length) 37)),(19,.one (.v (.int .i64 p12)))],[(36,⟨0,37,List.map Zs p13,false,true⟩)])) ?_; rintro⟨p12,p13⟩ x; simp only[Ziu,Zgh,Zd4]
 refine au ?_
 intros; refine lpP 11 (fun p24=>([(40,.one (.v (.int .i64 p24)))],[])) ?_; rintro p24 x; simp only[Zgi,Zgh,Zd4]
 exact au
theorem w184:Walk tt G [(215,K215.G)] (fun _=>[]) Tryz.f184 K184:=by
 refine .ak [(7,⟨[1,2,25,26],[2],[]⟩),(14,⟨[2,8,42,43,44],[2],[]⟩),(23,⟨[8,67,68,69],[],[]⟩)] false Tryz.ntmps184 fun T hO hT ⟨a0,a1⟩ x=>?_
 simp only[Zg] at hT; simp only[kS,nfs,ZgG,Zbe,Zcq,Zbf];refine au ?_
 intros; refine lpP 7 (fun p7=>([(26,.one (.v (.int .i64 p7)))],[])) ?_; rintro p7 x; simp only[ZdH,Zbe,Zcq,Zbf]
 refine au ?_
 intros; refine lpP 14 (fun⟨p14,p15⟩=>([(8,.one (.v (.int .i64 p14))),(44,.one (.v (.int .i64 p15)))],[])) ?_; rintro⟨p14,p15⟩ x; simp only[ZdG,Zbe,Zcq,Zbf]
 refine au ?_
 intros; refine lpP 23 (fun⟨p21,p22⟩=>([(8,.one (.v (.int .i64 p21))),(69,.one (.v (.int .i64 p22)))],[])) ?_; rintro⟨p21,p22⟩ x; simp only[Zao,Zbe,Zcq,Zbf]
 exact au
def kp234:Keep:=fun i=>⟨[],[],[]⟩
theorem w234 {T:Tab}(hO:T.own=fun _=>[]) (hT95:T 95=some G95) (a0:ByteArray) (a1:(List Int)) (x:(Arr 32)) (hr:Zaq a0 a1=some x):∃ kp fl n,ZP tt T G kp fl n Tryz.f234 (Zh1 (a0,a1))=some (Zj5 (a0,a1) x):=by
 simp only[Zh1,Zj5];refine fnE (kp:=kp234) (w:=false) body234 (by simp) ?_;unfold c234;rw[Tryz.ntmps234];unfold Zaq at hr;refine Zi rfl (by simp[Nat.add_assoc,]; rfl) ?_;obtain⟨_,u7,hr⟩:=bs hr;have u7_0:=ZV u7;obtain⟨y8,hy8,hr⟩:=bs hr;have ehy8:=Zrr hy8;simp only[E95,R95,kS,nf,nfs] at ehy8;refine Zi rfl (by simp[Nat.add_assoc,u7_0,hO,hT95,ehy8]; rfl) ?_;obtain⟨_,u9,hr⟩:=bs hr;have u9_0:=ZV u9;have n1_u9_0:y8.l.length≤140737488355328:=by omega
 have n2_u9_0:y8.l.length≤9223372036854775807:=by omega
 have n1v_u9_0:=n1_u9_0;try simp[Nat.add_assoc,Arr.hl] at n1v_u9_0
 have n2v_u9_0:=n2_u9_0;try simp[Nat.add_assoc,Arr.hl] at n2v_u9_0
 obtain⟨_,u10,hr⟩:=bs hr;have u10_0:=ZV u10;have n1_u10_0:y8.l.length+y8.l.length≤140737488355328:=by omega
 have n2_u10_0:y8.l.length+y8.l.length≤9223372036854775807:=by omega
 have n1v_u10_0:=n1_u10_0;try simp[Nat.add_assoc,Arr.hl] at n1v_u10_0
 have n2v_u10_0:=n2_u10_0;try simp[Nat.add_assoc,Arr.hl] at n2v_u10_0
 obtain⟨_,u11,hr⟩:=bs hr;have u11_0:=ZV u11
 have n1_u11_0:y8.l.length+(y8.l.length+a1.length)≤140737488355328:=by
  have h:=u11_0;try simp at h
  first | omega | (simp only[List.length_take,List.length_drop] at h ⊢; omega) | (simp only[List.length_take,List.length_drop]; omega)
 have n2_u11_0:y8.l.length+(y8.l.length+a1.length)≤9223372036854775807:=by
  have h:=u11_0;try simp at h
  first | omega | (simp only[List.length_take,List.length_drop] at h ⊢; omega) | (simp only[List.length_take,List.length_drop]; omega)
 obtain⟨y12,hy12,hr⟩:=bs hr;have ehy12:=Zrr hy12;simp only[E95,R95,kS,nf,nfs] at ehy12;have z64a:64+a1.length≤140737488355328:=by have:=y8.hl; omega
 have z64b:64+a1.length≤9223372036854775807:=by omega
 have z64c:64+a1.length≤32+(32+a1.length):=by omega
 have z64d:List.take (64+a1.length) (Zf IntKind.u8 y8.l)=Zf .u8 y8.l:=List.take_of_length_le (by simp; omega);have z64e:List.take (64+a1.length-32) (Zf IntKind.u8 y8.l)=Zf .u8 y8.l:=List.take_of_length_le (by simp; omega);have z64f:List.take (64+a1.length-32-32) (Zf IntKind.u8 a1)=Zf .u8 a1:=List.take_of_length_le (by simp; omega);refine Xq rfl (by simp[Nat.add_assoc,z64a,z64b,z64c,z64d,z64e,z64f,n1_u9_0,n2_u9_0,n1v_u9_0,n2v_u9_0,n1_u10_0,n2_u10_0,n1v_u10_0,n2v_u10_0,n1_u11_0,n2_u11_0,hO,hT95,ehy12]; first | exact⟨rfl,rfl⟩ | rfl) (by kernel_rfl) ?_;refine ZdW ?_;obtain rfl:=Option.some.inj hr;simp[Nat.add_assoc,ZaR,n1_u9_0,n2_u9_0,n1v_u9_0,n2v_u9_0,n1_u10_0,n2_u10_0,n1v_u10_0,n2v_u10_0,n1_u11_0,n2_u11_0,hO,hT95,ehy12]
theorem w219:Walk tt G [(23,K23.G),(53,K53.G),(54,K54.G),(72,K72.G),(95,G95),(166,K166.G),(234,G234)] (fun _=>[]) Tryz.f219 K219:=by
 refine .ak [(7,⟨[1,3,5,6,8,9,10,42,43,44],[3,5,6,52,900009],[(9,none,900009,0),(9,none,900009,1),(8,none,52,1)]⟩),(13,⟨[1,3,5,6,8,9,10,59,60,61],[3,5,6,52,68,900009],[(10,none,68,1)]⟩)] false Tryz.ntmps219 fun T hO hT ⟨a0,a1,a2⟩ x=>?_
 simp only[Zg] at hT; simp only[kS,nfs,Zc9,ZcB,ZcC];refine au ?_
 intros; refine lpP 7 (fun⟨p13,p14,p15⟩=>([(8,.one (.ms 52 0 0 (p14.length) 1)),(9,.one (.ms 900009 0 0 (p15.length) 1)),(44,.one (.v (.int .i64 p13)))],[(52,⟨0,1,Zf .u8 p14,false,true⟩),(900009,⟨0,1,Zf .u8 p15,false,true⟩)])) ?_; rintro⟨p13,p14,p15⟩ x; simp only[Zg3,ZcB,ZcC]
 refine au ?_
 intros; refine lpP 13 (fun⟨p28,p29⟩=>([(10,.one (.ms 68 0 0 (p29.length) 1)),(61,.one (.v (.int .i64 p28)))],[(68,⟨0,1,Zf .u8 p29,false,true⟩)])) ?_; rintro⟨p28,p29⟩ x; simp only[Zg2,ZcB,ZcC]
 exact au
theorem w185:Walk tt G [(219,K219.G),(220,K220.G)] (fun _=>[]) Tryz.f185 K185:=by
 refine .ak [] false Tryz.ntmps185 fun T hO hT ⟨a0,a1,a2,a3⟩ x=>?_
 simp only[Zg] at hT; simp only[kS,nfs,ZeQ];exact au
theorem w133:Walk tt G [(46,K46.G),(182,G182),(184,K184.G),(185,K185.G)] (fun _=>[]) Tryz.f133 K133:=by
 refine .ak [(9,⟨[1,2,3,8,28,29],[3],[]⟩)] false Tryz.ntmps133 fun T hO hT ⟨a0,a1,a2⟩ x=>?_
 simp only[Zg] at hT; simp only[kS,nfs,ZeR,Zix];refine au ?_
 intros; refine lpP 9 (fun p9=>([(29,.one (.v (.int .i64 p9)))],[])) ?_; rintro p9 x; simp only[Zgj,Zix]
 exact au
theorem w134:Walk tt G [] (fun _=>[]) Tryz.f134 K134:=by
 refine .ak [] false Tryz.ntmps134 fun T hO hT ⟨a0,a1⟩ x=>?_
 simp only[Zg] at hT; simp only[kS,nfs,Zc4];exact au
theorem w138:Walk tt G [(46,K46.G),(176,K176.G)] (fun _=>[]) Tryz.f138 K138:=by
 refine .ak [(4,⟨[1,2,5,6,12,13,14],[2,6,30],[(5,none,30,37)]⟩)] true Tryz.ntmps138 fun T hO hT ⟨a0,a1⟩ x=>?_
 simp only[Zg] at hT; simp only[kS,nfs,ZaI,ZgY];refine au ?_
 intros; refine lpP 4 (fun⟨p9,p10⟩=>([(5,.one (.ms 30 0 0 (p10.length) 37)),(14,.one (.v (.int .i64 p9)))],[(30,⟨0,37,List.map Zs p10,false,true⟩)])) ?_; rintro⟨p9,p10⟩ x; simp only[ZgZ,ZgY]
 exact au
end Go.Proofs.YthpkpciceodioaaGreatDoor
