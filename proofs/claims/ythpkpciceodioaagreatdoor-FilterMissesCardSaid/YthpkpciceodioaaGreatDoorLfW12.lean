import Derived.Test.YthpkpciceodioaaGreatDoorLfK
import Derived.Test.YthpkpciceodioaaGreatDoorCode
import Derived.Test.YthpkpciceodioaaGreatDoorBl
namespace Go.Proofs.YthpkpciceodioaaGreatDoor
open Go.RowKit
open Go.Av
open Go.Lc
set_option maxRecDepth 100000
set_option linter.unusedSimpArgs false
set_option linter.unusedVariables false
set_option maxHeartbeats 4000000
theorem w181:Walk tt G [(39,K39.G),(46,K46.G),(129,K129.G),(176,K176.G),(215,K215.G),(216,K216.G),(217,K217.G),(218,K218.G)] (fun _=>[]) Tryz.f181 K181:=by
 refine .ak [(6,⟨[1,20,21,22],[1],[]⟩),(13,⟨[1,5,34,35,36],[1],[]⟩),(20,⟨[1,5,47,48,49],[1,62],[(5,none,62,32)]⟩)] false Tryz.ntmps181 fun T hO hT a0 x=>?_
 simp only[Zh] at hT; simp only[kS,nfs,Zey,Zb1,Zb2,Zb3];refine au ?_
 intros; refine lpP 6 (fun p7=>([(22,.one (.v (.int .i64 p7)))],[])) ?_; rintro p7 x; simp only[Zga,Zb1,Zb2,Zb3]
 refine au ?_
 intros; refine lpP 13 (fun p15=>([(36,.one (.v (.int .i64 p15)))],[])) ?_; rintro p15 x; simp only[Zf9,Zb1,Zb2,Zb3]
 refine au ?_
 intros; refine lpP 20 (fun⟨p27,p28⟩=>([(5,.one (.ms 62 0 0 (p28.length) 32)),(49,.one (.v (.int .i64 p27)))],[(62,⟨0,32,List.map (arC .u8) p28,false,true⟩)])) ?_; rintro⟨p27,p28⟩ x; simp only[Zin,Zb1,Zb2,Zb3]
 exact au
def kp182:Keep:=fun i=>if i=4 then⟨[13,14,15],[],[]⟩ else⟨[],[],[]⟩
theorem w182 {T:Tab}(a0:Tapi_Tx) (a1:Int) (x:Bool) (hr:Zaf a0 a1=some x):∃ kp fl n,ZO tt T G kp fl n Tryz.f182 (Zg3 (a0,a1))=some (Zjd (a0,a1) x):=by
 simp only[Zg3,Zjd];refine fnE (kp:=kp182) (w:=false) body182 (by simp) ?_;unfold c182;rw[Tryz.ntmps182];unfold Zaf at hr;refine Ze rfl (by simp[]; rfl) ?_;refine ZT ?_;refine Ze rfl (by simp[]; rfl) ?_;by_cases c7:IntKind.i64.wrap (a0.2.2.2)≤a1
 ·skip
  rw[if_pos c7] at hr;refine ZJ (by simp[bV,c7]) ?_;refine ZT ?_;refine Ze rfl (by simp[c7]; rfl) ?_;refine ZeV ?_;obtain rfl:=Option.some.inj hr;simp[XT,c7]
 ·skip
  rw[if_neg c7] at hr;refine ZE (by simp[bV,c7]) ?_;refine ZL ?_;refine ZT ?_;refine Ze rfl (by simp[c7]; rfl) ?_;refine ZG ?_;refine XU (kq:=⟨[13,14,15],[],[]⟩) (H:=fun(s:Int)=>match s with | p4=>(⟨(und 13++([.one (.slice .no (List.map ZaW a0.2.1)),.one (.v (.int .i64 (a0.2.1.length:Int))),.one (.v (.int .i64 p4))]++(und 7)):List PV),([]:Boxes)⟩:ASt)) (by kernel_rfl) hr (by simp[und,List.replicate,c7]) ?_;rintro p4 x13r hr13
  simp only[Zgb] at hr13;unfold b182_1;simp only[und,List.replicate,List.cons_append,List.nil_append];refine Ze rfl (by simp[c7]; rfl) ?_;by_cases c14:p4<(a0.2.1.length:Int)
  ·skip
   have c14N:=c14;try simp at c14N
   first | have c14M:(_=_)=True:=eq_true c14N | have c14M:=c14N
   rw[if_pos] at hr13;rotate_left
   ·simp[c7,c14,c14M]
   refine ZJ (by simp[bV,c7,c14,c14M]) ?_;refine ZL ?_;refine ZG ?_;obtain⟨x15,hx15,hr13⟩:=bs hr13;obtain⟨hx15a,hx15b⟩:=ZcY hx15;have hx15c:=YC hx15b;refine Ze rfl (by simp[hx15a,hx15b,hx15c,c7,c14,c14M] <;> rfl) ?_;refine Ze rfl (by simp[c7,c14,c14M] <;> rfl) ?_;by_cases c16:x15.2.1=4294967295
   ·skip
    rw[if_neg (not_not_intro c16)] at hr13;refine ZeW (by simp[bV,c7,c14,c14M,eq_true c16]) ?_;refine Zgz ?_;simp only[pq,reduceCtorEq];refine XC rfl (by simp[c7,c14,c14M,eq_true c16] <;> rfl) ?_;obtain rfl:=Option.some.inj hr13;simp only[pq,reduceCtorEq];simp[und,List.replicate,Nat.add_assoc,c7,c14,c14M,eq_true c16]
   ·skip
    rw[if_pos c16] at hr13;refine ZhE (by simp[bV,c7,c14,c14M,c16]) ?_;refine Ze rfl (by simp[c7,c14,c14M,c16] <;> rfl) ?_;refine Zcg ?_;obtain rfl:=Option.some.inj hr13;simp only[pq,reduceCtorEq];rintro rfl
    simp[XT,c7,c14,c14M,c16,c14N]
  ·skip
   have c14N:=c14;try simp at c14N
   first | have c14M:(_=_)=True:=eq_true c14N | have c14M:=c14N
   rw[if_neg] at hr13;rotate_left
   ·simp[c7,c14,c14M]
   refine ZE (by simp[bV,c7,c14,c14M]) ?_;refine Ym ?_;obtain⟨r17,q17,rfl⟩:=ms hr13;simp only[pq,reduceCtorEq];rintro rfl
   try simp only[pq,reduceCtorEq]
   unfold Lref09_Final_k1 at q17;refine Ze rfl (by simp[c7,c14,c14M] <;> rfl) ?_;refine Zcg ?_;obtain rfl:=Option.some.inj q17;simp[XT,c7,c14,c14M,c14N]
theorem w131:Walk tt G [(145,K145.G),(180,K180.G),(181,K181.G),(182,G182)] (fun _=>[]) Tryz.f131 K131:=by
 refine .sk [] false Tryz.ntmps131 fun T hO hT ⟨a0,a1,a2⟩ x hr=>?_
 simp only[Zh] at hT; simp only[kS,nfs] at hr ⊢;unfold Zez at hr;refine go ?_;obtain⟨y8,ehy8,hr⟩:=bN hr K145.q1;by_cases c9:y8=true
 ·replace hr:=ZqD hr
  obtain⟨_,hz10,hr⟩:=bs hr;obtain⟨y11,ehy11,hz10⟩:=bN hz10 K180.q1;obtain rfl:=Option.some.inj hz10;refine go ?_;by_cases c12:y11=true
  ·replace hr:=ifN hr
   refine go ?_;rcases eqT (a1.1=16777216) with c13 | c13
   ·replace hr:=ifP hr
    refine go ?_;exact fin hr
   ·replace hr:=ifN hr
    refine go ?_;rcases eqT (a2.1.2.1=a1.2.1) with c14 | c14
    ·replace hr:=ifN hr
     refine go ?_;obtain⟨y15,ehy15,hr⟩:=bN hr K181.q1;refine go ?_;rcases eqT (y15=0) with c16 | c16
     ·replace hr:=ifN hr
      refine go ?_;obtain⟨_,hx17,hr⟩:=bs hr;have hx17c:=YC hx17;obtain⟨x18,hx18,hr⟩:=bs hr;have hx18c:=YC hx18;refine go ?_;rcases eqT (IntKind.i64.wrap (x18.2.1)=IntKind.i64.wrap (a1.1+1)) with c19 | c19
      ·replace hr:=ifN hr
       refine go ?_;have hx17c:=YC hx17;obtain⟨y20,ehy20,hr⟩:=bG hr fun _=>Zsg
       simp only[Zg3,Zjd,kS,nf,nfs] at ehy20;refine go ?_;by_cases c21:y20=true
       ·replace hr:=ifN hr
        refine go ?_;exact fin hr
       ·replace hr:=ifP hr
        refine go ?_;exact fin hr
      ·replace hr:=ifP hr
       refine go ?_;exact fin hr
     ·replace hr:=ifP hr
      refine go ?_;exact fin hr
    ·replace hr:=ifP hr
     refine go ?_;exact fin hr
  ·replace hr:=ifP hr
   refine go ?_;exact fin hr
 ·replace hr:=ZoM hr
  obtain⟨_,hz22,hr⟩:=bs hr;obtain rfl:=Option.some.inj hz22;refine go ?_
  replace hr:=ifP hr
  refine go ?_;exact fin hr
theorem w135:Walk tt G [] (fun _=>[]) Tryz.f135 K135:=by
 refine .ak [(2,⟨[0,3,7,8],[3],[]⟩)] false Tryz.ntmps135 fun T hO hT ⟨a0,a1⟩ x=>?_
 simp only[Zh] at hT; simp only[kS,nfs,ZcA,Lref23_find_k1];refine au ?_
 intros; refine lpP 2 (fun p4=>([(8,.one (.v (.int .i64 p4)))],[])) ?_; rintro p4 x; simp only[ZgI,Lref23_find_k1]
 exact au
theorem w183:Walk tt G [(45,K45.G)] (fun _=>[]) Tryz.f183 K183:=by
 refine .ak [] true Tryz.ntmps183 fun T hO hT a0 x=>?_
 simp only[Zh] at hT; simp only[kS,nfs,ZaO];exact au
theorem w132:Walk tt G [(135,K135.G),(183,K183.G)] (fun _=>[]) Tryz.f132 K132:=by
 refine .ak [(3,⟨[1,3,4,10,17,18,19],[4,36],[(10,none,36,37)]⟩),(11,⟨[3,4,10,38,39,40],[4,36],[]⟩)] false Tryz.ntmps132 fun T hO hT ⟨a0,a1,a2,a3⟩ x=>?_
 simp only[Zh] at hT; simp only[kS,nfs,ZeA,Zgc,ZdU];refine au ?_
 intros; refine lpP 3 (fun⟨p12,p13⟩=>([(10,.one (.ms 36 0 0 (p13.length) 37)),(19,.one (.v (.int .i64 p12)))],[(36,⟨0,37,List.map Zs p13,false,true⟩)])) ?_; rintro⟨p12,p13⟩ x; simp only[Zio,Zgc,ZdU]
 refine au ?_
 intros; refine lpP 11 (fun p24=>([(40,.one (.v (.int .i64 p24)))],[])) ?_; rintro p24 x; simp only[Zgd,Zgc,ZdU]
 exact au
theorem w184:Walk tt G [(215,K215.G)] (fun _=>[]) Tryz.f184 K184:=by
 refine .ak [(7,⟨[1,2,25,26],[2],[]⟩),(14,⟨[2,8,42,43,44],[2],[]⟩),(23,⟨[8,67,68,69],[],[]⟩)] false Tryz.ntmps184 fun T hO hT ⟨a0,a1⟩ x=>?_
 simp only[Zh] at hT; simp only[kS,nfs,ZgB,Za4,Zca,Za5];refine au ?_
 intros; refine lpP 7 (fun p7=>([(26,.one (.v (.int .i64 p7)))],[])) ?_; rintro p7 x; simp only[Zdx,Za4,Zca,Za5]
 refine au ?_
 intros; refine lpP 14 (fun⟨p14,p15⟩=>([(8,.one (.v (.int .i64 p14))),(44,.one (.v (.int .i64 p15)))],[])) ?_; rintro⟨p14,p15⟩ x; simp only[Zdw,Za4,Zca,Za5]
 refine au ?_
 intros; refine lpP 23 (fun⟨p21,p22⟩=>([(8,.one (.v (.int .i64 p21))),(69,.one (.v (.int .i64 p22)))],[])) ?_; rintro⟨p21,p22⟩ x; simp only[Zaj,Za4,Zca,Za5]
 exact au
def kp234:Keep:=fun i=>⟨[],[],[]⟩
theorem w234 {T:Tab}(hO:T.own=fun _=>[]) (hT95:T 95=some G95) (a0:ByteArray) (a1:(List Int)) (x:(Arr 32)) (hr:Zal a0 a1=some x):∃ kp fl n,ZO tt T G kp fl n Tryz.f234 (ZhV (a0,a1))=some (ZjZ (a0,a1) x):=by
 simp only[ZhV,ZjZ];refine fnE (kp:=kp234) (w:=false) body234 (by simp) ?_;unfold c234;rw[Tryz.ntmps234];unfold Zal at hr;refine Ze rfl (by simp[Nat.add_assoc,]; rfl) ?_;obtain⟨_,u7,hr⟩:=bs hr;have u7_0:=ZW u7;obtain⟨y8,hy8,hr⟩:=bs hr;have ehy8:=Zra hy8;simp only[E95,R95,kS,nf,nfs] at ehy8;refine Ze rfl (by simp[Nat.add_assoc,u7_0,hO,hT95,ehy8]; rfl) ?_;obtain⟨_,u9,hr⟩:=bs hr;have u9_0:=ZW u9;have n1_u9_0:y8.l.length≤140737488355328:=by omega
 have n2_u9_0:y8.l.length≤9223372036854775807:=by omega
 have n1v_u9_0:=n1_u9_0;try simp[Nat.add_assoc,Arr.hl] at n1v_u9_0
 have n2v_u9_0:=n2_u9_0;try simp[Nat.add_assoc,Arr.hl] at n2v_u9_0
 obtain⟨_,u10,hr⟩:=bs hr;have u10_0:=ZW u10;have n1_u10_0:y8.l.length+y8.l.length≤140737488355328:=by omega
 have n2_u10_0:y8.l.length+y8.l.length≤9223372036854775807:=by omega
 have n1v_u10_0:=n1_u10_0;try simp[Nat.add_assoc,Arr.hl] at n1v_u10_0
 have n2v_u10_0:=n2_u10_0;try simp[Nat.add_assoc,Arr.hl] at n2v_u10_0
 obtain⟨_,u11,hr⟩:=bs hr;have u11_0:=ZW u11
 have n1_u11_0:y8.l.length+(y8.l.length+a1.length)≤140737488355328:=by
  have h:=u11_0;try simp at h
  first | omega | (simp only[List.length_take,List.length_drop] at h ⊢; omega) | (simp only[List.length_take,List.length_drop]; omega)
 have n2_u11_0:y8.l.length+(y8.l.length+a1.length)≤9223372036854775807:=by
  have h:=u11_0;try simp at h
  first | omega | (simp only[List.length_take,List.length_drop] at h ⊢; omega) | (simp only[List.length_take,List.length_drop]; omega)
 obtain⟨y12,hy12,hr⟩:=bs hr;have ehy12:=Zra hy12;simp only[E95,R95,kS,nf,nfs] at ehy12;have z64a:64+a1.length≤140737488355328:=by have:=y8.hl; omega
 have z64b:64+a1.length≤9223372036854775807:=by omega
 have z64c:64+a1.length≤32+(32+a1.length):=by omega
 have z64d:List.take (64+a1.length) (Zf IntKind.u8 y8.l)=Zf .u8 y8.l:=List.take_of_length_le (by simp; omega);have z64e:List.take (64+a1.length-32) (Zf IntKind.u8 y8.l)=Zf .u8 y8.l:=List.take_of_length_le (by simp; omega);have z64f:List.take (64+a1.length-32-32) (Zf IntKind.u8 a1)=Zf .u8 a1:=List.take_of_length_le (by simp; omega);refine Y8 rfl (by simp[Nat.add_assoc,z64a,z64b,z64c,z64d,z64e,z64f,n1_u9_0,n2_u9_0,n1v_u9_0,n2v_u9_0,n1_u10_0,n2_u10_0,n1v_u10_0,n2v_u10_0,n1_u11_0,n2_u11_0,hO,hT95,ehy12]; first | exact⟨rfl,rfl⟩ | rfl) (by kernel_rfl) ?_;refine Zcg ?_;obtain rfl:=Option.some.inj hr;simp[Nat.add_assoc,XT,n1_u9_0,n2_u9_0,n1v_u9_0,n2v_u9_0,n1_u10_0,n2_u10_0,n1v_u10_0,n2v_u10_0,n1_u11_0,n2_u11_0,hO,hT95,ehy12]
theorem w219:Walk tt G [(23,K23.G),(53,K53.G),(54,K54.G),(72,K72.G),(95,G95),(166,K166.G),(234,G234)] (fun _=>[]) Tryz.f219 K219:=by
 refine .ak [(7,⟨[1,3,5,6,8,9,10,42,43,44],[3,5,6,52,900009],[(9,none,900009,0),(9,none,900009,1),(8,none,52,1)]⟩),(13,⟨[1,3,5,6,8,9,10,59,60,61],[3,5,6,52,68,900009],[(10,none,68,1)]⟩)] false Tryz.ntmps219 fun T hO hT ⟨a0,a1,a2⟩ x=>?_
 simp only[Zh] at hT; simp only[kS,nfs,ZcU,Zcl,Zcm];refine au ?_
 intros; refine lpP 7 (fun⟨p13,p14,p15⟩=>([(8,.one (.ms 52 0 0 (p14.length) 1)),(9,.one (.ms 900009 0 0 (p15.length) 1)),(44,.one (.v (.int .i64 p13)))],[(52,⟨0,1,Zf .u8 p14,false,true⟩),(900009,⟨0,1,Zf .u8 p15,false,true⟩)])) ?_; rintro⟨p13,p14,p15⟩ x; simp only[ZgZ,Zcl,Zcm]
 refine au ?_
 intros; refine lpP 13 (fun⟨p28,p29⟩=>([(10,.one (.ms 68 0 0 (p29.length) 1)),(61,.one (.v (.int .i64 p28)))],[(68,⟨0,1,Zf .u8 p29,false,true⟩)])) ?_; rintro⟨p28,p29⟩ x; simp only[ZgY,Zcl,Zcm]
 exact au
theorem w185:Walk tt G [(219,K219.G),(220,K220.G)] (fun _=>[]) Tryz.f185 K185:=by
 refine .ak [] false Tryz.ntmps185 fun T hO hT ⟨a0,a1,a2,a3⟩ x=>?_
 simp only[Zh] at hT; simp only[kS,nfs,ZeG];exact au
theorem w133:Walk tt G [(46,K46.G),(182,G182),(184,K184.G),(185,K185.G)] (fun _=>[]) Tryz.f133 K133:=by
 refine .ak [(9,⟨[1,2,3,8,28,29],[3],[]⟩)] false Tryz.ntmps133 fun T hO hT ⟨a0,a1,a2⟩ x=>?_
 simp only[Zh] at hT; simp only[kS,nfs,ZeH,Zir];refine au ?_
 intros; refine lpP 9 (fun p9=>([(29,.one (.v (.int .i64 p9)))],[])) ?_; rintro p9 x; simp only[Zge,Zir]
 exact au
end Go.Proofs.YthpkpciceodioaaGreatDoor
