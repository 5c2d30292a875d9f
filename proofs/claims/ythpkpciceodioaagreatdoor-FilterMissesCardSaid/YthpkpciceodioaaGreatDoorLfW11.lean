import Derived.Test.YthpkpciceodioaaGreatDoorLfK
import Derived.Test.YthpkpciceodioaaGreatDoorCode
import Derived.Test.YthpkpciceodioaaGreatDoorBl
namespace Go.Proofs.YthpkpciceodioaaGreatDoor
open Go.RowKit
open Go.Av
open Go.Lc
set_option maxRecDepth 100000
set_option linter.unusedSimpArgs false
set_option linter.unusedVariables false
set_option maxHeartbeats 4000000
theorem w213:Walk tt G [(233,K233.G)] (fun _=>[]) Tryz.f213 K213:=by
 refine .ak [(2,⟨[0,3],[7],[(0,none,1,1)]⟩),(5,⟨[0,3,4,5],[7,900004],[(4,none,900004,32)]⟩)] true Tryz.ntmps213 fun T hO hT a0 x=>?_
 simp only[Zh] at hT; simp only[kS,nfs,ZdE,Ze3,Zde,Zbp];refine au ?_
 intros; refine lpP 2 (fun⟨p51,p52⟩=>([(0,.one (.slice .no (List.map (arC .u8) p51))),(3,.one (.ms 7 0 0 (p52.length) 1))],[(7,⟨0,1,List.map Zjo p52,false,true⟩)])) ?_; rintro⟨p51,p52⟩ x; simp only[Lref07_levels_s1,Ze3,Zde,Zbp]
 refine au ?_
 intros; refine lpP 5 (fun⟨p91,p92⟩=>([(4,.one (.ms 900004 0 0 (p92.length) 32)),(5,.one (.v (.int .i64 p91)))],[(900004,⟨0,32,List.map (arC .u8) p92,false,true⟩)])) ?_; rintro⟨p91,p92⟩ x; simp only[ZhN,Ze3,Zde,Zbp]
 exact au
theorem w179:Walk tt G [(213,K213.G)] (fun _=>[]) Tryz.f179 K179:=by
 refine .ak [] false Tryz.ntmps179 fun T hO hT a0 x=>?_
 simp only[Zh] at hT; simp only[kS,nfs,ZfP];exact au
theorem w129:Walk tt G [(178,K178.G),(179,K179.G)] (fun _=>[]) Tryz.f129 K129:=by
 refine .ak [(3,⟨[2,3,6,7,8],[2,16],[(3,none,16,32)]⟩)] false Tryz.ntmps129 fun T hO hT a0 x=>?_
 simp only[Zh] at hT; simp only[kS,nfs,Zd6,ZgH];refine au ?_
 intros; refine lpP 3 (fun⟨p8,p9⟩=>([(3,.one (.ms 16 0 0 (p9.length) 32)),(8,.one (.v (.int .i64 p8)))],[(16,⟨0,32,List.map (arC .u8) p9,false,true⟩)])) ?_; rintro⟨p8,p9⟩ x; simp only[ZiR,ZgH]
 exact au
theorem w130:Walk tt G [] (fun _=>[]) Tryz.f130 K130:=by
 refine .ak [] false Tryz.ntmps130 fun T hO hT a0 x=>?_
 simp only[Zh] at hT; simp only[kS,nfs,Zfw];exact au
section
attribute [local simp] az64 bz4
theorem w88:Walk tt G [(24,K24.G),(125,G125),(126,K126.G),(127,K127.G),(128,K128.G),(129,K129.G),(130,K130.G)] (fun _=>[]) Tryz.f88 K88:=by
 refine .sk [] true Tryz.ntmps88 fun T hO hT ⟨a0,a1,a2,a3⟩ x hr=>?_
 simp only[Zh] at hT; simp only[kS,nfs] at hr ⊢;unfold ZeF at hr;refine go ?_;obtain⟨y9,ehy9,hr⟩:=bG hr fun _=>Zse
 simp only[Zg1,Zjb,kS,nf,nfs] at ehy9;refine go ?_;obtain⟨_,ehy10,hr⟩:=bN hr K127.q2;obtain⟨_,ehy11,hr⟩:=bN hr K24.q1;obtain⟨y12,ehy12,hr⟩:=bN hr K126.q3;obtain⟨_,hr⟩:=bC hr;have n1_u13_0:(1+y9.1.length) * 64≤140737488355328:=by omega
 have n2_u13_0:1+y9.1.length≤9223372036854775807:=by omega
 refine go ?_;obtain⟨_,ehy14,hr⟩:=bN hr K129.q1;obtain⟨_,ehy15,hr⟩:=bN hr K130.q1;obtain⟨_,ehy16,hr⟩:=bN hr K128.q4;cases hb:(y12.2.1.any ((fun l=>l.any Cell.isSl) ∘ ZaW) || y12.2.2.1.any ((fun l=>l.any Cell.isSl) ∘ YY)) <;> (refine go ?_; exact fin hr)
end
section
@[local simp] theorem ZAs {k:IntKind}{n:Nat}{a:Arr n}{l:List Cell}{j:Nat}(h:j<n):(arC k a++l)[j]? = (arC k a)[j]? := List.getElem?_append_left (by simpa using h)
def kp214:Keep:=fun i=>if i=2 then⟨[2,3,6],[2,3],[]⟩ else⟨[],[],[]⟩
theorem w214 {T:Tab}(a0:Tapi_OutPoint) (a1:Tapi_OutPoint) (x:Int) (hr:Y5 a0 a1=some x):∃ kp fl n,ZO tt T G kp fl n Tryz.f214 (Zg2 (a0,a1))=some (Zjc (a0,a1) x):=by
 simp only[Zg2,Zjc];refine fnE (kp:=kp214) (w:=false) body214 (by simp) ?_;unfold c214;rw[Tryz.ntmps214];unfold Y5 at hr;refine Ze rfl (by simp[]; rfl) ?_;refine ZT ?_;refine Ze rfl (by simp[]; rfl) ?_;refine ZG ?_;refine XU (kq:=⟨[2,3,6],[2,3],[]⟩) (H:=fun(s:Int)=>match s with | p3=>(⟨(und 2++([.ptr 2 0 0 0 33,.ptr 3 0 0 0 33]++(und 2++([.one (.v (.int .i64 p3))]++(und 33)))):List PV),([(2,⟨0,33,[(arC .u8 a0.1)++((.v (.int .u32 a0.2)) :: [])],false,false⟩),(3,⟨0,33,[(arC .u8 a1.1)++((.v (.int .u32 a1.2)) :: [])],false,false⟩)]:Boxes)⟩:ASt)) (by kernel_rfl) hr (by simp[und,List.replicate,]) ?_;rintro p3 x20r hr20
 simp only[ZgT] at hr20;unfold b214_1;simp only[und,List.replicate,List.cons_append,List.nil_append];refine Ze rfl (by simp[]; rfl) ?_;by_cases c21:p3<32
 ·skip
  rw[if_pos] at hr20;rotate_left
  ·simp[c21]
  refine ZJ (by simp[bV,c21]) ?_;refine ZL ?_;refine ZG ?_;refine Ze rfl (by simp[c21]; rfl) ?_;refine ZT ?_;obtain⟨j22,hj22,hr20⟩:=bs hr20;obtain⟨j22a,j22b,j22c⟩:=Yy hj22;have j22d:j22≤31:=by omega
  have ar23:=YL (k:=.u8) (a0.1) (i:=j22) j22c;have as24:=YZ (k:=.u8) (a0.1) (i:=j22) j22c;obtain⟨j22a,j22b,j22c⟩:=Yy hj22;have j22d:j22≤31:=by omega
  have ar25:=YL (k:=.u8) (a1.1) (i:=j22) j22c;have as26:=YZ (k:=.u8) (a1.1) (i:=j22) j22c;refine Y8 rfl (by simp[j22a,j22b,j22c,j22d,ar23,as24,ar25,as26,c21]; first | exact⟨rfl,rfl⟩ | rfl) (by kernel_rfl) ?_;by_cases c27:a0.1.at j22<a1.1.at j22
  ·skip
   rw[if_pos] at hr20;rotate_left
   ·simp[c21,c27]
   refine ZJ (by simp[bV,c21,c27]) ?_;refine ZT ?_;refine Ze rfl (by simp[c21,c27]; rfl) ?_;refine ZeV ?_;obtain rfl:=Option.some.inj hr20;simp only[pq,reduceCtorEq];rintro rfl
   simp[XT,c21,c27]
  ·skip
   rw[if_neg] at hr20;rotate_left
   ·simp[c21,c27]
   refine ZE (by simp[bV,c21,c27]) ?_;refine ZL ?_;obtain⟨j22a,j22b,j22c⟩:=Yy hj22;have j22d:j22≤31:=by omega
   have ar28:=YL (k:=.u8) (a0.1) (i:=j22) j22c;have as29:=YZ (k:=.u8) (a0.1) (i:=j22) j22c;obtain⟨j22a,j22b,j22c⟩:=Yy hj22;have j22d:j22≤31:=by omega
   have ar30:=YL (k:=.u8) (a1.1) (i:=j22) j22c;have as31:=YZ (k:=.u8) (a1.1) (i:=j22) j22c;refine Y8 rfl (by simp[j22a,j22b,j22c,j22d,ar28,as29,ar30,as31,c21,c27]; first | exact⟨rfl,rfl⟩ | rfl) (by kernel_rfl) ?_;by_cases c32:a1.1.at j22<a0.1.at j22
   ·skip
    rw[if_pos] at hr20;rotate_left
    ·simp[c21,c27,c32]
    refine ZhE (by simp[bV,c21,c27,c32]) ?_;refine Ze rfl (by simp[c21,c27,c32]; rfl) ?_;refine Zcg ?_;obtain rfl:=Option.some.inj hr20;simp only[pq,reduceCtorEq];rintro rfl
    simp[XT,c21,c27,c32]
   ·skip
    rw[if_neg] at hr20;rotate_left
    ·simp[c21,c27,c32]
    refine ZeW (by simp[bV,c21,c27,c32]) ?_;refine Zgz ?_;simp only[pq,reduceCtorEq];refine XC rfl (by simp[c21,c27,c32]; rfl) ?_;obtain rfl:=Option.some.inj hr20;simp only[pq,reduceCtorEq];simp[und,List.replicate,Nat.add_assoc,c21,c27,c32]
 ·skip
  rw[if_neg] at hr20;rotate_left
  ·simp[c21]
  refine ZE (by simp[bV,c21]) ?_;refine Ym ?_;obtain⟨r33,q33,rfl⟩:=ms hr20;simp only[pq,reduceCtorEq];rintro rfl
  try simp only[pq,reduceCtorEq]
  unfold ZgS at q33;refine ZG ?_;refine Ze rfl (by simp[c21]; rfl) ?_;by_cases c34:a0.2<a1.2
  ·skip
   rw[if_pos c34] at q33;refine ZhE (by simp[bV,c21,c34]) ?_;refine Ze rfl (by simp[c21,c34]; rfl) ?_;refine Zcg ?_;obtain rfl:=Option.some.inj q33;simp[XT,c21,c34]
  ·skip
   rw[if_neg c34] at q33;refine ZeW (by simp[bV,c21,c34]) ?_;refine Ze rfl (by simp[c21,c34]; rfl) ?_;by_cases c35:a1.2<a0.2
   ·skip
    rw[if_pos c35] at q33;refine ZhE (by simp[bV,c21,c34,c35]) ?_;refine Ze rfl (by simp[c21,c34,c35]; rfl) ?_;refine Zcg ?_;obtain rfl:=Option.some.inj q33;simp[XT,c21,c34,c35]
   ·skip
    rw[if_neg c35] at q33;refine ZeW (by simp[bV,c21,c34,c35]) ?_;refine Zgz ?_;simp only[pq,reduceCtorEq];refine Ze rfl (by simp[c21,c34,c35]; rfl) ?_;refine Zcg ?_;obtain rfl:=Option.some.inj q33;simp[XT,c21,c34,c35]
end
theorem w180:Walk tt G [(214,G214)] (fun _=>[]) Tryz.f180 K180:=by
 refine .ak [(5,⟨[1,3,21,22,23],[1],[]⟩)] false Tryz.ntmps180 fun T hO hT a0 x=>?_
 simp only[Zh] at hT; simp only[kS,nfs,Zdf,Lref23_Sound_k1];refine au ?_
 intros; refine lpP 5 (fun⟨p11,p12⟩=>([(3,.one (.v (.int .i64 p11))),(23,.one (.v (.int .i64 p12)))],[])) ?_; rintro⟨p11,p12⟩ x; simp only[Zik,Lref23_Sound_k1]
 exact au
theorem w115:Walk tt G [(72,K72.G),(114,K114.G)] (fun _=>[]) Tryz.f115 K115:=by
 refine .ak [] false Tryz.ntmps115 fun T hO hT ⟨a0,a1⟩ x=>?_
 simp only[Zh] at hT; simp only[kS,nfs,ZdF];exact au
theorem w73:Walk tt G [(52,K52.G),(61,K61.G),(115,K115.G)] (fun _=>[]) Tryz.f73 K73:=by
 refine .ak [(3,⟨[3,17,18,19],[15],[]⟩)] true Tryz.ntmps73 fun T hO hT a0 x=>?_
 simp only[Zh] at hT; simp only[kS,nfs,ZdG,ZhO];refine au ?_
 intros; refine lpP 3 (fun⟨p11,p12⟩=>([(3,.one (.ms 15 0 0 (p12.length) 1)),(19,.one (.v (.int .i64 p11)))],[(15,⟨0,1,Zf .u8 p12,false,true⟩)])) ?_; rintro⟨p11,p12⟩ x; simp only[Ze4,ZhO]
 exact au
theorem w39:Walk tt G [(72,K72.G),(73,K73.G)] (fun _=>[]) Tryz.f39 K39:=by
 refine .ak [(4,⟨[1,10,11,12],[1],[]⟩)] false Tryz.ntmps39 fun T hO hT a0 x=>?_
 simp only[Zh] at hT; simp only[kS,nfs,ZfQ,ZcN];refine au ?_
 intros; refine lpP 4 (fun p6=>([(12,.one (.v (.int .i64 p6)))],[])) ?_; rintro p6 x; simp only[Xh,ZcN]
 exact au
theorem w83:Walk tt G [] (fun _=>[]) Tryz.f83 K83:=by
 refine .ak [] false Tryz.ntmps83 fun T hO hT a0 x=>?_
 simp only[Zh] at hT; simp only[kS,nfs,Zd3];exact au
theorem w46:Walk tt G [(83,K83.G)] (fun _=>[]) Tryz.f46 K46:=by
 refine .ak [] false Tryz.ntmps46 fun T hO hT a0 x=>?_
 simp only[Zh] at hT; simp only[kS,nfs,X5];exact au
theorem w215:Walk tt G [(46,K46.G),(72,K72.G),(83,K83.G)] (fun _=>[]) Tryz.f215 K215:=by
 refine .ak [(7,⟨[1,3,24,25,26],[1],[]⟩),(16,⟨[1,42,43],[1],[]⟩),(19,⟨[1,6,7,42,43],[1],[]⟩),(25,⟨[1,66,67,68],[1],[]⟩)] false Tryz.ntmps215 fun T hO hT a0 x=>?_
 simp only[Zh] at hT; simp only[kS,nfs,Zc5,Lref09_Check_k3,X6,ZaL,Xu];refine au ?_
 intros; refine lpP 7 (fun⟨p6,p7⟩=>([(3,.one (.v (.int .i64 p6))),(26,.one (.v (.int .i64 p7)))],[])) ?_; rintro⟨p6,p7⟩ x; simp only[ZbY,Lref09_Check_k3,X6,ZaL,Xu]
 refine au ?_
 intros; refine lpP 16 (fun p25=>([(43,.one (.v (.int .i64 p25)))],[])) ?_; rintro p25 x; simp only[ZbX,Lref09_Check_k3,X6,ZaL,Xu]
 refine au ?_ ?_
 ·intros; refine lpP 19 (fun p57=>([(7,.one (.v (.int .i64 p57)))],[])) ?_; rintro p57 x; simp only[ZaM,Lref09_Check_k3,X6,ZaL,Xu]
  exact au
 ·intros; refine lpP 25 (fun p43=>([(68,.one (.v (.int .i64 p43)))],[])) ?_; rintro p43 x; simp only[ZbW,Lref09_Check_k3,X6,ZaL,Xu]
  exact au
theorem w216:Walk tt G [] (fun _=>[]) Tryz.f216 K216:=by
 refine .ak [(2,⟨[0,3,7,8],[3],[]⟩)] false Tryz.ntmps216 fun T hO hT ⟨a0,a1⟩ x=>?_
 simp only[Zh] at hT; simp only[kS,nfs,Zdg,Lref11_place_k1];refine au ?_
 intros; refine lpP 2 (fun p4=>([(8,.one (.v (.int .i64 p4)))],[])) ?_; rintro p4 x; simp only[Zf7,Lref11_place_k1]
 exact au
theorem w217:Walk tt G [(216,K216.G)] (fun _=>[]) Tryz.f217 K217:=by
 refine .ak [(2,⟨[1,10,11,12],[],[]⟩),(5,⟨[1,5,10,11,12,18,19,20],[],[]⟩)] false Tryz.ntmps217 fun T hO hT ⟨a0,a1⟩ x=>?_
 simp only[Zh] at hT; simp only[kS,nfs,ZcO,Lref11_forward_k1,Zci];refine au ?_
 intros; refine lpP 2 (fun p20=>([(12,.one (.v (.int .i64 p20)))],[])) ?_; rintro p20 x; simp only[Zen,Lref11_forward_k1,Zci]
 refine au ?_
 intros; refine lpP 5 (fun p36=>([(20,.one (.v (.int .i64 p36)))],[])) ?_; rintro p36 x; simp only[Zem,Lref11_forward_k1,Zci]
 exact au
theorem w218:Walk tt G [] (fun _=>[]) Tryz.f218 K218:=by
 refine .ak [(3,⟨[3,11,12,13],[39],[(3,none,39,33)]⟩),(6,⟨[3,11,12,13,18,19,20],[39],[]⟩),(9,⟨[3,7,11,12,13,18,19,20,24,25,26],[7,39],[]⟩)] false Tryz.ntmps218 fun T hO hT a0 x=>?_
 simp only[Zh] at hT; simp only[kS,nfs,Zex,Lref11_twice_k1,ZdT,Zb0];refine au ?_
 intros; refine lpP 3 (fun⟨p69,p70⟩=>([(3,.one (.ms 39 0 0 (p70.length) 33)),(13,.one (.v (.int .i64 p69)))],[(39,⟨0,33,List.map eapi_OutPoint p70,false,true⟩)])) ?_; rintro⟨p69,p70⟩ x; simp only[Zim,Lref11_twice_k1,ZdT,Zb0]
 refine au ?_
 intros; refine lpP 6 (fun⟨p129,p130⟩=>([(3,.one (.ms 39 0 0 (p130.length) 33)),(20,.one (.v (.int .i64 p129)))],[(39,⟨0,33,List.map eapi_OutPoint p130,false,true⟩)])) ?_; rintro⟨p129,p130⟩ x; simp only[Zil,Lref11_twice_k1,ZdT,Zb0]
 refine au ?_
 intros; refine lpP 9 (fun p147=>([(26,.one (.v (.int .i64 p147)))],[])) ?_; rintro p147 x; simp only[Zf8,Lref11_twice_k1,ZdT,Zb0]
 exact au
end Go.Proofs.YthpkpciceodioaaGreatDoor
