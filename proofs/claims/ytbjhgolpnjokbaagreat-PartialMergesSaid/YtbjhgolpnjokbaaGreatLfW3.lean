import Derived.Test.YtbjhgolpnjokbaaGreatLfK
import Derived.Test.YtbjhgolpnjokbaaGreatCode
import Derived.Test.YtbjhgolpnjokbaaGreatBl
namespace Go.Proofs.YtbjhgolpnjokbaaGreat
open Go.RowKit
open Go.Av
open Go.Lc
set_option maxRecDepth 100000
set_option linter.unusedSimpArgs false
set_option linter.unusedVariables false
set_option maxHeartbeats 4000000
variable {G : Glob}
def kp47 : Keep:=fun i=>if i = 3 then ⟨[3,6,7,8],[900003],[(3,none,900003,0),(3,none,900003,1)]⟩ else ⟨[],[],[]⟩
theorem w47 {T : Tab} (hO : T.own = fun _=>[]) (hT84 : T 84 = some G84) (a0 : (List (List Int))) (x : (List Int)) (hr : XC a0 = some x) : ∃ kp fl n,Zt tt T G kp fl n Tryz.f47 (E47 a0) = some (R47 a0 x):=by
 simp only [E47,R47];refine fnE (kp:=kp47) (w:=true) body47 (by simp) ?_;unfold c47;rw [Tryz.ntmps47];unfold XC at hr;refine Za rfl (by simp []; rfl) ?_;refine Za rfl (by simp []; rfl) ?_;refine Zb ?_;refine Za rfl (by simp []; rfl) ?_;refine Zg ?_;refine ZJ (kq:=⟨[3,6,7,8],[900003],[(3,none,900003,0),(3,none,900003,1)]⟩) (H:=fun (s : Int×(List Int))=>match s with | (p7,p8)=>(⟨(und 3++([.one (.ms 900003 0 0 (p8.length) 1)]++(und 2++([.one (.slice .no (List.map Yd a0)),.one (.v (.int .i64 (a0.length : Int))),.one (.v (.int .i64 p7))]++(und 8)))) : List PV),([(900003,⟨0,1,Zl .u8 p8,false,true⟩)] : Boxes)⟩ : ASt)) (by kernel_rfl) hr (by simp [und,List.replicate,]) ?_;rintro ⟨p7,p8⟩ x18r hr18
 simp only [ZdH] at hr18;unfold b47_1;simp only [und,List.replicate,List.cons_append,List.nil_append];refine Za rfl (by simp []; rfl) ?_;by_cases c19 : p7 < (a0.length : Int)
 ·skip
  have c19N:=c19;try simp at c19N
  first | have c19M : (_ = _) = True:=eq_true c19N | have c19M:=c19N
  rw [if_pos] at hr18;rotate_left
  ·simp [c19,c19M]
  refine Zd (by simp [bV,c19,c19M]) ?_;refine Zh ?_;refine Zg ?_;obtain ⟨x20,hx20,hr18⟩:=bs hr18;obtain ⟨hx20a,hx20b⟩:=Zz hx20;have hx20c:=Zq hx20b;refine Za rfl (by simp [hx20a,hx20b,hx20c,c19,c19M]; rfl) ?_;obtain ⟨y21,hy21,hr18⟩:=bs hr18;have ehy21:=ZcU hy21;simp only [E84,R84,nf,nfs] at ehy21;refine ZA rfl (by simp [hO,hT84,ehy21,c19,c19M]; rfl) ?_;simp only [pq,reduceCtorEq];refine ZA rfl (by simp [c19,c19M]; rfl) ?_;obtain rfl:=Option.some.inj hr18;simp only [pq,reduceCtorEq];simp [und,List.replicate,Nat.add_assoc,c19,c19M]
 ·skip
  have c19N:=c19;try simp at c19N
  first | have c19M : (_ = _) = True:=eq_true c19N | have c19M:=c19N
  rw [if_neg] at hr18;rotate_left
  ·simp [c19,c19M]
  refine Ze (by simp [bV,c19,c19M]) ?_;refine Zr ?_;obtain ⟨r22,q22,rfl⟩:=ms hr18;simp only [pq,reduceCtorEq];rintro rfl
  try simp only [pq,reduceCtorEq]
  unfold ZdG at q22;refine Za rfl (by simp [c19,c19M]; rfl) ?_;refine Zi ?_;obtain rfl:=Option.some.inj q22;simp [Zj,c19,c19M,c19N]
def kp81 : Keep:=fun i=>⟨[],[],[]⟩
theorem w81 {T : Tab} (hO : T.own = fun _=>[]) (hT47 : T 47 = some G47) (a0 : Tapi_Op) (x : (List Int)) (hr : XF a0 = some x) : ∃ kp fl n,Zt tt T G kp fl n Tryz.f81 (E81 a0) = some (R81 a0 x):=by
 simp only [E81,R81];refine fnE (kp:=kp81) (w:=true) body81 (by simp) ?_;unfold c81;rw [Tryz.ntmps81];unfold XF at hr;refine Za rfl (by simp []; rfl) ?_;refine Zb ?_;refine Za rfl (by simp []; rfl) ?_;refine Zg ?_;refine Za rfl (by simp []; rfl) ?_;by_cases c2 : a0.1 = 1
 ·skip
  rw [if_pos c2] at hr;refine Zp (by simp [bV,eq_true c2]) ?_;obtain ⟨y3,hy3,hr⟩:=bs hr;have ehy3:=ZkV hy3;simp only [E47,R47,nf,nfs] at ehy3;refine Za rfl (by simp [List.range,List.range.loop,hO,hT47,ehy3,eq_true c2]; rfl) ?_;refine Zi ?_;obtain rfl:=Option.some.inj hr;simp [Zj,List.range,List.range.loop,hO,hT47,ehy3,eq_true c2]
 ·skip
  rw [if_neg c2] at hr;refine Zy (by simp [bV,c2]) ?_;refine Za rfl (by simp [c2]; rfl) ?_;by_cases c4 : a0.1 = 11
  ·skip
   rw [if_pos c4] at hr;refine Zp (by simp [bV,c2,eq_true c4]) ?_;refine Za rfl (by simp [List.range,List.range.loop,c2,eq_true c4]; rfl) ?_;refine Zi ?_;obtain rfl:=Option.some.inj hr;simp [Zj,List.range,List.range.loop,c2,eq_true c4]
  ·skip
   rw [if_neg c4] at hr;refine Zy (by simp [bV,c2,c4]) ?_;refine ZV ?_;simp only [pq,reduceCtorEq];refine Za rfl (by simp [c2,c4]; rfl) ?_;refine Zi ?_;obtain rfl:=Option.some.inj hr;simp [Zj,c2,c4]
def kp43 : Keep:=fun i=>if i = 2 then ⟨[0,10,11,12],[],[]⟩ else if i = 10 then ⟨[7,22,23,24],[31],[(7,none,31,1)]⟩ else ⟨[],[],[]⟩
theorem w43 {T : Tab} (hO : T.own = fun _=>[]) (hT80 : T 80 = some G80) (hT81 : T 81 = some G81) (a0 : (List Tapi_Op)) (x : (List Int)×Int) (hr : Xx a0 = some x) : ∃ kp fl n,Zt tt T G kp fl n Tryz.f43 (E43 a0) = some (R43 a0 x):=by
 simp only [E43,R43];refine fnE (kp:=kp43) (w:=false) body43 (by simp) ?_;unfold c43;rw [Tryz.ntmps43];unfold Xx at hr;refine Za rfl (by simp []; rfl) ?_;refine Zb ?_;refine Za rfl (by simp []; rfl) ?_;refine Zg ?_;refine ZJ (kq:=⟨[0,10,11,12],[],[]⟩) (H:=fun (s : Int)=>match s with | p6=>(⟨([.one (.slice .no (List.map XS a0))]++(und 9++([.one (.slice .no (List.map XS a0)),.one (.v (.int .i64 (a0.length : Int))),.one (.v (.int .i64 p6))]++(und 24))) : List PV),([] : Boxes)⟩ : ASt)) (by kernel_rfl) hr (by simp [und,List.replicate,]) ?_;rintro p6 x33r hr33
 simp only [ZbZ] at hr33;unfold b43_1;simp only [und,List.replicate,List.cons_append,List.nil_append];refine Za rfl (by simp []; rfl) ?_;by_cases c34 : p6 < (a0.length : Int)
 ·skip
  have c34N:=c34;try simp at c34N
  first | have c34M : (_ = _) = True:=eq_true c34N | have c34M:=c34N
  rw [if_pos] at hr33;rotate_left
  ·simp [c34,c34M]
  refine Zd (by simp [bV,c34,c34M]) ?_;refine Zh ?_;refine Zg ?_;obtain ⟨x35,hx35,hr33⟩:=bs hr33;obtain ⟨hx35a,hx35b⟩:=Zz hx35;have hx35c:=Zq hx35b;refine Za rfl (by simp [hx35a,hx35b,hx35c,c34,c34M]; rfl) ?_;obtain ⟨y36,hy36,hr33⟩:=bs hr33;have ehy36:=ZsI hy36;simp only [E80,R80,nf,nfs] at ehy36;refine Za rfl (by simp [hO,hT80,ehy36,c34,c34M]; rfl) ?_;refine Za rfl (by simp [c34,c34M]; rfl) ?_;by_cases c37 : y36 = 0
  ·skip
   rw [if_neg (not_not_intro c37)] at hr33;refine Zy (by simp [bV,c34,c34M,eq_true c37]) ?_;refine ZV ?_;simp only [pq,reduceCtorEq];refine ZA rfl (by simp [c34,c34M,eq_true c37]; rfl) ?_;obtain rfl:=Option.some.inj hr33;simp only [pq,reduceCtorEq];simp [und,List.replicate,Nat.add_assoc,c34,c34M,eq_true c37]
  ·skip
   rw [if_pos c37] at hr33;refine Zp (by simp [bV,c34,c34M,c37]) ?_;refine Za rfl (by simp [c34,c34M,c37]; rfl) ?_;refine Zi ?_;obtain rfl:=Option.some.inj hr33;simp only [pq,reduceCtorEq];rintro rfl
   simp [Zj,c34,c34M,c37,c34N]
 ·skip
  have c34N:=c34;try simp at c34N
  first | have c34M : (_ = _) = True:=eq_true c34N | have c34M:=c34N
  rw [if_neg] at hr33;rotate_left
  ·simp [c34,c34M]
  refine Ze (by simp [bV,c34,c34M]) ?_;refine Zr ?_;obtain ⟨r38,q38,rfl⟩:=ms hr33;simp only [pq,reduceCtorEq];rintro rfl
  try simp only [pq,reduceCtorEq]
  unfold ZbY at q38;refine Za rfl (by simp [c34,c34M]; rfl) ?_;refine Zb ?_;refine Za rfl (by simp [c34,c34M]; rfl) ?_;refine Zg ?_;refine ZJ (kq:=⟨[7,22,23,24],[31],[(7,none,31,1)]⟩) (H:=fun (s : Int×(List Int))=>match s with | (p17,p18)=>(⟨(und 7++([.one (.ms 31 0 0 (p18.length) 1)]++(und 14++([.one (.slice .no (List.map XS a0)),.one (.v (.int .i64 (a0.length : Int))),.one (.v (.int .i64 p17))]++(und 12)))) : List PV),([(31,⟨0,1,Zl .u8 p18,false,true⟩)] : Boxes)⟩ : ASt)) (by kernel_rfl) q38 (by simp [und,List.replicate,c34,c34M]) ?_;rintro ⟨p17,p18⟩ x46r hr46
  simp only [ZbX] at hr46;unfold b43_2;simp only [und,List.replicate,List.cons_append,List.nil_append];refine Za rfl (by simp [c34,c34M]; rfl) ?_;by_cases c47 : p17 < (a0.length : Int)
  ·skip
   have c47N:=c47;try simp at c47N
   first | have c47M : (_ = _) = True:=eq_true c47N | have c47M:=c47N
   rw [if_pos] at hr46;rotate_left
   ·simp [c34,c34M,c47,c47M]
   refine Zd (by simp [bV,c34,c34M,c47,c47M]) ?_;refine Zh ?_;refine Zg ?_;obtain ⟨x48,hx48,hr46⟩:=bs hr46;obtain ⟨hx48a,hx48b⟩:=Zz hx48;have hx48c:=Zq hx48b;refine Za rfl (by simp [hx48a,hx48b,hx48c,c34,c34M,c47,c47M]; rfl) ?_;obtain ⟨y49,hy49,hr46⟩:=bs hr46;have ehy49:=ZpG hy49;simp only [E81,R81,nf,nfs] at ehy49;obtain ⟨_,u50,hr46⟩:=bs hr46;have u50_0:=ZD u50;have n1_u50_0 : p18.length + y49.length≤140737488355328:=by omega
   have n2_u50_0 : p18.length + y49.length≤9223372036854775807:=by omega
   refine Za rfl (by simp [hO,hT81,ehy49,n1_u50_0,n2_u50_0,c34,c34M,c47,c47M]; rfl) ?_;refine Za rfl (by simp [c34,c34M,c47,c47M]; rfl) ?_;by_cases c51 : 520 < (p18.length + y49.length : Int)
   ·skip
    have c51N:=c51;try simp at c51N
    first | have c51M : (_ = _) = True:=eq_true c51N | have c51M:=c51N
    rw [if_pos] at hr46;rotate_left
    ·simp [c34,c34M,c47,c47M,c51,c51M]
    refine Zp (by simp [bV,c34,c34M,c47,c47M,c51,c51M]) ?_;refine Za rfl (by simp [c34,c34M,c47,c47M,c51,c51M]; rfl) ?_;refine Zi ?_;obtain rfl:=Option.some.inj hr46;simp only [pq,reduceCtorEq];rintro rfl
    simp [Zj,c34,c34M,c47,c47M,c51,c51M,c34N,c47N,c51N]
   ·skip
    have c51N:=c51;try simp at c51N
    first | have c51M : (_ = _) = True:=eq_true c51N | have c51M:=c51N
    rw [if_neg] at hr46;rotate_left
    ·simp [c34,c34M,c47,c47M,c51,c51M]
    refine Zy (by simp [bV,c34,c34M,c47,c47M,c51,c51M]) ?_;refine ZV ?_;simp only [pq,reduceCtorEq];refine ZA rfl (by simp [c34,c34M,c47,c47M,c51,c51M]; rfl) ?_;obtain rfl:=Option.some.inj hr46;simp only [pq,reduceCtorEq];simp [und,List.replicate,Nat.add_assoc,c34,c34M,c47,c47M,c51,c51M]
  ·skip
   have c47N:=c47;try simp at c47N
   first | have c47M : (_ = _) = True:=eq_true c47N | have c47M:=c47N
   rw [if_neg] at hr46;rotate_left
   ·simp [c34,c34M,c47,c47M]
   refine Ze (by simp [bV,c34,c34M,c47,c47M]) ?_;refine Zr ?_;obtain ⟨r52,q52,rfl⟩:=ms hr46;simp only [pq,reduceCtorEq];rintro rfl
   try simp only [pq,reduceCtorEq]
   unfold ZbW at q52;refine Za rfl (by simp [c34,c34M,c47,c47M]; rfl) ?_;refine Zi ?_;obtain rfl:=Option.some.inj q52;simp [Zj,c34,c34M,c47,c47M,c34N,c47N]
def kp17 : Keep:=fun i=>if i = 3 then ⟨[0,1,6,9,10,11],[20],[(6,none,20,4)]⟩ else ⟨[],[],[]⟩
theorem w17 {T : Tab} (hO : T.own = fun _=>[]) (hT42 : T 42 = some G42) (hT43 : T 43 = some G43) (a0 : Int) (a1 : (List (Arr 4))) (x : (List Int)×Int) (hr : XD a0 a1 = some x) : ∃ kp fl n,Zt tt T G kp fl n Tryz.f17 (E17 (a0,a1)) = some (R17 (a0,a1) x):=by
 simp only [E17,R17];refine fnE (kp:=kp17) (w:=false) body17 (by simp) ?_;unfold c17;rw [Tryz.ntmps17];unfold XD at hr;refine Za rfl (by simp []; rfl) ?_;refine Za rfl (by simp []; rfl) ?_;refine Zb ?_;refine Za rfl (by simp []; rfl) ?_;refine Zg ?_;refine ZJ (kq:=⟨[0,1,6,9,10,11],[20],[(6,none,20,4)]⟩) (H:=fun (s : Int×(List Tapi_Op))=>match s with | (p8,p9)=>(⟨([.one (.v (.int .i64 a0)),.one (.slice .no (List.map (arC .u64) a1))]++(und 4++([.one (.ms 20 0 0 (p9.length) 4)]++(und 2++([.one (.slice .no (List.map (arC .u64) a1)),.one (.v (.int .i64 (a1.length : Int))),.one (.v (.int .i64 p8))]++(und 20))))) : List PV),([(20,⟨0,4,List.map XS p9,false,true⟩)] : Boxes)⟩ : ASt)) (by kernel_rfl) hr (by simp [und,List.replicate,]) ?_;rintro ⟨p8,p9⟩ x24r hr24
 simp only [Zdd] at hr24;unfold b17_1;simp only [und,List.replicate,List.cons_append,List.nil_append];refine Za rfl (by simp []; rfl) ?_;by_cases c25 : p8 < (a1.length : Int)
 ·skip
  have c25N:=c25;try simp at c25N
  first | have c25M : (_ = _) = True:=eq_true c25N | have c25M:=c25N
  rw [if_pos] at hr24;rotate_left
  ·simp [c25,c25M]
  refine Zd (by simp [bV,c25,c25M]) ?_;refine Zh ?_;refine Zg ?_;obtain ⟨x26,hx26,hr24⟩:=bs hr24;obtain ⟨hx26a,hx26b⟩:=Zz hx26;have hx26c:=Zq hx26b;refine Za rfl (by simp [hx26a,hx26b,hx26c,c25,c25M]; rfl) ?_;obtain ⟨y27,hy27,hr24⟩:=bs hr24;have ehy27:=ZpF hy27;simp only [E42,R42,nf,nfs] at ehy27;obtain ⟨_,u28,hr24⟩:=bs hr24;have u28_0:=ZD u28;have n1_u28_0 : (p9.length + 1) * 48≤140737488355328:=by omega
  have n2_u28_0 : p9.length + 1≤9223372036854775807:=by omega
  refine ZA rfl (by simp [hO,hT42,ehy27,n1_u28_0,n2_u28_0,c25,c25M]; rfl) ?_;simp only [pq,reduceCtorEq];refine ZA rfl (by simp [c25,c25M]; rfl) ?_;obtain rfl:=Option.some.inj hr24;simp only [pq,reduceCtorEq];simp [und,List.replicate,Nat.add_assoc,c25,c25M]
 ·skip
  have c25N:=c25;try simp at c25N
  first | have c25M : (_ = _) = True:=eq_true c25N | have c25M:=c25N
  rw [if_neg] at hr24;rotate_left
  ·simp [c25,c25M]
  refine Ze (by simp [bV,c25,c25M]) ?_;refine Zr ?_;obtain ⟨r29,q29,rfl⟩:=ms hr24;simp only [pq,reduceCtorEq];rintro rfl
  try simp only [pq,reduceCtorEq]
  unfold Zdc at q29;obtain ⟨_,u30,q29⟩:=bs q29;have u30_0:=ZD u30;have n1_u30_0 : (p9.length + 1) * 48≤140737488355328:=by omega
  have n2_u30_0 : p9.length + 1≤9223372036854775807:=by omega
  obtain ⟨y31,hy31,q29⟩:=bs q29;have ehy31:=ZsJ hy31;simp only [E43,R43,nf,nfs] at ehy31;refine Za rfl (by simp [n1_u30_0,n2_u30_0,hO,hT43,ehy31,c25,c25M]; rfl) ?_;refine Zi ?_;obtain rfl:=Option.some.inj q29;simp [Zj,n1_u30_0,n2_u30_0,hO,hT43,ehy31,c25,c25M,c25N]
def kp38 : Keep:=fun i=>⟨[],[],[]⟩
theorem w38 {T : Tab} (a0 : Int) (x : (Arr 4)) (hr : Yx a0 = some x) : ∃ kp fl n,Zt tt T G kp fl n Tryz.f38 (E38 a0) = some (R38 a0 x):=by
 simp only [E38,R38];refine fnE (kp:=kp38) (w:=false) body38 (by simp) ?_;unfold c38;rw [Tryz.ntmps38];unfold Yx at hr;refine Za rfl (by simp []; rfl) ?_;have ap1:=Zac (k:=.u64) (zA 4) (i:=0) (by decide) (a0);refine Za rfl (by simp [ap1]; rfl) ?_;refine Zi ?_;obtain rfl:=Option.some.inj hr;simp [Zj,ap1]
def kp18 : Keep:=fun i=>⟨[],[],[]⟩
theorem w18 {T : Tab} (hO : T.own = fun _=>[]) (hT38 : T 38 = some G38) (a0 : Int) (x : (Arr 4)) (hr : YH a0 = some x) : ∃ kp fl n,Zt tt T G kp fl n Tryz.f18 (E18 a0) = some (R18 a0 x):=by
 simp only [E18,R18];refine fnE (kp:=kp18) (w:=false) body18 (by simp) ?_;unfold c18;rw [Tryz.ntmps18];unfold YH at hr;refine Za rfl (by simp []; rfl) ?_;obtain ⟨y2,hy2,hr⟩:=bs hr;have ehy2:=Zji hy2;simp only [E38,R38,nf,nfs] at ehy2;refine Za rfl (by simp [hO,hT38,ehy2]; rfl) ?_;refine Zi ?_;obtain rfl:=Option.some.inj hr;simp [Zj,hO,hT38,ehy2]
def kp100 : Keep:=fun i=>⟨[],[],[]⟩
theorem w100 {T : Tab} (a0 : Int) (x : Bool) (hr : Zag a0 = some x) : ∃ kp fl n,Zt tt T G kp fl n Tryz.f100 (Zh9 a0) = some (Zlg a0 x):=by
 simp only [Zh9,Zlg];refine fnE (kp:=kp100) (w:=false) body100 (by simp) ?_;unfold c100;rw [Tryz.ntmps100];unfold Zag at hr;refine Za rfl (by simp []; rfl) ?_;by_cases c1 : 1≤a0
 ·skip
  refine Za rfl (by simp [c1]; rfl) ?_;refine Zi ?_;obtain rfl:=Option.some.inj hr;simp [Zj,c1]
 ·skip
  refine Za rfl (by simp [c1]; rfl) ?_;refine Zi ?_;obtain rfl:=Option.some.inj hr;simp [Zj,c1]
def kp101 : Keep:=fun i=>if i = 3 then ⟨[3,6,7,8],[14],[(3,none,14,1)]⟩ else ⟨[],[],[]⟩
theorem w101 {T : Tab} (a0 : (List (List Int))) (x : (List Int)) (hr : Zbf a0 = some x) : ∃ kp fl n,Zt tt T G kp fl n Tryz.f101 (Zia a0) = some (Zlh a0 x):=by
 simp only [Zia,Zlh];refine fnE (kp:=kp101) (w:=true) body101 (by simp) ?_;unfold c101;rw [Tryz.ntmps101];unfold Zbf at hr;refine Za rfl (by simp []; rfl) ?_;refine Za rfl (by simp []; rfl) ?_;refine Zb ?_;refine Za rfl (by simp []; rfl) ?_;refine Zg ?_;refine ZJ (kq:=⟨[3,6,7,8],[14],[(3,none,14,1)]⟩) (H:=fun (s : Int×(List Int))=>match s with | (p7,p8)=>(⟨(und 3++([.one (.ms 14 0 0 (p8.length) 1)]++(und 2++([.one (.slice .no (List.map Yd a0)),.one (.v (.int .i64 (a0.length : Int))),.one (.v (.int .i64 p7))]++(und 8)))) : List PV),([(14,⟨0,1,Zl .u8 p8,false,true⟩)] : Boxes)⟩ : ASt)) (by kernel_rfl) hr (by simp [und,List.replicate,]) ?_;rintro ⟨p7,p8⟩ x18r hr18
 simp only [ZdJ] at hr18;unfold b101_1;simp only [und,List.replicate,List.cons_append,List.nil_append];refine Za rfl (by simp []; rfl) ?_;by_cases c19 : p7 < (a0.length : Int)
 ·skip
  have c19N:=c19;try simp at c19N
  first | have c19M : (_ = _) = True:=eq_true c19N | have c19M:=c19N
  rw [if_pos] at hr18;rotate_left
  ·simp [c19,c19M]
  refine Zd (by simp [bV,c19,c19M]) ?_;refine Zh ?_;refine Zg ?_;obtain ⟨x20,hx20,hr18⟩:=bs hr18;obtain ⟨hx20a,hx20b⟩:=Zz hx20;have hx20c:=Zq hx20b;refine Za rfl (by simp [hx20a,hx20b,hx20c,c19,c19M]; rfl) ?_;obtain ⟨_,u21,hr18⟩:=bs hr18;have u21_0:=ZD u21;have n1_u21_0 : p8.length + x20.length≤140737488355328:=by omega
  have n2_u21_0 : p8.length + x20.length≤9223372036854775807:=by omega
  refine ZA rfl (by simp [n1_u21_0,n2_u21_0,c19,c19M]; rfl) ?_;simp only [pq,reduceCtorEq];refine ZA rfl (by simp [c19,c19M]; rfl) ?_;obtain rfl:=Option.some.inj hr18;simp only [pq,reduceCtorEq];simp [und,List.replicate,Nat.add_assoc,c19,c19M]
 ·skip
  have c19N:=c19;try simp at c19N
  first | have c19M : (_ = _) = True:=eq_true c19N | have c19M:=c19N
  rw [if_neg] at hr18;rotate_left
  ·simp [c19,c19M]
  refine Ze (by simp [bV,c19,c19M]) ?_;refine Zr ?_;obtain ⟨r22,q22,rfl⟩:=ms hr18;simp only [pq,reduceCtorEq];rintro rfl
  try simp only [pq,reduceCtorEq]
  unfold ZdI at q22;refine Za rfl (by simp [c19,c19M]; rfl) ?_;refine Zi ?_;obtain rfl:=Option.some.inj q22;simp [Zj,c19,c19M,c19N]
def kp102 : Keep:=fun i=>⟨[],[],[]⟩
theorem w102 {T : Tab} (a0 : Int) (a1 : Int) (x : Bool) (hr : Xy a0 a1 = some x) : ∃ kp fl n,Zt tt T G kp fl n Tryz.f102 (Zib (a0,a1)) = some (Zli (a0,a1) x):=by
 simp only [Zib,Zli];refine fnE (kp:=kp102) (w:=false) body102 (by simp) ?_;unfold c102;rw [Tryz.ntmps102];unfold Xy at hr;refine Za rfl (by simp []; rfl) ?_;by_cases c1 : 1≤a1
 ·skip
  by_cases c2 : a1≤15
  ·skip
   by_cases c3 : 1≤a0
   ·skip
    refine Za rfl (by simp [c1,c2,c3]; rfl) ?_;refine Zi ?_;obtain rfl:=Option.some.inj hr;simp [Zj,c1,c2,c3]
   ·skip
    refine Za rfl (by simp [c1,c2,c3]; rfl) ?_;refine Zi ?_;obtain rfl:=Option.some.inj hr;simp [Zj,c1,c2,c3]
  ·skip
   refine Za rfl (by simp [c1,c2]; rfl) ?_;refine Zi ?_;obtain rfl:=Option.some.inj hr;simp [Zj,c1,c2]
 ·skip
  refine Za rfl (by simp [c1]; rfl) ?_;refine Zi ?_;obtain rfl:=Option.some.inj hr;simp [Zj,c1]
def kp82 : Keep:=fun i=>⟨[],[],[]⟩
theorem w82 {T : Tab} (hO : T.own = fun _=>[]) (hT100 : T 100 = some G100) (hT101 : T 101 = some G101) (hT102 : T 102 = some G102) (a0 : (List Int)) (x : Tapi_Op×(List Int)×Int) (hr : ZaE a0 = some x) : ∃ kp fl n,Zt tt T G kp fl n Tryz.f82 (E82 a0) = some (R82 a0 x):=by
 simp only [E82,R82];refine fnE (kp:=kp82) (w:=false) body82 (by simp) ?_;unfold c82;rw [Tryz.ntmps82];unfold ZaE at hr;refine Za rfl (by simp []; rfl) ?_;obtain ⟨x28,hx28,hr⟩:=bs hr;have hx28c:=Zq hx28;refine Za rfl (by simp [hx28,hx28c]; rfl) ?_;refine Zb ?_;obtain ⟨y29,hy29,hr⟩:=bs hr;have ehy29:=ZrY hy29;simp only [Zh9,Zlg,nf,nfs] at ehy29;refine Za rfl (by simp [hO,hT100,ehy29]; rfl) ?_;by_cases c30 : y29 = true
 ·skip
  rw [if_neg (not_not_intro c30)] at hr;refine Ze (by simp [bV,c30]) ?_;refine Zh ?_;obtain ⟨_,u31,hr⟩:=bs hr;have u31_0:=ZD u31;have sf32 : 1≤a0.length:=by omega
  refine Za rfl (by simp [u31_0,sf32,c30]; rfl) ?_;refine Zb ?_;refine Za rfl (by simp [c30]; rfl) ?_;refine Zg ?_;refine Za rfl (by simp [c30]; rfl) ?_;by_cases c55 : IntKind.i64.wrap (x28) = 1
  ·skip
   rw [if_pos c55] at hr;refine Zp (by simp [bV,c30,eq_true c55]) ?_;refine Zb ?_;by_cases c56 : (((a0).drop 1).length : Int) = 0
   ·skip
    have c56N:=c56;try simp at c56N
    rw [if_pos] at hr;rotate_left
    ·simp [c30,eq_true c55,eq_true c56,eq_true c56N]
    obtain ⟨z57,hz57,hr⟩:=bs hr;obtain rfl:=Option.some.inj hz57;refine Za rfl (by simp [c30,eq_true c55,eq_true c56,eq_true c56N]; rfl) ?_;rw [if_pos] at hr;rotate_left
    ·simp [c30,eq_true c55,eq_true c56,eq_true c56N]
    refine Zd (by simp [bV,c30,eq_true c55,eq_true c56,eq_true c56N]) ?_;refine Zb ?_;refine Za rfl (by simp [c30,eq_true c55,eq_true c56,eq_true c56N]; rfl) ?_;refine Zn ?_;obtain rfl:=Option.some.inj hr;simp [Zj,c30,eq_true c55,eq_true c56,eq_true c56N]
   ·skip
    have c56N:=c56;try simp at c56N
    first | have c56M : (_ = _) = True:=eq_true c56N | have c56M:=c56N
    rw [if_neg] at hr;rotate_left
    ·simp [c30,eq_true c55,c56,c56M]
    obtain ⟨z58,hz58,hr⟩:=bs hr;obtain ⟨x59,hx59,hz58⟩:=bs hz58;have hx59c:=Zq hx59;have hx59d : (a0)[1]? = some x59:=by simpa using hx59
    have hx59e:=Zq hx59d;obtain rfl:=Option.some.inj hz58;refine Za rfl (by simp [hx59,hx59c,hx59d,hx59e,c30,eq_true c55,c56,c56M]; rfl) ?_;by_cases c60 : IntKind.i64.wrap ((((a0).drop 1).length : Int) - 1) < IntKind.i64.wrap (x59)
    ·skip
     have c60N:=c60;try simp at c60N
     first | have c60M : (_ = _) = True:=eq_true c60N | have c60M:=c60N
     rw [if_pos] at hr;rotate_left
     ·simp [c30,eq_true c55,c56,c56M,c60,c60M]
     refine Zd (by simp [bV,c30,eq_true c55,c56,c56M,c60,c60M]) ?_;refine Zb ?_;refine Za rfl (by simp [c30,eq_true c55,c56,c56M,c60,c60M]; rfl) ?_;refine Zn ?_;obtain rfl:=Option.some.inj hr;simp [Zj,c30,eq_true c55,c56,c56M,c60,c60M,c56N,c60N]
    ·skip
     have c60N:=c60;try simp at c60N
     first | have c60M : (_ = _) = True:=eq_true c60N | have c60M:=c60N
     rw [if_neg] at hr;rotate_left
     ·simp [c30,eq_true c55,c56,c56M,c60,c60M]
     refine Ze (by simp [bV,c30,eq_true c55,c56,c56M,c60,c60M]) ?_;refine Zh ?_;obtain ⟨x61,hx61,hr⟩:=bs hr;have hx61c:=Zq hx61;have hx61d : (a0)[1]? = some x61:=by simpa using hx61
     have hx61e:=Zq hx61d;refine Za rfl (by simp [hx61,hx61c,hx61d,hx61e,c30,eq_true c55,c56,c56M,c60,c60M]; rfl) ?_;obtain ⟨_,u62,hr⟩:=bs hr;obtain ⟨u62_0,u62_1⟩:=ZD u62;have u62_1N:=u62_1;try simp at u62_1N
     have sf63 : 1≤(IntKind.i64.wrap (1 + (IntKind.i64.wrap (x61)))).toNat:=by omega
     have sf64 : (IntKind.i64.wrap (1 + (IntKind.i64.wrap (x61)))).toNat≤((a0).drop 1).length:=by omega
     have sf64N:=sf64;try simp at sf64N
     have sf65 : 0≤IntKind.i64.wrap (1 + (IntKind.i64.wrap (x61))):=by omega
     obtain ⟨y66,hy66,hr⟩:=bs hr;have ehy66:=ZrZ hy66;simp only [Zia,Zlh,nf,nfs] at ehy66;try simp only [List.drop_one] at ehy66
     obtain ⟨_,u67,hr⟩:=bs hr;obtain ⟨u67_0,u67_1⟩:=ZD u67;have u67_1N:=u67_1;try simp at u67_1N
     have sf68 : (IntKind.i64.wrap (1 + (IntKind.i64.wrap (x61)))).toNat≤((a0).drop 1).length:=by omega
     have sf68N:=sf68;try simp at sf68N
     refine Zbk rfl (by simp [u62_1N,u62_0,u62_1,sf63,sf64,sf64N,sf65,hO,hT101,ehy66,u67_1N,u67_0,u67_1,sf68,sf68N,c30,eq_true c55,c56,c56M,c60,c60M]; first | exact ⟨rfl,rfl⟩ | rfl) (by kernel_rfl) ?_;simp only [pq,reduceCtorEq];unfold Xz at hr;refine Za rfl (by simp [c30,eq_true c55,c56,c56M,c60,c60M]; rfl) ?_;refine Zi ?_;obtain rfl:=Option.some.inj hr;simp [Zj,c30,eq_true c55,c56,c56M,c60,c60M,c56N,c60N]
  ·skip
   rw [if_neg c55] at hr;refine Zy (by simp [bV,c30,c55]) ?_;refine Za rfl (by simp [c30,c55]; rfl) ?_;by_cases c69 : IntKind.i64.wrap (x28) = 11
   ·skip
    rw [if_pos c69] at hr;refine Zp (by simp [bV,c30,c55,eq_true c69]) ?_;refine Zb ?_;refine Za rfl (by simp [c30,c55,eq_true c69]; rfl) ?_;by_cases c70 : (((a0).drop 1).length : Int) < 2
    ·skip
     have c70N:=c70;try simp at c70N
     first | have c70M : (_ = _) = True:=eq_true c70N | have c70M:=c70N
     rw [if_pos c70] at hr;refine Zd (by simp [bV,c30,c55,eq_true c69,c70,c70M]) ?_;refine Zb ?_;refine Za rfl (by simp [c30,c55,eq_true c69,c70,c70M]; rfl) ?_;refine Zn ?_;obtain rfl:=Option.some.inj hr;simp [Zj,c30,c55,eq_true c69,c70,c70M,c70N]
    ·skip
     have c70N:=c70;try simp at c70N
     first | have c70M : (_ = _) = True:=eq_true c70N | have c70M:=c70N
     rw [if_neg c70] at hr;refine Ze (by simp [bV,c30,c55,eq_true c69,c70,c70M]) ?_;refine Zh ?_;obtain ⟨x71,hx71,hr⟩:=bs hr;have hx71c:=Zq hx71;have hx71d : (a0)[1]? = some x71:=by simpa using hx71
     have hx71e:=Zq hx71d;obtain ⟨x72,hx72,hr⟩:=bs hr;have hx72c:=Zq hx72;have hx72d : (a0)[2]? = some x72:=by simpa using hx72
     have hx72e:=Zq hx72d;obtain ⟨_,u73,hr⟩:=bs hr;have u73_0:=ZD u73;have u73_0N:=u73_0;try simp at u73_0N
     have sf74 : 2≤((a0).drop 1).length:=by omega
     have sf74N:=sf74;try simp at sf74N
     refine ZC rfl (by simp [hx71,hx71c,hx71d,hx71e,hx72,hx72c,hx72d,hx72e,u73_0N,u73_0,sf74,sf74N,c30,c55,eq_true c69,c70,c70M]; first | exact ⟨rfl,rfl⟩ | rfl) (by kernel_rfl) ?_;obtain ⟨y75,hy75,hr⟩:=bs hr;have ehy75:=Zr0 hy75;simp only [Zib,Zli,nf,nfs] at ehy75;refine Za rfl (by simp [hO,hT102,ehy75,c30,c55,eq_true c69,c70,c70M]; rfl) ?_;by_cases c76 : y75 = true
     ·skip
      rw [if_neg (not_not_intro c76)] at hr;refine Zy (by simp [bV,c30,c55,eq_true c69,c70,c70M,c76]) ?_;refine ZV ?_;simp only [pq,reduceCtorEq];unfold Xz at hr;refine Za rfl (by simp [c30,c55,eq_true c69,c70,c70M,c76]; rfl) ?_;refine Zi ?_;obtain rfl:=Option.some.inj hr;simp [Zj,c30,c55,eq_true c69,c70,c70M,c76,c70N]
     ·skip
      rw [if_pos c76] at hr;refine Zp (by simp [bV,c30,c55,eq_true c69,c70,c70M,c76]) ?_;refine Za rfl (by simp [c30,c55,eq_true c69,c70,c70M,c76]; rfl) ?_;refine Zi ?_;obtain rfl:=Option.some.inj hr;simp [Zj,c30,c55,eq_true c69,c70,c70M,c76,c70N]
   ·skip
    rw [if_neg c69] at hr;refine Zy (by simp [bV,c30,c55,c69]) ?_;refine ZV ?_;simp only [pq,reduceCtorEq];unfold Xz at hr;refine Za rfl (by simp [c30,c55,c69]; rfl) ?_;refine Zi ?_;obtain rfl:=Option.some.inj hr;simp [Zj,c30,c55,c69]
 ·skip
  rw [if_pos c30] at hr;refine Zd (by simp [bV,c30]) ?_;refine Zb ?_;refine Za rfl (by simp [c30]; rfl) ?_;refine Zn ?_;obtain rfl:=Option.some.inj hr;simp [Zj,c30]
def kp44 : Keep:=fun i=>if i = 4 then ⟨[0,4],[26],[(4,none,26,4)]⟩ else ⟨[],[],[]⟩
theorem w44 {T : Tab} (hO : T.own = fun _=>[]) (hT82 : T 82 = some G82) (a0 : (List Int)) (x : (List Tapi_Op)×Int) (hr : XG a0 = some x) : ∃ kp fl n,Zt tt T G kp fl n Tryz.f44 (E44 a0) = some (R44 a0 x):=by
 simp only [E44,R44];refine fnE (kp:=kp44) (w:=false) body44 (by simp) ?_;unfold c44;rw [Tryz.ntmps44];unfold XG at hr;refine Za rfl (by simp []; rfl) ?_;refine Zb ?_;refine Za rfl (by simp []; rfl) ?_;by_cases c12 : 520 < (a0.length : Int)
 ·skip
  have c12N:=c12;try simp at c12N
  first | have c12M : (_ = _) = True:=eq_true c12N | have c12M:=c12N
  rw [if_pos c12] at hr;refine Zd (by simp [bV,c12,c12M]) ?_;refine Zb ?_;refine Za rfl (by simp [c12,c12M]; rfl) ?_;refine Zn ?_;obtain rfl:=Option.some.inj hr;simp [Zj,c12,c12M,c12N]
 ·skip
  have c12N:=c12;try simp at c12N
  first | have c12M : (_ = _) = True:=eq_true c12N | have c12M:=c12N
  rw [if_neg c12] at hr;refine Ze (by simp [bV,c12,c12M]) ?_;refine Zh ?_;refine Za rfl (by simp [c12,c12M]; rfl) ?_;refine Zg ?_;refine ZJ (kq:=⟨[0,4],[26],[(4,none,26,4)]⟩) (H:=fun (s : (List Int)×(List Tapi_Op))=>match s with | (p6,p7)=>(⟨([.one (.slice .no (Zl .u8 p6))]++(und 3++([.one (.ms 26 0 0 (p7.length) 4)]++(und 24))) : List PV),([(26,⟨0,4,List.map XS p7,false,true⟩)] : Boxes)⟩ : ASt)) (by kernel_rfl) hr (by simp [und,List.replicate,c12,c12M]) ?_;rintro ⟨p6,p7⟩ x19r hr19
  simp only [Lscript_Parse_s1] at hr19;unfold b44_1;simp only [und,List.replicate,List.cons_append,List.nil_append];refine Zb ?_;refine Za rfl (by simp [c12,c12M]; rfl) ?_;by_cases c20 : 0 < (p6.length : Int)
  ·skip
   have c20N:=c20;try simp at c20N
   first | have c20M : (_ = _) = True:=eq_true c20N | have c20M:=c20N
   rw [if_pos] at hr19;rotate_left
   ·simp [c12,c12M,c20,c20M]
   refine Zd (by simp [bV,c12,c12M,c20,c20M]) ?_;refine Zh ?_;refine ZaW ?_;obtain ⟨y21,hy21,hr19⟩:=bs hr19;have ehy21:=ZsK hy21;simp only [E82,R82,nf,nfs] at ehy21;refine Za rfl (by simp [hO,hT82,ehy21,c12,c12M,c20,c20M]; rfl) ?_;refine Zb ?_;refine Za rfl (by simp [c12,c12M,c20,c20M]; rfl) ?_;by_cases c22 : y21.2.2 = 0
   ·skip
    rw [if_neg (not_not_intro c22)] at hr19;refine Ze (by simp [bV,c12,c12M,c20,c20M,eq_true c22]) ?_;refine Zh ?_;obtain ⟨_,u23,hr19⟩:=bs hr19;have u23_0:=ZD u23;have n1_u23_0 : (p7.length + 1) * 48≤140737488355328:=by omega
    have n2_u23_0 : p7.length + 1≤9223372036854775807:=by omega
    refine ZA rfl (by simp [n1_u23_0,n2_u23_0,c12,c12M,c20,c20M,eq_true c22]; rfl) ?_;obtain rfl:=Option.some.inj hr19;simp only [pq,reduceCtorEq];simp [und,List.replicate,Nat.add_assoc,n1_u23_0,n2_u23_0,c12,c12M,c20,c20M,eq_true c22]
   ·skip
    rw [if_pos c22] at hr19;refine Zd (by simp [bV,c12,c12M,c20,c20M,c22]) ?_;refine Zb ?_;refine Za rfl (by simp [c12,c12M,c20,c20M,c22]; rfl) ?_;refine Zn ?_;obtain rfl:=Option.some.inj hr19;simp only [pq,reduceCtorEq];rintro rfl
    simp [Zj,c12,c12M,c20,c20M,c22,c12N,c20N]
  ·skip
   have c20N:=c20;try simp at c20N
   first | have c20M : (_ = _) = True:=eq_true c20N | have c20M:=c20N
   have c20L : ¬ 0 < p6.length:=by omega
   rw [if_neg] at hr19;rotate_left
   ·simp [c12,c12M,c20,c20M,c20L]
   refine Ze (by simp [bV,c12,c12M,c20,c20M,c20L]) ?_;refine Zr ?_;obtain ⟨r24,q24,rfl⟩:=ms hr19;simp only [pq,reduceCtorEq];rintro rfl
   try simp only [pq,reduceCtorEq]
   unfold ZcD at q24;refine Za rfl (by simp [c12,c12M,c20,c20M,c20L]; rfl) ?_;refine Zi ?_;obtain rfl:=Option.some.inj q24;simp [Zj,c12,c12M,c20,c20M,c20L,c12N,c20N]
def kp83 : Keep:=fun i=>if i = 5 then ⟨[4,24,25,26],[],[]⟩ else ⟨[],[],[]⟩
theorem w83 {T : Tab} (a0 : (List Int)) (x : Int×Int) (hr : XO a0 = some x) : ∃ kp fl n,Zt tt T G kp fl n Tryz.f83 (E83 a0) = some (R83 a0 x):=by
 simp only [E83,R83];refine fnE (kp:=kp83) (w:=false) body83 (by simp) ?_;unfold c83;rw [Tryz.ntmps83];unfold XO at hr;refine Za rfl (by simp []; rfl) ?_;refine Zb ?_;by_cases c16 : 4 < (a0.length : Int)
 ·skip
  have c16N:=c16;try simp at c16N
  first | have c16M : (_ = _) = True:=eq_true c16N | have c16M:=c16N
  rw [if_pos] at hr;rotate_left
  ·simp [c16,c16M]
  obtain ⟨z17,hz17,hr⟩:=bs hr;obtain rfl:=Option.some.inj hz17;refine Za rfl (by simp [c16,c16M]; rfl) ?_;rw [if_pos] at hr;rotate_left
  ·simp [c16,c16M]
  refine Zd (by simp [bV,c16,c16M]) ?_;refine Zb ?_;refine Za rfl (by simp [c16,c16M]; rfl) ?_;refine Zn ?_;obtain rfl:=Option.some.inj hr;simp [Zj,c16,c16M,c16N]
 ·skip
  have c16N:=c16;try simp at c16N
  first | have c16M : (_ = _) = True:=eq_true c16N | have c16M:=c16N
  rw [if_neg] at hr;rotate_left
  ·simp [c16,c16M]
  obtain ⟨z18,hz18,hr⟩:=bs hr;by_cases c19 : 0 < (a0.length : Int)
  ·skip
   have c19N:=c19;try simp at c19N
   first | have c19M : (_ = _) = True:=eq_true c19N | have c19M:=c19N
   rw [if_pos] at hz18;rotate_left
   ·simp [c16,c16M,c19,c19M]
   obtain ⟨z20,hz20,hz18⟩:=bs hz18;obtain ⟨x21,hx21,hz20⟩:=bs hz20;obtain ⟨hx21a,hx21b⟩:=Zz hx21;have hx21c:=Zq hx21b;obtain rfl:=Option.some.inj hz20;obtain rfl:=Option.some.inj hz18;refine Za rfl (by simp [hx21a,hx21b,hx21c,c16,c16M,c19,c19M]; rfl) ?_;by_cases c22 : x21 = 0
   ·skip
    rw [if_pos] at hr;rotate_left
    ·simp [c16,c16M,c19,c19M,eq_true c22]
    refine Zd (by simp [bV,c16,c16M,c19,c19M,eq_true c22]) ?_;refine Zb ?_;refine Za rfl (by simp [c16,c16M,c19,c19M,eq_true c22]; rfl) ?_;refine Zn ?_;obtain rfl:=Option.some.inj hr;simp [Zj,c16,c16M,c19,c19M,eq_true c22,c16N,c19N]
   ·skip
    rw [if_neg] at hr;rotate_left
    ·simp [c16,c16M,c19,c19M,c22]
    refine Ze (by simp [bV,c16,c16M,c19,c19M,c22]) ?_;refine Zh ?_;refine Za rfl (by simp [c16,c16M,c19,c19M,c22]; rfl) ?_;refine Zb ?_;refine Za rfl (by simp [c16,c16M,c19,c19M,c22]; rfl) ?_;refine Zg ?_;refine ZJ (kq:=⟨[4,24,25,26],[],[]⟩) (H:=fun (s : Int×Int)=>match s with | (p10,p11)=>(⟨(und 4++([.one (.v (.int .u32 p10))]++(und 19++([.one (.slice .no (Zl .u8 a0)),.one (.v (.int .i64 (a0.length : Int))),.one (.v (.int .i64 p11))]++(und 13)))) : List PV),([] : Boxes)⟩ : ASt)) (by kernel_rfl) hr (by simp [und,List.replicate,c16,c16M,c19,c19M,c22]) ?_;rintro ⟨p10,p11⟩ x28r hr28
    simp only [Za2] at hr28;unfold b83_1;simp only [und,List.replicate,List.cons_append,List.nil_append];refine Za rfl (by simp [c16,c16M,c19,c19M,c22]; rfl) ?_;by_cases c29 : p11 < (a0.length : Int)
    ·skip
     have c29N:=c29;try simp at c29N
     first | have c29M : (_ = _) = True:=eq_true c29N | have c29M:=c29N
     rw [if_pos] at hr28;rotate_left
     ·simp [c16,c16M,c19,c19M,c22,c29,c29M]
     refine Zd (by simp [bV,c16,c16M,c19,c19M,c22,c29,c29M]) ?_;refine Zh ?_;refine Zg ?_;obtain ⟨x30,hx30,hr28⟩:=bs hr28;obtain ⟨hx30a,hx30b⟩:=Zz hx30;have hx30c:=Zq hx30b;refine Za rfl (by simp [hx30a,hx30b,hx30c,c16,c16M,c19,c19M,c22,c29,c29M]; rfl) ?_;obtain ⟨_,u31,hr28⟩:=bs hr28;have u31_0:=ZD u31;refine ZA rfl (by simp [u31_0,c16,c16M,c19,c19M,c22,c29,c29M]; rfl) ?_;simp only [pq,reduceCtorEq];refine ZA rfl (by simp [c16,c16M,c19,c19M,c22,c29,c29M]; rfl) ?_;obtain rfl:=Option.some.inj hr28;simp only [pq,reduceCtorEq];simp [und,List.replicate,Nat.add_assoc,c16,c16M,c19,c19M,c22,c29,c29M]
    ·skip
     have c29N:=c29;try simp at c29N
     first | have c29M : (_ = _) = True:=eq_true c29N | have c29M:=c29N
     rw [if_neg] at hr28;rotate_left
     ·simp [c16,c16M,c19,c19M,c22,c29,c29M]
     refine Ze (by simp [bV,c16,c16M,c19,c19M,c22,c29,c29M]) ?_;refine Zr ?_;obtain ⟨r32,q32,rfl⟩:=ms hr28;simp only [pq,reduceCtorEq];rintro rfl
     try simp only [pq,reduceCtorEq]
     unfold Za1 at q32;refine Za rfl (by simp [c16,c16M,c19,c19M,c22,c29,c29M]; rfl) ?_;refine Zi ?_;obtain rfl:=Option.some.inj q32;simp [Zj,c16,c16M,c19,c19M,c22,c29,c29M,c16N,c19N,c29N]
  ·skip
   have c19N:=c19;try simp at c19N
   first | have c19M : (_ = _) = True:=eq_true c19N | have c19M:=c19N
   have c19L : ¬ 0 < a0.length:=by omega
   rw [if_neg] at hz18;rotate_left
   ·simp [c16,c16M,c19,c19M,c19L]
   obtain ⟨z33,hz33,hz18⟩:=bs hz18;obtain rfl:=Option.some.inj hz33;obtain rfl:=Option.some.inj hz18;refine Za rfl (by simp [c16,c16M,c19,c19M,c19L]; rfl) ?_;rw [if_neg] at hr;rotate_left
   ·simp [c16,c16M,c19,c19M,c19L]
   refine Ze (by simp [bV,c16,c16M,c19,c19M,c19L]) ?_;refine Zh ?_;refine Za rfl (by simp [c16,c16M,c19,c19M,c19L]; rfl) ?_;refine Zb ?_;refine Za rfl (by simp [c16,c16M,c19,c19M,c19L]; rfl) ?_;refine Zg ?_;refine ZJ (kq:=⟨[4,24,25,26],[],[]⟩) (H:=fun (s : Int×Int)=>match s with | (p10,p11)=>(⟨(und 4++([.one (.v (.int .u32 p10))]++(und 19++([.one (.slice .no (Zl .u8 a0)),.one (.v (.int .i64 (a0.length : Int))),.one (.v (.int .i64 p11))]++(und 13)))) : List PV),([] : Boxes)⟩ : ASt)) (by kernel_rfl) hr (by simp [und,List.replicate,c16,c16M,c19,c19M,c19L]) ?_;rintro ⟨p10,p11⟩ x39r hr39
   simp only [Za2] at hr39;unfold b83_1;simp only [und,List.replicate,List.cons_append,List.nil_append];refine Za rfl (by simp [c16,c16M,c19,c19M,c19L]; rfl) ?_;by_cases c40 : p11 < (a0.length : Int)
   ·skip
    have c40N:=c40;try simp at c40N
    first | have c40M : (_ = _) = True:=eq_true c40N | have c40M:=c40N
    rw [if_pos] at hr39;rotate_left
    ·simp [c16,c16M,c19,c19M,c19L,c40,c40M]
    refine Zd (by simp [bV,c16,c16M,c19,c19M,c19L,c40,c40M]) ?_;refine Zh ?_;refine Zg ?_;obtain ⟨x41,hx41,hr39⟩:=bs hr39;obtain ⟨hx41a,hx41b⟩:=Zz hx41;have hx41c:=Zq hx41b;refine Za rfl (by simp [hx41a,hx41b,hx41c,c16,c16M,c19,c19M,c19L,c40,c40M]; rfl) ?_;obtain ⟨_,u42,hr39⟩:=bs hr39;have u42_0:=ZD u42;refine ZA rfl (by simp [u42_0,c16,c16M,c19,c19M,c19L,c40,c40M]; rfl) ?_;simp only [pq,reduceCtorEq];refine ZA rfl (by simp [c16,c16M,c19,c19M,c19L,c40,c40M]; rfl) ?_;obtain rfl:=Option.some.inj hr39;simp only [pq,reduceCtorEq];simp [und,List.replicate,Nat.add_assoc,c16,c16M,c19,c19M,c19L,c40,c40M]
   ·skip
    have c40N:=c40;try simp at c40N
    first | have c40M : (_ = _) = True:=eq_true c40N | have c40M:=c40N
    rw [if_neg] at hr39;rotate_left
    ·simp [c16,c16M,c19,c19M,c19L,c40,c40M]
    refine Ze (by simp [bV,c16,c16M,c19,c19M,c19L,c40,c40M]) ?_;refine Zr ?_;obtain ⟨r43,q43,rfl⟩:=ms hr39;simp only [pq,reduceCtorEq];rintro rfl
    try simp only [pq,reduceCtorEq]
    unfold Za1 at q43;refine Za rfl (by simp [c16,c16M,c19,c19M,c19L,c40,c40M]; rfl) ?_;refine Zi ?_;obtain rfl:=Option.some.inj q43;simp [Zj,c16,c16M,c19,c19M,c19L,c40,c40M,c16N,c19N,c40N]
end Go.Proofs.YtbjhgolpnjokbaaGreat
