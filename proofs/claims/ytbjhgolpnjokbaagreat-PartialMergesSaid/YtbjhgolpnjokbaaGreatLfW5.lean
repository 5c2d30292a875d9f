import Derived.Test.YtbjhgolpnjokbaaGreatLfK
import Derived.Test.YtbjhgolpnjokbaaGreatCode
import Derived.Test.YtbjhgolpnjokbaaGreatBl
namespace Go.Proofs.YtbjhgolpnjokbaaGreat
open Go.RowKit
open Go.Av
open Go.Lc
set_option maxRecDepth 100000
set_option linter.unusedSimpArgs false
set_option linter.unusedVariables false
set_option maxHeartbeats 4000000
variable {G : Glob}
def kp14 : Keep:=fun i=>if i = 3 then ⟨[0,5,11,12],[37,1000000],[(5,none,37,13)]⟩ else if i = 6 then ⟨[0,5,6,7,11,12],[37,1000000],[]⟩ else if i = 1000007 then ⟨[0,5,6,7,11,12],[37,1000000],[]⟩ else ⟨[],[],[]⟩
theorem w14 {T : Tab} (hO : T.own = fun _=>[]) (hT25 : T 25 = some G25) (hT38 : T 38 = some G38) (a0 : Tlightclientmill_Deck) (a1 : Tapi_Plan) (x : (List Tapi_Signed)×Tlightclientmill_Deck) (hr : X3 a0 a1 = some x) : ∃ kp fl n,Zt tt T G kp fl n Tryz.f14 (E14 (a0,a1)) = some (R14 (a0,a1) x):=by
 simp only [E14,R14];refine fnE (kp:=kp14) (w:=true) body14 (by simp) ?_;unfold c14;rw [Tryz.ntmps14];unfold X3 at hr;refine Za rfl (by simp []; rfl) ?_;refine Za rfl (by simp []; rfl) ?_;refine Zb ?_;refine Za rfl (by simp []; rfl) ?_;refine Zg ?_;refine ZJ (kq:=⟨[0,5,11,12],[37,1000000],[(5,none,37,13)]⟩) (H:=fun (s : Int×Tlightclientmill_Deck×(List Tapi_Signed))=>match s with | (p69,p70,p71)=>(⟨([.ptr 1000000 0 0 0 2]++(und 4++([.one (.ms 37 0 0 (p71.length) 13)]++(und 5++([.one (.v (.int .i64 (a1.1.2.1.length : Int))),.one (.v (.int .i64 p69))]++(und 27))))) : List PV),([(37,⟨0,13,List.map ZE p71,false,true⟩),(1000000,⟨0,2,[[.slice .no (Zl .i64 p70.1),.v (.int .i64 p70.2)]],false,false⟩)] : Boxes)⟩ : ASt)) (by kernel_rfl) hr (by simp [und,List.replicate,]) ?_;rintro ⟨p69,p70,p71⟩ x194r hr194
 simp only [ZeV] at hr194;unfold b14_1;simp only [und,List.replicate,List.cons_append,List.nil_append];refine Za rfl (by simp []; rfl) ?_;by_cases c195 : p69 < (a1.1.2.1.length : Int)
 ·skip
  have c195N:=c195;try simp at c195N
  first | have c195M : (_ = _) = True:=eq_true c195N | have c195M:=c195N
  rw [if_pos] at hr194;rotate_left
  ·simp [c195,c195M]
  refine Zd (by simp [bV,c195,c195M]) ?_;refine Zh ?_;refine Zg ?_;refine Za rfl (by simp [c195,c195M]; rfl) ?_;refine Za rfl (by simp [c195,c195M]; rfl) ?_;refine ZaW ?_;refine ZJ (kq:=⟨[0,5,6,7,11,12],[37,1000000],[]⟩) (H:=fun (s : Int×Tlightclientmill_Deck×(List Tapi_Signed))=>match s with | (p126,p127,p128)=>(⟨([.ptr 1000000 0 0 0 2]++(und 4++([.one (.ms 37 0 0 (p128.length) 13),.one (.v (.int .i64 p69)),.one (.v (.int .u64 p126))]++(und 3++([.one (.v (.int .i64 (a1.1.2.1.length : Int))),.one (.v (.int .i64 p69))]++(und 27))))) : List PV),([(37,⟨0,13,List.map ZE p128,false,true⟩),(1000000,⟨0,2,[[.slice .no (Zl .i64 p127.1),.v (.int .i64 p127.2)]],false,false⟩)] : Boxes)⟩ : ASt)) (by kernel_rfl) hr194 (by simp [und,List.replicate,c195,c195M]) ?_;rintro ⟨p126,p127,p128⟩ x215r hr215
  simp only [ZeU] at hr215;unfold b14_2;simp only [und,List.replicate,List.cons_append,List.nil_append];refine Zb ?_;refine Za rfl (by simp [c195,c195M]; rfl) ?_;by_cases c216 : p126 < 70
  ·skip
   rw [if_pos] at hr215;rotate_left
   ·simp [c195,c195M,c216]
   refine Zd (by simp [bV,c195,c195M,c216]) ?_;refine Zh ?_;refine Zg ?_;obtain ⟨y217,hy217,hr215⟩:=bs hr215;have ehy217:=Ze4 hy217;simp only [E25,R25,nf,nfs] at ehy217;refine Za rfl (by simp [hO,hT25,ehy217,c195,c195M,c216]; rfl) ?_;refine Zk5 hr215 (.normal) (fun (s : Tlightclientmill_Deck×(List Tapi_Signed))=>match s with | (p145,p146)=>(⟨([.ptr 1000000 0 0 0 2]++(und 4++([.one (.ms 37 0 0 (p146.length) 13),.one (.v (.int .i64 p69)),.one (.v (.int .u64 p126))]++(und 3++([.one (.v (.int .i64 (a1.1.2.1.length : Int))),.one (.v (.int .i64 p69))]++(und 27))))) : List PV),([(37,⟨0,13,List.map ZE p146,false,true⟩),(1000000,⟨0,2,[[.slice .no (Zl .i64 p145.1),.v (.int .i64 p145.2)]],false,false⟩)] : Boxes)⟩ : ASt)) (fun (s : Tlightclientmill_Deck×(List Tapi_Signed))=>match s with | (p145,p146)=>X2 p126 p145 p146) ?_ ?_
   ·skip
    rintro ⟨p145,p146⟩ hk225
    change X2 p126 p145 p146 = _ at hk225
    simp only [pq,reduceCtorEq];simp only [und,List.replicate,List.cons_append,List.nil_append];unfold X2 at hk225;refine Zk6 rfl (kq:=⟨[0,5,6,7,11,12],[37,1000000],[]⟩) rfl (by simp [XA,c195,c195M,c216]; rfl) (by simp [c195,c195M,c216]; rfl) ?_;obtain rfl:=Option.some.inj hk225;simp only [pq,reduceCtorEq];simp [und,List.replicate,Nat.add_assoc,c195,c195M,c216]
   ·skip
    intro J225;simp only [pq,reduceCtorEq] at J225;by_cases c226 : y217.1 = 0
    ·skip
     rw [if_pos c226] at hr215;refine Zp (by simp [bV,c195,c195M,c216,eq_true c226]) ?_;obtain ⟨y227,hy227,hr215⟩:=bs hr215;have ehy227:=Zji hy227;simp only [E38,R38,nf,nfs] at ehy227;obtain ⟨y228,hy228,hr215⟩:=bs hr215;have ehy228:=Ze4 hy228;simp only [E25,R25,nf,nfs] at ehy228;obtain ⟨y229,hy229,hr215⟩:=bs hr215;have ehy229:=Zji hy229;simp only [E38,R38,nf,nfs] at ehy229;obtain ⟨y230,hy230,hr215⟩:=bs hr215;have ehy230:=Ze4 hy230;simp only [E25,R25,nf,nfs] at ehy230;obtain ⟨y231,hy231,hr215⟩:=bs hr215;have ehy231:=Zji hy231;simp only [E38,R38,nf,nfs] at ehy231;obtain ⟨_,u232,hr215⟩:=bs hr215;have u232_0:=ZD u232;have n1_u232_0 : (p128.length + 1) * 104≤140737488355328:=by omega
     have n2_u232_0 : p128.length + 1≤9223372036854775807:=by omega
     refine ZA rfl (by simp [hO,hT38,ehy227,hT25,ehy228,ehy229,ehy230,ehy231,n1_u232_0,n2_u232_0,c195,c195M,c216,eq_true c226]; rfl) ?_;simp only [pq,reduceCtorEq];exact YR (key:=1000007) (kq:=⟨[0,5,6,7,11,12],[37,1000000],[]⟩) rfl rfl rfl (by simp [und,List.replicate,c195,c195M,c216,eq_true c226]) (J225 (y230.2,p128++[(p69,y227,(y229,y231))]) hr215)
    ·skip
     rw [if_neg c226] at hr215;refine Zy (by simp [bV,c195,c195M,c216,c226]) ?_;refine ZV ?_;simp only [pq,reduceCtorEq];exact YR (key:=1000007) (kq:=⟨[0,5,6,7,11,12],[37,1000000],[]⟩) rfl rfl rfl (by simp [und,List.replicate,c195,c195M,c216,c226]) (J225 (y217.2,p128) hr215)
  ·skip
   rw [if_neg] at hr215;rotate_left
   ·simp [c195,c195M,c216]
   refine Ze (by simp [bV,c195,c195M,c216]) ?_;refine Zr ?_;obtain ⟨r233,q233,rfl⟩:=ms hr215;simp only [pq,reduceCtorEq];rintro rfl
   try simp only [pq,reduceCtorEq]
   unfold ZeT at q233;refine ZA rfl (by simp [c195,c195M,c216]; rfl) ?_;obtain rfl:=Option.some.inj q233;simp only [pq,reduceCtorEq];simp [und,List.replicate,Nat.add_assoc,c195,c195M,c216]
 ·skip
  have c195N:=c195;try simp at c195N
  first | have c195M : (_ = _) = True:=eq_true c195N | have c195M:=c195N
  rw [if_neg] at hr194;rotate_left
  ·simp [c195,c195M]
  refine Ze (by simp [bV,c195,c195M]) ?_;refine Zr ?_;obtain ⟨r234,q234,rfl⟩:=ms hr194;simp only [pq,reduceCtorEq];rintro rfl
  try simp only [pq,reduceCtorEq]
  unfold ZeS at q234;refine Za rfl (by simp [c195,c195M]; rfl) ?_;refine Zi ?_;obtain rfl:=Option.some.inj q234;simp [Zj,c195,c195M,c195N]
def kp48 : Keep:=fun i=>⟨[],[],[]⟩
theorem w48 {T : Tab} (hO : T.own = fun _=>[]) (hT81 : T 81 = some G81) (a0 : (List Int)) (x : (List Int)) (hr : Zau a0 = some x) : ∃ kp fl n,Zt tt T G kp fl n Tryz.f48 (E48 a0) = some (R48 a0 x):=by
 simp only [E48,R48];refine fnE (kp:=kp48) (w:=true) body48 (by simp) ?_;unfold c48;rw [Tryz.ntmps48];unfold Zau at hr;refine Za rfl (by simp []; rfl) ?_;obtain ⟨y2,hy2,hr⟩:=bs hr;have ehy2:=ZpG hy2;simp only [E81,R81,nf,nfs] at ehy2;refine Za rfl (by simp [hO,hT81,ehy2]; rfl) ?_;refine Zi ?_;obtain rfl:=Option.some.inj hr;simp [Zj,hO,hT81,ehy2]
def kp21 : Keep:=fun i=>⟨[],[],[]⟩
theorem w21 {T : Tab} (hO : T.own = fun _=>[]) (hT42 : T 42 = some G42) (hT47 : T 47 = some G47) (hT48 : T 48 = some G48) (a0 : (Arr 4)) (x : (List Int)) (hr : XI a0 = some x) : ∃ kp fl n,Zt tt T G kp fl n Tryz.f21 (E21 a0) = some (R21 a0 x):=by
 simp only [E21,R21];refine fnE (kp:=kp21) (w:=true) body21 (by simp) ?_;unfold c21;rw [Tryz.ntmps21];unfold XI at hr;refine Za rfl (by simp []; rfl) ?_;obtain ⟨y4,hy4,hr⟩:=bs hr;have ehy4:=ZpF hy4;simp only [E42,R42,nf,nfs] at ehy4;obtain ⟨y5,hy5,hr⟩:=bs hr;have ehy5:=ZpM hy5;simp only [E48,R48,nf,nfs] at ehy5;obtain ⟨y6,hy6,hr⟩:=bs hr;have ehy6:=ZkV hy6;simp only [E47,R47,nf,nfs] at ehy6;refine Za rfl (by simp [hO,hT42,ehy4,hT48,ehy5,List.range,List.range.loop,hT47,ehy6]; rfl) ?_;refine Zi ?_;obtain rfl:=Option.some.inj hr;simp [Zj,hO,hT42,ehy4,hT48,ehy5,List.range,List.range.loop,hT47,ehy6]
def kp49 : Keep:=fun i=>if i = 2 then ⟨[0,3],[12],[(3,none,12,1)]⟩ else ⟨[],[],[]⟩
theorem w49 {T : Tab} (a0 : Int) (x : (List Int)) (hr : Zbg a0 = some x) : ∃ kp fl n,Zt tt T G kp fl n Tryz.f49 (E49 a0) = some (R49 a0 x):=by
 simp only [E49,R49];refine fnE (kp:=kp49) (w:=true) body49 (by simp) ?_;unfold c49;rw [Tryz.ntmps49];unfold Zbg at hr;refine Za rfl (by simp []; rfl) ?_;refine Za rfl (by simp []; rfl) ?_;refine Zg ?_;refine ZJ (kq:=⟨[0,3],[12],[(3,none,12,1)]⟩) (H:=fun (s : Int×(List Int))=>match s with | (p4,p5)=>(⟨([.one (.v (.int .u32 p4))]++(und 2++([.one (.ms 12 0 0 (p5.length) 1)]++(und 10))) : List PV),([(12,⟨0,1,Zl .u8 p5,false,true⟩)] : Boxes)⟩ : ASt)) (by kernel_rfl) hr (by simp [und,List.replicate,]) ?_;rintro ⟨p4,p5⟩ x12r hr12
 simp only [Lref08_Item_s1] at hr12;unfold b49_1;simp only [und,List.replicate,List.cons_append,List.nil_append];refine Zb ?_;refine Za rfl (by simp []; rfl) ?_;by_cases c13 : 0 < p4
 ·skip
  rw [if_pos] at hr12;rotate_left
  ·simp [c13]
  refine Zd (by simp [bV,c13]) ?_;refine Zh ?_;refine Zg ?_;obtain ⟨_,u14,hr12⟩:=bs hr12;have u14_0:=ZD u14;have n1_u14_0 : p5.length + 1≤140737488355328:=by omega
  have n2_u14_0 : p5.length + 1≤9223372036854775807:=by omega
  refine ZA rfl (by simp [n1_u14_0,n2_u14_0,c13]; rfl) ?_;simp only [pq,reduceCtorEq];refine ZA rfl (by simp [c13]; rfl) ?_;obtain rfl:=Option.some.inj hr12;simp only [pq,reduceCtorEq];simp [und,List.replicate,Nat.add_assoc,c13]
 ·skip
  rw [if_neg] at hr12;rotate_left
  ·simp [c13]
  refine Ze (by simp [bV,c13]) ?_;refine Zr ?_;obtain ⟨r15,q15,rfl⟩:=ms hr12;simp only [pq,reduceCtorEq];rintro rfl
  try simp only [pq,reduceCtorEq]
  unfold ZdK at q15;refine Za rfl (by simp [c13]; rfl) ?_;refine Zi ?_;obtain rfl:=Option.some.inj q15;simp [Zj,c13]
def kp22 : Keep:=fun i=>⟨[],[],[]⟩
theorem w22 {T : Tab} (hO : T.own = fun _=>[]) (hT47 : T 47 = some G47) (hT48 : T 48 = some G48) (hT49 : T 49 = some G49) (a0 : Int) (a1 : (List Int)) (x : (List Int)) (hr : X4 a0 a1 = some x) : ∃ kp fl n,Zt tt T G kp fl n Tryz.f22 (E22 (a0,a1)) = some (R22 (a0,a1) x):=by
 simp only [E22,R22];refine fnE (kp:=kp22) (w:=true) body22 (by simp) ?_;unfold c22;rw [Tryz.ntmps22];unfold X4 at hr;refine Za rfl (by simp []; rfl) ?_;obtain ⟨y4,hy4,hr⟩:=bs hr;have ehy4:=ZsP hy4;simp only [E49,R49,nf,nfs] at ehy4;obtain ⟨y5,hy5,hr⟩:=bs hr;have ehy5:=ZpM hy5;simp only [E48,R48,nf,nfs] at ehy5;obtain ⟨y6,hy6,hr⟩:=bs hr;have ehy6:=ZkV hy6;simp only [E47,R47,nf,nfs] at ehy6;refine Za rfl (by simp [hO,hT49,ehy4,hT48,ehy5,List.range,List.range.loop,hT47,ehy6]; rfl) ?_;refine Zi ?_;obtain rfl:=Option.some.inj hr;simp [Zj,hO,hT49,ehy4,hT48,ehy5,List.range,List.range.loop,hT47,ehy6]
def kp23 : Keep:=fun i=>⟨[],[],[]⟩
theorem w23 {T : Tab} (a0 : Int) (x : (List Int)) (hr : XW a0 = some x) : ∃ kp fl n,Zt tt T G kp fl n Tryz.f23 (E23 a0) = some (R23 a0 x):=by
 simp only [E23,R23];refine fnE (kp:=kp23) (w:=true) body23 (by simp) ?_;unfold c23;rw [Tryz.ntmps23];unfold XW at hr;refine Za rfl (by simp []; rfl) ?_;refine Za rfl (by simp [List.range,List.range.loop]; rfl) ?_;refine Zi ?_;obtain rfl:=Option.some.inj hr;simp [Zj,List.range,List.range.loop]
def kp24 : Keep:=fun i=>if i = 5 then ⟨[0,4,5,6,15,16,17],[4,5,35,49,1000000],[(5,some 1,49,35),(5,some 4,35,37)]⟩ else if i = 1000021 then ⟨[4,5],[4,5,35,49,67,1000000],[]⟩ else ⟨[],[],[]⟩
theorem w24 {T : Tab} (hO : T.own = fun _=>[]) (hT23 : T 23 = some G23) (hT25 : T 25 = some G25) (a0 : Tlightclientmill_Deck) (a1 : (List (List Int))) (x : Tapi_Plan×Tlightclientmill_Deck) (hr : ZbQ a0 a1 = some x) : ∃ kp fl n,Zt tt T G kp fl n Tryz.f24 (E24 (a0,a1)) = some (R24 (a0,a1) x):=by
 simp only [E24,R24];refine fnE (kp:=kp24) (w:=true) body24 (by simp) ?_;unfold c24;rw [Tryz.ntmps24];unfold ZbQ at hr;refine Za rfl (by simp []; rfl) ?_;refine Za rfl (by simp []; rfl) ?_;obtain ⟨y44,hy44,hr⟩:=bs hr;have ehy44:=Ze4 hy44;simp only [E25,R25,nf,nfs] at ehy44;refine Za rfl (by simp [hO,hT25,ehy44]; rfl) ?_;refine Za rfl (by simp []; rfl) ?_;refine Zb ?_;refine Za rfl (by simp []; rfl) ?_;refine Zg ?_;refine ZJ (kq:=⟨[0,4,5,6,15,16,17],[4,5,35,49,1000000],[(5,some 1,49,35),(5,some 4,35,37)]⟩) (H:=fun (s : Int×Int×Tlightclientmill_Deck×(List Tapi_Input)×(List Tapi_Coin))=>match s with | (p17,p18,p19,p20,p21)=>(⟨([.ptr 1000000 0 0 0 2]++(und 3++([.ptr 4 0 0 0 7,.ptr 5 0 0 0 7,.one (.v (.int .i64 p17))]++(und 8++([.one (.slice .no (List.map Yd a1)),.one (.v (.int .i64 (a1.length : Int))),.one (.v (.int .i64 p18))]++(und 85))))) : List PV),([(4,⟨0,7,[[.v (.int .u32 0),.slice .nil [],.slice .nil [],.v (.int .u32 0),.slice .nil [],.v (.int .i64 0),.v (.int .i64 0)]],false,false⟩),(5,⟨0,7,[[.v (.int .u32 1),.ms 49 0 0 (p20.length) 35,.slice .nil [],.v (.int .u32 (IntKind.u32.wrap (y44.1))),.ms 35 0 0 (p21.length) 37,.v (.int .i64 0),.v (.int .i64 0)]],false,false⟩),(35,⟨0,37,List.map ZB p21,false,true⟩),(49,⟨0,35,List.map Zm p20,false,true⟩),(1000000,⟨0,2,[[.slice .no (Zl .i64 p19.1),.v (.int .i64 p19.2)]],false,false⟩)] : Boxes)⟩ : ASt)) (by kernel_rfl) hr (by simp [und,List.replicate,]) ?_;rintro ⟨p17,p18,p19,p20,p21⟩ x56r hr56
 simp only [ZfS] at hr56;unfold b24_1;simp only [und,List.replicate,List.cons_append,List.nil_append];refine Za rfl (by simp []; rfl) ?_;by_cases c57 : p18 < (a1.length : Int)
 ·skip
  have c57N:=c57;try simp at c57N
  first | have c57M : (_ = _) = True:=eq_true c57N | have c57M:=c57N
  rw [if_pos] at hr56;rotate_left
  ·simp [c57,c57M]
  refine Zd (by simp [bV,c57,c57M]) ?_;refine Zh ?_;refine Zg ?_;obtain ⟨x58,hx58,hr56⟩:=bs hr56;obtain ⟨hx58a,hx58b⟩:=Zz hx58;have hx58c:=Zq hx58b;refine Za rfl (by simp [hx58a,hx58b,hx58c,c57,c57M]; rfl) ?_;have ap59:=Zac (k:=.u8) (zA 32) (i:=0) (by decide) (1);have ap60:=Zac (k:=.u8) ((zA 32).put 0 1) (i:=1) (by decide) (IntKind.u8.wrap (p18));refine Za rfl (by simp [ap59,ap60,c57,c57M]; rfl) ?_;obtain ⟨_,u61,hr56⟩:=bs hr56;have u61_0:=ZD u61;have n1_u61_0 : (p21.length + 1) * 88≤140737488355328:=by omega
  have n2_u61_0 : p21.length + 1≤9223372036854775807:=by omega
  refine Za rfl (by simp [n1_u61_0,n2_u61_0,c57,c57M]; rfl) ?_;obtain ⟨y62,hy62,hr56⟩:=bs hr56;have ehy62:=Ze4 hy62;simp only [E25,R25,nf,nfs] at ehy62;obtain ⟨j63,hj63,hr56⟩:=bs hr56;obtain ⟨j63a,j63b,j63c⟩:=Yc hj63;have j63d : j63≤2:=by omega
  obtain ⟨x64,hx64,hr56⟩:=bs hr56;have ghx64:=Zq hx64;have mhx64 : (Zl .u32 ([4294967295,0,4294967293]))[j63]? = some [.v (.int .u32 x64)]:=by rw [Zo7,hx64]; rfl
  simp only [ZkI,ZlI] at mhx64;have mghx64:=Zq mhx64;obtain ⟨_,u65,hr56⟩:=bs hr56;have u65_0:=ZD u65;have n1_u65_0 : (p20.length + 1) * 64≤140737488355328:=by omega
  have n2_u65_0 : p20.length + 1≤9223372036854775807:=by omega
  refine ZC rfl (by simp [List.range,List.range.loop,hO,hT25,ehy62,j63a,j63b,j63c,j63d,hx64,ghx64,mhx64,mghx64,n1_u65_0,n2_u65_0,c57,c57M]; first | exact ⟨rfl,rfl⟩ | rfl) (by kernel_rfl) ?_;refine ZA rfl (by simp [c57,c57M]; rfl) ?_;simp only [pq,reduceCtorEq];refine ZA rfl (by simp [c57,c57M]; rfl) ?_;obtain rfl:=Option.some.inj hr56;simp only [pq,reduceCtorEq];simp [und,List.replicate,Nat.add_assoc,c57,c57M]
 ·skip
  have c57N:=c57;try simp at c57N
  first | have c57M : (_ = _) = True:=eq_true c57N | have c57M:=c57N
  rw [if_neg] at hr56;rotate_left
  ·simp [c57,c57M]
  refine Ze (by simp [bV,c57,c57M]) ?_;refine Zr ?_;obtain ⟨r66,q66,rfl⟩:=ms hr56;simp only [pq,reduceCtorEq];rintro rfl
  try simp only [pq,reduceCtorEq]
  unfold ZfR at q66;obtain ⟨y67,hy67,q66⟩:=bs q66;have ehy67:=Ze4 hy67;simp only [E25,R25,nf,nfs] at ehy67;refine Za rfl (by simp [hO,hT25,ehy67,c57,c57M]; rfl) ?_;obtain ⟨y68,hy68,q66⟩:=bs q66;have ehy68:=Zm8 hy68;simp only [E23,R23,nf,nfs] at ehy68;obtain ⟨y69,hy69,q66⟩:=bs q66;have ehy69:=Zm8 hy69;simp only [E23,R23,nf,nfs] at ehy69;refine ZC rfl (by simp [hO,hT23,ehy68,ehy69,List.range,List.range.loop,c57,c57M]; first | exact ⟨rfl,rfl⟩ | rfl) (by kernel_rfl) ?_;refine Za rfl (by simp [c57,c57M]; rfl) ?_;refine Zb ?_;obtain ⟨y70,hy70,q66⟩:=bs q66;have ehy70:=Ze4 hy70;simp only [E25,R25,nf,nfs] at ehy70;refine Za rfl (by simp [hO,hT25,ehy70,c57,c57M]; rfl) ?_;refine Zg ?_;refine Za rfl (by simp [c57,c57M]; rfl) ?_;refine Zk5 q66 (.normal) (fun (s : Int×Int×(List Tapi_Output)×Tlightclientmill_Deck)=>match s with | (p33,p34,p35,p36)=>(⟨(und 4++([.ptr 4 0 0 0 7,.ptr 5 0 0 0 7]++(und 97)) : List PV),([(4,⟨0,7,[[.v (.int .u32 0),.slice .nil [],.slice .nil [],.v (.int .u32 0),.slice .nil [],.v (.int .i64 0),.v (.int .i64 0)]],false,false⟩),(5,⟨0,7,[[.v (.int .u32 1),.ms 49 0 0 (p20.length) 35,.ms 67 0 0 (p35.length) 2,.v (.int .u32 (IntKind.u32.wrap (y44.1))),.ms 35 0 0 (p21.length) 37,.v (.int .i64 p33),.v (.int .i64 p34)]],false,false⟩),(35,⟨0,37,List.map ZB p21,false,true⟩),(49,⟨0,35,List.map Zm p20,false,true⟩),(67,⟨0,2,List.map Zk p35,false,true⟩),(1000000,⟨0,2,[[.slice .no (Zl .i64 p36.1),.v (.int .i64 p36.2)]],false,false⟩)] : Boxes)⟩ : ASt)) (fun (s : Int×Int×(List Tapi_Output)×Tlightclientmill_Deck)=>match s with | (p33,p34,p35,p36)=>Zaf p20 y44 p21 p33 p34 p35 p36) ?_ ?_
  ·skip
   rintro ⟨p33,p34,p35,p36⟩ hk74
   change Zaf p20 y44 p21 p33 p34 p35 p36 = _ at hk74
   simp only [pq,reduceCtorEq];simp only [und,List.replicate,List.cons_append,List.nil_append];unfold Zaf at hk74;refine Zc0 rfl (kq:=⟨[4,5],[4,5,35,49,67,1000000],[]⟩) rfl (by simp [XA,c57,c57M]; rfl) (by simp [c57,c57M]; rfl) ?_;refine Zi ?_;obtain rfl:=Option.some.inj hk74;simp [Zj,c57,c57M,c57N]
  ·skip
   intro J74;simp only [pq,reduceCtorEq] at J74;by_cases c75 : y70.1 = 0
   ·skip
    rw [if_pos c75] at q66;refine Zp (by simp [bV,c57,c57M,eq_true c75]) ?_;refine ZA rfl (by simp [c57,c57M,eq_true c75]; rfl) ?_;simp only [pq,reduceCtorEq];exact YR (key:=1000021) (kq:=⟨[4,5],[4,5,35,49,67,1000000],[]⟩) rfl rfl rfl (by simp [und,List.replicate,c57,c57M,eq_true c75]) (J74 (y67.1,(-1),[(5000,y68),(IntKind.i64.wrap ((IntKind.i64.wrap (p17 - 5000)) - y67.1),y69)],y70.2) q66)
   ·skip
    rw [if_neg c75] at q66;refine Zy (by simp [bV,c57,c57M,c75]) ?_;refine Za rfl (by simp [c57,c57M,c75]; rfl) ?_;by_cases c76 : y70.1 = 1
    ·skip
     rw [if_pos c76] at q66;refine Zp (by simp [bV,c57,c57M,c75,eq_true c76]) ?_;obtain ⟨y77,hy77,q66⟩:=bs q66;have ehy77:=Ze4 hy77;simp only [E25,R25,nf,nfs] at ehy77;refine ZC rfl (by simp [hO,hT25,ehy77,c57,c57M,c75,eq_true c76]; first | exact ⟨rfl,rfl⟩ | rfl) (by kernel_rfl) ?_;refine ZA rfl (by simp [c57,c57M,c75,eq_true c76]; rfl) ?_;simp only [pq,reduceCtorEq];exact YR (key:=1000021) (kq:=⟨[4,5],[4,5,35,49,67,1000000],[]⟩) rfl rfl rfl (by simp [und,List.replicate,c57,c57M,c75,eq_true c76]) (J74 (IntKind.i64.wrap ((IntKind.i64.wrap ((IntKind.i64.wrap (y67.1 + ((IntKind.i64.wrap ((IntKind.i64.wrap (p17 - 5000)) - y67.1),y69).1))) - 301)) - y77.1),1,[(5000,y68),(IntKind.i64.wrap ((IntKind.i64.wrap (p17 - 5000)) - (IntKind.i64.wrap ((IntKind.i64.wrap ((IntKind.i64.wrap (y67.1 + ((IntKind.i64.wrap ((IntKind.i64.wrap (p17 - 5000)) - y67.1),y69).1))) - 301)) - y77.1))),(IntKind.i64.wrap ((IntKind.i64.wrap (p17 - 5000)) - y67.1),y69).2)],y77.2) q66)
    ·skip
     rw [if_neg c76] at q66;refine Zy (by simp [bV,c57,c57M,c75,c76]) ?_;refine ZV ?_;simp only [pq,reduceCtorEq];exact YR (key:=1000021) (kq:=⟨[4,5],[4,5,35,49,67,1000000],[]⟩) rfl rfl rfl (by simp [und,List.replicate,c57,c57M,c75,c76]) (J74 (y67.1,1,[(5000,y68),(IntKind.i64.wrap ((IntKind.i64.wrap (p17 - 5000)) - y67.1),y69)],y70.2) q66)
def kp6 : Keep:=fun i=>⟨[],[],[]⟩
theorem w6 {T : Tab} (hO : T.own = fun _=>[]) (hT14 : T 14 = some G14) (hT17 : T 17 = some G17) (hT18 : T 18 = some G18) (hT21 : T 21 = some G21) (hT22 : T 22 = some G22) (hT23 : T 23 = some G23) (hT24 : T 24 = some G24) (hT25 : T 25 = some G25) (a0 : Tlightclientmill_Deck) (x : Tapi_PartialTx×Tlightclientmill_Deck) (hr : Zbh a0 = some x) : ∃ kp fl n,Zt tt T G kp fl n Tryz.f6 (E6 a0) = some (R6 a0 x):=by
 simp only [E6,R6];refine fnE (kp:=kp6) (w:=false) body6 (by simp) ?_;unfold c6;rw [Tryz.ntmps6];unfold Zbh at hr;refine Za rfl (by simp []; rfl) ?_;obtain ⟨y13,hy13,hr⟩:=bs hr;have ehy13:=Zd4 hy13;simp only [E18,R18,nf,nfs] at ehy13;obtain ⟨y14,hy14,hr⟩:=bs hr;have ehy14:=Zd4 hy14;simp only [E18,R18,nf,nfs] at ehy14;obtain ⟨y15,hy15,hr⟩:=bs hr;obtain rfl : y13 = y15:=Option.some.inj (hy13.symm.trans hy15);have ehy15:=Zd4 hy15;simp only [E18,R18,nf,nfs] at ehy15;obtain ⟨y16,hy16,hr⟩:=bs hr;have ehy16:=ZpH hy16;simp only [E17,R17,nf,nfs] at ehy16;refine Za rfl (by simp [hO,hT18,ehy13,ehy14,ehy15,List.range,List.range.loop,hT17,ehy16]; rfl) ?_;obtain ⟨y17,hy17,hr⟩:=bs hr;obtain rfl : y14 = y17:=Option.some.inj (hy14.symm.trans hy17);have ehy17:=Zd4 hy17;simp only [E18,R18,nf,nfs] at ehy17;obtain ⟨y18,hy18,hr⟩:=bs hr;have ehy18:=ZsO hy18;simp only [E21,R21,nf,nfs] at ehy18;obtain ⟨y19,hy19,hr⟩:=bs hr;have ehy19:=ZsQ hy19;simp only [E22,R22,nf,nfs] at ehy19;obtain ⟨y20,hy20,hr⟩:=bs hr;have ehy20:=Zm8 hy20;simp only [E23,R23,nf,nfs] at ehy20;refine Za rfl (by simp [hO,hT18,ehy17,hT21,ehy18,hT22,ehy19,hT23,ehy20,List.range,List.range.loop]; rfl) ?_;obtain ⟨y21,hy21,hr⟩:=bs hr;have ehy21:=Ze4 hy21;simp only [E25,R25,nf,nfs] at ehy21;obtain ⟨_,u22,hr⟩:=bs hr;obtain ⟨u22_0,u22_1⟩:=ZD u22
 have lu22_0 : IntKind.i64.wrap (1 + y21.1)≤((3 : Nat) : Int):=by
  have h:=u22_0;try simp at h
  omega
 try simp only [Int.natCast_add] at lu22_0
 have sf23 : (IntKind.i64.wrap (1 + y21.1)).toNat≤[y18,y19,y20].length:=by omega
 have sf24 : 0≤IntKind.i64.wrap (1 + y21.1):=by omega
 have sf25 : (IntKind.i64.wrap (1 + y21.1)).toNat≤3:=by omega
 have sf26 : 0≤IntKind.i64.wrap (1 + y21.1):=by omega
 obtain ⟨y27,hy27,hr⟩:=bs hr;have ehy27:=ZsR hy27;simp only [E24,R24,nf,nfs] at ehy27;refine Za rfl (by simp [hO,hT25,ehy21,u22_0,u22_1,lu22_0,sf23,sf24,sf25,sf26,hT24,ehy27]; rfl) ?_;obtain ⟨y28,hy28,hr⟩:=bs hr;have ehy28:=ZpL hy28;simp only [E14,R14,nf,nfs] at ehy28;refine ZC rfl (by simp [hO,hT14,ehy28]; first | exact ⟨rfl,rfl⟩ | rfl) (by kernel_rfl) ?_;refine Zi ?_;obtain rfl:=Option.some.inj hr;simp [Zj,hO,hT14,ehy28]
def kp7 : Keep:=fun i=>⟨[],[],[]⟩
theorem w7 {T : Tab} (a0 : (List Int)) (x : Tlightclientmill_Deck) (hr : Zcp a0 = some x) : ∃ kp fl n,Zt tt T G kp fl n Tryz.f7 (E7 a0) = some (R7 a0 x):=by
 simp only [E7,R7];refine fnE (kp:=kp7) (w:=true) body7 (by simp) ?_;unfold c7;rw [Tryz.ntmps7];unfold Zcp at hr;refine Za rfl (by simp []; rfl) ?_;refine Za rfl (by simp []; rfl) ?_;refine Zi ?_;obtain rfl:=Option.some.inj hr;simp [Zj,]
def kp27 : Keep:=fun i=>⟨[],[],[]⟩
theorem w27 {T : Tab} (a0 : (Arr 4)) (x : (Arr 4)) (hr : ZcK a0 = some x) : ∃ kp fl n,Zt tt T G kp fl n Tryz.f27 (E27 a0) = some (R27 a0 x):=by
 simp only [E27,R27];refine fnE (kp:=kp27) (w:=false) body27 (by simp) ?_;unfold c27;rw [Tryz.ntmps27];unfold ZcK at hr;refine Za rfl (by simp []; rfl) ?_;have ar1:=YZ (k:=.u64) (a0) (i:=0) (by decide);have as2:=Xf (k:=.u64) (a0) (i:=0) (by decide);have ar3:=YZ (k:=.u64) (a0) (i:=1) (by decide);have as4:=Xf (k:=.u64) (a0) (i:=1) (by decide);have ar5:=YZ (k:=.u64) (a0) (i:=2) (by decide);have as6:=Xf (k:=.u64) (a0) (i:=2) (by decide);have ar7:=YZ (k:=.u64) (a0) (i:=3) (by decide);have as8:=Xf (k:=.u64) (a0) (i:=3) (by decide);have ap9:=Zac (k:=.u64) (zA 4) (i:=0) (by decide) (bits .xor .u64 18446744073709551615 (a0.at 0));have ap10:=Zac (k:=.u64) ((zA 4).put 0 (bits .xor .u64 18446744073709551615 (a0.at 0))) (i:=1) (by decide) (bits .xor .u64 18446744073709551615 (a0.at 1));have ap11:=Zac (k:=.u64) (((zA 4).put 0 (bits .xor .u64 18446744073709551615 (a0.at 0))).put 1 (bits .xor .u64 18446744073709551615 (a0.at 1))) (i:=2) (by decide) (bits .xor .u64 18446744073709551615 (a0.at 2));have ap12:=Zac (k:=.u64) ((((zA 4).put 0 (bits .xor .u64 18446744073709551615 (a0.at 0))).put 1 (bits .xor .u64 18446744073709551615 (a0.at 1))).put 2 (bits .xor .u64 18446744073709551615 (a0.at 2))) (i:=3) (by decide) (bits .xor .u64 18446744073709551615 (a0.at 3));refine Za rfl (by simp [ar1,as2,ar3,as4,ar5,as6,ar7,as8,ap9,ap10,ap11,ap12]; rfl) ?_;refine Zi ?_;obtain rfl:=Option.some.inj hr;simp [Zj,ar1,as2,ar3,as4,ar5,as6,ar7,as8,ap9,ap10,ap11,ap12]
def kp8 : Keep:=fun i=>if i = 1000015 then ⟨[1,3,6],[3,6,8],[]⟩ else if i = 1000017 then ⟨[3,6],[3,6,8],[]⟩ else ⟨[],[],[]⟩
theorem w8 {T : Tab} (hO : T.own = fun _=>[]) (hT18 : T 18 = some G18) (hT26 : T 26 = some G26) (hT27 : T 27 = some G27) (a0 : Tapi_PartialTx) (a1 : Int) (a2 : Int) (x : Tapi_PartialTx) (hr : X8 a0 a1 a2 = some x) : ∃ kp fl n,Zt tt T G kp fl n Tryz.f8 (E8 (a0,a1,a2)) = some (R8 (a0,a1,a2) x):=by
 simp only [E8,R8];refine fnE (kp:=kp8) (w:=true) body8 (by simp) ?_;unfold c8;rw [Tryz.ntmps8];unfold X8 at hr;refine Za rfl (by simp []; rfl) ?_;obtain ⟨_,u33,hr⟩:=bs hr;have u33_0:=ZD u33;have n1_u33_0 : (a0.2.length) * 104≤140737488355328:=by omega
 have n2_u33_0 : a0.2.length≤9223372036854775807:=by omega
 refine Za rfl (by simp [n1_u33_0,n2_u33_0]; rfl) ?_;refine Zb ?_;refine Za rfl (by simp []; rfl) ?_;refine Zj8 hr (fun (s : (List Tapi_Signed))=>match s with | p16=>(⟨(und 1++([.one (.v (.int .i64 a1))]++(und 1++([.ptr 3 0 0 0 8]++(und 2++([.ptr 6 0 0 0 8]++(und 72)))))) : List PV),([(3,⟨0,8,[[.v (.int .u32 a0.1.1.1),.slice .no (List.map Zm a0.1.1.2.1),.slice .no (List.map Zk a0.1.1.2.2.1),.v (.int .u32 a0.1.1.2.2.2),.slice .no (List.map ZB a0.1.2.1),.v (.int .i64 a0.1.2.2.1),.v (.int .i64 a0.1.2.2.2),.ms 8 0 0 (p16.length) 13]],false,false⟩),(6,⟨0,8,[[.v (.int .u32 0),.slice .nil [],.slice .nil [],.v (.int .u32 0),.slice .nil [],.v (.int .i64 0),.v (.int .i64 0),.slice .nil []]],false,false⟩),(8,⟨0,13,List.map ZE p16,false,true⟩)] : Boxes)⟩ : ASt)) (fun (s : (List Tapi_Signed))=>match s with | p16=>Yz a1 a0 p16) ?_ ?_
 ·skip
  rintro p16 hk54
  change Yz a1 a0 p16 = _ at hk54
  simp only [und,List.replicate,List.cons_append,List.nil_append];unfold Yz at hk54;refine Zb ?_;obtain ⟨y55,hy55,hk54⟩:=bs hk54;have ehy55:=Zhz hy55;simp only [E26,R26,nf,nfs] at ehy55;refine Zc0 rfl (kq:=⟨[1,3,6],[3,6,8],[]⟩) rfl (by simp [XA,hO,hT26,ehy55]; rfl) (by simp [hO,hT26,ehy55]; rfl) ?_;refine Zj8 hk54 (fun (s : Int)=>match s with | p18=>(⟨(und 3++([.ptr 3 0 0 0 8]++(und 2++([.ptr 6 0 0 0 8]++(und 72)))) : List PV),([(3,⟨0,8,[[.v (.int .u32 a0.1.1.1),.slice .no (List.map Zm a0.1.1.2.1),.slice .no (List.map Zk a0.1.1.2.2.1),.v (.int .u32 a0.1.1.2.2.2),.slice .no (List.map ZB a0.1.2.1),.v (.int .i64 p18),.v (.int .i64 a0.1.2.2.2),.ms 8 0 0 (p16.length) 13]],false,false⟩),(6,⟨0,8,[[.v (.int .u32 0),.slice .nil [],.slice .nil [],.v (.int .u32 0),.slice .nil [],.v (.int .i64 0),.v (.int .i64 0),.slice .nil []]],false,false⟩),(8,⟨0,13,List.map ZE p16,false,true⟩)] : Boxes)⟩ : ASt)) (fun (s : Int)=>match s with | p18=>ZaR a0 p16 p18) ?_ ?_
  ·skip
   rintro p18 hk57
   change ZaR a0 p16 p18 = _ at hk57
   simp only [und,List.replicate,List.cons_append,List.nil_append];unfold ZaR at hk57;refine Zc0 rfl (kq:=⟨[3,6],[3,6,8],[]⟩) rfl (by simp [XA,]; rfl) (by simp []; rfl) ?_;refine Zi ?_;obtain rfl:=Option.some.inj hk57;simp [Zj,]
  ·skip
   intro J57;by_cases c58 : y55 = 6
   ·skip
    rw [if_pos c58] at hk54;refine Zd (by simp [bV,eq_true c58]) ?_;refine Za rfl (by simp [eq_true c58]; rfl) ?_;exact YR (key:=1000017) (kq:=⟨[3,6],[3,6,8],[]⟩) rfl rfl rfl (by simp [und,List.replicate,eq_true c58]) (J57 (IntKind.i64.wrap (a0.1.2.2.1 + 1)) hk54)
   ·skip
    rw [if_neg c58] at hk54;refine Ze (by simp [bV,c58]) ?_;refine Zh ?_;exact YR (key:=1000017) (kq:=⟨[3,6],[3,6,8],[]⟩) rfl rfl rfl (by simp [und,List.replicate,c58]) (J57 a0.1.2.2.1 hk54)
 ·skip
  intro J54;by_cases c59 : 0 < (a0.2.length : Int)
  ·skip
   have c59N:=c59;try simp at c59N
   first | have c59M : (_ = _) = True:=eq_true c59N | have c59M:=c59N
   rw [if_pos c59] at hr;refine Zd (by simp [bV,c59,c59M]) ?_;refine Zb ?_;obtain ⟨y60,hy60,hr⟩:=bs hr;have ehy60:=Zhz hy60;simp only [E26,R26,nf,nfs] at ehy60;obtain ⟨j61,hj61,hr⟩:=bs hr;obtain ⟨j61a,j61b,j61c⟩:=Yc hj61;refine ZC rfl (by simp [hO,hT26,ehy60,j61a,j61b,j61c,c59,c59M]; first | exact ⟨rfl,rfl⟩ | rfl) (by kernel_rfl) ?_;refine Zb ?_;obtain ⟨y62,hy62,hr⟩:=bs hr;have ehy62:=Zhz hy62;simp only [E26,R26,nf,nfs] at ehy62;refine Za rfl (by simp [hO,hT26,ehy62,c59,c59M]; rfl) ?_;refine Zg ?_;refine Za rfl (by simp [c59,c59M]; rfl) ?_;by_cases c63 : y62 = 0
   ·skip
    rw [if_pos c63] at hr;refine Zp (by simp [bV,c59,c59M,eq_true c63]) ?_;obtain ⟨y64,hy64,hr⟩:=bs hr;have ehy64:=Zhz hy64;simp only [E26,R26,nf,nfs] at ehy64;obtain ⟨x65,hx65,hr⟩:=bs hr;have ghx65:=Zq hx65;refine ZA rfl (by simp [hO,hT26,ehy64,hx65,ghx65,c59,c59M,eq_true c63]; rfl) ?_;simp only [pq,reduceCtorEq];exact YR (key:=1000015) (kq:=⟨[1,3,6],[3,6,8],[]⟩) rfl rfl rfl (by simp [und,List.replicate,c59,c59M,eq_true c63]) (J54 ((a0.2).set j61 (IntKind.i64.wrap (y64 - 1),x65.2.1,x65.2.2)) hr)
   ·skip
    rw [if_neg c63] at hr;refine Zy (by simp [bV,c59,c59M,c63]) ?_;refine Za rfl (by simp [c59,c59M,c63]; rfl) ?_;by_cases c66 : y62 = 1
    ·skip
     rw [if_pos c66] at hr;refine Zp (by simp [bV,c59,c59M,c63,eq_true c66]) ?_;obtain ⟨y67,hy67,hr⟩:=bs hr;have ehy67:=ZsS hy67;simp only [E27,R27,nf,nfs] at ehy67;obtain ⟨x68,hx68,hr⟩:=bs hr;have ghx68:=Zq hx68;refine ZA rfl (by simp [hO,hT27,ehy67,hx68,ghx68,c59,c59M,c63,eq_true c66]; rfl) ?_;simp only [pq,reduceCtorEq];exact YR (key:=1000015) (kq:=⟨[1,3,6],[3,6,8],[]⟩) rfl rfl rfl (by simp [und,List.replicate,c59,c59M,c63,eq_true c66]) (J54 ((a0.2).set j61 (x68.1,x68.2.1,(y67,x68.2.2.2))) hr)
    ·skip
     rw [if_neg c66] at hr;refine Zy (by simp [bV,c59,c59M,c63,c66]) ?_;refine Za rfl (by simp [c59,c59M,c63,c66]; rfl) ?_;by_cases c69 : y62 = 2
     ·skip
      rw [if_pos c69] at hr;refine Zp (by simp [bV,c59,c59M,c63,c66,eq_true c69]) ?_;obtain ⟨y70,hy70,hr⟩:=bs hr;have ehy70:=Zhz hy70;simp only [E26,R26,nf,nfs] at ehy70;obtain ⟨y71,hy71,hr⟩:=bs hr;have ehy71:=Zd4 hy71;simp only [E18,R18,nf,nfs] at ehy71;obtain ⟨x72,hx72,hr⟩:=bs hr;have ghx72:=Zq hx72;refine ZA rfl (by simp [hO,hT26,ehy70,hT18,ehy71,hx72,ghx72,c59,c59M,c63,c66,eq_true c69]; rfl) ?_;simp only [pq,reduceCtorEq];exact YR (key:=1000015) (kq:=⟨[1,3,6],[3,6,8],[]⟩) rfl rfl rfl (by simp [und,List.replicate,c59,c59M,c63,c66,eq_true c69]) (J54 ((a0.2).set j61 (x72.1,y71,x72.2.2)) hr)
     ·skip
      rw [if_neg c69] at hr;refine Zy (by simp [bV,c59,c59M,c63,c66,c69]) ?_;refine Za rfl (by simp [c59,c59M,c63,c66,c69]; rfl) ?_;by_cases c73 : y62 = 3
      ·skip
       rw [if_pos c73] at hr;refine Zp (by simp [bV,c59,c59M,c63,c66,c69,eq_true c73]) ?_;obtain ⟨x74,hx74,hr⟩:=bs hr;have ghx74:=Zq hx74;obtain ⟨_,u75,hr⟩:=bs hr;have u75_0:=ZD u75;have n1_u75_0 : (a0.2.length + 1) * 104≤140737488355328:=by omega
       have n2_u75_0 : a0.2.length + 1≤9223372036854775807:=by omega
       refine Zbk rfl (by simp [hx74,ghx74,n1_u75_0,n2_u75_0,c59,c59M,c63,c66,c69,eq_true c73]; first | exact ⟨rfl,rfl⟩ | rfl) (by kernel_rfl) ?_;simp only [pq,reduceCtorEq];exact YR (key:=1000015) (kq:=⟨[1,3,6],[3,6,8],[]⟩) rfl rfl rfl (by simp [und,List.replicate,c59,c59M,c63,c66,c69,eq_true c73]) (J54 (a0.2++[x74]) hr)
      ·skip
       rw [if_neg c73] at hr;refine Zy (by simp [bV,c59,c59M,c63,c66,c69,c73]) ?_;refine Za rfl (by simp [c59,c59M,c63,c66,c69,c73]; rfl) ?_;by_cases c76 : y62 = 4
       ·skip
        rw [if_pos c76] at hr;refine Zp (by simp [bV,c59,c59M,c63,c66,c69,c73,eq_true c76]) ?_;obtain ⟨y77,hy77,hr⟩:=bs hr;have ehy77:=Zd4 hy77;simp only [E18,R18,nf,nfs] at ehy77;obtain ⟨x78,hx78,hr⟩:=bs hr;have ghx78:=Zq hx78;refine ZA rfl (by simp [hO,hT18,ehy77,hx78,ghx78,c59,c59M,c63,c66,c69,c73,eq_true c76]; rfl) ?_;simp only [pq,reduceCtorEq];exact YR (key:=1000015) (kq:=⟨[1,3,6],[3,6,8],[]⟩) rfl rfl rfl (by simp [und,List.replicate,c59,c59M,c63,c66,c69,c73,eq_true c76]) (J54 ((a0.2).set j61 (x78.1,x78.2.1,(x78.2.2.1,y77))) hr)
       ·skip
        rw [if_neg c76] at hr;refine Zy (by simp [bV,c59,c59M,c63,c66,c69,c73,c76]) ?_;refine ZV ?_;simp only [pq,reduceCtorEq];exact YR (key:=1000015) (kq:=⟨[1,3,6],[3,6,8],[]⟩) rfl rfl rfl (by simp [und,List.replicate,c59,c59M,c63,c66,c69,c73,c76]) (J54 a0.2 hr)
  ·skip
   have c59N:=c59;try simp at c59N
   first | have c59M : (_ = _) = True:=eq_true c59N | have c59M:=c59N
   have c59L : ¬ 0 < a0.2.length:=by omega
   rw [if_neg c59] at hr;refine Ze (by simp [bV,c59,c59M,c59L]) ?_;refine Zh ?_;exact YR (key:=1000015) (kq:=⟨[1,3,6],[3,6,8],[]⟩) rfl rfl rfl (by simp [und,List.replicate,c59,c59M,c59L]) (J54 a0.2 hr)
def kp98 : Keep:=fun i=>⟨[],[],[]⟩
theorem w98 {T : Tab} (a0 : (List Int)) (a1 : (List Int)) (x : Bool) (hr : Zbe a0 a1 = some x) : ∃ kp fl n,Zt tt T G kp fl n Tryz.f98 (E98 (a0,a1)) = some (R98 (a0,a1) x):=by
 simp only [E98,R98];refine fnE (kp:=kp98) (w:=false) body98 (by simp) ?_;unfold c98;rw [Tryz.ntmps98];unfold Zbe at hr;refine Za rfl (by simp []; rfl) ?_;refine Za rfl (by simp []; rfl) ?_;refine Zi ?_;obtain rfl:=Option.some.inj hr;simp [Zj,]
def kp99 : Keep:=fun i=>⟨[],[],[]⟩
theorem w99 {T : Tab} (hO : T.own = fun _=>[]) (hT98 : T 98 = some G98) (a0 : Tapi_Output) (a1 : Tapi_Output) (x : Bool) (hr : Xt a0 a1 = some x) : ∃ kp fl n,Zt tt T G kp fl n Tryz.f99 (E99 (a0,a1)) = some (R99 (a0,a1) x):=by
 simp only [E99,R99];refine fnE (kp:=kp99) (w:=false) body99 (by simp) ?_;unfold c99;rw [Tryz.ntmps99];unfold Xt at hr;refine Za rfl (by simp []; rfl) ?_;by_cases c3 : a0.1 = a1.1
 ·skip
  rw [if_pos] at hr;rotate_left
  ·simp [eq_true c3]
  obtain ⟨z4,hz4,hr⟩:=bs hr;obtain ⟨y5,hy5,hz4⟩:=bs hz4;have ehy5:=ZpN hy5;simp only [E98,R98,nf,nfs] at ehy5;obtain rfl:=Option.some.inj hz4;refine Za rfl (by simp [hO,hT98,ehy5,eq_true c3]; rfl) ?_;refine Zi ?_;obtain rfl:=Option.some.inj hr;simp [Zj,hO,hT98,ehy5,eq_true c3]
 ·skip
  rw [if_neg] at hr;rotate_left
  ·simp [c3]
  obtain ⟨z6,hz6,hr⟩:=bs hr;obtain rfl:=Option.some.inj hz6;refine Za rfl (by simp [c3]; rfl) ?_;refine Zi ?_;obtain rfl:=Option.some.inj hr;simp [Zj,c3]
end Go.Proofs.YtbjhgolpnjokbaaGreat
