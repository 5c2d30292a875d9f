import Derived.Test.YtbjhgolpnjokbaaGreatLfK
import Derived.Test.YtbjhgolpnjokbaaGreatCode
import Derived.Test.YtbjhgolpnjokbaaGreatBl
namespace Go.Proofs.YtbjhgolpnjokbaaGreat
open Go.RowKit
open Go.Av
open Go.Lc
set_option maxRecDepth 100000
set_option linter.unusedSimpArgs false
set_option linter.unusedVariables false
set_option maxHeartbeats 4000000
variable {G : Glob}
def kp113 : Keep:=fun i=>⟨[],[],[]⟩
theorem w113 {T : Tab} (hO : T.own = fun _=>[]) (hT84 : T 84 = some G84) (hT121 : T 121 = some G121) (a0 : (List Int)) (a1 : Int) (x : (List Int)) (hr : YE a0 a1 = some x) : ∃ kp fl n,Zt tt T G kp fl n Tryz.f113 (Zf4 (a0,a1)) = some (Zii (a0,a1) x):=by
 simp only [Zf4,Zii];refine fnE (kp:=kp113) (w:=true) body113 (by simp) ?_;unfold c113;rw [Tryz.ntmps113];unfold YE at hr;refine Za rfl (by simp []; rfl) ?_;refine Zg ?_;refine Za rfl (by simp []; rfl) ?_;by_cases c12 : a1 < 253
 ·skip
  rw [if_pos c12] at hr;refine Zp (by simp [bV,c12]) ?_;obtain ⟨y13,hy13,hr⟩:=bs hr;have ehy13:=Zgo hy13;simp only [Ze6,ZgN,nf,nfs] at ehy13;obtain ⟨y14,hy14,hr⟩:=bs hr;have ehy14:=ZcU hy14;simp only [E84,R84,nf,nfs] at ehy14;refine Za rfl (by simp [hO,hT121,ehy13,hT84,ehy14,c12]; rfl) ?_;refine Zi ?_;obtain rfl:=Option.some.inj hr;simp [Zj,hO,hT121,ehy13,hT84,ehy14,c12]
 ·skip
  rw [if_neg c12] at hr;refine Zy (by simp [bV,c12]) ?_;refine Za rfl (by simp [c12]; rfl) ?_;by_cases c15 : a1 < 65536
  ·skip
   rw [if_pos c15] at hr;refine Zp (by simp [bV,c12,c15]) ?_;obtain ⟨y16,hy16,hr⟩:=bs hr;have ehy16:=Zgo hy16;simp only [Ze6,ZgN,nf,nfs] at ehy16;obtain ⟨y17,hy17,hr⟩:=bs hr;have ehy17:=ZcU hy17;simp only [E84,R84,nf,nfs] at ehy17;obtain ⟨y18,hy18,hr⟩:=bs hr;have ehy18:=ZcU hy18;simp only [E84,R84,nf,nfs] at ehy18;refine Za rfl (by simp [hO,hT121,ehy16,hT84,ehy17,ehy18,c12,c15]; rfl) ?_;refine Zi ?_;obtain rfl:=Option.some.inj hr;simp [Zj,hO,hT121,ehy16,hT84,ehy17,ehy18,c12,c15]
  ·skip
   rw [if_neg c15] at hr;refine Zy (by simp [bV,c12,c15]) ?_;refine Za rfl (by simp [c12,c15]; rfl) ?_;by_cases c19 : a1 < 4294967296
   ·skip
    rw [if_pos c19] at hr;refine Zp (by simp [bV,c12,c15,c19]) ?_;obtain ⟨y20,hy20,hr⟩:=bs hr;have ehy20:=Zgo hy20;simp only [Ze6,ZgN,nf,nfs] at ehy20;obtain ⟨y21,hy21,hr⟩:=bs hr;have ehy21:=ZcU hy21;simp only [E84,R84,nf,nfs] at ehy21;obtain ⟨y22,hy22,hr⟩:=bs hr;have ehy22:=ZcU hy22;simp only [E84,R84,nf,nfs] at ehy22;refine Za rfl (by simp [hO,hT121,ehy20,hT84,ehy21,ehy22,c12,c15,c19]; rfl) ?_;refine Zi ?_;obtain rfl:=Option.some.inj hr;simp [Zj,hO,hT121,ehy20,hT84,ehy21,ehy22,c12,c15,c19]
   ·skip
    rw [if_neg c19] at hr;refine Zy (by simp [bV,c12,c15,c19]) ?_;refine ZV ?_;simp only [pq,reduceCtorEq];obtain ⟨y23,hy23,hr⟩:=bs hr;have ehy23:=Zgo hy23;simp only [Ze6,ZgN,nf,nfs] at ehy23;obtain ⟨y24,hy24,hr⟩:=bs hr;have ehy24:=ZcU hy24;simp only [E84,R84,nf,nfs] at ehy24;obtain ⟨y25,hy25,hr⟩:=bs hr;have ehy25:=ZcU hy25;simp only [E84,R84,nf,nfs] at ehy25;refine Za rfl (by simp [hO,hT121,ehy23,hT84,ehy24,ehy25,c12,c15,c19]; rfl) ?_;refine Zi ?_;obtain rfl:=Option.some.inj hr;simp [Zj,hO,hT121,ehy23,hT84,ehy24,ehy25,c12,c15,c19]
def kp122 : Keep:=fun i=>⟨[],[],[]⟩
theorem w122 {T : Tab} (hO : T.own = fun _=>[]) (hT84 : T 84 = some G84) (a0 : (List Int)) (a1 : (Arr 32)) (x : (List Int)) (hr : Y5 a0 a1 = some x) : ∃ kp fl n,Zt tt T G kp fl n Tryz.f122 (Zij (a0,a1)) = some (Zlp (a0,a1) x):=by
 simp only [Zij,Zlp];refine fnE (kp:=kp122) (w:=true) body122 (by simp) ?_;unfold c122;rw [Tryz.ntmps122];unfold Y5 at hr;refine Za rfl (by simp []; rfl) ?_;obtain ⟨y2,hy2,hr⟩:=bs hr;have ehy2:=ZcU hy2;simp only [E84,R84,nf,nfs] at ehy2;refine Za rfl (by simp [hO,hT84,ehy2]; rfl) ?_;refine Zi ?_;obtain rfl:=Option.some.inj hr;simp [Zj,hO,hT84,ehy2]
def kp114 : Keep:=fun i=>⟨[],[],[]⟩
theorem w114 {T : Tab} (hO : T.own = fun _=>[]) (hT112 : T 112 = some G112) (hT122 : T 122 = some G122) (a0 : Tapi_OutPoint) (x : (List Int)) (hr : ZaB a0 = some x) : ∃ kp fl n,Zt tt T G kp fl n Tryz.f114 (Zik a0) = some (Zlq a0 x):=by
 simp only [Zik,Zlq];refine fnE (kp:=kp114) (w:=true) body114 (by simp) ?_;unfold c114;rw [Tryz.ntmps114];unfold ZaB at hr;refine Za rfl (by simp []; rfl) ?_;obtain ⟨y3,hy3,hr⟩:=bs hr;have ehy3:=Zr6 hy3;simp only [Zij,Zlp,nf,nfs] at ehy3;obtain ⟨y4,hy4,hr⟩:=bs hr;have ehy4:=ZjD hy4;simp only [Zf3,Zih,nf,nfs] at ehy4;refine ZC rfl (by simp [hO,hT122,ehy3,hT112,ehy4]; first | exact ⟨rfl,rfl⟩ | rfl) (by kernel_rfl) ?_;refine Zi ?_;obtain rfl:=Option.some.inj hr;simp [Zj,hO,hT122,ehy3,hT112,ehy4]
def kp116 : Keep:=fun i=>⟨[],[],[]⟩
theorem w116 {T : Tab} (hO : T.own = fun _=>[]) (hT84 : T 84 = some G84) (hT113 : T 113 = some G113) (a0 : (List Int)) (a1 : (List Int)) (x : (List Int)) (hr : YN a0 a1 = some x) : ∃ kp fl n,Zt tt T G kp fl n Tryz.f116 (Zhe (a0,a1)) = some (Zkr (a0,a1) x):=by
 simp only [Zhe,Zkr];refine fnE (kp:=kp116) (w:=true) body116 (by simp) ?_;unfold c116;rw [Tryz.ntmps116];unfold YN at hr;refine Za rfl (by simp []; rfl) ?_;obtain ⟨y3,hy3,hr⟩:=bs hr;have ehy3:=ZjE hy3;simp only [Zf4,Zii,nf,nfs] at ehy3;obtain ⟨y4,hy4,hr⟩:=bs hr;have ehy4:=ZcU hy4;simp only [E84,R84,nf,nfs] at ehy4;refine Za rfl (by simp [hO,hT113,ehy3,hT84,ehy4]; rfl) ?_;refine Zi ?_;obtain rfl:=Option.some.inj hr;simp [Zj,hO,hT113,ehy3,hT84,ehy4]
def kp123 : Keep:=fun i=>⟨[],[],[]⟩
theorem w123 {T : Tab} (hO : T.own = fun _=>[]) (hT84 : T 84 = some G84) (hT121 : T 121 = some G121) (a0 : (List Int)) (a1 : Int) (x : (List Int)) (hr : Xk a0 a1 = some x) : ∃ kp fl n,Zt tt T G kp fl n Tryz.f123 (Zil (a0,a1)) = some (Zlr (a0,a1) x):=by
 simp only [Zil,Zlr];refine fnE (kp:=kp123) (w:=true) body123 (by simp) ?_;unfold c123;rw [Tryz.ntmps123];unfold Xk at hr;refine Za rfl (by simp []; rfl) ?_;obtain ⟨y3,hy3,hr⟩:=bs hr;have ehy3:=Zgo hy3;simp only [Ze6,ZgN,nf,nfs] at ehy3;obtain ⟨y4,hy4,hr⟩:=bs hr;have ehy4:=ZcU hy4;simp only [E84,R84,nf,nfs] at ehy4;refine Za rfl (by simp [hO,hT121,ehy3,hT84,ehy4]; rfl) ?_;refine Zi ?_;obtain rfl:=Option.some.inj hr;simp [Zj,hO,hT121,ehy3,hT84,ehy4]
def kp115 : Keep:=fun i=>⟨[],[],[]⟩
theorem w115 {T : Tab} (hO : T.own = fun _=>[]) (hT116 : T 116 = some G116) (hT123 : T 123 = some G123) (a0 : Tapi_Output) (x : (List Int)) (hr : ZbP a0 = some x) : ∃ kp fl n,Zt tt T G kp fl n Tryz.f115 (Zim a0) = some (Zls a0 x):=by
 simp only [Zim,Zls];refine fnE (kp:=kp115) (w:=true) body115 (by simp) ?_;unfold c115;rw [Tryz.ntmps115];unfold ZbP at hr;refine Za rfl (by simp []; rfl) ?_;obtain ⟨y3,hy3,hr⟩:=bs hr;have ehy3:=Zr8 hy3;simp only [Zil,Zlr,nf,nfs] at ehy3;obtain ⟨y4,hy4,hr⟩:=bs hr;have ehy4:=ZnW hy4;simp only [Zhe,Zkr,nf,nfs] at ehy4;refine ZC rfl (by simp [hO,hT123,ehy3,hT116,ehy4]; first | exact ⟨rfl,rfl⟩ | rfl) (by kernel_rfl) ?_;refine Zi ?_;obtain rfl:=Option.some.inj hr;simp [Zj,hO,hT123,ehy3,hT116,ehy4]
def kp105 : Keep:=fun i=>if i = 4 then ⟨[1,2,5,24,25,26],[2,900005],[(5,none,900005,0),(5,none,900005,1)]⟩ else if i = 10 then ⟨[1,2,5,46,47,48],[2,44],[]⟩ else if i = 1000026 then ⟨[5],[900005],[]⟩ else if i = 16 then ⟨[1,5,62,63,64],[900005],[(5,none,900005,0),(5,none,900005,1)]⟩ else if i = 21 then ⟨[1,5,62,63,64,77,78,79],[900005],[(5,none,900005,0),(5,none,900005,1)]⟩ else ⟨[],[],[]⟩
theorem w105 {T : Tab} (hO : T.own = fun _=>[]) (hT112 : T 112 = some G112) (hT113 : T 113 = some G113) (hT114 : T 114 = some G114) (hT115 : T 115 = some G115) (hT116 : T 116 = some G116) (a0 : Tapi_Tx) (a1 : Bool) (x : (List Int)) (hr : Zae a0 a1 = some x) : ∃ kp fl n,Zt tt T G kp fl n Tryz.f105 (Zin (a0,a1)) = some (Zlt (a0,a1) x):=by
 simp only [Zin,Zlt];refine fnE (kp:=kp105) (w:=true) body105 (by simp) ?_;unfold c105;rw [Tryz.ntmps105];unfold Zae at hr;refine Za rfl (by simp []; rfl) ?_;obtain ⟨y95,hy95,hr⟩:=bs hr;have ehy95:=ZjD hy95;simp only [Zf3,Zih,nf,nfs] at ehy95;refine Za rfl (by simp [hO,hT112,ehy95]; rfl) ?_;obtain ⟨y96,hy96,hr⟩:=bs hr;have ehy96:=ZjE hy96;simp only [Zf4,Zii,nf,nfs] at ehy96;refine Za rfl (by simp [hO,hT113,ehy96]; rfl) ?_;refine Zb ?_;refine Za rfl (by simp []; rfl) ?_;refine Zg ?_;refine ZJ (kq:=⟨[1,2,5,24,25,26],[2,900005],[(5,none,900005,0),(5,none,900005,1)]⟩) (H:=fun (s : Int×(List Int))=>match s with | (p13,p14)=>(⟨(und 1++([.one (.v (.bool a1)),.ptr 2 0 0 0 4]++(und 2++([.one (.ms 900005 0 0 (p14.length) 1)]++(und 18++([.one (.slice .no (List.map Zm a0.2.1)),.one (.v (.int .i64 (a0.2.1.length : Int))),.one (.v (.int .i64 p13))]++(und 62)))))) : List PV),([(2,⟨0,4,[[.v (.int .u32 a0.1),.slice .no (List.map Zm a0.2.1),.slice .no (List.map Zk a0.2.2.1),.v (.int .u32 a0.2.2.2)]],false,false⟩),(900005,⟨0,1,Zl .u8 p14,false,true⟩)] : Boxes)⟩ : ASt)) (by kernel_rfl) hr (by simp [und,List.replicate,]) ?_;rintro ⟨p13,p14⟩ x104r hr104
 simp only [Zbt] at hr104;unfold b105_1;simp only [und,List.replicate,List.cons_append,List.nil_append];refine Za rfl (by simp []; rfl) ?_;by_cases c105 : p13 < (a0.2.1.length : Int)
 ·skip
  have c105N:=c105;try simp at c105N
  first | have c105M : (_ = _) = True:=eq_true c105N | have c105M:=c105N
  rw [if_pos] at hr104;rotate_left
  ·simp [c105,c105M]
  refine Zd (by simp [bV,c105,c105M]) ?_;refine Zh ?_;refine Zg ?_;obtain ⟨x106,hx106,hr104⟩:=bs hr104;obtain ⟨hx106a,hx106b⟩:=Zz hx106;have hx106c:=Zq hx106b;refine Za rfl (by simp [hx106a,hx106b,hx106c,c105,c105M]; rfl) ?_;obtain ⟨y107,hy107,hr104⟩:=bs hr104;have ehy107:=Zr7 hy107;simp only [Zik,Zlq,nf,nfs] at ehy107;obtain ⟨_,u108,hr104⟩:=bs hr104;have u108_0:=ZD u108;have n1_u108_0 : p14.length + y107.length≤140737488355328:=by omega
  have n2_u108_0 : p14.length + y107.length≤9223372036854775807:=by omega
  obtain ⟨y109,hy109,hr104⟩:=bs hr104;have ehy109:=ZjD hy109;simp only [Zf3,Zih,nf,nfs] at ehy109;refine Zbk rfl (by simp [hO,hT114,ehy107,n1_u108_0,n2_u108_0,hT112,ehy109,c105,c105M]; first | exact ⟨rfl,rfl⟩ | rfl) (by kernel_rfl) ?_;simp only [pq,reduceCtorEq];refine ZA rfl (by simp [c105,c105M]; rfl) ?_;obtain rfl:=Option.some.inj hr104;simp only [pq,reduceCtorEq];simp [und,List.replicate,Nat.add_assoc,c105,c105M]
 ·skip
  have c105N:=c105;try simp at c105N
  first | have c105M : (_ = _) = True:=eq_true c105N | have c105M:=c105N
  rw [if_neg] at hr104;rotate_left
  ·simp [c105,c105M]
  refine Ze (by simp [bV,c105,c105M]) ?_;refine Zr ?_;obtain ⟨r110,q110,rfl⟩:=ms hr104;simp only [pq,reduceCtorEq];rintro rfl
  try simp only [pq,reduceCtorEq]
  unfold ZcC at q110;obtain ⟨y111,hy111,q110⟩:=bs q110;have ehy111:=ZjE hy111;simp only [Zf4,Zii,nf,nfs] at ehy111;refine Za rfl (by simp [hO,hT113,ehy111,c105,c105M]; rfl) ?_;refine Zb ?_;refine Za rfl (by simp [c105,c105M]; rfl) ?_;refine Zg ?_;refine ZJ (kq:=⟨[1,2,5,46,47,48],[2,44],[]⟩) (H:=fun (s : Int×(List Int))=>match s with | (p28,p29)=>(⟨(und 1++([.one (.v (.bool a1)),.ptr 2 0 0 0 4]++(und 2++([.one (.ms 44 0 0 (p29.length) 1)]++(und 40++([.one (.slice .no (List.map Zk a0.2.2.1)),.one (.v (.int .i64 (a0.2.2.1.length : Int))),.one (.v (.int .i64 p28))]++(und 40)))))) : List PV),([(2,⟨0,4,[[.v (.int .u32 a0.1),.slice .no (List.map Zm a0.2.1),.slice .no (List.map Zk a0.2.2.1),.v (.int .u32 a0.2.2.2)]],false,false⟩),(44,⟨0,1,Zl .u8 p29,false,true⟩)] : Boxes)⟩ : ASt)) (by kernel_rfl) q110 (by simp [und,List.replicate,c105,c105M]) ?_;rintro ⟨p28,p29⟩ x118r hr118
  simp only [Zbs] at hr118;unfold b105_2;simp only [und,List.replicate,List.cons_append,List.nil_append];refine Za rfl (by simp [c105,c105M]; rfl) ?_;by_cases c119 : p28 < (a0.2.2.1.length : Int)
  ·skip
   have c119N:=c119;try simp at c119N
   first | have c119M : (_ = _) = True:=eq_true c119N | have c119M:=c119N
   rw [if_pos] at hr118;rotate_left
   ·simp [c105,c105M,c119,c119M]
   refine Zd (by simp [bV,c105,c105M,c119,c119M]) ?_;refine Zh ?_;refine Zg ?_;obtain ⟨x120,hx120,hr118⟩:=bs hr118;obtain ⟨hx120a,hx120b⟩:=Zz hx120;have hx120c:=Zq hx120b;refine Za rfl (by simp [hx120a,hx120b,hx120c,c105,c105M,c119,c119M]; rfl) ?_;obtain ⟨y121,hy121,hr118⟩:=bs hr118;have ehy121:=Zr9 hy121;simp only [Zim,Zls,nf,nfs] at ehy121;obtain ⟨_,u122,hr118⟩:=bs hr118;have u122_0:=ZD u122;have n1_u122_0 : p29.length + y121.length≤140737488355328:=by omega
   have n2_u122_0 : p29.length + y121.length≤9223372036854775807:=by omega
   refine ZA rfl (by simp [hO,hT115,ehy121,n1_u122_0,n2_u122_0,c105,c105M,c119,c119M]; rfl) ?_;simp only [pq,reduceCtorEq];refine ZA rfl (by simp [c105,c105M,c119,c119M]; rfl) ?_;obtain rfl:=Option.some.inj hr118;simp only [pq,reduceCtorEq];simp [und,List.replicate,Nat.add_assoc,c105,c105M,c119,c119M]
  ·skip
   have c119N:=c119;try simp at c119N
   first | have c119M : (_ = _) = True:=eq_true c119N | have c119M:=c119N
   rw [if_neg] at hr118;rotate_left
   ·simp [c105,c105M,c119,c119M]
   refine Ze (by simp [bV,c105,c105M,c119,c119M]) ?_;refine Zr ?_;obtain ⟨r123,q123,rfl⟩:=ms hr118;simp only [pq,reduceCtorEq];rintro rfl
   try simp only [pq,reduceCtorEq]
   unfold ZcB at q123;obtain ⟨y124,hy124,q123⟩:=bs q123;have ehy124:=ZjD hy124;simp only [Zf3,Zih,nf,nfs] at ehy124;refine Za rfl (by simp [hO,hT112,ehy124,c105,c105M,c119,c119M]; rfl) ?_;refine Zb ?_;refine Za rfl (by simp [c105,c105M,c119,c119M]; rfl) ?_;refine Zg ?_;refine Zk5 q123 (.exit 4) (fun (s : (List Int))=>match s with | p61=>(⟨(und 5++([.one (.ms 900005 0 0 (p61.length) 1)]++(und 83)) : List PV),([(900005,⟨0,1,Zl .u8 p61,false,true⟩)] : Boxes)⟩ : ASt)) (fun (s : (List Int))=>match s with | p61=>Xl p61) ?_ ?_
   ·skip
    rintro p61 hk142
    change Xl p61 = _ at hk142
    simp only [pq,reduceCtorEq];simp only [und,List.replicate,List.cons_append,List.nil_append];unfold Xl at hk142;refine Zc0 rfl (kq:=⟨[5],[900005],[]⟩) rfl (by simp [XA,c105,c105M,c119,c119M]; rfl) (by simp [c105,c105M,c119,c119M]; rfl) ?_;refine Zi ?_;obtain rfl:=Option.some.inj hk142;simp [Zj,c105,c105M,c119,c119M,c105N,c119N]
   ·skip
    intro J142;simp only [pq,reduceCtorEq] at J142;refine ZJ (kq:=⟨[1,5,62,63,64],[900005],[(5,none,900005,0),(5,none,900005,1)]⟩) (H:=fun (s : Int×(List Int))=>match s with | (p60,p61)=>(⟨(und 1++([.one (.v (.bool a1))]++(und 3++([.one (.ms 900005 0 0 (p61.length) 1)]++(und 56++([.one (.slice .no (List.map Zm a0.2.1)),.one (.v (.int .i64 (a0.2.1.length : Int))),.one (.v (.int .i64 p60))]++(und 24)))))) : List PV),([(900005,⟨0,1,Zl .u8 p61,false,true⟩)] : Boxes)⟩ : ASt)) (by kernel_rfl) q123 (by simp [und,List.replicate,c105,c105M,c119,c119M]) ?_;rintro ⟨p60,p61⟩ x143r hr143
    simp only [XL] at hr143;unfold b105_3;simp only [und,List.replicate,List.cons_append,List.nil_append];refine Za rfl (by simp [c105,c105M,c119,c119M]; rfl) ?_;by_cases c144 : p60 < (a0.2.1.length : Int)
    ·skip
     have c144N:=c144;try simp at c144N
     first | have c144M : (_ = _) = True:=eq_true c144N | have c144M:=c144N
     rw [if_pos] at hr143;rotate_left
     ·simp [c105,c105M,c119,c119M,c144,c144M]
     refine Zd (by simp [bV,c105,c105M,c119,c119M,c144,c144M]) ?_;refine Zh ?_;refine Zg ?_;obtain ⟨x145,hx145,hr143⟩:=bs hr143;obtain ⟨hx145a,hx145b⟩:=Zz hx145;have hx145c:=Zq hx145b;refine Za rfl (by simp [hx145a,hx145b,hx145c,c105,c105M,c119,c119M,c144,c144M]; rfl) ?_;refine Zb ?_;refine Za rfl (by simp [c105,c105M,c119,c119M,c144,c144M]; rfl) ?_;by_cases c146 : a1 = true
     ·skip
      rw [if_neg (not_not_intro c146)] at hr143;refine Ze (by simp [bV,c105,c105M,c119,c119M,c144,c144M,c146]) ?_;refine Zh ?_;obtain ⟨y147,hy147,hr143⟩:=bs hr143;have ehy147:=ZjE hy147;simp only [Zf4,Zii,nf,nfs] at ehy147;refine Za rfl (by simp [hO,hT113,ehy147,c105,c105M,c119,c119M,c144,c144M,c146]; rfl) ?_;refine Za rfl (by simp [c105,c105M,c119,c119M,c144,c144M,c146]; rfl) ?_;refine ZaW ?_;refine ZJ (kq:=⟨[1,5,62,63,64,77,78,79],[900005],[(5,none,900005,0),(5,none,900005,1)]⟩) (H:=fun (s : Int×(List Int))=>match s with | (p82,p83)=>(⟨(und 1++([.one (.v (.bool a1))]++(und 3++([.one (.ms 900005 0 0 (p83.length) 1)]++(und 56++([.one (.slice .no (List.map Zm a0.2.1)),.one (.v (.int .i64 (a0.2.1.length : Int))),.one (.v (.int .i64 p60))]++(und 12++([.one (.slice .no (List.map Yd x145.2.2)),.one (.v (.int .i64 (x145.2.2.length : Int))),.one (.v (.int .i64 p82))]++(und 9)))))))) : List PV),([(900005,⟨0,1,Zl .u8 p83,false,true⟩)] : Boxes)⟩ : ASt)) (by kernel_rfl) hr143 (by simp [und,List.replicate,c105,c105M,c119,c119M,c144,c144M,c146]) ?_;rintro ⟨p82,p83⟩ x153r hr153
      simp only [Zan] at hr153;unfold b105_4;simp only [und,List.replicate,List.cons_append,List.nil_append];refine Za rfl (by simp [c105,c105M,c119,c119M,c144,c144M,c146]; rfl) ?_;by_cases c154 : p82 < (x145.2.2.length : Int)
      ·skip
       have c154N:=c154;try simp at c154N
       first | have c154M : (_ = _) = True:=eq_true c154N | have c154M:=c154N
       rw [if_pos] at hr153;rotate_left
       ·simp [c105,c105M,c119,c119M,c144,c144M,c146,c154,c154M]
       refine Zd (by simp [bV,c105,c105M,c119,c119M,c144,c144M,c146,c154,c154M]) ?_;refine Zh ?_;refine Zg ?_;obtain ⟨x155,hx155,hr153⟩:=bs hr153;obtain ⟨hx155a,hx155b⟩:=Zz hx155;have hx155c:=Zq hx155b;refine Za rfl (by simp [hx155a,hx155b,hx155c,c105,c105M,c119,c119M,c144,c144M,c146,c154,c154M]; rfl) ?_;obtain ⟨y156,hy156,hr153⟩:=bs hr153;have ehy156:=ZnW hy156;simp only [Zhe,Zkr,nf,nfs] at ehy156;refine ZA rfl (by simp [hO,hT116,ehy156,c105,c105M,c119,c119M,c144,c144M,c146,c154,c154M]; rfl) ?_;simp only [pq,reduceCtorEq];refine ZA rfl (by simp [c105,c105M,c119,c119M,c144,c144M,c146,c154,c154M]; rfl) ?_;obtain rfl:=Option.some.inj hr153;simp only [pq,reduceCtorEq];simp [und,List.replicate,Nat.add_assoc,c105,c105M,c119,c119M,c144,c144M,c146,c154,c154M]
      ·skip
       have c154N:=c154;try simp at c154N
       first | have c154M : (_ = _) = True:=eq_true c154N | have c154M:=c154N
       rw [if_neg] at hr153;rotate_left
       ·simp [c105,c105M,c119,c119M,c144,c144M,c146,c154,c154M]
       refine Ze (by simp [bV,c105,c105M,c119,c119M,c144,c144M,c146,c154,c154M]) ?_;refine Zr ?_;obtain ⟨r157,q157,rfl⟩:=ms hr153;simp only [pq,reduceCtorEq];rintro rfl
       try simp only [pq,reduceCtorEq]
       unfold Zer at q157;refine ZA rfl (by simp [c105,c105M,c119,c119M,c144,c144M,c146,c154,c154M]; rfl) ?_;obtain rfl:=Option.some.inj q157;simp only [pq,reduceCtorEq];simp [und,List.replicate,Nat.add_assoc,c105,c105M,c119,c119M,c144,c144M,c146,c154,c154M]
     ·skip
      rw [if_pos c146] at hr143;refine Zd (by simp [bV,c105,c105M,c119,c119M,c144,c144M,c146]) ?_;refine Zr ?_;obtain ⟨r158,q158,rfl⟩:=ms hr143;simp only [pq,reduceCtorEq];rintro rfl
      try simp only [pq,reduceCtorEq]
      exact YR (key:=1000026) (kq:=⟨[5],[900005],[]⟩) rfl rfl rfl (by simp [und,List.replicate,c105,c105M,c119,c119M,c144,c144M,c146]) (J142 p61 q158)
    ·skip
     have c144N:=c144;try simp at c144N
     first | have c144M : (_ = _) = True:=eq_true c144N | have c144M:=c144N
     rw [if_neg] at hr143;rotate_left
     ·simp [c105,c105M,c119,c119M,c144,c144M]
     refine Ze (by simp [bV,c105,c105M,c119,c119M,c144,c144M]) ?_;refine Zr ?_;obtain ⟨r159,q159,rfl⟩:=ms hr143;simp only [pq,reduceCtorEq];rintro rfl
     try simp only [pq,reduceCtorEq]
     exact YR (key:=1000026) (kq:=⟨[5],[900005],[]⟩) rfl rfl rfl (by simp [und,List.replicate,c105,c105M,c119,c119M,c144,c144M]) (J142 p61 q159)
def kp92 : Keep:=fun i=>if i = 4 then ⟨[1,20,21,22],[1],[]⟩ else if i = 10 then ⟨[1,37,38,39],[1],[]⟩ else if i = 15 then ⟨[1,37,38,39,48,49,50],[1],[]⟩ else ⟨[],[],[]⟩
theorem w92 {T : Tab} (hO : T.own = fun _=>[]) (hT105 : T 105 = some G105) (a0 : Tapi_Tx) (x : Bool) (hr : Zbd a0 = some x) : ∃ kp fl n,Zt tt T G kp fl n Tryz.f92 (E92 a0) = some (R92 a0 x):=by
 simp only [E92,R92];refine fnE (kp:=kp92) (w:=false) body92 (by simp) ?_;unfold c92;rw [Tryz.ntmps92];unfold Zbd at hr;refine Za rfl (by simp []; rfl) ?_;refine Zb ?_;by_cases c35 : 64 < (a0.2.1.length : Int)
 ·skip
  have c35N:=c35;try simp at c35N
  first | have c35M : (_ = _) = True:=eq_true c35N | have c35M:=c35N
  refine Za rfl (by simp [c35,c35M]; rfl) ?_;rw [if_pos] at hr;rotate_left
  ·simp [c35,c35M]
  refine Zd (by simp [bV,c35,c35M]) ?_;refine Zb ?_;refine Za rfl (by simp [c35,c35M]; rfl) ?_;refine Zn ?_;obtain rfl:=Option.some.inj hr;simp [Zj,c35,c35M,c35N]
 ·skip
  have c35N:=c35;try simp at c35N
  first | have c35M : (_ = _) = True:=eq_true c35N | have c35M:=c35N
  refine Za rfl (by simp [c35,c35M]; rfl) ?_;by_cases c36 : 64 < (a0.2.2.1.length : Int)
  ·skip
   have c36N:=c36;try simp at c36N
   first | have c36M : (_ = _) = True:=eq_true c36N | have c36M:=c36N
   rw [if_pos] at hr;rotate_left
   ·simp [c35,c35M,c36,c36M]
   refine Zd (by simp [bV,c35,c35M,c36,c36M]) ?_;refine Zb ?_;refine Za rfl (by simp [c35,c35M,c36,c36M]; rfl) ?_;refine Zn ?_;obtain rfl:=Option.some.inj hr;simp [Zj,c35,c35M,c36,c36M,c35N,c36N]
  ·skip
   have c36N:=c36;try simp at c36N
   first | have c36M : (_ = _) = True:=eq_true c36N | have c36M:=c36N
   rw [if_neg] at hr;rotate_left
   ·simp [c35,c35M,c36,c36M]
   refine Ze (by simp [bV,c35,c35M,c36,c36M]) ?_;refine Zh ?_;refine Zb ?_;refine Za rfl (by simp [c35,c35M,c36,c36M]; rfl) ?_;refine Zg ?_;refine ZJ (kq:=⟨[1,20,21,22],[1],[]⟩) (H:=fun (s : Int)=>match s with | p4=>(⟨(und 1++([.ptr 1 0 0 0 4]++(und 18++([.one (.slice .no (List.map Zk a0.2.2.1)),.one (.v (.int .i64 (a0.2.2.1.length : Int))),.one (.v (.int .i64 p4))]++(und 40)))) : List PV),([(1,⟨0,4,[[.v (.int .u32 a0.1),.slice .no (List.map Zm a0.2.1),.slice .no (List.map Zk a0.2.2.1),.v (.int .u32 a0.2.2.2)]],false,false⟩)] : Boxes)⟩ : ASt)) (by kernel_rfl) hr (by simp [und,List.replicate,c35,c35M,c36,c36M]) ?_;rintro p4 x43r hr43
   simp only [Zbm] at hr43;unfold b92_1;simp only [und,List.replicate,List.cons_append,List.nil_append];refine Za rfl (by simp [c35,c35M,c36,c36M]; rfl) ?_;by_cases c44 : p4 < (a0.2.2.1.length : Int)
   ·skip
    have c44N:=c44;try simp at c44N
    first | have c44M : (_ = _) = True:=eq_true c44N | have c44M:=c44N
    rw [if_pos] at hr43;rotate_left
    ·simp [c35,c35M,c36,c36M,c44,c44M]
    refine Zd (by simp [bV,c35,c35M,c36,c36M,c44,c44M]) ?_;refine Zh ?_;refine Zg ?_;obtain ⟨x45,hx45,hr43⟩:=bs hr43;obtain ⟨hx45a,hx45b⟩:=Zz hx45;have hx45c:=Zq hx45b;refine Za rfl (by simp [hx45a,hx45b,hx45c,c35,c35M,c36,c36M,c44,c44M]; rfl) ?_;by_cases c46 : x45.1 < 0
    ·skip
     refine Za rfl (by simp [c35,c35M,c36,c36M,c44,c44M,c46]; rfl) ?_;rw [if_pos] at hr43;rotate_left
     ·simp [c35,c35M,c36,c36M,c44,c44M,c46]
     refine Zp (by simp [bV,c35,c35M,c36,c36M,c44,c44M,c46]) ?_;refine Za rfl (by simp [c35,c35M,c36,c36M,c44,c44M,c46]; rfl) ?_;refine Zi ?_;obtain rfl:=Option.some.inj hr43;simp only [pq,reduceCtorEq];rintro rfl
     simp [Zj,c35,c35M,c36,c36M,c44,c44M,c46,c35N,c36N,c44N]
    ·skip
     refine Za rfl (by simp [c35,c35M,c36,c36M,c44,c44M,c46]; rfl) ?_;by_cases c47 : 520 < (x45.2.length : Int)
     ·skip
      have c47N:=c47;try simp at c47N
      first | have c47M : (_ = _) = True:=eq_true c47N | have c47M:=c47N
      rw [if_pos] at hr43;rotate_left
      ·simp [c35,c35M,c36,c36M,c44,c44M,c46,c47,c47M]
      refine Zp (by simp [bV,c35,c35M,c36,c36M,c44,c44M,c46,c47,c47M]) ?_;refine Za rfl (by simp [c35,c35M,c36,c36M,c44,c44M,c46,c47,c47M]; rfl) ?_;refine Zi ?_;obtain rfl:=Option.some.inj hr43;simp only [pq,reduceCtorEq];rintro rfl
      simp [Zj,c35,c35M,c36,c36M,c44,c44M,c46,c47,c47M,c35N,c36N,c44N,c47N]
     ·skip
      have c47N:=c47;try simp at c47N
      first | have c47M : (_ = _) = True:=eq_true c47N | have c47M:=c47N
      rw [if_neg] at hr43;rotate_left
      ·simp [c35,c35M,c36,c36M,c44,c44M,c46,c47,c47M]
      refine Zy (by simp [bV,c35,c35M,c36,c36M,c44,c44M,c46,c47,c47M]) ?_;refine ZV ?_;simp only [pq,reduceCtorEq];refine ZA rfl (by simp [c35,c35M,c36,c36M,c44,c44M,c46,c47,c47M]; rfl) ?_;obtain rfl:=Option.some.inj hr43;simp only [pq,reduceCtorEq];simp [und,List.replicate,Nat.add_assoc,c35,c35M,c36,c36M,c44,c44M,c46,c47,c47M]
   ·skip
    have c44N:=c44;try simp at c44N
    first | have c44M : (_ = _) = True:=eq_true c44N | have c44M:=c44N
    rw [if_neg] at hr43;rotate_left
    ·simp [c35,c35M,c36,c36M,c44,c44M]
    refine Ze (by simp [bV,c35,c35M,c36,c36M,c44,c44M]) ?_;refine Zr ?_;obtain ⟨r48,q48,rfl⟩:=ms hr43;simp only [pq,reduceCtorEq];rintro rfl
    try simp only [pq,reduceCtorEq]
    unfold ZdF at q48;refine Zb ?_;refine Za rfl (by simp [c35,c35M,c36,c36M,c44,c44M]; rfl) ?_;refine Zg ?_;refine ZJ (kq:=⟨[1,37,38,39],[1],[]⟩) (H:=fun (s : Int)=>match s with | p19=>(⟨(und 1++([.ptr 1 0 0 0 4]++(und 35++([.one (.slice .no (List.map Zm a0.2.1)),.one (.v (.int .i64 (a0.2.1.length : Int))),.one (.v (.int .i64 p19))]++(und 23)))) : List PV),([(1,⟨0,4,[[.v (.int .u32 a0.1),.slice .no (List.map Zm a0.2.1),.slice .no (List.map Zk a0.2.2.1),.v (.int .u32 a0.2.2.2)]],false,false⟩)] : Boxes)⟩ : ASt)) (by kernel_rfl) q48 (by simp [und,List.replicate,c35,c35M,c36,c36M,c44,c44M]) ?_;rintro p19 x64r hr64
    simp only [Zbl] at hr64;unfold b92_2;simp only [und,List.replicate,List.cons_append,List.nil_append];refine Za rfl (by simp [c35,c35M,c36,c36M,c44,c44M]; rfl) ?_;by_cases c65 : p19 < (a0.2.1.length : Int)
    ·skip
     have c65N:=c65;try simp at c65N
     first | have c65M : (_ = _) = True:=eq_true c65N | have c65M:=c65N
     rw [if_pos] at hr64;rotate_left
     ·simp [c35,c35M,c36,c36M,c44,c44M,c65,c65M]
     refine Zd (by simp [bV,c35,c35M,c36,c36M,c44,c44M,c65,c65M]) ?_;refine Zh ?_;refine Zg ?_;obtain ⟨x66,hx66,hr64⟩:=bs hr64;obtain ⟨hx66a,hx66b⟩:=Zz hx66;have hx66c:=Zq hx66b;refine Za rfl (by simp [hx66a,hx66b,hx66c,c35,c35M,c36,c36M,c44,c44M,c65,c65M]; rfl) ?_;refine Zb ?_;refine Za rfl (by simp [c35,c35M,c36,c36M,c44,c44M,c65,c65M]; rfl) ?_;by_cases c67 : 32 < (x66.2.2.length : Int)
     ·skip
      have c67N:=c67;try simp at c67N
      first | have c67M : (_ = _) = True:=eq_true c67N | have c67M:=c67N
      rw [if_pos c67] at hr64;refine Zd (by simp [bV,c35,c35M,c36,c36M,c44,c44M,c65,c65M,c67,c67M]) ?_;refine Zb ?_;refine Za rfl (by simp [c35,c35M,c36,c36M,c44,c44M,c65,c65M,c67,c67M]; rfl) ?_;refine Zn ?_;obtain rfl:=Option.some.inj hr64;simp only [pq,reduceCtorEq];rintro rfl
      simp [Zj,c35,c35M,c36,c36M,c44,c44M,c65,c65M,c67,c67M,c35N,c36N,c44N,c65N,c67N]
     ·skip
      have c67N:=c67;try simp at c67N
      first | have c67M : (_ = _) = True:=eq_true c67N | have c67M:=c67N
      rw [if_neg c67] at hr64;refine Ze (by simp [bV,c35,c35M,c36,c36M,c44,c44M,c65,c65M,c67,c67M]) ?_;refine Zh ?_;refine Za rfl (by simp [c35,c35M,c36,c36M,c44,c44M,c65,c65M,c67,c67M]; rfl) ?_;refine ZaW ?_;refine ZJ (kq:=⟨[1,37,38,39,48,49,50],[1],[]⟩) (H:=fun (s : Int)=>match s with | p31=>(⟨(und 1++([.ptr 1 0 0 0 4]++(und 35++([.one (.slice .no (List.map Zm a0.2.1)),.one (.v (.int .i64 (a0.2.1.length : Int))),.one (.v (.int .i64 p19))]++(und 8++([.one (.slice .no (List.map Yd x66.2.2)),.one (.v (.int .i64 (x66.2.2.length : Int))),.one (.v (.int .i64 p31))]++(und 12)))))) : List PV),([(1,⟨0,4,[[.v (.int .u32 a0.1),.slice .no (List.map Zm a0.2.1),.slice .no (List.map Zk a0.2.2.1),.v (.int .u32 a0.2.2.2)]],false,false⟩)] : Boxes)⟩ : ASt)) (by kernel_rfl) hr64 (by simp [und,List.replicate,c35,c35M,c36,c36M,c44,c44M,c65,c65M,c67,c67M]) ?_;rintro p31 x73r hr73
      simp only [Zao] at hr73;unfold b92_3;simp only [und,List.replicate,List.cons_append,List.nil_append];refine Za rfl (by simp [c35,c35M,c36,c36M,c44,c44M,c65,c65M,c67,c67M]; rfl) ?_;by_cases c74 : p31 < (x66.2.2.length : Int)
      ·skip
       have c74N:=c74;try simp at c74N
       first | have c74M : (_ = _) = True:=eq_true c74N | have c74M:=c74N
       rw [if_pos] at hr73;rotate_left
       ·simp [c35,c35M,c36,c36M,c44,c44M,c65,c65M,c67,c67M,c74,c74M]
       refine Zd (by simp [bV,c35,c35M,c36,c36M,c44,c44M,c65,c65M,c67,c67M,c74,c74M]) ?_;refine Zh ?_;refine Zg ?_;obtain ⟨x75,hx75,hr73⟩:=bs hr73;obtain ⟨hx75a,hx75b⟩:=Zz hx75;have hx75c:=Zq hx75b;refine Za rfl (by simp [hx75a,hx75b,hx75c,c35,c35M,c36,c36M,c44,c44M,c65,c65M,c67,c67M,c74,c74M]; rfl) ?_;refine Za rfl (by simp [c35,c35M,c36,c36M,c44,c44M,c65,c65M,c67,c67M,c74,c74M]; rfl) ?_;by_cases c76 : 520 < (x75.length : Int)
       ·skip
        have c76N:=c76;try simp at c76N
        first | have c76M : (_ = _) = True:=eq_true c76N | have c76M:=c76N
        rw [if_pos c76] at hr73;refine Zp (by simp [bV,c35,c35M,c36,c36M,c44,c44M,c65,c65M,c67,c67M,c74,c74M,c76,c76M]) ?_;refine Za rfl (by simp [c35,c35M,c36,c36M,c44,c44M,c65,c65M,c67,c67M,c74,c74M,c76,c76M]; rfl) ?_;refine Zi ?_;obtain rfl:=Option.some.inj hr73;simp only [pq,reduceCtorEq];rintro rfl
        simp only [pq,reduceCtorEq];rintro rfl
        simp [Zj,c35,c35M,c36,c36M,c44,c44M,c65,c65M,c67,c67M,c74,c74M,c76,c76M,c35N,c36N,c44N,c65N,c67N,c74N,c76N]
       ·skip
        have c76N:=c76;try simp at c76N
        first | have c76M : (_ = _) = True:=eq_true c76N | have c76M:=c76N
        rw [if_neg c76] at hr73;refine Zy (by simp [bV,c35,c35M,c36,c36M,c44,c44M,c65,c65M,c67,c67M,c74,c74M,c76,c76M]) ?_;refine ZV ?_;simp only [pq,reduceCtorEq];refine ZA rfl (by simp [c35,c35M,c36,c36M,c44,c44M,c65,c65M,c67,c67M,c74,c74M,c76,c76M]; rfl) ?_;obtain rfl:=Option.some.inj hr73;simp only [pq,reduceCtorEq];simp [und,List.replicate,Nat.add_assoc,c35,c35M,c36,c36M,c44,c44M,c65,c65M,c67,c67M,c74,c74M,c76,c76M]
      ·skip
       have c74N:=c74;try simp at c74N
       first | have c74M : (_ = _) = True:=eq_true c74N | have c74M:=c74N
       rw [if_neg] at hr73;rotate_left
       ·simp [c35,c35M,c36,c36M,c44,c44M,c65,c65M,c67,c67M,c74,c74M]
       refine Ze (by simp [bV,c35,c35M,c36,c36M,c44,c44M,c65,c65M,c67,c67M,c74,c74M]) ?_;refine Zr ?_;obtain ⟨r77,q77,rfl⟩:=ms hr73;simp only [pq,reduceCtorEq];rintro rfl
       try simp only [pq,reduceCtorEq]
       unfold Zfe at q77;refine ZA rfl (by simp [c35,c35M,c36,c36M,c44,c44M,c65,c65M,c67,c67M,c74,c74M]; rfl) ?_;obtain rfl:=Option.some.inj q77;simp only [pq,reduceCtorEq];simp [und,List.replicate,Nat.add_assoc,c35,c35M,c36,c36M,c44,c44M,c65,c65M,c67,c67M,c74,c74M]
    ·skip
     have c65N:=c65;try simp at c65N
     first | have c65M : (_ = _) = True:=eq_true c65N | have c65M:=c65N
     rw [if_neg] at hr64;rotate_left
     ·simp [c35,c35M,c36,c36M,c44,c44M,c65,c65M]
     refine Ze (by simp [bV,c35,c35M,c36,c36M,c44,c44M,c65,c65M]) ?_;refine Zr ?_;obtain ⟨r78,q78,rfl⟩:=ms hr64;simp only [pq,reduceCtorEq];rintro rfl
     try simp only [pq,reduceCtorEq]
     unfold ZdE at q78;obtain ⟨y79,hy79,q78⟩:=bs q78;have ehy79:=Zsa hy79;simp only [Zin,Zlt,nf,nfs] at ehy79;refine Za rfl (by simp [hO,hT105,ehy79,c35,c35M,c36,c36M,c44,c44M,c65,c65M]; rfl) ?_;refine Zi ?_;obtain rfl:=Option.some.inj q78;simp [Zj,hO,hT105,ehy79,c35,c35M,c36,c36M,c44,c44M,c65,c65M,c35N,c36N,c44N,c65N]
end Go.Proofs.YtbjhgolpnjokbaaGreat
