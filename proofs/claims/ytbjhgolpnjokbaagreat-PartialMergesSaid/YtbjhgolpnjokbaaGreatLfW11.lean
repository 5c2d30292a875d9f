import Derived.Test.YtbjhgolpnjokbaaGreatLfK
import Derived.Test.YtbjhgolpnjokbaaGreatCode
import Derived.Test.YtbjhgolpnjokbaaGreatBl
namespace Go.Proofs.YtbjhgolpnjokbaaGreat
open Go.RowKit
open Go.Av
open Go.Lc
set_option maxRecDepth 100000
set_option linter.unusedSimpArgs false
set_option linter.unusedVariables false
set_option maxHeartbeats 4000000
variable {G : Glob}
def kp76_2 : Keep:=fun i=>if i = 4 then ⟨[1,2,15,16,17],[],[]⟩ else ⟨[],[],[]⟩
theorem Zuc {T : Tab} (hO : T.own = fun _=>[]) (hT71 : T 71 = some G71) (a0 : (List Tapi_Input)) (a1 : (List Tapi_Input)) (x : Bool) (hr : Zv a0 a1 = some x) : ∃ kp fl n,Zt tt T G kp fl n Tryz.f76 (Zgh (a0,a1)) = some (ZjA (a0,a1) x):=by
 simp only [Zgh,ZjA];refine fnE (kp:=kp76_2) (w:=false) body76 (by simp) ?_;unfold c76;rw [Tryz.ntmps76];unfold Zv at hr;refine Za rfl (by simp []; rfl) ?_;refine Zb ?_;refine Za rfl (by simp []; rfl) ?_;by_cases c15 : (a0.length : Int) = (a1.length : Int)
 ·skip
  have c15N:=c15;try simp at c15N
  rw [if_neg (not_not_intro c15)] at hr;refine Ze (by simp [bV,eq_true c15,eq_true c15N]) ?_;refine Zh ?_;refine Zb ?_;refine Za rfl (by simp [eq_true c15,eq_true c15N]; rfl) ?_;refine Zg ?_;refine ZJ (kq:=⟨[1,2,15,16,17],[],[]⟩) (H:=fun (s : Int)=>match s with | p8=>(⟨(und 1++([.one (.slice .no (List.map Zm a1)),.fn 71]++(und 12++([.one (.slice .no (List.map Zm a0)),.one (.v (.int .i64 (a0.length : Int))),.one (.v (.int .i64 p8))]++(und 14)))) : List PV),([] : Boxes)⟩ : ASt)) (by kernel_rfl) hr (by simp [und,List.replicate,eq_true c15,eq_true c15N]) ?_;rintro p8 x23r hr23
  simp only [ZS] at hr23;unfold b76_1;simp only [und,List.replicate,List.cons_append,List.nil_append];refine Za rfl (by simp [eq_true c15,eq_true c15N]; rfl) ?_;by_cases c24 : p8 < (a0.length : Int)
  ·skip
   have c24N:=c24;try simp at c24N
   first | have c24M : (_ = _) = True:=eq_true c24N | have c24M:=c24N
   rw [if_pos] at hr23;rotate_left
   ·simp [eq_true c15,eq_true c15N,c24,c24M]
   refine Zd (by simp [bV,eq_true c15,eq_true c15N,c24,c24M]) ?_;refine Zh ?_;refine Zg ?_;obtain ⟨x25,hx25,hr23⟩:=bs hr23;obtain ⟨hx25a,hx25b⟩:=Zz hx25;have hx25c:=Zq hx25b;refine Za rfl (by simp [hx25a,hx25b,hx25c,eq_true c15,eq_true c15N,c24,c24M]; rfl) ?_;obtain ⟨x26,hx26,hr23⟩:=bs hr23;obtain ⟨hx26a,hx26b⟩:=Zz hx26;have hx26c:=Zq hx26b;refine Za rfl (by simp [hx26a,hx26b,hx26c,eq_true c15,eq_true c15N,c24,c24M]; rfl) ?_;obtain ⟨y27,hy27,hr23⟩:=bs hr23;have ehy27:=Zte hy27;simp only [E71,R71,nf,nfs] at ehy27;refine Za rfl (by simp [hO,hT71,ehy27,eq_true c15,eq_true c15N,c24,c24M]; rfl) ?_;by_cases c28 : y27 = true
   ·skip
    rw [if_neg (not_not_intro c28)] at hr23;refine Zy (by simp [bV,eq_true c15,eq_true c15N,c24,c24M,c28]) ?_;refine ZV ?_;simp only [pq,reduceCtorEq];refine ZA rfl (by simp [eq_true c15,eq_true c15N,c24,c24M,c28]; rfl) ?_;obtain rfl:=Option.some.inj hr23;simp only [pq,reduceCtorEq];simp [und,List.replicate,Nat.add_assoc,eq_true c15,eq_true c15N,c24,c24M,c28]
   ·skip
    rw [if_pos c28] at hr23;refine Zp (by simp [bV,eq_true c15,eq_true c15N,c24,c24M,c28]) ?_;refine Za rfl (by simp [eq_true c15,eq_true c15N,c24,c24M,c28]; rfl) ?_;refine Zi ?_;obtain rfl:=Option.some.inj hr23;simp only [pq,reduceCtorEq];rintro rfl
    simp [Zj,eq_true c15,eq_true c15N,c24,c24M,c28,c24N]
  ·skip
   have c24N:=c24;try simp at c24N
   first | have c24M : (_ = _) = True:=eq_true c24N | have c24M:=c24N
   rw [if_neg] at hr23;rotate_left
   ·simp [eq_true c15,eq_true c15N,c24,c24M]
   refine Ze (by simp [bV,eq_true c15,eq_true c15N,c24,c24M]) ?_;refine Zr ?_;obtain ⟨r29,q29,rfl⟩:=ms hr23;simp only [pq,reduceCtorEq];rintro rfl
   try simp only [pq,reduceCtorEq]
   unfold Lslices_EqualFunc_of__api_Input_api_Input_api_Input_api_Input__partial_samePlan_1_k1 at q29;refine Za rfl (by simp [eq_true c15,eq_true c15N,c24,c24M]; rfl) ?_;refine Zi ?_;obtain rfl:=Option.some.inj q29;simp [Zj,eq_true c15,eq_true c15N,c24,c24M,c24N]
 ·skip
  have c15N:=c15;try simp at c15N
  first | have c15M : (_ = _) = True:=eq_true c15N | have c15M:=c15N
  rw [if_pos c15] at hr;refine Zd (by simp [bV,c15,c15M]) ?_;refine Zb ?_;refine Za rfl (by simp [c15,c15M]; rfl) ?_;refine Zn ?_;obtain rfl:=Option.some.inj hr;simp [Zj,c15,c15M,c15N]
def kp77_3 : Keep:=fun i=>if i = 4 then ⟨[1,2,15,16,17],[],[]⟩ else ⟨[],[],[]⟩
theorem Zud {T : Tab} (hO : T.own = fun _=>[]) (hT75 : T 75 = some G75) (a0 : (List Tapi_Output)) (a1 : (List Tapi_Output)) (x : Bool) (hr : Zs a0 a1 = some x) : ∃ kp fl n,Zt tt T G kp fl n Tryz.f77 (Zgi (a0,a1)) = some (ZjB (a0,a1) x):=by
 simp only [Zgi,ZjB];refine fnE (kp:=kp77_3) (w:=false) body77 (by simp) ?_;unfold c77;rw [Tryz.ntmps77];unfold Zs at hr;refine Za rfl (by simp []; rfl) ?_;refine Zb ?_;refine Za rfl (by simp []; rfl) ?_;by_cases c15 : (a0.length : Int) = (a1.length : Int)
 ·skip
  have c15N:=c15;try simp at c15N
  rw [if_neg (not_not_intro c15)] at hr;refine Ze (by simp [bV,eq_true c15,eq_true c15N]) ?_;refine Zh ?_;refine Zb ?_;refine Za rfl (by simp [eq_true c15,eq_true c15N]; rfl) ?_;refine Zg ?_;refine ZJ (kq:=⟨[1,2,15,16,17],[],[]⟩) (H:=fun (s : Int)=>match s with | p8=>(⟨(und 1++([.one (.slice .no (List.map Zk a1)),.fn 75]++(und 12++([.one (.slice .no (List.map Zk a0)),.one (.v (.int .i64 (a0.length : Int))),.one (.v (.int .i64 p8))]++(und 14)))) : List PV),([] : Boxes)⟩ : ASt)) (by kernel_rfl) hr (by simp [und,List.replicate,eq_true c15,eq_true c15N]) ?_;rintro p8 x23r hr23
  simp only [ZQ] at hr23;unfold b77_1;simp only [und,List.replicate,List.cons_append,List.nil_append];refine Za rfl (by simp [eq_true c15,eq_true c15N]; rfl) ?_;by_cases c24 : p8 < (a0.length : Int)
  ·skip
   have c24N:=c24;try simp at c24N
   first | have c24M : (_ = _) = True:=eq_true c24N | have c24M:=c24N
   rw [if_pos] at hr23;rotate_left
   ·simp [eq_true c15,eq_true c15N,c24,c24M]
   refine Zd (by simp [bV,eq_true c15,eq_true c15N,c24,c24M]) ?_;refine Zh ?_;refine Zg ?_;obtain ⟨x25,hx25,hr23⟩:=bs hr23;obtain ⟨hx25a,hx25b⟩:=Zz hx25;have hx25c:=Zq hx25b;refine Za rfl (by simp [hx25a,hx25b,hx25c,eq_true c15,eq_true c15N,c24,c24M]; rfl) ?_;obtain ⟨x26,hx26,hr23⟩:=bs hr23;obtain ⟨hx26a,hx26b⟩:=Zz hx26;have hx26c:=Zq hx26b;refine Za rfl (by simp [hx26a,hx26b,hx26c,eq_true c15,eq_true c15N,c24,c24M]; rfl) ?_;obtain ⟨y27,hy27,hr23⟩:=bs hr23;have ehy27:=ZpZ hy27;simp only [E75,R75,nf,nfs] at ehy27;refine Za rfl (by simp [hO,hT75,ehy27,eq_true c15,eq_true c15N,c24,c24M]; rfl) ?_;by_cases c28 : y27 = true
   ·skip
    rw [if_neg (not_not_intro c28)] at hr23;refine Zy (by simp [bV,eq_true c15,eq_true c15N,c24,c24M,c28]) ?_;refine ZV ?_;simp only [pq,reduceCtorEq];refine ZA rfl (by simp [eq_true c15,eq_true c15N,c24,c24M,c28]; rfl) ?_;obtain rfl:=Option.some.inj hr23;simp only [pq,reduceCtorEq];simp [und,List.replicate,Nat.add_assoc,eq_true c15,eq_true c15N,c24,c24M,c28]
   ·skip
    rw [if_pos c28] at hr23;refine Zp (by simp [bV,eq_true c15,eq_true c15N,c24,c24M,c28]) ?_;refine Za rfl (by simp [eq_true c15,eq_true c15N,c24,c24M,c28]; rfl) ?_;refine Zi ?_;obtain rfl:=Option.some.inj hr23;simp only [pq,reduceCtorEq];rintro rfl
    simp [Zj,eq_true c15,eq_true c15N,c24,c24M,c28,c24N]
  ·skip
   have c24N:=c24;try simp at c24N
   first | have c24M : (_ = _) = True:=eq_true c24N | have c24M:=c24N
   rw [if_neg] at hr23;rotate_left
   ·simp [eq_true c15,eq_true c15N,c24,c24M]
   refine Ze (by simp [bV,eq_true c15,eq_true c15N,c24,c24M]) ?_;refine Zr ?_;obtain ⟨r29,q29,rfl⟩:=ms hr23;simp only [pq,reduceCtorEq];rintro rfl
   try simp only [pq,reduceCtorEq]
   unfold Lslices_EqualFunc_of__api_Output_api_Output_api_Output_api_Output__partial_sameOutput_k1 at q29;refine Za rfl (by simp [eq_true c15,eq_true c15N,c24,c24M]; rfl) ?_;refine Zi ?_;obtain rfl:=Option.some.inj q29;simp [Zj,eq_true c15,eq_true c15N,c24,c24M,c24N]
 ·skip
  have c15N:=c15;try simp at c15N
  first | have c15M : (_ = _) = True:=eq_true c15N | have c15M:=c15N
  rw [if_pos c15] at hr;refine Zd (by simp [bV,c15,c15M]) ?_;refine Zb ?_;refine Za rfl (by simp [c15,c15M]; rfl) ?_;refine Zn ?_;obtain rfl:=Option.some.inj hr;simp [Zj,c15,c15M,c15N]
def kp78_4 : Keep:=fun i=>if i = 4 then ⟨[1,2,15,16,17],[],[]⟩ else ⟨[],[],[]⟩
theorem Zue {T : Tab} (hO : T.own = fun _=>[]) (hT74 : T 74 = some G74) (a0 : (List Tapi_Coin)) (a1 : (List Tapi_Coin)) (x : Bool) (hr : Zx a0 a1 = some x) : ∃ kp fl n,Zt tt T G kp fl n Tryz.f78 (Zgj (a0,a1)) = some (ZjC (a0,a1) x):=by
 simp only [Zgj,ZjC];refine fnE (kp:=kp78_4) (w:=false) body78 (by simp) ?_;unfold c78;rw [Tryz.ntmps78];unfold Zx at hr;refine Za rfl (by simp []; rfl) ?_;refine Zb ?_;refine Za rfl (by simp []; rfl) ?_;by_cases c15 : (a0.length : Int) = (a1.length : Int)
 ·skip
  have c15N:=c15;try simp at c15N
  rw [if_neg (not_not_intro c15)] at hr;refine Ze (by simp [bV,eq_true c15,eq_true c15N]) ?_;refine Zh ?_;refine Zb ?_;refine Za rfl (by simp [eq_true c15,eq_true c15N]; rfl) ?_;refine Zg ?_;refine ZJ (kq:=⟨[1,2,15,16,17],[],[]⟩) (H:=fun (s : Int)=>match s with | p8=>(⟨(und 1++([.one (.slice .no (List.map ZB a1)),.fn 74]++(und 12++([.one (.slice .no (List.map ZB a0)),.one (.v (.int .i64 (a0.length : Int))),.one (.v (.int .i64 p8))]++(und 14)))) : List PV),([] : Boxes)⟩ : ASt)) (by kernel_rfl) hr (by simp [und,List.replicate,eq_true c15,eq_true c15N]) ?_;rintro p8 x23r hr23
  simp only [ZT] at hr23;unfold b78_1;simp only [und,List.replicate,List.cons_append,List.nil_append];refine Za rfl (by simp [eq_true c15,eq_true c15N]; rfl) ?_;by_cases c24 : p8 < (a0.length : Int)
  ·skip
   have c24N:=c24;try simp at c24N
   first | have c24M : (_ = _) = True:=eq_true c24N | have c24M:=c24N
   rw [if_pos] at hr23;rotate_left
   ·simp [eq_true c15,eq_true c15N,c24,c24M]
   refine Zd (by simp [bV,eq_true c15,eq_true c15N,c24,c24M]) ?_;refine Zh ?_;refine Zg ?_;obtain ⟨x25,hx25,hr23⟩:=bs hr23;obtain ⟨hx25a,hx25b⟩:=Zz hx25;have hx25c:=Zq hx25b;refine Za rfl (by simp [hx25a,hx25b,hx25c,eq_true c15,eq_true c15N,c24,c24M]; rfl) ?_;obtain ⟨x26,hx26,hr23⟩:=bs hr23;obtain ⟨hx26a,hx26b⟩:=Zz hx26;have hx26c:=Zq hx26b;refine Za rfl (by simp [hx26a,hx26b,hx26c,eq_true c15,eq_true c15N,c24,c24M]; rfl) ?_;obtain ⟨y27,hy27,hr23⟩:=bs hr23;have ehy27:=Ztf hy27;simp only [E74,R74,nf,nfs] at ehy27;refine Za rfl (by simp [hO,hT74,ehy27,eq_true c15,eq_true c15N,c24,c24M]; rfl) ?_;by_cases c28 : y27 = true
   ·skip
    rw [if_neg (not_not_intro c28)] at hr23;refine Zy (by simp [bV,eq_true c15,eq_true c15N,c24,c24M,c28]) ?_;refine ZV ?_;simp only [pq,reduceCtorEq];refine ZA rfl (by simp [eq_true c15,eq_true c15N,c24,c24M,c28]; rfl) ?_;obtain rfl:=Option.some.inj hr23;simp only [pq,reduceCtorEq];simp [und,List.replicate,Nat.add_assoc,eq_true c15,eq_true c15N,c24,c24M,c28]
   ·skip
    rw [if_pos c28] at hr23;refine Zp (by simp [bV,eq_true c15,eq_true c15N,c24,c24M,c28]) ?_;refine Za rfl (by simp [eq_true c15,eq_true c15N,c24,c24M,c28]; rfl) ?_;refine Zi ?_;obtain rfl:=Option.some.inj hr23;simp only [pq,reduceCtorEq];rintro rfl
    simp [Zj,eq_true c15,eq_true c15N,c24,c24M,c28,c24N]
  ·skip
   have c24N:=c24;try simp at c24N
   first | have c24M : (_ = _) = True:=eq_true c24N | have c24M:=c24N
   rw [if_neg] at hr23;rotate_left
   ·simp [eq_true c15,eq_true c15N,c24,c24M]
   refine Ze (by simp [bV,eq_true c15,eq_true c15N,c24,c24M]) ?_;refine Zr ?_;obtain ⟨r29,q29,rfl⟩:=ms hr23;simp only [pq,reduceCtorEq];rintro rfl
   try simp only [pq,reduceCtorEq]
   unfold Lslices_EqualFunc_of__api_Coin_api_Coin_api_Coin_api_Coin__partial_samePlan_2_k1 at q29;refine Za rfl (by simp [eq_true c15,eq_true c15N,c24,c24M]; rfl) ?_;refine Zi ?_;obtain rfl:=Option.some.inj q29;simp [Zj,eq_true c15,eq_true c15N,c24,c24M,c24N]
 ·skip
  have c15N:=c15;try simp at c15N
  first | have c15M : (_ = _) = True:=eq_true c15N | have c15M:=c15N
  rw [if_pos c15] at hr;refine Zd (by simp [bV,c15,c15M]) ?_;refine Zb ?_;refine Za rfl (by simp [c15,c15M]; rfl) ?_;refine Zn ?_;obtain rfl:=Option.some.inj hr;simp [Zj,c15,c15M,c15N]
def kp39 : Keep:=fun i=>⟨[],[],[]⟩
theorem w39 {T : Tab} (hO : T.own = fun _=>[]) (hT76 : T 76 = some G76_2) (hT77 : T 77 = some G77_3) (hT78 : T 78 = some G78_4) (a0 : Tapi_Plan) (a1 : Tapi_Plan) (x : Bool) (hr : Y7 a0 a1 = some x) : ∃ kp fl n,Zt tt T G kp fl n Tryz.f39 (E39 (a0,a1)) = some (R39 (a0,a1) x):=by
 simp only [E39,R39];refine fnE (kp:=kp39) (w:=false) body39 (by simp) ?_;unfold c39;rw [Tryz.ntmps39];unfold Y7 at hr;refine Za rfl (by simp []; rfl) ?_;refine Za rfl (by simp []; rfl) ?_;refine Za rfl (by simp []; rfl) ?_;by_cases c7 : a0.1.1 = a1.1.1
 ·skip
  by_cases c8 : a0.1.2.2.2 = a1.1.2.2.2
  ·skip
   by_cases c9 : a0.2.2.1 = a1.2.2.1
   ·skip
    by_cases c10 : a0.2.2.2 = a1.2.2.2
    ·skip
     rw [if_pos] at hr;rotate_left
     ·simp [eq_true c7,eq_true c8,eq_true c9,eq_true c10]
     obtain ⟨z11,hz11,hr⟩:=bs hr;obtain ⟨y12,hy12,hz11⟩:=bs hz11;have ehy12:=ZqZ hy12;simp only [Zgh,ZjA,nf,nfs] at ehy12;obtain rfl:=Option.some.inj hz11;by_cases c13 : y12 = true
     ·skip
      rw [if_pos] at hr;rotate_left
      ·simp [eq_true c7,eq_true c8,eq_true c9,eq_true c10,c13]
      obtain ⟨z14,hz14,hr⟩:=bs hr;obtain ⟨y15,hy15,hz14⟩:=bs hz14;have ehy15:=Zq0 hy15;simp only [Zgi,ZjB,nf,nfs] at ehy15;obtain rfl:=Option.some.inj hz14;by_cases c16 : y15 = true
      ·skip
       rw [if_pos] at hr;rotate_left
       ·simp [eq_true c7,eq_true c8,eq_true c9,eq_true c10,c13,c16]
       obtain ⟨z17,hz17,hr⟩:=bs hr;obtain ⟨y18,hy18,hz17⟩:=bs hz17;have ehy18:=Zq1 hy18;simp only [Zgj,ZjC,nf,nfs] at ehy18;obtain rfl:=Option.some.inj hz17;refine Za rfl (by simp [hO,hT76,ehy12,hT77,ehy15,hT78,ehy18,eq_true c7,eq_true c8,eq_true c9,eq_true c10,c13,c16]; rfl) ?_;refine Zi ?_;obtain rfl:=Option.some.inj hr;simp [Zj,hO,hT76,ehy12,hT77,ehy15,hT78,ehy18,eq_true c7,eq_true c8,eq_true c9,eq_true c10,c13,c16]
      ·skip
       rw [if_neg] at hr;rotate_left
       ·simp [eq_true c7,eq_true c8,eq_true c9,eq_true c10,c13,c16]
       obtain ⟨z19,hz19,hr⟩:=bs hr;obtain rfl:=Option.some.inj hz19;refine Za rfl (by simp [hO,hT76,ehy12,hT77,ehy15,eq_true c7,eq_true c8,eq_true c9,eq_true c10,c13,c16]; rfl) ?_;refine Zi ?_;obtain rfl:=Option.some.inj hr;simp [Zj,hO,hT76,ehy12,hT77,ehy15,eq_true c7,eq_true c8,eq_true c9,eq_true c10,c13,c16]
     ·skip
      rw [if_neg] at hr;rotate_left
      ·simp [eq_true c7,eq_true c8,eq_true c9,eq_true c10,c13]
      obtain ⟨z20,hz20,hr⟩:=bs hr;obtain rfl:=Option.some.inj hz20;rw [if_neg] at hr;rotate_left
      ·simp [eq_true c7,eq_true c8,eq_true c9,eq_true c10,c13]
      obtain ⟨z21,hz21,hr⟩:=bs hr;obtain rfl:=Option.some.inj hz21;refine Za rfl (by simp [hO,hT76,ehy12,eq_true c7,eq_true c8,eq_true c9,eq_true c10,c13]; rfl) ?_;refine Zi ?_;obtain rfl:=Option.some.inj hr;simp [Zj,hO,hT76,ehy12,eq_true c7,eq_true c8,eq_true c9,eq_true c10,c13]
    ·skip
     rw [if_neg] at hr;rotate_left
     ·simp [eq_true c7,eq_true c8,eq_true c9,c10]
     obtain ⟨z22,hz22,hr⟩:=bs hr;obtain rfl:=Option.some.inj hz22;rw [if_neg] at hr;rotate_left
     ·simp [eq_true c7,eq_true c8,eq_true c9,c10]
     obtain ⟨z23,hz23,hr⟩:=bs hr;obtain rfl:=Option.some.inj hz23;rw [if_neg] at hr;rotate_left
     ·simp [eq_true c7,eq_true c8,eq_true c9,c10]
     obtain ⟨z24,hz24,hr⟩:=bs hr;obtain rfl:=Option.some.inj hz24;refine Za rfl (by simp [eq_true c7,eq_true c8,eq_true c9,c10]; rfl) ?_;refine Zi ?_;obtain rfl:=Option.some.inj hr;simp [Zj,eq_true c7,eq_true c8,eq_true c9,c10]
   ·skip
    rw [if_neg] at hr;rotate_left
    ·simp [eq_true c7,eq_true c8,c9]
    obtain ⟨z25,hz25,hr⟩:=bs hr;obtain rfl:=Option.some.inj hz25;rw [if_neg] at hr;rotate_left
    ·simp [eq_true c7,eq_true c8,c9]
    obtain ⟨z26,hz26,hr⟩:=bs hr;obtain rfl:=Option.some.inj hz26;rw [if_neg] at hr;rotate_left
    ·simp [eq_true c7,eq_true c8,c9]
    obtain ⟨z27,hz27,hr⟩:=bs hr;obtain rfl:=Option.some.inj hz27;refine Za rfl (by simp [eq_true c7,eq_true c8,c9]; rfl) ?_;refine Zi ?_;obtain rfl:=Option.some.inj hr;simp [Zj,eq_true c7,eq_true c8,c9]
  ·skip
   rw [if_neg] at hr;rotate_left
   ·simp [eq_true c7,c8]
   obtain ⟨z28,hz28,hr⟩:=bs hr;obtain rfl:=Option.some.inj hz28;rw [if_neg] at hr;rotate_left
   ·simp [eq_true c7,c8]
   obtain ⟨z29,hz29,hr⟩:=bs hr;obtain rfl:=Option.some.inj hz29;rw [if_neg] at hr;rotate_left
   ·simp [eq_true c7,c8]
   obtain ⟨z30,hz30,hr⟩:=bs hr;obtain rfl:=Option.some.inj hz30;refine Za rfl (by simp [eq_true c7,c8]; rfl) ?_;refine Zi ?_;obtain rfl:=Option.some.inj hr;simp [Zj,eq_true c7,c8]
 ·skip
  rw [if_neg] at hr;rotate_left
  ·simp [c7]
  obtain ⟨z31,hz31,hr⟩:=bs hr;obtain rfl:=Option.some.inj hz31;rw [if_neg] at hr;rotate_left
  ·simp [c7]
  obtain ⟨z32,hz32,hr⟩:=bs hr;obtain rfl:=Option.some.inj hz32;rw [if_neg] at hr;rotate_left
  ·simp [c7]
  obtain ⟨z33,hz33,hr⟩:=bs hr;obtain rfl:=Option.some.inj hz33;refine Za rfl (by simp [c7]; rfl) ?_;refine Zi ?_;obtain rfl:=Option.some.inj hr;simp [Zj,c7]
def kp15 : Keep:=fun i=>if i = 1000016 then ⟨[2,4,6,7,8],[2,4,900006],[]⟩ else if i = 7 then ⟨[2,4,6,7,8],[2,4,900006],[(6,none,900006,13)]⟩ else ⟨[],[],[]⟩
theorem w15 {T : Tab} (hO : T.own = fun _=>[]) (hT11 : T 11 = some G11) (hT29 : T 29 = some G29) (hT33 : T 33 = some G33) (hT39 : T 39 = some G39) (a0 : Tapi_PartialTx) (a1 : Tapi_PartialTx) (x : Tapi_PartialTx×Int) (hr : XR a0 a1 = some x) : ∃ kp fl n,Zt tt T G kp fl n Tryz.f15 (E15 (a0,a1)) = some (R15 (a0,a1) x):=by
 simp only [E15,R15];refine fnE (kp:=kp15) (w:=false) body15 (by simp) ?_;unfold c15;rw [Tryz.ntmps15];unfold XR at hr;refine Za rfl (by simp [Nat.add_assoc,]; rfl) ?_;refine Zb ?_;obtain ⟨y64,hy64,hr⟩:=bs hr;have ehy64:=ZpX hy64;simp only [E11,R11,nf,nfs] at ehy64;by_cases c65 : y64 = true
 ·skip
  rw [if_neg] at hr;rotate_left
  ·simp [Nat.add_assoc,c65]
  obtain ⟨z66,hz66,hr⟩:=bs hr;obtain ⟨y67,hy67,hz66⟩:=bs hz66;have ehy67:=ZpX hy67;simp only [E11,R11,nf,nfs] at ehy67;obtain rfl:=Option.some.inj hz66;refine Za rfl (by simp [Nat.add_assoc,hO,hT11,ehy64,ehy67,c65]; rfl) ?_;by_cases c68 : y67 = true
  ·skip
   rw [if_neg] at hr;rotate_left
   ·simp [Nat.add_assoc,c65,c68]
   refine Ze (by simp [Nat.add_assoc,bV,c65,c68]) ?_;refine Zh ?_;refine Zb ?_;obtain ⟨y69,hy69,hr⟩:=bs hr;have ehy69:=Ztg hy69;simp only [E39,R39,nf,nfs] at ehy69;refine Za rfl (by simp [Nat.add_assoc,hO,hT39,ehy69,c65,c68]; rfl) ?_;by_cases c70 : y69 = true
   ·skip
    rw [if_neg (not_not_intro c70)] at hr;refine Ze (by simp [Nat.add_assoc,bV,c65,c68,c70]) ?_;refine Zh ?_;refine Za rfl (by simp [Nat.add_assoc,c65,c68,c70]; rfl) ?_;refine ZC rfl (by simp [Nat.add_assoc,c65,c68,c70]; first | exact ⟨rfl,rfl⟩ | rfl) (by kernel_rfl) ?_;refine Zg ?_;refine Zk5 hr (.exit 0) (fun (s : (List Tapi_Signed)×(List Tapi_Signed)×(List Tapi_Signed))=>match s with | (p40,p38,p39)=>(⟨(und 2++([.ptr 2 0 0 0 8]++(und 1++([.ptr 4 0 0 0 8]++(und 1++([.one (.ms 900006 0 0 (p40.length) 13),.one (.slice .no (List.map ZE p38)),.one (.slice .no (List.map ZE p39))]++(und 89)))))) : List PV),([(2,⟨0,8,[[.v (.int .u32 a0.1.1.1),.slice .no (List.map Zm a0.1.1.2.1),.slice .no (List.map Zk a0.1.1.2.2.1),.v (.int .u32 a0.1.1.2.2.2),.slice .no (List.map ZB a0.1.2.1),.v (.int .i64 a0.1.2.2.1),.v (.int .i64 a0.1.2.2.2),.slice .no (List.map ZE a0.2)]],false,false⟩),(4,⟨0,8,[[.v (.int .u32 0),.slice .nil [],.slice .nil [],.v (.int .u32 0),.slice .nil [],.v (.int .i64 0),.v (.int .i64 0),.slice .nil []]],false,false⟩),(900006,⟨0,13,List.map ZE p40,false,true⟩)] : Boxes)⟩ : ASt)) (fun (s : (List Tapi_Signed)×(List Tapi_Signed)×(List Tapi_Signed))=>match s with | (p40,p38,p39)=>Zad p40 p38 p39 a0) ?_ ?_
    ·skip
     rintro ⟨p40,p38,p39⟩ hk94
     change Zad p40 p38 p39 a0 = _ at hk94
     simp only [pq,reduceCtorEq];simp only [und,List.replicate,List.cons_append,List.nil_append];unfold Zad at hk94;obtain ⟨_,u95,hk94⟩:=bs hk94;have u95_0:=ZD u95;have n1_u95_0 : (p40.length + p38.length) * 104≤140737488355328:=by omega
     have n2_u95_0 : p40.length + p38.length≤9223372036854775807:=by omega
     obtain ⟨_,u96,hk94⟩:=bs hk94;have u96_0:=ZD u96
     have n1_u96_0 : (p40.length + (p38.length + p39.length)) * 104≤140737488355328:=by
      have h:=u96_0;try simp at h
      omega
     have n2_u96_0 : p40.length + (p38.length + p39.length)≤9223372036854775807:=by
      have h:=u96_0;try simp at h
      omega
     refine Zc0 rfl (kq:=⟨[2,4,6,7,8],[2,4,900006],[]⟩) rfl (by simp [Nat.add_assoc,XA,n1_u95_0,n2_u95_0,n1_u96_0,n2_u96_0,c65,c68,c70]; rfl) (by simp [Nat.add_assoc,n1_u95_0,n2_u95_0,n1_u96_0,n2_u96_0,c65,c68,c70]; rfl) ?_;obtain ⟨y97,hy97,hk94⟩:=bs hk94;have ehy97:=Ztd hy97;simp only [E29,R29,nf,nfs] at ehy97;refine Za rfl (by simp [Nat.add_assoc,hO,hT29,ehy97,c65,c68,c70]; rfl) ?_;refine Zi ?_;obtain rfl:=Option.some.inj hk94;simp [Nat.add_assoc,Zj,hO,hT29,ehy97,c65,c68,c70]
    ·skip
     intro J94;simp only [pq,reduceCtorEq] at J94;refine ZJ (kq:=⟨[2,4,6,7,8],[2,4,900006],[(6,none,900006,13)]⟩) (H:=fun (s : (List Tapi_Signed)×(List Tapi_Signed)×(List Tapi_Signed))=>match s with | (p38,p39,p40)=>(⟨(und 2++([.ptr 2 0 0 0 8]++(und 1++([.ptr 4 0 0 0 8]++(und 1++([.one (.ms 900006 0 0 (p40.length) 13),.one (.slice .no (List.map ZE p38)),.one (.slice .no (List.map ZE p39))]++(und 89)))))) : List PV),([(2,⟨0,8,[[.v (.int .u32 a0.1.1.1),.slice .no (List.map Zm a0.1.1.2.1),.slice .no (List.map Zk a0.1.1.2.2.1),.v (.int .u32 a0.1.1.2.2.2),.slice .no (List.map ZB a0.1.2.1),.v (.int .i64 a0.1.2.2.1),.v (.int .i64 a0.1.2.2.2),.slice .no (List.map ZE a0.2)]],false,false⟩),(4,⟨0,8,[[.v (.int .u32 0),.slice .nil [],.slice .nil [],.v (.int .u32 0),.slice .nil [],.v (.int .i64 0),.v (.int .i64 0),.slice .nil []]],false,false⟩),(900006,⟨0,13,List.map ZE p40,false,true⟩)] : Boxes)⟩ : ASt)) (by kernel_rfl) hr (by simp [Nat.add_assoc,und,List.replicate,c65,c68,c70]) ?_;rintro ⟨p38,p39,p40⟩ x98r hr98
     simp only [YW] at hr98;unfold b15_1;simp only [und,List.replicate,List.cons_append,List.nil_append];refine Zb ?_;by_cases c99 : 0 < (p38.length : Int)
     ·skip
      have c99N:=c99;try simp at c99N
      first | have c99M : (_ = _) = True:=eq_true c99N | have c99M:=c99N
      refine Za rfl (by simp [Nat.add_assoc,c65,c68,c70,c99,c99M]; rfl) ?_;by_cases c100 : 0 < (p39.length : Int)
      ·skip
       have c100N:=c100;try simp at c100N
       first | have c100M : (_ = _) = True:=eq_true c100N | have c100M:=c100N
       rw [if_pos] at hr98;rotate_left
       ·simp [Nat.add_assoc,c65,c68,c70,c99,c99M,c100,c100M]
       refine Zd (by simp [Nat.add_assoc,bV,c65,c68,c70,c99,c99M,c100,c100M]) ?_;refine Zh ?_;refine ZaW ?_;obtain ⟨x101,hx101,hr98⟩:=bs hr98;have hx101c:=Zq hx101;obtain ⟨x102,hx102,hr98⟩:=bs hr98;have hx102c:=Zq hx102;obtain ⟨y103,hy103,hr98⟩:=bs hr98;have ehy103:=ZpW hy103;simp only [E33,R33,nf,nfs] at ehy103;refine ZC rfl (by simp [Nat.add_assoc,hx101,hx101c,hx102,hx102c,hO,hT33,ehy103,c65,c68,c70,c99,c99M,c100,c100M]; first | exact ⟨rfl,rfl⟩ | rfl) (by kernel_rfl) ?_;refine ZaW ?_;refine Za rfl (by simp [Nat.add_assoc,c65,c68,c70,c99,c99M,c100,c100M]; rfl) ?_;by_cases c104 : y103 < 0
       ·skip
        rw [if_pos c104] at hr98;refine Zp (by simp [Nat.add_assoc,bV,c65,c68,c70,c99,c99M,c100,c100M,c104]) ?_;have hx101c:=Zq hx101;obtain ⟨_,u105,hr98⟩:=bs hr98;have u105_0:=ZD u105;have n1_u105_0 : (p40.length + 1) * 104≤140737488355328:=by omega
        have n2_u105_0 : p40.length + 1≤9223372036854775807:=by omega
        obtain ⟨_,u106,hr98⟩:=bs hr98;have u106_0:=ZD u106;have sf107 : 1≤p38.length:=by omega
        refine Zbk rfl (by simp [Nat.add_assoc,hx101,hx101c,n1_u105_0,n2_u105_0,u106_0,sf107,c65,c68,c70,c99,c99M,c100,c100M,c104]; first | exact ⟨rfl,rfl⟩ | rfl) (by kernel_rfl) ?_;obtain rfl:=Option.some.inj hr98;simp only [pq,reduceCtorEq];simp [Nat.add_assoc,und,List.replicate,Nat.add_assoc,hx101,hx101c,n1_u105_0,n2_u105_0,u106_0,sf107,c65,c68,c70,c99,c99M,c100,c100M,c104]
       ·skip
        rw [if_neg c104] at hr98;refine Zy (by simp [Nat.add_assoc,bV,c65,c68,c70,c99,c99M,c100,c100M,c104]) ?_;refine Za rfl (by simp [Nat.add_assoc,c65,c68,c70,c99,c99M,c100,c100M,c104]; rfl) ?_;by_cases c108 : 0 < y103
        ·skip
         rw [if_pos c108] at hr98;refine Zp (by simp [Nat.add_assoc,bV,c65,c68,c70,c99,c99M,c100,c100M,c104,c108]) ?_;have hx102c:=Zq hx102;obtain ⟨_,u109,hr98⟩:=bs hr98;have u109_0:=ZD u109;have n1_u109_0 : (p40.length + 1) * 104≤140737488355328:=by omega
         have n2_u109_0 : p40.length + 1≤9223372036854775807:=by omega
         obtain ⟨_,u110,hr98⟩:=bs hr98;have u110_0:=ZD u110;have sf111 : 1≤p39.length:=by omega
         refine Zbk rfl (by simp [Nat.add_assoc,hx102,hx102c,n1_u109_0,n2_u109_0,u110_0,sf111,c65,c68,c70,c99,c99M,c100,c100M,c104,c108]; first | exact ⟨rfl,rfl⟩ | rfl) (by kernel_rfl) ?_;obtain rfl:=Option.some.inj hr98;simp only [pq,reduceCtorEq];simp [Nat.add_assoc,und,List.replicate,Nat.add_assoc,hx102,hx102c,n1_u109_0,n2_u109_0,u110_0,sf111,c65,c68,c70,c99,c99M,c100,c100M,c104,c108]
        ·skip
         rw [if_neg c108] at hr98;refine Zy (by simp [Nat.add_assoc,bV,c65,c68,c70,c99,c99M,c100,c100M,c104,c108]) ?_;have hx101c:=Zq hx101;have hx102c:=Zq hx102;refine ZC rfl (by simp [Nat.add_assoc,hx101,hx101c,hx102,hx102c,c65,c68,c70,c99,c99M,c100,c100M,c104,c108]; first | exact ⟨rfl,rfl⟩ | rfl) (by kernel_rfl) ?_;by_cases c112 : x101.2.2.1 = x102.2.2.1
         ·skip
          by_cases c113 : x101.2.2.2 = x102.2.2.2
          ·skip
           rw [if_neg] at hr98;rotate_left
           ·simp [Nat.add_assoc,c65,c68,c70,c99,c99M,c100,c100M,c104,c108,eq_true c112,eq_true c113]
           refine Zy (by simp [Nat.add_assoc,bV,c65,c68,c70,c99,c99M,c100,c100M,c104,c108,eq_true c112,eq_true c113]) ?_;have hx101c:=Zq hx101;obtain ⟨_,u114,hr98⟩:=bs hr98;have u114_0:=ZD u114;have n1_u114_0 : (p40.length + 1) * 104≤140737488355328:=by omega
           have n2_u114_0 : p40.length + 1≤9223372036854775807:=by omega
           obtain ⟨_,u115,hr98⟩:=bs hr98;have u115_0:=ZD u115;have sf116 : 1≤p38.length:=by omega
           obtain ⟨_,u117,hr98⟩:=bs hr98;have u117_0:=ZD u117;have sf118 : 1≤p39.length:=by omega
           refine Zbk rfl (by simp [Nat.add_assoc,hx101,hx101c,n1_u114_0,n2_u114_0,u115_0,sf116,u117_0,sf118,c65,c68,c70,c99,c99M,c100,c100M,c104,c108,eq_true c112,eq_true c113]; first | exact ⟨rfl,rfl⟩ | rfl) (by kernel_rfl) ?_;obtain rfl:=Option.some.inj hr98;simp only [pq,reduceCtorEq];simp [Nat.add_assoc,und,List.replicate,Nat.add_assoc,hx101,hx101c,n1_u114_0,n2_u114_0,u115_0,sf116,u117_0,sf118,c65,c68,c70,c99,c99M,c100,c100M,c104,c108,eq_true c112,eq_true c113]
          ·skip
           rw [if_pos] at hr98;rotate_left
           ·simp [Nat.add_assoc,c65,c68,c70,c99,c99M,c100,c100M,c104,c108,eq_true c112,c113]
           refine Zp (by simp [Nat.add_assoc,bV,c65,c68,c70,c99,c99M,c100,c100M,c104,c108,eq_true c112,c113]) ?_;refine Za rfl (by simp [Nat.add_assoc,c65,c68,c70,c99,c99M,c100,c100M,c104,c108,eq_true c112,c113]; rfl) ?_;refine Zi ?_;obtain rfl:=Option.some.inj hr98;simp only [pq,reduceCtorEq];rintro rfl
           simp [Nat.add_assoc,Zj,c65,c68,c70,c99,c99M,c100,c100M,c104,c108,eq_true c112,c113,c99N,c100N]
         ·skip
          rw [if_pos] at hr98;rotate_left
          ·simp [Nat.add_assoc,c65,c68,c70,c99,c99M,c100,c100M,c104,c108,c112]
          refine Zp (by simp [Nat.add_assoc,bV,c65,c68,c70,c99,c99M,c100,c100M,c104,c108,c112]) ?_;refine Za rfl (by simp [Nat.add_assoc,c65,c68,c70,c99,c99M,c100,c100M,c104,c108,c112]; rfl) ?_;refine Zi ?_;obtain rfl:=Option.some.inj hr98;simp only [pq,reduceCtorEq];rintro rfl
          simp [Nat.add_assoc,Zj,c65,c68,c70,c99,c99M,c100,c100M,c104,c108,c112,c99N,c100N]
      ·skip
       have c100N:=c100;try simp at c100N
       first | have c100M : (_ = _) = True:=eq_true c100N | have c100M:=c100N
       have c100L : ¬ 0 < p39.length:=by omega
       rw [if_neg] at hr98;rotate_left
       ·simp [Nat.add_assoc,c65,c68,c70,c99,c99M,c100,c100M,c100L]
       refine Ze (by simp [Nat.add_assoc,bV,c65,c68,c70,c99,c99M,c100,c100M,c100L]) ?_;refine Zr ?_;obtain ⟨r119,q119,rfl⟩:=ms hr98;simp only [pq,reduceCtorEq];rintro rfl
       try simp only [pq,reduceCtorEq]
       exact YR (key:=1000016) (kq:=⟨[2,4,6,7,8],[2,4,900006],[]⟩) rfl rfl rfl (by simp [Nat.add_assoc,und,List.replicate,c65,c68,c70,c99,c99M,c100,c100M,c100L]) (J94 (p40,p38,p39) q119)
     ·skip
      have c99N:=c99;try simp at c99N
      first | have c99M : (_ = _) = True:=eq_true c99N | have c99M:=c99N
      have c99L : ¬ 0 < p38.length:=by omega
      refine Za rfl (by simp [Nat.add_assoc,c65,c68,c70,c99,c99M,c99L]; rfl) ?_;rw [if_neg] at hr98;rotate_left
      ·simp [Nat.add_assoc,c65,c68,c70,c99,c99M,c99L]
      refine Ze (by simp [Nat.add_assoc,bV,c65,c68,c70,c99,c99M,c99L]) ?_;refine Zr ?_;obtain ⟨r120,q120,rfl⟩:=ms hr98;simp only [pq,reduceCtorEq];rintro rfl
      try simp only [pq,reduceCtorEq]
      exact YR (key:=1000016) (kq:=⟨[2,4,6,7,8],[2,4,900006],[]⟩) rfl rfl rfl (by simp [Nat.add_assoc,und,List.replicate,c65,c68,c70,c99,c99M,c99L]) (J94 (p40,p38,p39) q120)
   ·skip
    rw [if_pos c70] at hr;refine Zd (by simp [Nat.add_assoc,bV,c65,c68,c70]) ?_;refine Zb ?_;refine Za rfl (by simp [Nat.add_assoc,c65,c68,c70]; rfl) ?_;refine Zn ?_;obtain rfl:=Option.some.inj hr;simp [Nat.add_assoc,Zj,c65,c68,c70]
  ·skip
   rw [if_pos] at hr;rotate_left
   ·simp [Nat.add_assoc,c65,c68]
   refine Zd (by simp [Nat.add_assoc,bV,c65,c68]) ?_;refine Zb ?_;refine Za rfl (by simp [Nat.add_assoc,c65,c68]; rfl) ?_;refine Zn ?_;obtain rfl:=Option.some.inj hr;simp [Nat.add_assoc,Zj,c65,c68]
 ·skip
  rw [if_pos] at hr;rotate_left
  ·simp [Nat.add_assoc,c65]
  obtain ⟨z121,hz121,hr⟩:=bs hr;obtain rfl:=Option.some.inj hz121;refine Za rfl (by simp [Nat.add_assoc,hO,hT11,ehy64,c65]; rfl) ?_;rw [if_pos] at hr;rotate_left
  ·simp [Nat.add_assoc,c65]
  refine Zd (by simp [Nat.add_assoc,bV,c65]) ?_;refine Zb ?_;refine Za rfl (by simp [Nat.add_assoc,c65]; rfl) ?_;refine Zn ?_;obtain rfl:=Option.some.inj hr;simp [Nat.add_assoc,Zj,c65]
def kp93 : Keep:=fun i=>⟨[],[],[]⟩
theorem w93 {T : Tab} (a0 : Tapi_OutPoint) (x : Bool) (hr : Zat a0 = some x) : ∃ kp fl n,Zt tt T G kp fl n Tryz.f93 (E93 a0) = some (R93 a0 x):=by
 simp only [E93,R93];refine fnE (kp:=kp93) (w:=false) body93 (by simp) ?_;unfold c93;rw [Tryz.ntmps93];unfold Zat at hr;refine Za rfl (by simp []; rfl) ?_;refine Za rfl (by simp []; rfl) ?_;refine Zi ?_;obtain rfl:=Option.some.inj hr;simp [Zj,]
def kp58 : Keep:=fun i=>⟨[],[],[]⟩
theorem w58 {T : Tab} (hO : T.own = fun _=>[]) (hT93 : T 93 = some G93) (a0 : Tapi_Tx) (x : Bool) (hr : Xw a0 = some x) : ∃ kp fl n,Zt tt T G kp fl n Tryz.f58 (E58 a0) = some (R58 a0 x):=by
 simp only [E58,R58];refine fnE (kp:=kp58) (w:=false) body58 (by simp) ?_;unfold c58;rw [Tryz.ntmps58];unfold Xw at hr;refine Za rfl (by simp []; rfl) ?_;by_cases c4 : (a0.2.1.length : Int) = 1
 ·skip
  have c4N:=c4;try simp at c4N
  rw [if_pos] at hr;rotate_left
  ·simp [eq_true c4,eq_true c4N]
  obtain ⟨z5,hz5,hr⟩:=bs hr;obtain ⟨x6,hx6,hz5⟩:=bs hz5;have hx6c:=Zq hx6;obtain ⟨y7,hy7,hz5⟩:=bs hz5;have ehy7:=Zp0 hy7;simp only [E93,R93,nf,nfs] at ehy7;obtain rfl:=Option.some.inj hz5;refine Za rfl (by simp [hx6,hx6c,hO,hT93,ehy7,eq_true c4,eq_true c4N]; rfl) ?_;refine Zi ?_;obtain rfl:=Option.some.inj hr;simp [Zj,hx6,hx6c,hO,hT93,ehy7,eq_true c4,eq_true c4N]
 ·skip
  have c4N:=c4;try simp at c4N
  first | have c4M : (_ = _) = True:=eq_true c4N | have c4M:=c4N
  rw [if_neg] at hr;rotate_left
  ·simp [c4,c4M]
  obtain ⟨z8,hz8,hr⟩:=bs hr;obtain rfl:=Option.some.inj hz8;refine Za rfl (by simp [c4,c4M]; rfl) ?_;refine Zi ?_;obtain rfl:=Option.some.inj hr;simp [Zj,c4,c4M,c4N]
def kp121 : Keep:=fun i=>if i = 3 then ⟨[0,5,10,11],[8],[]⟩ else ⟨[],[],[]⟩
theorem w121 {T : Tab} (a0 : Int) (a1 : Int) (x : (List Int)) (hr : Ye a0 a1 = some x) : ∃ kp fl n,Zt tt T G kp fl n Tryz.f121 (Ze6 (a0,a1)) = some (ZgN (a0,a1) x):=by
 simp only [Ze6,ZgN];refine fnE (kp:=kp121) (w:=true) body121 (by simp) ?_;unfold c121;rw [Tryz.ntmps121];unfold Ye at hr;refine Za rfl (by simp []; rfl) ?_;obtain ⟨_,u14,hr⟩:=bs hr;obtain ⟨u14_0,u14_1⟩:=ZD u14;have mf15 : (a1).toNat≤140737488355328:=by omega
 have mf16 : (a1).toNat≤9223372036854775807:=by omega
 have mf17 : 0≤a1:=by omega
 refine Za rfl (by simp [u14_0,u14_1,mf15,mf16,mf17]; rfl) ?_;refine Zb ?_;refine Za rfl (by simp []; rfl) ?_;refine Zg ?_;refine ZJ (kq:=⟨[0,5,10,11],[8],[]⟩) (H:=fun (s : Int×(List Int))=>match s with | (p8,p9)=>(⟨([.one (.v (.int .u64 a0))]++(und 4++([.one (.ms 8 0 0 (p9.length) 1)]++(und 4++([.one (.v (.int .i64 ((List.replicate ((a1).toNat) 0).length : Int))),.one (.v (.int .i64 p8))]++(und 12))))) : List PV),([(8,⟨0,1,Zl .u8 p9,false,true⟩)] : Boxes)⟩ : ASt)) (by kernel_rfl) hr (by simp [und,List.replicate,]) ?_;rintro ⟨p8,p9⟩ x23r hr23
 simp only [Zbr] at hr23;unfold b121_1;simp only [und,List.replicate,List.cons_append,List.nil_append];refine Za rfl (by simp []; rfl) ?_;by_cases c24 : p8 < ((List.replicate ((a1).toNat) 0).length : Int)
 ·skip
  have c24N:=c24;try simp at c24N
  first | have c24M : (_ = _) = True:=eq_true c24N | have c24M:=c24N
  rw [if_pos] at hr23;rotate_left
  ·simp [c24,c24M]
  refine Zd (by simp [bV,c24,c24M]) ?_;refine Zh ?_;refine Zg ?_;refine Za rfl (by simp [c24,c24M]; rfl) ?_;obtain ⟨_,u25,hr23⟩:=bs hr23;have u25_0:=ZD u25;obtain ⟨j26,hj26,hr23⟩:=bs hr23;obtain ⟨j26a,j26b,j26c⟩:=Yc hj26;refine ZA rfl (by simp [u25_0,j26a,j26b,j26c,c24,c24M]; rfl) ?_;simp only [pq,reduceCtorEq];refine ZA rfl (by simp [c24,c24M]; rfl) ?_;obtain rfl:=Option.some.inj hr23;simp only [pq,reduceCtorEq];simp [und,List.replicate,Nat.add_assoc,c24,c24M]
 ·skip
  have c24N:=c24;try simp at c24N
  first | have c24M : (_ = _) = True:=eq_true c24N | have c24M:=c24N
  rw [if_neg] at hr23;rotate_left
  ·simp [c24,c24M]
  refine Ze (by simp [bV,c24,c24M]) ?_;refine Zr ?_;obtain ⟨r27,q27,rfl⟩:=ms hr23;simp only [pq,reduceCtorEq];rintro rfl
  try simp only [pq,reduceCtorEq]
  unfold Zeq at q27;refine Za rfl (by simp [c24,c24M]; rfl) ?_;refine Zi ?_;obtain rfl:=Option.some.inj q27;simp [Zj,c24,c24M,c24N]
def kp112 : Keep:=fun i=>⟨[],[],[]⟩
theorem w112 {T : Tab} (hO : T.own = fun _=>[]) (hT84 : T 84 = some G84) (hT121 : T 121 = some G121) (a0 : (List Int)) (a1 : Int) (x : (List Int)) (hr : YG a0 a1 = some x) : ∃ kp fl n,Zt tt T G kp fl n Tryz.f112 (Zf3 (a0,a1)) = some (Zih (a0,a1) x):=by
 simp only [Zf3,Zih];refine fnE (kp:=kp112) (w:=true) body112 (by simp) ?_;unfold c112;rw [Tryz.ntmps112];unfold YG at hr;refine Za rfl (by simp []; rfl) ?_;obtain ⟨y3,hy3,hr⟩:=bs hr;have ehy3:=Zgo hy3;simp only [Ze6,ZgN,nf,nfs] at ehy3;obtain ⟨y4,hy4,hr⟩:=bs hr;have ehy4:=ZcU hy4;simp only [E84,R84,nf,nfs] at ehy4;refine Za rfl (by simp [hO,hT121,ehy3,hT84,ehy4]; rfl) ?_;refine Zi ?_;obtain rfl:=Option.some.inj hr;simp [Zj,hO,hT121,ehy3,hT84,ehy4]
end Go.Proofs.YtbjhgolpnjokbaaGreat
