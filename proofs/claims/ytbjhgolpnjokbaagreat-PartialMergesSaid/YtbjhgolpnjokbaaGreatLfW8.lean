import Derived.Test.YtbjhgolpnjokbaaGreatLfK
import Derived.Test.YtbjhgolpnjokbaaGreatCode
import Derived.Test.YtbjhgolpnjokbaaGreatBl
namespace Go.Proofs.YtbjhgolpnjokbaaGreat
open Go.RowKit
open Go.Av
open Go.Lc
set_option maxRecDepth 100000
set_option linter.unusedSimpArgs false
set_option linter.unusedVariables false
set_option maxHeartbeats 4000000
variable {G : Glob}
def kp85 : Keep:=fun i=>if i = 4 then ⟨[1,20,21,22],[1],[]⟩ else if i = 10 then ⟨[1,37,38,39],[1],[]⟩ else if i = 15 then ⟨[1,37,38,39,48,49,50],[1],[]⟩ else ⟨[],[],[]⟩
theorem w85 {T : Tab} (hO : T.own = fun _=>[]) (hT103 : T 103 = some G103) (a0 : Tapi_Tx) (x : Bool) (hr : Zdk a0 = some x) : ∃ kp fl n,Zt tt T G kp fl n Tryz.f85 (E85 a0) = some (R85 a0 x):=by
 simp only [E85,R85];refine fnE (kp:=kp85) (w:=false) body85 (by simp) ?_;unfold c85;rw [Tryz.ntmps85];unfold Zdk at hr;refine Za rfl (by simp []; rfl) ?_;refine Zb ?_;by_cases c35 : 64 < (a0.2.1.length : Int)
 ·skip
  have c35N:=c35;try simp at c35N
  first | have c35M : (_ = _) = True:=eq_true c35N | have c35M:=c35N
  refine Za rfl (by simp [c35,c35M]; rfl) ?_;rw [if_pos] at hr;rotate_left
  ·simp [c35,c35M]
  refine Zd (by simp [bV,c35,c35M]) ?_;refine Zb ?_;refine Za rfl (by simp [c35,c35M]; rfl) ?_;refine Zn ?_;obtain rfl:=Option.some.inj hr;simp [Zj,c35,c35M,c35N]
 ·skip
  have c35N:=c35;try simp at c35N
  first | have c35M : (_ = _) = True:=eq_true c35N | have c35M:=c35N
  refine Za rfl (by simp [c35,c35M]; rfl) ?_;by_cases c36 : 64 < (a0.2.2.1.length : Int)
  ·skip
   have c36N:=c36;try simp at c36N
   first | have c36M : (_ = _) = True:=eq_true c36N | have c36M:=c36N
   rw [if_pos] at hr;rotate_left
   ·simp [c35,c35M,c36,c36M]
   refine Zd (by simp [bV,c35,c35M,c36,c36M]) ?_;refine Zb ?_;refine Za rfl (by simp [c35,c35M,c36,c36M]; rfl) ?_;refine Zn ?_;obtain rfl:=Option.some.inj hr;simp [Zj,c35,c35M,c36,c36M,c35N,c36N]
  ·skip
   have c36N:=c36;try simp at c36N
   first | have c36M : (_ = _) = True:=eq_true c36N | have c36M:=c36N
   rw [if_neg] at hr;rotate_left
   ·simp [c35,c35M,c36,c36M]
   refine Ze (by simp [bV,c35,c35M,c36,c36M]) ?_;refine Zh ?_;refine Zb ?_;refine Za rfl (by simp [c35,c35M,c36,c36M]; rfl) ?_;refine Zg ?_;refine ZJ (kq:=⟨[1,20,21,22],[1],[]⟩) (H:=fun (s : Int)=>match s with | p4=>(⟨(und 1++([.ptr 1 0 0 0 4]++(und 18++([.one (.slice .no (List.map Zk a0.2.2.1)),.one (.v (.int .i64 (a0.2.2.1.length : Int))),.one (.v (.int .i64 p4))]++(und 40)))) : List PV),([(1,⟨0,4,[[.v (.int .u32 a0.1),.slice .no (List.map Zm a0.2.1),.slice .no (List.map Zk a0.2.2.1),.v (.int .u32 a0.2.2.2)]],false,false⟩)] : Boxes)⟩ : ASt)) (by kernel_rfl) hr (by simp [und,List.replicate,c35,c35M,c36,c36M]) ?_;rintro p4 x43r hr43
   simp only [Zc2] at hr43;unfold b85_1;simp only [und,List.replicate,List.cons_append,List.nil_append];refine Za rfl (by simp [c35,c35M,c36,c36M]; rfl) ?_;by_cases c44 : p4 < (a0.2.2.1.length : Int)
   ·skip
    have c44N:=c44;try simp at c44N
    first | have c44M : (_ = _) = True:=eq_true c44N | have c44M:=c44N
    rw [if_pos] at hr43;rotate_left
    ·simp [c35,c35M,c36,c36M,c44,c44M]
    refine Zd (by simp [bV,c35,c35M,c36,c36M,c44,c44M]) ?_;refine Zh ?_;refine Zg ?_;obtain ⟨x45,hx45,hr43⟩:=bs hr43;obtain ⟨hx45a,hx45b⟩:=Zz hx45;have hx45c:=Zq hx45b;refine Za rfl (by simp [hx45a,hx45b,hx45c,c35,c35M,c36,c36M,c44,c44M]; rfl) ?_;by_cases c46 : x45.1 < 0
    ·skip
     refine Za rfl (by simp [c35,c35M,c36,c36M,c44,c44M,c46]; rfl) ?_;rw [if_pos] at hr43;rotate_left
     ·simp [c35,c35M,c36,c36M,c44,c44M,c46]
     refine Zp (by simp [bV,c35,c35M,c36,c36M,c44,c44M,c46]) ?_;refine Za rfl (by simp [c35,c35M,c36,c36M,c44,c44M,c46]; rfl) ?_;refine Zi ?_;obtain rfl:=Option.some.inj hr43;simp only [pq,reduceCtorEq];rintro rfl
     simp [Zj,c35,c35M,c36,c36M,c44,c44M,c46,c35N,c36N,c44N]
    ·skip
     refine Za rfl (by simp [c35,c35M,c36,c36M,c44,c44M,c46]; rfl) ?_;by_cases c47 : 520 < (x45.2.length : Int)
     ·skip
      have c47N:=c47;try simp at c47N
      first | have c47M : (_ = _) = True:=eq_true c47N | have c47M:=c47N
      rw [if_pos] at hr43;rotate_left
      ·simp [c35,c35M,c36,c36M,c44,c44M,c46,c47,c47M]
      refine Zp (by simp [bV,c35,c35M,c36,c36M,c44,c44M,c46,c47,c47M]) ?_;refine Za rfl (by simp [c35,c35M,c36,c36M,c44,c44M,c46,c47,c47M]; rfl) ?_;refine Zi ?_;obtain rfl:=Option.some.inj hr43;simp only [pq,reduceCtorEq];rintro rfl
      simp [Zj,c35,c35M,c36,c36M,c44,c44M,c46,c47,c47M,c35N,c36N,c44N,c47N]
     ·skip
      have c47N:=c47;try simp at c47N
      first | have c47M : (_ = _) = True:=eq_true c47N | have c47M:=c47N
      rw [if_neg] at hr43;rotate_left
      ·simp [c35,c35M,c36,c36M,c44,c44M,c46,c47,c47M]
      refine Zy (by simp [bV,c35,c35M,c36,c36M,c44,c44M,c46,c47,c47M]) ?_;refine ZV ?_;simp only [pq,reduceCtorEq];refine ZA rfl (by simp [c35,c35M,c36,c36M,c44,c44M,c46,c47,c47M]; rfl) ?_;obtain rfl:=Option.some.inj hr43;simp only [pq,reduceCtorEq];simp [und,List.replicate,Nat.add_assoc,c35,c35M,c36,c36M,c44,c44M,c46,c47,c47M]
   ·skip
    have c44N:=c44;try simp at c44N
    first | have c44M : (_ = _) = True:=eq_true c44N | have c44M:=c44N
    rw [if_neg] at hr43;rotate_left
    ·simp [c35,c35M,c36,c36M,c44,c44M]
    refine Ze (by simp [bV,c35,c35M,c36,c36M,c44,c44M]) ?_;refine Zr ?_;obtain ⟨r48,q48,rfl⟩:=ms hr43;simp only [pq,reduceCtorEq];rintro rfl
    try simp only [pq,reduceCtorEq]
    unfold ZfA at q48;refine Zb ?_;refine Za rfl (by simp [c35,c35M,c36,c36M,c44,c44M]; rfl) ?_;refine Zg ?_;refine ZJ (kq:=⟨[1,37,38,39],[1],[]⟩) (H:=fun (s : Int)=>match s with | p19=>(⟨(und 1++([.ptr 1 0 0 0 4]++(und 35++([.one (.slice .no (List.map Zm a0.2.1)),.one (.v (.int .i64 (a0.2.1.length : Int))),.one (.v (.int .i64 p19))]++(und 23)))) : List PV),([(1,⟨0,4,[[.v (.int .u32 a0.1),.slice .no (List.map Zm a0.2.1),.slice .no (List.map Zk a0.2.2.1),.v (.int .u32 a0.2.2.2)]],false,false⟩)] : Boxes)⟩ : ASt)) (by kernel_rfl) q48 (by simp [und,List.replicate,c35,c35M,c36,c36M,c44,c44M]) ?_;rintro p19 x64r hr64
    simp only [Zc1] at hr64;unfold b85_2;simp only [und,List.replicate,List.cons_append,List.nil_append];refine Za rfl (by simp [c35,c35M,c36,c36M,c44,c44M]; rfl) ?_;by_cases c65 : p19 < (a0.2.1.length : Int)
    ·skip
     have c65N:=c65;try simp at c65N
     first | have c65M : (_ = _) = True:=eq_true c65N | have c65M:=c65N
     rw [if_pos] at hr64;rotate_left
     ·simp [c35,c35M,c36,c36M,c44,c44M,c65,c65M]
     refine Zd (by simp [bV,c35,c35M,c36,c36M,c44,c44M,c65,c65M]) ?_;refine Zh ?_;refine Zg ?_;obtain ⟨x66,hx66,hr64⟩:=bs hr64;obtain ⟨hx66a,hx66b⟩:=Zz hx66;have hx66c:=Zq hx66b;refine Za rfl (by simp [hx66a,hx66b,hx66c,c35,c35M,c36,c36M,c44,c44M,c65,c65M]; rfl) ?_;refine Zb ?_;refine Za rfl (by simp [c35,c35M,c36,c36M,c44,c44M,c65,c65M]; rfl) ?_;by_cases c67 : 32 < (x66.2.2.length : Int)
     ·skip
      have c67N:=c67;try simp at c67N
      first | have c67M : (_ = _) = True:=eq_true c67N | have c67M:=c67N
      rw [if_pos c67] at hr64;refine Zd (by simp [bV,c35,c35M,c36,c36M,c44,c44M,c65,c65M,c67,c67M]) ?_;refine Zb ?_;refine Za rfl (by simp [c35,c35M,c36,c36M,c44,c44M,c65,c65M,c67,c67M]; rfl) ?_;refine Zn ?_;obtain rfl:=Option.some.inj hr64;simp only [pq,reduceCtorEq];rintro rfl
      simp [Zj,c35,c35M,c36,c36M,c44,c44M,c65,c65M,c67,c67M,c35N,c36N,c44N,c65N,c67N]
     ·skip
      have c67N:=c67;try simp at c67N
      first | have c67M : (_ = _) = True:=eq_true c67N | have c67M:=c67N
      rw [if_neg c67] at hr64;refine Ze (by simp [bV,c35,c35M,c36,c36M,c44,c44M,c65,c65M,c67,c67M]) ?_;refine Zh ?_;refine Za rfl (by simp [c35,c35M,c36,c36M,c44,c44M,c65,c65M,c67,c67M]; rfl) ?_;refine ZaW ?_;refine ZJ (kq:=⟨[1,37,38,39,48,49,50],[1],[]⟩) (H:=fun (s : Int)=>match s with | p31=>(⟨(und 1++([.ptr 1 0 0 0 4]++(und 35++([.one (.slice .no (List.map Zm a0.2.1)),.one (.v (.int .i64 (a0.2.1.length : Int))),.one (.v (.int .i64 p19))]++(und 8++([.one (.slice .no (List.map Yd x66.2.2)),.one (.v (.int .i64 (x66.2.2.length : Int))),.one (.v (.int .i64 p31))]++(und 12)))))) : List PV),([(1,⟨0,4,[[.v (.int .u32 a0.1),.slice .no (List.map Zm a0.2.1),.slice .no (List.map Zk a0.2.2.1),.v (.int .u32 a0.2.2.2)]],false,false⟩)] : Boxes)⟩ : ASt)) (by kernel_rfl) hr64 (by simp [und,List.replicate,c35,c35M,c36,c36M,c44,c44M,c65,c65M,c67,c67M]) ?_;rintro p31 x73r hr73
      simp only [Zcc] at hr73;unfold b85_3;simp only [und,List.replicate,List.cons_append,List.nil_append];refine Za rfl (by simp [c35,c35M,c36,c36M,c44,c44M,c65,c65M,c67,c67M]; rfl) ?_;by_cases c74 : p31 < (x66.2.2.length : Int)
      ·skip
       have c74N:=c74;try simp at c74N
       first | have c74M : (_ = _) = True:=eq_true c74N | have c74M:=c74N
       rw [if_pos] at hr73;rotate_left
       ·simp [c35,c35M,c36,c36M,c44,c44M,c65,c65M,c67,c67M,c74,c74M]
       refine Zd (by simp [bV,c35,c35M,c36,c36M,c44,c44M,c65,c65M,c67,c67M,c74,c74M]) ?_;refine Zh ?_;refine Zg ?_;obtain ⟨x75,hx75,hr73⟩:=bs hr73;obtain ⟨hx75a,hx75b⟩:=Zz hx75;have hx75c:=Zq hx75b;refine Za rfl (by simp [hx75a,hx75b,hx75c,c35,c35M,c36,c36M,c44,c44M,c65,c65M,c67,c67M,c74,c74M]; rfl) ?_;refine Za rfl (by simp [c35,c35M,c36,c36M,c44,c44M,c65,c65M,c67,c67M,c74,c74M]; rfl) ?_;by_cases c76 : 520 < (x75.length : Int)
       ·skip
        have c76N:=c76;try simp at c76N
        first | have c76M : (_ = _) = True:=eq_true c76N | have c76M:=c76N
        rw [if_pos c76] at hr73;refine Zp (by simp [bV,c35,c35M,c36,c36M,c44,c44M,c65,c65M,c67,c67M,c74,c74M,c76,c76M]) ?_;refine Za rfl (by simp [c35,c35M,c36,c36M,c44,c44M,c65,c65M,c67,c67M,c74,c74M,c76,c76M]; rfl) ?_;refine Zi ?_;obtain rfl:=Option.some.inj hr73;simp only [pq,reduceCtorEq];rintro rfl
        simp only [pq,reduceCtorEq];rintro rfl
        simp [Zj,c35,c35M,c36,c36M,c44,c44M,c65,c65M,c67,c67M,c74,c74M,c76,c76M,c35N,c36N,c44N,c65N,c67N,c74N,c76N]
       ·skip
        have c76N:=c76;try simp at c76N
        first | have c76M : (_ = _) = True:=eq_true c76N | have c76M:=c76N
        rw [if_neg c76] at hr73;refine Zy (by simp [bV,c35,c35M,c36,c36M,c44,c44M,c65,c65M,c67,c67M,c74,c74M,c76,c76M]) ?_;refine ZV ?_;simp only [pq,reduceCtorEq];refine ZA rfl (by simp [c35,c35M,c36,c36M,c44,c44M,c65,c65M,c67,c67M,c74,c74M,c76,c76M]; rfl) ?_;obtain rfl:=Option.some.inj hr73;simp only [pq,reduceCtorEq];simp [und,List.replicate,Nat.add_assoc,c35,c35M,c36,c36M,c44,c44M,c65,c65M,c67,c67M,c74,c74M,c76,c76M]
      ·skip
       have c74N:=c74;try simp at c74N
       first | have c74M : (_ = _) = True:=eq_true c74N | have c74M:=c74N
       rw [if_neg] at hr73;rotate_left
       ·simp [c35,c35M,c36,c36M,c44,c44M,c65,c65M,c67,c67M,c74,c74M]
       refine Ze (by simp [bV,c35,c35M,c36,c36M,c44,c44M,c65,c65M,c67,c67M,c74,c74M]) ?_;refine Zr ?_;obtain ⟨r77,q77,rfl⟩:=ms hr73;simp only [pq,reduceCtorEq];rintro rfl
       try simp only [pq,reduceCtorEq]
       unfold Zg7 at q77;refine ZA rfl (by simp [c35,c35M,c36,c36M,c44,c44M,c65,c65M,c67,c67M,c74,c74M]; rfl) ?_;obtain rfl:=Option.some.inj q77;simp only [pq,reduceCtorEq];simp [und,List.replicate,Nat.add_assoc,c35,c35M,c36,c36M,c44,c44M,c65,c65M,c67,c67M,c74,c74M]
    ·skip
     have c65N:=c65;try simp at c65N
     first | have c65M : (_ = _) = True:=eq_true c65N | have c65M:=c65N
     rw [if_neg] at hr64;rotate_left
     ·simp [c35,c35M,c36,c36M,c44,c44M,c65,c65M]
     refine Ze (by simp [bV,c35,c35M,c36,c36M,c44,c44M,c65,c65M]) ?_;refine Zr ?_;obtain ⟨r78,q78,rfl⟩:=ms hr64;simp only [pq,reduceCtorEq];rintro rfl
     try simp only [pq,reduceCtorEq]
     unfold Zfz at q78;obtain ⟨y79,hy79,q78⟩:=bs q78;have ehy79:=Zr4 hy79;simp only [Zig,Zln,nf,nfs] at ehy79;refine Za rfl (by simp [hO,hT103,ehy79,c35,c35M,c36,c36M,c44,c44M,c65,c65M]; rfl) ?_;refine Zi ?_;obtain rfl:=Option.some.inj q78;simp [Zj,hO,hT103,ehy79,c35,c35M,c36,c36M,c44,c44M,c65,c65M,c35N,c36N,c44N,c65N]
def kp86 : Keep:=fun i=>if i = 3 then ⟨[3,6,7,8],[],[]⟩ else ⟨[],[],[]⟩
theorem w86 {T : Tab} (a0 : (List Tapi_Output)) (x : Bool) (hr : Zcr a0 = some x) : ∃ kp fl n,Zt tt T G kp fl n Tryz.f86 (E86 a0) = some (R86 a0 x):=by
 simp only [E86,R86];refine fnE (kp:=kp86) (w:=false) body86 (by simp) ?_;unfold c86;rw [Tryz.ntmps86];unfold Zcr at hr;refine Za rfl (by simp []; rfl) ?_;refine Za rfl (by simp []; rfl) ?_;refine Zb ?_;refine Za rfl (by simp []; rfl) ?_;refine Zg ?_;refine ZJ (kq:=⟨[3,6,7,8],[],[]⟩) (H:=fun (s : Int×Int)=>match s with | (p5,p6)=>(⟨(und 3++([.one (.v (.int .i64 p5))]++(und 2++([.one (.slice .no (List.map Zk a0)),.one (.v (.int .i64 (a0.length : Int))),.one (.v (.int .i64 p6))]++(und 13)))) : List PV),([] : Boxes)⟩ : ASt)) (by kernel_rfl) hr (by simp [und,List.replicate,]) ?_;rintro ⟨p5,p6⟩ x14r hr14
 simp only [Zck] at hr14;unfold b86_1;simp only [und,List.replicate,List.cons_append,List.nil_append];refine Za rfl (by simp []; rfl) ?_;by_cases c15 : p6 < (a0.length : Int)
 ·skip
  have c15N:=c15;try simp at c15N
  first | have c15M : (_ = _) = True:=eq_true c15N | have c15M:=c15N
  rw [if_pos] at hr14;rotate_left
  ·simp [c15,c15M]
  refine Zd (by simp [bV,c15,c15M]) ?_;refine Zh ?_;refine Zg ?_;obtain ⟨x16,hx16,hr14⟩:=bs hr14;obtain ⟨hx16a,hx16b⟩:=Zz hx16;have hx16c:=Zq hx16b;refine Za rfl (by simp [hx16a,hx16b,hx16c,c15,c15M]; rfl) ?_;refine Zb ?_;refine Za rfl (by simp [c15,c15M]; rfl) ?_;by_cases c17 : IntKind.i64.wrap (2100000000000000 - p5) < x16.1
  ·skip
   rw [if_pos] at hr14;rotate_left
   ·simp [c15,c15M,c17]
   refine Zd (by simp [bV,c15,c15M,c17]) ?_;refine Zb ?_;refine Za rfl (by simp [c15,c15M,c17]; rfl) ?_;refine Zn ?_;obtain rfl:=Option.some.inj hr14;simp only [pq,reduceCtorEq];rintro rfl
   simp [Zj,c15,c15M,c17,c15N]
  ·skip
   rw [if_neg] at hr14;rotate_left
   ·simp [c15,c15M,c17]
   refine Ze (by simp [bV,c15,c15M,c17]) ?_;refine Zh ?_;refine ZA rfl (by simp [c15,c15M,c17]; rfl) ?_;simp only [pq,reduceCtorEq];refine ZA rfl (by simp [c15,c15M,c17]; rfl) ?_;obtain rfl:=Option.some.inj hr14;simp only [pq,reduceCtorEq];simp [und,List.replicate,Nat.add_assoc,c15,c15M,c17]
 ·skip
  have c15N:=c15;try simp at c15N
  first | have c15M : (_ = _) = True:=eq_true c15N | have c15M:=c15N
  rw [if_neg] at hr14;rotate_left
  ·simp [c15,c15M]
  refine Ze (by simp [bV,c15,c15M]) ?_;refine Zr ?_;obtain ⟨r18,q18,rfl⟩:=ms hr14;simp only [pq,reduceCtorEq];rintro rfl
  try simp only [pq,reduceCtorEq]
  unfold Ltx_money_k1 at q18;refine Za rfl (by simp [c15,c15M]; rfl) ?_;refine Zi ?_;obtain rfl:=Option.some.inj q18;simp [Zj,c15,c15M,c15N]
def kp51 : Keep:=fun i=>if i = 9 then ⟨[1,3,25,26,27],[1,1000000000023],[]⟩ else ⟨[],[],[]⟩
theorem w51 {T : Tab} (hO : T.own = fun _=>[]) (hT52 : T 52 = some G52) (hT85 : T 85 = some G85) (hT86 : T 86 = some G86) (a0 : Tapi_Tx) (x : Int) (hr : ZbR a0 = some x) : ∃ kp fl n,Zt tt T G kp fl n Tryz.f51 (E51 a0) = some (R51 a0 x):=by
 simp only [E51,R51];refine fnE (kp:=kp51) (w:=false) body51 (by simp) ?_;unfold c51;rw [Tryz.ntmps51];unfold ZbR at hr;refine Za rfl (by simp []; rfl) ?_;refine Zb ?_;obtain ⟨y13,hy13,hr⟩:=bs hr;have ehy13:=ZsX hy13;simp only [E85,R85,nf,nfs] at ehy13;refine Za rfl (by simp [hO,hT85,ehy13]; rfl) ?_;by_cases c14 : y13 = true
 ·skip
  rw [if_neg (not_not_intro c14)] at hr;refine Ze (by simp [bV,c14]) ?_;refine Zh ?_;refine Zb ?_;by_cases c15 : (a0.2.1.length : Int) = 0
  ·skip
   have c15N:=c15;try simp at c15N
   refine Za rfl (by simp [c14,eq_true c15,eq_true c15N]; rfl) ?_;rw [if_pos] at hr;rotate_left
   ·simp [c14,eq_true c15,eq_true c15N]
   refine Zd (by simp [bV,c14,eq_true c15,eq_true c15N]) ?_;refine Zb ?_;refine Za rfl (by simp [c14,eq_true c15,eq_true c15N]; rfl) ?_;refine Zn ?_;obtain rfl:=Option.some.inj hr;simp [Zj,c14,eq_true c15,eq_true c15N]
  ·skip
   have c15N:=c15;try simp at c15N
   first | have c15M : (_ = _) = True:=eq_true c15N | have c15M:=c15N
   refine Za rfl (by simp [c14,c15,c15M]; rfl) ?_;by_cases c16 : (a0.2.2.1.length : Int) = 0
   ·skip
    have c16N:=c16;try simp at c16N
    rw [if_pos] at hr;rotate_left
    ·simp [c14,c15,c15M,eq_true c16,eq_true c16N]
    refine Zd (by simp [bV,c14,c15,c15M,eq_true c16,eq_true c16N]) ?_;refine Zb ?_;refine Za rfl (by simp [c14,c15,c15M,eq_true c16,eq_true c16N]; rfl) ?_;refine Zn ?_;obtain rfl:=Option.some.inj hr;simp [Zj,c14,c15,c15M,eq_true c16,eq_true c16N,c15N]
   ·skip
    have c16N:=c16;try simp at c16N
    first | have c16M : (_ = _) = True:=eq_true c16N | have c16M:=c16N
    rw [if_neg] at hr;rotate_left
    ·simp [c14,c15,c15M,c16,c16M]
    refine Ze (by simp [bV,c14,c15,c15M,c16,c16M]) ?_;refine Zh ?_;refine Zb ?_;obtain ⟨y17,hy17,hr⟩:=bs hr;have ehy17:=ZsY hy17;simp only [E86,R86,nf,nfs] at ehy17;refine Za rfl (by simp [hO,hT86,ehy17,c14,c15,c15M,c16,c16M]; rfl) ?_;by_cases c18 : y17 = true
    ·skip
     rw [if_neg (not_not_intro c18)] at hr;refine Ze (by simp [bV,c14,c15,c15M,c16,c16M,c18]) ?_;refine Zh ?_;refine Za rfl (by simp [c14,c15,c15M,c16,c16M,c18]; rfl) ?_;refine Zb ?_;refine Za rfl (by simp [c14,c15,c15M,c16,c16M,c18]; rfl) ?_;refine Zg ?_;refine ZJ (kq:=⟨[1,3,25,26,27],[1,1000000000023],[]⟩) (H:=fun (s : Int×(List (Tapi_OutPoint×Bool)))=>match s with | (p7,p8)=>(⟨(und 1++([.ptr 1 0 0 0 4]++(und 1++([.one (.mp 1000000000023 0)]++(und 21++([.one (.slice .no (List.map Zm a0.2.1)),.one (.v (.int .i64 (a0.2.1.length : Int))),.one (.v (.int .i64 p7))]++(und 19)))))) : List PV),([(1,⟨0,4,[[.v (.int .u32 a0.1),.slice .no (List.map Zm a0.2.1),.slice .no (List.map Zk a0.2.2.1),.v (.int .u32 a0.2.2.2)]],false,false⟩),(1000000000023,⟨0,6,((arC .u8 (zA 32))++((.v (.int .u32 0)) :: [])) :: List.map Za4 p8,false,false⟩)] : Boxes)⟩ : ASt)) (by kernel_rfl) hr (by simp [und,List.replicate,c14,c15,c15M,c16,c16M,c18]) ?_;rintro ⟨p7,p8⟩ x24r hr24
     simp only [Zcl] at hr24;unfold b51_1;simp only [und,List.replicate,List.cons_append,List.nil_append];refine Za rfl (by simp [c14,c15,c15M,c16,c16M,c18]; rfl) ?_;by_cases c25 : p7 < (a0.2.1.length : Int)
     ·skip
      have c25N:=c25;try simp at c25N
      first | have c25M : (_ = _) = True:=eq_true c25N | have c25M:=c25N
      rw [if_pos] at hr24;rotate_left
      ·simp [c14,c15,c15M,c16,c16M,c18,c25,c25M]
      refine Zd (by simp [bV,c14,c15,c15M,c16,c16M,c18,c25,c25M]) ?_;refine Zh ?_;refine Zg ?_;obtain ⟨x26,hx26,hr24⟩:=bs hr24;obtain ⟨hx26a,hx26b⟩:=Zz hx26;have hx26c:=Zq hx26b;refine Za rfl (by simp [hx26a,hx26b,hx26c,c14,c15,c15M,c16,c16M,c18,c25,c25M]; rfl) ?_;refine Zb ?_;refine Za rfl (by simp [c14,c15,c15M,c16,c16M,c18,c25,c25M]; rfl) ?_;by_cases c27 : (Zc5 x26.1 p8).getD false = true
      ·skip
       rw [if_pos] at hr24;rotate_left
       ·simp [c14,c15,c15M,c16,c16M,c18,c25,c25M,c27]
       refine Zd (by simp [bV,c14,c15,c15M,c16,c16M,c18,c25,c25M,c27]) ?_;refine Zb ?_;refine Za rfl (by simp [c14,c15,c15M,c16,c16M,c18,c25,c25M,c27]; rfl) ?_;refine Zn ?_;obtain rfl:=Option.some.inj hr24;simp only [pq,reduceCtorEq];rintro rfl
       simp [Zj,c14,c15,c15M,c16,c16M,c18,c25,c25M,c27,c15N,c16N,c25N]
      ·skip
       rw [if_neg] at hr24;rotate_left
       ·simp [c14,c15,c15M,c16,c16M,c18,c25,c25M,c27]
       refine Ze (by simp [bV,c14,c15,c15M,c16,c16M,c18,c25,c25M,c27]) ?_;refine Zh ?_;refine ZA rfl (by simp [c14,c15,c15M,c16,c16M,c18,c25,c25M,c27]; rfl) ?_;simp only [pq,reduceCtorEq];refine ZA rfl (by simp [c14,c15,c15M,c16,c16M,c18,c25,c25M,c27]; rfl) ?_;obtain rfl:=Option.some.inj hr24;simp only [pq,reduceCtorEq];simp [und,List.replicate,Nat.add_assoc,c14,c15,c15M,c16,c16M,c18,c25,c25M,c27]
     ·skip
      have c25N:=c25;try simp at c25N
      first | have c25M : (_ = _) = True:=eq_true c25N | have c25M:=c25N
      rw [if_neg] at hr24;rotate_left
      ·simp [c14,c15,c15M,c16,c16M,c18,c25,c25M]
      refine Ze (by simp [bV,c14,c15,c15M,c16,c16M,c18,c25,c25M]) ?_;refine Zr ?_;obtain ⟨r28,q28,rfl⟩:=ms hr24;simp only [pq,reduceCtorEq];rintro rfl
      try simp only [pq,reduceCtorEq]
      unfold Zgz at q28;refine Zb ?_;by_cases c29 : (Zc5 (zA 32,4294967295) p8).getD false = true
      ·skip
       rw [if_pos] at q28;rotate_left
       ·simp [c14,c15,c15M,c16,c16M,c18,c25,c25M,c29]
       obtain ⟨z30,hz30,q28⟩:=bs q28;obtain ⟨y31,hy31,hz30⟩:=bs hz30;have ehy31:=ZpQ hy31;simp only [E52,R52,nf,nfs] at ehy31;obtain rfl:=Option.some.inj hz30;refine Za rfl (by simp [hO,hT52,ehy31,c14,c15,c15M,c16,c16M,c18,c25,c25M,c29]; rfl) ?_;by_cases c32 : y31 = true
       ·skip
        rw [if_neg] at q28;rotate_left
        ·simp [c14,c15,c15M,c16,c16M,c18,c25,c25M,c29,c32]
        refine Ze (by simp [bV,c14,c15,c15M,c16,c16M,c18,c25,c25M,c29,c32]) ?_;refine Zh ?_;refine Za rfl (by simp [c14,c15,c15M,c16,c16M,c18,c25,c25M,c29,c32]; rfl) ?_;refine Zi ?_;obtain rfl:=Option.some.inj q28;simp [Zj,c14,c15,c15M,c16,c16M,c18,c25,c25M,c29,c32,c15N,c16N,c25N]
       ·skip
        rw [if_pos] at q28;rotate_left
        ·simp [c14,c15,c15M,c16,c16M,c18,c25,c25M,c29,c32]
        refine Zd (by simp [bV,c14,c15,c15M,c16,c16M,c18,c25,c25M,c29,c32]) ?_;refine Zb ?_;refine Za rfl (by simp [c14,c15,c15M,c16,c16M,c18,c25,c25M,c29,c32]; rfl) ?_;refine Zn ?_;obtain rfl:=Option.some.inj q28;simp [Zj,c14,c15,c15M,c16,c16M,c18,c25,c25M,c29,c32,c15N,c16N,c25N]
      ·skip
       rw [if_neg] at q28;rotate_left
       ·simp [c14,c15,c15M,c16,c16M,c18,c25,c25M,c29]
       obtain ⟨z33,hz33,q28⟩:=bs q28;obtain rfl:=Option.some.inj hz33;refine Za rfl (by simp [c14,c15,c15M,c16,c16M,c18,c25,c25M,c29]; rfl) ?_;rw [if_neg] at q28;rotate_left
       ·simp [c14,c15,c15M,c16,c16M,c18,c25,c25M,c29]
       refine Ze (by simp [bV,c14,c15,c15M,c16,c16M,c18,c25,c25M,c29]) ?_;refine Zh ?_;refine Za rfl (by simp [c14,c15,c15M,c16,c16M,c18,c25,c25M,c29]; rfl) ?_;refine Zi ?_;obtain rfl:=Option.some.inj q28;simp [Zj,c14,c15,c15M,c16,c16M,c18,c25,c25M,c29,c15N,c16N,c25N]
    ·skip
     rw [if_pos c18] at hr;refine Zd (by simp [bV,c14,c15,c15M,c16,c16M,c18]) ?_;refine Zb ?_;refine Za rfl (by simp [c14,c15,c15M,c16,c16M,c18]; rfl) ?_;refine Zn ?_;obtain rfl:=Option.some.inj hr;simp [Zj,c14,c15,c15M,c16,c16M,c18,c15N,c16N]
 ·skip
  rw [if_pos c14] at hr;refine Zd (by simp [bV,c14]) ?_;refine Zb ?_;refine Za rfl (by simp [c14]; rfl) ?_;refine Zn ?_;obtain rfl:=Option.some.inj hr;simp [Zj,c14]
def kp88 : Keep:=fun i=>if i = 3 then ⟨[4,7,8,9],[],[]⟩ else ⟨[],[],[]⟩
theorem w88 {T : Tab} (a0 : (List Tapi_Coin)) (x : Int×Bool) (hr : ZbS a0 = some x) : ∃ kp fl n,Zt tt T G kp fl n Tryz.f88 (E88 a0) = some (R88 a0 x):=by
 simp only [E88,R88];refine fnE (kp:=kp88) (w:=false) body88 (by simp) ?_;unfold c88;rw [Tryz.ntmps88];unfold ZbS at hr;refine Za rfl (by simp []; rfl) ?_;refine Za rfl (by simp []; rfl) ?_;refine Zb ?_;refine Za rfl (by simp []; rfl) ?_;refine Zg ?_;refine ZJ (kq:=⟨[4,7,8,9],[],[]⟩) (H:=fun (s : Int×Int)=>match s with | (p5,p6)=>(⟨(und 4++([.one (.v (.int .i64 p5))]++(und 2++([.one (.slice .no (List.map ZB a0)),.one (.v (.int .i64 (a0.length : Int))),.one (.v (.int .i64 p6))]++(und 22)))) : List PV),([] : Boxes)⟩ : ASt)) (by kernel_rfl) hr (by simp [und,List.replicate,]) ?_;rintro ⟨p5,p6⟩ x15r hr15
 simp only [ZbE] at hr15;unfold b88_1;simp only [und,List.replicate,List.cons_append,List.nil_append];refine Za rfl (by simp []; rfl) ?_;by_cases c16 : p6 < (a0.length : Int)
 ·skip
  have c16N:=c16;try simp at c16N
  first | have c16M : (_ = _) = True:=eq_true c16N | have c16M:=c16N
  rw [if_pos] at hr15;rotate_left
  ·simp [c16,c16M]
  refine Zd (by simp [bV,c16,c16M]) ?_;refine Zh ?_;refine Zg ?_;obtain ⟨x17,hx17,hr15⟩:=bs hr15;obtain ⟨hx17a,hx17b⟩:=Zz hx17;have hx17c:=Zq hx17b;refine Za rfl (by simp [hx17a,hx17b,hx17c,c16,c16M]; rfl) ?_;refine Zb ?_;by_cases c18 : x17.2.1.1 < 0
  ·skip
   refine Za rfl (by simp [c16,c16M,c18]; rfl) ?_;rw [if_pos] at hr15;rotate_left
   ·simp [c16,c16M,c18]
   refine Zd (by simp [bV,c16,c16M,c18]) ?_;refine Zb ?_;refine Za rfl (by simp [c16,c16M,c18]; rfl) ?_;refine Zn ?_;obtain rfl:=Option.some.inj hr15;simp only [pq,reduceCtorEq];rintro rfl
   simp [Zj,c16,c16M,c18,c16N]
  ·skip
   refine Za rfl (by simp [c16,c16M,c18]; rfl) ?_;by_cases c19 : IntKind.i64.wrap (2100000000000000 - p5) < x17.2.1.1
   ·skip
    rw [if_pos] at hr15;rotate_left
    ·simp [c16,c16M,c18,c19]
    refine Zd (by simp [bV,c16,c16M,c18,c19]) ?_;refine Zb ?_;refine Za rfl (by simp [c16,c16M,c18,c19]; rfl) ?_;refine Zn ?_;obtain rfl:=Option.some.inj hr15;simp only [pq,reduceCtorEq];rintro rfl
    simp [Zj,c16,c16M,c18,c19,c16N]
   ·skip
    rw [if_neg] at hr15;rotate_left
    ·simp [c16,c16M,c18,c19]
    refine Ze (by simp [bV,c16,c16M,c18,c19]) ?_;refine Zh ?_;refine ZA rfl (by simp [c16,c16M,c18,c19]; rfl) ?_;simp only [pq,reduceCtorEq];refine ZA rfl (by simp [c16,c16M,c18,c19]; rfl) ?_;obtain rfl:=Option.some.inj hr15;simp only [pq,reduceCtorEq];simp [und,List.replicate,Nat.add_assoc,c16,c16M,c18,c19]
 ·skip
  have c16N:=c16;try simp at c16N
  first | have c16M : (_ = _) = True:=eq_true c16N | have c16M:=c16N
  rw [if_neg] at hr15;rotate_left
  ·simp [c16,c16M]
  refine Ze (by simp [bV,c16,c16M]) ?_;refine Zr ?_;obtain ⟨r20,q20,rfl⟩:=ms hr15;simp only [pq,reduceCtorEq];rintro rfl
  try simp only [pq,reduceCtorEq]
  unfold Zir at q20;refine Za rfl (by simp [c16,c16M]; rfl) ?_;refine Zi ?_;obtain rfl:=Option.some.inj q20;simp [Zj,c16,c16M,c16N]
def kp53 : Keep:=fun i=>if i = 7 then ⟨[1,2,24,25,26],[2],[]⟩ else if i = 16 then ⟨[9,49,50,51],[],[]⟩ else ⟨[],[],[]⟩
theorem w53 {T : Tab} (hO : T.own = fun _=>[]) (hT51 : T 51 = some G51) (hT88 : T 88 = some G88) (a0 : Tapi_Tx) (a1 : (List Tapi_Coin)) (x : Int×Int) (hr : ZbT a0 a1 = some x) : ∃ kp fl n,Zt tt T G kp fl n Tryz.f53 (E53 (a0,a1)) = some (R53 (a0,a1) x):=by
 simp only [E53,R53];refine fnE (kp:=kp53) (w:=false) body53 (by simp) ?_;unfold c53;rw [Tryz.ntmps53];unfold ZbT at hr;refine Za rfl (by simp []; rfl) ?_;refine Zb ?_;obtain ⟨y21,hy21,hr⟩:=bs hr;have ehy21:=ZpR hy21;simp only [E51,R51,nf,nfs] at ehy21;refine Za rfl (by simp [hO,hT51,ehy21]; rfl) ?_;refine Zb ?_;refine Za rfl (by simp []; rfl) ?_;by_cases c22 : y21 = 0
 ·skip
  rw [if_neg (not_not_intro c22)] at hr;refine Ze (by simp [bV,eq_true c22]) ?_;refine Zh ?_;refine Zb ?_;refine Za rfl (by simp [eq_true c22]; rfl) ?_;by_cases c23 : (a1.length : Int) = (a0.2.1.length : Int)
  ·skip
   have c23N:=c23;try simp at c23N
   rw [if_neg (not_not_intro c23)] at hr;refine Ze (by simp [bV,eq_true c22,eq_true c23,eq_true c23N]) ?_;refine Zh ?_;refine Zb ?_;refine Za rfl (by simp [eq_true c22,eq_true c23,eq_true c23N]; rfl) ?_;refine Zg ?_;refine ZJ (kq:=⟨[1,2,24,25,26],[2],[]⟩) (H:=fun (s : Int)=>match s with | p7=>(⟨(und 1++([.one (.slice .no (List.map ZB a1)),.ptr 2 0 0 0 4]++(und 21++([.one (.slice .no (List.map ZB a1)),.one (.v (.int .i64 (a1.length : Int))),.one (.v (.int .i64 p7))]++(und 36)))) : List PV),([(2,⟨0,4,[[.v (.int .u32 a0.1),.slice .no (List.map Zm a0.2.1),.slice .no (List.map Zk a0.2.2.1),.v (.int .u32 a0.2.2.2)]],false,false⟩)] : Boxes)⟩ : ASt)) (by kernel_rfl) hr (by simp [und,List.replicate,eq_true c22,eq_true c23,eq_true c23N]) ?_;rintro p7 x31r hr31
   simp only [ZbF] at hr31;unfold b53_1;simp only [und,List.replicate,List.cons_append,List.nil_append];refine Za rfl (by simp [eq_true c22,eq_true c23,eq_true c23N]; rfl) ?_;by_cases c32 : p7 < (a1.length : Int)
   ·skip
    have c32N:=c32;try simp at c32N
    first | have c32M : (_ = _) = True:=eq_true c32N | have c32M:=c32N
    rw [if_pos] at hr31;rotate_left
    ·simp [eq_true c22,eq_true c23,eq_true c23N,c32,c32M]
    refine Zd (by simp [bV,eq_true c22,eq_true c23,eq_true c23N,c32,c32M]) ?_;refine Zh ?_;refine Zg ?_;obtain ⟨x33,hx33,hr31⟩:=bs hr31;obtain ⟨hx33a,hx33b⟩:=Zz hx33;have hx33c:=Zq hx33b;refine Za rfl (by simp [hx33a,hx33b,hx33c,eq_true c22,eq_true c23,eq_true c23N,c32,c32M]; rfl) ?_;obtain ⟨x34,hx34,hr31⟩:=bs hr31;obtain ⟨hx34a,hx34b⟩:=Zz hx34;have hx34c:=Zq hx34b;refine ZC rfl (by simp [hx34a,hx34b,hx34c,eq_true c22,eq_true c23,eq_true c23N,c32,c32M]; first | exact ⟨rfl,rfl⟩ | rfl) (by kernel_rfl) ?_;by_cases c35 : x33.1.1 = x34.1.1
    ·skip
     by_cases c36 : x33.1.2 = x34.1.2
     ·skip
      rw [if_neg] at hr31;rotate_left
      ·simp [eq_true c22,eq_true c23,eq_true c23N,c32,c32M,eq_true c35,eq_true c36]
      refine Zy (by simp [bV,eq_true c22,eq_true c23,eq_true c23N,c32,c32M,eq_true c35,eq_true c36]) ?_;refine ZV ?_;simp only [pq,reduceCtorEq];refine ZA rfl (by simp [eq_true c22,eq_true c23,eq_true c23N,c32,c32M,eq_true c35,eq_true c36]; rfl) ?_;obtain rfl:=Option.some.inj hr31;simp only [pq,reduceCtorEq];simp [und,List.replicate,Nat.add_assoc,eq_true c22,eq_true c23,eq_true c23N,c32,c32M,eq_true c35,eq_true c36]
     ·skip
      rw [if_pos] at hr31;rotate_left
      ·simp [eq_true c22,eq_true c23,eq_true c23N,c32,c32M,eq_true c35,c36]
      refine Zp (by simp [bV,eq_true c22,eq_true c23,eq_true c23N,c32,c32M,eq_true c35,c36]) ?_;refine Za rfl (by simp [eq_true c22,eq_true c23,eq_true c23N,c32,c32M,eq_true c35,c36]; rfl) ?_;refine Zi ?_;obtain rfl:=Option.some.inj hr31;simp only [pq,reduceCtorEq];rintro rfl
      simp [Zj,eq_true c22,eq_true c23,eq_true c23N,c32,c32M,eq_true c35,c36,c32N]
    ·skip
     rw [if_pos] at hr31;rotate_left
     ·simp [eq_true c22,eq_true c23,eq_true c23N,c32,c32M,c35]
     refine Zp (by simp [bV,eq_true c22,eq_true c23,eq_true c23N,c32,c32M,c35]) ?_;refine Za rfl (by simp [eq_true c22,eq_true c23,eq_true c23N,c32,c32M,c35]; rfl) ?_;refine Zi ?_;obtain rfl:=Option.some.inj hr31;simp only [pq,reduceCtorEq];rintro rfl
     simp [Zj,eq_true c22,eq_true c23,eq_true c23N,c32,c32M,c35,c32N]
   ·skip
    have c32N:=c32;try simp at c32N
    first | have c32M : (_ = _) = True:=eq_true c32N | have c32M:=c32N
    rw [if_neg] at hr31;rotate_left
    ·simp [eq_true c22,eq_true c23,eq_true c23N,c32,c32M]
    refine Ze (by simp [bV,eq_true c22,eq_true c23,eq_true c23N,c32,c32M]) ?_;refine Zr ?_;obtain ⟨r37,q37,rfl⟩:=ms hr31;simp only [pq,reduceCtorEq];rintro rfl
    try simp only [pq,reduceCtorEq]
    unfold Zeb at q37;obtain ⟨y38,hy38,q37⟩:=bs q37;have ehy38:=ZsZ hy38;simp only [E88,R88,nf,nfs] at ehy38;refine Za rfl (by simp [hO,hT88,ehy38,eq_true c22,eq_true c23,eq_true c23N,c32,c32M]; rfl) ?_;refine Zb ?_;refine Za rfl (by simp [eq_true c22,eq_true c23,eq_true c23N,c32,c32M]; rfl) ?_;by_cases c39 : y38.2 = true
    ·skip
     rw [if_neg (not_not_intro c39)] at q37;refine Ze (by simp [bV,eq_true c22,eq_true c23,eq_true c23N,c32,c32M,c39]) ?_;refine Zh ?_;refine Zb ?_;refine Za rfl (by simp [eq_true c22,eq_true c23,eq_true c23N,c32,c32M,c39]; rfl) ?_;refine Zg ?_;refine ZJ (kq:=⟨[9,49,50,51],[],[]⟩) (H:=fun (s : Int×Int)=>match s with | (p15,p16)=>(⟨(und 9++([.one (.v (.int .i64 p15))]++(und 39++([.one (.slice .no (List.map Zk a0.2.2.1)),.one (.v (.int .i64 (a0.2.2.1.length : Int))),.one (.v (.int .i64 p16))]++(und 11)))) : List PV),([] : Boxes)⟩ : ASt)) (by kernel_rfl) q37 (by simp [und,List.replicate,eq_true c22,eq_true c23,eq_true c23N,c32,c32M,c39]) ?_;rintro ⟨p15,p16⟩ x44r hr44
     simp only [ZfT] at hr44;unfold b53_2;simp only [und,List.replicate,List.cons_append,List.nil_append];refine Za rfl (by simp [eq_true c22,eq_true c23,eq_true c23N,c32,c32M,c39]; rfl) ?_;by_cases c45 : p16 < (a0.2.2.1.length : Int)
     ·skip
      have c45N:=c45;try simp at c45N
      first | have c45M : (_ = _) = True:=eq_true c45N | have c45M:=c45N
      rw [if_pos] at hr44;rotate_left
      ·simp [eq_true c22,eq_true c23,eq_true c23N,c32,c32M,c39,c45,c45M]
      refine Zd (by simp [bV,eq_true c22,eq_true c23,eq_true c23N,c32,c32M,c39,c45,c45M]) ?_;refine Zh ?_;refine Zg ?_;obtain ⟨x46,hx46,hr44⟩:=bs hr44;obtain ⟨hx46a,hx46b⟩:=Zz hx46;have hx46c:=Zq hx46b;refine Za rfl (by simp [hx46a,hx46b,hx46c,eq_true c22,eq_true c23,eq_true c23N,c32,c32M,c39,c45,c45M]; rfl) ?_;refine ZA rfl (by simp [eq_true c22,eq_true c23,eq_true c23N,c32,c32M,c39,c45,c45M]; rfl) ?_;simp only [pq,reduceCtorEq];refine ZA rfl (by simp [eq_true c22,eq_true c23,eq_true c23N,c32,c32M,c39,c45,c45M]; rfl) ?_;obtain rfl:=Option.some.inj hr44;simp only [pq,reduceCtorEq];simp [und,List.replicate,Nat.add_assoc,eq_true c22,eq_true c23,eq_true c23N,c32,c32M,c39,c45,c45M]
     ·skip
      have c45N:=c45;try simp at c45N
      first | have c45M : (_ = _) = True:=eq_true c45N | have c45M:=c45N
      rw [if_neg] at hr44;rotate_left
      ·simp [eq_true c22,eq_true c23,eq_true c23N,c32,c32M,c39,c45,c45M]
      refine Ze (by simp [bV,eq_true c22,eq_true c23,eq_true c23N,c32,c32M,c39,c45,c45M]) ?_;refine Zr ?_;obtain ⟨r47,q47,rfl⟩:=ms hr44;simp only [pq,reduceCtorEq];rintro rfl
      try simp only [pq,reduceCtorEq]
      unfold Zis at q47;refine Zb ?_;refine Za rfl (by simp [eq_true c22,eq_true c23,eq_true c23N,c32,c32M,c39,c45,c45M]; rfl) ?_;by_cases c48 : p15 < 0
      ·skip
       rw [if_pos c48] at q47;refine Zd (by simp [bV,eq_true c22,eq_true c23,eq_true c23N,c32,c32M,c39,c45,c45M,c48]) ?_;refine Zb ?_;refine Za rfl (by simp [eq_true c22,eq_true c23,eq_true c23N,c32,c32M,c39,c45,c45M,c48]; rfl) ?_;refine Zn ?_;obtain rfl:=Option.some.inj q47;simp [Zj,eq_true c22,eq_true c23,eq_true c23N,c32,c32M,c39,c45,c45M,c48,c32N,c45N]
      ·skip
       rw [if_neg c48] at q47;refine Ze (by simp [bV,eq_true c22,eq_true c23,eq_true c23N,c32,c32M,c39,c45,c45M,c48]) ?_;refine Zh ?_;refine Za rfl (by simp [eq_true c22,eq_true c23,eq_true c23N,c32,c32M,c39,c45,c45M,c48]; rfl) ?_;refine Zi ?_;obtain rfl:=Option.some.inj q47;simp [Zj,eq_true c22,eq_true c23,eq_true c23N,c32,c32M,c39,c45,c45M,c48,c32N,c45N]
    ·skip
     rw [if_pos c39] at q37;refine Zd (by simp [bV,eq_true c22,eq_true c23,eq_true c23N,c32,c32M,c39]) ?_;refine Zb ?_;refine Za rfl (by simp [eq_true c22,eq_true c23,eq_true c23N,c32,c32M,c39]; rfl) ?_;refine Zn ?_;obtain rfl:=Option.some.inj q37;simp [Zj,eq_true c22,eq_true c23,eq_true c23N,c32,c32M,c39,c32N]
  ·skip
   have c23N:=c23;try simp at c23N
   first | have c23M : (_ = _) = True:=eq_true c23N | have c23M:=c23N
   rw [if_pos c23] at hr;refine Zd (by simp [bV,eq_true c22,c23,c23M]) ?_;refine Zb ?_;refine Za rfl (by simp [eq_true c22,c23,c23M]; rfl) ?_;refine Zn ?_;obtain rfl:=Option.some.inj hr;simp [Zj,eq_true c22,c23,c23M,c23N]
 ·skip
  rw [if_pos c22] at hr;refine Zd (by simp [bV,c22]) ?_;refine Zb ?_;refine Za rfl (by simp [c22]; rfl) ?_;refine Zn ?_;obtain rfl:=Option.some.inj hr;simp [Zj,c22]
end Go.Proofs.YtbjhgolpnjokbaaGreat
