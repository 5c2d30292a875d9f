import Derived.Test.YtbjhgolpnjokbaaGreatLfK
import Derived.Test.YtbjhgolpnjokbaaGreatCode
import Derived.Test.YtbjhgolpnjokbaaGreatBl
namespace Go.Proofs.YtbjhgolpnjokbaaGreat
open Go.RowKit
open Go.Av
open Go.Lc
set_option maxRecDepth 100000
set_option linter.unusedSimpArgs false
set_option linter.unusedVariables false
set_option maxHeartbeats 4000000
variable {G : Glob}
def kp57 : Keep:=fun i=>if i = 7 then ⟨[1,3,24,25,26],[1],[]⟩ else if i = 16 then ⟨[1,42,43],[1],[]⟩ else if i = 19 then ⟨[1,6,7,42,43],[1],[]⟩ else if i = 25 then ⟨[1,66,67,68],[1],[]⟩ else ⟨[],[],[]⟩
theorem w57 {T : Tab} (hO : T.own = fun _=>[]) (hT58 : T 58 = some G58) (hT92 : T 92 = some G92) (hT93 : T 93 = some G93) (a0 : Tapi_Tx) (x : Int) (hr : X0 a0 = some x) : ∃ kp fl n,Zt tt T G kp fl n Tryz.f57 (E57 a0) = some (R57 a0 x):=by
 simp only [E57,R57];refine fnE (kp:=kp57) (w:=false) body57 (by simp) ?_;unfold c57;rw [Tryz.ntmps57];unfold X0 at hr;refine Za rfl (by simp []; rfl) ?_;refine Zb ?_;obtain ⟨y63,hy63,hr⟩:=bs hr;have ehy63:=Zti hy63;simp only [E92,R92,nf,nfs] at ehy63;refine Za rfl (by simp [hO,hT92,ehy63]; rfl) ?_;by_cases c64 : y63 = true
 ·skip
  rw [if_neg (not_not_intro c64)] at hr;refine Ze (by simp [bV,c64]) ?_;refine Zh ?_;refine Zb ?_;by_cases c65 : (a0.2.1.length : Int) = 0
  ·skip
   have c65N:=c65;try simp at c65N
   refine Za rfl (by simp [c64,eq_true c65,eq_true c65N]; rfl) ?_;rw [if_pos] at hr;rotate_left
   ·simp [c64,eq_true c65,eq_true c65N]
   refine Zd (by simp [bV,c64,eq_true c65,eq_true c65N]) ?_;refine Zb ?_;refine Za rfl (by simp [c64,eq_true c65,eq_true c65N]; rfl) ?_;refine Zn ?_;obtain rfl:=Option.some.inj hr;simp [Zj,c64,eq_true c65,eq_true c65N]
  ·skip
   have c65N:=c65;try simp at c65N
   first | have c65M : (_ = _) = True:=eq_true c65N | have c65M:=c65N
   refine Za rfl (by simp [c64,c65,c65M]; rfl) ?_;by_cases c66 : (a0.2.2.1.length : Int) = 0
   ·skip
    have c66N:=c66;try simp at c66N
    rw [if_pos] at hr;rotate_left
    ·simp [c64,c65,c65M,eq_true c66,eq_true c66N]
    refine Zd (by simp [bV,c64,c65,c65M,eq_true c66,eq_true c66N]) ?_;refine Zb ?_;refine Za rfl (by simp [c64,c65,c65M,eq_true c66,eq_true c66N]; rfl) ?_;refine Zn ?_;obtain rfl:=Option.some.inj hr;simp [Zj,c64,c65,c65M,eq_true c66,eq_true c66N,c65N]
   ·skip
    have c66N:=c66;try simp at c66N
    first | have c66M : (_ = _) = True:=eq_true c66N | have c66M:=c66N
    rw [if_neg] at hr;rotate_left
    ·simp [c64,c65,c65M,c66,c66M]
    refine Ze (by simp [bV,c64,c65,c65M,c66,c66M]) ?_;refine Zh ?_;refine Za rfl (by simp [c64,c65,c65M,c66,c66M]; rfl) ?_;refine Zb ?_;refine Za rfl (by simp [c64,c65,c65M,c66,c66M]; rfl) ?_;refine Zg ?_;refine ZJ (kq:=⟨[1,3,24,25,26],[1],[]⟩) (H:=fun (s : Int×Int)=>match s with | (p6,p7)=>(⟨(und 1++([.ptr 1 0 0 0 4]++(und 1++([.one (.v (.int .i64 p6))]++(und 20++([.one (.slice .no (List.map Zk a0.2.2.1)),.one (.v (.int .i64 (a0.2.2.1.length : Int))),.one (.v (.int .i64 p7))]++(und 54)))))) : List PV),([(1,⟨0,4,[[.v (.int .u32 a0.1),.slice .no (List.map Zm a0.2.1),.slice .no (List.map Zk a0.2.2.1),.v (.int .u32 a0.2.2.2)]],false,false⟩)] : Boxes)⟩ : ASt)) (by kernel_rfl) hr (by simp [und,List.replicate,c64,c65,c65M,c66,c66M]) ?_;rintro ⟨p6,p7⟩ x72r hr72
    simp only [ZaP] at hr72;unfold b57_1;simp only [und,List.replicate,List.cons_append,List.nil_append];refine Za rfl (by simp [c64,c65,c65M,c66,c66M]; rfl) ?_;by_cases c73 : p7 < (a0.2.2.1.length : Int)
    ·skip
     have c73N:=c73;try simp at c73N
     first | have c73M : (_ = _) = True:=eq_true c73N | have c73M:=c73N
     rw [if_pos] at hr72;rotate_left
     ·simp [c64,c65,c65M,c66,c66M,c73,c73M]
     refine Zd (by simp [bV,c64,c65,c65M,c66,c66M,c73,c73M]) ?_;refine Zh ?_;refine Zg ?_;obtain ⟨x74,hx74,hr72⟩:=bs hr72;obtain ⟨hx74a,hx74b⟩:=Zz hx74;have hx74c:=Zq hx74b;refine Za rfl (by simp [hx74a,hx74b,hx74c,c64,c65,c65M,c66,c66M,c73,c73M]; rfl) ?_;refine Zb ?_;refine Za rfl (by simp [c64,c65,c65M,c66,c66M,c73,c73M]; rfl) ?_;by_cases c75 : 2100000000000000 < x74.1
     ·skip
      rw [if_pos c75] at hr72;refine Zd (by simp [bV,c64,c65,c65M,c66,c66M,c73,c73M,c75]) ?_;refine Zb ?_;refine Za rfl (by simp [c64,c65,c65M,c66,c66M,c73,c73M,c75]; rfl) ?_;refine Zn ?_;obtain rfl:=Option.some.inj hr72;simp only [pq,reduceCtorEq];rintro rfl
      simp [Zj,c64,c65,c65M,c66,c66M,c73,c73M,c75,c65N,c66N,c73N]
     ·skip
      rw [if_neg c75] at hr72;refine Ze (by simp [bV,c64,c65,c65M,c66,c66M,c73,c73M,c75]) ?_;refine Zh ?_;refine ZA rfl (by simp [c64,c65,c65M,c66,c66M,c73,c73M,c75]; rfl) ?_;simp only [pq,reduceCtorEq];refine ZA rfl (by simp [c64,c65,c65M,c66,c66M,c73,c73M,c75]; rfl) ?_;obtain rfl:=Option.some.inj hr72;simp only [pq,reduceCtorEq];simp [und,List.replicate,Nat.add_assoc,c64,c65,c65M,c66,c66M,c73,c73M,c75]
    ·skip
     have c73N:=c73;try simp at c73N
     first | have c73M : (_ = _) = True:=eq_true c73N | have c73M:=c73N
     rw [if_neg] at hr72;rotate_left
     ·simp [c64,c65,c65M,c66,c66M,c73,c73M]
     refine Ze (by simp [bV,c64,c65,c65M,c66,c66M,c73,c73M]) ?_;refine Zr ?_;obtain ⟨r76,q76,rfl⟩:=ms hr72;simp only [pq,reduceCtorEq];rintro rfl
     try simp only [pq,reduceCtorEq]
     unfold ZbU at q76;refine Zb ?_;refine Za rfl (by simp [c64,c65,c65M,c66,c66M,c73,c73M]; rfl) ?_;by_cases c77 : 2100000000000000 < p6
     ·skip
      rw [if_pos c77] at q76;refine Zd (by simp [bV,c64,c65,c65M,c66,c66M,c73,c73M,c77]) ?_;refine Zb ?_;refine Za rfl (by simp [c64,c65,c65M,c66,c66M,c73,c73M,c77]; rfl) ?_;refine Zn ?_;obtain rfl:=Option.some.inj q76;simp [Zj,c64,c65,c65M,c66,c66M,c73,c73M,c77,c65N,c66N,c73N]
     ·skip
      rw [if_neg c77] at q76;refine Ze (by simp [bV,c64,c65,c65M,c66,c66M,c73,c73M,c77]) ?_;refine Zh ?_;refine Zb ?_;refine Za rfl (by simp [c64,c65,c65M,c66,c66M,c73,c73M,c77]; rfl) ?_;refine Zg ?_;refine ZJ (kq:=⟨[1,42,43],[1],[]⟩) (H:=fun (s : Int)=>match s with | p25=>(⟨(und 1++([.ptr 1 0 0 0 4]++(und 40++([.one (.v (.int .i64 (a0.2.1.length : Int))),.one (.v (.int .i64 p25))]++(und 37)))) : List PV),([(1,⟨0,4,[[.v (.int .u32 a0.1),.slice .no (List.map Zm a0.2.1),.slice .no (List.map Zk a0.2.2.1),.v (.int .u32 a0.2.2.2)]],false,false⟩)] : Boxes)⟩ : ASt)) (by kernel_rfl) q76 (by simp [und,List.replicate,c64,c65,c65M,c66,c66M,c73,c73M,c77]) ?_;rintro p25 x95r hr95
      simp only [ZaO] at hr95;unfold b57_2;simp only [und,List.replicate,List.cons_append,List.nil_append];refine Za rfl (by simp [c64,c65,c65M,c66,c66M,c73,c73M,c77]; rfl) ?_;by_cases c96 : p25 < (a0.2.1.length : Int)
      ·skip
       have c96N:=c96;try simp at c96N
       first | have c96M : (_ = _) = True:=eq_true c96N | have c96M:=c96N
       rw [if_pos] at hr95;rotate_left
       ·simp [c64,c65,c65M,c66,c66M,c73,c73M,c77,c96,c96M]
       refine Zd (by simp [bV,c64,c65,c65M,c66,c66M,c73,c73M,c77,c96,c96M]) ?_;refine Zh ?_;refine Zg ?_;refine Za rfl (by simp [c64,c65,c65M,c66,c66M,c73,c73M,c77,c96,c96M]; rfl) ?_;refine Za rfl (by simp [c64,c65,c65M,c66,c66M,c73,c73M,c77,c96,c96M]; rfl) ?_;refine ZaW ?_;refine ZJ (kq:=⟨[1,6,7,42,43],[1],[]⟩) (H:=fun (s : Int)=>match s with | p57=>(⟨(und 1++([.ptr 1 0 0 0 4]++(und 4++([.one (.v (.int .i64 p25)),.one (.v (.int .i64 p57))]++(und 34++([.one (.v (.int .i64 (a0.2.1.length : Int))),.one (.v (.int .i64 p25))]++(und 37)))))) : List PV),([(1,⟨0,4,[[.v (.int .u32 a0.1),.slice .no (List.map Zm a0.2.1),.slice .no (List.map Zk a0.2.2.1),.v (.int .u32 a0.2.2.2)]],false,false⟩)] : Boxes)⟩ : ASt)) (by kernel_rfl) hr95 (by simp [und,List.replicate,c64,c65,c65M,c66,c66M,c73,c73M,c77,c96,c96M]) ?_;rintro p57 x104r hr104
       simp only [XZ] at hr104;unfold b57_3;simp only [und,List.replicate,List.cons_append,List.nil_append];refine Zb ?_;refine Za rfl (by simp [c64,c65,c65M,c66,c66M,c73,c73M,c77,c96,c96M]; rfl) ?_;by_cases c105 : p57 < p25
       ·skip
        rw [if_pos] at hr104;rotate_left
        ·simp [c64,c65,c65M,c66,c66M,c73,c73M,c77,c96,c96M,c105]
        refine Zd (by simp [bV,c64,c65,c65M,c66,c66M,c73,c73M,c77,c96,c96M,c105]) ?_;refine Zh ?_;refine Zg ?_;obtain ⟨x106,hx106,hr104⟩:=bs hr104;obtain ⟨hx106a,hx106b⟩:=Zz hx106;have hx106c:=Zq hx106b;obtain ⟨x107,hx107,hr104⟩:=bs hr104;obtain ⟨hx107a,hx107b⟩:=Zz hx107;have hx107c:=Zq hx107b;refine ZC rfl (by simp [hx106a,hx106b,hx106c,hx107a,hx107b,hx107c,c64,c65,c65M,c66,c66M,c73,c73M,c77,c96,c96M,c105]; first | exact ⟨rfl,rfl⟩ | rfl) (by kernel_rfl) ?_;by_cases c108 : x106.1.1 = x107.1.1
        ·skip
         by_cases c109 : x106.1.2 = x107.1.2
         ·skip
          rw [if_pos] at hr104;rotate_left
          ·simp [c64,c65,c65M,c66,c66M,c73,c73M,c77,c96,c96M,c105,eq_true c108,eq_true c109]
          refine Zp (by simp [bV,c64,c65,c65M,c66,c66M,c73,c73M,c77,c96,c96M,c105,eq_true c108,eq_true c109]) ?_;refine Za rfl (by simp [c64,c65,c65M,c66,c66M,c73,c73M,c77,c96,c96M,c105,eq_true c108,eq_true c109]; rfl) ?_;refine Zi ?_;obtain rfl:=Option.some.inj hr104;simp only [pq,reduceCtorEq];rintro rfl
          simp only [pq,reduceCtorEq];rintro rfl
          simp [Zj,c64,c65,c65M,c66,c66M,c73,c73M,c77,c96,c96M,c105,eq_true c108,eq_true c109,c65N,c66N,c73N,c96N]
         ·skip
          rw [if_neg] at hr104;rotate_left
          ·simp [c64,c65,c65M,c66,c66M,c73,c73M,c77,c96,c96M,c105,eq_true c108,c109]
          refine Zy (by simp [bV,c64,c65,c65M,c66,c66M,c73,c73M,c77,c96,c96M,c105,eq_true c108,c109]) ?_;refine ZV ?_;simp only [pq,reduceCtorEq];refine ZA rfl (by simp [c64,c65,c65M,c66,c66M,c73,c73M,c77,c96,c96M,c105,eq_true c108,c109]; rfl) ?_;obtain rfl:=Option.some.inj hr104;simp only [pq,reduceCtorEq];simp [und,List.replicate,Nat.add_assoc,c64,c65,c65M,c66,c66M,c73,c73M,c77,c96,c96M,c105,eq_true c108,c109]
        ·skip
         rw [if_neg] at hr104;rotate_left
         ·simp [c64,c65,c65M,c66,c66M,c73,c73M,c77,c96,c96M,c105,c108]
         refine Zy (by simp [bV,c64,c65,c65M,c66,c66M,c73,c73M,c77,c96,c96M,c105,c108]) ?_;refine ZV ?_;simp only [pq,reduceCtorEq];refine ZA rfl (by simp [c64,c65,c65M,c66,c66M,c73,c73M,c77,c96,c96M,c105,c108]; rfl) ?_;obtain rfl:=Option.some.inj hr104;simp only [pq,reduceCtorEq];simp [und,List.replicate,Nat.add_assoc,c64,c65,c65M,c66,c66M,c73,c73M,c77,c96,c96M,c105,c108]
       ·skip
        rw [if_neg] at hr104;rotate_left
        ·simp [c64,c65,c65M,c66,c66M,c73,c73M,c77,c96,c96M,c105]
        refine Ze (by simp [bV,c64,c65,c65M,c66,c66M,c73,c73M,c77,c96,c96M,c105]) ?_;refine Zr ?_;obtain ⟨r110,q110,rfl⟩:=ms hr104;simp only [pq,reduceCtorEq];rintro rfl
        try simp only [pq,reduceCtorEq]
        unfold ZeQ at q110;refine ZA rfl (by simp [c64,c65,c65M,c66,c66M,c73,c73M,c77,c96,c96M,c105]; rfl) ?_;obtain rfl:=Option.some.inj q110;simp only [pq,reduceCtorEq];simp [und,List.replicate,Nat.add_assoc,c64,c65,c65M,c66,c66M,c73,c73M,c77,c96,c96M,c105]
      ·skip
       have c96N:=c96;try simp at c96N
       first | have c96M : (_ = _) = True:=eq_true c96N | have c96M:=c96N
       rw [if_neg] at hr95;rotate_left
       ·simp [c64,c65,c65M,c66,c66M,c73,c73M,c77,c96,c96M]
       refine Ze (by simp [bV,c64,c65,c65M,c66,c66M,c73,c73M,c77,c96,c96M]) ?_;refine Zr ?_;obtain ⟨r111,q111,rfl⟩:=ms hr95;simp only [pq,reduceCtorEq];rintro rfl
       try simp only [pq,reduceCtorEq]
       unfold Zc9 at q111;refine Zb ?_;refine Za rfl (by simp [c64,c65,c65M,c66,c66M,c73,c73M,c77,c96,c96M]; rfl) ?_;refine Zg ?_;refine ZJ (kq:=⟨[1,66,67,68],[1],[]⟩) (H:=fun (s : Int)=>match s with | p43=>(⟨(und 1++([.ptr 1 0 0 0 4]++(und 64++([.one (.slice .no (List.map Zm a0.2.1)),.one (.v (.int .i64 (a0.2.1.length : Int))),.one (.v (.int .i64 p43))]++(und 12)))) : List PV),([(1,⟨0,4,[[.v (.int .u32 a0.1),.slice .no (List.map Zm a0.2.1),.slice .no (List.map Zk a0.2.2.1),.v (.int .u32 a0.2.2.2)]],false,false⟩)] : Boxes)⟩ : ASt)) (by kernel_rfl) q111 (by simp [und,List.replicate,c64,c65,c65M,c66,c66M,c73,c73M,c77,c96,c96M]) ?_;rintro p43 x122r hr122
       simp only [ZaN] at hr122;unfold b57_4;simp only [und,List.replicate,List.cons_append,List.nil_append];refine Za rfl (by simp [c64,c65,c65M,c66,c66M,c73,c73M,c77,c96,c96M]; rfl) ?_;by_cases c123 : p43 < (a0.2.1.length : Int)
       ·skip
        have c123N:=c123;try simp at c123N
        first | have c123M : (_ = _) = True:=eq_true c123N | have c123M:=c123N
        rw [if_pos] at hr122;rotate_left
        ·simp [c64,c65,c65M,c66,c66M,c73,c73M,c77,c96,c96M,c123,c123M]
        refine Zd (by simp [bV,c64,c65,c65M,c66,c66M,c73,c73M,c77,c96,c96M,c123,c123M]) ?_;refine Zh ?_;refine Zg ?_;obtain ⟨x124,hx124,hr122⟩:=bs hr122;obtain ⟨hx124a,hx124b⟩:=Zz hx124;have hx124c:=Zq hx124b;refine Za rfl (by simp [hx124a,hx124b,hx124c,c64,c65,c65M,c66,c66M,c73,c73M,c77,c96,c96M,c123,c123M]; rfl) ?_;obtain ⟨y125,hy125,hr122⟩:=bs hr122;have ehy125:=Zp0 hy125;simp only [E93,R93,nf,nfs] at ehy125;by_cases c126 : y125 = true
        ·skip
         rw [if_pos] at hr122;rotate_left
         ·simp [c64,c65,c65M,c66,c66M,c73,c73M,c77,c96,c96M,c123,c123M,c126]
         obtain ⟨z127,hz127,hr122⟩:=bs hr122;obtain ⟨y128,hy128,hz127⟩:=bs hz127;have ehy128:=Zp1 hy128;simp only [E58,R58,nf,nfs] at ehy128;obtain rfl:=Option.some.inj hz127;refine Za rfl (by simp [hO,hT93,ehy125,hT58,ehy128,c64,c65,c65M,c66,c66M,c73,c73M,c77,c96,c96M,c123,c123M,c126]; rfl) ?_;by_cases c129 : y128 = true
         ·skip
          rw [if_neg] at hr122;rotate_left
          ·simp [c64,c65,c65M,c66,c66M,c73,c73M,c77,c96,c96M,c123,c123M,c126,c129]
          refine Zy (by simp [bV,c64,c65,c65M,c66,c66M,c73,c73M,c77,c96,c96M,c123,c123M,c126,c129]) ?_;refine ZV ?_;simp only [pq,reduceCtorEq];refine ZA rfl (by simp [c64,c65,c65M,c66,c66M,c73,c73M,c77,c96,c96M,c123,c123M,c126,c129]; rfl) ?_;obtain rfl:=Option.some.inj hr122;simp only [pq,reduceCtorEq];simp [und,List.replicate,Nat.add_assoc,c64,c65,c65M,c66,c66M,c73,c73M,c77,c96,c96M,c123,c123M,c126,c129]
         ·skip
          rw [if_pos] at hr122;rotate_left
          ·simp [c64,c65,c65M,c66,c66M,c73,c73M,c77,c96,c96M,c123,c123M,c126,c129]
          refine Zp (by simp [bV,c64,c65,c65M,c66,c66M,c73,c73M,c77,c96,c96M,c123,c123M,c126,c129]) ?_;refine Za rfl (by simp [c64,c65,c65M,c66,c66M,c73,c73M,c77,c96,c96M,c123,c123M,c126,c129]; rfl) ?_;refine Zi ?_;obtain rfl:=Option.some.inj hr122;simp only [pq,reduceCtorEq];rintro rfl
          simp [Zj,c64,c65,c65M,c66,c66M,c73,c73M,c77,c96,c96M,c123,c123M,c126,c129,c65N,c66N,c73N,c96N,c123N]
        ·skip
         rw [if_neg] at hr122;rotate_left
         ·simp [c64,c65,c65M,c66,c66M,c73,c73M,c77,c96,c96M,c123,c123M,c126]
         obtain ⟨z130,hz130,hr122⟩:=bs hr122;obtain rfl:=Option.some.inj hz130;refine Za rfl (by simp [hO,hT93,ehy125,c64,c65,c65M,c66,c66M,c73,c73M,c77,c96,c96M,c123,c123M,c126]; rfl) ?_;rw [if_neg] at hr122;rotate_left
         ·simp [c64,c65,c65M,c66,c66M,c73,c73M,c77,c96,c96M,c123,c123M,c126]
         refine Zy (by simp [bV,c64,c65,c65M,c66,c66M,c73,c73M,c77,c96,c96M,c123,c123M,c126]) ?_;refine ZV ?_;simp only [pq,reduceCtorEq];refine ZA rfl (by simp [c64,c65,c65M,c66,c66M,c73,c73M,c77,c96,c96M,c123,c123M,c126]; rfl) ?_;obtain rfl:=Option.some.inj hr122;simp only [pq,reduceCtorEq];simp [und,List.replicate,Nat.add_assoc,c64,c65,c65M,c66,c66M,c73,c73M,c77,c96,c96M,c123,c123M,c126]
       ·skip
        have c123N:=c123;try simp at c123N
        first | have c123M : (_ = _) = True:=eq_true c123N | have c123M:=c123N
        rw [if_neg] at hr122;rotate_left
        ·simp [c64,c65,c65M,c66,c66M,c73,c73M,c77,c96,c96M,c123,c123M]
        refine Ze (by simp [bV,c64,c65,c65M,c66,c66M,c73,c73M,c77,c96,c96M,c123,c123M]) ?_;refine Zr ?_;obtain ⟨r131,q131,rfl⟩:=ms hr122;simp only [pq,reduceCtorEq];rintro rfl
        try simp only [pq,reduceCtorEq]
        unfold Lref09_Check_k3 at q131;refine Za rfl (by simp [c64,c65,c65M,c66,c66M,c73,c73M,c77,c96,c96M,c123,c123M]; rfl) ?_;refine Zi ?_;obtain rfl:=Option.some.inj q131;simp [Zj,c64,c65,c65M,c66,c66M,c73,c73M,c77,c96,c96M,c123,c123M,c65N,c66N,c73N,c96N,c123N]
 ·skip
  rw [if_pos c64] at hr;refine Zd (by simp [bV,c64]) ?_;refine Zb ?_;refine Za rfl (by simp [c64]; rfl) ?_;refine Zn ?_;obtain rfl:=Option.some.inj hr;simp [Zj,c64]
def kp59 : Keep:=fun i=>⟨[],[],[]⟩
theorem w59 {T : Tab} (a0 : Int) (a1 : Int) (a2 : Int) (x : Bool) (hr : Zdj a0 a1 a2 = some x) : ∃ kp fl n,Zt tt T G kp fl n Tryz.f59 (E59 (a0,a1,a2)) = some (R59 (a0,a1,a2) x):=by
 simp only [E59,R59];refine fnE (kp:=kp59) (w:=false) body59 (by simp) ?_;unfold c59;rw [Tryz.ntmps59];unfold Zdj at hr;refine Za rfl (by simp []; rfl) ?_;by_cases c1 : a1≤a0
 ·skip
  refine Za rfl (by simp [c1]; rfl) ?_;refine Zi ?_;obtain rfl:=Option.some.inj hr;simp [Zj,c1]
 ·skip
  refine Za rfl (by simp [c1]; rfl) ?_;refine Zi ?_;obtain rfl:=Option.some.inj hr;simp [Zj,c1]
def kp60 : Keep:=fun i=>if i = 7 then ⟨[1,2,25,26],[2],[]⟩ else if i = 14 then ⟨[2,8,42,43,44],[2],[]⟩ else if i = 23 then ⟨[8,67,68,69],[],[]⟩ else ⟨[],[],[]⟩
theorem w60 {T : Tab} (hO : T.own = fun _=>[]) (hT57 : T 57 = some G57) (a0 : Tapi_Tx) (a1 : (List Tapi_Coin)) (x : Int×Int) (hr : ZbV a0 a1 = some x) : ∃ kp fl n,Zt tt T G kp fl n Tryz.f60 (E60 (a0,a1)) = some (R60 (a0,a1) x):=by
 simp only [E60,R60];refine fnE (kp:=kp60) (w:=false) body60 (by simp) ?_;unfold c60;rw [Tryz.ntmps60];unfold ZbV at hr;refine Za rfl (by simp []; rfl) ?_;refine Zb ?_;obtain ⟨y28,hy28,hr⟩:=bs hr;have ehy28:=Zp2 hy28;simp only [E57,R57,nf,nfs] at ehy28;refine Za rfl (by simp [hO,hT57,ehy28]; rfl) ?_;refine Zb ?_;refine Za rfl (by simp []; rfl) ?_;by_cases c29 : y28 = 0
 ·skip
  rw [if_neg (not_not_intro c29)] at hr;refine Ze (by simp [bV,eq_true c29]) ?_;refine Zh ?_;refine Zb ?_;refine Za rfl (by simp [eq_true c29]; rfl) ?_;by_cases c30 : (a1.length : Int) = (a0.2.1.length : Int)
  ·skip
   have c30N:=c30;try simp at c30N
   rw [if_neg (not_not_intro c30)] at hr;refine Ze (by simp [bV,eq_true c29,eq_true c30,eq_true c30N]) ?_;refine Zh ?_;refine Zb ?_;refine Za rfl (by simp [eq_true c29,eq_true c30,eq_true c30N]; rfl) ?_;refine Zg ?_;refine ZJ (kq:=⟨[1,2,25,26],[2],[]⟩) (H:=fun (s : Int)=>match s with | p7=>(⟨(und 1++([.one (.slice .no (List.map ZB a1)),.ptr 2 0 0 0 4]++(und 22++([.one (.v (.int .i64 (a1.length : Int))),.one (.v (.int .i64 p7))]++(und 54)))) : List PV),([(2,⟨0,4,[[.v (.int .u32 a0.1),.slice .no (List.map Zm a0.2.1),.slice .no (List.map Zk a0.2.2.1),.v (.int .u32 a0.2.2.2)]],false,false⟩)] : Boxes)⟩ : ASt)) (by kernel_rfl) hr (by simp [und,List.replicate,eq_true c29,eq_true c30,eq_true c30N]) ?_;rintro p7 x38r hr38
   simp only [ZbH] at hr38;unfold b60_1;simp only [und,List.replicate,List.cons_append,List.nil_append];refine Za rfl (by simp [eq_true c29,eq_true c30,eq_true c30N]; rfl) ?_;by_cases c39 : p7 < (a1.length : Int)
   ·skip
    have c39N:=c39;try simp at c39N
    first | have c39M : (_ = _) = True:=eq_true c39N | have c39M:=c39N
    rw [if_pos] at hr38;rotate_left
    ·simp [eq_true c29,eq_true c30,eq_true c30N,c39,c39M]
    refine Zd (by simp [bV,eq_true c29,eq_true c30,eq_true c30N,c39,c39M]) ?_;refine Zh ?_;refine Zg ?_;refine Za rfl (by simp [eq_true c29,eq_true c30,eq_true c30N,c39,c39M]; rfl) ?_;obtain ⟨x40,hx40,hr38⟩:=bs hr38;obtain ⟨hx40a,hx40b⟩:=Zz hx40;have hx40c:=Zq hx40b;obtain ⟨x41,hx41,hr38⟩:=bs hr38;obtain ⟨hx41a,hx41b⟩:=Zz hx41;have hx41c:=Zq hx41b;refine ZC rfl (by simp [hx40a,hx40b,hx40c,hx41a,hx41b,hx41c,eq_true c29,eq_true c30,eq_true c30N,c39,c39M]; first | exact ⟨rfl,rfl⟩ | rfl) (by kernel_rfl) ?_;by_cases c42 : x40.1.1 = x41.1.1
    ·skip
     by_cases c43 : x40.1.2 = x41.1.2
     ·skip
      rw [if_neg] at hr38;rotate_left
      ·simp [eq_true c29,eq_true c30,eq_true c30N,c39,c39M,eq_true c42,eq_true c43]
      refine Zy (by simp [bV,eq_true c29,eq_true c30,eq_true c30N,c39,c39M,eq_true c42,eq_true c43]) ?_;refine ZV ?_;simp only [pq,reduceCtorEq];refine ZA rfl (by simp [eq_true c29,eq_true c30,eq_true c30N,c39,c39M,eq_true c42,eq_true c43]; rfl) ?_;obtain rfl:=Option.some.inj hr38;simp only [pq,reduceCtorEq];simp [und,List.replicate,Nat.add_assoc,eq_true c29,eq_true c30,eq_true c30N,c39,c39M,eq_true c42,eq_true c43]
     ·skip
      rw [if_pos] at hr38;rotate_left
      ·simp [eq_true c29,eq_true c30,eq_true c30N,c39,c39M,eq_true c42,c43]
      refine Zp (by simp [bV,eq_true c29,eq_true c30,eq_true c30N,c39,c39M,eq_true c42,c43]) ?_;refine Za rfl (by simp [eq_true c29,eq_true c30,eq_true c30N,c39,c39M,eq_true c42,c43]; rfl) ?_;refine Zi ?_;obtain rfl:=Option.some.inj hr38;simp only [pq,reduceCtorEq];rintro rfl
      simp [Zj,eq_true c29,eq_true c30,eq_true c30N,c39,c39M,eq_true c42,c43,c39N]
    ·skip
     rw [if_pos] at hr38;rotate_left
     ·simp [eq_true c29,eq_true c30,eq_true c30N,c39,c39M,c42]
     refine Zp (by simp [bV,eq_true c29,eq_true c30,eq_true c30N,c39,c39M,c42]) ?_;refine Za rfl (by simp [eq_true c29,eq_true c30,eq_true c30N,c39,c39M,c42]; rfl) ?_;refine Zi ?_;obtain rfl:=Option.some.inj hr38;simp only [pq,reduceCtorEq];rintro rfl
     simp [Zj,eq_true c29,eq_true c30,eq_true c30N,c39,c39M,c42,c39N]
   ·skip
    have c39N:=c39;try simp at c39N
    first | have c39M : (_ = _) = True:=eq_true c39N | have c39M:=c39N
    rw [if_neg] at hr38;rotate_left
    ·simp [eq_true c29,eq_true c30,eq_true c30N,c39,c39M]
    refine Ze (by simp [bV,eq_true c29,eq_true c30,eq_true c30N,c39,c39M]) ?_;refine Zr ?_;obtain ⟨r44,q44,rfl⟩:=ms hr38;simp only [pq,reduceCtorEq];rintro rfl
    try simp only [pq,reduceCtorEq]
    unfold ZcS at q44;refine Za rfl (by simp [eq_true c29,eq_true c30,eq_true c30N,c39,c39M]; rfl) ?_;refine Zb ?_;refine Za rfl (by simp [eq_true c29,eq_true c30,eq_true c30N,c39,c39M]; rfl) ?_;refine Zg ?_;refine ZJ (kq:=⟨[2,8,42,43,44],[2],[]⟩) (H:=fun (s : Int×Int)=>match s with | (p14,p15)=>(⟨(und 2++([.ptr 2 0 0 0 4]++(und 5++([.one (.v (.int .i64 p14))]++(und 33++([.one (.slice .no (List.map ZB a1)),.one (.v (.int .i64 (a1.length : Int))),.one (.v (.int .i64 p15))]++(und 36)))))) : List PV),([(2,⟨0,4,[[.v (.int .u32 a0.1),.slice .no (List.map Zm a0.2.1),.slice .no (List.map Zk a0.2.2.1),.v (.int .u32 a0.2.2.2)]],false,false⟩)] : Boxes)⟩ : ASt)) (by kernel_rfl) q44 (by simp [und,List.replicate,eq_true c29,eq_true c30,eq_true c30N,c39,c39M]) ?_;rintro ⟨p14,p15⟩ x51r hr51
    simp only [ZbG] at hr51;unfold b60_2;simp only [und,List.replicate,List.cons_append,List.nil_append];refine Za rfl (by simp [eq_true c29,eq_true c30,eq_true c30N,c39,c39M]; rfl) ?_;by_cases c52 : p15 < (a1.length : Int)
    ·skip
     have c52N:=c52;try simp at c52N
     first | have c52M : (_ = _) = True:=eq_true c52N | have c52M:=c52N
     rw [if_pos] at hr51;rotate_left
     ·simp [eq_true c29,eq_true c30,eq_true c30N,c39,c39M,c52,c52M]
     refine Zd (by simp [bV,eq_true c29,eq_true c30,eq_true c30N,c39,c39M,c52,c52M]) ?_;refine Zh ?_;refine Zg ?_;obtain ⟨x53,hx53,hr51⟩:=bs hr51;obtain ⟨hx53a,hx53b⟩:=Zz hx53;have hx53c:=Zq hx53b;refine Za rfl (by simp [hx53a,hx53b,hx53c,eq_true c29,eq_true c30,eq_true c30N,c39,c39M,c52,c52M]; rfl) ?_;refine Zb ?_;by_cases c54 : x53.2.1.1 < 0
     ·skip
      refine Za rfl (by simp [eq_true c29,eq_true c30,eq_true c30N,c39,c39M,c52,c52M,c54]; rfl) ?_;rw [if_pos] at hr51;rotate_left
      ·simp [eq_true c29,eq_true c30,eq_true c30N,c39,c39M,c52,c52M,c54]
      refine Zd (by simp [bV,eq_true c29,eq_true c30,eq_true c30N,c39,c39M,c52,c52M,c54]) ?_;refine Zb ?_;refine Za rfl (by simp [eq_true c29,eq_true c30,eq_true c30N,c39,c39M,c52,c52M,c54]; rfl) ?_;refine Zn ?_;obtain rfl:=Option.some.inj hr51;simp only [pq,reduceCtorEq];rintro rfl
      simp [Zj,eq_true c29,eq_true c30,eq_true c30N,c39,c39M,c52,c52M,c54,c39N,c52N]
     ·skip
      refine Za rfl (by simp [eq_true c29,eq_true c30,eq_true c30N,c39,c39M,c52,c52M,c54]; rfl) ?_;by_cases c55 : 2100000000000000 < x53.2.1.1
      ·skip
       rw [if_pos] at hr51;rotate_left
       ·simp [eq_true c29,eq_true c30,eq_true c30N,c39,c39M,c52,c52M,c54,c55]
       refine Zd (by simp [bV,eq_true c29,eq_true c30,eq_true c30N,c39,c39M,c52,c52M,c54,c55]) ?_;refine Zb ?_;refine Za rfl (by simp [eq_true c29,eq_true c30,eq_true c30N,c39,c39M,c52,c52M,c54,c55]; rfl) ?_;refine Zn ?_;obtain rfl:=Option.some.inj hr51;simp only [pq,reduceCtorEq];rintro rfl
       simp [Zj,eq_true c29,eq_true c30,eq_true c30N,c39,c39M,c52,c52M,c54,c55,c39N,c52N]
      ·skip
       rw [if_neg] at hr51;rotate_left
       ·simp [eq_true c29,eq_true c30,eq_true c30N,c39,c39M,c52,c52M,c54,c55]
       refine Ze (by simp [bV,eq_true c29,eq_true c30,eq_true c30N,c39,c39M,c52,c52M,c54,c55]) ?_;refine Zh ?_;refine ZA rfl (by simp [eq_true c29,eq_true c30,eq_true c30N,c39,c39M,c52,c52M,c54,c55]; rfl) ?_;simp only [pq,reduceCtorEq];refine ZA rfl (by simp [eq_true c29,eq_true c30,eq_true c30N,c39,c39M,c52,c52M,c54,c55]; rfl) ?_;obtain rfl:=Option.some.inj hr51;simp only [pq,reduceCtorEq];simp [und,List.replicate,Nat.add_assoc,eq_true c29,eq_true c30,eq_true c30N,c39,c39M,c52,c52M,c54,c55]
    ·skip
     have c52N:=c52;try simp at c52N
     first | have c52M : (_ = _) = True:=eq_true c52N | have c52M:=c52N
     rw [if_neg] at hr51;rotate_left
     ·simp [eq_true c29,eq_true c30,eq_true c30N,c39,c39M,c52,c52M]
     refine Ze (by simp [bV,eq_true c29,eq_true c30,eq_true c30N,c39,c39M,c52,c52M]) ?_;refine Zr ?_;obtain ⟨r56,q56,rfl⟩:=ms hr51;simp only [pq,reduceCtorEq];rintro rfl
     try simp only [pq,reduceCtorEq]
     unfold Zec at q56;refine Zb ?_;refine Za rfl (by simp [eq_true c29,eq_true c30,eq_true c30N,c39,c39M,c52,c52M]; rfl) ?_;by_cases c57 : 2100000000000000 < p14
     ·skip
      rw [if_pos c57] at q56;refine Zd (by simp [bV,eq_true c29,eq_true c30,eq_true c30N,c39,c39M,c52,c52M,c57]) ?_;refine Zb ?_;refine Za rfl (by simp [eq_true c29,eq_true c30,eq_true c30N,c39,c39M,c52,c52M,c57]; rfl) ?_;refine Zn ?_;obtain rfl:=Option.some.inj q56;simp [Zj,eq_true c29,eq_true c30,eq_true c30N,c39,c39M,c52,c52M,c57,c39N,c52N]
     ·skip
      rw [if_neg c57] at q56;refine Ze (by simp [bV,eq_true c29,eq_true c30,eq_true c30N,c39,c39M,c52,c52M,c57]) ?_;refine Zh ?_;refine Zb ?_;refine Za rfl (by simp [eq_true c29,eq_true c30,eq_true c30N,c39,c39M,c52,c52M,c57]; rfl) ?_;refine Zg ?_;refine ZJ (kq:=⟨[8,67,68,69],[],[]⟩) (H:=fun (s : Int×Int)=>match s with | (p21,p22)=>(⟨(und 8++([.one (.v (.int .i64 p21))]++(und 58++([.one (.slice .no (List.map Zk a0.2.2.1)),.one (.v (.int .i64 (a0.2.2.1.length : Int))),.one (.v (.int .i64 p22))]++(und 11)))) : List PV),([] : Boxes)⟩ : ASt)) (by kernel_rfl) q56 (by simp [und,List.replicate,eq_true c29,eq_true c30,eq_true c30N,c39,c39M,c52,c52M,c57]) ?_;rintro ⟨p21,p22⟩ x62r hr62
      simp only [XE] at hr62;unfold b60_3;simp only [und,List.replicate,List.cons_append,List.nil_append];refine Za rfl (by simp [eq_true c29,eq_true c30,eq_true c30N,c39,c39M,c52,c52M,c57]; rfl) ?_;by_cases c63 : p22 < (a0.2.2.1.length : Int)
      ·skip
       have c63N:=c63;try simp at c63N
       first | have c63M : (_ = _) = True:=eq_true c63N | have c63M:=c63N
       rw [if_pos] at hr62;rotate_left
       ·simp [eq_true c29,eq_true c30,eq_true c30N,c39,c39M,c52,c52M,c57,c63,c63M]
       refine Zd (by simp [bV,eq_true c29,eq_true c30,eq_true c30N,c39,c39M,c52,c52M,c57,c63,c63M]) ?_;refine Zh ?_;refine Zg ?_;obtain ⟨x64,hx64,hr62⟩:=bs hr62;obtain ⟨hx64a,hx64b⟩:=Zz hx64;have hx64c:=Zq hx64b;refine Za rfl (by simp [hx64a,hx64b,hx64c,eq_true c29,eq_true c30,eq_true c30N,c39,c39M,c52,c52M,c57,c63,c63M]; rfl) ?_;refine ZA rfl (by simp [eq_true c29,eq_true c30,eq_true c30N,c39,c39M,c52,c52M,c57,c63,c63M]; rfl) ?_;simp only [pq,reduceCtorEq];refine ZA rfl (by simp [eq_true c29,eq_true c30,eq_true c30N,c39,c39M,c52,c52M,c57,c63,c63M]; rfl) ?_;obtain rfl:=Option.some.inj hr62;simp only [pq,reduceCtorEq];simp [und,List.replicate,Nat.add_assoc,eq_true c29,eq_true c30,eq_true c30N,c39,c39M,c52,c52M,c57,c63,c63M]
      ·skip
       have c63N:=c63;try simp at c63N
       first | have c63M : (_ = _) = True:=eq_true c63N | have c63M:=c63N
       rw [if_neg] at hr62;rotate_left
       ·simp [eq_true c29,eq_true c30,eq_true c30N,c39,c39M,c52,c52M,c57,c63,c63M]
       refine Ze (by simp [bV,eq_true c29,eq_true c30,eq_true c30N,c39,c39M,c52,c52M,c57,c63,c63M]) ?_;refine Zr ?_;obtain ⟨r65,q65,rfl⟩:=ms hr62;simp only [pq,reduceCtorEq];rintro rfl
       try simp only [pq,reduceCtorEq]
       unfold ZcR at q65;refine Zb ?_;refine Za rfl (by simp [eq_true c29,eq_true c30,eq_true c30N,c39,c39M,c52,c52M,c57,c63,c63M]; rfl) ?_;by_cases c66 : p21 < 0
       ·skip
        rw [if_pos c66] at q65;refine Zd (by simp [bV,eq_true c29,eq_true c30,eq_true c30N,c39,c39M,c52,c52M,c57,c63,c63M,c66]) ?_;refine Zb ?_;refine Za rfl (by simp [eq_true c29,eq_true c30,eq_true c30N,c39,c39M,c52,c52M,c57,c63,c63M,c66]; rfl) ?_;refine Zn ?_;obtain rfl:=Option.some.inj q65;simp [Zj,eq_true c29,eq_true c30,eq_true c30N,c39,c39M,c52,c52M,c57,c63,c63M,c66,c39N,c52N,c63N]
       ·skip
        rw [if_neg c66] at q65;refine Ze (by simp [bV,eq_true c29,eq_true c30,eq_true c30N,c39,c39M,c52,c52M,c57,c63,c63M,c66]) ?_;refine Zh ?_;refine Za rfl (by simp [eq_true c29,eq_true c30,eq_true c30N,c39,c39M,c52,c52M,c57,c63,c63M,c66]; rfl) ?_;refine Zi ?_;obtain rfl:=Option.some.inj q65;simp [Zj,eq_true c29,eq_true c30,eq_true c30N,c39,c39M,c52,c52M,c57,c63,c63M,c66,c39N,c52N,c63N]
  ·skip
   have c30N:=c30;try simp at c30N
   first | have c30M : (_ = _) = True:=eq_true c30N | have c30M:=c30N
   rw [if_pos c30] at hr;refine Zd (by simp [bV,eq_true c29,c30,c30M]) ?_;refine Zb ?_;refine Za rfl (by simp [eq_true c29,c30,c30M]; rfl) ?_;refine Zn ?_;obtain rfl:=Option.some.inj hr;simp [Zj,eq_true c29,c30,c30M,c30N]
 ·skip
  rw [if_pos c29] at hr;refine Zd (by simp [bV,c29]) ?_;refine Zb ?_;refine Za rfl (by simp [c29]; rfl) ?_;refine Zn ?_;obtain rfl:=Option.some.inj hr;simp [Zj,c29]
end Go.Proofs.YtbjhgolpnjokbaaGreat
