import Derived.Test.YtbjhgolpnjokbaaGreatLfK
import Derived.Test.YtbjhgolpnjokbaaGreatCode
import Derived.Test.YtbjhgolpnjokbaaGreatBl
namespace Go.Proofs.YtbjhgolpnjokbaaGreat
open Go.RowKit
open Go.Av
open Go.Lc
set_option maxRecDepth 100000
set_option linter.unusedSimpArgs false
set_option linter.unusedVariables false
set_option maxHeartbeats 4000000
variable {G : Glob}
def kp69 : Keep:=fun i=>if i = 4 then ⟨[2,3,42,43],[2,3],[]⟩ else if i = 10 then ⟨[2,3,6,7,42,43,79,80],[2,3,6,7],[]⟩ else if i = 17 then ⟨[2,3,99,100],[2,3],[]⟩ else ⟨[],[],[]⟩
theorem w69 {T : Tab} (hO : T.own = fun _=>[]) (hT98 : T 98 = some G98) (hT99 : T 99 = some G99) (a0 : Tapi_Tx) (a1 : Tapi_Tx) (x : Bool) (hr : Zai a0 a1 = some x) : ∃ kp fl n,Zt tt T G kp fl n Tryz.f69 (E69 (a0,a1)) = some (R69 (a0,a1) x):=by
 simp only [E69,R69];refine fnE (kp:=kp69) (w:=false) body69 (by simp) ?_;unfold c69;rw [Tryz.ntmps69];unfold Zai at hr;refine Za rfl (by simp []; rfl) ?_;refine Zb ?_;by_cases c72 : a0.1 = a1.1
 ·skip
  by_cases c73 : a0.2.2.2 = a1.2.2.2
  ·skip
   by_cases c74 : (a0.2.1.length : Int) = (a1.2.1.length : Int)
   ·skip
    have c74N:=c74;try simp at c74N
    refine Za rfl (by simp [eq_true c72,eq_true c73,eq_true c74,eq_true c74N]; rfl) ?_;by_cases c75 : (a0.2.2.1.length : Int) = (a1.2.2.1.length : Int)
    ·skip
     have c75N:=c75;try simp at c75N
     rw [if_neg] at hr;rotate_left
     ·simp [eq_true c72,eq_true c73,eq_true c74,eq_true c74N,eq_true c75,eq_true c75N]
     refine Ze (by simp [bV,eq_true c72,eq_true c73,eq_true c74,eq_true c74N,eq_true c75,eq_true c75N]) ?_;refine Zh ?_;refine Zb ?_;refine Za rfl (by simp [eq_true c72,eq_true c73,eq_true c74,eq_true c74N,eq_true c75,eq_true c75N]; rfl) ?_;refine Zg ?_;refine ZJ (kq:=⟨[2,3,42,43],[2,3],[]⟩) (H:=fun (s : Int)=>match s with | p28=>(⟨(und 2++([.ptr 2 0 0 0 4,.ptr 3 0 0 0 4]++(und 38++([.one (.v (.int .i64 (a0.2.1.length : Int))),.one (.v (.int .i64 p28))]++(und 72)))) : List PV),([(2,⟨0,4,[[.v (.int .u32 a0.1),.slice .no (List.map Zm a0.2.1),.slice .no (List.map Zk a0.2.2.1),.v (.int .u32 a0.2.2.2)]],false,false⟩),(3,⟨0,4,[[.v (.int .u32 a1.1),.slice .no (List.map Zm a1.2.1),.slice .no (List.map Zk a1.2.2.1),.v (.int .u32 a1.2.2.2)]],false,false⟩)] : Boxes)⟩ : ASt)) (by kernel_rfl) hr (by simp [und,List.replicate,eq_true c72,eq_true c73,eq_true c74,eq_true c74N,eq_true c75,eq_true c75N]) ?_;rintro p28 x99r hr99
     simp only [ZcJ] at hr99;unfold b69_1;simp only [und,List.replicate,List.cons_append,List.nil_append];refine Za rfl (by simp [eq_true c72,eq_true c73,eq_true c74,eq_true c74N,eq_true c75,eq_true c75N]; rfl) ?_;by_cases c100 : p28 < (a0.2.1.length : Int)
     ·skip
      have c100N:=c100;try simp at c100N
      first | have c100M : (_ = _) = True:=eq_true c100N | have c100M:=c100N
      rw [if_pos] at hr99;rotate_left
      ·simp [eq_true c72,eq_true c73,eq_true c74,eq_true c74N,eq_true c75,eq_true c75N,c100,c100M]
      refine Zd (by simp [bV,eq_true c72,eq_true c73,eq_true c74,eq_true c74N,eq_true c75,eq_true c75N,c100,c100M]) ?_;refine Zh ?_;refine Zg ?_;refine Za rfl (by simp [eq_true c72,eq_true c73,eq_true c74,eq_true c74N,eq_true c75,eq_true c75N,c100,c100M]; rfl) ?_;obtain ⟨x101,hx101,hr99⟩:=bs hr99;obtain ⟨hx101a,hx101b⟩:=Zz hx101;have hx101c:=Zq hx101b;obtain ⟨x102,hx102,hr99⟩:=bs hr99;obtain ⟨hx102a,hx102b⟩:=Zz hx102;have hx102c:=Zq hx102b;refine ZC rfl (by simp [hx101a,hx101b,hx101c,hx102a,hx102b,hx102c,eq_true c72,eq_true c73,eq_true c74,eq_true c74N,eq_true c75,eq_true c75N,c100,c100M]; first | exact ⟨rfl,rfl⟩ | rfl) (by kernel_rfl) ?_;refine Zb ?_;by_cases c103 : x101.1.1 = x102.1.1
      ·skip
       by_cases c104 : x101.1.2 = x102.1.2
       ·skip
        by_cases c105 : x101.2.1 = x102.2.1
        ·skip
         refine Za rfl (by simp [eq_true c72,eq_true c73,eq_true c74,eq_true c74N,eq_true c75,eq_true c75N,c100,c100M,eq_true c103,eq_true c104,eq_true c105]; rfl) ?_;by_cases c106 : (x101.2.2.length : Int) = (x102.2.2.length : Int)
         ·skip
          have c106N:=c106;try simp at c106N
          rw [if_neg] at hr99;rotate_left
          ·simp [eq_true c72,eq_true c73,eq_true c74,eq_true c74N,eq_true c75,eq_true c75N,c100,c100M,eq_true c103,eq_true c104,eq_true c105,eq_true c106,eq_true c106N]
          refine Ze (by simp [bV,eq_true c72,eq_true c73,eq_true c74,eq_true c74N,eq_true c75,eq_true c75N,c100,c100M,eq_true c103,eq_true c104,eq_true c105,eq_true c106,eq_true c106N]) ?_;refine Zh ?_;refine Za rfl (by simp [eq_true c72,eq_true c73,eq_true c74,eq_true c74N,eq_true c75,eq_true c75N,c100,c100M,eq_true c103,eq_true c104,eq_true c105,eq_true c106,eq_true c106N]; rfl) ?_;refine ZaW ?_;refine ZJ (kq:=⟨[2,3,6,7,42,43,79,80],[2,3,6,7],[]⟩) (H:=fun (s : Int)=>match s with | p65=>(⟨(und 2++([.ptr 2 0 0 0 4,.ptr 3 0 0 0 4]++(und 2++([.ptr 6 0 0 0 35,.ptr 7 0 0 0 35]++(und 34++([.one (.v (.int .i64 (a0.2.1.length : Int))),.one (.v (.int .i64 p28))]++(und 35++([.one (.v (.int .i64 (x101.2.2.length : Int))),.one (.v (.int .i64 p65))]++(und 35)))))))) : List PV),([(2,⟨0,4,[[.v (.int .u32 a0.1),.slice .no (List.map Zm a0.2.1),.slice .no (List.map Zk a0.2.2.1),.v (.int .u32 a0.2.2.2)]],false,false⟩),(3,⟨0,4,[[.v (.int .u32 a1.1),.slice .no (List.map Zm a1.2.1),.slice .no (List.map Zk a1.2.2.1),.v (.int .u32 a1.2.2.2)]],false,false⟩),(6,⟨0,35,[(arC .u8 x101.1.1)++((.v (.int .u32 x101.1.2)) :: ((.v (.int .u32 x101.2.1)) :: ((.slice .no (List.map Yd x101.2.2)) :: [])))],false,false⟩),(7,⟨0,35,[(arC .u8 x102.1.1)++((.v (.int .u32 x102.1.2)) :: ((.v (.int .u32 x102.2.1)) :: ((.slice .no (List.map Yd x102.2.2)) :: [])))],false,false⟩)] : Boxes)⟩ : ASt)) (by kernel_rfl) hr99 (by simp [und,List.replicate,eq_true c72,eq_true c73,eq_true c74,eq_true c74N,eq_true c75,eq_true c75N,c100,c100M,eq_true c103,eq_true c104,eq_true c105,eq_true c106,eq_true c106N]) ?_;rintro p65 x114r hr114
          simp only [Zet] at hr114;unfold b69_2;simp only [und,List.replicate,List.cons_append,List.nil_append];refine Za rfl (by simp [eq_true c72,eq_true c73,eq_true c74,eq_true c74N,eq_true c75,eq_true c75N,c100,c100M,eq_true c103,eq_true c104,eq_true c105,eq_true c106,eq_true c106N]; rfl) ?_;by_cases c115 : p65 < (x101.2.2.length : Int)
          ·skip
           have c115N:=c115;try simp at c115N
           first | have c115M : (_ = _) = True:=eq_true c115N | have c115M:=c115N
           rw [if_pos] at hr114;rotate_left
           ·simp [eq_true c72,eq_true c73,eq_true c74,eq_true c74N,eq_true c75,eq_true c75N,c100,c100M,eq_true c103,eq_true c104,eq_true c105,eq_true c106,eq_true c106N,c115,c115M]
           refine Zd (by simp [bV,eq_true c72,eq_true c73,eq_true c74,eq_true c74N,eq_true c75,eq_true c75N,c100,c100M,eq_true c103,eq_true c104,eq_true c105,eq_true c106,eq_true c106N,c115,c115M]) ?_;refine Zh ?_;refine Zg ?_;refine Za rfl (by simp [eq_true c72,eq_true c73,eq_true c74,eq_true c74N,eq_true c75,eq_true c75N,c100,c100M,eq_true c103,eq_true c104,eq_true c105,eq_true c106,eq_true c106N,c115,c115M]; rfl) ?_;obtain ⟨x116,hx116,hr114⟩:=bs hr114;obtain ⟨hx116a,hx116b⟩:=Zz hx116;have hx116c:=Zq hx116b;obtain ⟨x117,hx117,hr114⟩:=bs hr114;obtain ⟨hx117a,hx117b⟩:=Zz hx117;have hx117c:=Zq hx117b;obtain ⟨y118,hy118,hr114⟩:=bs hr114;have ehy118:=ZpN hy118;simp only [E98,R98,nf,nfs] at ehy118;refine ZC rfl (by simp [hx116a,hx116b,hx116c,hx117a,hx117b,hx117c,hO,hT98,ehy118,eq_true c72,eq_true c73,eq_true c74,eq_true c74N,eq_true c75,eq_true c75N,c100,c100M,eq_true c103,eq_true c104,eq_true c105,eq_true c106,eq_true c106N,c115,c115M]; first | exact ⟨rfl,rfl⟩ | rfl) (by kernel_rfl) ?_;by_cases c119 : y118 = true
           ·skip
            rw [if_neg (not_not_intro c119)] at hr114;refine Zy (by simp [bV,eq_true c72,eq_true c73,eq_true c74,eq_true c74N,eq_true c75,eq_true c75N,c100,c100M,eq_true c103,eq_true c104,eq_true c105,eq_true c106,eq_true c106N,c115,c115M,c119]) ?_;refine ZV ?_;simp only [pq,reduceCtorEq];refine ZA rfl (by simp [eq_true c72,eq_true c73,eq_true c74,eq_true c74N,eq_true c75,eq_true c75N,c100,c100M,eq_true c103,eq_true c104,eq_true c105,eq_true c106,eq_true c106N,c115,c115M,c119]; rfl) ?_;obtain rfl:=Option.some.inj hr114;simp only [pq,reduceCtorEq];simp [und,List.replicate,Nat.add_assoc,eq_true c72,eq_true c73,eq_true c74,eq_true c74N,eq_true c75,eq_true c75N,c100,c100M,eq_true c103,eq_true c104,eq_true c105,eq_true c106,eq_true c106N,c115,c115M,c119]
           ·skip
            rw [if_pos c119] at hr114;refine Zp (by simp [bV,eq_true c72,eq_true c73,eq_true c74,eq_true c74N,eq_true c75,eq_true c75N,c100,c100M,eq_true c103,eq_true c104,eq_true c105,eq_true c106,eq_true c106N,c115,c115M,c119]) ?_;refine Za rfl (by simp [eq_true c72,eq_true c73,eq_true c74,eq_true c74N,eq_true c75,eq_true c75N,c100,c100M,eq_true c103,eq_true c104,eq_true c105,eq_true c106,eq_true c106N,c115,c115M,c119]; rfl) ?_;refine Zi ?_;obtain rfl:=Option.some.inj hr114;simp only [pq,reduceCtorEq];rintro rfl
            simp only [pq,reduceCtorEq];rintro rfl
            simp [Zj,eq_true c72,eq_true c73,eq_true c74,eq_true c74N,eq_true c75,eq_true c75N,c100,c100M,eq_true c103,eq_true c104,eq_true c105,eq_true c106,eq_true c106N,c115,c115M,c119,c100N,c115N]
          ·skip
           have c115N:=c115;try simp at c115N
           first | have c115M : (_ = _) = True:=eq_true c115N | have c115M:=c115N
           rw [if_neg] at hr114;rotate_left
           ·simp [eq_true c72,eq_true c73,eq_true c74,eq_true c74N,eq_true c75,eq_true c75N,c100,c100M,eq_true c103,eq_true c104,eq_true c105,eq_true c106,eq_true c106N,c115,c115M]
           refine Ze (by simp [bV,eq_true c72,eq_true c73,eq_true c74,eq_true c74N,eq_true c75,eq_true c75N,c100,c100M,eq_true c103,eq_true c104,eq_true c105,eq_true c106,eq_true c106N,c115,c115M]) ?_;refine Zr ?_;obtain ⟨r120,q120,rfl⟩:=ms hr114;simp only [pq,reduceCtorEq];rintro rfl
           try simp only [pq,reduceCtorEq]
           unfold ZgA at q120;refine ZA rfl (by simp [eq_true c72,eq_true c73,eq_true c74,eq_true c74N,eq_true c75,eq_true c75N,c100,c100M,eq_true c103,eq_true c104,eq_true c105,eq_true c106,eq_true c106N,c115,c115M]; rfl) ?_;obtain rfl:=Option.some.inj q120;simp only [pq,reduceCtorEq];simp [und,List.replicate,Nat.add_assoc,eq_true c72,eq_true c73,eq_true c74,eq_true c74N,eq_true c75,eq_true c75N,c100,c100M,eq_true c103,eq_true c104,eq_true c105,eq_true c106,eq_true c106N,c115,c115M]
         ·skip
          have c106N:=c106;try simp at c106N
          first | have c106M : (_ = _) = True:=eq_true c106N | have c106M:=c106N
          rw [if_pos] at hr99;rotate_left
          ·simp [eq_true c72,eq_true c73,eq_true c74,eq_true c74N,eq_true c75,eq_true c75N,c100,c100M,eq_true c103,eq_true c104,eq_true c105,c106,c106M]
          refine Zd (by simp [bV,eq_true c72,eq_true c73,eq_true c74,eq_true c74N,eq_true c75,eq_true c75N,c100,c100M,eq_true c103,eq_true c104,eq_true c105,c106,c106M]) ?_;refine Zb ?_;refine Za rfl (by simp [eq_true c72,eq_true c73,eq_true c74,eq_true c74N,eq_true c75,eq_true c75N,c100,c100M,eq_true c103,eq_true c104,eq_true c105,c106,c106M]; rfl) ?_;refine Zn ?_;obtain rfl:=Option.some.inj hr99;simp only [pq,reduceCtorEq];rintro rfl
          simp [Zj,eq_true c72,eq_true c73,eq_true c74,eq_true c74N,eq_true c75,eq_true c75N,c100,c100M,eq_true c103,eq_true c104,eq_true c105,c106,c106M,c100N,c106N]
        ·skip
         refine Za rfl (by simp [eq_true c72,eq_true c73,eq_true c74,eq_true c74N,eq_true c75,eq_true c75N,c100,c100M,eq_true c103,eq_true c104,c105]; rfl) ?_;rw [if_pos] at hr99;rotate_left
         ·simp [eq_true c72,eq_true c73,eq_true c74,eq_true c74N,eq_true c75,eq_true c75N,c100,c100M,eq_true c103,eq_true c104,c105]
         refine Zd (by simp [bV,eq_true c72,eq_true c73,eq_true c74,eq_true c74N,eq_true c75,eq_true c75N,c100,c100M,eq_true c103,eq_true c104,c105]) ?_;refine Zb ?_;refine Za rfl (by simp [eq_true c72,eq_true c73,eq_true c74,eq_true c74N,eq_true c75,eq_true c75N,c100,c100M,eq_true c103,eq_true c104,c105]; rfl) ?_;refine Zn ?_;obtain rfl:=Option.some.inj hr99;simp only [pq,reduceCtorEq];rintro rfl
         simp [Zj,eq_true c72,eq_true c73,eq_true c74,eq_true c74N,eq_true c75,eq_true c75N,c100,c100M,eq_true c103,eq_true c104,c105,c100N]
       ·skip
        refine Za rfl (by simp [eq_true c72,eq_true c73,eq_true c74,eq_true c74N,eq_true c75,eq_true c75N,c100,c100M,eq_true c103,c104]; rfl) ?_;rw [if_pos] at hr99;rotate_left
        ·simp [eq_true c72,eq_true c73,eq_true c74,eq_true c74N,eq_true c75,eq_true c75N,c100,c100M,eq_true c103,c104]
        refine Zd (by simp [bV,eq_true c72,eq_true c73,eq_true c74,eq_true c74N,eq_true c75,eq_true c75N,c100,c100M,eq_true c103,c104]) ?_;refine Zb ?_;refine Za rfl (by simp [eq_true c72,eq_true c73,eq_true c74,eq_true c74N,eq_true c75,eq_true c75N,c100,c100M,eq_true c103,c104]; rfl) ?_;refine Zn ?_;obtain rfl:=Option.some.inj hr99;simp only [pq,reduceCtorEq];rintro rfl
        simp [Zj,eq_true c72,eq_true c73,eq_true c74,eq_true c74N,eq_true c75,eq_true c75N,c100,c100M,eq_true c103,c104,c100N]
      ·skip
       refine Za rfl (by simp [eq_true c72,eq_true c73,eq_true c74,eq_true c74N,eq_true c75,eq_true c75N,c100,c100M,c103]; rfl) ?_;rw [if_pos] at hr99;rotate_left
       ·simp [eq_true c72,eq_true c73,eq_true c74,eq_true c74N,eq_true c75,eq_true c75N,c100,c100M,c103]
       refine Zd (by simp [bV,eq_true c72,eq_true c73,eq_true c74,eq_true c74N,eq_true c75,eq_true c75N,c100,c100M,c103]) ?_;refine Zb ?_;refine Za rfl (by simp [eq_true c72,eq_true c73,eq_true c74,eq_true c74N,eq_true c75,eq_true c75N,c100,c100M,c103]; rfl) ?_;refine Zn ?_;obtain rfl:=Option.some.inj hr99;simp only [pq,reduceCtorEq];rintro rfl
       simp [Zj,eq_true c72,eq_true c73,eq_true c74,eq_true c74N,eq_true c75,eq_true c75N,c100,c100M,c103,c100N]
     ·skip
      have c100N:=c100;try simp at c100N
      first | have c100M : (_ = _) = True:=eq_true c100N | have c100M:=c100N
      rw [if_neg] at hr99;rotate_left
      ·simp [eq_true c72,eq_true c73,eq_true c74,eq_true c74N,eq_true c75,eq_true c75N,c100,c100M]
      refine Ze (by simp [bV,eq_true c72,eq_true c73,eq_true c74,eq_true c74N,eq_true c75,eq_true c75N,c100,c100M]) ?_;refine Zr ?_;obtain ⟨r121,q121,rfl⟩:=ms hr99;simp only [pq,reduceCtorEq];rintro rfl
      try simp only [pq,reduceCtorEq]
      unfold ZcI at q121;refine Zb ?_;refine Za rfl (by simp [eq_true c72,eq_true c73,eq_true c74,eq_true c74N,eq_true c75,eq_true c75N,c100,c100M]; rfl) ?_;refine Zg ?_;refine ZJ (kq:=⟨[2,3,99,100],[2,3],[]⟩) (H:=fun (s : Int)=>match s with | p49=>(⟨(und 2++([.ptr 2 0 0 0 4,.ptr 3 0 0 0 4]++(und 95++([.one (.v (.int .i64 (a0.2.2.1.length : Int))),.one (.v (.int .i64 p49))]++(und 15)))) : List PV),([(2,⟨0,4,[[.v (.int .u32 a0.1),.slice .no (List.map Zm a0.2.1),.slice .no (List.map Zk a0.2.2.1),.v (.int .u32 a0.2.2.2)]],false,false⟩),(3,⟨0,4,[[.v (.int .u32 a1.1),.slice .no (List.map Zm a1.2.1),.slice .no (List.map Zk a1.2.2.1),.v (.int .u32 a1.2.2.2)]],false,false⟩)] : Boxes)⟩ : ASt)) (by kernel_rfl) q121 (by simp [und,List.replicate,eq_true c72,eq_true c73,eq_true c74,eq_true c74N,eq_true c75,eq_true c75N,c100,c100M]) ?_;rintro p49 x129r hr129
      simp only [ZcH] at hr129;unfold b69_3;simp only [und,List.replicate,List.cons_append,List.nil_append];refine Za rfl (by simp [eq_true c72,eq_true c73,eq_true c74,eq_true c74N,eq_true c75,eq_true c75N,c100,c100M]; rfl) ?_;by_cases c130 : p49 < (a0.2.2.1.length : Int)
      ·skip
       have c130N:=c130;try simp at c130N
       first | have c130M : (_ = _) = True:=eq_true c130N | have c130M:=c130N
       rw [if_pos] at hr129;rotate_left
       ·simp [eq_true c72,eq_true c73,eq_true c74,eq_true c74N,eq_true c75,eq_true c75N,c100,c100M,c130,c130M]
       refine Zd (by simp [bV,eq_true c72,eq_true c73,eq_true c74,eq_true c74N,eq_true c75,eq_true c75N,c100,c100M,c130,c130M]) ?_;refine Zh ?_;refine Zg ?_;refine Za rfl (by simp [eq_true c72,eq_true c73,eq_true c74,eq_true c74N,eq_true c75,eq_true c75N,c100,c100M,c130,c130M]; rfl) ?_;obtain ⟨x131,hx131,hr129⟩:=bs hr129;obtain ⟨hx131a,hx131b⟩:=Zz hx131;have hx131c:=Zq hx131b;obtain ⟨x132,hx132,hr129⟩:=bs hr129;obtain ⟨hx132a,hx132b⟩:=Zz hx132;have hx132c:=Zq hx132b;obtain ⟨y133,hy133,hr129⟩:=bs hr129;have ehy133:=ZpO hy133;simp only [E99,R99,nf,nfs] at ehy133;refine ZC rfl (by simp [hx131a,hx131b,hx131c,hx132a,hx132b,hx132c,hO,hT99,ehy133,eq_true c72,eq_true c73,eq_true c74,eq_true c74N,eq_true c75,eq_true c75N,c100,c100M,c130,c130M]; first | exact ⟨rfl,rfl⟩ | rfl) (by kernel_rfl) ?_;by_cases c134 : y133 = true
       ·skip
        rw [if_neg (not_not_intro c134)] at hr129;refine Zy (by simp [bV,eq_true c72,eq_true c73,eq_true c74,eq_true c74N,eq_true c75,eq_true c75N,c100,c100M,c130,c130M,c134]) ?_;refine ZV ?_;simp only [pq,reduceCtorEq];refine ZA rfl (by simp [eq_true c72,eq_true c73,eq_true c74,eq_true c74N,eq_true c75,eq_true c75N,c100,c100M,c130,c130M,c134]; rfl) ?_;obtain rfl:=Option.some.inj hr129;simp only [pq,reduceCtorEq];simp [und,List.replicate,Nat.add_assoc,eq_true c72,eq_true c73,eq_true c74,eq_true c74N,eq_true c75,eq_true c75N,c100,c100M,c130,c130M,c134]
       ·skip
        rw [if_pos c134] at hr129;refine Zp (by simp [bV,eq_true c72,eq_true c73,eq_true c74,eq_true c74N,eq_true c75,eq_true c75N,c100,c100M,c130,c130M,c134]) ?_;refine Za rfl (by simp [eq_true c72,eq_true c73,eq_true c74,eq_true c74N,eq_true c75,eq_true c75N,c100,c100M,c130,c130M,c134]; rfl) ?_;refine Zi ?_;obtain rfl:=Option.some.inj hr129;simp only [pq,reduceCtorEq];rintro rfl
        simp [Zj,eq_true c72,eq_true c73,eq_true c74,eq_true c74N,eq_true c75,eq_true c75N,c100,c100M,c130,c130M,c134,c100N,c130N]
      ·skip
       have c130N:=c130;try simp at c130N
       first | have c130M : (_ = _) = True:=eq_true c130N | have c130M:=c130N
       rw [if_neg] at hr129;rotate_left
       ·simp [eq_true c72,eq_true c73,eq_true c74,eq_true c74N,eq_true c75,eq_true c75N,c100,c100M,c130,c130M]
       refine Ze (by simp [bV,eq_true c72,eq_true c73,eq_true c74,eq_true c74N,eq_true c75,eq_true c75N,c100,c100M,c130,c130M]) ?_;refine Zr ?_;obtain ⟨r135,q135,rfl⟩:=ms hr129;simp only [pq,reduceCtorEq];rintro rfl
       try simp only [pq,reduceCtorEq]
       unfold Lref09_SameTx_k2 at q135;refine Za rfl (by simp [eq_true c72,eq_true c73,eq_true c74,eq_true c74N,eq_true c75,eq_true c75N,c100,c100M,c130,c130M]; rfl) ?_;refine Zi ?_;obtain rfl:=Option.some.inj q135;simp [Zj,eq_true c72,eq_true c73,eq_true c74,eq_true c74N,eq_true c75,eq_true c75N,c100,c100M,c130,c130M,c100N,c130N]
    ·skip
     have c75N:=c75;try simp at c75N
     first | have c75M : (_ = _) = True:=eq_true c75N | have c75M:=c75N
     rw [if_pos] at hr;rotate_left
     ·simp [eq_true c72,eq_true c73,eq_true c74,eq_true c74N,c75,c75M]
     refine Zd (by simp [bV,eq_true c72,eq_true c73,eq_true c74,eq_true c74N,c75,c75M]) ?_;refine Zb ?_;refine Za rfl (by simp [eq_true c72,eq_true c73,eq_true c74,eq_true c74N,c75,c75M]; rfl) ?_;refine Zn ?_;obtain rfl:=Option.some.inj hr;simp [Zj,eq_true c72,eq_true c73,eq_true c74,eq_true c74N,c75,c75M,c75N]
   ·skip
    have c74N:=c74;try simp at c74N
    first | have c74M : (_ = _) = True:=eq_true c74N | have c74M:=c74N
    refine Za rfl (by simp [eq_true c72,eq_true c73,c74,c74M]; rfl) ?_;rw [if_pos] at hr;rotate_left
    ·simp [eq_true c72,eq_true c73,c74,c74M]
    refine Zd (by simp [bV,eq_true c72,eq_true c73,c74,c74M]) ?_;refine Zb ?_;refine Za rfl (by simp [eq_true c72,eq_true c73,c74,c74M]; rfl) ?_;refine Zn ?_;obtain rfl:=Option.some.inj hr;simp [Zj,eq_true c72,eq_true c73,c74,c74M,c74N]
  ·skip
   refine Za rfl (by simp [eq_true c72,c73]; rfl) ?_;rw [if_pos] at hr;rotate_left
   ·simp [eq_true c72,c73]
   refine Zd (by simp [bV,eq_true c72,c73]) ?_;refine Zb ?_;refine Za rfl (by simp [eq_true c72,c73]; rfl) ?_;refine Zn ?_;obtain rfl:=Option.some.inj hr;simp [Zj,eq_true c72,c73]
 ·skip
  refine Za rfl (by simp [c72]; rfl) ?_;rw [if_pos] at hr;rotate_left
  ·simp [c72]
  refine Zd (by simp [bV,c72]) ?_;refine Zb ?_;refine Za rfl (by simp [c72]; rfl) ?_;refine Zn ?_;obtain rfl:=Option.some.inj hr;simp [Zj,c72]
def kp70 : Keep:=fun i=>⟨[],[],[]⟩
theorem w70 {T : Tab} (hO : T.own = fun _=>[]) (hT99 : T 99 = some G99) (a0 : Tapi_Coin) (a1 : Tapi_Coin) (x : Bool) (hr : X7 a0 a1 = some x) : ∃ kp fl n,Zt tt T G kp fl n Tryz.f70 (E70 (a0,a1)) = some (R70 (a0,a1) x):=by
 simp only [E70,R70];refine fnE (kp:=kp70) (w:=false) body70 (by simp) ?_;unfold c70;rw [Tryz.ntmps70];unfold X7 at hr;refine Za rfl (by simp []; rfl) ?_;by_cases c3 : a0.1.1 = a1.1.1
 ·skip
  by_cases c4 : a0.1.2 = a1.1.2
  ·skip
   rw [if_pos] at hr;rotate_left
   ·simp [eq_true c3,eq_true c4]
   obtain ⟨z5,hz5,hr⟩:=bs hr;obtain ⟨y6,hy6,hz5⟩:=bs hz5;have ehy6:=ZpO hy6;simp only [E99,R99,nf,nfs] at ehy6;obtain rfl:=Option.some.inj hz5;by_cases c7 : y6 = true
   ·skip
    by_cases c8 : a0.2.2.1 = a1.2.2.1
    ·skip
     refine Za rfl (by simp [hO,hT99,ehy6,eq_true c3,eq_true c4,c7,eq_true c8]; rfl) ?_;refine Zi ?_;obtain rfl:=Option.some.inj hr;simp [Zj,hO,hT99,ehy6,eq_true c3,eq_true c4,c7,eq_true c8]
    ·skip
     refine Za rfl (by simp [hO,hT99,ehy6,eq_true c3,eq_true c4,c7,c8]; rfl) ?_;refine Zi ?_;obtain rfl:=Option.some.inj hr;simp [Zj,hO,hT99,ehy6,eq_true c3,eq_true c4,c7,c8]
   ·skip
    refine Za rfl (by simp [hO,hT99,ehy6,eq_true c3,eq_true c4,c7]; rfl) ?_;refine Zi ?_;obtain rfl:=Option.some.inj hr;simp [Zj,hO,hT99,ehy6,eq_true c3,eq_true c4,c7]
  ·skip
   rw [if_neg] at hr;rotate_left
   ·simp [eq_true c3,c4]
   obtain ⟨z9,hz9,hr⟩:=bs hr;obtain rfl:=Option.some.inj hz9;refine Za rfl (by simp [eq_true c3,c4]; rfl) ?_;refine Zi ?_;obtain rfl:=Option.some.inj hr;simp [Zj,eq_true c3,c4]
 ·skip
  rw [if_neg] at hr;rotate_left
  ·simp [c3]
  obtain ⟨z10,hz10,hr⟩:=bs hr;obtain rfl:=Option.some.inj hz10;refine Za rfl (by simp [c3]; rfl) ?_;refine Zi ?_;obtain rfl:=Option.some.inj hr;simp [Zj,c3]
def kp37 : Keep:=fun i=>if i = 4 then ⟨[2,3,5],[2,3],[]⟩ else ⟨[],[],[]⟩
theorem w37 {T : Tab} (hO : T.own = fun _=>[]) (hT69 : T 69 = some G69) (hT70 : T 70 = some G70) (a0 : Tapi_Plan) (a1 : Tapi_Plan) (x : Bool) (hr : Zaw a0 a1 = some x) : ∃ kp fl n,Zt tt T G kp fl n Tryz.f37 (E37 (a0,a1)) = some (R37 (a0,a1) x):=by
 simp only [E37,R37];refine fnE (kp:=kp37) (w:=false) body37 (by simp) ?_;unfold c37;rw [Tryz.ntmps37];unfold Zaw at hr;refine Za rfl (by simp []; rfl) ?_;refine Zb ?_;obtain ⟨y16,hy16,hr⟩:=bs hr;have ehy16:=ZsT hy16;simp only [E69,R69,nf,nfs] at ehy16;by_cases c17 : y16 = true
 ·skip
  by_cases c18 : a0.2.2.1 = a1.2.2.1
  ·skip
   by_cases c19 : a0.2.2.2 = a1.2.2.2
   ·skip
    refine Za rfl (by simp [hO,hT69,ehy16,c17,eq_true c18,eq_true c19]; rfl) ?_;by_cases c20 : (a0.2.1.length : Int) = (a1.2.1.length : Int)
    ·skip
     have c20N:=c20;try simp at c20N
     rw [if_neg] at hr;rotate_left
     ·simp [c17,eq_true c18,eq_true c19,eq_true c20,eq_true c20N]
     refine Ze (by simp [bV,c17,eq_true c18,eq_true c19,eq_true c20,eq_true c20N]) ?_;refine Zh ?_;refine Zb ?_;refine Za rfl (by simp [c17,eq_true c18,eq_true c19,eq_true c20,eq_true c20N]; rfl) ?_;refine Zg ?_;refine ZJ (kq:=⟨[2,3,5],[2,3],[]⟩) (H:=fun (s : Int)=>match s with | p9=>(⟨(und 2++([.ptr 2 0 0 0 7,.ptr 3 0 0 0 7]++(und 1++([.one (.v (.int .i64 p9))]++(und 48)))) : List PV),([(2,⟨0,7,[[.v (.int .u32 a0.1.1),.slice .no (List.map Zm a0.1.2.1),.slice .no (List.map Zk a0.1.2.2.1),.v (.int .u32 a0.1.2.2.2),.slice .no (List.map ZB a0.2.1),.v (.int .i64 a0.2.2.1),.v (.int .i64 a0.2.2.2)]],false,false⟩),(3,⟨0,7,[[.v (.int .u32 a1.1.1),.slice .no (List.map Zm a1.1.2.1),.slice .no (List.map Zk a1.1.2.2.1),.v (.int .u32 a1.1.2.2.2),.slice .no (List.map ZB a1.2.1),.v (.int .i64 a1.2.2.1),.v (.int .i64 a1.2.2.2)]],false,false⟩)] : Boxes)⟩ : ASt)) (by kernel_rfl) hr (by simp [und,List.replicate,c17,eq_true c18,eq_true c19,eq_true c20,eq_true c20N]) ?_;rintro p9 x28r hr28
     simp only [ZdL] at hr28;unfold b37_1;simp only [und,List.replicate,List.cons_append,List.nil_append];refine Zb ?_;refine Za rfl (by simp [c17,eq_true c18,eq_true c19,eq_true c20,eq_true c20N]; rfl) ?_;by_cases c29 : p9 < (a0.2.1.length : Int)
     ·skip
      have c29N:=c29;try simp at c29N
      first | have c29M : (_ = _) = True:=eq_true c29N | have c29M:=c29N
      rw [if_pos] at hr28;rotate_left
      ·simp [c17,eq_true c18,eq_true c19,eq_true c20,eq_true c20N,c29,c29M]
      refine Zd (by simp [bV,c17,eq_true c18,eq_true c19,eq_true c20,eq_true c20N,c29,c29M]) ?_;refine Zh ?_;refine Zg ?_;obtain ⟨x30,hx30,hr28⟩:=bs hr28;obtain ⟨hx30a,hx30b⟩:=Zz hx30;have hx30c:=Zq hx30b;obtain ⟨x31,hx31,hr28⟩:=bs hr28;obtain ⟨hx31a,hx31b⟩:=Zz hx31;have hx31c:=Zq hx31b;obtain ⟨y32,hy32,hr28⟩:=bs hr28;have ehy32:=ZsU hy32;simp only [E70,R70,nf,nfs] at ehy32;refine ZC rfl (by simp [hx30a,hx30b,hx30c,hx31a,hx31b,hx31c,hO,hT70,ehy32,c17,eq_true c18,eq_true c19,eq_true c20,eq_true c20N,c29,c29M]; first | exact ⟨rfl,rfl⟩ | rfl) (by kernel_rfl) ?_;by_cases c33 : y32 = true
      ·skip
       rw [if_neg (not_not_intro c33)] at hr28;refine Zy (by simp [bV,c17,eq_true c18,eq_true c19,eq_true c20,eq_true c20N,c29,c29M,c33]) ?_;refine ZV ?_;simp only [pq,reduceCtorEq];refine ZA rfl (by simp [c17,eq_true c18,eq_true c19,eq_true c20,eq_true c20N,c29,c29M,c33]; rfl) ?_;obtain rfl:=Option.some.inj hr28;simp only [pq,reduceCtorEq];simp [und,List.replicate,Nat.add_assoc,c17,eq_true c18,eq_true c19,eq_true c20,eq_true c20N,c29,c29M,c33]
      ·skip
       rw [if_pos c33] at hr28;refine Zp (by simp [bV,c17,eq_true c18,eq_true c19,eq_true c20,eq_true c20N,c29,c29M,c33]) ?_;refine Za rfl (by simp [c17,eq_true c18,eq_true c19,eq_true c20,eq_true c20N,c29,c29M,c33]; rfl) ?_;refine Zi ?_;obtain rfl:=Option.some.inj hr28;simp only [pq,reduceCtorEq];rintro rfl
       simp [Zj,c17,eq_true c18,eq_true c19,eq_true c20,eq_true c20N,c29,c29M,c33,c29N]
     ·skip
      have c29N:=c29;try simp at c29N
      first | have c29M : (_ = _) = True:=eq_true c29N | have c29M:=c29N
      rw [if_neg] at hr28;rotate_left
      ·simp [c17,eq_true c18,eq_true c19,eq_true c20,eq_true c20N,c29,c29M]
      refine Ze (by simp [bV,c17,eq_true c18,eq_true c19,eq_true c20,eq_true c20N,c29,c29M]) ?_;refine Zr ?_;obtain ⟨r34,q34,rfl⟩:=ms hr28;simp only [pq,reduceCtorEq];rintro rfl
      try simp only [pq,reduceCtorEq]
      unfold Lref34_Same_k1 at q34;refine Za rfl (by simp [c17,eq_true c18,eq_true c19,eq_true c20,eq_true c20N,c29,c29M]; rfl) ?_;refine Zi ?_;obtain rfl:=Option.some.inj q34;simp [Zj,c17,eq_true c18,eq_true c19,eq_true c20,eq_true c20N,c29,c29M,c29N]
    ·skip
     have c20N:=c20;try simp at c20N
     first | have c20M : (_ = _) = True:=eq_true c20N | have c20M:=c20N
     rw [if_pos] at hr;rotate_left
     ·simp [c17,eq_true c18,eq_true c19,c20,c20M]
     refine Zd (by simp [bV,c17,eq_true c18,eq_true c19,c20,c20M]) ?_;refine Zb ?_;refine Za rfl (by simp [c17,eq_true c18,eq_true c19,c20,c20M]; rfl) ?_;refine Zn ?_;obtain rfl:=Option.some.inj hr;simp [Zj,c17,eq_true c18,eq_true c19,c20,c20M,c20N]
   ·skip
    refine Za rfl (by simp [hO,hT69,ehy16,c17,eq_true c18,c19]; rfl) ?_;rw [if_pos] at hr;rotate_left
    ·simp [c17,eq_true c18,c19]
    refine Zd (by simp [bV,c17,eq_true c18,c19]) ?_;refine Zb ?_;refine Za rfl (by simp [c17,eq_true c18,c19]; rfl) ?_;refine Zn ?_;obtain rfl:=Option.some.inj hr;simp [Zj,c17,eq_true c18,c19]
  ·skip
   refine Za rfl (by simp [hO,hT69,ehy16,c17,c18]; rfl) ?_;rw [if_pos] at hr;rotate_left
   ·simp [c17,c18]
   refine Zd (by simp [bV,c17,c18]) ?_;refine Zb ?_;refine Za rfl (by simp [c17,c18]; rfl) ?_;refine Zn ?_;obtain rfl:=Option.some.inj hr;simp [Zj,c17,c18]
 ·skip
  refine Za rfl (by simp [hO,hT69,ehy16,c17]; rfl) ?_;rw [if_pos] at hr;rotate_left
  ·simp [c17]
  refine Zd (by simp [bV,c17]) ?_;refine Zb ?_;refine Za rfl (by simp [c17]; rfl) ?_;refine Zn ?_;obtain rfl:=Option.some.inj hr;simp [Zj,c17]
def kp13 : Keep:=fun i=>if i = 4 then ⟨[2,3,5],[2,3],[]⟩ else ⟨[],[],[]⟩
theorem w13 {T : Tab} (hO : T.own = fun _=>[]) (hT37 : T 37 = some G37) (a0 : Tapi_PartialTx) (a1 : Tapi_PartialTx) (x : Bool) (hr : Zax a0 a1 = some x) : ∃ kp fl n,Zt tt T G kp fl n Tryz.f13 (E13 (a0,a1)) = some (R13 (a0,a1) x):=by
 simp only [E13,R13];refine fnE (kp:=kp13) (w:=false) body13 (by simp) ?_;unfold c13;rw [Tryz.ntmps13];unfold Zax at hr;refine Za rfl (by simp []; rfl) ?_;refine Zb ?_;obtain ⟨y12,hy12,hr⟩:=bs hr;have ehy12:=ZpP hy12;simp only [E37,R37,nf,nfs] at ehy12;by_cases c13 : y12 = true
 ·skip
  refine Za rfl (by simp [hO,hT37,ehy12,c13]; rfl) ?_;by_cases c14 : (a0.2.length : Int) = (a1.2.length : Int)
  ·skip
   have c14N:=c14;try simp at c14N
   rw [if_neg] at hr;rotate_left
   ·simp [c13,eq_true c14,eq_true c14N]
   refine Ze (by simp [bV,c13,eq_true c14,eq_true c14N]) ?_;refine Zh ?_;refine Zb ?_;refine Za rfl (by simp [c13,eq_true c14,eq_true c14N]; rfl) ?_;refine Zg ?_;refine ZJ (kq:=⟨[2,3,5],[2,3],[]⟩) (H:=fun (s : Int)=>match s with | p7=>(⟨(und 2++([.ptr 2 0 0 0 8,.ptr 3 0 0 0 8]++(und 1++([.one (.v (.int .i64 p7))]++(und 33)))) : List PV),([(2,⟨0,8,[[.v (.int .u32 a0.1.1.1),.slice .no (List.map Zm a0.1.1.2.1),.slice .no (List.map Zk a0.1.1.2.2.1),.v (.int .u32 a0.1.1.2.2.2),.slice .no (List.map ZB a0.1.2.1),.v (.int .i64 a0.1.2.2.1),.v (.int .i64 a0.1.2.2.2),.slice .no (List.map ZE a0.2)]],false,false⟩),(3,⟨0,8,[[.v (.int .u32 a1.1.1.1),.slice .no (List.map Zm a1.1.1.2.1),.slice .no (List.map Zk a1.1.1.2.2.1),.v (.int .u32 a1.1.1.2.2.2),.slice .no (List.map ZB a1.1.2.1),.v (.int .i64 a1.1.2.2.1),.v (.int .i64 a1.1.2.2.2),.slice .no (List.map ZE a1.2)]],false,false⟩)] : Boxes)⟩ : ASt)) (by kernel_rfl) hr (by simp [und,List.replicate,c13,eq_true c14,eq_true c14N]) ?_;rintro p7 x24r hr24
   simp only [ZdM] at hr24;unfold b13_1;simp only [und,List.replicate,List.cons_append,List.nil_append];refine Zb ?_;refine Za rfl (by simp [c13,eq_true c14,eq_true c14N]; rfl) ?_;by_cases c25 : p7 < (a0.2.length : Int)
   ·skip
    have c25N:=c25;try simp at c25N
    first | have c25M : (_ = _) = True:=eq_true c25N | have c25M:=c25N
    rw [if_pos] at hr24;rotate_left
    ·simp [c13,eq_true c14,eq_true c14N,c25,c25M]
    refine Zd (by simp [bV,c13,eq_true c14,eq_true c14N,c25,c25M]) ?_;refine Zh ?_;refine Zg ?_;obtain ⟨x26,hx26,hr24⟩:=bs hr24;obtain ⟨hx26a,hx26b⟩:=Zz hx26;have hx26c:=Zq hx26b;obtain ⟨x27,hx27,hr24⟩:=bs hr24;obtain ⟨hx27a,hx27b⟩:=Zz hx27;have hx27c:=Zq hx27b;refine ZC rfl (by simp [hx26a,hx26b,hx26c,hx27a,hx27b,hx27c,c13,eq_true c14,eq_true c14N,c25,c25M]; first | exact ⟨rfl,rfl⟩ | rfl) (by kernel_rfl) ?_;by_cases c28 : x26.1 = x27.1
    ·skip
     by_cases c29 : x26.2.1 = x27.2.1
     ·skip
      by_cases c30 : x26.2.2.1 = x27.2.2.1
      ·skip
       by_cases c31 : x26.2.2.2 = x27.2.2.2
       ·skip
        rw [if_neg] at hr24;rotate_left
        ·simp [c13,eq_true c14,eq_true c14N,c25,c25M,eq_true c28,eq_true c29,eq_true c30,eq_true c31]
        refine Zy (by simp [bV,c13,eq_true c14,eq_true c14N,c25,c25M,eq_true c28,eq_true c29,eq_true c30,eq_true c31]) ?_;refine ZV ?_;simp only [pq,reduceCtorEq];refine ZA rfl (by simp [c13,eq_true c14,eq_true c14N,c25,c25M,eq_true c28,eq_true c29,eq_true c30,eq_true c31]; rfl) ?_;obtain rfl:=Option.some.inj hr24;simp only [pq,reduceCtorEq];simp [und,List.replicate,Nat.add_assoc,c13,eq_true c14,eq_true c14N,c25,c25M,eq_true c28,eq_true c29,eq_true c30,eq_true c31]
       ·skip
        rw [if_pos] at hr24;rotate_left
        ·simp [c13,eq_true c14,eq_true c14N,c25,c25M,eq_true c28,eq_true c29,eq_true c30,c31]
        refine Zp (by simp [bV,c13,eq_true c14,eq_true c14N,c25,c25M,eq_true c28,eq_true c29,eq_true c30,c31]) ?_;refine Za rfl (by simp [c13,eq_true c14,eq_true c14N,c25,c25M,eq_true c28,eq_true c29,eq_true c30,c31]; rfl) ?_;refine Zi ?_;obtain rfl:=Option.some.inj hr24;simp only [pq,reduceCtorEq];rintro rfl
        simp [Zj,c13,eq_true c14,eq_true c14N,c25,c25M,eq_true c28,eq_true c29,eq_true c30,c31,c25N]
      ·skip
       rw [if_pos] at hr24;rotate_left
       ·simp [c13,eq_true c14,eq_true c14N,c25,c25M,eq_true c28,eq_true c29,c30]
       refine Zp (by simp [bV,c13,eq_true c14,eq_true c14N,c25,c25M,eq_true c28,eq_true c29,c30]) ?_;refine Za rfl (by simp [c13,eq_true c14,eq_true c14N,c25,c25M,eq_true c28,eq_true c29,c30]; rfl) ?_;refine Zi ?_;obtain rfl:=Option.some.inj hr24;simp only [pq,reduceCtorEq];rintro rfl
       simp [Zj,c13,eq_true c14,eq_true c14N,c25,c25M,eq_true c28,eq_true c29,c30,c25N]
     ·skip
      rw [if_pos] at hr24;rotate_left
      ·simp [c13,eq_true c14,eq_true c14N,c25,c25M,eq_true c28,c29]
      refine Zp (by simp [bV,c13,eq_true c14,eq_true c14N,c25,c25M,eq_true c28,c29]) ?_;refine Za rfl (by simp [c13,eq_true c14,eq_true c14N,c25,c25M,eq_true c28,c29]; rfl) ?_;refine Zi ?_;obtain rfl:=Option.some.inj hr24;simp only [pq,reduceCtorEq];rintro rfl
      simp [Zj,c13,eq_true c14,eq_true c14N,c25,c25M,eq_true c28,c29,c25N]
    ·skip
     rw [if_pos] at hr24;rotate_left
     ·simp [c13,eq_true c14,eq_true c14N,c25,c25M,c28]
     refine Zp (by simp [bV,c13,eq_true c14,eq_true c14N,c25,c25M,c28]) ?_;refine Za rfl (by simp [c13,eq_true c14,eq_true c14N,c25,c25M,c28]; rfl) ?_;refine Zi ?_;obtain rfl:=Option.some.inj hr24;simp only [pq,reduceCtorEq];rintro rfl
     simp [Zj,c13,eq_true c14,eq_true c14N,c25,c25M,c28,c25N]
   ·skip
    have c25N:=c25;try simp at c25N
    first | have c25M : (_ = _) = True:=eq_true c25N | have c25M:=c25N
    rw [if_neg] at hr24;rotate_left
    ·simp [c13,eq_true c14,eq_true c14N,c25,c25M]
    refine Ze (by simp [bV,c13,eq_true c14,eq_true c14N,c25,c25M]) ?_;refine Zr ?_;obtain ⟨r32,q32,rfl⟩:=ms hr24;simp only [pq,reduceCtorEq];rintro rfl
    try simp only [pq,reduceCtorEq]
    unfold Lref35_Same_k1 at q32;refine Za rfl (by simp [c13,eq_true c14,eq_true c14N,c25,c25M]; rfl) ?_;refine Zi ?_;obtain rfl:=Option.some.inj q32;simp [Zj,c13,eq_true c14,eq_true c14N,c25,c25M,c25N]
  ·skip
   have c14N:=c14;try simp at c14N
   first | have c14M : (_ = _) = True:=eq_true c14N | have c14M:=c14N
   rw [if_pos] at hr;rotate_left
   ·simp [c13,c14,c14M]
   refine Zd (by simp [bV,c13,c14,c14M]) ?_;refine Zb ?_;refine Za rfl (by simp [c13,c14,c14M]; rfl) ?_;refine Zn ?_;obtain rfl:=Option.some.inj hr;simp [Zj,c13,c14,c14M,c14N]
 ·skip
  refine Za rfl (by simp [hO,hT37,ehy12,c13]; rfl) ?_;rw [if_pos] at hr;rotate_left
  ·simp [c13]
  refine Zd (by simp [bV,c13]) ?_;refine Zb ?_;refine Za rfl (by simp [c13]; rfl) ?_;refine Zn ?_;obtain rfl:=Option.some.inj hr;simp [Zj,c13]
def kp87 : Keep:=fun i=>⟨[],[],[]⟩
theorem w87 {T : Tab} (a0 : Tapi_OutPoint) (x : Bool) (hr : Zes a0 = some x) : ∃ kp fl n,Zt tt T G kp fl n Tryz.f87 (E87 a0) = some (R87 a0 x):=by
 simp only [E87,R87];refine fnE (kp:=kp87) (w:=false) body87 (by simp) ?_;unfold c87;rw [Tryz.ntmps87];unfold Zes at hr;refine Za rfl (by simp []; rfl) ?_;refine Za rfl (by simp []; rfl) ?_;refine Zi ?_;obtain rfl:=Option.some.inj hr;simp [Zj,]
end Go.Proofs.YtbjhgolpnjokbaaGreat
