import Derived.Test.YtjdoijdjeapekaaGreatDoorLfK
import Derived.Test.YtjdoijdjeapekaaGreatDoorCode
namespace Go.Proofs.YtjdoijdjeapekaaGreatDoor
open Go.RowKit
open Go.Av
open Go.Lc
set_option maxRecDepth 100000
set_option linter.unusedSimpArgs false
set_option linter.unusedVariables false
set_option maxHeartbeats 4000000
attribute [simp] arz64
def kp3 : Keep:=fun i=>if i = 9 then ⟨[2,7,8,9,53,54,55],[9,32,34,36,49,53,100036,100049],[(1000000000,some 34,0,1),(1000000000,some 36,0,1),(1000000000,some 49,0,1),(1000000000,some 100036,0,1),(1000000000,some 100049,0,1)]⟩ else if i = 12 then ⟨[2,7,8,9,11,53,54,55,62,63,64],[9,32,34,36,49,53,62,100036,100049],[(1000000000,some 34,0,1),(1000000000,some 36,0,1),(1000000000,some 49,0,1),(1000000000,some 100036,0,1),(1000000000,some 100049,0,1)]⟩ else if i = 19 then ⟨[2,7,8,9,11,15,18,53,54,55,62,63,64,103,104],[9,32,34,36,49,53,62,100036,100049],[]⟩ else ⟨[],[],[]⟩
theorem w3 {T : Tab} (hO : T.own = fun _=>[]) (hT4 : T 4 = some K4.G) (hT5 : T 5 = some K5.G) (hT6 : T 6 = some K6.G) (hT7 : T 7 = some K7.G) (hT8 : T 8 = some K8.G) (hT9 : T 9 = some K9.G) (hT10 : T 10 = some K10.G) (hT11 : T 11 = some K11.G) (hT12 : T 12 = some G12) (hT13 : T 13 = some K13.G) (hT14 : T 14 = some K14.G) (hT15 : T 15 = some K15.G) (a0 : (List Int)) (a1 : Int) (a2 : Int) (x : Bool) (hr : Llaw36_ReplaceInserts a0 a1 a2 = some x) : ∃ kp fl n,execFn tt T G kp fl n Tryz.f3 (E3 (a0,a1,a2)) = some (R3 (a0,a1,a2) x):=by
 simp only [E3,R3];refine fnE (kp:=kp3) (w:=false) body3 (by simp) ?_;unfold c3;rw [Tryz.ntmps3];unfold Llaw36_ReplaceInserts at hr;refine ee_seq_reg rfl (by simp []; rfl) ?_;refine ee_assoc ?_;obtain ⟨y496,hy496,hr⟩:=bs hr;have ehy496:=G4_eq hy496;simp only [K4,nf,nfs] at ehy496;refine ee_seq_reg rfl (by simp [hO,hT4,ehy496]; rfl) ?_;by_cases c497 : y496 = true
 ·skip
  rw [if_neg (not_not_intro c497)] at hr;refine ee_seq_condF (by simp [bV,c497]) ?_;refine ee_seq_skip ?_;obtain ⟨y498,hy498,hr⟩:=bs hr;have ehy498:=G5_eq hy498;simp only [K5,nf,nfs] at ehy498;refine ee_seq_reg rfl (by simp [hO,hT5,ehy498,c497]; rfl) ?_;obtain ⟨y499,hy499,hr⟩:=bs hr;have ehy499:=G6_eq hy499;simp only [K6,nf,nfs] at ehy499;refine ee_seq_reg rfl (by simp [hO,hT6,ehy499,c497]; rfl) ?_;obtain ⟨y500,hy500,hr⟩:=bs hr;have ehy500:=G7_eq hy500;simp only [K7,nf,nfs] at ehy500;refine ee_seq_reg rfl (by simp [hO,hT7,ehy500,c497]; rfl) ?_;refine ee_assoc ?_;refine ee_seq_reg rfl (by simp [c497]; rfl) ?_;by_cases c506 : 0 < (y499.1.length : Int)
  ·skip
   have c506N:=c506;try simp at c506N
   first | have c506M : (_ = _) = True:=eq_true c506N | have c506M:=c506N
   rw [if_pos c506] at hr;refine ee_seq_condT (by simp [bV,c497,c506,c506M]) ?_;obtain ⟨y507,hy507,hr⟩:=bs hr;have ehy507:=G9_eq hy507;simp only [K9,nf,nfs] at ehy507;obtain ⟨j508,hj508,hr⟩:=bs hr;obtain ⟨j508a,j508b,j508c⟩:=inA_some hj508;obtain ⟨x509,hx509,hr⟩:=bs hr;have ghx509:=getE_of hx509;obtain ⟨y510,hy510,hr⟩:=bs hr;have ehy510:=G8_eq hy510;simp only [K8,nf,nfs] at ehy510;refine ee_seq_reg rfl (by simp [hO,hT9,ehy507,j508a,j508b,j508c,hx509,ghx509,hT8,ehy510,c497,c506,c506M] <;> rfl) ?_;unfold Llaw36_ReplaceInserts_k1 at hr;refine ee_assoc ?_;obtain ⟨y511,hy511,hr⟩:=bs hr;have ehy511:=G9_eq hy511;simp only [K9,nf,nfs] at ehy511;refine ee_seq_reg rfl (by simp [hO,hT9,ehy511,List.range,List.range.loop,c497,c506,c506M] <;> rfl) ?_;refine ee_seq_block ?_;refine ee_loop (kq:=⟨[2,7,8,9,53,54,55],[9,32,34,36,49,53,100036,100049],[(1000000000,some 34,0,1),(1000000000,some 36,0,1),(1000000000,some 49,0,1),(1000000000,some 100036,0,1),(1000000000,some 100049,0,1)]⟩) (H:=fun (s : Int)=>match s with | p104=>(⟨(und 2++([.one (.v (.int .i64 a2))]++(und 4++([.ptr 32 0 0 0 2,.one (.ms 34 0 0 (y499.1.length) 5),.ptr 9 0 0 0 4]++(und 43++([.one (.ms 53 0 0 (2) 1),.one (.v (.int .i64 (2 : Int))),.one (.v (.int .i64 p104))]++(und 103)))))) : List PV),([(9,⟨0,4,[[.v (.int .u32 y510.1.1),.ms 49 0 0 (y510.1.2.1.length) 35,.ms 100049 0 0 (y510.1.2.2.1.length) 2,.v (.int .u32 y510.1.2.2.2)]],false,false⟩),(32,⟨0,2,[[.slice .no (intsR .i64 y511.2.1),.v (.int .i64 y511.2.2)]],false,false⟩),(34,⟨0,5,List.map eapi_Entry y499.1,true,true⟩),(36,⟨0,35,List.map eapi_Input y500.1.2.1,true,true⟩),(49,⟨0,35,List.map eapi_Input y510.1.2.1,true,true⟩),(53,⟨0,1,intsR .i64 [a1,y511.1],false,true⟩),(100036,⟨0,2,List.map eapi_Output y500.1.2.2.1,true,true⟩),(100049,⟨0,2,List.map eapi_Output y510.1.2.2.1,true,true⟩)] : Boxes)⟩ : ASt)) (by kernel_rfl) hr (by simp [und,List.replicate,c497,c506,c506M]) ?_;rintro p104 x568r hr568
   simp only [Llaw36_ReplaceInserts_s1] at hr568;unfold b3_1;simp only [und,List.replicate,List.cons_append,List.nil_append];refine ee_seq_reg rfl (by simp [c497,c506,c506M] <;> rfl) ?_;by_cases c569 : p104 < (2 : Int)
   ·skip
    rw [if_pos] at hr568;rotate_left
    ·simp [c497,c506,c506M,c569]
    refine ee_seq_condT (by simp [bV,c497,c506,c506M,c569]) ?_;refine ee_seq_skip ?_;refine ee_seq_block ?_;obtain ⟨j570,hj570,hr568⟩:=bs hr568;obtain ⟨j570a,j570b,j570c⟩:=inA_some hj570;have j570d : j570≤1:=by omega
    obtain ⟨x571,hx571,hr568⟩:=bs hr568;have ghx571:=getE_of hx571;have mhx571 : (intsR .i64 ([a1,y511.1]))[j570]? = some [.v (.int .i64 x571)]:=by rw [intsR_get,hx571]; rfl
    simp only [intsR_cons,intsR_nil] at mhx571;have mghx571:=getE_of mhx571;refine ee_seq_reg rfl (by simp [j570a,j570b,j570c,j570d,hx571,ghx571,mhx571,mghx571,c497,c506,c506M,c569] <;> rfl) ?_;obtain ⟨y572,hy572,hr568⟩:=bs hr568;have ehy572:=G10_eq hy572;simp only [K10,nf,nfs] at ehy572;refine ee_seq_reg rfl (by simp [hO,hT10,ehy572,List.range,List.range.loop,c497,c506,c506M,c569] <;> rfl) ?_;refine ee_block ?_;refine ee_loop (kq:=⟨[2,7,8,9,11,53,54,55,62,63,64],[9,32,34,36,49,53,62,100036,100049],[(1000000000,some 34,0,1),(1000000000,some 36,0,1),(1000000000,some 49,0,1),(1000000000,some 100036,0,1),(1000000000,some 100049,0,1)]⟩) (H:=fun (s : Int)=>match s with | p192=>(⟨(und 2++([.one (.v (.int .i64 a2))]++(und 4++([.ptr 32 0 0 0 2,.one (.ms 34 0 0 (y499.1.length) 5),.ptr 9 0 0 0 4]++(und 1++([.one (.v (.int .i64 x571))]++(und 41++([.one (.ms 53 0 0 (2) 1),.one (.v (.int .i64 (2 : Int))),.one (.v (.int .i64 p104))]++(und 6++([.one (.ms 62 0 0 (2) 1),.one (.v (.int .i64 (2 : Int))),.one (.v (.int .i64 p192))]++(und 94)))))))))) : List PV),([(9,⟨0,4,[[.v (.int .u32 y510.1.1),.ms 49 0 0 (y510.1.2.1.length) 35,.ms 100049 0 0 (y510.1.2.2.1.length) 2,.v (.int .u32 y510.1.2.2.2)]],false,false⟩),(32,⟨0,2,[[.slice .no (intsR .i64 y511.2.1),.v (.int .i64 y511.2.2)]],false,false⟩),(34,⟨0,5,List.map eapi_Entry y499.1,true,true⟩),(36,⟨0,35,List.map eapi_Input y500.1.2.1,true,true⟩),(49,⟨0,35,List.map eapi_Input y510.1.2.1,true,true⟩),(53,⟨0,1,intsR .i64 [a1,y511.1],false,true⟩),(62,⟨0,1,intsR .i64 [a2,y572],false,true⟩),(100036,⟨0,2,List.map eapi_Output y500.1.2.2.1,true,true⟩),(100049,⟨0,2,List.map eapi_Output y510.1.2.2.1,true,true⟩)] : Boxes)⟩ : ASt)) (by kernel_rfl) hr568 (by simp [und,List.replicate,c497,c506,c506M,c569]) ?_;rintro p192 x598r hr598
    simp only [Llaw36_ReplaceInserts_s2] at hr598;unfold b3_2;simp only [und,List.replicate,List.cons_append,List.nil_append];refine ee_seq_reg rfl (by simp [c497,c506,c506M,c569] <;> rfl) ?_;by_cases c599 : p192 < (2 : Int)
    ·skip
     rw [if_pos] at hr598;rotate_left
     ·simp [c497,c506,c506M,c569,c599]
     refine ee_seq_condT (by simp [bV,c497,c506,c506M,c569,c599]) ?_;refine ee_seq_skip ?_;refine ee_seq_block ?_;obtain ⟨j600,hj600,hr598⟩:=bs hr598;obtain ⟨j600a,j600b,j600c⟩:=inA_some hj600;have j600d : j600≤1:=by omega
     obtain ⟨x601,hx601,hr598⟩:=bs hr598;have ghx601:=getE_of hx601;have mhx601 : (intsR .i64 ([a2,y572]))[j600]? = some [.v (.int .i64 x601)]:=by rw [intsR_get,hx601]; rfl
     simp only [intsR_cons,intsR_nil] at mhx601;have mghx601:=getE_of mhx601;refine ee_seq_reg rfl (by simp [j600a,j600b,j600c,j600d,hx601,ghx601,mhx601,mghx601,c497,c506,c506M,c569,c599] <;> rfl) ?_;obtain ⟨y602,hy602,hr598⟩:=bs hr598;have ehy602:=G11_eq hy602;simp only [K11,nf,nfs] at ehy602;refine ee_seq_reg rfl (by simp [hO,hT11,ehy602,c497,c506,c506M,c569,c599] <;> rfl) ?_;obtain ⟨y603,hy603,hr598⟩:=bs hr598;have ehy603:=G12_eq hy603;simp only [E12,R12,nf,nfs] at ehy603;refine ee_seq_reg rfl (by simp [hO,hT12,ehy603,c497,c506,c506M,c569,c599] <;> rfl) ?_;refine ee_assoc ?_;by_cases c604 : y602.2.2 = y603.2.2
     ·skip
      rw [if_neg] at hr598;rotate_left
      ·simp [c497,c506,c506M,c569,c599,eq_true c604]
      obtain ⟨z605,hz605,hr598⟩:=bs hr598;obtain ⟨y606,hy606,hz605⟩:=bs hz605;have ehy606:=G13_eq hy606;simp only [K13,nf,nfs] at ehy606;obtain rfl:=Option.some.inj hz605;by_cases c607 : y606 = true
      ·skip
       refine ee_seq_reg rfl (by simp [hO,hT13,ehy606,c497,c506,c506M,c569,c599,eq_true c604,c607] <;> rfl) ?_;by_cases c608 : (y602.2.1.length : Int) = (y603.2.1.length : Int)
       ·skip
        have c608N:=c608;try simp at c608N
        rw [if_neg] at hr598;rotate_left
        ·simp [c497,c506,c506M,c569,c599,eq_true c604,c607,eq_true c608,eq_true c608N]
        refine ee_seq_condF (by simp [bV,c497,c506,c506M,c569,c599,eq_true c604,c607,eq_true c608,eq_true c608N]) ?_;refine ee_seq_skip ?_;refine ee_seq_reg rfl (by simp [c497,c506,c506M,c569,c599,eq_true c604,c607,eq_true c608,eq_true c608N] <;> rfl) ?_;refine ee_block ?_;refine ee_loop (kq:=⟨[2,7,8,9,11,15,18,53,54,55,62,63,64,103,104],[9,32,34,36,49,53,62,100036,100049],[]⟩) (H:=fun (s : Int)=>match s with | p218=>(⟨(und 2++([.one (.v (.int .i64 a2))]++(und 4++([.ptr 32 0 0 0 2,.one (.ms 34 0 0 (y499.1.length) 5),.ptr 9 0 0 0 4]++(und 1++([.one (.v (.int .i64 x571))]++(und 3++([.one (.slice .no (List.map (arC .u8) y602.2.1))]++(und 2++([.one (.slice .no (List.map (arC .u8) y603.2.1))]++(und 34++([.one (.ms 53 0 0 (2) 1),.one (.v (.int .i64 (2 : Int))),.one (.v (.int .i64 p104))]++(und 6++([.one (.ms 62 0 0 (2) 1),.one (.v (.int .i64 (2 : Int))),.one (.v (.int .i64 p192))]++(und 38++([.one (.v (.int .i64 (y602.2.1.length : Int))),.one (.v (.int .i64 p218))]++(und 54)))))))))))))))) : List PV),([(9,⟨0,4,[[.v (.int .u32 y510.1.1),.ms 49 0 0 (y510.1.2.1.length) 35,.ms 100049 0 0 (y510.1.2.2.1.length) 2,.v (.int .u32 y510.1.2.2.2)]],false,false⟩),(32,⟨0,2,[[.slice .no (intsR .i64 y511.2.1),.v (.int .i64 y511.2.2)]],false,false⟩),(34,⟨0,5,List.map eapi_Entry y499.1,true,true⟩),(36,⟨0,35,List.map eapi_Input y500.1.2.1,true,true⟩),(49,⟨0,35,List.map eapi_Input y510.1.2.1,true,true⟩),(53,⟨0,1,intsR .i64 [a1,y511.1],false,true⟩),(62,⟨0,1,intsR .i64 [a2,y572],false,true⟩),(100036,⟨0,2,List.map eapi_Output y500.1.2.2.1,true,true⟩),(100049,⟨0,2,List.map eapi_Output y510.1.2.2.1,true,true⟩)] : Boxes)⟩ : ASt)) (by kernel_rfl) hr598 (by simp [und,List.replicate,c497,c506,c506M,c569,c599,eq_true c604,c607,eq_true c608,eq_true c608N]) ?_;rintro p218 x615r hr615
        simp only [Llaw36_ReplaceInserts_s3] at hr615;unfold b3_3;simp only [und,List.replicate,List.cons_append,List.nil_append];refine ee_seq_reg rfl (by simp [c497,c506,c506M,c569,c599,eq_true c604,c607,eq_true c608,eq_true c608N] <;> rfl) ?_;by_cases c616 : p218 < (y602.2.1.length : Int)
        ·skip
         have c616N:=c616;try simp at c616N
         first | have c616M : (_ = _) = True:=eq_true c616N | have c616M:=c616N
         rw [if_pos] at hr615;rotate_left
         ·simp [c497,c506,c506M,c569,c599,eq_true c604,c607,eq_true c608,eq_true c608N,c616,c616M]
         refine ee_seq_condT (by simp [bV,c497,c506,c506M,c569,c599,eq_true c604,c607,eq_true c608,eq_true c608N,c616,c616M]) ?_;refine ee_seq_skip ?_;refine ee_seq_block ?_;refine ee_seq_reg rfl (by simp [c497,c506,c506M,c569,c599,eq_true c604,c607,eq_true c608,eq_true c608N,c616,c616M] <;> rfl) ?_;obtain ⟨x617,hx617,hr615⟩:=bs hr615;obtain ⟨hx617a,hx617b⟩:=idx_some hx617;have hx617c:=getE_of hx617b;obtain ⟨x618,hx618,hr615⟩:=bs hr615;obtain ⟨hx618a,hx618b⟩:=idx_some hx618;have hx618c:=getE_of hx618b;refine ee_seq_draw rfl (by simp [hx617a,hx617b,hx617c,hx618a,hx618b,hx618c,c497,c506,c506M,c569,c599,eq_true c604,c607,eq_true c608,eq_true c608N,c616,c616M]; first | exact ⟨rfl,rfl⟩ | rfl) (by kernel_rfl) ?_;by_cases c619 : x617 = x618
         ·skip
          rw [if_neg (not_not_intro c619)] at hr615;refine ee_condF (by simp [bV,c497,c506,c506M,c569,c599,eq_true c604,c607,eq_true c608,eq_true c608N,c616,c616M,eq_true c619]) ?_;refine ee_skip ?_;simp only [pq,reduceCtorEq];refine ee_reg rfl (by simp [c497,c506,c506M,c569,c599,eq_true c604,c607,eq_true c608,eq_true c608N,c616,c616M,eq_true c619] <;> rfl) ?_;obtain rfl:=Option.some.inj hr615;simp only [pq,reduceCtorEq];simp [und,List.replicate,Nat.add_assoc,c497,c506,c506M,c569,c599,eq_true c604,c607,eq_true c608,eq_true c608N,c616,c616M,eq_true c619]
         ·skip
          rw [if_pos c619] at hr615;refine ee_condT (by simp [bV,c497,c506,c506M,c569,c599,eq_true c604,c607,eq_true c608,eq_true c608N,c616,c616M,c619]) ?_;refine ee_seq_reg rfl (by simp [c497,c506,c506M,c569,c599,eq_true c604,c607,eq_true c608,eq_true c608N,c616,c616M,c619] <;> rfl) ?_;refine ee_ret ?_;obtain rfl:=Option.some.inj hr615;simp only [pq,reduceCtorEq];rintro rfl
          simp only [pq,reduceCtorEq];rintro rfl
          simp only [pq,reduceCtorEq];rintro rfl
          simp [FinQ,c497,c506,c506M,c569,c599,eq_true c604,c607,eq_true c608,eq_true c608N,c616,c616M,c619,c506N,c616N]
        ·skip
         have c616N:=c616;try simp at c616N
         first | have c616M : (_ = _) = True:=eq_true c616N | have c616M:=c616N
         rw [if_neg] at hr615;rotate_left
         ·simp [c497,c506,c506M,c569,c599,eq_true c604,c607,eq_true c608,eq_true c608N,c616,c616M]
         refine ee_seq_condF (by simp [bV,c497,c506,c506M,c569,c599,eq_true c604,c607,eq_true c608,eq_true c608N,c616,c616M]) ?_;refine ee_seq_exit ?_;obtain ⟨r620,q620,rfl⟩:=ms hr615;simp only [pq,reduceCtorEq];rintro rfl
         try simp only [pq,reduceCtorEq]
         unfold Llaw36_ReplaceInserts_k4 at q620;refine ee_reg rfl (by simp [c497,c506,c506M,c569,c599,eq_true c604,c607,eq_true c608,eq_true c608N,c616,c616M] <;> rfl) ?_;obtain rfl:=Option.some.inj q620;simp only [pq,reduceCtorEq];simp [und,List.replicate,Nat.add_assoc,c497,c506,c506M,c569,c599,eq_true c604,c607,eq_true c608,eq_true c608N,c616,c616M]
       ·skip
        have c608N:=c608;try simp at c608N
        first | have c608M : (_ = _) = True:=eq_true c608N | have c608M:=c608N
        rw [if_pos] at hr598;rotate_left
        ·simp [c497,c506,c506M,c569,c599,eq_true c604,c607,c608,c608M]
        refine ee_seq_condT (by simp [bV,c497,c506,c506M,c569,c599,eq_true c604,c607,c608,c608M]) ?_;refine ee_assoc ?_;refine ee_seq_reg rfl (by simp [c497,c506,c506M,c569,c599,eq_true c604,c607,c608,c608M] <;> rfl) ?_;refine ee_seq_ret ?_;obtain rfl:=Option.some.inj hr598;simp only [pq,reduceCtorEq];rintro rfl
        simp only [pq,reduceCtorEq];rintro rfl
        simp [FinQ,c497,c506,c506M,c569,c599,eq_true c604,c607,c608,c608M,c506N,c608N]
      ·skip
       refine ee_seq_reg rfl (by simp [hO,hT13,ehy606,c497,c506,c506M,c569,c599,eq_true c604,c607] <;> rfl) ?_;rw [if_pos] at hr598;rotate_left
       ·simp [c497,c506,c506M,c569,c599,eq_true c604,c607]
       refine ee_seq_condT (by simp [bV,c497,c506,c506M,c569,c599,eq_true c604,c607]) ?_;refine ee_assoc ?_;refine ee_seq_reg rfl (by simp [c497,c506,c506M,c569,c599,eq_true c604,c607] <;> rfl) ?_;refine ee_seq_ret ?_;obtain rfl:=Option.some.inj hr598;simp only [pq,reduceCtorEq];rintro rfl
       simp only [pq,reduceCtorEq];rintro rfl
       simp [FinQ,c497,c506,c506M,c569,c599,eq_true c604,c607,c506N]
     ·skip
      rw [if_pos] at hr598;rotate_left
      ·simp [c497,c506,c506M,c569,c599,c604]
      obtain ⟨z621,hz621,hr598⟩:=bs hr598;obtain rfl:=Option.some.inj hz621;refine ee_seq_reg rfl (by simp [c497,c506,c506M,c569,c599,c604] <;> rfl) ?_;rw [if_pos] at hr598;rotate_left
      ·simp [c497,c506,c506M,c569,c599,c604]
      refine ee_seq_condT (by simp [bV,c497,c506,c506M,c569,c599,c604]) ?_;refine ee_assoc ?_;refine ee_seq_reg rfl (by simp [c497,c506,c506M,c569,c599,c604] <;> rfl) ?_;refine ee_seq_ret ?_;obtain rfl:=Option.some.inj hr598;simp only [pq,reduceCtorEq];rintro rfl
      simp only [pq,reduceCtorEq];rintro rfl
      simp [FinQ,c497,c506,c506M,c569,c599,c604,c506N]
    ·skip
     rw [if_neg] at hr598;rotate_left
     ·simp [c497,c506,c506M,c569,c599]
     refine ee_seq_condF (by simp [bV,c497,c506,c506M,c569,c599]) ?_;refine ee_seq_exit ?_;obtain ⟨r622,q622,rfl⟩:=ms hr598;simp only [pq,reduceCtorEq];rintro rfl
     try simp only [pq,reduceCtorEq]
     unfold Llaw36_ReplaceInserts_k3 at q622;refine ee_reg rfl (by simp [c497,c506,c506M,c569,c599] <;> rfl) ?_;obtain rfl:=Option.some.inj q622;simp only [pq,reduceCtorEq];simp [und,List.replicate,Nat.add_assoc,c497,c506,c506M,c569,c599]
   ·skip
    rw [if_neg] at hr568;rotate_left
    ·simp [c497,c506,c506M,c569]
    refine ee_seq_condF (by simp [bV,c497,c506,c506M,c569]) ?_;refine ee_seq_exit ?_;obtain ⟨r623,q623,rfl⟩:=ms hr568;simp only [pq,reduceCtorEq];rintro rfl
    try simp only [pq,reduceCtorEq]
    unfold Llaw36_ReplaceInserts_k2 at q623;obtain ⟨_,u624,q623⟩:=bs q623;have u624_0:=chk_some u624;have n1_u624_0 : (y499.1.length) * 72≤140737488355328:=by omega
    have n2_u624_0 : y499.1.length≤9223372036854775807:=by omega
    obtain ⟨_,u625,q623⟩:=bs q623;have u625_0:=chk_some u625;have n1_u625_0 : (y499.1.length + 1) * 72≤140737488355328:=by omega
    have n2_u625_0 : y499.1.length + 1≤9223372036854775807:=by omega
    refine ee_seq_draw rfl (by simp [n1_u624_0,n2_u624_0,n1_u625_0,n2_u625_0,c497,c506,c506M,c569]; first | exact ⟨rfl,rfl⟩ | rfl) (by kernel_rfl) ?_;obtain ⟨y626,hy626,q623⟩:=bs q623;have ehy626:=G7_eq hy626;simp only [K7,nf,nfs] at ehy626;obtain ⟨y627,hy627,q623⟩:=bs q623;have ehy627:=G11_eq hy627;simp only [K11,nf,nfs] at ehy627;refine ee_seq_reg rfl (by simp [hO,hT7,ehy626,hT11,ehy627,c497,c506,c506M,c569] <;> rfl) ?_;obtain ⟨y628,hy628,q623⟩:=bs q623;have ehy628:=G5_eq hy628;simp only [K5,nf,nfs] at ehy628;obtain ⟨y629,hy629,q623⟩:=bs q623;have ehy629:=G7_eq hy629;simp only [K7,nf,nfs] at ehy629;obtain ⟨y630,hy630,q623⟩:=bs q623;have ehy630:=G12_eq hy630;simp only [E12,R12,nf,nfs] at ehy630;refine ee_seq_reg rfl (by simp [hO,hT5,ehy628,hT7,ehy629,hT12,ehy630,c497,c506,c506M,c569] <;> rfl) ?_;obtain ⟨y631,hy631,q623⟩:=bs q623;have ehy631:=G7_eq hy631;simp only [K7,nf,nfs] at ehy631;refine ee_seq_draw rfl (by simp [hO,hT7,ehy631,List.range,List.range.loop,c497,c506,c506M,c569]; first | exact ⟨rfl,rfl⟩ | rfl) (by kernel_rfl) ?_;by_cases c632 : y627.2.2 = y630.2.2
    ·skip
     rw [if_pos] at q623;rotate_left
     ·simp [c497,c506,c506M,c569,eq_true c632]
     obtain ⟨z633,hz633,q623⟩:=bs q623;obtain ⟨y634,hy634,hz633⟩:=bs hz633;have ehy634:=G14_eq hy634;simp only [K14,nf,nfs] at ehy634;obtain ⟨y635,hy635,hz633⟩:=bs hz633;have ehy635:=G15_eq hy635;simp only [K15,nf,nfs] at ehy635;obtain ⟨y636,hy636,hz633⟩:=bs hz633;have ehy636:=G13_eq hy636;simp only [K13,nf,nfs] at ehy636;obtain rfl:=Option.some.inj hz633;refine ee_seq_draw rfl (by simp [hO,hT14,ehy634,hT15,ehy635,hT13,ehy636,c497,c506,c506M,c569,eq_true c632]; first | exact ⟨rfl,rfl⟩ | rfl) (by kernel_rfl) ?_;refine ee_ret ?_;obtain rfl:=Option.some.inj q623;simp [FinQ,hO,hT14,ehy634,hT15,ehy635,hT13,ehy636,c497,c506,c506M,c569,eq_true c632,c506N]
    ·skip
     rw [if_neg] at q623;rotate_left
     ·simp [c497,c506,c506M,c569,c632]
     obtain ⟨z637,hz637,q623⟩:=bs q623;obtain rfl:=Option.some.inj hz637;refine ee_seq_draw rfl (by simp [c497,c506,c506M,c569,c632]; first | exact ⟨rfl,rfl⟩ | rfl) (by kernel_rfl) ?_;refine ee_ret ?_;obtain rfl:=Option.some.inj q623;simp [FinQ,c497,c506,c506M,c569,c632,c506N]
  ·skip
   have c506N:=c506;try simp at c506N
   first | have c506M : (_ = _) = True:=eq_true c506N | have c506M:=c506N
   have c506L : ¬ 0 < y499.1.length:=by omega
   rw [if_neg c506] at hr;refine ee_seq_condF (by simp [bV,c497,c506,c506M,c506L]) ?_;refine ee_seq_skip ?_;unfold Llaw36_ReplaceInserts_k1 at hr;refine ee_assoc ?_;obtain ⟨y638,hy638,hr⟩:=bs hr;have ehy638:=G9_eq hy638;simp only [K9,nf,nfs] at ehy638;refine ee_seq_reg rfl (by simp [hO,hT9,ehy638,List.range,List.range.loop,c497,c506,c506M,c506L] <;> rfl) ?_;refine ee_seq_block ?_;refine ee_loop (kq:=⟨[2,7,8,9,53,54,55],[9,32,34,36,49,53,100036,100049],[(1000000000,some 34,0,1),(1000000000,some 36,0,1),(1000000000,some 49,0,1),(1000000000,some 100036,0,1),(1000000000,some 100049,0,1)]⟩) (H:=fun (s : Int)=>match s with | p104=>(⟨(und 2++([.one (.v (.int .i64 a2))]++(und 4++([.ptr 32 0 0 0 2,.one (.ms 34 0 0 (y499.1.length) 5),.ptr 9 0 0 0 4]++(und 43++([.one (.ms 53 0 0 (2) 1),.one (.v (.int .i64 (2 : Int))),.one (.v (.int .i64 p104))]++(und 103)))))) : List PV),([(9,⟨0,4,[[.v (.int .u32 y500.1.1),.ms 36 0 0 (y500.1.2.1.length) 35,.ms 100036 0 0 (y500.1.2.2.1.length) 2,.v (.int .u32 y500.1.2.2.2)]],false,false⟩),(32,⟨0,2,[[.slice .no (intsR .i64 y638.2.1),.v (.int .i64 y638.2.2)]],false,false⟩),(34,⟨0,5,List.map eapi_Entry y499.1,true,true⟩),(36,⟨0,35,List.map eapi_Input y500.1.2.1,true,true⟩),(53,⟨0,1,intsR .i64 [a1,y638.1],false,true⟩),(100036,⟨0,2,List.map eapi_Output y500.1.2.2.1,true,true⟩)] : Boxes)⟩ : ASt)) (by kernel_rfl) hr (by simp [und,List.replicate,c497,c506,c506M,c506L]) ?_;rintro p104 x695r hr695
   simp only [Llaw36_ReplaceInserts_s1] at hr695;unfold b3_1;simp only [und,List.replicate,List.cons_append,List.nil_append];refine ee_seq_reg rfl (by simp [c497,c506,c506M,c506L] <;> rfl) ?_;by_cases c696 : p104 < (2 : Int)
   ·skip
    rw [if_pos] at hr695;rotate_left
    ·simp [c497,c506,c506M,c506L,c696]
    refine ee_seq_condT (by simp [bV,c497,c506,c506M,c506L,c696]) ?_;refine ee_seq_skip ?_;refine ee_seq_block ?_;obtain ⟨j697,hj697,hr695⟩:=bs hr695;obtain ⟨j697a,j697b,j697c⟩:=inA_some hj697;have j697d : j697≤1:=by omega
    obtain ⟨x698,hx698,hr695⟩:=bs hr695;have ghx698:=getE_of hx698;have mhx698 : (intsR .i64 ([a1,y638.1]))[j697]? = some [.v (.int .i64 x698)]:=by rw [intsR_get,hx698]; rfl
    simp only [intsR_cons,intsR_nil] at mhx698;have mghx698:=getE_of mhx698;refine ee_seq_reg rfl (by simp [j697a,j697b,j697c,j697d,hx698,ghx698,mhx698,mghx698,c497,c506,c506M,c506L,c696] <;> rfl) ?_;obtain ⟨y699,hy699,hr695⟩:=bs hr695;have ehy699:=G10_eq hy699;simp only [K10,nf,nfs] at ehy699;refine ee_seq_reg rfl (by simp [hO,hT10,ehy699,List.range,List.range.loop,c497,c506,c506M,c506L,c696] <;> rfl) ?_;refine ee_block ?_;refine ee_loop (kq:=⟨[2,7,8,9,11,53,54,55,62,63,64],[9,32,34,36,49,53,62,100036,100049],[(1000000000,some 34,0,1),(1000000000,some 36,0,1),(1000000000,some 49,0,1),(1000000000,some 100036,0,1),(1000000000,some 100049,0,1)]⟩) (H:=fun (s : Int)=>match s with | p192=>(⟨(und 2++([.one (.v (.int .i64 a2))]++(und 4++([.ptr 32 0 0 0 2,.one (.ms 34 0 0 (y499.1.length) 5),.ptr 9 0 0 0 4]++(und 1++([.one (.v (.int .i64 x698))]++(und 41++([.one (.ms 53 0 0 (2) 1),.one (.v (.int .i64 (2 : Int))),.one (.v (.int .i64 p104))]++(und 6++([.one (.ms 62 0 0 (2) 1),.one (.v (.int .i64 (2 : Int))),.one (.v (.int .i64 p192))]++(und 94)))))))))) : List PV),([(9,⟨0,4,[[.v (.int .u32 y500.1.1),.ms 36 0 0 (y500.1.2.1.length) 35,.ms 100036 0 0 (y500.1.2.2.1.length) 2,.v (.int .u32 y500.1.2.2.2)]],false,false⟩),(32,⟨0,2,[[.slice .no (intsR .i64 y638.2.1),.v (.int .i64 y638.2.2)]],false,false⟩),(34,⟨0,5,List.map eapi_Entry y499.1,true,true⟩),(36,⟨0,35,List.map eapi_Input y500.1.2.1,true,true⟩),(53,⟨0,1,intsR .i64 [a1,y638.1],false,true⟩),(62,⟨0,1,intsR .i64 [a2,y699],false,true⟩),(100036,⟨0,2,List.map eapi_Output y500.1.2.2.1,true,true⟩)] : Boxes)⟩ : ASt)) (by kernel_rfl) hr695 (by simp [und,List.replicate,c497,c506,c506M,c506L,c696]) ?_;rintro p192 x725r hr725
    simp only [Llaw36_ReplaceInserts_s2] at hr725;unfold b3_2;simp only [und,List.replicate,List.cons_append,List.nil_append];refine ee_seq_reg rfl (by simp [c497,c506,c506M,c506L,c696] <;> rfl) ?_;by_cases c726 : p192 < (2 : Int)
    ·skip
     rw [if_pos] at hr725;rotate_left
     ·simp [c497,c506,c506M,c506L,c696,c726]
     refine ee_seq_condT (by simp [bV,c497,c506,c506M,c506L,c696,c726]) ?_;refine ee_seq_skip ?_;refine ee_seq_block ?_;obtain ⟨j727,hj727,hr725⟩:=bs hr725;obtain ⟨j727a,j727b,j727c⟩:=inA_some hj727;have j727d : j727≤1:=by omega
     obtain ⟨x728,hx728,hr725⟩:=bs hr725;have ghx728:=getE_of hx728;have mhx728 : (intsR .i64 ([a2,y699]))[j727]? = some [.v (.int .i64 x728)]:=by rw [intsR_get,hx728]; rfl
     simp only [intsR_cons,intsR_nil] at mhx728;have mghx728:=getE_of mhx728;refine ee_seq_reg rfl (by simp [j727a,j727b,j727c,j727d,hx728,ghx728,mhx728,mghx728,c497,c506,c506M,c506L,c696,c726] <;> rfl) ?_;obtain ⟨y729,hy729,hr725⟩:=bs hr725;have ehy729:=G11_eq hy729;simp only [K11,nf,nfs] at ehy729;try simp only [show y499.1 = [] from by simpa using c506,List.map_nil,List.nil_append] at ehy729
     refine ee_seq_reg rfl (by simp [hO,hT11,ehy729,c497,c506,c506M,c506L,c696,c726] <;> rfl) ?_;obtain ⟨y730,hy730,hr725⟩:=bs hr725;have ehy730:=G12_eq hy730;simp only [E12,R12,nf,nfs] at ehy730;try simp only [show y499.1 = [] from by simpa using c506,List.map_nil,List.nil_append] at ehy730
     refine ee_seq_reg rfl (by simp [hO,hT12,ehy730,c497,c506,c506M,c506L,c696,c726] <;> rfl) ?_;refine ee_assoc ?_;by_cases c731 : y729.2.2 = y730.2.2
     ·skip
      rw [if_neg] at hr725;rotate_left
      ·simp [c497,c506,c506M,c506L,c696,c726,eq_true c731]
      obtain ⟨z732,hz732,hr725⟩:=bs hr725;obtain ⟨y733,hy733,hz732⟩:=bs hz732;have ehy733:=G13_eq hy733;simp only [K13,nf,nfs] at ehy733;obtain rfl:=Option.some.inj hz732;by_cases c734 : y733 = true
      ·skip
       refine ee_seq_reg rfl (by simp [hO,hT13,ehy733,c497,c506,c506M,c506L,c696,c726,eq_true c731,c734] <;> rfl) ?_;by_cases c735 : (y729.2.1.length : Int) = (y730.2.1.length : Int)
       ·skip
        have c735N:=c735;try simp at c735N
        rw [if_neg] at hr725;rotate_left
        ·simp [c497,c506,c506M,c506L,c696,c726,eq_true c731,c734,eq_true c735,eq_true c735N]
        refine ee_seq_condF (by simp [bV,c497,c506,c506M,c506L,c696,c726,eq_true c731,c734,eq_true c735,eq_true c735N]) ?_;refine ee_seq_skip ?_;refine ee_seq_reg rfl (by simp [c497,c506,c506M,c506L,c696,c726,eq_true c731,c734,eq_true c735,eq_true c735N] <;> rfl) ?_;refine ee_block ?_;refine ee_loop (kq:=⟨[2,7,8,9,11,15,18,53,54,55,62,63,64,103,104],[9,32,34,36,49,53,62,100036,100049],[]⟩) (H:=fun (s : Int)=>match s with | p218=>(⟨(und 2++([.one (.v (.int .i64 a2))]++(und 4++([.ptr 32 0 0 0 2,.one (.ms 34 0 0 (y499.1.length) 5),.ptr 9 0 0 0 4]++(und 1++([.one (.v (.int .i64 x698))]++(und 3++([.one (.slice .no (List.map (arC .u8) y729.2.1))]++(und 2++([.one (.slice .no (List.map (arC .u8) y730.2.1))]++(und 34++([.one (.ms 53 0 0 (2) 1),.one (.v (.int .i64 (2 : Int))),.one (.v (.int .i64 p104))]++(und 6++([.one (.ms 62 0 0 (2) 1),.one (.v (.int .i64 (2 : Int))),.one (.v (.int .i64 p192))]++(und 38++([.one (.v (.int .i64 (y729.2.1.length : Int))),.one (.v (.int .i64 p218))]++(und 54)))))))))))))))) : List PV),([(9,⟨0,4,[[.v (.int .u32 y500.1.1),.ms 36 0 0 (y500.1.2.1.length) 35,.ms 100036 0 0 (y500.1.2.2.1.length) 2,.v (.int .u32 y500.1.2.2.2)]],false,false⟩),(32,⟨0,2,[[.slice .no (intsR .i64 y638.2.1),.v (.int .i64 y638.2.2)]],false,false⟩),(34,⟨0,5,List.map eapi_Entry y499.1,true,true⟩),(36,⟨0,35,List.map eapi_Input y500.1.2.1,true,true⟩),(53,⟨0,1,intsR .i64 [a1,y638.1],false,true⟩),(62,⟨0,1,intsR .i64 [a2,y699],false,true⟩),(100036,⟨0,2,List.map eapi_Output y500.1.2.2.1,true,true⟩)] : Boxes)⟩ : ASt)) (by kernel_rfl) hr725 (by simp [und,List.replicate,c497,c506,c506M,c506L,c696,c726,eq_true c731,c734,eq_true c735,eq_true c735N]) ?_;rintro p218 x742r hr742
        simp only [Llaw36_ReplaceInserts_s3] at hr742;unfold b3_3;simp only [und,List.replicate,List.cons_append,List.nil_append];refine ee_seq_reg rfl (by simp [c497,c506,c506M,c506L,c696,c726,eq_true c731,c734,eq_true c735,eq_true c735N] <;> rfl) ?_;by_cases c743 : p218 < (y729.2.1.length : Int)
        ·skip
         have c743N:=c743;try simp at c743N
         first | have c743M : (_ = _) = True:=eq_true c743N | have c743M:=c743N
         rw [if_pos] at hr742;rotate_left
         ·simp [c497,c506,c506M,c506L,c696,c726,eq_true c731,c734,eq_true c735,eq_true c735N,c743,c743M]
         refine ee_seq_condT (by simp [bV,c497,c506,c506M,c506L,c696,c726,eq_true c731,c734,eq_true c735,eq_true c735N,c743,c743M]) ?_;refine ee_seq_skip ?_;refine ee_seq_block ?_;refine ee_seq_reg rfl (by simp [c497,c506,c506M,c506L,c696,c726,eq_true c731,c734,eq_true c735,eq_true c735N,c743,c743M] <;> rfl) ?_;obtain ⟨x744,hx744,hr742⟩:=bs hr742;obtain ⟨hx744a,hx744b⟩:=idx_some hx744;have hx744c:=getE_of hx744b;obtain ⟨x745,hx745,hr742⟩:=bs hr742;obtain ⟨hx745a,hx745b⟩:=idx_some hx745;have hx745c:=getE_of hx745b;refine ee_seq_draw rfl (by simp [hx744a,hx744b,hx744c,hx745a,hx745b,hx745c,c497,c506,c506M,c506L,c696,c726,eq_true c731,c734,eq_true c735,eq_true c735N,c743,c743M]; first | exact ⟨rfl,rfl⟩ | rfl) (by kernel_rfl) ?_;by_cases c746 : x744 = x745
         ·skip
          rw [if_neg (not_not_intro c746)] at hr742;refine ee_condF (by simp [bV,c497,c506,c506M,c506L,c696,c726,eq_true c731,c734,eq_true c735,eq_true c735N,c743,c743M,eq_true c746]) ?_;refine ee_skip ?_;simp only [pq,reduceCtorEq];refine ee_reg rfl (by simp [c497,c506,c506M,c506L,c696,c726,eq_true c731,c734,eq_true c735,eq_true c735N,c743,c743M,eq_true c746] <;> rfl) ?_;obtain rfl:=Option.some.inj hr742;simp only [pq,reduceCtorEq];simp [und,List.replicate,Nat.add_assoc,c497,c506,c506M,c506L,c696,c726,eq_true c731,c734,eq_true c735,eq_true c735N,c743,c743M,eq_true c746]
         ·skip
          rw [if_pos c746] at hr742;refine ee_condT (by simp [bV,c497,c506,c506M,c506L,c696,c726,eq_true c731,c734,eq_true c735,eq_true c735N,c743,c743M,c746]) ?_;refine ee_seq_reg rfl (by simp [c497,c506,c506M,c506L,c696,c726,eq_true c731,c734,eq_true c735,eq_true c735N,c743,c743M,c746] <;> rfl) ?_;refine ee_ret ?_;obtain rfl:=Option.some.inj hr742;simp only [pq,reduceCtorEq];rintro rfl
          simp only [pq,reduceCtorEq];rintro rfl
          simp only [pq,reduceCtorEq];rintro rfl
          simp [FinQ,c497,c506,c506M,c506L,c696,c726,eq_true c731,c734,eq_true c735,eq_true c735N,c743,c743M,c746,c506N,c743N]
        ·skip
         have c743N:=c743;try simp at c743N
         first | have c743M : (_ = _) = True:=eq_true c743N | have c743M:=c743N
         rw [if_neg] at hr742;rotate_left
         ·simp [c497,c506,c506M,c506L,c696,c726,eq_true c731,c734,eq_true c735,eq_true c735N,c743,c743M]
         refine ee_seq_condF (by simp [bV,c497,c506,c506M,c506L,c696,c726,eq_true c731,c734,eq_true c735,eq_true c735N,c743,c743M]) ?_;refine ee_seq_exit ?_;obtain ⟨r747,q747,rfl⟩:=ms hr742;simp only [pq,reduceCtorEq];rintro rfl
         try simp only [pq,reduceCtorEq]
         unfold Llaw36_ReplaceInserts_k4 at q747;refine ee_reg rfl (by simp [c497,c506,c506M,c506L,c696,c726,eq_true c731,c734,eq_true c735,eq_true c735N,c743,c743M] <;> rfl) ?_;obtain rfl:=Option.some.inj q747;simp only [pq,reduceCtorEq];simp [und,List.replicate,Nat.add_assoc,c497,c506,c506M,c506L,c696,c726,eq_true c731,c734,eq_true c735,eq_true c735N,c743,c743M]
       ·skip
        have c735N:=c735;try simp at c735N
        first | have c735M : (_ = _) = True:=eq_true c735N | have c735M:=c735N
        rw [if_pos] at hr725;rotate_left
        ·simp [c497,c506,c506M,c506L,c696,c726,eq_true c731,c734,c735,c735M]
        refine ee_seq_condT (by simp [bV,c497,c506,c506M,c506L,c696,c726,eq_true c731,c734,c735,c735M]) ?_;refine ee_assoc ?_;refine ee_seq_reg rfl (by simp [c497,c506,c506M,c506L,c696,c726,eq_true c731,c734,c735,c735M] <;> rfl) ?_;refine ee_seq_ret ?_;obtain rfl:=Option.some.inj hr725;simp only [pq,reduceCtorEq];rintro rfl
        simp only [pq,reduceCtorEq];rintro rfl
        simp [FinQ,c497,c506,c506M,c506L,c696,c726,eq_true c731,c734,c735,c735M,c506N,c735N]
      ·skip
       refine ee_seq_reg rfl (by simp [hO,hT13,ehy733,c497,c506,c506M,c506L,c696,c726,eq_true c731,c734] <;> rfl) ?_;rw [if_pos] at hr725;rotate_left
       ·simp [c497,c506,c506M,c506L,c696,c726,eq_true c731,c734]
       refine ee_seq_condT (by simp [bV,c497,c506,c506M,c506L,c696,c726,eq_true c731,c734]) ?_;refine ee_assoc ?_;refine ee_seq_reg rfl (by simp [c497,c506,c506M,c506L,c696,c726,eq_true c731,c734] <;> rfl) ?_;refine ee_seq_ret ?_;obtain rfl:=Option.some.inj hr725;simp only [pq,reduceCtorEq];rintro rfl
       simp only [pq,reduceCtorEq];rintro rfl
       simp [FinQ,c497,c506,c506M,c506L,c696,c726,eq_true c731,c734,c506N]
     ·skip
      rw [if_pos] at hr725;rotate_left
      ·simp [c497,c506,c506M,c506L,c696,c726,c731]
      obtain ⟨z748,hz748,hr725⟩:=bs hr725;obtain rfl:=Option.some.inj hz748;refine ee_seq_reg rfl (by simp [c497,c506,c506M,c506L,c696,c726,c731] <;> rfl) ?_;rw [if_pos] at hr725;rotate_left
      ·simp [c497,c506,c506M,c506L,c696,c726,c731]
      refine ee_seq_condT (by simp [bV,c497,c506,c506M,c506L,c696,c726,c731]) ?_;refine ee_assoc ?_;refine ee_seq_reg rfl (by simp [c497,c506,c506M,c506L,c696,c726,c731] <;> rfl) ?_;refine ee_seq_ret ?_;obtain rfl:=Option.some.inj hr725;simp only [pq,reduceCtorEq];rintro rfl
      simp only [pq,reduceCtorEq];rintro rfl
      simp [FinQ,c497,c506,c506M,c506L,c696,c726,c731,c506N]
    ·skip
     rw [if_neg] at hr725;rotate_left
     ·simp [c497,c506,c506M,c506L,c696,c726]
     refine ee_seq_condF (by simp [bV,c497,c506,c506M,c506L,c696,c726]) ?_;refine ee_seq_exit ?_;obtain ⟨r749,q749,rfl⟩:=ms hr725;simp only [pq,reduceCtorEq];rintro rfl
     try simp only [pq,reduceCtorEq]
     unfold Llaw36_ReplaceInserts_k3 at q749;refine ee_reg rfl (by simp [c497,c506,c506M,c506L,c696,c726] <;> rfl) ?_;obtain rfl:=Option.some.inj q749;simp only [pq,reduceCtorEq];simp [und,List.replicate,Nat.add_assoc,c497,c506,c506M,c506L,c696,c726]
   ·skip
    rw [if_neg] at hr695;rotate_left
    ·simp [c497,c506,c506M,c506L,c696]
    refine ee_seq_condF (by simp [bV,c497,c506,c506M,c506L,c696]) ?_;refine ee_seq_exit ?_;obtain ⟨r750,q750,rfl⟩:=ms hr695;simp only [pq,reduceCtorEq];rintro rfl
    try simp only [pq,reduceCtorEq]
    unfold Llaw36_ReplaceInserts_k2 at q750;obtain ⟨_,u751,q750⟩:=bs q750;have u751_0:=chk_some u751;have n1_u751_0 : (y499.1.length) * 72≤140737488355328:=by omega
    have n2_u751_0 : y499.1.length≤9223372036854775807:=by omega
    obtain ⟨_,u752,q750⟩:=bs q750;have u752_0:=chk_some u752;have n1_u752_0 : (y499.1.length + 1) * 72≤140737488355328:=by omega
    have n2_u752_0 : y499.1.length + 1≤9223372036854775807:=by omega
    refine ee_seq_draw rfl (by simp [n1_u751_0,n2_u751_0,n1_u752_0,n2_u752_0,c497,c506,c506M,c506L,c696]; first | exact ⟨rfl,rfl⟩ | rfl) (by kernel_rfl) ?_;obtain ⟨y753,hy753,q750⟩:=bs q750;have ehy753:=G7_eq hy753;simp only [K7,nf,nfs] at ehy753;obtain ⟨y754,hy754,q750⟩:=bs q750;have ehy754:=G11_eq hy754;simp only [K11,nf,nfs] at ehy754;try simp only [show y499.1 = [] from by simpa using c506,List.map_nil,List.nil_append] at ehy754
    refine ee_seq_reg rfl (by simp [hO,hT7,ehy753,hT11,ehy754,c497,c506,c506M,c506L,c696] <;> rfl) ?_;obtain ⟨y755,hy755,q750⟩:=bs q750;have ehy755:=G5_eq hy755;simp only [K5,nf,nfs] at ehy755;obtain ⟨y756,hy756,q750⟩:=bs q750;have ehy756:=G7_eq hy756;simp only [K7,nf,nfs] at ehy756;obtain ⟨y757,hy757,q750⟩:=bs q750;have ehy757:=G12_eq hy757;simp only [E12,R12,nf,nfs] at ehy757;try simp only [show y499.1 = [] from by simpa using c506,List.map_nil,List.nil_append] at ehy757
    refine ee_seq_reg rfl (by simp [hO,hT5,ehy755,hT7,ehy756,hT12,ehy757,c497,c506,c506M,c506L,c696] <;> rfl) ?_;obtain ⟨y758,hy758,q750⟩:=bs q750;have ehy758:=G7_eq hy758;simp only [K7,nf,nfs] at ehy758;refine ee_seq_draw rfl (by simp [hO,hT7,ehy758,List.range,List.range.loop,c497,c506,c506M,c506L,c696]; first | exact ⟨rfl,rfl⟩ | rfl) (by kernel_rfl) ?_;by_cases c759 : y754.2.2 = y757.2.2
    ·skip
     rw [if_pos] at q750;rotate_left
     ·simp [c497,c506,c506M,c506L,c696,eq_true c759]
     obtain ⟨z760,hz760,q750⟩:=bs q750;obtain ⟨y761,hy761,hz760⟩:=bs hz760;have ehy761:=G14_eq hy761;simp only [K14,nf,nfs] at ehy761;try simp only [show y499.1 = [] from by simpa using c506,List.map_nil,List.nil_append] at ehy761
     obtain ⟨y762,hy762,hz760⟩:=bs hz760;have ehy762:=G15_eq hy762;simp only [K15,nf,nfs] at ehy762;try simp only [show y499.1 = [] from by simpa using c506,List.map_nil,List.nil_append] at ehy762
     obtain ⟨y763,hy763,hz760⟩:=bs hz760;have ehy763:=G13_eq hy763;simp only [K13,nf,nfs] at ehy763;obtain rfl:=Option.some.inj hz760;refine ee_seq_draw rfl (by simp [hO,hT14,ehy761,hT15,ehy762,hT13,ehy763,c497,c506,c506M,c506L,c696,eq_true c759]; first | exact ⟨rfl,rfl⟩ | rfl) (by kernel_rfl) ?_;refine ee_ret ?_;obtain rfl:=Option.some.inj q750;simp [FinQ,hO,hT14,ehy761,hT15,ehy762,hT13,ehy763,c497,c506,c506M,c506L,c696,eq_true c759,c506N]
    ·skip
     rw [if_neg] at q750;rotate_left
     ·simp [c497,c506,c506M,c506L,c696,c759]
     obtain ⟨z764,hz764,q750⟩:=bs q750;obtain rfl:=Option.some.inj hz764;refine ee_seq_draw rfl (by simp [c497,c506,c506M,c506L,c696,c759]; first | exact ⟨rfl,rfl⟩ | rfl) (by kernel_rfl) ?_;refine ee_ret ?_;obtain rfl:=Option.some.inj q750;simp [FinQ,c497,c506,c506M,c506L,c696,c759,c506N]
 ·skip
  rw [if_pos c497] at hr;refine ee_seq_condT (by simp [bV,c497]) ?_;refine ee_assoc ?_;refine ee_seq_reg rfl (by simp [c497]; rfl) ?_;refine ee_seq_ret ?_;obtain rfl:=Option.some.inj hr;simp [FinQ,c497]
end Go.Proofs.YtjdoijdjeapekaaGreatDoor
