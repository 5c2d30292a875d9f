import Derived.Test.YtbjhgolpnjokbaaGreatLfK
import Derived.Test.YtbjhgolpnjokbaaGreatCode
import Derived.Test.YtbjhgolpnjokbaaGreatBl
namespace Go.Proofs.YtbjhgolpnjokbaaGreat
open Go.RowKit
open Go.Av
open Go.Lc
set_option maxRecDepth 100000
set_option linter.unusedSimpArgs false
set_option linter.unusedVariables false
set_option maxHeartbeats 4000000
variable {G : Glob}
def kp41 : Keep:=fun i=>if i = 1000004 then ⟨[0,3,5],[3],[]⟩ else if i = 2 then ⟨[0,3,5],[3],[]⟩ else ⟨[],[],[]⟩
theorem w41 {T : Tab} (hO : T.own = fun _=>[]) (hT36 : T 36 = some G36) (a0 : (List Tapi_Signed)) (a1 : Tapi_Signed) (x : (List Tapi_Signed)) (hr : Zb6 a0 a1 = some x) : ∃ kp fl n,Zt tt T G kp fl n Tryz.f41 (E41 (a0,a1)) = some (R41 (a0,a1) x):=by
 simp only [E41,R41];refine fnE (kp:=kp41) (w:=true) body41 (by simp) ?_;unfold c41;rw [Tryz.ntmps41];unfold Zb6 at hr;refine Za rfl (by simp [Nat.add_assoc,]; rfl) ?_;refine Za rfl (by simp [Nat.add_assoc,]; rfl) ?_;refine Zg ?_;refine Zk5 hr (.exit 0) (fun (s : Int)=>match s with | p8=>(⟨([.one (.slice .no (List.map ZE a0))]++(und 2++([.ptr 3 0 0 0 13]++(und 1++([.one (.v (.int .i64 p8))]++(und 26))))) : List PV),([(3,⟨0,13,[(.v (.int .i64 a1.1)) :: ((arC .u64 a1.2.1)++((arC .u64 a1.2.2.1)++(arC .u64 a1.2.2.2)))],false,false⟩)] : Boxes)⟩ : ASt)) (fun (s : Int)=>match s with | p8=>ZbI p8 a0 a1) ?_ ?_
 ·skip
  rintro p8 hk29
  change ZbI p8 a0 a1 = _ at hk29
  simp only [pq,reduceCtorEq];simp only [und,List.replicate,List.cons_append,List.nil_append];unfold ZbI at hk29;obtain ⟨_,u30,hk29⟩:=bs hk29;obtain ⟨u30_0,u30_1⟩:=ZD u30;have sf31 : (p8).toNat≤a0.length:=by omega
  have sf32 : 0≤p8:=by omega
  obtain ⟨_,u33,hk29⟩:=bs hk29;have u33_0:=ZD u33;have n1_u33_0 : (((a0).take ((p8).toNat)).length) * 104≤140737488355328:=by omega
  have n2_u33_0 : ((a0).take ((p8).toNat)).length≤9223372036854775807:=by omega
  have n1s_u33_0:=n1_u33_0;try simp only [List.length_drop,List.length_take,Nat.sub_le_iff_le_add,Nat.min_eq_left,sf31,sf32] at n1s_u33_0
  have n2s_u33_0:=n2_u33_0;try simp only [List.length_drop,List.length_take,Nat.sub_le_iff_le_add,Nat.min_eq_left,sf31,sf32] at n2s_u33_0
  obtain ⟨_,u34,hk29⟩:=bs hk29;have u34_0:=ZD u34;have n1_u34_0 : (((a0).take ((p8).toNat)).length + 1) * 104≤140737488355328:=by omega
  have n2_u34_0 : ((a0).take ((p8).toNat)).length + 1≤9223372036854775807:=by omega
  have n1s_u34_0:=n1_u34_0;try simp only [List.length_drop,List.length_take,Nat.sub_le_iff_le_add,Nat.min_eq_left,sf31,sf32] at n1s_u34_0
  have n2s_u34_0:=n2_u34_0;try simp only [List.length_drop,List.length_take,Nat.sub_le_iff_le_add,Nat.min_eq_left,sf31,sf32] at n2s_u34_0
  obtain ⟨_,u35,hk29⟩:=bs hk29;obtain ⟨u35_0,u35_1⟩:=ZD u35;have sf36 : (p8).toNat≤a0.length:=by omega
  obtain ⟨_,u37,hk29⟩:=bs hk29;have u37_0:=ZD u37;have u37_0N:=u37_0;try simp at u37_0N
  have n1_u37_0 : (((a0).take ((p8).toNat)).length + (1 + ((a0).drop ((p8).toNat)).length)) * 104≤140737488355328:=by
   have h:=u37_0;try simp at h
   omega
  have n2_u37_0 : ((a0).take ((p8).toNat)).length + (1 + ((a0).drop ((p8).toNat)).length)≤9223372036854775807:=by
   have h:=u37_0;try simp at h
   omega
  have n1s_u37_0:=n1_u37_0;try simp only [List.length_drop,List.length_take,Nat.sub_le_iff_le_add,Nat.min_eq_left,sf31,sf32,sf36] at n1s_u37_0
  have n2s_u37_0:=n2_u37_0;try simp only [List.length_drop,List.length_take,Nat.sub_le_iff_le_add,Nat.min_eq_left,sf31,sf32,sf36] at n2s_u37_0
  refine ZmL rfl (kq:=⟨[0,3,5],[3],[]⟩) rfl (by simp [Nat.add_assoc,XA,u30_0,u30_1,sf31,sf32,n1_u33_0,n2_u33_0,n1s_u33_0,n2s_u33_0,n1_u34_0,n2_u34_0,n1s_u34_0,n2s_u34_0,u35_0,u35_1,sf36,u37_0N,n1_u37_0,n2_u37_0,n1s_u37_0,n2s_u37_0]; rfl) (by simp [Nat.add_assoc,u30_0,u30_1,sf31,sf32,n1_u33_0,n2_u33_0,n1s_u33_0,n2s_u33_0,n1_u34_0,n2_u34_0,n1s_u34_0,n2s_u34_0,u35_0,u35_1,sf36,u37_0N,n1_u37_0,n2_u37_0,n1s_u37_0,n2s_u37_0]; first | exact ⟨rfl,rfl⟩ | rfl) (by kernel_rfl) ?_;refine Zi ?_;obtain rfl:=Option.some.inj hk29;simp [Nat.add_assoc,Zj,u30_0,u30_1,sf31,sf32,n1_u33_0,n2_u33_0,n1s_u33_0,n2s_u33_0,n1_u34_0,n2_u34_0,n1s_u34_0,n2s_u34_0,u35_0,u35_1,sf36,u37_0N,n1_u37_0,n2_u37_0,n1s_u37_0,n2s_u37_0]
 ·skip
  intro J29;simp only [pq,reduceCtorEq] at J29;refine ZJ (kq:=⟨[0,3,5],[3],[]⟩) (H:=fun (s : Int)=>match s with | p8=>(⟨([.one (.slice .no (List.map ZE a0))]++(und 2++([.ptr 3 0 0 0 13]++(und 1++([.one (.v (.int .i64 p8))]++(und 26))))) : List PV),([(3,⟨0,13,[(.v (.int .i64 a1.1)) :: ((arC .u64 a1.2.1)++((arC .u64 a1.2.2.1)++(arC .u64 a1.2.2.2)))],false,false⟩)] : Boxes)⟩ : ASt)) (by kernel_rfl) hr (by simp [Nat.add_assoc,und,List.replicate,]) ?_;rintro p8 x38r hr38
  simp only [ZcT] at hr38;unfold b41_1;simp only [und,List.replicate,List.cons_append,List.nil_append];refine Zb ?_;by_cases c39 : p8 < (a0.length : Int)
  ·skip
   have c39N:=c39;try simp at c39N
   first | have c39M : (_ = _) = True:=eq_true c39N | have c39M:=c39N
   rw [if_pos] at hr38;rotate_left
   ·simp [Nat.add_assoc,c39,c39M]
   obtain ⟨z40,hz40,hr38⟩:=bs hr38;obtain ⟨x41,hx41,hz40⟩:=bs hz40;obtain ⟨hx41a,hx41b⟩:=Zz hx41;have hx41c:=Zq hx41b;obtain ⟨y42,hy42,hz40⟩:=bs hz40;have ehy42:=Zp4 hy42;simp only [E36,R36,nf,nfs] at ehy42;obtain rfl:=Option.some.inj hz40;refine ZC rfl (by simp [Nat.add_assoc,hx41a,hx41b,hx41c,hO,hT36,ehy42,c39,c39M]; first | exact ⟨rfl,rfl⟩ | rfl) (by kernel_rfl) ?_;by_cases c43 : y42 = true
   ·skip
    rw [if_pos] at hr38;rotate_left
    ·simp [Nat.add_assoc,c39,c39M,c43]
    refine Zd (by simp [Nat.add_assoc,bV,c39,c39M,c43]) ?_;refine Zh ?_;refine ZaW ?_;refine ZA rfl (by simp [Nat.add_assoc,c39,c39M,c43]; rfl) ?_;obtain rfl:=Option.some.inj hr38;simp only [pq,reduceCtorEq];simp [Nat.add_assoc,und,List.replicate,Nat.add_assoc,c39,c39M,c43]
   ·skip
    rw [if_neg] at hr38;rotate_left
    ·simp [Nat.add_assoc,c39,c39M,c43]
    refine Ze (by simp [Nat.add_assoc,bV,c39,c39M,c43]) ?_;refine Zr ?_;obtain ⟨r44,q44,rfl⟩:=ms hr38;simp only [pq,reduceCtorEq];rintro rfl
    try simp only [pq,reduceCtorEq]
    exact YR (key:=1000004) (kq:=⟨[0,3,5],[3],[]⟩) rfl rfl rfl (by simp [Nat.add_assoc,und,List.replicate,c39,c39M,c43]) (J29 p8 q44)
  ·skip
   have c39N:=c39;try simp at c39N
   first | have c39M : (_ = _) = True:=eq_true c39N | have c39M:=c39N
   rw [if_neg] at hr38;rotate_left
   ·simp [Nat.add_assoc,c39,c39M]
   obtain ⟨z45,hz45,hr38⟩:=bs hr38;obtain rfl:=Option.some.inj hz45;refine ZC rfl (by simp [Nat.add_assoc,c39,c39M]; first | exact ⟨rfl,rfl⟩ | rfl) (by kernel_rfl) ?_;rw [if_neg] at hr38;rotate_left
   ·simp [Nat.add_assoc,c39,c39M]
   refine Ze (by simp [Nat.add_assoc,bV,c39,c39M]) ?_;refine Zr ?_;obtain ⟨r46,q46,rfl⟩:=ms hr38;simp only [pq,reduceCtorEq];rintro rfl
   try simp only [pq,reduceCtorEq]
   exact YR (key:=1000004) (kq:=⟨[0,3,5],[3],[]⟩) rfl rfl rfl (by simp [Nat.add_assoc,und,List.replicate,c39,c39M]) (J29 p8 q46)
def kp16 : Keep:=fun i=>if i = 7 then ⟨[2,3,4,6,7],[2,3,4,6,800601],[(6,some 7,800601,0),(6,some 7,800601,13)]⟩ else ⟨[],[],[]⟩
theorem w16 {T : Tab} (hO : T.own = fun _=>[]) (hT12 : T 12 = some G12) (hT37 : T 37 = some G37) (hT40 : T 40 = some G40) (hT41 : T 41 = some G41) (a0 : Tapi_PartialTx) (a1 : Tapi_PartialTx) (x : Tapi_PartialTx×Int) (hr : ZaH a0 a1 = some x) : ∃ kp fl n,Zt tt T G kp fl n Tryz.f16 (E16 (a0,a1)) = some (R16 (a0,a1) x):=by
 simp only [E16,R16];refine fnE (kp:=kp16) (w:=false) body16 (by simp) ?_;unfold c16;rw [Tryz.ntmps16];unfold ZaH at hr;refine Za rfl (by simp []; rfl) ?_;refine Zb ?_;obtain ⟨y32,hy32,hr⟩:=bs hr;have ehy32:=Zp5 hy32;simp only [E12,R12,nf,nfs] at ehy32;by_cases c33 : y32 = true
 ·skip
  rw [if_neg] at hr;rotate_left
  ·simp [c33]
  obtain ⟨z34,hz34,hr⟩:=bs hr;obtain ⟨y35,hy35,hz34⟩:=bs hz34;have ehy35:=Zp5 hy35;simp only [E12,R12,nf,nfs] at ehy35;obtain rfl:=Option.some.inj hz34;refine Za rfl (by simp [hO,hT12,ehy32,ehy35,c33]; rfl) ?_;by_cases c36 : y35 = true
  ·skip
   rw [if_neg] at hr;rotate_left
   ·simp [c33,c36]
   refine Ze (by simp [bV,c33,c36]) ?_;refine Zh ?_;refine Zb ?_;obtain ⟨y37,hy37,hr⟩:=bs hr;have ehy37:=ZpP hy37;simp only [E37,R37,nf,nfs] at ehy37;refine Za rfl (by simp [hO,hT37,ehy37,c33,c36]; rfl) ?_;by_cases c38 : y37 = true
   ·skip
    rw [if_neg (not_not_intro c38)] at hr;refine Ze (by simp [bV,c33,c36,c38]) ?_;refine Zh ?_;obtain ⟨_,u39,hr⟩:=bs hr;have u39_0:=ZD u39;have n1_u39_0 : (a0.2.length) * 104≤140737488355328:=by omega
    have n2_u39_0 : a0.2.length≤9223372036854775807:=by omega
    refine ZC rfl (by simp [n1_u39_0,n2_u39_0,c33,c36,c38]; first | exact ⟨rfl,rfl⟩ | rfl) (by kernel_rfl) ?_;refine Zb ?_;refine Za rfl (by simp [c33,c36,c38]; rfl) ?_;refine Zg ?_;refine ZJ (kq:=⟨[2,3,4,6,7],[2,3,4,6,800601],[(6,some 7,800601,0),(6,some 7,800601,13)]⟩) (H:=fun (s : Int×(List Tapi_Signed))=>match s with | (p18,p19)=>(⟨(und 2++([.ptr 2 0 0 0 8,.ptr 3 0 0 0 8,.ptr 4 0 0 0 8]++(und 1++([.ptr 6 0 0 0 8,.one (.v (.int .i64 p18))]++(und 70)))) : List PV),([(2,⟨0,8,[[.v (.int .u32 a0.1.1.1),.slice .no (List.map Zm a0.1.1.2.1),.slice .no (List.map Zk a0.1.1.2.2.1),.v (.int .u32 a0.1.1.2.2.2),.slice .no (List.map ZB a0.1.2.1),.v (.int .i64 a0.1.2.2.1),.v (.int .i64 a0.1.2.2.2),.slice .no (List.map ZE a0.2)]],false,false⟩),(3,⟨0,8,[[.v (.int .u32 a1.1.1.1),.slice .no (List.map Zm a1.1.1.2.1),.slice .no (List.map Zk a1.1.1.2.2.1),.v (.int .u32 a1.1.1.2.2.2),.slice .no (List.map ZB a1.1.2.1),.v (.int .i64 a1.1.2.2.1),.v (.int .i64 a1.1.2.2.2),.slice .no (List.map ZE a1.2)]],false,false⟩),(4,⟨0,8,[[.v (.int .u32 0),.slice .nil [],.slice .nil [],.v (.int .u32 0),.slice .nil [],.v (.int .i64 0),.v (.int .i64 0),.slice .nil []]],false,false⟩),(6,⟨0,8,[[.v (.int .u32 a0.1.1.1),.slice .no (List.map Zm a0.1.1.2.1),.slice .no (List.map Zk a0.1.1.2.2.1),.v (.int .u32 a0.1.1.2.2.2),.slice .no (List.map ZB a0.1.2.1),.v (.int .i64 a0.1.2.2.1),.v (.int .i64 a0.1.2.2.2),.ms 800601 0 0 (p19.length) 13]],false,false⟩),(800601,⟨0,13,List.map ZE p19,false,true⟩)] : Boxes)⟩ : ASt)) (by kernel_rfl) hr (by simp [und,List.replicate,c33,c36,c38]) ?_;rintro ⟨p18,p19⟩ x52r hr52
    simp only [Zaa] at hr52;unfold b16_1;simp only [und,List.replicate,List.cons_append,List.nil_append];refine Zb ?_;refine Za rfl (by simp [c33,c36,c38]; rfl) ?_;by_cases c53 : p18 < (a1.2.length : Int)
    ·skip
     have c53N:=c53;try simp at c53N
     first | have c53M : (_ = _) = True:=eq_true c53N | have c53M:=c53N
     rw [if_pos] at hr52;rotate_left
     ·simp [c33,c36,c38,c53,c53M]
     refine Zd (by simp [bV,c33,c36,c38,c53,c53M]) ?_;refine Zh ?_;refine Zg ?_;obtain ⟨x54,hx54,hr52⟩:=bs hr52;obtain ⟨hx54a,hx54b⟩:=Zz hx54;have hx54c:=Zq hx54b;obtain ⟨hx54a,hx54b⟩:=Zz hx54;have hx54c:=Zq hx54b;obtain ⟨y55,hy55,hr52⟩:=bs hr52;have ehy55:=Ztq hy55;simp only [E40,R40,nf,nfs] at ehy55;refine ZC rfl (by simp [hx54a,hx54b,hx54c,hO,hT40,ehy55,c33,c36,c38,c53,c53M]; first | exact ⟨rfl,rfl⟩ | rfl) (by kernel_rfl) ?_;refine Za rfl (by simp [c33,c36,c38,c53,c53M]; rfl) ?_;by_cases c56 : y55 < 0
     ·skip
      rw [if_pos c56] at hr52;refine Zp (by simp [bV,c33,c36,c38,c53,c53M,c56]) ?_;obtain ⟨hx54a,hx54b⟩:=Zz hx54;have hx54c:=Zq hx54b;obtain ⟨y57,hy57,hr52⟩:=bs hr52;have ehy57:=Ztr hy57;simp only [E41,R41,nf,nfs] at ehy57;refine Zbk rfl (by simp [hx54a,hx54b,hx54c,hO,hT41,ehy57,c33,c36,c38,c53,c53M,c56]; first | exact ⟨rfl,rfl⟩ | rfl) (by kernel_rfl) ?_;simp only [pq,reduceCtorEq];unfold ZaS at hr52;refine ZA rfl (by simp [c33,c36,c38,c53,c53M,c56]; rfl) ?_;obtain rfl:=Option.some.inj hr52;simp only [pq,reduceCtorEq];simp [und,List.replicate,Nat.add_assoc,c33,c36,c38,c53,c53M,c56]
     ·skip
      rw [if_neg c56] at hr52;refine Zy (by simp [bV,c33,c36,c38,c53,c53M,c56]) ?_;obtain ⟨x58,hx58,hr52⟩:=bs hr52;obtain ⟨hx58a,hx58b⟩:=Zz hx58;have hx58c:=Zq hx58b;obtain ⟨hx54a,hx54b⟩:=Zz hx54;have hx54c:=Zq hx54b;refine ZC rfl (by simp [hx58a,hx58b,hx58c,hx54a,hx54b,hx54c,c33,c36,c38,c53,c53M,c56]; first | exact ⟨rfl,rfl⟩ | rfl) (by kernel_rfl) ?_;by_cases c59 : x58.1 = x54.1
      ·skip
       by_cases c60 : x58.2.1 = x54.2.1
       ·skip
        by_cases c61 : x58.2.2.1 = x54.2.2.1
        ·skip
         by_cases c62 : x58.2.2.2 = x54.2.2.2
         ·skip
          rw [if_neg] at hr52;rotate_left
          ·simp [c33,c36,c38,c53,c53M,c56,eq_true c59,eq_true c60,eq_true c61,eq_true c62]
          refine Zy (by simp [bV,c33,c36,c38,c53,c53M,c56,eq_true c59,eq_true c60,eq_true c61,eq_true c62]) ?_;refine ZV ?_;simp only [pq,reduceCtorEq];unfold ZaS at hr52;refine ZA rfl (by simp [c33,c36,c38,c53,c53M,c56,eq_true c59,eq_true c60,eq_true c61,eq_true c62]; rfl) ?_;obtain rfl:=Option.some.inj hr52;simp only [pq,reduceCtorEq];simp [und,List.replicate,Nat.add_assoc,c33,c36,c38,c53,c53M,c56,eq_true c59,eq_true c60,eq_true c61,eq_true c62]
         ·skip
          rw [if_pos] at hr52;rotate_left
          ·simp [c33,c36,c38,c53,c53M,c56,eq_true c59,eq_true c60,eq_true c61,c62]
          refine Zp (by simp [bV,c33,c36,c38,c53,c53M,c56,eq_true c59,eq_true c60,eq_true c61,c62]) ?_;refine Za rfl (by simp [c33,c36,c38,c53,c53M,c56,eq_true c59,eq_true c60,eq_true c61,c62]; rfl) ?_;refine Zi ?_;obtain rfl:=Option.some.inj hr52;simp only [pq,reduceCtorEq];rintro rfl
          simp [Zj,c33,c36,c38,c53,c53M,c56,eq_true c59,eq_true c60,eq_true c61,c62,c53N]
        ·skip
         rw [if_pos] at hr52;rotate_left
         ·simp [c33,c36,c38,c53,c53M,c56,eq_true c59,eq_true c60,c61]
         refine Zp (by simp [bV,c33,c36,c38,c53,c53M,c56,eq_true c59,eq_true c60,c61]) ?_;refine Za rfl (by simp [c33,c36,c38,c53,c53M,c56,eq_true c59,eq_true c60,c61]; rfl) ?_;refine Zi ?_;obtain rfl:=Option.some.inj hr52;simp only [pq,reduceCtorEq];rintro rfl
         simp [Zj,c33,c36,c38,c53,c53M,c56,eq_true c59,eq_true c60,c61,c53N]
       ·skip
        rw [if_pos] at hr52;rotate_left
        ·simp [c33,c36,c38,c53,c53M,c56,eq_true c59,c60]
        refine Zp (by simp [bV,c33,c36,c38,c53,c53M,c56,eq_true c59,c60]) ?_;refine Za rfl (by simp [c33,c36,c38,c53,c53M,c56,eq_true c59,c60]; rfl) ?_;refine Zi ?_;obtain rfl:=Option.some.inj hr52;simp only [pq,reduceCtorEq];rintro rfl
        simp [Zj,c33,c36,c38,c53,c53M,c56,eq_true c59,c60,c53N]
      ·skip
       rw [if_pos] at hr52;rotate_left
       ·simp [c33,c36,c38,c53,c53M,c56,c59]
       refine Zp (by simp [bV,c33,c36,c38,c53,c53M,c56,c59]) ?_;refine Za rfl (by simp [c33,c36,c38,c53,c53M,c56,c59]; rfl) ?_;refine Zi ?_;obtain rfl:=Option.some.inj hr52;simp only [pq,reduceCtorEq];rintro rfl
       simp [Zj,c33,c36,c38,c53,c53M,c56,c59,c53N]
    ·skip
     have c53N:=c53;try simp at c53N
     first | have c53M : (_ = _) = True:=eq_true c53N | have c53M:=c53N
     rw [if_neg] at hr52;rotate_left
     ·simp [c33,c36,c38,c53,c53M]
     refine Ze (by simp [bV,c33,c36,c38,c53,c53M]) ?_;refine Zr ?_;obtain ⟨r63,q63,rfl⟩:=ms hr52;simp only [pq,reduceCtorEq];rintro rfl
     try simp only [pq,reduceCtorEq]
     unfold ZgS at q63;refine Za rfl (by simp [c33,c36,c38,c53,c53M]; rfl) ?_;refine Zi ?_;obtain rfl:=Option.some.inj q63;simp [Zj,c33,c36,c38,c53,c53M,c53N]
   ·skip
    rw [if_pos c38] at hr;refine Zd (by simp [bV,c33,c36,c38]) ?_;refine Zb ?_;refine Za rfl (by simp [c33,c36,c38]; rfl) ?_;refine Zn ?_;obtain rfl:=Option.some.inj hr;simp [Zj,c33,c36,c38]
  ·skip
   rw [if_pos] at hr;rotate_left
   ·simp [c33,c36]
   refine Zd (by simp [bV,c33,c36]) ?_;refine Zb ?_;refine Za rfl (by simp [c33,c36]; rfl) ?_;refine Zn ?_;obtain rfl:=Option.some.inj hr;simp [Zj,c33,c36]
 ·skip
  rw [if_pos] at hr;rotate_left
  ·simp [c33]
  obtain ⟨z64,hz64,hr⟩:=bs hr;obtain rfl:=Option.some.inj hz64;refine Za rfl (by simp [hO,hT12,ehy32,c33]; rfl) ?_;rw [if_pos] at hr;rotate_left
  ·simp [c33]
  refine Zd (by simp [bV,c33]) ?_;refine Zb ?_;refine Za rfl (by simp [c33]; rfl) ?_;refine Zn ?_;obtain rfl:=Option.some.inj hr;simp [Zj,c33]
def kp4 : Keep:=fun i=>if i = 6 then ⟨[9,39,40,41],[9,39],[]⟩ else ⟨[],[],[]⟩
theorem w4 {T : Tab} (hO : T.own = fun _=>[]) (hT5 : T 5 = some G5) (hT6 : T 6 = some G6) (hT7 : T 7 = some G7) (hT8 : T 8 = some G8) (hT13 : T 13 = some G13) (hT14 : T 14 = some G14) (hT15 : T 15 = some G15) (hT16 : T 16 = some G16) (a0 : (List Int)) (a1 : (List Int)) (a2 : Int) (a3 : Int) (x : Bool) (hr : Y2 a0 a1 a2 a3 = some x) : ∃ kp fl n,Zt tt T G kp fl n Tryz.f4 (E4 (a0,a1,a2,a3)) = some (R4 (a0,a1,a2,a3) x):=by
 simp only [E4,R4];refine fnE (kp:=kp4) (w:=false) body4 (by simp) ?_;unfold c4;rw [Tryz.ntmps4];unfold Y2 at hr;refine Za rfl (by simp []; rfl) ?_;refine Zb ?_;obtain ⟨y32,hy32,hr⟩:=bs hr;have ehy32:=Zt8 hy32;simp only [E5,R5,nf,nfs] at ehy32;refine Za rfl (by simp [hO,hT5,ehy32]; rfl) ?_;by_cases c33 : y32 = true
 ·skip
  rw [if_neg (not_not_intro c33)] at hr;refine Ze (by simp [bV,c33]) ?_;refine Zh ?_;obtain ⟨y34,hy34,hr⟩:=bs hr;have ehy34:=Zra hy34;simp only [E7,R7,nf,nfs] at ehy34;obtain ⟨y35,hy35,hr⟩:=bs hr;have ehy35:=Zt9 hy35;simp only [E6,R6,nf,nfs] at ehy35;refine Za rfl (by simp [hO,hT7,ehy34,hT6,ehy35,c33]; rfl) ?_;obtain ⟨y36,hy36,hr⟩:=bs hr;have ehy36:=Zra hy36;simp only [E7,R7,nf,nfs] at ehy36;obtain ⟨y37,hy37,hr⟩:=bs hr;have ehy37:=ZpL hy37;simp only [E14,R14,nf,nfs] at ehy37;refine ZC rfl (by simp [hO,hT7,ehy36,hT14,ehy37,c33]; first | exact ⟨rfl,rfl⟩ | rfl) (by kernel_rfl) ?_;refine Zb ?_;obtain ⟨y38,hy38,hr⟩:=bs hr;have ehy38:=Zrb hy38;simp only [E8,R8,nf,nfs] at ehy38;obtain ⟨y39,hy39,hr⟩:=bs hr;have ehy39:=Zrb hy39;simp only [E8,R8,nf,nfs] at ehy39;refine ZC rfl (by simp [hO,hT8,ehy38,ehy39,List.range,List.range.loop,c33]; first | exact ⟨rfl,rfl⟩ | rfl) (by kernel_rfl) ?_;refine Zg ?_;refine ZJ (kq:=⟨[9,39,40,41],[9,39],[]⟩) (H:=fun (s : Int)=>match s with | p19=>(⟨(und 9++([.ptr 9 0 0 0 8]++(und 29++([.one (.ms 39 0 0 (3) 8),.one (.v (.int .i64 (3 : Int))),.one (.v (.int .i64 p19))]++(und 25)))) : List PV),([(9,⟨0,8,[[.v (.int .u32 y35.1.1.1.1),.slice .no (List.map Zm y35.1.1.1.2.1),.slice .no (List.map Zk y35.1.1.1.2.2.1),.v (.int .u32 y35.1.1.1.2.2.2),.slice .no (List.map ZB y35.1.1.2.1),.v (.int .i64 y35.1.1.2.2.1),.v (.int .i64 y35.1.1.2.2.2),.slice .no (List.map ZE y35.1.2)]],false,false⟩),(39,⟨0,8,List.map YK [(y35.1.1,y37.1),((y38.1.1,y38.1.2.1,y38.1.2.2.1,y38.1.2.2.2),y38.2),((y39.1.1,y39.1.2.1,y39.1.2.2.1,y39.1.2.2.2),y39.2)],false,true⟩)] : Boxes)⟩ : ASt)) (by kernel_rfl) hr (by simp [und,List.replicate,c33]) ?_;rintro p19 x52r hr52
  simp only [Zaj] at hr52;unfold b4_1;simp only [und,List.replicate,List.cons_append,List.nil_append];refine Za rfl (by simp [c33]; rfl) ?_;by_cases c53 : p19 < (3 : Int)
  ·skip
   rw [if_pos] at hr52;rotate_left
   ·simp [c33,c53]
   refine Zd (by simp [bV,c33,c53]) ?_;refine Zh ?_;refine Zg ?_;obtain ⟨j54,hj54,hr52⟩:=bs hr52;obtain ⟨j54a,j54b,j54c⟩:=Yc hj54;have j54d : j54≤2:=by omega
   obtain ⟨x55,hx55,hr52⟩:=bs hr52;have ghx55:=Zq hx55;have mhx55 : (List.map YK ([(y35.1.1,y37.1),((y38.1.1,y38.1.2.1,y38.1.2.2.1,y38.1.2.2.2),y38.2),((y39.1.1,y39.1.2.1,y39.1.2.2.1,y39.1.2.2.2),y39.2)]))[j54]? = some (YK x55):=by rw [List.getElem?_map,hx55]; rfl
   simp only [List.map_cons,List.map_nil,List.map_take,List.map_drop,ZcA,Zeo,ZrC,Zph,ZqA,YK] at mhx55;have mghx55:=Zq mhx55;refine Za rfl (by simp [j54a,j54b,j54c,j54d,hx55,ghx55,mhx55,mghx55,c33,c53]; rfl) ?_;obtain ⟨y56,hy56,hr52⟩:=bs hr52;have ehy56:=Zth hy56;simp only [E15,R15,nf,nfs] at ehy56;refine Za rfl (by simp [hO,hT15,ehy56,c33,c53]; rfl) ?_;obtain ⟨y57,hy57,hr52⟩:=bs hr52;have ehy57:=Zts hy57;simp only [E16,R16,nf,nfs] at ehy57;refine Za rfl (by simp [hO,hT16,ehy57,c33,c53]; rfl) ?_;by_cases c58 : y56.2 = y57.2
   ·skip
    rw [if_neg] at hr52;rotate_left
    ·simp [c33,c53,eq_true c58]
    obtain ⟨z59,hz59,hr52⟩:=bs hr52;obtain ⟨y60,hy60,hz59⟩:=bs hz59;have ehy60:=ZsV hy60;simp only [E13,R13,nf,nfs] at ehy60;obtain rfl:=Option.some.inj hz59;refine Za rfl (by simp [hO,hT13,ehy60,c33,c53,eq_true c58]; rfl) ?_;by_cases c61 : y60 = true
    ·skip
     rw [if_neg] at hr52;rotate_left
     ·simp [c33,c53,eq_true c58,c61]
     refine Zy (by simp [bV,c33,c53,eq_true c58,c61]) ?_;refine ZV ?_;simp only [pq,reduceCtorEq];refine ZA rfl (by simp [c33,c53,eq_true c58,c61]; rfl) ?_;obtain rfl:=Option.some.inj hr52;simp only [pq,reduceCtorEq];simp [und,List.replicate,Nat.add_assoc,c33,c53,eq_true c58,c61]
    ·skip
     rw [if_pos] at hr52;rotate_left
     ·simp [c33,c53,eq_true c58,c61]
     refine Zp (by simp [bV,c33,c53,eq_true c58,c61]) ?_;refine Za rfl (by simp [c33,c53,eq_true c58,c61]; rfl) ?_;refine Zi ?_;obtain rfl:=Option.some.inj hr52;simp only [pq,reduceCtorEq];rintro rfl
     simp [Zj,c33,c53,eq_true c58,c61]
   ·skip
    rw [if_pos] at hr52;rotate_left
    ·simp [c33,c53,c58]
    obtain ⟨z62,hz62,hr52⟩:=bs hr52;obtain rfl:=Option.some.inj hz62;refine Za rfl (by simp [c33,c53,c58]; rfl) ?_;rw [if_pos] at hr52;rotate_left
    ·simp [c33,c53,c58]
    refine Zp (by simp [bV,c33,c53,c58]) ?_;refine Za rfl (by simp [c33,c53,c58]; rfl) ?_;refine Zi ?_;obtain rfl:=Option.some.inj hr52;simp only [pq,reduceCtorEq];rintro rfl
    simp [Zj,c33,c53,c58]
  ·skip
   rw [if_neg] at hr52;rotate_left
   ·simp [c33,c53]
   refine Ze (by simp [bV,c33,c53]) ?_;refine Zr ?_;obtain ⟨r63,q63,rfl⟩:=ms hr52;simp only [pq,reduceCtorEq];rintro rfl
   try simp only [pq,reduceCtorEq]
   unfold Llaw35_PartialMerges_k1 at q63;refine Za rfl (by simp [c33,c53]; rfl) ?_;refine Zi ?_;obtain rfl:=Option.some.inj q63;simp [Zj,c33,c53]
 ·skip
  rw [if_pos c33] at hr;refine Zd (by simp [bV,c33]) ?_;refine Zb ?_;refine Za rfl (by simp [c33]; rfl) ?_;refine Zn ?_;obtain rfl:=Option.some.inj hr;simp [Zj,c33]
end Go.Proofs.YtbjhgolpnjokbaaGreat
