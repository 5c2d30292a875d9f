import Derived.Test.YtjdoijdjeapekaaLfK
import Derived.Test.YtjdoijdjeapekaaCode
namespace Go.Proofs.Ytjdoijdjeapekaa
open Go.RowKit
open Go.Av
open Go.Lc
set_option maxRecDepth 100000
set_option linter.unusedSimpArgs false
set_option linter.unusedVariables false
set_option maxHeartbeats 4000000
variable {G : Glob}
@[simp] theorem ap_out (p : List Tapi_Output) (a : Int) (y : List Int) (j : Nat) (h : j < (List.map eapi_Output p++[[Cell.v (.int .i64 a),Cell.slice .no (intsR .u8 y)]]).length) : (List.map eapi_Output p++[[Cell.v (.int .i64 a),Cell.slice .no (intsR .u8 y)]])[j]'h = eapi_Output ((p++[(a,y)])[j]'(by simpa using h)):=by
 have e : List.map eapi_Output p++[[Cell.v (.int .i64 a),Cell.slice .no (intsR .u8 y)]] = List.map eapi_Output (p++[(a,y)]):=by simp
 simp only [e,List.getElem_map]
def kp10 : Keep:=fun i=>if i = 6 then ⟨[0,1,2,3,5,12,15,41,42,43],[12,15,56],[(15,some 2,56,2)]⟩ else if i = 16 then ⟨[1,2,3,5,12,15,18,20,21,77,78,79],[12,15,20,56,95,104],[(15,some 1,104,35),(20,some 4,95,37)]⟩ else if i = 1000038 then ⟨[12,15,20,21],[12,15,20,56,95,104],[]⟩ else ⟨[],[],[]⟩
theorem w10 {T : Tab} (hO : T.own = fun _=>[]) (hT14 : T 14 = some K14.G) (hT15 : T 15 = some K15.G) (hT20 : T 20 = some K20.G) (hT21 : T 21 = some G21) (hT22 : T 22 = some K22.G) (hT23 : T 23 = some K23.G) (hT24 : T 24 = some K24.G) (hT25 : T 25 = some K25.G) (a0 : (List Tapi_Spendable)) (a1 : (List Tapi_Output)) (a2 : (List Int)) (a3 : Int) (a4 : Int) (a5 : Int) (x : Tapi_Plan×Int) (hr : Lbuild_Make a0 a1 a2 a3 a4 a5 = some x) : ∃ kp fl n,execFn tt T G kp fl n Try.f10 (E10 (a0,a1,a2,a3,a4,a5)) = some (R10 (a0,a1,a2,a3,a4,a5) x):=by
 simp only [E10,R10];refine fnE (kp:=kp10) (w:=false) body10 (by simp) ?_;unfold c10;rw [Try.ntmps10];unfold Lbuild_Make at hr;refine ee_seq_reg rfl (by simp []; rfl) ?_;refine ee_assoc ?_;obtain ⟨y66,hy66,hr⟩:=bs hr;have ehy66:=G20_eq hy66;simp only [K20,nf,nfs] at ehy66;refine ee_seq_reg rfl (by simp [hO,hT20,ehy66]; rfl) ?_;refine ee_assoc ?_;refine ee_seq_reg rfl (by simp []; rfl) ?_;by_cases c67 : y66 = 0
 ·skip
  rw [if_neg (not_not_intro c67)] at hr;refine ee_seq_condF (by simp [bV,eq_true c67]) ?_;refine ee_seq_skip ?_;refine ee_seq_reg rfl (by simp [eq_true c67]; rfl) ?_;refine ee_assoc ?_;refine ee_seq_reg rfl (by simp [eq_true c67]; rfl) ?_;refine ee_seq_block ?_;refine ee_loop (kq:=⟨[0,1,2,3,5,12,15,41,42,43],[12,15,56],[(15,some 2,56,2)]⟩) (H:=fun (s : Int×(List Tapi_Output))=>match s with | (p9,p10)=>(⟨([.one (.slice .no (List.map eapi_Spendable a0)),.one (.slice .no (List.map eapi_Output a1)),.one (.slice .no (intsR .u8 a2)),.one (.v (.int .i64 a3))]++(und 1++([.one (.v (.int .u32 a5))]++(und 6++([.ptr 12 0 0 0 7]++(und 2++([.ptr 15 0 0 0 4]++(und 25++([.one (.slice .no (List.map eapi_Output a1)),.one (.v (.int .i64 (a1.length : Int))),.one (.v (.int .i64 p9))]++(und 147))))))))) : List PV),([(12,⟨0,7,[[.v (.int .u32 0),.slice .nil [],.slice .nil [],.v (.int .u32 0),.slice .nil [],.v (.int .i64 0),.v (.int .i64 0)]],false,false⟩),(15,⟨0,4,[[.v (.int .u32 1),.slice .nil [],.ms 56 0 0 (p10.length) 2,.v (.int .u32 a4)]],false,false⟩),(56,⟨0,2,List.map eapi_Output p10,false,true⟩)] : Boxes)⟩ : ASt)) (by kernel_rfl) hr (by simp [und,List.replicate,eq_true c67]) ?_;rintro ⟨p9,p10⟩ x74r hr74
  simp only [Lbuild_Make_s1] at hr74;unfold b10_1;simp only [und,List.replicate,List.cons_append,List.nil_append];refine ee_seq_reg rfl (by simp [eq_true c67]; rfl) ?_;by_cases c75 : p9 < (a1.length : Int)
  ·skip
   have c75N:=c75;try simp at c75N
   first | have c75M : (_ = _) = True:=eq_true c75N | have c75M:=c75N
   rw [if_pos] at hr74;rotate_left
   ·simp [eq_true c67,c75,c75M]
   refine ee_seq_condT (by simp [bV,eq_true c67,c75,c75M]) ?_;refine ee_seq_skip ?_;refine ee_seq_block ?_;obtain ⟨x76,hx76,hr74⟩:=bs hr74;obtain ⟨hx76a,hx76b⟩:=idx_some hx76;have hx76c:=getE_of hx76b;refine ee_seq_reg rfl (by simp [hx76a,hx76b,hx76c,eq_true c67,c75,c75M] <;> rfl) ?_;obtain ⟨y77,hy77,hr74⟩:=bs hr74;have ehy77:=G21_eq hy77;simp only [E21,R21,nf,nfs] at ehy77;obtain ⟨_,u78,hr74⟩:=bs hr74;have u78_0:=chk_some u78;have n1_u78_0 : (p10.length + 1) * 32≤140737488355328:=by omega
   have n2_u78_0 : p10.length + 1≤9223372036854775807:=by omega
   refine ee_draw rfl (by simp [hO,hT21,ehy77,n1_u78_0,n2_u78_0,eq_true c67,c75,c75M]; first | exact ⟨rfl,rfl⟩ | rfl) (by kernel_rfl) ?_;simp only [pq,reduceCtorEq];refine ee_reg rfl (by simp [eq_true c67,c75,c75M] <;> rfl) ?_;obtain rfl:=Option.some.inj hr74;simp only [pq,reduceCtorEq];simp [und,List.replicate,Nat.add_assoc,eq_true c67,c75,c75M]
  ·skip
   have c75N:=c75;try simp at c75N
   first | have c75M : (_ = _) = True:=eq_true c75N | have c75M:=c75N
   rw [if_neg] at hr74;rotate_left
   ·simp [eq_true c67,c75,c75M]
   refine ee_seq_condF (by simp [bV,eq_true c67,c75,c75M]) ?_;refine ee_seq_exit ?_;obtain ⟨r79,q79,rfl⟩:=ms hr74;simp only [pq,reduceCtorEq];rintro rfl
   try simp only [pq,reduceCtorEq]
   unfold Lbuild_Make_k1 at q79;obtain ⟨y80,hy80,q79⟩:=bs q79;have ehy80:=G23_eq hy80;simp only [K23,nf,nfs] at ehy80;obtain ⟨y81,hy81,q79⟩:=bs q79;have ehy81:=G24_eq hy81;simp only [K24,nf,nfs] at ehy81;obtain ⟨y82,hy82,q79⟩:=bs q79;have ehy82:=G14_eq hy82;simp only [K14,nf,nfs] at ehy82;obtain ⟨y83,hy83,q79⟩:=bs q79;have ehy83:=G22_eq hy83;simp only [K22,nf,nfs] at ehy83;refine ee_seq_draw rfl (by simp [hO,hT23,ehy80,hT24,ehy81,hT14,ehy82,hT22,ehy83,eq_true c67,c75,c75M]; first | exact ⟨rfl,rfl⟩ | rfl) (by kernel_rfl) ?_;refine ee_assoc ?_;refine ee_seq_reg rfl (by simp [eq_true c67,c75,c75M] <;> rfl) ?_;by_cases c84 : y83.2 = 0
   ·skip
    rw [if_neg (not_not_intro c84)] at q79;refine ee_seq_condF (by simp [bV,eq_true c67,c75,c75M,eq_true c84]) ?_;refine ee_seq_skip ?_;refine ee_seq_reg rfl (by simp [eq_true c67,c75,c75M,eq_true c84] <;> rfl) ?_;refine ee_seq_reg rfl (by simp [eq_true c67,c75,c75M,eq_true c84] <;> rfl) ?_;refine ee_assoc ?_;refine ee_seq_reg rfl (by simp [eq_true c67,c75,c75M,eq_true c84] <;> rfl) ?_;refine ee_seq_block ?_;refine ee_loop (kq:=⟨[1,2,3,5,12,15,18,20,21,77,78,79],[12,15,20,56,95,104],[(15,some 1,104,35),(20,some 4,95,37)]⟩) (H:=fun (s : Int×Int×(List Tapi_Input)×(List Tapi_Coin))=>match s with | (p28,p29,p30,p31)=>(⟨(und 1++([.one (.slice .no (List.map eapi_Output a1)),.one (.slice .no (intsR .u8 a2)),.one (.v (.int .i64 a3))]++(und 1++([.one (.v (.int .u32 a5))]++(und 6++([.ptr 12 0 0 0 7]++(und 2++([.ptr 15 0 0 0 4]++(und 2++([.one (.slice .no (List.map eapi_Spendable y83.1))]++(und 1++([.ptr 20 0 0 0 7,.one (.v (.int .i64 p28))]++(und 55++([.one (.slice .no (List.map eapi_Spendable y83.1)),.one (.v (.int .i64 (y83.1.length : Int))),.one (.v (.int .i64 p29))]++(und 111)))))))))))))) : List PV),([(12,⟨0,7,[[.v (.int .u32 0),.slice .nil [],.slice .nil [],.v (.int .u32 0),.slice .nil [],.v (.int .i64 0),.v (.int .i64 0)]],false,false⟩),(15,⟨0,4,[[.v (.int .u32 1),.ms 104 0 0 (p30.length) 35,.ms 56 0 0 (p10.length) 2,.v (.int .u32 a4)]],false,false⟩),(20,⟨0,7,[[.v (.int .u32 0),.slice .nil [],.slice .nil [],.v (.int .u32 0),.ms 95 0 0 (p31.length) 37,.v (.int .i64 0),.v (.int .i64 (-1))]],false,false⟩),(56,⟨0,2,List.map eapi_Output p10,false,true⟩),(95,⟨0,37,List.map eapi_Coin p31,false,true⟩),(104,⟨0,35,List.map eapi_Input p30,false,true⟩)] : Boxes)⟩ : ASt)) (by kernel_rfl) q79 (by simp [und,List.replicate,eq_true c67,c75,c75M,eq_true c84]) ?_;rintro ⟨p28,p29,p30,p31⟩ x92r hr92
    simp only [Lbuild_Make_s2] at hr92;unfold b10_2;simp only [und,List.replicate,List.cons_append,List.nil_append];refine ee_seq_reg rfl (by simp [eq_true c67,c75,c75M,eq_true c84] <;> rfl) ?_;by_cases c93 : p29 < (y83.1.length : Int)
    ·skip
     have c93N:=c93;try simp at c93N
     first | have c93M : (_ = _) = True:=eq_true c93N | have c93M:=c93N
     rw [if_pos] at hr92;rotate_left
     ·simp [eq_true c67,c75,c75M,eq_true c84,c93,c93M]
     refine ee_seq_condT (by simp [bV,eq_true c67,c75,c75M,eq_true c84,c93,c93M]) ?_;refine ee_seq_skip ?_;refine ee_seq_block ?_;obtain ⟨x94,hx94,hr92⟩:=bs hr92;obtain ⟨hx94a,hx94b⟩:=idx_some hx94;have hx94c:=getE_of hx94b;refine ee_seq_reg rfl (by simp [hx94a,hx94b,hx94c,eq_true c67,c75,c75M,eq_true c84,c93,c93M] <;> rfl) ?_;refine ee_seq_reg rfl (by simp [eq_true c67,c75,c75M,eq_true c84,c93,c93M] <;> rfl) ?_;obtain ⟨y95,hy95,hr92⟩:=bs hr92;have ehy95:=G21_eq hy95;simp only [E21,R21,nf,nfs] at ehy95;refine ee_seq_reg rfl (by simp [hO,hT21,ehy95,eq_true c67,c75,c75M,eq_true c84,c93,c93M] <;> rfl) ?_;obtain ⟨_,u96,hr92⟩:=bs hr92;have u96_0:=chk_some u96;have n1_u96_0 : (p31.length + 1) * 88≤140737488355328:=by omega
     have n2_u96_0 : p31.length + 1≤9223372036854775807:=by omega
     refine ee_seq_reg rfl (by simp [n1_u96_0,n2_u96_0,eq_true c67,c75,c75M,eq_true c84,c93,c93M] <;> rfl) ?_;obtain ⟨_,u97,hr92⟩:=bs hr92;have u97_0:=chk_some u97;have n1_u97_0 : (p30.length + 1) * 64≤140737488355328:=by omega
     have n2_u97_0 : p30.length + 1≤9223372036854775807:=by omega
     refine ee_seq_reg rfl (by simp [n1_u97_0,n2_u97_0,eq_true c67,c75,c75M,eq_true c84,c93,c93M] <;> rfl) ?_;refine ee_reg rfl (by simp [eq_true c67,c75,c75M,eq_true c84,c93,c93M] <;> rfl) ?_;simp only [pq,reduceCtorEq];refine ee_reg rfl (by simp [eq_true c67,c75,c75M,eq_true c84,c93,c93M] <;> rfl) ?_;obtain rfl:=Option.some.inj hr92;simp only [pq,reduceCtorEq];simp [und,List.replicate,Nat.add_assoc,eq_true c67,c75,c75M,eq_true c84,c93,c93M]
    ·skip
     have c93N:=c93;try simp at c93N
     first | have c93M : (_ = _) = True:=eq_true c93N | have c93M:=c93N
     rw [if_neg] at hr92;rotate_left
     ·simp [eq_true c67,c75,c75M,eq_true c84,c93,c93M]
     refine ee_seq_condF (by simp [bV,eq_true c67,c75,c75M,eq_true c84,c93,c93M]) ?_;refine ee_seq_exit ?_;obtain ⟨r98,q98,rfl⟩:=ms hr92;simp only [pq,reduceCtorEq];rintro rfl
     try simp only [pq,reduceCtorEq]
     unfold Lbuild_Make_k2 at q98;obtain ⟨y99,hy99,q98⟩:=bs q98;have ehy99:=G15_eq hy99;simp only [K15,nf,nfs] at ehy99;refine ee_seq_reg rfl (by simp [hO,hT15,ehy99,eq_true c67,c75,c75M,eq_true c84,c93,c93M] <;> rfl) ?_;refine ee_assoc ?_;refine ee_seq_reg rfl (by simp [eq_true c67,c75,c75M,eq_true c84,c93,c93M] <;> rfl) ?_;by_cases c100 : 80000 < IntKind.i64.wrap (y99 + (IntKind.i64.wrap (4 * (IntKind.i64.wrap (9 + (a2.length : Int))))))
     ·skip
      have c100N:=c100;try simp at c100N
      first | have c100M : (_ = _) = True:=eq_true c100N | have c100M:=c100N
      rw [if_pos c100] at q98;refine ee_seq_condT (by simp [bV,eq_true c67,c75,c75M,eq_true c84,c93,c93M,c100,c100M]) ?_;refine ee_assoc ?_;refine ee_seq_reg rfl (by simp [eq_true c67,c75,c75M,eq_true c84,c93,c93M,c100,c100M] <;> rfl) ?_;refine ee_seq_ret ?_;obtain rfl:=Option.some.inj q98;simp [FinQ,eq_true c67,c75,c75M,eq_true c84,c93,c93M,c100,c100M,c75N,c93N,c100N]
     ·skip
      have c100N:=c100;try simp at c100N
      first | have c100M : (_ = _) = True:=eq_true c100N | have c100M:=c100N
      rw [if_neg c100] at q98;refine ee_seq_condF (by simp [bV,eq_true c67,c75,c75M,eq_true c84,c93,c93M,c100,c100M]) ?_;refine ee_seq_skip ?_;refine ee_assoc ?_;obtain ⟨y101,hy101,q98⟩:=bs q98;have ehy101:=G25_eq hy101;simp only [K25,nf,nfs] at ehy101;refine ee_seq_reg rfl (by simp [hO,hT25,ehy101,eq_true c67,c75,c75M,eq_true c84,c93,c93M,c100,c100M] <;> rfl) ?_;refine ee_assoc ?_;refine ee_seq_reg rfl (by simp [eq_true c67,c75,c75M,eq_true c84,c93,c93M,c100,c100M] <;> rfl) ?_;by_cases c102 : y101 = 0
      ·skip
       rw [if_neg (not_not_intro c102)] at q98;refine ee_seq_condF (by simp [bV,eq_true c67,c75,c75M,eq_true c84,c93,c93M,c100,c100M,eq_true c102]) ?_;refine ee_seq_skip ?_;obtain ⟨y103,hy103,q98⟩:=bs q98;obtain rfl : y80 = y103:=Option.some.inj (hy80.symm.trans hy103);have ehy103:=G23_eq hy103;simp only [K23,nf,nfs] at ehy103;refine ee_seq_reg rfl (by simp [hO,hT23,ehy103,eq_true c67,c75,c75M,eq_true c84,c93,c93M,c100,c100M,eq_true c102] <;> rfl) ?_;refine ee_assoc ?_;by_cases c104 : 0 < (a2.length : Int)
       ·skip
        have c104N:=c104;try simp at c104N
        first | have c104M : (_ = _) = True:=eq_true c104N | have c104M:=c104N
        rw [if_pos] at q98;rotate_left
        ·simp [eq_true c67,c75,c75M,eq_true c84,c93,c93M,c100,c100M,eq_true c102,c104,c104M]
        obtain ⟨z105,hz105,q98⟩:=bs q98;obtain ⟨y106,hy106,hz105⟩:=bs hz105;have ehy106:=G14_eq hy106;simp only [K14,nf,nfs] at ehy106;obtain ⟨y107,hy107,hz105⟩:=bs hz105;have ehy107:=G14_eq hy107;simp only [K14,nf,nfs] at ehy107;obtain rfl:=Option.some.inj hz105;refine ee_seq_reg rfl (by simp [hO,hT14,ehy106,ehy107,eq_true c67,c75,c75M,eq_true c84,c93,c93M,c100,c100M,eq_true c102,c104,c104M] <;> rfl) ?_;refine ee_seq_J q98 (fun (s : (List Tapi_Output)×Int)=>match s with | (p49,p50)=>(⟨(und 12++([.ptr 12 0 0 0 7]++(und 2++([.ptr 15 0 0 0 4]++(und 4++([.ptr 20 0 0 0 7,.one (.v (.int .i64 p28))]++(und 169)))))) : List PV),([(12,⟨0,7,[[.v (.int .u32 0),.slice .nil [],.slice .nil [],.v (.int .u32 0),.slice .nil [],.v (.int .i64 0),.v (.int .i64 0)]],false,false⟩),(15,⟨0,4,[[.v (.int .u32 1),.ms 104 0 0 (p30.length) 35,.ms 56 0 0 (p49.length) 2,.v (.int .u32 a4)]],false,false⟩),(20,⟨0,7,[[.v (.int .u32 0),.slice .nil [],.slice .nil [],.v (.int .u32 0),.ms 95 0 0 (p31.length) 37,.v (.int .i64 0),.v (.int .i64 p50)]],false,false⟩),(56,⟨0,2,List.map eapi_Output p49,false,true⟩),(95,⟨0,37,List.map eapi_Coin p31,false,true⟩),(104,⟨0,35,List.map eapi_Input p30,false,true⟩)] : Boxes)⟩ : ASt)) (fun (s : (List Tapi_Output)×Int)=>match s with | (p49,p50)=>Lbuild_Make_k3 p28 p30 a4 p31 p49 p50) ?_ ?_
        ·skip
         rintro ⟨p49,p50⟩ hk117
         change Lbuild_Make_k3 p28 p30 a4 p31 p49 p50 = _ at hk117
         simp only [und,List.replicate,List.cons_append,List.nil_append];unfold Lbuild_Make_k3 at hk117;refine ee_assoc ?_;refine ee_seq_regJ rfl (kq:=⟨[12,15,20,21],[12,15,20,56,95,104],[]⟩) rfl (by simp [joinSt,eq_true c67,c75,c75M,eq_true c84,c93,c93M,c100,c100M,eq_true c102,c104,c104M]; rfl) (by simp [eq_true c67,c75,c75M,eq_true c84,c93,c93M,c100,c100M,eq_true c102,c104,c104M] <;> rfl) ?_;by_cases c118 : 2100000000000000 < p28
         ·skip
          rw [if_pos c118] at hk117;refine ee_seq_condT (by simp [bV,eq_true c67,c75,c75M,eq_true c84,c93,c93M,c100,c100M,eq_true c102,c104,c104M,c118]) ?_;refine ee_assoc ?_;refine ee_seq_reg rfl (by simp [eq_true c67,c75,c75M,eq_true c84,c93,c93M,c100,c100M,eq_true c102,c104,c104M,c118] <;> rfl) ?_;refine ee_seq_ret ?_;obtain rfl:=Option.some.inj hk117;simp [FinQ,eq_true c67,c75,c75M,eq_true c84,c93,c93M,c100,c100M,eq_true c102,c104,c104M,c118,c75N,c93N,c100N,c104N]
         ·skip
          rw [if_neg c118] at hk117;refine ee_seq_condF (by simp [bV,eq_true c67,c75,c75M,eq_true c84,c93,c93M,c100,c100M,eq_true c102,c104,c104M,c118]) ?_;refine ee_seq_skip ?_;obtain ⟨y119,hy119,hk117⟩:=bs hk117;have ehy119:=G23_eq hy119;simp only [K23,nf,nfs] at ehy119;refine ee_seq_draw rfl (by simp [hO,hT23,ehy119,eq_true c67,c75,c75M,eq_true c84,c93,c93M,c100,c100M,eq_true c102,c104,c104M,c118]; first | exact ⟨rfl,rfl⟩ | rfl) (by kernel_rfl) ?_;refine ee_seq_reg rfl (by simp [eq_true c67,c75,c75M,eq_true c84,c93,c93M,c100,c100M,eq_true c102,c104,c104M,c118] <;> rfl) ?_;refine ee_ret ?_;obtain rfl:=Option.some.inj hk117;simp [FinQ,eq_true c67,c75,c75M,eq_true c84,c93,c93M,c100,c100M,eq_true c102,c104,c104M,c118,c75N,c93N,c100N,c104N]
        ·skip
         intro J117;by_cases c120 : 300≤IntKind.i64.wrap ((IntKind.i64.wrap ((IntKind.i64.wrap (p28 - y80)) - y106)) - y107)
         ·skip
          rw [if_pos] at q98;rotate_left
          ·simp [eq_true c67,c75,c75M,eq_true c84,c93,c93M,c100,c100M,eq_true c102,c104,c104M,c120]
          refine ee_seq_condT (by simp [bV,eq_true c67,c75,c75M,eq_true c84,c93,c93M,c100,c100M,eq_true c102,c104,c104M,c120]) ?_;refine ee_assoc ?_;refine ee_seq_reg rfl (by simp [eq_true c67,c75,c75M,eq_true c84,c93,c93M,c100,c100M,eq_true c102,c104,c104M,c120] <;> rfl) ?_;refine ee_assoc ?_;obtain ⟨y121,hy121,q98⟩:=bs q98;have ehy121:=G21_eq hy121;simp only [E21,R21,nf,nfs] at ehy121;obtain ⟨_,u122,q98⟩:=bs q98;have u122_0:=chk_some u122;have n1_u122_0 : (p10.length + 1) * 32≤140737488355328:=by omega
          have n2_u122_0 : p10.length + 1≤9223372036854775807:=by omega
          refine ee_seq_draw rfl (by simp [hO,hT21,ehy121,n1_u122_0,n2_u122_0,eq_true c67,c75,c75M,eq_true c84,c93,c93M,c100,c100M,eq_true c102,c104,c104M,c120]; first | exact ⟨rfl,rfl⟩ | rfl) (by kernel_rfl) ?_;refine ee_assoc ?_;obtain ⟨y123,hy123,q98⟩:=bs q98;have ehy123:=G15_eq hy123;simp only [K15,nf,nfs] at ehy123;obtain ⟨y124,hy124,q98⟩:=bs q98;have ehy124:=G14_eq hy124;simp only [K14,nf,nfs] at ehy124;obtain ⟨j125,hj125,q98⟩:=bs q98;obtain ⟨j125a,j125b,j125c⟩:=inA_some hj125
          have j125n : j125 < p10.length + 1:=by
           have h:=j125c;try simp at h
           omega
          obtain ⟨x126,hx126,q98⟩:=bs q98;have ghx126:=getE_of hx126;refine ee_seq_draw rfl (by simp [hO,hT15,ehy123,hT14,ehy124,j125a,j125b,j125c,j125n,hx126,ghx126,eq_true c67,c75,c75M,eq_true c84,c93,c93M,c100,c100M,eq_true c102,c104,c104M,c120]; first | exact ⟨rfl,rfl⟩ | rfl) (by kernel_rfl) ?_;refine ee_assoc ?_;obtain ⟨y127,hy127,q98⟩:=bs q98;have ehy127:=G25_eq hy127;simp only [K25,nf,nfs] at ehy127;refine ee_seq_reg rfl (by simp [hO,hT25,ehy127,eq_true c67,c75,c75M,eq_true c84,c93,c93M,c100,c100M,eq_true c102,c104,c104M,c120] <;> rfl) ?_;refine ee_assoc ?_;refine ee_seq_reg rfl (by simp [eq_true c67,c75,c75M,eq_true c84,c93,c93M,c100,c100M,eq_true c102,c104,c104M,c120] <;> rfl) ?_;by_cases c128 : y127 = 0
          ·skip
           rw [if_neg (not_not_intro c128)] at q98;refine ee_seq_condF (by simp [bV,eq_true c67,c75,c75M,eq_true c84,c93,c93M,c100,c100M,eq_true c102,c104,c104M,c120,eq_true c128]) ?_;refine ee_seq_skip ?_;exact ee_join (key:=1000038) (kq:=⟨[12,15,20,21],[12,15,20,56,95,104],[]⟩) rfl rfl rfl (by simp [und,List.replicate,eq_true c67,c75,c75M,eq_true c84,c93,c93M,c100,c100M,eq_true c102,c104,c104M,c120,eq_true c128]) (J117 ((p10++[(0,y121)]).set j125 (IntKind.i64.wrap ((IntKind.i64.wrap (p28 - y80)) - y124),x126.2),(a1.length : Int)) q98)
          ·skip
           rw [if_pos c128] at q98;refine ee_seq_condT (by simp [bV,eq_true c67,c75,c75M,eq_true c84,c93,c93M,c100,c100M,eq_true c102,c104,c104M,c120,c128]) ?_;refine ee_assoc ?_;refine ee_seq_reg rfl (by simp [eq_true c67,c75,c75M,eq_true c84,c93,c93M,c100,c100M,eq_true c102,c104,c104M,c120,c128] <;> rfl) ?_;refine ee_seq_ret ?_;obtain rfl:=Option.some.inj q98;simp [FinQ,eq_true c67,c75,c75M,eq_true c84,c93,c93M,c100,c100M,eq_true c102,c104,c104M,c120,c128,c75N,c93N,c100N,c104N]
         ·skip
          rw [if_neg] at q98;rotate_left
          ·simp [eq_true c67,c75,c75M,eq_true c84,c93,c93M,c100,c100M,eq_true c102,c104,c104M,c120]
          refine ee_seq_condF (by simp [bV,eq_true c67,c75,c75M,eq_true c84,c93,c93M,c100,c100M,eq_true c102,c104,c104M,c120]) ?_;refine ee_seq_skip ?_;exact ee_join (key:=1000038) (kq:=⟨[12,15,20,21],[12,15,20,56,95,104],[]⟩) rfl rfl rfl (by simp [und,List.replicate,eq_true c67,c75,c75M,eq_true c84,c93,c93M,c100,c100M,eq_true c102,c104,c104M,c120]) (J117 (p10,(-1)) q98)
       ·skip
        have c104N:=c104;try simp at c104N
        first | have c104M : (_ = _) = True:=eq_true c104N | have c104M:=c104N
        have c104L : ¬ 0 < a2.length:=by omega
        rw [if_neg] at q98;rotate_left
        ·simp [eq_true c67,c75,c75M,eq_true c84,c93,c93M,c100,c100M,eq_true c102,c104,c104M,c104L]
        obtain ⟨z129,hz129,q98⟩:=bs q98;obtain rfl:=Option.some.inj hz129;refine ee_seq_reg rfl (by simp [eq_true c67,c75,c75M,eq_true c84,c93,c93M,c100,c100M,eq_true c102,c104,c104M,c104L] <;> rfl) ?_;rw [if_neg] at q98;rotate_left
        ·simp [eq_true c67,c75,c75M,eq_true c84,c93,c93M,c100,c100M,eq_true c102,c104,c104M,c104L]
        refine ee_seq_condF (by simp [bV,eq_true c67,c75,c75M,eq_true c84,c93,c93M,c100,c100M,eq_true c102,c104,c104M,c104L]) ?_;refine ee_seq_skip ?_;unfold Lbuild_Make_k3 at q98;refine ee_assoc ?_;refine ee_seq_regJ rfl (kq:=⟨[12,15,20,21],[12,15,20,56,95,104],[]⟩) rfl (by simp [joinSt,eq_true c67,c75,c75M,eq_true c84,c93,c93M,c100,c100M,eq_true c102,c104,c104M,c104L]; rfl) (by simp [eq_true c67,c75,c75M,eq_true c84,c93,c93M,c100,c100M,eq_true c102,c104,c104M,c104L] <;> rfl) ?_;by_cases c130 : 2100000000000000 < p28
        ·skip
         rw [if_pos c130] at q98;refine ee_seq_condT (by simp [bV,eq_true c67,c75,c75M,eq_true c84,c93,c93M,c100,c100M,eq_true c102,c104,c104M,c104L,c130]) ?_;refine ee_assoc ?_;refine ee_seq_reg rfl (by simp [eq_true c67,c75,c75M,eq_true c84,c93,c93M,c100,c100M,eq_true c102,c104,c104M,c104L,c130] <;> rfl) ?_;refine ee_seq_ret ?_;obtain rfl:=Option.some.inj q98;simp [FinQ,eq_true c67,c75,c75M,eq_true c84,c93,c93M,c100,c100M,eq_true c102,c104,c104M,c104L,c130,c75N,c93N,c100N,c104N]
        ·skip
         rw [if_neg c130] at q98;refine ee_seq_condF (by simp [bV,eq_true c67,c75,c75M,eq_true c84,c93,c93M,c100,c100M,eq_true c102,c104,c104M,c104L,c130]) ?_;refine ee_seq_skip ?_;obtain ⟨y131,hy131,q98⟩:=bs q98;have ehy131:=G23_eq hy131;simp only [K23,nf,nfs] at ehy131;refine ee_seq_draw rfl (by simp [hO,hT23,ehy131,eq_true c67,c75,c75M,eq_true c84,c93,c93M,c100,c100M,eq_true c102,c104,c104M,c104L,c130]; first | exact ⟨rfl,rfl⟩ | rfl) (by kernel_rfl) ?_;refine ee_seq_reg rfl (by simp [eq_true c67,c75,c75M,eq_true c84,c93,c93M,c100,c100M,eq_true c102,c104,c104M,c104L,c130] <;> rfl) ?_;refine ee_ret ?_;obtain rfl:=Option.some.inj q98;simp [FinQ,eq_true c67,c75,c75M,eq_true c84,c93,c93M,c100,c100M,eq_true c102,c104,c104M,c104L,c130,c75N,c93N,c100N,c104N]
      ·skip
       rw [if_pos c102] at q98;refine ee_seq_condT (by simp [bV,eq_true c67,c75,c75M,eq_true c84,c93,c93M,c100,c100M,c102]) ?_;refine ee_assoc ?_;refine ee_seq_reg rfl (by simp [eq_true c67,c75,c75M,eq_true c84,c93,c93M,c100,c100M,c102] <;> rfl) ?_;refine ee_seq_ret ?_;obtain rfl:=Option.some.inj q98;simp [FinQ,eq_true c67,c75,c75M,eq_true c84,c93,c93M,c100,c100M,c102,c75N,c93N,c100N]
   ·skip
    rw [if_pos c84] at q79;refine ee_seq_condT (by simp [bV,eq_true c67,c75,c75M,c84]) ?_;refine ee_assoc ?_;refine ee_seq_reg rfl (by simp [eq_true c67,c75,c75M,c84] <;> rfl) ?_;refine ee_seq_ret ?_;obtain rfl:=Option.some.inj q79;simp [FinQ,eq_true c67,c75,c75M,c84,c75N]
 ·skip
  rw [if_pos c67] at hr;refine ee_seq_condT (by simp [bV,c67]) ?_;refine ee_assoc ?_;refine ee_seq_reg rfl (by simp [c67]; rfl) ?_;refine ee_seq_ret ?_;obtain rfl:=Option.some.inj hr;simp [FinQ,c67]
end Go.Proofs.Ytjdoijdjeapekaa
