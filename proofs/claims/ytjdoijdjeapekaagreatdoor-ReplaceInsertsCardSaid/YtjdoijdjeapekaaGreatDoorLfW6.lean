import Derived.Test.YtjdoijdjeapekaaGreatDoorLfK
import Derived.Test.YtjdoijdjeapekaaGreatDoorCode
namespace Go.Proofs.YtjdoijdjeapekaaGreatDoor
open Go.RowKit
open Go.Av
open Go.Lc
set_option maxRecDepth 100000
set_option linter.unusedSimpArgs false
set_option linter.unusedVariables false
set_option maxHeartbeats 4000000
def kp12 : Keep:=fun i=>if i = 5 then ⟨[0,2,3,5,11,12,13],[5,50,57],[(11,none,50,5),(12,none,57,5)]⟩ else if i = 1000006 then ⟨[0,2,3,5,11,12,13],[5,50,57],[]⟩ else if i = 17 then ⟨[2,3,5,11,12,15,16],[5,50,57,79],[(15,none,79,32)]⟩ else if i = 1000030 then ⟨[12,15],[79,900012],[]⟩ else if i = 21 then ⟨[3,12,15],[79,900012],[(12,none,900012,0),(12,none,900012,5)]⟩ else if i = 24 then ⟨[3,12,15,17,18],[79,900012],[]⟩ else if i = 1000025 then ⟨[3,12,15,17,18],[79,900012],[]⟩ else ⟨[],[],[]⟩
theorem w12 {T : Tab} (hO : T.own = fun _=>[]) (hT22 : T 22 = some K22.G) (hT31 : T 31 = some K31.G) (hT32 : T 32 = some K32.G) (hT33 : T 33 = some K33.G) (hT34 : T 34 = some K34.G) (a0 : (List Tapi_Entry)) (a1 : Tapi_Tx) (a2 : Int) (a3 : Int) (x : (List Tapi_Entry)×(List (Arr 32))×Int) (hr : Lref36_Insert a0 a1 a2 a3 = some x) : ∃ kp fl n,execFn tt T G kp fl n Tryz.f12 (E12 (a0,a1,a2,a3)) = some (R12 (a0,a1,a2,a3) x):=by
 simp only [E12,R12];refine fnE (kp:=kp12) (w:=false) body12 (by simp) ?_;unfold c12;rw [Tryz.ntmps12];unfold Lref36_Insert at hr;refine ee_seq_reg rfl (by simp []; rfl) ?_;refine ee_assoc ?_;obtain ⟨y228,hy228,hr⟩:=bs hr;have ehy228:=G31_eq hy228;simp only [K31,nf,nfs] at ehy228;refine ee_seq_reg rfl (by simp [hO,hT31,ehy228]; rfl) ?_;by_cases c229 : y228 = true
 ·skip
  rw [if_neg (not_not_intro c229)] at hr;refine ee_seq_condF (by simp [bV,c229]) ?_;refine ee_seq_skip ?_;refine ee_seq_reg rfl (by simp [c229]; rfl) ?_;refine ee_assoc ?_;refine ee_seq_reg rfl (by simp [c229]; rfl) ?_;refine ee_seq_block ?_;refine ee_loop (kq:=⟨[0,2,3,5,11,12,13],[5,50,57],[(11,none,50,5),(12,none,57,5)]⟩) (H:=fun (s : Int×(List Tapi_Entry)×(List Tapi_Entry))=>match s with | (p19,p20,p21)=>(⟨([.one (.slice .no (List.map eapi_Entry a0))]++(und 1++([.one (.v (.int .i64 a2)),.one (.v (.int .i64 a3))]++(und 1++([.ptr 5 0 0 0 4]++(und 5++([.one (.ms 50 0 0 (p20.length) 5),.one (.ms 57 0 0 (p21.length) 5),.one (.v (.int .i64 p19))]++(und 120))))))) : List PV),([(5,⟨0,4,[[.v (.int .u32 a1.1),.slice .no (List.map eapi_Input a1.2.1),.slice .no (List.map eapi_Output a1.2.2.1),.v (.int .u32 a1.2.2.2)]],false,false⟩),(50,⟨0,5,List.map eapi_Entry p20,false,true⟩),(57,⟨0,5,List.map eapi_Entry p21,false,true⟩)] : Boxes)⟩ : ASt)) (by kernel_rfl) hr (by simp [und,List.replicate,c229]) ?_;rintro ⟨p19,p20,p21⟩ x245r hr245
  simp only [Lref36_Insert_s1] at hr245;unfold b12_1;simp only [und,List.replicate,List.cons_append,List.nil_append];refine ee_assoc ?_;refine ee_seq_reg rfl (by simp [c229]; rfl) ?_;by_cases c246 : p19 < (a0.length : Int)
  ·skip
   have c246N:=c246;try simp at c246N
   first | have c246M : (_ = _) = True:=eq_true c246N | have c246M:=c246N
   rw [if_pos] at hr245;rotate_left
   ·simp [c229,c246,c246M]
   refine ee_seq_condT (by simp [bV,c229,c246,c246M]) ?_;refine ee_seq_skip ?_;refine ee_seq_block ?_;refine ee_assoc ?_;obtain ⟨x247,hx247,hr245⟩:=bs hr245;obtain ⟨hx247a,hx247b⟩:=idx_some hx247;have hx247c:=getE_of hx247b;obtain ⟨y248,hy248,hr245⟩:=bs hr245;have ehy248:=G22_eq hy248;simp only [K22,nf,nfs] at ehy248;obtain ⟨y249,hy249,hr245⟩:=bs hr245;have ehy249:=G22_eq hy249;simp only [K22,nf,nfs] at ehy249;refine ee_seq_draw rfl (by simp [hx247a,hx247b,hx247c,hO,hT22,ehy248,ehy249,c229,c246,c246M]; first | exact ⟨rfl,rfl⟩ | rfl) (by kernel_rfl) ?_;by_cases c250 : y248 = y249
   ·skip
    rw [if_pos c250] at hr245;refine ee_seq_condT (by simp [bV,c229,c246,c246M,eq_true c250]) ?_;refine ee_assoc ?_;refine ee_seq_reg rfl (by simp [c229,c246,c246M,eq_true c250] <;> rfl) ?_;refine ee_seq_ret ?_;obtain rfl:=Option.some.inj hr245;simp only [pq,reduceCtorEq];rintro rfl
    simp [FinQ,c229,c246,c246M,eq_true c250,c246N]
   ·skip
    rw [if_neg c250] at hr245;refine ee_seq_condF (by simp [bV,c229,c246,c246M,c250]) ?_;refine ee_seq_skip ?_;obtain ⟨hx247a,hx247b⟩:=idx_some hx247;have hx247c:=getE_of hx247b;obtain ⟨y251,hy251,hr245⟩:=bs hr245;have ehy251:=G32_eq hy251;simp only [K32,nf,nfs] at ehy251;refine ee_seq_draw rfl (by simp [hx247a,hx247b,hx247c,hO,hT32,ehy251,c229,c246,c246M,c250]; first | exact ⟨rfl,rfl⟩ | rfl) (by kernel_rfl) ?_;refine ee_J hr245 (.normal) (fun (s : (List Tapi_Entry)×(List Tapi_Entry))=>match s with | (p224,p225)=>(⟨([.one (.slice .no (List.map eapi_Entry a0))]++(und 1++([.one (.v (.int .i64 a2)),.one (.v (.int .i64 a3))]++(und 1++([.ptr 5 0 0 0 4]++(und 5++([.one (.ms 50 0 0 (p224.length) 5),.one (.ms 57 0 0 (p225.length) 5),.one (.v (.int .i64 p19))]++(und 120))))))) : List PV),([(5,⟨0,4,[[.v (.int .u32 a1.1),.slice .no (List.map eapi_Input a1.2.1),.slice .no (List.map eapi_Output a1.2.2.1),.v (.int .u32 a1.2.2.2)]],false,false⟩),(50,⟨0,5,List.map eapi_Entry p224,false,true⟩),(57,⟨0,5,List.map eapi_Entry p225,false,true⟩)] : Boxes)⟩ : ASt)) (fun (s : (List Tapi_Entry)×(List Tapi_Entry))=>match s with | (p224,p225)=>Lref36_Insert_k6 p19 p224 p225) ?_ ?_
    ·skip
     rintro ⟨p224,p225⟩ hk255
     change Lref36_Insert_k6 p19 p224 p225 = _ at hk255
     simp only [pq,reduceCtorEq];simp only [und,List.replicate,List.cons_append,List.nil_append];unfold Lref36_Insert_k6 at hk255;refine ee_regJ rfl (kq:=⟨[0,2,3,5,11,12,13],[5,50,57],[]⟩) rfl (by simp [joinSt,c229,c246,c246M,c250]; rfl) (by simp [c229,c246,c246M,c250] <;> rfl) ?_;obtain rfl:=Option.some.inj hk255;simp only [pq,reduceCtorEq];simp [und,List.replicate,Nat.add_assoc,c229,c246,c246M,c250]
    ·skip
     intro J255;simp only [pq,reduceCtorEq] at J255;by_cases c256 : y251 = true
     ·skip
      rw [if_pos c256] at hr245;refine ee_condT (by simp [bV,c229,c246,c246M,c250,c256]) ?_;obtain ⟨hx247a,hx247b⟩:=idx_some hx247;have hx247c:=getE_of hx247b;obtain ⟨_,u257,hr245⟩:=bs hr245;have u257_0:=chk_some u257;have n1_u257_0 : (p20.length + 1) * 72≤140737488355328:=by omega
      have n2_u257_0 : p20.length + 1≤9223372036854775807:=by omega
      refine ee_reg rfl (by simp [hx247a,hx247b,hx247c,n1_u257_0,n2_u257_0,c229,c246,c246M,c250,c256] <;> rfl) ?_;simp only [pq,reduceCtorEq];exact ee_join (key:=1000006) (kq:=⟨[0,2,3,5,11,12,13],[5,50,57],[]⟩) rfl rfl rfl (by simp [und,List.replicate,c229,c246,c246M,c250,c256]) (J255 (p20++[x247],p21) hr245)
     ·skip
      rw [if_neg c256] at hr245;refine ee_condF (by simp [bV,c229,c246,c246M,c250,c256]) ?_;obtain ⟨hx247a,hx247b⟩:=idx_some hx247;have hx247c:=getE_of hx247b;obtain ⟨_,u258,hr245⟩:=bs hr245;have u258_0:=chk_some u258;have n1_u258_0 : (p21.length + 1) * 72≤140737488355328:=by omega
      have n2_u258_0 : p21.length + 1≤9223372036854775807:=by omega
      refine ee_reg rfl (by simp [hx247a,hx247b,hx247c,n1_u258_0,n2_u258_0,c229,c246,c246M,c250,c256] <;> rfl) ?_;simp only [pq,reduceCtorEq];exact ee_join (key:=1000006) (kq:=⟨[0,2,3,5,11,12,13],[5,50,57],[]⟩) rfl rfl rfl (by simp [und,List.replicate,c229,c246,c246M,c250,c256]) (J255 (p20,p21++[x247]) hr245)
  ·skip
   have c246N:=c246;try simp at c246N
   first | have c246M : (_ = _) = True:=eq_true c246N | have c246M:=c246N
   rw [if_neg] at hr245;rotate_left
   ·simp [c229,c246,c246M]
   refine ee_seq_condF (by simp [bV,c229,c246,c246M]) ?_;refine ee_seq_exit ?_;obtain ⟨r259,q259,rfl⟩:=ms hr245;simp only [pq,reduceCtorEq];rintro rfl
   try simp only [pq,reduceCtorEq]
   unfold Lref36_Insert_k1 at q259;refine ee_assoc ?_;obtain ⟨y260,hy260,q259⟩:=bs q259;have ehy260:=G33_eq hy260;simp only [K33,nf,nfs] at ehy260;refine ee_seq_reg rfl (by simp [hO,hT33,ehy260,c229,c246,c246M] <;> rfl) ?_;refine ee_assoc ?_;refine ee_seq_reg rfl (by simp [c229,c246,c246M] <;> rfl) ?_;by_cases c261 : y260 = 0
   ·skip
    rw [if_neg (not_not_intro c261)] at q259;refine ee_seq_condF (by simp [bV,c229,c246,c246M,eq_true c261]) ?_;refine ee_seq_skip ?_;refine ee_seq_reg rfl (by simp [c229,c246,c246M,eq_true c261] <;> rfl) ?_;refine ee_assoc ?_;refine ee_seq_reg rfl (by simp [c229,c246,c246M,eq_true c261] <;> rfl) ?_;refine ee_seq_block ?_;refine ee_loop (kq:=⟨[2,3,5,11,12,15,16],[5,50,57,79],[(15,none,79,32)]⟩) (H:=fun (s : Int×(List (Arr 32)))=>match s with | (p40,p41)=>(⟨(und 2++([.one (.v (.int .i64 a2)),.one (.v (.int .i64 a3))]++(und 1++([.ptr 5 0 0 0 4]++(und 5++([.one (.ms 50 0 0 (p20.length) 5),.one (.ms 57 0 0 (p21.length) 5)]++(und 2++([.one (.ms 79 0 0 (p41.length) 32),.one (.v (.int .i64 p40))]++(und 117)))))))) : List PV),([(5,⟨0,4,[[.v (.int .u32 a1.1),.slice .no (List.map eapi_Input a1.2.1),.slice .no (List.map eapi_Output a1.2.2.1),.v (.int .u32 a1.2.2.2)]],false,false⟩),(50,⟨0,5,List.map eapi_Entry p20,false,true⟩),(57,⟨0,5,List.map eapi_Entry p21,false,true⟩),(79,⟨0,32,List.map (arC .u8) p41,false,true⟩)] : Boxes)⟩ : ASt)) (by kernel_rfl) q259 (by simp [und,List.replicate,c229,c246,c246M,eq_true c261]) ?_;rintro ⟨p40,p41⟩ x269r hr269
    simp only [Lref36_Insert_s2] at hr269;unfold b12_2;simp only [und,List.replicate,List.cons_append,List.nil_append];refine ee_assoc ?_;refine ee_seq_reg rfl (by simp [c229,c246,c246M,eq_true c261] <;> rfl) ?_;by_cases c270 : p40 < (p20.length : Int)
    ·skip
     have c270N:=c270;try simp at c270N
     first | have c270M : (_ = _) = True:=eq_true c270N | have c270M:=c270N
     rw [if_pos] at hr269;rotate_left
     ·simp [c229,c246,c246M,eq_true c261,c270,c270M]
     refine ee_seq_condT (by simp [bV,c229,c246,c246M,eq_true c261,c270,c270M]) ?_;refine ee_seq_skip ?_;refine ee_seq_block ?_;obtain ⟨j271,hj271,hr269⟩:=bs hr269;obtain ⟨j271a,j271b,j271c⟩:=inA_some hj271;obtain ⟨x272,hx272,hr269⟩:=bs hr269;have ghx272:=getE_of hx272;obtain ⟨y273,hy273,hr269⟩:=bs hr269;have ehy273:=G22_eq hy273;simp only [K22,nf,nfs] at ehy273;obtain ⟨_,u274,hr269⟩:=bs hr269;have u274_0:=chk_some u274;have n1_u274_0 : (p41.length + 1) * 32≤140737488355328:=by omega
     have n2_u274_0 : p41.length + 1≤9223372036854775807:=by omega
     refine ee_reg rfl (by simp [j271a,j271b,j271c,hx272,ghx272,hO,hT22,ehy273,n1_u274_0,n2_u274_0,c229,c246,c246M,eq_true c261,c270,c270M] <;> rfl) ?_;simp only [pq,reduceCtorEq];refine ee_reg rfl (by simp [c229,c246,c246M,eq_true c261,c270,c270M] <;> rfl) ?_;obtain rfl:=Option.some.inj hr269;simp only [pq,reduceCtorEq];simp [und,List.replicate,Nat.add_assoc,c229,c246,c246M,eq_true c261,c270,c270M]
    ·skip
     have c270N:=c270;try simp at c270N
     first | have c270M : (_ = _) = True:=eq_true c270N | have c270M:=c270N
     rw [if_neg] at hr269;rotate_left
     ·simp [c229,c246,c246M,eq_true c261,c270,c270M]
     refine ee_seq_condF (by simp [bV,c229,c246,c246M,eq_true c261,c270,c270M]) ?_;refine ee_seq_exit ?_;obtain ⟨r275,q275,rfl⟩:=ms hr269;simp only [pq,reduceCtorEq];rintro rfl
     try simp only [pq,reduceCtorEq]
     unfold Lref36_Insert_k2 at q275;obtain ⟨_,u276,q275⟩:=bs q275;have u276_0:=chk_some u276;have n1_u276_0 : (p21.length + 1) * 72≤140737488355328:=by omega
     have n2_u276_0 : p21.length + 1≤9223372036854775807:=by omega
     refine ee_seq_reg rfl (by simp [n1_u276_0,n2_u276_0,c229,c246,c246M,eq_true c261,c270,c270M] <;> rfl) ?_;refine ee_seq_block ?_;refine ee_J q275 (.exit 4) (fun (s : (List Tapi_Entry)×(List (Arr 32)))=>match s with | (p127,p128)=>(⟨(und 12++([.one (.ms 900012 0 0 (p127.length) 5)]++(und 2++([.one (.ms 79 0 0 (p128.length) 32)]++(und 118)))) : List PV),([(79,⟨0,32,List.map (arC .u8) p128,false,true⟩),(900012,⟨0,5,List.map eapi_Entry p127,false,true⟩)] : Boxes)⟩ : ASt)) (fun (s : (List Tapi_Entry)×(List (Arr 32)))=>match s with | (p127,p128)=>Lref36_Insert_k3 p127 p128) ?_ ?_
     ·skip
      rintro ⟨p127,p128⟩ hk317
      change Lref36_Insert_k3 p127 p128 = _ at hk317
      simp only [pq,reduceCtorEq];simp only [und,List.replicate,List.cons_append,List.nil_append];unfold Lref36_Insert_k3 at hk317;refine ee_seq_regJ rfl (kq:=⟨[12,15],[79,900012],[]⟩) rfl (by simp [joinSt,c229,c246,c246M,eq_true c261,c270,c270M]; rfl) (by simp [c229,c246,c246M,eq_true c261,c270,c270M] <;> rfl) ?_;refine ee_ret ?_;obtain rfl:=Option.some.inj hk317;simp [FinQ,c229,c246,c246M,eq_true c261,c270,c270M,c246N,c270N]
     ·skip
      intro J317;simp only [pq,reduceCtorEq] at J317;refine ee_loop (kq:=⟨[3,12,15],[79,900012],[(12,none,900012,0),(12,none,900012,5)]⟩) (H:=fun (s : (List Tapi_Entry)×(List (Arr 32)))=>match s with | (p127,p128)=>(⟨(und 3++([.one (.v (.int .i64 a3))]++(und 8++([.one (.ms 900012 0 0 (p127.length) 5)]++(und 2++([.one (.ms 79 0 0 (p128.length) 32)]++(und 118)))))) : List PV),([(79,⟨0,32,List.map (arC .u8) p128,false,true⟩),(900012,⟨0,5,List.map eapi_Entry p127,false,true⟩)] : Boxes)⟩ : ASt)) (by kernel_rfl) q275 (by simp [und,List.replicate,c229,c246,c246M,eq_true c261,c270,c270M]) ?_;rintro ⟨p127,p128⟩ x318r hr318
      simp only [Lref36_Insert_s3] at hr318;unfold b12_3;simp only [und,List.replicate,List.cons_append,List.nil_append];refine ee_assoc ?_;by_cases c319 : a3 < (p127.length : Int)
      ·skip
       have c319N:=c319;try simp at c319N
       first | have c319M : (_ = _) = True:=eq_true c319N | have c319M:=c319N
       refine ee_seq_reg rfl (by simp [c229,c246,c246M,eq_true c261,c270,c270M,c319,c319M] <;> rfl) ?_;by_cases c320 : 0 < (p127.length : Int)
       ·skip
        have c320N:=c320;try simp at c320N
        first | have c320M : (_ = _) = True:=eq_true c320N | have c320M:=c320N
        rw [if_pos] at hr318;rotate_left
        ·simp [c229,c246,c246M,eq_true c261,c270,c270M,c319,c319M,c320,c320M]
        refine ee_seq_condT (by simp [bV,c229,c246,c246M,eq_true c261,c270,c270M,c319,c319M,c320,c320M]) ?_;refine ee_seq_skip ?_;refine ee_block ?_;refine ee_seq_reg rfl (by simp [c229,c246,c246M,eq_true c261,c270,c270M,c319,c319M,c320,c320M] <;> rfl) ?_;refine ee_assoc ?_;refine ee_seq_reg rfl (by simp [c229,c246,c246M,eq_true c261,c270,c270M,c319,c319M,c320,c320M] <;> rfl) ?_;refine ee_seq_block ?_;refine ee_loop (kq:=⟨[3,12,15,17,18],[79,900012],[]⟩) (H:=fun (s : Int×Int)=>match s with | (p190,p191)=>(⟨(und 3++([.one (.v (.int .i64 a3))]++(und 8++([.one (.ms 900012 0 0 (p127.length) 5)]++(und 2++([.one (.ms 79 0 0 (p128.length) 32)]++(und 1++([.one (.v (.int .i64 p190)),.one (.v (.int .i64 p191))]++(und 115)))))))) : List PV),([(79,⟨0,32,List.map (arC .u8) p128,false,true⟩),(900012,⟨0,5,List.map eapi_Entry p127,false,true⟩)] : Boxes)⟩ : ASt)) (by kernel_rfl) hr318 (by simp [und,List.replicate,c229,c246,c246M,eq_true c261,c270,c270M,c319,c319M,c320,c320M]) ?_;rintro ⟨p190,p191⟩ x333r hr333
        simp only [Lref36_Insert_s4] at hr333;unfold b12_4;simp only [und,List.replicate,List.cons_append,List.nil_append];refine ee_assoc ?_;refine ee_seq_reg rfl (by simp [c229,c246,c246M,eq_true c261,c270,c270M,c319,c319M,c320,c320M] <;> rfl) ?_;by_cases c334 : p191 < (p127.length : Int)
        ·skip
         have c334N:=c334;try simp at c334N
         first | have c334M : (_ = _) = True:=eq_true c334N | have c334M:=c334N
         rw [if_pos] at hr333;rotate_left
         ·simp [c229,c246,c246M,eq_true c261,c270,c270M,c319,c319M,c320,c320M,c334,c334M]
         refine ee_seq_condT (by simp [bV,c229,c246,c246M,eq_true c261,c270,c270M,c319,c319M,c320,c320M,c334,c334M]) ?_;refine ee_seq_skip ?_;refine ee_seq_block ?_;obtain ⟨j335,hj335,hr333⟩:=bs hr333;obtain ⟨j335a,j335b,j335c⟩:=inA_some hj335;obtain ⟨x336,hx336,hr333⟩:=bs hr333;have ghx336:=getE_of hx336;obtain ⟨y337,hy337,hr333⟩:=bs hr333;have ehy337:=G34_eq hy337;simp only [K34,nf,nfs] at ehy337;obtain ⟨j338,hj338,hr333⟩:=bs hr333;obtain ⟨j338a,j338b,j338c⟩:=inA_some hj338;obtain ⟨x339,hx339,hr333⟩:=bs hr333;have ghx339:=getE_of hx339;obtain ⟨y340,hy340,hr333⟩:=bs hr333;have ehy340:=G34_eq hy340;simp only [K34,nf,nfs] at ehy340;refine ee_seq_draw rfl (by simp [j335a,j335b,j335c,hx336,ghx336,hO,hT34,ehy337,j338a,j338b,j338c,hx339,ghx339,ehy340,c229,c246,c246M,eq_true c261,c270,c270M,c319,c319M,c320,c320M,c334,c334M]; first | exact ⟨rfl,rfl⟩ | rfl) (by kernel_rfl) ?_;refine ee_J hr333 (.normal) (fun (s : Int)=>match s with | p213=>(⟨(und 3++([.one (.v (.int .i64 a3))]++(und 8++([.one (.ms 900012 0 0 (p127.length) 5)]++(und 2++([.one (.ms 79 0 0 (p128.length) 32)]++(und 1++([.one (.v (.int .i64 p213)),.one (.v (.int .i64 p191))]++(und 115)))))))) : List PV),([(79,⟨0,32,List.map (arC .u8) p128,false,true⟩),(900012,⟨0,5,List.map eapi_Entry p127,false,true⟩)] : Boxes)⟩ : ASt)) (fun (s : Int)=>match s with | p213=>Lref36_Insert_k5 p191 p213) ?_ ?_
         ·skip
          rintro p213 hk342
          change Lref36_Insert_k5 p191 p213 = _ at hk342
          simp only [pq,reduceCtorEq];simp only [und,List.replicate,List.cons_append,List.nil_append];unfold Lref36_Insert_k5 at hk342;refine ee_regJ rfl (kq:=⟨[3,12,15,17,18],[79,900012],[]⟩) rfl (by simp [joinSt,c229,c246,c246M,eq_true c261,c270,c270M,c319,c319M,c320,c320M,c334,c334M]; rfl) (by simp [c229,c246,c246M,eq_true c261,c270,c270M,c319,c319M,c320,c320M,c334,c334M] <;> rfl) ?_;obtain rfl:=Option.some.inj hk342;simp only [pq,reduceCtorEq];simp [und,List.replicate,Nat.add_assoc,c229,c246,c246M,eq_true c261,c270,c270M,c319,c319M,c320,c320M,c334,c334M]
         ·skip
          intro J342;simp only [pq,reduceCtorEq] at J342;by_cases c343 : y337≤y340
          ·skip
           rw [if_pos c343] at hr333;refine ee_condT (by simp [bV,c229,c246,c246M,eq_true c261,c270,c270M,c319,c319M,c320,c320M,c334,c334M,c343]) ?_;refine ee_reg rfl (by simp [c229,c246,c246M,eq_true c261,c270,c270M,c319,c319M,c320,c320M,c334,c334M,c343] <;> rfl) ?_;simp only [pq,reduceCtorEq];exact ee_join (key:=1000025) (kq:=⟨[3,12,15,17,18],[79,900012],[]⟩) rfl rfl rfl (by simp [und,List.replicate,c229,c246,c246M,eq_true c261,c270,c270M,c319,c319M,c320,c320M,c334,c334M,c343]) (J342 p191 hr333)
          ·skip
           rw [if_neg c343] at hr333;refine ee_condF (by simp [bV,c229,c246,c246M,eq_true c261,c270,c270M,c319,c319M,c320,c320M,c334,c334M,c343]) ?_;refine ee_skip ?_;simp only [pq,reduceCtorEq];exact ee_join (key:=1000025) (kq:=⟨[3,12,15,17,18],[79,900012],[]⟩) rfl rfl rfl (by simp [und,List.replicate,c229,c246,c246M,eq_true c261,c270,c270M,c319,c319M,c320,c320M,c334,c334M,c343]) (J342 p190 hr333)
        ·skip
         have c334N:=c334;try simp at c334N
         first | have c334M : (_ = _) = True:=eq_true c334N | have c334M:=c334N
         rw [if_neg] at hr333;rotate_left
         ·simp [c229,c246,c246M,eq_true c261,c270,c270M,c319,c319M,c320,c320M,c334,c334M]
         refine ee_seq_condF (by simp [bV,c229,c246,c246M,eq_true c261,c270,c270M,c319,c319M,c320,c320M,c334,c334M]) ?_;refine ee_seq_exit ?_;obtain ⟨r344,q344,rfl⟩:=ms hr333;simp only [pq,reduceCtorEq];rintro rfl
         try simp only [pq,reduceCtorEq]
         unfold Lref36_Insert_k4 at q344;obtain ⟨j345,hj345,q344⟩:=bs q344;obtain ⟨j345a,j345b,j345c⟩:=inA_some hj345;obtain ⟨x346,hx346,q344⟩:=bs q344;have ghx346:=getE_of hx346;obtain ⟨y347,hy347,q344⟩:=bs q344;have ehy347:=G22_eq hy347;simp only [K22,nf,nfs] at ehy347;obtain ⟨_,u348,q344⟩:=bs q344;have u348_0:=chk_some u348;have n1_u348_0 : (p128.length + 1) * 32≤140737488355328:=by omega
         have n2_u348_0 : p128.length + 1≤9223372036854775807:=by omega
         refine ee_seq_reg rfl (by simp [j345a,j345b,j345c,hx346,ghx346,hO,hT22,ehy347,n1_u348_0,n2_u348_0,c229,c246,c246M,eq_true c261,c270,c270M,c319,c319M,c320,c320M,c334,c334M] <;> rfl) ?_;obtain ⟨_,u349,q344⟩:=bs q344;obtain ⟨u349_0,u349_1⟩:=chk_some u349;have sf350 : (p190).toNat≤p127.length:=by omega
         have sf351 : 0≤p190:=by omega
         obtain ⟨_,u352,q344⟩:=bs q344;have u352_0:=chk_some u352;have n1_u352_0 : (((p127).take (p190).toNat).length) * 72≤140737488355328:=by omega
         have n2_u352_0 : ((p127).take (p190).toNat).length≤9223372036854775807:=by omega
         have n1s_u352_0:=n1_u352_0;try simp only [List.length_drop,List.length_take,Nat.min_self,Nat.sub_le_iff_le_add,Nat.min_eq_left,sf350,sf351] at n1s_u352_0
         have n2s_u352_0:=n2_u352_0;try simp only [List.length_drop,List.length_take,Nat.min_self,Nat.sub_le_iff_le_add,Nat.min_eq_left,sf350,sf351] at n2s_u352_0
         obtain ⟨_,u353,q344⟩:=bs q344;obtain ⟨u353_0,u353_1⟩:=chk_some u353;have sf354 : (IntKind.i64.wrap (p190 + 1)).toNat≤p127.length:=by omega
         obtain ⟨_,u355,q344⟩:=bs q344;have u355_0:=chk_some u355;have u355_0N:=u355_0;try simp at u355_0N
         have n1_u355_0 : (((p127).take (p190).toNat).length + (((p127).drop (IntKind.i64.wrap (p190 + 1)).toNat).take (p127.length - (IntKind.i64.wrap (p190 + 1)).toNat)).length) * 72≤140737488355328:=by omega
         have n2_u355_0 : ((p127).take (p190).toNat).length + (((p127).drop (IntKind.i64.wrap (p190 + 1)).toNat).take (p127.length - (IntKind.i64.wrap (p190 + 1)).toNat)).length≤9223372036854775807:=by omega
         have n1s_u355_0:=n1_u355_0;try simp only [List.length_drop,List.length_take,Nat.min_self,Nat.sub_le_iff_le_add,Nat.min_eq_left,sf350,sf351,sf354] at n1s_u355_0
         have n2s_u355_0:=n2_u355_0;try simp only [List.length_drop,List.length_take,Nat.min_self,Nat.sub_le_iff_le_add,Nat.min_eq_left,sf350,sf351,sf354] at n2s_u355_0
         refine ee_draw rfl (by simp [u349_0,u349_1,sf350,sf351,n1_u352_0,n2_u352_0,n1s_u352_0,n2s_u352_0,u353_0,u353_1,sf354,u355_0N,n1_u355_0,n2_u355_0,n1s_u355_0,n2s_u355_0,c229,c246,c246M,eq_true c261,c270,c270M,c319,c319M,c320,c320M,c334,c334M]; first | exact ⟨rfl,rfl⟩ | rfl) (by kernel_rfl) ?_;obtain rfl:=Option.some.inj q344;simp only [pq,reduceCtorEq];simp [und,List.replicate,Nat.add_assoc,u349_0,u349_1,sf350,sf351,n1_u352_0,n2_u352_0,n1s_u352_0,n2s_u352_0,u353_0,u353_1,sf354,u355_0N,n1_u355_0,n2_u355_0,n1s_u355_0,n2s_u355_0,c229,c246,c246M,eq_true c261,c270,c270M,c319,c319M,c320,c320M,c334,c334M]
       ·skip
        have c320N:=c320;try simp at c320N
        first | have c320M : (_ = _) = True:=eq_true c320N | have c320M:=c320N
        have c320L : ¬ 0 < p127.length:=by omega
        rw [if_neg] at hr318;rotate_left
        ·simp [c229,c246,c246M,eq_true c261,c270,c270M,c319,c319M,c320,c320M,c320L]
        refine ee_seq_condF (by simp [bV,c229,c246,c246M,eq_true c261,c270,c270M,c319,c319M,c320,c320M,c320L]) ?_;refine ee_seq_exit ?_;obtain ⟨r356,q356,rfl⟩:=ms hr318;simp only [pq,reduceCtorEq];rintro rfl
        try simp only [pq,reduceCtorEq]
        exact ee_join (key:=1000030) (kq:=⟨[12,15],[79,900012],[]⟩) rfl rfl rfl (by simp [und,List.replicate,c229,c246,c246M,eq_true c261,c270,c270M,c319,c319M,c320,c320M,c320L]) (J317 (p127,p128) q356)
      ·skip
       have c319N:=c319;try simp at c319N
       first | have c319M : (_ = _) = True:=eq_true c319N | have c319M:=c319N
       refine ee_seq_reg rfl (by simp [c229,c246,c246M,eq_true c261,c270,c270M,c319,c319M] <;> rfl) ?_;rw [if_neg] at hr318;rotate_left
       ·simp [c229,c246,c246M,eq_true c261,c270,c270M,c319,c319M]
       refine ee_seq_condF (by simp [bV,c229,c246,c246M,eq_true c261,c270,c270M,c319,c319M]) ?_;refine ee_seq_exit ?_;obtain ⟨r357,q357,rfl⟩:=ms hr318;simp only [pq,reduceCtorEq];rintro rfl
       try simp only [pq,reduceCtorEq]
       exact ee_join (key:=1000030) (kq:=⟨[12,15],[79,900012],[]⟩) rfl rfl rfl (by simp [und,List.replicate,c229,c246,c246M,eq_true c261,c270,c270M,c319,c319M]) (J317 (p127,p128) q357)
   ·skip
    rw [if_pos c261] at q259;refine ee_seq_condT (by simp [bV,c229,c246,c246M,c261]) ?_;refine ee_assoc ?_;refine ee_seq_reg rfl (by simp [c229,c246,c246M,c261] <;> rfl) ?_;refine ee_seq_ret ?_;obtain rfl:=Option.some.inj q259;simp [FinQ,c229,c246,c246M,c261,c246N]
 ·skip
  rw [if_pos c229] at hr;refine ee_seq_condT (by simp [bV,c229]) ?_;refine ee_assoc ?_;refine ee_seq_reg rfl (by simp [c229]; rfl) ?_;refine ee_seq_ret ?_;obtain rfl:=Option.some.inj hr;simp [FinQ,c229]
theorem w70 : Walk tt G [] (fun _=>[]) Tryz.f70 K70:=by
 refine .of [] false body70 Tryz.ntmps70 fun T hO hT ⟨a0,a1⟩ x hr=>⟨by simp,?_⟩
 simp only [tabAll] at hT; simp only at hr ⊢; unfold c70;unfold Lref01_Same at hr;refine go ?_;exact fin hr
theorem w71 : Walk tt G [(70,K70.G)] (fun _=>[]) Tryz.f71 K71:=by
 refine .of [] false body71 Tryz.ntmps71 fun T hO hT ⟨a0,a1⟩ x hr=>⟨by simp,?_⟩
 simp only [tabAll] at hT; simp only at hr ⊢; unfold c71;unfold Lref09_SameOut at hr;refine go ?_;rcases eqT (a0.1 = a1.1) with c3 | c3
 ·replace hr:=ifPb hr
  obtain ⟨_,hz4,hr⟩:=bs hr;obtain ⟨_,ehy5,hz4⟩:=bN hz4 G70_eq;obtain rfl:=Option.some.inj hz4;refine go ?_;exact fin hr
 ·replace hr:=ifNb hr
  obtain ⟨_,hz6,hr⟩:=bs hr;obtain rfl:=Option.some.inj hz6;refine go ?_;exact fin hr
theorem w35 : Walk tt G [(70,K70.G),(71,K71.G)] (fun _=>[]) Tryz.f35 K35:=by
 refine .of [(4,⟨[2,3,42,43],[2,3],[]⟩),(10,⟨[2,3,6,7,42,43,79,80],[2,3,6,7],[]⟩),(17,⟨[2,3,99,100],[2,3],[]⟩)] false body35 Tryz.ntmps35 fun T hO hT ⟨a0,a1⟩ x hr=>⟨by simp,?_⟩
 simp only [tabAll] at hT; simp only at hr ⊢; unfold c35;unfold Lref09_SameTx at hr;refine go ?_;rcases eqT (a0.1 = a1.1) with c72 | c72
 ·rcases eqT (a0.2.2.2 = a1.2.2.2) with c73 | c73
  ·rcases eqT ((a0.2.1.length : Int) = (a1.2.1.length : Int)) with c74 | c74
   ·have c74N:=nrm c74
    refine go ?_;rcases eqT ((a0.2.2.1.length : Int) = (a1.2.2.1.length : Int)) with c75 | c75
    ·have c75N:=nrm c75
     replace hr:=ifN hr
     refine go ?_;refine lp 4 (fun (p28 : Int)=>⟨(und 2++([.ptr 2 0 0 0 4,.ptr 3 0 0 0 4]++(und 38++([.one (.v (.int .i64 (a0.2.1.length : Int))),.one (.v (.int .i64 p28))]++(und 72)))) : List PV),([(2,⟨0,4,[[.v (.int .u32 a0.1),.slice .no (List.map eapi_Input a0.2.1),.slice .no (List.map eapi_Output a0.2.2.1),.v (.int .u32 a0.2.2.2)]],false,false⟩),(3,⟨0,4,[[.v (.int .u32 a1.1),.slice .no (List.map eapi_Input a1.2.1),.slice .no (List.map eapi_Output a1.2.2.1),.v (.int .u32 a1.2.2.2)]],false,false⟩)] : Boxes)⟩) hr ?_;rintro p28 x99r hr99
     simp only [Lref09_SameTx_s1] at hr99;unfold b35_1;refine nst ?_;refine go ?_;by_cases c100 : p28 < (a0.2.1.length : Int)
     ·have c100N:=nrm c100
      replace hr99:=ifP hr99
      refine go ?_;obtain ⟨x101,⟨_,_,_⟩,hr99⟩:=bI hr99;obtain ⟨x102,⟨_,_,_⟩,hr99⟩:=bI hr99;refine go ?_;rcases eqT (x101.1.1 = x102.1.1) with c103 | c103
      ·rcases eqT (x101.1.2 = x102.1.2) with c104 | c104
       ·rcases eqT (x101.2.1 = x102.2.1) with c105 | c105
        ·refine go ?_
         rcases eqT ((x101.2.2.length : Int) = (x102.2.2.length : Int)) with c106 | c106
         ·have c106N:=nrm c106
          replace hr99:=ifN hr99
          refine go ?_;refine lp 10 (fun (p65 : Int)=>⟨(und 2++([.ptr 2 0 0 0 4,.ptr 3 0 0 0 4]++(und 2++([.ptr 6 0 0 0 35,.ptr 7 0 0 0 35]++(und 34++([.one (.v (.int .i64 (a0.2.1.length : Int))),.one (.v (.int .i64 p28))]++(und 35++([.one (.v (.int .i64 (x101.2.2.length : Int))),.one (.v (.int .i64 p65))]++(und 35)))))))) : List PV),([(2,⟨0,4,[[.v (.int .u32 a0.1),.slice .no (List.map eapi_Input a0.2.1),.slice .no (List.map eapi_Output a0.2.2.1),.v (.int .u32 a0.2.2.2)]],false,false⟩),(3,⟨0,4,[[.v (.int .u32 a1.1),.slice .no (List.map eapi_Input a1.2.1),.slice .no (List.map eapi_Output a1.2.2.1),.v (.int .u32 a1.2.2.2)]],false,false⟩),(6,⟨0,35,[(arC .u8 x101.1.1)++((.v (.int .u32 x101.1.2)) :: ((.v (.int .u32 x101.2.1)) :: ((.slice .no (List.map eS_I_u8 x101.2.2)) :: [])))],false,false⟩),(7,⟨0,35,[(arC .u8 x102.1.1)++((.v (.int .u32 x102.1.2)) :: ((.v (.int .u32 x102.2.1)) :: ((.slice .no (List.map eS_I_u8 x102.2.2)) :: [])))],false,false⟩)] : Boxes)⟩) hr99 ?_;rintro p65 x114r hr114
          simp only [Lref09_SameTx_s3] at hr114;unfold b35_2;refine nst ?_;refine go ?_;by_cases c115 : p65 < (x101.2.2.length : Int)
          ·have c115N:=nrm c115
           replace hr114:=ifP hr114
           refine go ?_;obtain ⟨_,⟨_,_,_⟩,hr114⟩:=bI hr114;obtain ⟨_,⟨_,_,_⟩,hr114⟩:=bI hr114;obtain ⟨y118,ehy118,hr114⟩:=bN hr114 G70_eq;refine go ?_;by_cases c119 : y118 = true
           ·replace hr114:=ifN hr114
            refine go ?_;exact bk hr114
           ·replace hr114:=ifP hr114
            refine go ?_;exact fin hr114
          ·have c115N:=nrm c115
           replace hr114:=ifN hr114
           refine go ?_;obtain ⟨r120,q120,rfl⟩:=ms hr114;refine go ?_;rintro rfl
           refine go ?_;unfold Lref09_SameTx_k3 at q120;refine go ?_;exact bk q120
         ·have c106N:=nrm c106
          replace hr99:=ifP hr99
          refine go ?_;exact fin hr99
        ·refine go ?_
         replace hr99:=ifP hr99
         refine go ?_;exact fin hr99
       ·refine go ?_
        replace hr99:=ifP hr99
        refine go ?_;exact fin hr99
      ·refine go ?_
       replace hr99:=ifP hr99
       refine go ?_;exact fin hr99
     ·have c100N:=nrm c100
      replace hr99:=ifN hr99
      refine go ?_;obtain ⟨r121,q121,rfl⟩:=ms hr99;refine go ?_;rintro rfl
      refine go ?_;unfold Lref09_SameTx_k1 at q121;refine go ?_;refine lp 17 (fun (p49 : Int)=>⟨(und 2++([.ptr 2 0 0 0 4,.ptr 3 0 0 0 4]++(und 95++([.one (.v (.int .i64 (a0.2.2.1.length : Int))),.one (.v (.int .i64 p49))]++(und 15)))) : List PV),([(2,⟨0,4,[[.v (.int .u32 a0.1),.slice .no (List.map eapi_Input a0.2.1),.slice .no (List.map eapi_Output a0.2.2.1),.v (.int .u32 a0.2.2.2)]],false,false⟩),(3,⟨0,4,[[.v (.int .u32 a1.1),.slice .no (List.map eapi_Input a1.2.1),.slice .no (List.map eapi_Output a1.2.2.1),.v (.int .u32 a1.2.2.2)]],false,false⟩)] : Boxes)⟩) q121 ?_;rintro p49 x129r hr129
      simp only [Lref09_SameTx_s2] at hr129;unfold b35_3;refine nst ?_;refine go ?_;by_cases c130 : p49 < (a0.2.2.1.length : Int)
      ·have c130N:=nrm c130
       replace hr129:=ifP hr129
       refine go ?_;obtain ⟨_,⟨_,_,_⟩,hr129⟩:=bI hr129;obtain ⟨_,⟨_,_,_⟩,hr129⟩:=bI hr129;obtain ⟨y133,ehy133,hr129⟩:=bN hr129 G71_eq;refine go ?_;by_cases c134 : y133 = true
       ·replace hr129:=ifN hr129
        refine go ?_;exact bk hr129
       ·replace hr129:=ifP hr129
        refine go ?_;exact fin hr129
      ·have c130N:=nrm c130
       replace hr129:=ifN hr129
       refine go ?_;obtain ⟨r135,q135,rfl⟩:=ms hr129;refine go ?_;rintro rfl
       refine go ?_;unfold Lref09_SameTx_k2 at q135;refine go ?_;exact fin q135
    ·have c75N:=nrm c75
     replace hr:=ifP hr
     refine go ?_;exact fin hr
   ·have c74N:=nrm c74
    refine go ?_
    replace hr:=ifP hr
    refine go ?_;exact fin hr
  ·refine go ?_
   replace hr:=ifP hr
   refine go ?_;exact fin hr
 ·refine go ?_
  replace hr:=ifP hr
  refine go ?_;exact fin hr
theorem w13 : Walk tt G [(35,K35.G)] (fun _=>[]) Tryz.f13 K13:=by
 refine .of [(4,⟨[0,1,5],[],[]⟩)] false body13 Tryz.ntmps13 fun T hO hT ⟨a0,a1⟩ x hr=>⟨by simp,?_⟩
 simp only [tabAll] at hT; simp only at hr ⊢; unfold c13;unfold Lref36_Same at hr;refine go ?_;rcases eqT ((a0.length : Int) = (a1.length : Int)) with c19 | c19
 ·have c19N:=nrm c19
  replace hr:=ifN hr
  refine go ?_;refine lp 4 (fun (p10 : Int)=>⟨([.one (.slice .no (List.map eapi_Entry a0)),.one (.slice .no (List.map eapi_Entry a1))]++(und 3++([.one (.v (.int .i64 p10))]++(und 36))) : List PV),([] : Boxes)⟩) hr ?_;rintro p10 x30r hr30
  simp only [Lref36_Same_s1] at hr30;unfold b13_1;refine nst ?_;refine go ?_;by_cases c31 : p10 < (a0.length : Int)
  ·have c31N:=nrm c31
   replace hr30:=ifP hr30
   refine go ?_;obtain ⟨x32,⟨_,_,_⟩,hr30⟩:=bI hr30;obtain ⟨x33,⟨_,_,_⟩,hr30⟩:=bI hr30;rcases eqT (x32.2 = x33.2) with c34 | c34
   ·replace hr30:=ifNb hr30
    obtain ⟨_,hz35,hr30⟩:=bs hr30;obtain ⟨y36,ehy36,hz35⟩:=bN hz35 G35_eq;obtain rfl:=Option.some.inj hz35;refine go ?_;by_cases c37 : y36 = true
    ·replace hr30:=ifN hr30
     refine go ?_;exact bk hr30
    ·replace hr30:=ifP hr30
     refine go ?_;exact fin hr30
   ·replace hr30:=ifPb hr30
    obtain ⟨_,hz38,hr30⟩:=bs hr30;obtain rfl:=Option.some.inj hz38;refine go ?_
    replace hr30:=ifP hr30
    refine go ?_;exact fin hr30
  ·have c31N:=nrm c31
   replace hr30:=ifN hr30
   refine go ?_;obtain ⟨r39,q39,rfl⟩:=ms hr30;refine go ?_;rintro rfl
   refine go ?_;unfold Lref36_Same_k1 at q39;refine go ?_;exact fin q39
 ·have c19N:=nrm c19
  replace hr:=ifP hr
  refine go ?_;exact fin hr
theorem w36_33 : Walk tt G [(17,K17.G)] (fun _=>[]) Tryz.f36 K36_33:=by
 refine .of [] false body36 Tryz.ntmps36 fun T hO hT ⟨a0,a1⟩ x hr=>⟨by simp,?_⟩
 simp only [tabAll] at hT; simp only at hr ⊢; unfold c36;unfold Lreplace_Confirm_1__r at hr;refine go ?_;obtain ⟨_,ehy2,hr⟩:=bN hr G17_eq;refine go ?_;exact fin hr
theorem w72_34 : Walk tt G [(36,K36_33.G)] (fun _=>[]) Tryz.f72 K72_34:=by
 refine .of [(2,⟨[0,1,7,8],[],[]⟩)] false body72 Tryz.ntmps72 fun T hO hT ⟨a0,a1⟩ x hr=>⟨by simp,?_⟩
 simp only [tabAll] at hT; simp only at hr ⊢; unfold c72;unfold Lslices_IndexFunc_of__api_Tx_api_Tx__replace_Confirm_1 at hr;refine go ?_;refine lp 2 (fun (p6 : Int)=>⟨([.one (.slice .no (List.map eapi_Tx a0)),.clo 36 [.ref ([.v (.int .u32 a1.1.1),.slice .no (List.map eapi_Input a1.1.2.1),.slice .no (List.map eapi_Output a1.1.2.2.1),.v (.int .u32 a1.1.2.2.2),.v (.int .i64 a1.2)])]]++(und 5++([.one (.v (.int .i64 (a0.length : Int))),.one (.v (.int .i64 p6))]++(und 10))) : List PV),([] : Boxes)⟩) hr ?_;rintro p6 x17r hr17
 simp only [Lslices_IndexFunc_of__api_Tx_api_Tx__replace_Confirm_1_s1] at hr17;unfold b72_1;refine nst ?_;refine go ?_;by_cases c18 : p6 < (a0.length : Int)
 ·have c18N:=nrm c18
  replace hr17:=ifP hr17
  refine go ?_;obtain ⟨_,⟨_,_,_⟩,hr17⟩:=bI hr17;obtain ⟨y20,ehy20,hr17⟩:=bN hr17 G36_33_eq;refine go ?_;by_cases c21 : y20 = true
  ·replace hr17:=ifP hr17
   refine go ?_;exact fin hr17
  ·replace hr17:=ifN hr17
   refine go ?_;exact bk hr17
 ·have c18N:=nrm c18
  replace hr17:=ifN hr17
  refine go ?_;obtain ⟨r22,q22,rfl⟩:=ms hr17;refine go ?_;rintro rfl
  refine go ?_;unfold Lslices_IndexFunc_of__api_Tx_api_Tx__replace_Confirm_1_k1 at q22;refine go ?_;exact fin q22
theorem w37_35 : Walk tt G [(72,K72_34.G)] (fun _=>[]) Tryz.f37 K37_35:=by
 refine .of [] false body37 Tryz.ntmps37 fun T hO hT ⟨a0,a1⟩ x hr=>⟨by simp,?_⟩
 simp only [tabAll] at hT; simp only at hr ⊢; unfold c37;unfold Lslices_ContainsFunc_of__api_Tx_api_Tx__replace_Confirm_1 at hr;refine go ?_;obtain ⟨_,ehy2,hr⟩:=bN hr G72_34_eq;refine go ?_;exact fin hr
end Go.Proofs.YtjdoijdjeapekaaGreatDoor
