import Derived.Test.YthpkpciceodioaaGreatDoorLfK
import Derived.Test.YthpkpciceodioaaGreatDoorCode
import Derived.Test.YthpkpciceodioaaGreatDoorBl
namespace Go.Proofs.YthpkpciceodioaaGreatDoor
open Go.RowKit
open Go.Av
open Go.Lc
set_option maxRecDepth 100000
set_option linter.unusedSimpArgs false
set_option linter.unusedVariables false
set_option maxHeartbeats 4000000
def kp164_8 : Keep:=fun i=>if i = 2 then ⟨[0,1,2,3,8,9],[1000000],[]⟩ else if i = 1000010 then ⟨[0,1,2,3,8,9,10],[1000000],[]⟩ else if i = 1000015 then ⟨[0,1,2,3,8,9,10,11,12],[1000000],[]⟩ else if i = 1000017 then ⟨[0,1,2,3,8,9,10,11],[1000000],[]⟩ else ⟨[],[],[]⟩
theorem ZrY {T : Tab} (n : Nat) (hO : T.own = fun d=>if d = 27 then [[1000001]] else if d = 33 then [[1000001]] else if d = 39 then [[1000001]] else if d = 54 then [[1000001]] else if d = 72 then [[1000001]] else if d = 92 then [[1000001]] else if d = 99 then [[1000001]] else if d = 121 then [[1000001]] else if d = 132 then [[1000001]] else []) (hT164 : T 164 = some (Zh0 n)) (hT156 : T 156 = some K156.G) (hT201 : T 201 = some G201_1) (hT202 : T 202 = some K202_3.G) (hT203 : T 203 = some G203_9) (hT204 : T 204 = some K204.G) (hT205 : T 205 = some K205_4.G) (hT206 : T 206 = some K206_5.G) (hT207 : T 207 = some G207_6) (hT208 : T 208 = some G208_7) (a0 : (List Int)) (a1 : Int) (a2 : Int) (a3 : Int) (x : (List Int)) (hr : Yq (Lslices_pdqsortOrdered_of_uint64_n n) a0 a1 a2 a3 = some x) : ∃ kp fl n,Y8 tt T G kp fl n Tryz.f164 (XS (a0,a1,a2,a3)) = some (Zah (a0,a1,a2,a3) x):=by
 simp only [XS,Zah];refine fnE (kp:=kp164_8) (w:=false) body164 (by simp) ?_;unfold c164;rw [Tryz.ntmps164];unfold Yq at hr;refine Zd rfl (by simp [-Zb,Za]; rfl) ?_;refine Zd rfl (by simp [-Zb,Za]; rfl) ?_;refine XH ?_;refine XB (kq:=⟨[0,1,2,3,8,9],[1000000],[]⟩) (H:=fun (s : Int×Int×Int×Bool×Bool×(List Int))=>match s with | (p101,p102,p103,p104,p105,p106)=>(⟨([.one (.ms 1000000 0 0 (p106.length) 1),.one (.v (.int .i64 p101)),.one (.v (.int .i64 p102)),.one (.v (.int .i64 p103))]++(und 4++([.one (.v (.bool p104)),.one (.v (.bool p105))]++(und 124))) : List PV),([(1000000,⟨0,1,Ze .u64 p106,false,true⟩)] : Boxes)⟩ : ASt)) (by kernel_rfl) hr (by simp [-Zb,Za,und,List.replicate,]) ?_;rintro ⟨p101,p102,p103,p104,p105,p106⟩ x144r hr144
 simp only [ZF] at hr144;unfold b164_1;simp only [und,List.replicate,List.cons_append,List.nil_append];refine XH ?_;refine Zd rfl (by simp [-Zb,Za]; rfl) ?_;refine Zy ?_;refine Zd rfl (by simp [-Zb,Za]; rfl) ?_;by_cases c145 : IntKind.i64.wrap (p102 - p101)≤12
 ·skip
  rw [if_pos] at hr144;rotate_left
  ·simp [-Zb,Za,c145]
  refine ZB (by simp [-Zb,Za,bV,c145]) ?_;refine Zy ?_;obtain ⟨y146,hy146,hr144⟩:=bs hr144;have ehy146:=Zoe hy146;simp only [Zeu,Zgv,nf,nfs] at ehy146;try simp only [Za] at ehy146
  obtain ⟨_,u147,hr144⟩:=bs hr144;have u147_0:=ZA u147;have ck148:=Z1 (k:=.u64) u147_0;refine Zd rfl (by simp [-Zb,Za,hO,hT201,ehy146,ck148,u147_0,c145]; rfl) ?_;refine ZaD ?_;obtain ⟨_,u149,hr144⟩:=bs hr144;have u149_0:=ZA u149;try simp only [u147_0] at u149_0
  obtain rfl:=Option.some.inj hr144;simp only [pq,reduceCtorEq];rintro rfl
  simp [-Zb,Za,Zaj,hO,hT201,ehy146,ck148,u147_0,u149_0,c145]
 ·skip
  rw [if_neg] at hr144;rotate_left
  ·simp [-Zb,Za,c145]
  refine Zl (by simp [-Zb,Za,bV,c145]) ?_;refine Zz ?_;refine Zy ?_;refine Zd rfl (by simp [-Zb,Za,c145]; rfl) ?_;by_cases c150 : p103 = 0
  ·skip
   rw [if_pos] at hr144;rotate_left
   ·simp [-Zb,Za,c145,eq_true c150]
   refine ZB (by simp [-Zb,Za,bV,c145,eq_true c150]) ?_;refine Zy ?_;obtain ⟨y151,hy151,hr144⟩:=bs hr144;have ehy151:=Zof hy151;simp only [K202_3,nf,nfs] at ehy151;try simp only [Za] at ehy151
   obtain ⟨_,u152,hr144⟩:=bs hr144;have u152_0:=ZA u152;have ck153:=Z1 (k:=.u64) u152_0;refine Zd rfl (by simp [-Zb,Za,hO,hT202,ehy151,ck153,u152_0,c145,eq_true c150]; rfl) ?_;refine ZaD ?_;obtain ⟨_,u154,hr144⟩:=bs hr144;have u154_0:=ZA u154;try simp only [u152_0] at u154_0
   obtain rfl:=Option.some.inj hr144;simp only [pq,reduceCtorEq];rintro rfl
   simp [-Zb,Za,Zaj,hO,hT202,ehy151,ck153,u152_0,u154_0,c145,eq_true c150]
  ·skip
   rw [if_neg] at hr144;rotate_left
   ·simp [-Zb,Za,c145,c150]
   refine Zl (by simp [-Zb,Za,bV,c145,c150]) ?_;refine Zz ?_;refine Zy ?_;refine Zd rfl (by simp [-Zb,Za,c145,c150]; rfl) ?_;refine Zcj hr144 (fun (s : Int×(List Int))=>match s with | (p113,p114)=>(⟨([.one (.ms 1000000 0 0 (p114.length) 1),.one (.v (.int .i64 p101)),.one (.v (.int .i64 p102)),.one (.v (.int .i64 p113))]++(und 4++([.one (.v (.bool p104)),.one (.v (.bool p105)),.one (.v (.int .i64 (IntKind.i64.wrap (p102 - p101))))]++(und 123))) : List PV),([(1000000,⟨0,1,Ze .u64 p114,false,true⟩)] : Boxes)⟩ : ASt)) (fun (s : Int×(List Int))=>match s with | (p113,p114)=>ZE p101 p102 p104 p105 a0 (Lslices_pdqsortOrdered_of_uint64_n n) p113 p114) ?_ ?_
   ·skip
    rintro ⟨p113,p114⟩ hk159
    change ZE p101 p102 p104 p105 a0 (Lslices_pdqsortOrdered_of_uint64_n n) p113 p114 = _ at hk159
    simp only [und,List.replicate,List.cons_append,List.nil_append];unfold ZE at hk159;obtain ⟨y160,hy160,hk159⟩:=bs hk159;have ehy160:=Zqx hy160;simp only [K204,nf,nfs] at ehy160;try simp only [Za] at ehy160
    refine Y5 rfl (kq:=⟨[0,1,2,3,8,9,10],[1000000],[]⟩) rfl (by simp [-Zb,Za,Yk,hO,hT204,ehy160,c145,c150]; rfl) (by simp [-Zb,Za,hO,hT204,ehy160,c145,c150]; rfl) ?_;refine Zy ?_;refine Zd rfl (by simp [-Zb,Za,c145,c150]; rfl) ?_;refine Zcj hk159 (fun (s : Int×Int×(List Int))=>match s with | (p118,p119,p120)=>(⟨([.one (.ms 1000000 0 0 (p120.length) 1),.one (.v (.int .i64 p101)),.one (.v (.int .i64 p102)),.one (.v (.int .i64 p113))]++(und 4++([.one (.v (.bool p104)),.one (.v (.bool p105)),.one (.v (.int .i64 (IntKind.i64.wrap (p102 - p101)))),.one (.v (.int .i64 p118)),.one (.v (.int .i64 p119))]++(und 121))) : List PV),([(1000000,⟨0,1,Ze .u64 p120,false,true⟩)] : Boxes)⟩ : ASt)) (fun (s : Int×Int×(List Int))=>match s with | (p118,p119,p120)=>Zs p104 p105 p101 p102 a0 p113 (Lslices_pdqsortOrdered_of_uint64_n n) p118 p119 p120) ?_ ?_
    ·skip
     rintro ⟨p118,p119,p120⟩ hk165
     change Zs p104 p105 p101 p102 a0 p113 (Lslices_pdqsortOrdered_of_uint64_n n) p118 p119 p120 = _ at hk165
     simp only [und,List.replicate,List.cons_append,List.nil_append];unfold Zs at hk165;refine Zy ?_;by_cases c166 : p104 = true
     ·skip
      by_cases c167 : p105 = true
      ·skip
       refine Y5 rfl (kq:=⟨[0,1,2,3,8,9,10,11,12],[1000000],[]⟩) rfl (by simp [-Zb,Za,Yk,c145,c150,c166,c167]; rfl) (by simp [-Zb,Za,c145,c150,c166,c167]; rfl) ?_;refine Zcj hk165 (fun (s : (List Int))=>match s with | p123=>(⟨([.one (.ms 1000000 0 0 (p123.length) 1),.one (.v (.int .i64 p101)),.one (.v (.int .i64 p102)),.one (.v (.int .i64 p113))]++(und 4++([.one (.v (.bool p104)),.one (.v (.bool p105)),.one (.v (.int .i64 (IntKind.i64.wrap (p102 - p101)))),.one (.v (.int .i64 p118))]++(und 122))) : List PV),([(1000000,⟨0,1,Ze .u64 p123,false,true⟩)] : Boxes)⟩ : ASt)) (fun (s : (List Int))=>match s with | p123=>Zr p101 p118 p102 p113 p104 p105 (Lslices_pdqsortOrdered_of_uint64_n n) p123) ?_ ?_
       ·skip
        rintro p123 hk174
        change Zr p101 p118 p102 p113 p104 p105 (Lslices_pdqsortOrdered_of_uint64_n n) p123 = _ at hk174
        simp only [und,List.replicate,List.cons_append,List.nil_append];unfold Zr at hk174;refine Zy ?_;by_cases c175 : 0 < p101
        ·skip
         rw [if_pos] at hk174;rotate_left
         ·simp [-Zb,Za,c145,c150,c166,c167,c175]
         obtain ⟨z176,hz176,hk174⟩:=bs hk174;obtain ⟨j177,hj177,hz176⟩:=bs hz176;obtain ⟨j177a,j177b,j177c⟩:=Zn hj177;obtain ⟨x178,hx178,hz176⟩:=bs hz176;have ghx178:=Zj hx178;obtain ⟨j179,hj179,hz176⟩:=bs hz176;obtain ⟨j179a,j179b,j179c⟩:=Zn hj179;obtain ⟨x180,hx180,hz176⟩:=bs hz176;have ghx180:=Zj hx180;obtain ⟨y181,hy181,hz176⟩:=bs hz176;have ehy181:=Zag hy181;simp only [K156,nf,nfs] at ehy181;try simp only [Za] at ehy181
         obtain rfl:=Option.some.inj hz176;refine ZaH rfl (kq:=⟨[0,1,2,3,8,9,10,11],[1000000],[]⟩) rfl (by simp [-Zb,Za,Yk,j177a,j177b,j177c,hx178,ghx178,j179a,j179b,j179c,hx180,ghx180,hO,hT156,ehy181,c145,c150,c166,c167,c175]; rfl) (by simp [-Zb,Za,j177a,j177b,j177c,hx178,ghx178,j179a,j179b,j179c,hx180,ghx180,hO,hT156,ehy181,c145,c150,c166,c167,c175]; first | exact ⟨rfl,rfl⟩ | rfl) (by kernel_rfl) ?_;by_cases c182 : y181 = true
         ·skip
          rw [if_neg] at hk174;rotate_left
          ·simp [-Zb,Za,c145,c150,c166,c167,c175,c182]
          refine Zl (by simp [-Zb,Za,bV,c145,c150,c166,c167,c175,c182]) ?_;refine Zz ?_;obtain ⟨y183,hy183,hk174⟩:=bs hk174;have ehy183:=Zea hy183;simp only [ZbW,Zc3,nf,nfs] at ehy183;try simp only [Za] at ehy183
          obtain ⟨_,u184,hk174⟩:=bs hk174;have u184_0:=ZA u184;have ck185:=Z1 (k:=.u64) u184_0;refine Zd rfl (by simp [-Zb,Za,hO,hT208,ehy183,ck185,u184_0,c145,c150,c166,c167,c175,c182]; rfl) ?_;refine Zd rfl (by simp [-Zb,Za,c145,c150,c166,c167,c175,c182,u184_0]; rfl) ?_;refine Zd rfl (by simp [-Zb,Za,c145,c150,c166,c167,c175,c182,u184_0]; rfl) ?_;refine Zd rfl (by simp [-Zb,Za,c145,c150,c166,c167,c175,c182,u184_0]; rfl) ?_;refine Zd rfl (by simp [-Zb,Za,c145,c150,c166,c167,c175,c182,u184_0]; rfl) ?_;by_cases c186 : IntKind.i64.wrap (y183.1 - p101) < IntKind.i64.wrap (p102 - y183.1)
          ·skip
           rw [if_pos] at hk174;rotate_left
           ·simp [-Zb,Za,c145,c150,c166,c167,c175,c182,u184_0,c186]
           refine Zbn (by simp [-Zb,Za,bV,c145,c150,c166,c167,c175,c182,u184_0,c186]) ?_;refine Zd rfl (by simp [-Zb,Za,c145,c150,c166,c167,c175,c182,u184_0,c186]; rfl) ?_;obtain ⟨y187,hy187,hk174⟩:=bs hk174;have ehy187:=X6 hy187;simp only [XS,Zah,nf,nfs] at ehy187;try simp only [Za] at ehy187
           obtain ⟨_,u188,hk174⟩:=bs hk174;have u188_0:=ZA u188;have ck189:=Z1 (k:=.u64) u188_0;try simp only [u184_0] at ck189
           refine Zd rfl (by simp [-Zb,Za,hO,hT164,ehy187,ck189,u188_0,c145,c150,c166,c167,c175,c182,u184_0,c186]; rfl) ?_;refine Y4 rfl (by simp [-Zb,Za,c145,c150,c166,c167,c175,c182,u184_0,c186,u188_0]; rfl) ?_;obtain rfl:=Option.some.inj hk174;simp only [pq,reduceCtorEq];simp [-Zb,Za,und,List.replicate,Nat.add_assoc,c145,c150,c166,c167,c175,c182,u184_0,c186,u188_0]
          ·skip
           rw [if_neg] at hk174;rotate_left
           ·simp [-Zb,Za,c145,c150,c166,c167,c175,c182,u184_0,c186]
           refine Zbo (by simp [-Zb,Za,bV,c145,c150,c166,c167,c175,c182,u184_0,c186]) ?_;refine Zd rfl (by simp [-Zb,Za,c145,c150,c166,c167,c175,c182,u184_0,c186]; rfl) ?_;obtain ⟨y190,hy190,hk174⟩:=bs hk174;have ehy190:=X6 hy190;simp only [XS,Zah,nf,nfs] at ehy190;try simp only [Za] at ehy190
           obtain ⟨_,u191,hk174⟩:=bs hk174;have u191_0:=ZA u191;have ck192:=Z1 (k:=.u64) u191_0;try simp only [u184_0] at ck192
           refine Zd rfl (by simp [-Zb,Za,hO,hT164,ehy190,ck192,u191_0,c145,c150,c166,c167,c175,c182,u184_0,c186]; rfl) ?_;refine Y4 rfl (by simp [-Zb,Za,c145,c150,c166,c167,c175,c182,u184_0,c186,u191_0]; rfl) ?_;obtain rfl:=Option.some.inj hk174;simp only [pq,reduceCtorEq];simp [-Zb,Za,und,List.replicate,Nat.add_assoc,c145,c150,c166,c167,c175,c182,u184_0,c186,u191_0]
         ·skip
          rw [if_pos] at hk174;rotate_left
          ·simp [-Zb,Za,c145,c150,c166,c167,c175,c182]
          refine ZB (by simp [-Zb,Za,bV,c145,c150,c166,c167,c175,c182]) ?_;refine Zy ?_;obtain ⟨y193,hy193,hk174⟩:=bs hk174;have ehy193:=ZhI hy193;simp only [Zc2,Ze0,nf,nfs] at ehy193;try simp only [Za] at ehy193
          obtain ⟨_,u194,hk174⟩:=bs hk174;have u194_0:=ZA u194;have ck195:=Z1 (k:=.u64) u194_0;refine Zd rfl (by simp [-Zb,Za,hO,hT207,ehy193,ck195,u194_0,c145,c150,c166,c167,c175,c182]; rfl) ?_;refine Zy ?_;refine Zd rfl (by simp [-Zb,Za,c145,c150,c166,c167,c175,c182,u194_0]; rfl) ?_;refine Z0 ?_;obtain rfl:=Option.some.inj hk174;simp only [pq,reduceCtorEq];simp [-Zb,Za,und,List.replicate,Nat.add_assoc,c145,c150,c166,c167,c175,c182,u194_0]
        ·skip
         rw [if_neg] at hk174;rotate_left
         ·simp [-Zb,Za,c145,c150,c166,c167,c175]
         obtain ⟨z196,hz196,hk174⟩:=bs hk174;obtain rfl:=Option.some.inj hz196;refine ZaH rfl (kq:=⟨[0,1,2,3,8,9,10,11],[1000000],[]⟩) rfl (by simp [-Zb,Za,Yk,c145,c150,c166,c167,c175]; rfl) (by simp [-Zb,Za,c145,c150,c166,c167,c175]; first | exact ⟨rfl,rfl⟩ | rfl) (by kernel_rfl) ?_;rw [if_neg] at hk174;rotate_left
         ·simp [-Zb,Za,c145,c150,c166,c167,c175]
         refine Zl (by simp [-Zb,Za,bV,c145,c150,c166,c167,c175]) ?_;refine Zz ?_;obtain ⟨y197,hy197,hk174⟩:=bs hk174;have ehy197:=Zea hy197;simp only [ZbW,Zc3,nf,nfs] at ehy197;try simp only [Za] at ehy197
         obtain ⟨_,u198,hk174⟩:=bs hk174;have u198_0:=ZA u198;have ck199:=Z1 (k:=.u64) u198_0;refine Zd rfl (by simp [-Zb,Za,hO,hT208,ehy197,ck199,u198_0,c145,c150,c166,c167,c175]; rfl) ?_;refine Zd rfl (by simp [-Zb,Za,c145,c150,c166,c167,c175,u198_0]; rfl) ?_;refine Zd rfl (by simp [-Zb,Za,c145,c150,c166,c167,c175,u198_0]; rfl) ?_;refine Zd rfl (by simp [-Zb,Za,c145,c150,c166,c167,c175,u198_0]; rfl) ?_;refine Zd rfl (by simp [-Zb,Za,c145,c150,c166,c167,c175,u198_0]; rfl) ?_;by_cases c200 : IntKind.i64.wrap (y197.1 - p101) < IntKind.i64.wrap (p102 - y197.1)
         ·skip
          rw [if_pos] at hk174;rotate_left
          ·simp [-Zb,Za,c145,c150,c166,c167,c175,u198_0,c200]
          refine Zbn (by simp [-Zb,Za,bV,c145,c150,c166,c167,c175,u198_0,c200]) ?_;refine Zd rfl (by simp [-Zb,Za,c145,c150,c166,c167,c175,u198_0,c200]; rfl) ?_;obtain ⟨y201,hy201,hk174⟩:=bs hk174;have ehy201:=X6 hy201;simp only [XS,Zah,nf,nfs] at ehy201;try simp only [Za] at ehy201
          obtain ⟨_,u202,hk174⟩:=bs hk174;have u202_0:=ZA u202;have ck203:=Z1 (k:=.u64) u202_0;try simp only [u198_0] at ck203
          refine Zd rfl (by simp [-Zb,Za,hO,hT164,ehy201,ck203,u202_0,c145,c150,c166,c167,c175,u198_0,c200]; rfl) ?_;refine Y4 rfl (by simp [-Zb,Za,c145,c150,c166,c167,c175,u198_0,c200,u202_0]; rfl) ?_;obtain rfl:=Option.some.inj hk174;simp only [pq,reduceCtorEq];simp [-Zb,Za,und,List.replicate,Nat.add_assoc,c145,c150,c166,c167,c175,u198_0,c200,u202_0]
         ·skip
          rw [if_neg] at hk174;rotate_left
          ·simp [-Zb,Za,c145,c150,c166,c167,c175,u198_0,c200]
          refine Zbo (by simp [-Zb,Za,bV,c145,c150,c166,c167,c175,u198_0,c200]) ?_;refine Zd rfl (by simp [-Zb,Za,c145,c150,c166,c167,c175,u198_0,c200]; rfl) ?_;obtain ⟨y204,hy204,hk174⟩:=bs hk174;have ehy204:=X6 hy204;simp only [XS,Zah,nf,nfs] at ehy204;try simp only [Za] at ehy204
          obtain ⟨_,u205,hk174⟩:=bs hk174;have u205_0:=ZA u205;have ck206:=Z1 (k:=.u64) u205_0;try simp only [u198_0] at ck206
          refine Zd rfl (by simp [-Zb,Za,hO,hT164,ehy204,ck206,u205_0,c145,c150,c166,c167,c175,u198_0,c200]; rfl) ?_;refine Y4 rfl (by simp [-Zb,Za,c145,c150,c166,c167,c175,u198_0,c200,u205_0]; rfl) ?_;obtain rfl:=Option.some.inj hk174;simp only [pq,reduceCtorEq];simp [-Zb,Za,und,List.replicate,Nat.add_assoc,c145,c150,c166,c167,c175,u198_0,c200,u205_0]
       ·skip
        intro J174;by_cases c207 : p119 = 1
        ·skip
         rw [if_pos] at hk165;rotate_left
         ·simp [-Zb,Za,c145,c150,c166,c167,eq_true c207]
         refine ZB (by simp [-Zb,Za,bV,c145,c150,c166,c167,eq_true c207]) ?_;refine Zy ?_;obtain ⟨y208,hy208,hk165⟩:=bs hk165;have ehy208:=Zoh hy208;simp only [K206_5,nf,nfs] at ehy208;try simp only [Za] at ehy208
         obtain ⟨_,u209,hk165⟩:=bs hk165;have u209_0:=ZA u209;have ck210:=Z1 (k:=.u64) u209_0;refine Zd rfl (by simp [-Zb,Za,hO,hT206,ehy208,ck210,u209_0,c145,c150,c166,c167,eq_true c207]; rfl) ?_;by_cases c211 : y208.1 = true
         ·skip
          rw [if_pos c211] at hk165;refine ZB (by simp [-Zb,Za,bV,c145,c150,c166,c167,eq_true c207,u209_0,c211]) ?_;refine ZaD ?_;obtain ⟨_,u212,hk165⟩:=bs hk165;have u212_0:=ZA u212;try simp only [u209_0] at u212_0
          obtain rfl:=Option.some.inj hk165;simp only [pq,reduceCtorEq];rintro rfl
          simp [-Zb,Za,Zaj,hO,hT206,ehy208,ck210,u209_0,u212_0,c145,c150,c166,c167,eq_true c207,c211]
         ·skip
          rw [if_neg c211] at hk165;refine Zl (by simp [-Zb,Za,bV,c145,c150,c166,c167,eq_true c207,u209_0,c211]) ?_;refine Zz ?_;exact Y7 (key:=1000017) (kq:=⟨[0,1,2,3,8,9,10,11],[1000000],[]⟩) rfl rfl rfl (by simp [-Zb,Za,und,List.replicate,c145,c150,c166,c167,eq_true c207,u209_0,c211]) (J174 y208.2 hk165)
        ·skip
         rw [if_neg] at hk165;rotate_left
         ·simp [-Zb,Za,c145,c150,c166,c167,c207]
         refine Zl (by simp [-Zb,Za,bV,c145,c150,c166,c167,c207]) ?_;refine Zz ?_;exact Y7 (key:=1000017) (kq:=⟨[0,1,2,3,8,9,10,11],[1000000],[]⟩) rfl rfl rfl (by simp [-Zb,Za,und,List.replicate,c145,c150,c166,c167,c207]) (J174 p120 hk165)
      ·skip
       refine Y5 rfl (kq:=⟨[0,1,2,3,8,9,10,11,12],[1000000],[]⟩) rfl (by simp [-Zb,Za,Yk,c145,c150,c166,c167]; rfl) (by simp [-Zb,Za,c145,c150,c166,c167]; rfl) ?_;rw [if_neg] at hk165;rotate_left
       ·simp [-Zb,Za,c145,c150,c166,c167]
       refine Zl (by simp [-Zb,Za,bV,c145,c150,c166,c167]) ?_;refine Zz ?_;unfold Zr at hk165;refine Zy ?_;by_cases c213 : 0 < p101
       ·skip
        rw [if_pos] at hk165;rotate_left
        ·simp [-Zb,Za,c145,c150,c166,c167,c213]
        obtain ⟨z214,hz214,hk165⟩:=bs hk165;obtain ⟨j215,hj215,hz214⟩:=bs hz214;obtain ⟨j215a,j215b,j215c⟩:=Zn hj215;obtain ⟨x216,hx216,hz214⟩:=bs hz214;have ghx216:=Zj hx216;obtain ⟨j217,hj217,hz214⟩:=bs hz214;obtain ⟨j217a,j217b,j217c⟩:=Zn hj217;obtain ⟨x218,hx218,hz214⟩:=bs hz214;have ghx218:=Zj hx218;obtain ⟨y219,hy219,hz214⟩:=bs hz214;have ehy219:=Zag hy219;simp only [K156,nf,nfs] at ehy219;try simp only [Za] at ehy219
        obtain rfl:=Option.some.inj hz214;refine ZaH rfl (kq:=⟨[0,1,2,3,8,9,10,11],[1000000],[]⟩) rfl (by simp [-Zb,Za,Yk,j215a,j215b,j215c,hx216,ghx216,j217a,j217b,j217c,hx218,ghx218,hO,hT156,ehy219,c145,c150,c166,c167,c213]; rfl) (by simp [-Zb,Za,j215a,j215b,j215c,hx216,ghx216,j217a,j217b,j217c,hx218,ghx218,hO,hT156,ehy219,c145,c150,c166,c167,c213]; first | exact ⟨rfl,rfl⟩ | rfl) (by kernel_rfl) ?_;by_cases c220 : y219 = true
        ·skip
         rw [if_neg] at hk165;rotate_left
         ·simp [-Zb,Za,c145,c150,c166,c167,c213,c220]
         refine Zl (by simp [-Zb,Za,bV,c145,c150,c166,c167,c213,c220]) ?_;refine Zz ?_;obtain ⟨y221,hy221,hk165⟩:=bs hk165;have ehy221:=Zea hy221;simp only [ZbW,Zc3,nf,nfs] at ehy221;try simp only [Za] at ehy221
         obtain ⟨_,u222,hk165⟩:=bs hk165;have u222_0:=ZA u222;have ck223:=Z1 (k:=.u64) u222_0;refine Zd rfl (by simp [-Zb,Za,hO,hT208,ehy221,ck223,u222_0,c145,c150,c166,c167,c213,c220]; rfl) ?_;refine Zd rfl (by simp [-Zb,Za,c145,c150,c166,c167,c213,c220,u222_0]; rfl) ?_;refine Zd rfl (by simp [-Zb,Za,c145,c150,c166,c167,c213,c220,u222_0]; rfl) ?_;refine Zd rfl (by simp [-Zb,Za,c145,c150,c166,c167,c213,c220,u222_0]; rfl) ?_;refine Zd rfl (by simp [-Zb,Za,c145,c150,c166,c167,c213,c220,u222_0]; rfl) ?_;by_cases c224 : IntKind.i64.wrap (y221.1 - p101) < IntKind.i64.wrap (p102 - y221.1)
         ·skip
          rw [if_pos] at hk165;rotate_left
          ·simp [-Zb,Za,c145,c150,c166,c167,c213,c220,u222_0,c224]
          refine Zbn (by simp [-Zb,Za,bV,c145,c150,c166,c167,c213,c220,u222_0,c224]) ?_;refine Zd rfl (by simp [-Zb,Za,c145,c150,c166,c167,c213,c220,u222_0,c224]; rfl) ?_;obtain ⟨y225,hy225,hk165⟩:=bs hk165;have ehy225:=X6 hy225;simp only [XS,Zah,nf,nfs] at ehy225;try simp only [Za] at ehy225
          obtain ⟨_,u226,hk165⟩:=bs hk165;have u226_0:=ZA u226;have ck227:=Z1 (k:=.u64) u226_0;try simp only [u222_0] at ck227
          refine Zd rfl (by simp [-Zb,Za,hO,hT164,ehy225,ck227,u226_0,c145,c150,c166,c167,c213,c220,u222_0,c224]; rfl) ?_;refine Y4 rfl (by simp [-Zb,Za,c145,c150,c166,c167,c213,c220,u222_0,c224,u226_0]; rfl) ?_;obtain rfl:=Option.some.inj hk165;simp only [pq,reduceCtorEq];simp [-Zb,Za,und,List.replicate,Nat.add_assoc,c145,c150,c166,c167,c213,c220,u222_0,c224,u226_0]
         ·skip
          rw [if_neg] at hk165;rotate_left
          ·simp [-Zb,Za,c145,c150,c166,c167,c213,c220,u222_0,c224]
          refine Zbo (by simp [-Zb,Za,bV,c145,c150,c166,c167,c213,c220,u222_0,c224]) ?_;refine Zd rfl (by simp [-Zb,Za,c145,c150,c166,c167,c213,c220,u222_0,c224]; rfl) ?_;obtain ⟨y228,hy228,hk165⟩:=bs hk165;have ehy228:=X6 hy228;simp only [XS,Zah,nf,nfs] at ehy228;try simp only [Za] at ehy228
          obtain ⟨_,u229,hk165⟩:=bs hk165;have u229_0:=ZA u229;have ck230:=Z1 (k:=.u64) u229_0;try simp only [u222_0] at ck230
          refine Zd rfl (by simp [-Zb,Za,hO,hT164,ehy228,ck230,u229_0,c145,c150,c166,c167,c213,c220,u222_0,c224]; rfl) ?_;refine Y4 rfl (by simp [-Zb,Za,c145,c150,c166,c167,c213,c220,u222_0,c224,u229_0]; rfl) ?_;obtain rfl:=Option.some.inj hk165;simp only [pq,reduceCtorEq];simp [-Zb,Za,und,List.replicate,Nat.add_assoc,c145,c150,c166,c167,c213,c220,u222_0,c224,u229_0]
        ·skip
         rw [if_pos] at hk165;rotate_left
         ·simp [-Zb,Za,c145,c150,c166,c167,c213,c220]
         refine ZB (by simp [-Zb,Za,bV,c145,c150,c166,c167,c213,c220]) ?_;refine Zy ?_;obtain ⟨y231,hy231,hk165⟩:=bs hk165;have ehy231:=ZhI hy231;simp only [Zc2,Ze0,nf,nfs] at ehy231;try simp only [Za] at ehy231
         obtain ⟨_,u232,hk165⟩:=bs hk165;have u232_0:=ZA u232;have ck233:=Z1 (k:=.u64) u232_0;refine Zd rfl (by simp [-Zb,Za,hO,hT207,ehy231,ck233,u232_0,c145,c150,c166,c167,c213,c220]; rfl) ?_;refine Zy ?_;refine Zd rfl (by simp [-Zb,Za,c145,c150,c166,c167,c213,c220,u232_0]; rfl) ?_;refine Z0 ?_;obtain rfl:=Option.some.inj hk165;simp only [pq,reduceCtorEq];simp [-Zb,Za,und,List.replicate,Nat.add_assoc,c145,c150,c166,c167,c213,c220,u232_0]
       ·skip
        rw [if_neg] at hk165;rotate_left
        ·simp [-Zb,Za,c145,c150,c166,c167,c213]
        obtain ⟨z234,hz234,hk165⟩:=bs hk165;obtain rfl:=Option.some.inj hz234;refine ZaH rfl (kq:=⟨[0,1,2,3,8,9,10,11],[1000000],[]⟩) rfl (by simp [-Zb,Za,Yk,c145,c150,c166,c167,c213]; rfl) (by simp [-Zb,Za,c145,c150,c166,c167,c213]; first | exact ⟨rfl,rfl⟩ | rfl) (by kernel_rfl) ?_;rw [if_neg] at hk165;rotate_left
        ·simp [-Zb,Za,c145,c150,c166,c167,c213]
        refine Zl (by simp [-Zb,Za,bV,c145,c150,c166,c167,c213]) ?_;refine Zz ?_;obtain ⟨y235,hy235,hk165⟩:=bs hk165;have ehy235:=Zea hy235;simp only [ZbW,Zc3,nf,nfs] at ehy235;try simp only [Za] at ehy235
        obtain ⟨_,u236,hk165⟩:=bs hk165;have u236_0:=ZA u236;have ck237:=Z1 (k:=.u64) u236_0;refine Zd rfl (by simp [-Zb,Za,hO,hT208,ehy235,ck237,u236_0,c145,c150,c166,c167,c213]; rfl) ?_;refine Zd rfl (by simp [-Zb,Za,c145,c150,c166,c167,c213,u236_0]; rfl) ?_;refine Zd rfl (by simp [-Zb,Za,c145,c150,c166,c167,c213,u236_0]; rfl) ?_;refine Zd rfl (by simp [-Zb,Za,c145,c150,c166,c167,c213,u236_0]; rfl) ?_;refine Zd rfl (by simp [-Zb,Za,c145,c150,c166,c167,c213,u236_0]; rfl) ?_;by_cases c238 : IntKind.i64.wrap (y235.1 - p101) < IntKind.i64.wrap (p102 - y235.1)
        ·skip
         rw [if_pos] at hk165;rotate_left
         ·simp [-Zb,Za,c145,c150,c166,c167,c213,u236_0,c238]
         refine Zbn (by simp [-Zb,Za,bV,c145,c150,c166,c167,c213,u236_0,c238]) ?_;refine Zd rfl (by simp [-Zb,Za,c145,c150,c166,c167,c213,u236_0,c238]; rfl) ?_;obtain ⟨y239,hy239,hk165⟩:=bs hk165;have ehy239:=X6 hy239;simp only [XS,Zah,nf,nfs] at ehy239;try simp only [Za] at ehy239
         obtain ⟨_,u240,hk165⟩:=bs hk165;have u240_0:=ZA u240;have ck241:=Z1 (k:=.u64) u240_0;try simp only [u236_0] at ck241
         refine Zd rfl (by simp [-Zb,Za,hO,hT164,ehy239,ck241,u240_0,c145,c150,c166,c167,c213,u236_0,c238]; rfl) ?_;refine Y4 rfl (by simp [-Zb,Za,c145,c150,c166,c167,c213,u236_0,c238,u240_0]; rfl) ?_;obtain rfl:=Option.some.inj hk165;simp only [pq,reduceCtorEq];simp [-Zb,Za,und,List.replicate,Nat.add_assoc,c145,c150,c166,c167,c213,u236_0,c238,u240_0]
        ·skip
         rw [if_neg] at hk165;rotate_left
         ·simp [-Zb,Za,c145,c150,c166,c167,c213,u236_0,c238]
         refine Zbo (by simp [-Zb,Za,bV,c145,c150,c166,c167,c213,u236_0,c238]) ?_;refine Zd rfl (by simp [-Zb,Za,c145,c150,c166,c167,c213,u236_0,c238]; rfl) ?_;obtain ⟨y242,hy242,hk165⟩:=bs hk165;have ehy242:=X6 hy242;simp only [XS,Zah,nf,nfs] at ehy242;try simp only [Za] at ehy242
         obtain ⟨_,u243,hk165⟩:=bs hk165;have u243_0:=ZA u243;have ck244:=Z1 (k:=.u64) u243_0;try simp only [u236_0] at ck244
         refine Zd rfl (by simp [-Zb,Za,hO,hT164,ehy242,ck244,u243_0,c145,c150,c166,c167,c213,u236_0,c238]; rfl) ?_;refine Y4 rfl (by simp [-Zb,Za,c145,c150,c166,c167,c213,u236_0,c238,u243_0]; rfl) ?_;obtain rfl:=Option.some.inj hk165;simp only [pq,reduceCtorEq];simp [-Zb,Za,und,List.replicate,Nat.add_assoc,c145,c150,c166,c167,c213,u236_0,c238,u243_0]
     ·skip
      refine Y5 rfl (kq:=⟨[0,1,2,3,8,9,10,11,12],[1000000],[]⟩) rfl (by simp [-Zb,Za,Yk,c145,c150,c166]; rfl) (by simp [-Zb,Za,c145,c150,c166]; rfl) ?_;rw [if_neg] at hk165;rotate_left
      ·simp [-Zb,Za,c145,c150,c166]
      refine Zl (by simp [-Zb,Za,bV,c145,c150,c166]) ?_;refine Zz ?_;unfold Zr at hk165;refine Zy ?_;by_cases c245 : 0 < p101
      ·skip
       rw [if_pos] at hk165;rotate_left
       ·simp [-Zb,Za,c145,c150,c166,c245]
       obtain ⟨z246,hz246,hk165⟩:=bs hk165;obtain ⟨j247,hj247,hz246⟩:=bs hz246;obtain ⟨j247a,j247b,j247c⟩:=Zn hj247;obtain ⟨x248,hx248,hz246⟩:=bs hz246;have ghx248:=Zj hx248;obtain ⟨j249,hj249,hz246⟩:=bs hz246;obtain ⟨j249a,j249b,j249c⟩:=Zn hj249;obtain ⟨x250,hx250,hz246⟩:=bs hz246;have ghx250:=Zj hx250;obtain ⟨y251,hy251,hz246⟩:=bs hz246;have ehy251:=Zag hy251;simp only [K156,nf,nfs] at ehy251;try simp only [Za] at ehy251
       obtain rfl:=Option.some.inj hz246;refine ZaH rfl (kq:=⟨[0,1,2,3,8,9,10,11],[1000000],[]⟩) rfl (by simp [-Zb,Za,Yk,j247a,j247b,j247c,hx248,ghx248,j249a,j249b,j249c,hx250,ghx250,hO,hT156,ehy251,c145,c150,c166,c245]; rfl) (by simp [-Zb,Za,j247a,j247b,j247c,hx248,ghx248,j249a,j249b,j249c,hx250,ghx250,hO,hT156,ehy251,c145,c150,c166,c245]; first | exact ⟨rfl,rfl⟩ | rfl) (by kernel_rfl) ?_;by_cases c252 : y251 = true
       ·skip
        rw [if_neg] at hk165;rotate_left
        ·simp [-Zb,Za,c145,c150,c166,c245,c252]
        refine Zl (by simp [-Zb,Za,bV,c145,c150,c166,c245,c252]) ?_;refine Zz ?_;obtain ⟨y253,hy253,hk165⟩:=bs hk165;have ehy253:=Zea hy253;simp only [ZbW,Zc3,nf,nfs] at ehy253;try simp only [Za] at ehy253
        obtain ⟨_,u254,hk165⟩:=bs hk165;have u254_0:=ZA u254;have ck255:=Z1 (k:=.u64) u254_0;refine Zd rfl (by simp [-Zb,Za,hO,hT208,ehy253,ck255,u254_0,c145,c150,c166,c245,c252]; rfl) ?_;refine Zd rfl (by simp [-Zb,Za,c145,c150,c166,c245,c252,u254_0]; rfl) ?_;refine Zd rfl (by simp [-Zb,Za,c145,c150,c166,c245,c252,u254_0]; rfl) ?_;refine Zd rfl (by simp [-Zb,Za,c145,c150,c166,c245,c252,u254_0]; rfl) ?_;refine Zd rfl (by simp [-Zb,Za,c145,c150,c166,c245,c252,u254_0]; rfl) ?_;by_cases c256 : IntKind.i64.wrap (y253.1 - p101) < IntKind.i64.wrap (p102 - y253.1)
        ·skip
         rw [if_pos] at hk165;rotate_left
         ·simp [-Zb,Za,c145,c150,c166,c245,c252,u254_0,c256]
         refine Zbn (by simp [-Zb,Za,bV,c145,c150,c166,c245,c252,u254_0,c256]) ?_;refine Zd rfl (by simp [-Zb,Za,c145,c150,c166,c245,c252,u254_0,c256]; rfl) ?_;obtain ⟨y257,hy257,hk165⟩:=bs hk165;have ehy257:=X6 hy257;simp only [XS,Zah,nf,nfs] at ehy257;try simp only [Za] at ehy257
         obtain ⟨_,u258,hk165⟩:=bs hk165;have u258_0:=ZA u258;have ck259:=Z1 (k:=.u64) u258_0;try simp only [u254_0] at ck259
         refine Zd rfl (by simp [-Zb,Za,hO,hT164,ehy257,ck259,u258_0,c145,c150,c166,c245,c252,u254_0,c256]; rfl) ?_;refine Y4 rfl (by simp [-Zb,Za,c145,c150,c166,c245,c252,u254_0,c256,u258_0]; rfl) ?_;obtain rfl:=Option.some.inj hk165;simp only [pq,reduceCtorEq];simp [-Zb,Za,und,List.replicate,Nat.add_assoc,c145,c150,c166,c245,c252,u254_0,c256,u258_0]
        ·skip
         rw [if_neg] at hk165;rotate_left
         ·simp [-Zb,Za,c145,c150,c166,c245,c252,u254_0,c256]
         refine Zbo (by simp [-Zb,Za,bV,c145,c150,c166,c245,c252,u254_0,c256]) ?_;refine Zd rfl (by simp [-Zb,Za,c145,c150,c166,c245,c252,u254_0,c256]; rfl) ?_;obtain ⟨y260,hy260,hk165⟩:=bs hk165;have ehy260:=X6 hy260;simp only [XS,Zah,nf,nfs] at ehy260;try simp only [Za] at ehy260
         obtain ⟨_,u261,hk165⟩:=bs hk165;have u261_0:=ZA u261;have ck262:=Z1 (k:=.u64) u261_0;try simp only [u254_0] at ck262
         refine Zd rfl (by simp [-Zb,Za,hO,hT164,ehy260,ck262,u261_0,c145,c150,c166,c245,c252,u254_0,c256]; rfl) ?_;refine Y4 rfl (by simp [-Zb,Za,c145,c150,c166,c245,c252,u254_0,c256,u261_0]; rfl) ?_;obtain rfl:=Option.some.inj hk165;simp only [pq,reduceCtorEq];simp [-Zb,Za,und,List.replicate,Nat.add_assoc,c145,c150,c166,c245,c252,u254_0,c256,u261_0]
       ·skip
        rw [if_pos] at hk165;rotate_left
        ·simp [-Zb,Za,c145,c150,c166,c245,c252]
        refine ZB (by simp [-Zb,Za,bV,c145,c150,c166,c245,c252]) ?_;refine Zy ?_;obtain ⟨y263,hy263,hk165⟩:=bs hk165;have ehy263:=ZhI hy263;simp only [Zc2,Ze0,nf,nfs] at ehy263;try simp only [Za] at ehy263
        obtain ⟨_,u264,hk165⟩:=bs hk165;have u264_0:=ZA u264;have ck265:=Z1 (k:=.u64) u264_0;refine Zd rfl (by simp [-Zb,Za,hO,hT207,ehy263,ck265,u264_0,c145,c150,c166,c245,c252]; rfl) ?_;refine Zy ?_;refine Zd rfl (by simp [-Zb,Za,c145,c150,c166,c245,c252,u264_0]; rfl) ?_;refine Z0 ?_;obtain rfl:=Option.some.inj hk165;simp only [pq,reduceCtorEq];simp [-Zb,Za,und,List.replicate,Nat.add_assoc,c145,c150,c166,c245,c252,u264_0]
      ·skip
       rw [if_neg] at hk165;rotate_left
       ·simp [-Zb,Za,c145,c150,c166,c245]
       obtain ⟨z266,hz266,hk165⟩:=bs hk165;obtain rfl:=Option.some.inj hz266;refine ZaH rfl (kq:=⟨[0,1,2,3,8,9,10,11],[1000000],[]⟩) rfl (by simp [-Zb,Za,Yk,c145,c150,c166,c245]; rfl) (by simp [-Zb,Za,c145,c150,c166,c245]; first | exact ⟨rfl,rfl⟩ | rfl) (by kernel_rfl) ?_;rw [if_neg] at hk165;rotate_left
       ·simp [-Zb,Za,c145,c150,c166,c245]
       refine Zl (by simp [-Zb,Za,bV,c145,c150,c166,c245]) ?_;refine Zz ?_;obtain ⟨y267,hy267,hk165⟩:=bs hk165;have ehy267:=Zea hy267;simp only [ZbW,Zc3,nf,nfs] at ehy267;try simp only [Za] at ehy267
       obtain ⟨_,u268,hk165⟩:=bs hk165;have u268_0:=ZA u268;have ck269:=Z1 (k:=.u64) u268_0;refine Zd rfl (by simp [-Zb,Za,hO,hT208,ehy267,ck269,u268_0,c145,c150,c166,c245]; rfl) ?_;refine Zd rfl (by simp [-Zb,Za,c145,c150,c166,c245,u268_0]; rfl) ?_;refine Zd rfl (by simp [-Zb,Za,c145,c150,c166,c245,u268_0]; rfl) ?_;refine Zd rfl (by simp [-Zb,Za,c145,c150,c166,c245,u268_0]; rfl) ?_;refine Zd rfl (by simp [-Zb,Za,c145,c150,c166,c245,u268_0]; rfl) ?_;by_cases c270 : IntKind.i64.wrap (y267.1 - p101) < IntKind.i64.wrap (p102 - y267.1)
       ·skip
        rw [if_pos] at hk165;rotate_left
        ·simp [-Zb,Za,c145,c150,c166,c245,u268_0,c270]
        refine Zbn (by simp [-Zb,Za,bV,c145,c150,c166,c245,u268_0,c270]) ?_;refine Zd rfl (by simp [-Zb,Za,c145,c150,c166,c245,u268_0,c270]; rfl) ?_;obtain ⟨y271,hy271,hk165⟩:=bs hk165;have ehy271:=X6 hy271;simp only [XS,Zah,nf,nfs] at ehy271;try simp only [Za] at ehy271
        obtain ⟨_,u272,hk165⟩:=bs hk165;have u272_0:=ZA u272;have ck273:=Z1 (k:=.u64) u272_0;try simp only [u268_0] at ck273
        refine Zd rfl (by simp [-Zb,Za,hO,hT164,ehy271,ck273,u272_0,c145,c150,c166,c245,u268_0,c270]; rfl) ?_;refine Y4 rfl (by simp [-Zb,Za,c145,c150,c166,c245,u268_0,c270,u272_0]; rfl) ?_;obtain rfl:=Option.some.inj hk165;simp only [pq,reduceCtorEq];simp [-Zb,Za,und,List.replicate,Nat.add_assoc,c145,c150,c166,c245,u268_0,c270,u272_0]
       ·skip
        rw [if_neg] at hk165;rotate_left
        ·simp [-Zb,Za,c145,c150,c166,c245,u268_0,c270]
        refine Zbo (by simp [-Zb,Za,bV,c145,c150,c166,c245,u268_0,c270]) ?_;refine Zd rfl (by simp [-Zb,Za,c145,c150,c166,c245,u268_0,c270]; rfl) ?_;obtain ⟨y274,hy274,hk165⟩:=bs hk165;have ehy274:=X6 hy274;simp only [XS,Zah,nf,nfs] at ehy274;try simp only [Za] at ehy274
        obtain ⟨_,u275,hk165⟩:=bs hk165;have u275_0:=ZA u275;have ck276:=Z1 (k:=.u64) u275_0;try simp only [u268_0] at ck276
        refine Zd rfl (by simp [-Zb,Za,hO,hT164,ehy274,ck276,u275_0,c145,c150,c166,c245,u268_0,c270]; rfl) ?_;refine Y4 rfl (by simp [-Zb,Za,c145,c150,c166,c245,u268_0,c270,u275_0]; rfl) ?_;obtain rfl:=Option.some.inj hk165;simp only [pq,reduceCtorEq];simp [-Zb,Za,und,List.replicate,Nat.add_assoc,c145,c150,c166,c245,u268_0,c270,u275_0]
    ·skip
     intro J165;by_cases c277 : y160.2 = 2
     ·skip
      rw [if_pos c277] at hk159;refine ZB (by simp [-Zb,Za,bV,c145,c150,eq_true c277]) ?_;refine Zy ?_;obtain ⟨y278,hy278,hk159⟩:=bs hk159;have ehy278:=Zog hy278;simp only [K205_4,nf,nfs] at ehy278;try simp only [Za] at ehy278
      obtain ⟨_,u279,hk159⟩:=bs hk159;have u279_0:=ZA u279;have ck280:=Z1 (k:=.u64) u279_0;refine Zd rfl (by simp [-Zb,Za,hO,hT205,ehy278,ck280,u279_0,c145,c150,eq_true c277]; rfl) ?_;refine Zy ?_;refine Zd rfl (by simp [-Zb,Za,c145,c150,eq_true c277,u279_0]; rfl) ?_;refine Zd rfl (by simp [-Zb,Za,c145,c150,eq_true c277,u279_0]; rfl) ?_;exact Y7 (key:=1000015) (kq:=⟨[0,1,2,3,8,9,10,11,12],[1000000],[]⟩) rfl rfl rfl (by simp [-Zb,Za,und,List.replicate,c145,c150,eq_true c277,u279_0]) (J165 (IntKind.i64.wrap ((IntKind.i64.wrap (p102 - 1)) - (IntKind.i64.wrap (y160.1 - p101))),1,y278) hk159)
     ·skip
      rw [if_neg c277] at hk159;refine Zl (by simp [-Zb,Za,bV,c145,c150,c277]) ?_;refine Zz ?_;exact Y7 (key:=1000015) (kq:=⟨[0,1,2,3,8,9,10,11,12],[1000000],[]⟩) rfl rfl rfl (by simp [-Zb,Za,und,List.replicate,c145,c150,c277]) (J165 (y160.1,y160.2,p114) hk159)
   ·skip
    intro J159;by_cases c281 : p104 = true
    ·skip
     rw [if_neg] at hr144;rotate_left
     ·simp [-Zb,Za,c145,c150,c281]
     refine Zl (by simp [-Zb,Za,bV,c145,c150,c281]) ?_;refine Zz ?_;exact Y7 (key:=1000010) (kq:=⟨[0,1,2,3,8,9,10],[1000000],[]⟩) rfl rfl rfl (by simp [-Zb,Za,und,List.replicate,c145,c150,c281]) (J159 (p103,p106) hr144)
    ·skip
     rw [if_pos] at hr144;rotate_left
     ·simp [-Zb,Za,c145,c150,c281]
     refine ZB (by simp [-Zb,Za,bV,c145,c150,c281]) ?_;refine Zy ?_;obtain ⟨y282,hy282,hr144⟩:=bs hr144;have ehy282:=Zoi hy282;simp only [Zev,Zgw,nf,nfs] at ehy282;try simp only [Za] at ehy282
     obtain ⟨_,u283,hr144⟩:=bs hr144;have u283_0:=ZA u283;have ck284:=Z1 (k:=.u64) u283_0;refine Zd rfl (by simp [-Zb,Za,hO,hT203,ehy282,ck284,u283_0,c145,c150,c281]; rfl) ?_;refine Zd rfl (by simp [-Zb,Za,c145,c150,c281,u283_0]; rfl) ?_;exact Y7 (key:=1000010) (kq:=⟨[0,1,2,3,8,9,10],[1000000],[]⟩) rfl rfl rfl (by simp [-Zb,Za,und,List.replicate,c145,c150,c281,u283_0]) (J159 (IntKind.i64.wrap (p103 - 1),y282) hr144)
end Go.Proofs.YthpkpciceodioaaGreatDoor
