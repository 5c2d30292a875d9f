import Derived.Test.YthpkpciceodioaaGreatDoorLfK
import Derived.Test.YthpkpciceodioaaGreatDoorCode
import Derived.Test.YthpkpciceodioaaGreatDoorBl
namespace Go.Proofs.YthpkpciceodioaaGreatDoor
open Go.RowKit
open Go.Av
open Go.Lc
set_option maxRecDepth 100000
set_option linter.unusedSimpArgs false
set_option linter.unusedVariables false
set_option maxHeartbeats 4000000
def kp164_10:Keep:=fun i=>if i=2 then ⟨[0,1,2,3,8,9],[1000000],[]⟩ else if i=1000010 then ⟨[0,1,2,3,8,9,10],[1000000],[]⟩ else if i=1000015 then ⟨[0,1,2,3,8,9,10,11,12],[1000000],[]⟩ else if i=1000017 then ⟨[0,1,2,3,8,9,10,11],[1000000],[]⟩ else ⟨[],[],[]⟩
theorem Zue {T:Tab} (n:Nat) (hO:T.own=fun d=>if d=27 then [[1000001]] else if d=33 then [[1000001]] else if d=39 then [[1000001]] else if d=54 then [[1000001]] else if d=72 then [[1000001]] else if d=92 then [[1000001]] else if d=99 then [[1000001]] else if d=121 then [[1000001]] else if d=132 then [[1000001]] else []) (hT164:T 164=some (Zi9 n)) (hT156:T 156=some K156.G) (hT201:T 201=some G201_3) (hT202:T 202=some K202_5.G) (hT203:T 203=some G203_11) (hT204:T 204=some K204.G) (hT205:T 205=some K205_6.G) (hT206:T 206=some K206_7.G) (hT207:T 207=some G207_8) (hT208:T 208=some G208_9) (a0:(List Int)) (a1:Int) (a2:Int) (a3:Int) (x:(List Int)) (hr:Yu (Lslices_pdqsortOrdered_of_uint64_n n) a0 a1 a2 a3=some x):∃ kp fl n,Xj tt T G kp fl n Tryz.f164 (Xz (a0,a1,a2,a3))=some (XS (a0,a1,a2,a3) x):=by
 simp only [Xz,XS];refine fnE (kp:=kp164_10) (w:=false) body164 (by simp) ?_;unfold c164;rw [Tryz.ntmps164];unfold Yu at hr;refine Ze rfl (by simp [-Za]; rfl) ?_;refine Ze rfl (by simp [-Za]; rfl) ?_;refine XX ?_;refine XR (kq:=⟨[0,1,2,3,8,9],[1000000],[]⟩) (H:=fun (s:Int×Int×Int×Bool×Bool×(List Int))=>match s with | (p101,p102,p103,p104,p105,p106)=>(⟨([.one (.ms 1000000 0 0 (p106.length) 1),.one (.v (.int .i64 p101)),.one (.v (.int .i64 p102)),.one (.v (.int .i64 p103))]++(und 4++([.one (.v (.bool p104)),.one (.v (.bool p105))]++(und 124))):List PV),([(1000000,⟨0,1,Zd .u64 p106,false,true⟩)]:Boxes)⟩:ASt)) (by kernel_rfl) hr (by simp [-Za,und,List.replicate,]) ?_;rintro ⟨p101,p102,p103,p104,p105,p106⟩ x144r hr144
 simp only [ZH] at hr144;unfold b164_1;simp only [und,List.replicate,List.cons_append,List.nil_append];refine XX ?_;refine Ze rfl (by simp [-Za]; rfl) ?_;refine ZE ?_;refine Ze rfl (by simp [-Za]; rfl) ?_;by_cases c145:IntKind.i64.wrap (p102-p101)≤12
 ·skip
  rw [if_pos] at hr144;rotate_left
  ·simp [-Za,c145]
  refine ZK (by simp [-Za,bV,c145]) ?_;refine ZE ?_;obtain ⟨y146,hy146,hr144⟩:=bs hr144;have ehy146:=Zq1 hy146;simp only [ZfQ,Ziy] at ehy146;try simp only [Zj] at ehy146
  obtain ⟨_,u147,hr144⟩:=bs hr144;have u147_0:=ZC u147;have ck148:=Z5 (k:=.u64) u147_0;refine Ze rfl (by simp [-Za,hO,hT201,ehy146,ck148,u147_0,c145]; rfl) ?_;refine Zck ?_;obtain ⟨_,u149,hr144⟩:=bs hr144;have u149_0:=ZC u149;try simp only [u147_0] at u149_0
  obtain rfl:=Option.some.inj hr144;simp only [pq];rintro rfl
  simp [-Za,ZaN,u147_0,u149_0]
 ·skip
  rw [if_neg] at hr144;rotate_left
  ·simp [-Za,c145]
  refine Zn (by simp [-Za,bV,c145]) ?_;refine ZB ?_;refine ZE ?_;refine Ze rfl (by simp [-Za,c145]; rfl) ?_;by_cases c150:p103=0
  ·skip
   rw [if_pos] at hr144;rotate_left
   ·simp [-Za,eq_true c150]
   refine ZK (by simp [-Za,bV,eq_true c150]) ?_;refine ZE ?_;obtain ⟨y151,hy151,hr144⟩:=bs hr144;have ehy151:=Zq2 hy151;simp only [K202_5] at ehy151;try simp only [Zj] at ehy151
   obtain ⟨_,u152,hr144⟩:=bs hr144;have u152_0:=ZC u152;have ck153:=Z5 (k:=.u64) u152_0;refine Ze rfl (by simp [-Za,hO,hT202,ehy151,ck153,u152_0,eq_true c150]; rfl) ?_;refine Zck ?_;obtain ⟨_,u154,hr144⟩:=bs hr144;have u154_0:=ZC u154;try simp only [u152_0] at u154_0
   obtain rfl:=Option.some.inj hr144;simp only [pq];rintro rfl
   simp [-Za,ZaN,u152_0,u154_0]
  ·skip
   rw [if_neg] at hr144;rotate_left
   ·simp [-Za,c150]
   refine Zn (by simp [-Za,bV,c150]) ?_;refine ZB ?_;refine ZE ?_;refine Ze rfl (by simp [-Za,c150]; rfl) ?_;refine ZaU hr144 (fun (s:Int×(List Int))=>match s with | (p113,p114)=>(⟨([.one (.ms 1000000 0 0 (p114.length) 1),.one (.v (.int .i64 p101)),.one (.v (.int .i64 p102)),.one (.v (.int .i64 p113))]++(und 4++([.one (.v (.bool p104)),.one (.v (.bool p105)),.one (.v (.int .i64 (IntKind.i64.wrap (p102-p101))))]++(und 123))):List PV),([(1000000,⟨0,1,Zd .u64 p114,false,true⟩)]:Boxes)⟩:ASt)) (fun (s:Int×(List Int))=>match s with | (p113,p114)=>ZG p101 p102 p104 p105 a0 (Lslices_pdqsortOrdered_of_uint64_n n) p113 p114) ?_ ?_
   ·skip
    rintro ⟨p113,p114⟩ hk159
    change ZG p101 p102 p104 p105 a0 (Lslices_pdqsortOrdered_of_uint64_n n) p113 p114=_ at hk159
    simp only [und,List.replicate,List.cons_append,List.nil_append];unfold ZG at hk159;obtain ⟨y160,hy160,hk159⟩:=bs hk159;have ehy160:=ZtT hy160;simp only [K204] at ehy160;try simp only [Zj] at ehy160
    refine Xe rfl (kq:=⟨[0,1,2,3,8,9,10],[1000000],[]⟩) rfl (by simp [-Za,Yq]; rfl) (by simp [-Za,hO,hT204,ehy160]; rfl) ?_;refine ZE ?_;refine Ze rfl (by simp [-Za]; rfl) ?_;refine ZaU hk159 (fun (s:Int×Int×(List Int))=>match s with | (p118,p119,p120)=>(⟨([.one (.ms 1000000 0 0 (p120.length) 1),.one (.v (.int .i64 p101)),.one (.v (.int .i64 p102)),.one (.v (.int .i64 p113))]++(und 4++([.one (.v (.bool p104)),.one (.v (.bool p105)),.one (.v (.int .i64 (IntKind.i64.wrap (p102-p101)))),.one (.v (.int .i64 p118)),.one (.v (.int .i64 p119))]++(und 121))):List PV),([(1000000,⟨0,1,Zd .u64 p120,false,true⟩)]:Boxes)⟩:ASt)) (fun (s:Int×Int×(List Int))=>match s with | (p118,p119,p120)=>Zv p104 p105 p101 p102 a0 p113 (Lslices_pdqsortOrdered_of_uint64_n n) p118 p119 p120) ?_ ?_
    ·skip
     rintro ⟨p118,p119,p120⟩ hk165
     change Zv p104 p105 p101 p102 a0 p113 (Lslices_pdqsortOrdered_of_uint64_n n) p118 p119 p120=_ at hk165
     simp only [und,List.replicate,List.cons_append,List.nil_append];unfold Zv at hk165;refine ZE ?_;by_cases c166:p104=true
     ·skip
      by_cases c167:p105=true
      ·skip
       refine Xe rfl (kq:=⟨[0,1,2,3,8,9,10,11,12],[1000000],[]⟩) rfl (by simp [-Za,Yq,c166,c167]; rfl) (by simp [-Za]; rfl) ?_;refine ZaU hk165 (fun (s:(List Int))=>match s with | p123=>(⟨([.one (.ms 1000000 0 0 (p123.length) 1),.one (.v (.int .i64 p101)),.one (.v (.int .i64 p102)),.one (.v (.int .i64 p113))]++(und 4++([.one (.v (.bool p104)),.one (.v (.bool p105)),.one (.v (.int .i64 (IntKind.i64.wrap (p102-p101)))),.one (.v (.int .i64 p118))]++(und 122))):List PV),([(1000000,⟨0,1,Zd .u64 p123,false,true⟩)]:Boxes)⟩:ASt)) (fun (s:(List Int))=>match s with | p123=>Zu p101 p118 p102 p113 p104 p105 (Lslices_pdqsortOrdered_of_uint64_n n) p123) ?_ ?_
       ·skip
        rintro p123 hk174
        change Zu p101 p118 p102 p113 p104 p105 (Lslices_pdqsortOrdered_of_uint64_n n) p123=_ at hk174
        simp only [und,List.replicate,List.cons_append,List.nil_append];unfold Zu at hk174;refine ZE ?_;by_cases c175:0<p101
        ·skip
         rw [if_pos] at hk174;rotate_left
         ·simp [-Za,c175]
         obtain ⟨z176,hz176,hk174⟩:=bs hk174;obtain ⟨j177,hj177,hz176⟩:=bs hz176;obtain ⟨j177a,j177b,j177c⟩:=Zq hj177;obtain ⟨x178,hx178,hz176⟩:=bs hz176;have ghx178:=Zk hx178;obtain ⟨j179,hj179,hz176⟩:=bs hz176;obtain ⟨j179a,j179b,j179c⟩:=Zq hj179;obtain ⟨x180,hx180,hz176⟩:=bs hz176;have ghx180:=Zk hx180;obtain ⟨y181,hy181,hz176⟩:=bs hz176;have ehy181:=Zal hy181;simp only [K156] at ehy181;try simp only [Zj] at ehy181
         obtain rfl:=Option.some.inj hz176;refine Zbe rfl (kq:=⟨[0,1,2,3,8,9,10,11],[1000000],[]⟩) rfl (by simp [-Za,Yq,c166,c167]; rfl) (by simp [-Za,j177a,j177b,j177c,ghx178,j179a,j179b,j179c,ghx180,hO,hT156,ehy181,c175]; first | exact ⟨rfl,rfl⟩ | rfl) (by kernel_rfl) ?_;by_cases c182:y181=true
         ·skip
          rw [if_neg] at hk174;rotate_left
          ·simp [-Za,c175,c182]
          refine Zn (by simp [-Za,bV,c182]) ?_;refine ZB ?_;obtain ⟨y183,hy183,hk174⟩:=bs hk174;have ehy183:=Zfw hy183;simp only [Zcw,Zeb] at ehy183;try simp only [Zj] at ehy183
          obtain ⟨_,u184,hk174⟩:=bs hk174;have u184_0:=ZC u184;have ck185:=Z5 (k:=.u64) u184_0;refine Ze rfl (by simp [-Za,hO,hT208,ehy183,ck185,u184_0,c182]; rfl) ?_;refine Ze rfl (by simp [-Za]; rfl) ?_;refine Ze rfl (by simp [-Za]; rfl) ?_;refine Ze rfl (by simp [-Za]; rfl) ?_;refine Ze rfl (by simp [-Za]; rfl) ?_;by_cases c186:IntKind.i64.wrap (y183.1-p101)<IntKind.i64.wrap (p102-y183.1)
          ·skip
           rw [if_pos] at hk174;rotate_left
           ·simp [-Za,c186]
           refine Zcx (by simp [-Za,bV,c186]) ?_;refine Ze rfl (by simp [-Za,c186]; rfl) ?_;obtain ⟨y187,hy187,hk174⟩:=bs hk174;have ehy187:=X7 hy187;simp only [Xz,XS] at ehy187;try simp only [Zj] at ehy187
           obtain ⟨_,u188,hk174⟩:=bs hk174;have u188_0:=ZC u188;have ck189:=Z5 (k:=.u64) u188_0;try simp only [u184_0] at ck189
           refine Ze rfl (by simp [-Za,hO,hT164,ehy187,ck189,u188_0,u184_0]; rfl) ?_;refine Y8 rfl (by simp [-Za]; rfl) ?_;obtain rfl:=Option.some.inj hk174;simp only [pq];simp [-Za,u184_0,u188_0]
          ·skip
           rw [if_neg] at hk174;rotate_left
           ·simp [-Za,c186]
           refine Zcy (by simp [-Za,bV,c186]) ?_;refine Ze rfl (by simp [-Za,c186]; rfl) ?_;obtain ⟨y190,hy190,hk174⟩:=bs hk174;have ehy190:=X7 hy190;simp only [Xz,XS] at ehy190;try simp only [Zj] at ehy190
           obtain ⟨_,u191,hk174⟩:=bs hk174;have u191_0:=ZC u191;have ck192:=Z5 (k:=.u64) u191_0;try simp only [u184_0] at ck192
           refine Ze rfl (by simp [-Za,hO,hT164,ehy190,ck192,u191_0,u184_0]; rfl) ?_;refine Y8 rfl (by simp [-Za]; rfl) ?_;obtain rfl:=Option.some.inj hk174;simp only [pq];simp [-Za,u184_0,u191_0]
         ·skip
          rw [if_pos] at hk174;rotate_left
          ·simp [-Za,c175,c182]
          refine ZK (by simp [-Za,bV,c182]) ?_;refine ZE ?_;obtain ⟨y193,hy193,hk174⟩:=bs hk174;have ehy193:=ZjW hy193;simp only [Zea,ZgI] at ehy193;try simp only [Zj] at ehy193
          obtain ⟨_,u194,hk174⟩:=bs hk174;have u194_0:=ZC u194;have ck195:=Z5 (k:=.u64) u194_0;refine Ze rfl (by simp [-Za,hO,hT207,ehy193,ck195,u194_0,c182]; rfl) ?_;refine ZE ?_;refine Ze rfl (by simp [-Za]; rfl) ?_;refine Z4 ?_;obtain rfl:=Option.some.inj hk174;simp only [pq];simp [-Za,c166,c167,u194_0]
        ·skip
         rw [if_neg] at hk174;rotate_left
         ·simp [-Za,c175]
         obtain ⟨z196,hz196,hk174⟩:=bs hk174;obtain rfl:=Option.some.inj hz196;refine Zbe rfl (kq:=⟨[0,1,2,3,8,9,10,11],[1000000],[]⟩) rfl (by simp [-Za,Yq,c166,c167]; rfl) (by simp [-Za,c175]; first | exact ⟨rfl,rfl⟩ | rfl) (by kernel_rfl) ?_;rw [if_neg] at hk174;rotate_left
         ·simp [-Za,c175]
         refine Zn (by simp [-Za,bV]) ?_;refine ZB ?_;obtain ⟨y197,hy197,hk174⟩:=bs hk174;have ehy197:=Zfw hy197;simp only [Zcw,Zeb] at ehy197;try simp only [Zj] at ehy197
         obtain ⟨_,u198,hk174⟩:=bs hk174;have u198_0:=ZC u198;have ck199:=Z5 (k:=.u64) u198_0;refine Ze rfl (by simp [-Za,hO,hT208,ehy197,ck199,u198_0]; rfl) ?_;refine Ze rfl (by simp [-Za]; rfl) ?_;refine Ze rfl (by simp [-Za]; rfl) ?_;refine Ze rfl (by simp [-Za]; rfl) ?_;refine Ze rfl (by simp [-Za]; rfl) ?_;by_cases c200:IntKind.i64.wrap (y197.1-p101)<IntKind.i64.wrap (p102-y197.1)
         ·skip
          rw [if_pos] at hk174;rotate_left
          ·simp [-Za,c200]
          refine Zcx (by simp [-Za,bV,c200]) ?_;refine Ze rfl (by simp [-Za,c200]; rfl) ?_;obtain ⟨y201,hy201,hk174⟩:=bs hk174;have ehy201:=X7 hy201;simp only [Xz,XS] at ehy201;try simp only [Zj] at ehy201
          obtain ⟨_,u202,hk174⟩:=bs hk174;have u202_0:=ZC u202;have ck203:=Z5 (k:=.u64) u202_0;try simp only [u198_0] at ck203
          refine Ze rfl (by simp [-Za,hO,hT164,ehy201,ck203,u202_0,u198_0]; rfl) ?_;refine Y8 rfl (by simp [-Za]; rfl) ?_;obtain rfl:=Option.some.inj hk174;simp only [pq];simp [-Za,u198_0,u202_0]
         ·skip
          rw [if_neg] at hk174;rotate_left
          ·simp [-Za,c200]
          refine Zcy (by simp [-Za,bV,c200]) ?_;refine Ze rfl (by simp [-Za,c200]; rfl) ?_;obtain ⟨y204,hy204,hk174⟩:=bs hk174;have ehy204:=X7 hy204;simp only [Xz,XS] at ehy204;try simp only [Zj] at ehy204
          obtain ⟨_,u205,hk174⟩:=bs hk174;have u205_0:=ZC u205;have ck206:=Z5 (k:=.u64) u205_0;try simp only [u198_0] at ck206
          refine Ze rfl (by simp [-Za,hO,hT164,ehy204,ck206,u205_0,u198_0]; rfl) ?_;refine Y8 rfl (by simp [-Za]; rfl) ?_;obtain rfl:=Option.some.inj hk174;simp only [pq];simp [-Za,u198_0,u205_0]
       ·skip
        intro J174;by_cases c207:p119=1
        ·skip
         rw [if_pos] at hk165;rotate_left
         ·simp [-Za,c166,c167,eq_true c207]
         refine ZK (by simp [-Za,bV,eq_true c207]) ?_;refine ZE ?_;obtain ⟨y208,hy208,hk165⟩:=bs hk165;have ehy208:=Zq4 hy208;simp only [K206_7] at ehy208;try simp only [Zj] at ehy208
         obtain ⟨_,u209,hk165⟩:=bs hk165;have u209_0:=ZC u209;have ck210:=Z5 (k:=.u64) u209_0;refine Ze rfl (by simp [-Za,hO,hT206,ehy208,ck210,u209_0,eq_true c207]; rfl) ?_;by_cases c211:y208.1=true
         ·skip
          rw [if_pos c211] at hk165;refine ZK (by simp [-Za,bV,c211]) ?_;refine Zck ?_;obtain ⟨_,u212,hk165⟩:=bs hk165;have u212_0:=ZC u212;try simp only [u209_0] at u212_0
          obtain rfl:=Option.some.inj hk165;simp only [pq];rintro rfl
          simp [-Za,ZaN,u209_0,u212_0,c211]
         ·skip
          rw [if_neg c211] at hk165;refine Zn (by simp [-Za,bV,c211]) ?_;refine ZB ?_;exact Xh (key:=1000017) (kq:=⟨[0,1,2,3,8,9,10,11],[1000000],[]⟩) rfl rfl rfl (by simp [-Za,und,List.replicate,c166,c167,u209_0,c211]) (J174 y208.2 hk165)
        ·skip
         rw [if_neg] at hk165;rotate_left
         ·simp [-Za,c166,c167,c207]
         refine Zn (by simp [-Za,bV,c207]) ?_;refine ZB ?_;exact Xh (key:=1000017) (kq:=⟨[0,1,2,3,8,9,10,11],[1000000],[]⟩) rfl rfl rfl (by simp [-Za,und,List.replicate,c166,c167,c207]) (J174 p120 hk165)
      ·skip
       refine Xe rfl (kq:=⟨[0,1,2,3,8,9,10,11,12],[1000000],[]⟩) rfl (by simp [-Za,Yq,c166,c167]; rfl) (by simp [-Za]; rfl) ?_;rw [if_neg] at hk165;rotate_left
       ·simp [-Za,c166,c167]
       refine Zn (by simp [-Za,bV]) ?_;refine ZB ?_;unfold Zu at hk165;refine ZE ?_;by_cases c213:0<p101
       ·skip
        rw [if_pos] at hk165;rotate_left
        ·simp [-Za,c213]
        obtain ⟨z214,hz214,hk165⟩:=bs hk165;obtain ⟨j215,hj215,hz214⟩:=bs hz214;obtain ⟨j215a,j215b,j215c⟩:=Zq hj215;obtain ⟨x216,hx216,hz214⟩:=bs hz214;have ghx216:=Zk hx216;obtain ⟨j217,hj217,hz214⟩:=bs hz214;obtain ⟨j217a,j217b,j217c⟩:=Zq hj217;obtain ⟨x218,hx218,hz214⟩:=bs hz214;have ghx218:=Zk hx218;obtain ⟨y219,hy219,hz214⟩:=bs hz214;have ehy219:=Zal hy219;simp only [K156] at ehy219;try simp only [Zj] at ehy219
        obtain rfl:=Option.some.inj hz214;refine Zbe rfl (kq:=⟨[0,1,2,3,8,9,10,11],[1000000],[]⟩) rfl (by simp [-Za,Yq]; rfl) (by simp [-Za,j215a,j215b,j215c,ghx216,j217a,j217b,j217c,ghx218,hO,hT156,ehy219,c213]; first | exact ⟨rfl,rfl⟩ | rfl) (by kernel_rfl) ?_;by_cases c220:y219=true
        ·skip
         rw [if_neg] at hk165;rotate_left
         ·simp [-Za,c213,c220]
         refine Zn (by simp [-Za,bV,c220]) ?_;refine ZB ?_;obtain ⟨y221,hy221,hk165⟩:=bs hk165;have ehy221:=Zfw hy221;simp only [Zcw,Zeb] at ehy221;try simp only [Zj] at ehy221
         obtain ⟨_,u222,hk165⟩:=bs hk165;have u222_0:=ZC u222;have ck223:=Z5 (k:=.u64) u222_0;refine Ze rfl (by simp [-Za,hO,hT208,ehy221,ck223,u222_0,c220]; rfl) ?_;refine Ze rfl (by simp [-Za]; rfl) ?_;refine Ze rfl (by simp [-Za]; rfl) ?_;refine Ze rfl (by simp [-Za]; rfl) ?_;refine Ze rfl (by simp [-Za]; rfl) ?_;by_cases c224:IntKind.i64.wrap (y221.1-p101)<IntKind.i64.wrap (p102-y221.1)
         ·skip
          rw [if_pos] at hk165;rotate_left
          ·simp [-Za,c224]
          refine Zcx (by simp [-Za,bV,c224]) ?_;refine Ze rfl (by simp [-Za,c224]; rfl) ?_;obtain ⟨y225,hy225,hk165⟩:=bs hk165;have ehy225:=X7 hy225;simp only [Xz,XS] at ehy225;try simp only [Zj] at ehy225
          obtain ⟨_,u226,hk165⟩:=bs hk165;have u226_0:=ZC u226;have ck227:=Z5 (k:=.u64) u226_0;try simp only [u222_0] at ck227
          refine Ze rfl (by simp [-Za,hO,hT164,ehy225,ck227,u226_0,u222_0]; rfl) ?_;refine Y8 rfl (by simp [-Za]; rfl) ?_;obtain rfl:=Option.some.inj hk165;simp only [pq];simp [-Za,u222_0,u226_0]
         ·skip
          rw [if_neg] at hk165;rotate_left
          ·simp [-Za,c224]
          refine Zcy (by simp [-Za,bV,c224]) ?_;refine Ze rfl (by simp [-Za,c224]; rfl) ?_;obtain ⟨y228,hy228,hk165⟩:=bs hk165;have ehy228:=X7 hy228;simp only [Xz,XS] at ehy228;try simp only [Zj] at ehy228
          obtain ⟨_,u229,hk165⟩:=bs hk165;have u229_0:=ZC u229;have ck230:=Z5 (k:=.u64) u229_0;try simp only [u222_0] at ck230
          refine Ze rfl (by simp [-Za,hO,hT164,ehy228,ck230,u229_0,u222_0]; rfl) ?_;refine Y8 rfl (by simp [-Za]; rfl) ?_;obtain rfl:=Option.some.inj hk165;simp only [pq];simp [-Za,u222_0,u229_0]
        ·skip
         rw [if_pos] at hk165;rotate_left
         ·simp [-Za,c213,c220]
         refine ZK (by simp [-Za,bV,c220]) ?_;refine ZE ?_;obtain ⟨y231,hy231,hk165⟩:=bs hk165;have ehy231:=ZjW hy231;simp only [Zea,ZgI] at ehy231;try simp only [Zj] at ehy231
         obtain ⟨_,u232,hk165⟩:=bs hk165;have u232_0:=ZC u232;have ck233:=Z5 (k:=.u64) u232_0;refine Ze rfl (by simp [-Za,hO,hT207,ehy231,ck233,u232_0,c220]; rfl) ?_;refine ZE ?_;refine Ze rfl (by simp [-Za]; rfl) ?_;refine Z4 ?_;obtain rfl:=Option.some.inj hk165;simp only [pq];simp [-Za,c166,c167,u232_0]
       ·skip
        rw [if_neg] at hk165;rotate_left
        ·simp [-Za,c213]
        obtain ⟨z234,hz234,hk165⟩:=bs hk165;obtain rfl:=Option.some.inj hz234;refine Zbe rfl (kq:=⟨[0,1,2,3,8,9,10,11],[1000000],[]⟩) rfl (by simp [-Za,Yq]; rfl) (by simp [-Za,c213]; first | exact ⟨rfl,rfl⟩ | rfl) (by kernel_rfl) ?_;rw [if_neg] at hk165;rotate_left
        ·simp [-Za,c213]
        refine Zn (by simp [-Za,bV]) ?_;refine ZB ?_;obtain ⟨y235,hy235,hk165⟩:=bs hk165;have ehy235:=Zfw hy235;simp only [Zcw,Zeb] at ehy235;try simp only [Zj] at ehy235
        obtain ⟨_,u236,hk165⟩:=bs hk165;have u236_0:=ZC u236;have ck237:=Z5 (k:=.u64) u236_0;refine Ze rfl (by simp [-Za,hO,hT208,ehy235,ck237,u236_0]; rfl) ?_;refine Ze rfl (by simp [-Za]; rfl) ?_;refine Ze rfl (by simp [-Za]; rfl) ?_;refine Ze rfl (by simp [-Za]; rfl) ?_;refine Ze rfl (by simp [-Za]; rfl) ?_;by_cases c238:IntKind.i64.wrap (y235.1-p101)<IntKind.i64.wrap (p102-y235.1)
        ·skip
         rw [if_pos] at hk165;rotate_left
         ·simp [-Za,c238]
         refine Zcx (by simp [-Za,bV,c238]) ?_;refine Ze rfl (by simp [-Za,c238]; rfl) ?_;obtain ⟨y239,hy239,hk165⟩:=bs hk165;have ehy239:=X7 hy239;simp only [Xz,XS] at ehy239;try simp only [Zj] at ehy239
         obtain ⟨_,u240,hk165⟩:=bs hk165;have u240_0:=ZC u240;have ck241:=Z5 (k:=.u64) u240_0;try simp only [u236_0] at ck241
         refine Ze rfl (by simp [-Za,hO,hT164,ehy239,ck241,u240_0,u236_0]; rfl) ?_;refine Y8 rfl (by simp [-Za]; rfl) ?_;obtain rfl:=Option.some.inj hk165;simp only [pq];simp [-Za,u236_0,u240_0]
        ·skip
         rw [if_neg] at hk165;rotate_left
         ·simp [-Za,c238]
         refine Zcy (by simp [-Za,bV,c238]) ?_;refine Ze rfl (by simp [-Za,c238]; rfl) ?_;obtain ⟨y242,hy242,hk165⟩:=bs hk165;have ehy242:=X7 hy242;simp only [Xz,XS] at ehy242;try simp only [Zj] at ehy242
         obtain ⟨_,u243,hk165⟩:=bs hk165;have u243_0:=ZC u243;have ck244:=Z5 (k:=.u64) u243_0;try simp only [u236_0] at ck244
         refine Ze rfl (by simp [-Za,hO,hT164,ehy242,ck244,u243_0,u236_0]; rfl) ?_;refine Y8 rfl (by simp [-Za]; rfl) ?_;obtain rfl:=Option.some.inj hk165;simp only [pq];simp [-Za,u236_0,u243_0]
     ·skip
      refine Xe rfl (kq:=⟨[0,1,2,3,8,9,10,11,12],[1000000],[]⟩) rfl (by simp [-Za,Yq,c166]; rfl) (by simp [-Za]; rfl) ?_;rw [if_neg] at hk165;rotate_left
      ·simp [-Za,c166]
      refine Zn (by simp [-Za,bV]) ?_;refine ZB ?_;unfold Zu at hk165;refine ZE ?_;by_cases c245:0<p101
      ·skip
       rw [if_pos] at hk165;rotate_left
       ·simp [-Za,c245]
       obtain ⟨z246,hz246,hk165⟩:=bs hk165;obtain ⟨j247,hj247,hz246⟩:=bs hz246;obtain ⟨j247a,j247b,j247c⟩:=Zq hj247;obtain ⟨x248,hx248,hz246⟩:=bs hz246;have ghx248:=Zk hx248;obtain ⟨j249,hj249,hz246⟩:=bs hz246;obtain ⟨j249a,j249b,j249c⟩:=Zq hj249;obtain ⟨x250,hx250,hz246⟩:=bs hz246;have ghx250:=Zk hx250;obtain ⟨y251,hy251,hz246⟩:=bs hz246;have ehy251:=Zal hy251;simp only [K156] at ehy251;try simp only [Zj] at ehy251
       obtain rfl:=Option.some.inj hz246;refine Zbe rfl (kq:=⟨[0,1,2,3,8,9,10,11],[1000000],[]⟩) rfl (by simp [-Za,Yq]; rfl) (by simp [-Za,j247a,j247b,j247c,ghx248,j249a,j249b,j249c,ghx250,hO,hT156,ehy251,c245]; first | exact ⟨rfl,rfl⟩ | rfl) (by kernel_rfl) ?_;by_cases c252:y251=true
       ·skip
        rw [if_neg] at hk165;rotate_left
        ·simp [-Za,c245,c252]
        refine Zn (by simp [-Za,bV,c252]) ?_;refine ZB ?_;obtain ⟨y253,hy253,hk165⟩:=bs hk165;have ehy253:=Zfw hy253;simp only [Zcw,Zeb] at ehy253;try simp only [Zj] at ehy253
        obtain ⟨_,u254,hk165⟩:=bs hk165;have u254_0:=ZC u254;have ck255:=Z5 (k:=.u64) u254_0;refine Ze rfl (by simp [-Za,hO,hT208,ehy253,ck255,u254_0,c252]; rfl) ?_;refine Ze rfl (by simp [-Za]; rfl) ?_;refine Ze rfl (by simp [-Za]; rfl) ?_;refine Ze rfl (by simp [-Za]; rfl) ?_;refine Ze rfl (by simp [-Za]; rfl) ?_;by_cases c256:IntKind.i64.wrap (y253.1-p101)<IntKind.i64.wrap (p102-y253.1)
        ·skip
         rw [if_pos] at hk165;rotate_left
         ·simp [-Za,c256]
         refine Zcx (by simp [-Za,bV,c256]) ?_;refine Ze rfl (by simp [-Za,c256]; rfl) ?_;obtain ⟨y257,hy257,hk165⟩:=bs hk165;have ehy257:=X7 hy257;simp only [Xz,XS] at ehy257;try simp only [Zj] at ehy257
         obtain ⟨_,u258,hk165⟩:=bs hk165;have u258_0:=ZC u258;have ck259:=Z5 (k:=.u64) u258_0;try simp only [u254_0] at ck259
         refine Ze rfl (by simp [-Za,hO,hT164,ehy257,ck259,u258_0,u254_0]; rfl) ?_;refine Y8 rfl (by simp [-Za]; rfl) ?_;obtain rfl:=Option.some.inj hk165;simp only [pq];simp [-Za,u254_0,u258_0]
        ·skip
         rw [if_neg] at hk165;rotate_left
         ·simp [-Za,c256]
         refine Zcy (by simp [-Za,bV,c256]) ?_;refine Ze rfl (by simp [-Za,c256]; rfl) ?_;obtain ⟨y260,hy260,hk165⟩:=bs hk165;have ehy260:=X7 hy260;simp only [Xz,XS] at ehy260;try simp only [Zj] at ehy260
         obtain ⟨_,u261,hk165⟩:=bs hk165;have u261_0:=ZC u261;have ck262:=Z5 (k:=.u64) u261_0;try simp only [u254_0] at ck262
         refine Ze rfl (by simp [-Za,hO,hT164,ehy260,ck262,u261_0,u254_0]; rfl) ?_;refine Y8 rfl (by simp [-Za]; rfl) ?_;obtain rfl:=Option.some.inj hk165;simp only [pq];simp [-Za,u254_0,u261_0]
       ·skip
        rw [if_pos] at hk165;rotate_left
        ·simp [-Za,c245,c252]
        refine ZK (by simp [-Za,bV,c252]) ?_;refine ZE ?_;obtain ⟨y263,hy263,hk165⟩:=bs hk165;have ehy263:=ZjW hy263;simp only [Zea,ZgI] at ehy263;try simp only [Zj] at ehy263
        obtain ⟨_,u264,hk165⟩:=bs hk165;have u264_0:=ZC u264;have ck265:=Z5 (k:=.u64) u264_0;refine Ze rfl (by simp [-Za,hO,hT207,ehy263,ck265,u264_0,c252]; rfl) ?_;refine ZE ?_;refine Ze rfl (by simp [-Za]; rfl) ?_;refine Z4 ?_;obtain rfl:=Option.some.inj hk165;simp only [pq];simp [-Za,c166,u264_0]
      ·skip
       rw [if_neg] at hk165;rotate_left
       ·simp [-Za,c245]
       obtain ⟨z266,hz266,hk165⟩:=bs hk165;obtain rfl:=Option.some.inj hz266;refine Zbe rfl (kq:=⟨[0,1,2,3,8,9,10,11],[1000000],[]⟩) rfl (by simp [-Za,Yq]; rfl) (by simp [-Za,c245]; first | exact ⟨rfl,rfl⟩ | rfl) (by kernel_rfl) ?_;rw [if_neg] at hk165;rotate_left
       ·simp [-Za,c245]
       refine Zn (by simp [-Za,bV]) ?_;refine ZB ?_;obtain ⟨y267,hy267,hk165⟩:=bs hk165;have ehy267:=Zfw hy267;simp only [Zcw,Zeb] at ehy267;try simp only [Zj] at ehy267
       obtain ⟨_,u268,hk165⟩:=bs hk165;have u268_0:=ZC u268;have ck269:=Z5 (k:=.u64) u268_0;refine Ze rfl (by simp [-Za,hO,hT208,ehy267,ck269,u268_0]; rfl) ?_;refine Ze rfl (by simp [-Za]; rfl) ?_;refine Ze rfl (by simp [-Za]; rfl) ?_;refine Ze rfl (by simp [-Za]; rfl) ?_;refine Ze rfl (by simp [-Za]; rfl) ?_;by_cases c270:IntKind.i64.wrap (y267.1-p101)<IntKind.i64.wrap (p102-y267.1)
       ·skip
        rw [if_pos] at hk165;rotate_left
        ·simp [-Za,c270]
        refine Zcx (by simp [-Za,bV,c270]) ?_;refine Ze rfl (by simp [-Za,c270]; rfl) ?_;obtain ⟨y271,hy271,hk165⟩:=bs hk165;have ehy271:=X7 hy271;simp only [Xz,XS] at ehy271;try simp only [Zj] at ehy271
        obtain ⟨_,u272,hk165⟩:=bs hk165;have u272_0:=ZC u272;have ck273:=Z5 (k:=.u64) u272_0;try simp only [u268_0] at ck273
        refine Ze rfl (by simp [-Za,hO,hT164,ehy271,ck273,u272_0,u268_0]; rfl) ?_;refine Y8 rfl (by simp [-Za]; rfl) ?_;obtain rfl:=Option.some.inj hk165;simp only [pq];simp [-Za,u268_0,u272_0]
       ·skip
        rw [if_neg] at hk165;rotate_left
        ·simp [-Za,c270]
        refine Zcy (by simp [-Za,bV,c270]) ?_;refine Ze rfl (by simp [-Za,c270]; rfl) ?_;obtain ⟨y274,hy274,hk165⟩:=bs hk165;have ehy274:=X7 hy274;simp only [Xz,XS] at ehy274;try simp only [Zj] at ehy274
        obtain ⟨_,u275,hk165⟩:=bs hk165;have u275_0:=ZC u275;have ck276:=Z5 (k:=.u64) u275_0;try simp only [u268_0] at ck276
        refine Ze rfl (by simp [-Za,hO,hT164,ehy274,ck276,u275_0,u268_0]; rfl) ?_;refine Y8 rfl (by simp [-Za]; rfl) ?_;obtain rfl:=Option.some.inj hk165;simp only [pq];simp [-Za,u268_0,u275_0]
    ·skip
     intro J165;by_cases c277:y160.2=2
     ·skip
      rw [if_pos c277] at hk159;refine ZK (by simp [-Za,bV,eq_true c277]) ?_;refine ZE ?_;obtain ⟨y278,hy278,hk159⟩:=bs hk159;have ehy278:=Zq3 hy278;simp only [K205_6] at ehy278;try simp only [Zj] at ehy278
      obtain ⟨_,u279,hk159⟩:=bs hk159;have u279_0:=ZC u279;have ck280:=Z5 (k:=.u64) u279_0;refine Ze rfl (by simp [-Za,hO,hT205,ehy278,ck280,u279_0,eq_true c277]; rfl) ?_;refine ZE ?_;refine Ze rfl (by simp [-Za]; rfl) ?_;refine Ze rfl (by simp [-Za]; rfl) ?_;exact Xh (key:=1000015) (kq:=⟨[0,1,2,3,8,9,10,11,12],[1000000],[]⟩) rfl rfl rfl (by simp [-Za,und,List.replicate,u279_0]) (J165 (IntKind.i64.wrap ((IntKind.i64.wrap (p102-1))-(IntKind.i64.wrap (y160.1-p101))),1,y278) hk159)
     ·skip
      rw [if_neg c277] at hk159;refine Zn (by simp [-Za,bV,c277]) ?_;refine ZB ?_;exact Xh (key:=1000015) (kq:=⟨[0,1,2,3,8,9,10,11,12],[1000000],[]⟩) rfl rfl rfl (by simp [-Za,und,List.replicate,c277]) (J165 (y160.1,y160.2,p114) hk159)
   ·skip
    intro J159;by_cases c281:p104=true
    ·skip
     rw [if_neg] at hr144;rotate_left
     ·simp [-Za,c281]
     refine Zn (by simp [-Za,bV,c281]) ?_;refine ZB ?_;exact Xh (key:=1000010) (kq:=⟨[0,1,2,3,8,9,10],[1000000],[]⟩) rfl rfl rfl (by simp [-Za,und,List.replicate,c281]) (J159 (p103,p106) hr144)
    ·skip
     rw [if_pos] at hr144;rotate_left
     ·simp [-Za,c281]
     refine ZK (by simp [-Za,bV,c281]) ?_;refine ZE ?_;obtain ⟨y282,hy282,hr144⟩:=bs hr144;have ehy282:=ZpL hy282;simp only [Zey,Zhm] at ehy282;try simp only [Zj] at ehy282
     obtain ⟨_,u283,hr144⟩:=bs hr144;have u283_0:=ZC u283;have ck284:=Z5 (k:=.u64) u283_0;refine Ze rfl (by simp [-Za,hO,hT203,ehy282,ck284,u283_0,c281]; rfl) ?_;refine Ze rfl (by simp [-Za]; rfl) ?_;exact Xh (key:=1000010) (kq:=⟨[0,1,2,3,8,9,10],[1000000],[]⟩) rfl rfl rfl (by simp [-Za,und,List.replicate,c281,u283_0]) (J159 (IntKind.i64.wrap (p103-1),y282) hr144)
end Go.Proofs.YthpkpciceodioaaGreatDoor
