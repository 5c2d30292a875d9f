import Derived.Test.YthpkpciceodioaaGreatDoorLfK
import Derived.Test.YthpkpciceodioaaGreatDoorCode
import Derived.Test.YthpkpciceodioaaGreatDoorBl
namespace Go.Proofs.YthpkpciceodioaaGreatDoor
open Go.RowKit
open Go.Av
open Go.Lc
set_option maxRecDepth 100000
set_option linter.unusedSimpArgs false
set_option linter.unusedVariables false
set_option maxHeartbeats 4000000
def kp186:Keep:=fun i=>if i=3 then⟨[0,3,5,8,9],[3,27],[(5,none,27,37)]⟩ else if i=1000007 then⟨[0,3,5,8,9],[3,27],[]⟩ else⟨[],[],[]⟩
theorem w186 {T:Tab}(hO:T.own=fun _=>[]) (hT183:T 183=some K183.G) (hT214:T 214=some G214) (a0:(List Tapi_Coin)) (a1:Tapi_Coin) (x:(List Tapi_Coin)) (hr:ZbM a0 a1=some x):∃ kp fl n,ZP tt T G kp fl n Tryz.f186 (Zh2 (a0,a1))=some (Zj6 (a0,a1) x):=by
 simp only[Zh2,Zj6];refine fnE (kp:=kp186) (w:=false) body186 (by simp) ?_;unfold c186;rw[Tryz.ntmps186];unfold ZbM at hr;refine Zi rfl (by simp[Nat.add_assoc,]; rfl) ?_;refine Zi rfl (by simp[Nat.add_assoc,]; rfl) ?_;refine Yk ?_;refine Zi rfl (by simp[Nat.add_assoc,]; rfl) ?_;refine ZR ?_;refine Zbr (kq:=⟨[0,3,5,8,9],[3,27],[(5,none,27,37)]⟩) (H:=fun(s:Int×(List Tapi_Coin))=>match s with | (p10,p11)=>(⟨([.one (.slice .no (List.map Zs a0))]++(und 2++([.ptr 3 0 0 0 37]++(und 1++([.one (.ms 27 0 0 (p11.length) 37)]++(und 2++([.one (.v (.int .i64 (a0.length:Int))),.one (.v (.int .i64 p10))]++(und 29))))))):List PV),([(3,⟨0,37,[(arC .u8 a1.1.1)++((.v (.int .u32 a1.1.2)) :: ((.v (.int .i64 a1.2.1.1)) :: ((.slice .no (Zf .u8 a1.2.1.2)) :: ((.v (.int .i64 a1.2.2.1)) :: ((.v (.bool a1.2.2.2)) :: [])))))],false,false⟩),(27,⟨0,37,List.map Zs p11,false,true⟩)]:Boxes)⟩:ASt)) (by kernel_rfl) hr (by simp[Nat.add_assoc,und,List.replicate,]) ?_;rintro⟨p10,p11⟩ x35r hr35
 simp only[Zi0] at hr35;unfold b186_1;simp only[und,List.replicate,List.cons_append,List.nil_append];refine Zi rfl (by simp[Nat.add_assoc,]; rfl) ?_;by_cases c36:p10<(a0.length:Int)
 ·skip
  have c36N:=c36;try simp at c36N
  first | have c36M:(_=_)=True:=eq_true c36N | have c36M:=c36N
  rw[if_pos] at hr35;rotate_left
  ·simp[Nat.add_assoc,c36,c36M]
  refine Z9 (by simp[Nat.add_assoc,bV,c36,c36M]) ?_;refine Z7 ?_;refine ZR ?_;refine Zi rfl (by simp[Nat.add_assoc,c36,c36M] <;> rfl) ?_;obtain⟨x37,hx37,hr35⟩:=bs hr35;obtain⟨hx37a,hx37b⟩:=Ze7 hx37;have hx37c:=Xk hx37b;obtain⟨y38,hy38,hr35⟩:=bs hr35;have ehy38:=Zst hy38;simp only[Zg7,Zjj,kS,nf,nfs] at ehy38;refine Xq rfl (by simp[Nat.add_assoc,hx37a,hx37b,hx37c,hO,hT214,ehy38,c36,c36M]; first | exact⟨rfl,rfl⟩ | rfl) (by kernel_rfl) ?_;refine Zs1 hr35 (.normal) (fun(s:(List Tapi_Coin))=>match s with | p23=>(⟨([.one (.slice .no (List.map Zs a0))]++(und 2++([.ptr 3 0 0 0 37]++(und 1++([.one (.ms 27 0 0 (p23.length) 37)]++(und 2++([.one (.v (.int .i64 (a0.length:Int))),.one (.v (.int .i64 p10))]++(und 29))))))):List PV),([(3,⟨0,37,[(arC .u8 a1.1.1)++((.v (.int .u32 a1.1.2)) :: ((.v (.int .i64 a1.2.1.1)) :: ((.slice .no (Zf .u8 a1.2.1.2)) :: ((.v (.int .i64 a1.2.2.1)) :: ((.v (.bool a1.2.2.2)) :: [])))))],false,false⟩),(27,⟨0,37,List.map Zs p23,false,true⟩)]:Boxes)⟩:ASt)) (fun(s:(List Tapi_Coin))=>match s with | p23=>Zc5 p10 p23) ?_ ?_
  ·skip
   rintro p23 hk41
   change Zc5 p10 p23=_ at hk41
   simp only[pq,reduceCtorEq];simp only[und,List.replicate,List.cons_append,List.nil_append];unfold Zc5 at hk41;refine ZlB rfl (kq:=⟨[0,3,5,8,9],[3,27],[]⟩) rfl (by simp[Nat.add_assoc,Zbl,c36,c36M]; rfl) (by simp[Nat.add_assoc,c36,c36M] <;> rfl) ?_;obtain rfl:=Option.some.inj hk41;simp only[pq,reduceCtorEq];simp[Nat.add_assoc,und,List.replicate,Nat.add_assoc,c36,c36M]
  ·skip
   intro J41;simp only[pq,reduceCtorEq] at J41;by_cases c42:y38<0
   ·skip
    rw[if_pos c42] at hr35;refine ZiT (by simp[Nat.add_assoc,bV,c36,c36M,c42]) ?_;obtain⟨hx37a,hx37b⟩:=Ze7 hx37;have hx37c:=Xk hx37b;obtain⟨_,u43,hr35⟩:=bs hr35;have u43_0:=ZV u43;have n1_u43_0:(p11.length+1) * 88≤140737488355328:=by omega
    have n2_u43_0:p11.length+1≤9223372036854775807:=by omega
    refine Zb0 rfl (by simp[Nat.add_assoc,hx37a,hx37b,hx37c,n1_u43_0,n2_u43_0,c36,c36M,c42] <;> rfl) ?_;simp only[pq,reduceCtorEq];exact Zh5 (key:=1000007) (kq:=⟨[0,3,5,8,9],[3,27],[]⟩) rfl rfl rfl (by simp[Nat.add_assoc,und,List.replicate,c36,c36M,c42]) (J41 (p11++[x37]) hr35)
   ·skip
    rw[if_neg c42] at hr35;refine ZiU (by simp[Nat.add_assoc,bV,c36,c36M,c42]) ?_;refine Zko ?_;simp only[pq,reduceCtorEq];exact Zh5 (key:=1000007) (kq:=⟨[0,3,5,8,9],[3,27],[]⟩) rfl rfl rfl (by simp[Nat.add_assoc,und,List.replicate,c36,c36M,c42]) (J41 p11 hr35)
 ·skip
  have c36N:=c36;try simp at c36N
  first | have c36M:(_=_)=True:=eq_true c36N | have c36M:=c36N
  rw[if_neg] at hr35;rotate_left
  ·simp[Nat.add_assoc,c36,c36M]
  refine ZX (by simp[Nat.add_assoc,bV,c36,c36M]) ?_;refine YZ ?_;obtain⟨r44,q44,rfl⟩:=ms hr35;simp only[pq,reduceCtorEq];rintro rfl
  try simp only[pq,reduceCtorEq]
  unfold ZiZ at q44;obtain⟨y45,hy45,q44⟩:=bs q44;have ehy45:=K183.q1 hy45;simp only[K183,kS,nf,nfs] at ehy45;obtain⟨_,u46,q44⟩:=bs q44;have u46_0:=ZV u46;have n1_u46_0:(p11.length+1) * 88≤140737488355328:=by omega
  have n2_u46_0:p11.length+1≤9223372036854775807:=by omega
  obtain⟨_,u47,q44⟩:=bs q44;obtain⟨u47_0,u47_1⟩:=ZV u47;have sf48:((p11.length:Int)).toNat≤a0.length:=by omega
  obtain⟨_,u49,q44⟩:=bs q44;have u49_0:=ZV u49;have u49_0N:=u49_0;try simp at u49_0N
  have n1_u49_0:(p11.length+(1+((a0).drop (((p11.length:Int)).toNat)).length)) * 88≤140737488355328:=by
   have h:=u49_0;try simp at h
   first | omega | (simp only[List.length_take,List.length_drop] at h ⊢; omega) | (simp only[List.length_take,List.length_drop]; omega)
  have n2_u49_0:p11.length+(1+((a0).drop (((p11.length:Int)).toNat)).length)≤9223372036854775807:=by
   have h:=u49_0;try simp at h
   first | omega | (simp only[List.length_take,List.length_drop] at h ⊢; omega) | (simp only[List.length_take,List.length_drop]; omega)
  have n1s_u49_0:=n1_u49_0;try simp only[List.length_drop,List.length_take,Nat.min_self,Nat.sub_le_iff_le_add,Nat.min_eq_left,sf48] at n1s_u49_0
  have n2s_u49_0:=n2_u49_0;try simp only[List.length_drop,List.length_take,Nat.min_self,Nat.sub_le_iff_le_add,Nat.min_eq_left,sf48] at n2s_u49_0
  have z1:p11.length≤a0.length:=by omega
  have z2:(p11.length+(1+(a0.length-p11.length))) * 88≤140737488355328:=by omega
  have z3:p11.length+(1+(a0.length-p11.length))≤9223372036854775807:=by omega
  have z4:1+(a0.length-p11.length)≤a0.length-p11.length+1:=by omega
  have z5:∀ c:List Cell,List.take (1+(a0.length-p11.length)) (c :: List.drop p11.length (List.map Zs a0))=c :: List.drop p11.length (List.map Zs a0):=fun c=>List.take_of_length_le (by simp; omega)
  refine Xq rfl (by simp[Nat.add_assoc,z1,z2,z3,hO,hT183,ehy45,n1_u46_0,n2_u46_0,u47_0,u47_1,sf48,u49_0N,n1_u49_0,n2_u49_0,n1s_u49_0,n2s_u49_0,c36,c36M]; first | exact⟨rfl,rfl⟩ | rfl) (by kernel_rfl) ?_;refine ZdW ?_;obtain rfl:=Option.some.inj q44;simp[Nat.add_assoc,z4,z5,ZaR,hO,hT183,ehy45,n1_u46_0,n2_u46_0,u47_0,u47_1,sf48,u49_0N,n1_u49_0,n2_u49_0,n1s_u49_0,n2s_u49_0,c36,c36M,c36N]
theorem w136:Walk tt G [(135,K135.G),(138,K138.G),(186,G186)] (fun _=>[]) Tryz.f136 K136:=by
 refine .ak [(2,⟨[0,2,4,14,15,16],[4,14],[]⟩),(8,⟨[0,28,29,30],[28],[]⟩)] false Tryz.ntmps136 fun T hO hT ⟨a0,a1,a2⟩ x=>?_
 simp only[Zg] at hT; simp only[kS,nfs,ZgN,ZhA,ZfE];refine au ?_
 intros; refine lpP 2 (fun p9=>([(16,.one (.v (.int .i64 p9)))],[])) ?_; rintro p9 x; simp only[ZhB,ZhA,ZfE]
 refine au ?_
 intros; refine lpP 8 (fun⟨p22,p23⟩=>([(0,.one (.slice .no (List.map Zs p22))),(30,.one (.v (.int .i64 p23)))],[])) ?_; rintro⟨p22,p23⟩ x; simp only[ZjK,ZhA,ZfE]
 exact au
theorem w137:Walk tt G [] (fun _=>[]) Tryz.f137 K137:=by
 refine .ak [(3,⟨[3,6,7,8],[],[]⟩)] false Tryz.ntmps137 fun T hO hT a0 x=>?_
 simp only[Zg] at hT; simp only[kS,nfs,Zdv,Ziv];refine au ?_
 intros; refine lpP 3 (fun⟨p5,p6⟩=>([(3,.one (.v (.int .i64 p5))),(8,.one (.v (.int .i64 p6)))],[])) ?_; rintro⟨p5,p6⟩ x; simp only[Ziw,Ziv]
 exact au
section
attribute [local simp] az64 bz4
theorem w89:Walk tt G [(22,K22.G),(127,K127.G),(131,K131.G),(132,K132.G),(133,K133.G),(134,K134.G),(135,K135.G),(136,K136.G),(137,K137.G),(138,K138.G)] (fun _=>[]) Tryz.f89 K89:=by
 refine .sk [(7,⟨[3,5,6,7,10,11,12,46,47,48],[3,5,6,7,10,11,105],[(11,some 0,105,37)]⟩),(1000022,⟨[3,5,6,7,10,11,12,14,46,47,48],[3,5,6,7,10,11,14,105],[]⟩),(17,⟨[3,5,6,7,10,11,12,14,15,17,46,47,48,83,84,85],[3,5,6,7,10,11,14,105],[]⟩)] false Tryz.ntmps89 fun T hO hT ⟨a0,a1,a2⟩ x hr=>?_
 simp only[Zg] at hT; simp only[kS,nfs] at hr ⊢;unfold Zck at hr;refine go ?_;obtain⟨y119,ehy119,hr⟩:=bN hr K131.q3;refine go ?_;rcases eqT (y119=0) with c120 | c120
 ·replace hr:=ifN hr
  refine go ?_;obtain⟨y121,ehy121,hr⟩:=bN hr K22.q1;refine go ?_;obtain⟨_,ehy122,hr⟩:=bN hr K127.q2;refine go ?_;refine lp 7 (fun(⟨p50,p51,p52,p53⟩:Int×Int×(List Tapi_Coin)×(List Tapi_Coin))=>⟨(und 3++([.ptr 3 0 0 0 80]++(und 1++([.ptr 5 0 0 0 69,.ptr 6 0 0 0 34,.ptr 7 0 0 0 1]++(und 2++([.ptr 10 0 0 0 34,.ptr 11 0 0 0 1,.one (.v (.int .i64 p50))]++(und 33++([.one (.slice .no (List.map Z2 a2.2)),.one (.v (.int .i64 (a2.2.length:Int))),.one (.v (.int .i64 p51))]++(und 104)))))))):List PV),([(3,⟨0,80,[(.v (.int .u32 a0.1.1)) :: ((arC .u8 a0.1.2.1)++((arC .u8 a0.1.2.2.1)++((.v (.int .u32 a0.1.2.2.2.1)) :: ((.v (.int .u32 a0.1.2.2.2.2.1)) :: ((.v (.int .u32 a0.1.2.2.2.2.2)) :: ((arC .u64 a0.2.1)++((.v (.int .i64 a0.2.2.1)) :: ((.v (.int .u32 a0.2.2.2.1)) :: ((.v (.int .u32 a0.2.2.2.2.1)) :: ((.v (.int .u32 a0.2.2.2.2.2.1)) :: ((.slice .no (List.map eapi_Checkpoint a0.2.2.2.2.2.2.1)) :: ((.v (.int .i64 a0.2.2.2.2.2.2.2.1)) :: ((.v (.int .i64 a0.2.2.2.2.2.2.2.2.1)) :: ((.v (.int .i64 a0.2.2.2.2.2.2.2.2.2)) :: []))))))))))))))],false,false⟩),(5,⟨0,69,[(.v (.int .u32 a2.1.1)) :: ((arC .u8 a2.1.2.1)++((arC .u8 a2.1.2.2.1)++((.v (.int .u32 a2.1.2.2.2.1)) :: ((.v (.int .u32 a2.1.2.2.2.2.1)) :: ((.v (.int .u32 a2.1.2.2.2.2.2)) :: ((.slice .no (List.map Z2 a2.2)) :: []))))))],false,false⟩),(6,⟨0,34,[(.v (.int .i64 0)) :: ((arC .u8 (zA 32))++((.slice .nil []) :: []))],false,false⟩),(7,⟨0,1,[[.slice .nil []]],false,false⟩),(10,⟨0,34,[(.v (.int .i64 (IntKind.i64.wrap (a1.1+1)))) :: ((arC .u8 y121)++((.slice .no (List.map Zs p52)) :: []))],false,false⟩),(11,⟨0,1,[[.ms 105 0 0 (p53.length) 37]],false,false⟩),(105,⟨0,37,List.map Zs p53,false,true⟩)]:Boxes)⟩) hr ?_;rintro⟨p50,p51,p52,p53⟩ x166r hr166
  simp only[Zgu] at hr166;refine nst ?_;refine go ?_;by_cases c167:p51<(a2.2.length:Int)
  ·have c167N:=nrm c167
   replace hr166:=ifP hr166
   refine go ?_;obtain⟨x168,⟨_,_,_⟩,hr166⟩:=bI hr166;refine go ?_;refine ZnY hr166 (fun(s:Int×(List Tapi_Coin)×(List Tapi_Coin))=>match s with | (p96,p97,p98)=>(⟨(und 3++([.ptr 3 0 0 0 80]++(und 1++([.ptr 5 0 0 0 69,.ptr 6 0 0 0 34,.ptr 7 0 0 0 1]++(und 2++([.ptr 10 0 0 0 34,.ptr 11 0 0 0 1,.one (.v (.int .i64 p96))]++(und 1++([.ptr 14 0 0 0 4]++(und 31++([.one (.slice .no (List.map Z2 a2.2)),.one (.v (.int .i64 (a2.2.length:Int))),.one (.v (.int .i64 p51))]++(und 104)))))))))):List PV),([(3,⟨0,80,[(.v (.int .u32 a0.1.1)) :: ((arC .u8 a0.1.2.1)++((arC .u8 a0.1.2.2.1)++((.v (.int .u32 a0.1.2.2.2.1)) :: ((.v (.int .u32 a0.1.2.2.2.2.1)) :: ((.v (.int .u32 a0.1.2.2.2.2.2)) :: ((arC .u64 a0.2.1)++((.v (.int .i64 a0.2.2.1)) :: ((.v (.int .u32 a0.2.2.2.1)) :: ((.v (.int .u32 a0.2.2.2.2.1)) :: ((.v (.int .u32 a0.2.2.2.2.2.1)) :: ((.slice .no (List.map eapi_Checkpoint a0.2.2.2.2.2.2.1)) :: ((.v (.int .i64 a0.2.2.2.2.2.2.2.1)) :: ((.v (.int .i64 a0.2.2.2.2.2.2.2.2.1)) :: ((.v (.int .i64 a0.2.2.2.2.2.2.2.2.2)) :: []))))))))))))))],false,false⟩),(5,⟨0,69,[(.v (.int .u32 a2.1.1)) :: ((arC .u8 a2.1.2.1)++((arC .u8 a2.1.2.2.1)++((.v (.int .u32 a2.1.2.2.2.1)) :: ((.v (.int .u32 a2.1.2.2.2.2.1)) :: ((.v (.int .u32 a2.1.2.2.2.2.2)) :: ((.slice .no (List.map Z2 a2.2)) :: []))))))],false,false⟩),(6,⟨0,34,[(.v (.int .i64 0)) :: ((arC .u8 (zA 32))++((.slice .nil []) :: []))],false,false⟩),(7,⟨0,1,[[.slice .nil []]],false,false⟩),(10,⟨0,34,[(.v (.int .i64 (IntKind.i64.wrap (a1.1+1)))) :: ((arC .u8 y121)++((.slice .no (List.map Zs p97)) :: []))],false,false⟩),(11,⟨0,1,[[.ms 105 0 0 (p98.length) 37]],false,false⟩),(14,⟨0,4,[[.v (.int .u32 x168.1),.slice .no (List.map Za5 x168.2.1),.slice .no (List.map Xj x168.2.2.1),.v (.int .u32 x168.2.2.2)]],false,false⟩),(105,⟨0,37,List.map Zs p98,false,true⟩)]:Boxes)⟩:ASt)) (fun(s:Int×(List Tapi_Coin)×(List Tapi_Coin))=>match s with | (p96,p97,p98)=>XQ x168 a1 p51 p96 p97 p98) ?_ ?_
   ·rintro⟨p96,p97,p98⟩ hk187
    change XQ x168 a1 p51 p96 p97 p98=_ at hk187
    refine nst ?_;unfold XQ at hk187;obtain⟨y188,ehy188,hk187⟩:=bN hk187 K136.q3;refine ZnE rfl (kq:=⟨[3,5,6,7,10,11,12,14,46,47,48],[3,5,6,7,10,11,14,105],[]⟩) rfl (by simp[Zbl, *]; rfl) (by simp[*] <;> rfl) ?_;refine go ?_;rcases eqT (y188.2=0) with c189 | c189
    ·replace hk187:=ifN hk187
     refine go ?_;exact bk hk187
    ·replace hk187:=ifP hk187
     refine go ?_;exact fin hk187
   ·intro J187
    by_cases c190:0<p51
    ·replace hr166:=ifP hr166
     refine go ?_;obtain⟨y191,ehy191,hr166⟩:=bN hr166 K132.q4;refine go ?_;rcases eqT (y191.2=0) with c192 | c192
     ·replace hr166:=ifN hr166
      refine go ?_;obtain⟨y193,ehy193,hr166⟩:=bN hr166 K133.q3;refine go ?_;rcases eqT (y193.2=0) with c194 | c194
      ·replace hr166:=ifN hr166
       refine go ?_;refine lp 17 (fun(⟨p110,p111⟩:Int×(List Tapi_Coin))=>⟨(und 3++([.ptr 3 0 0 0 80]++(und 1++([.ptr 5 0 0 0 69,.ptr 6 0 0 0 34,.ptr 7 0 0 0 1]++(und 2++([.ptr 10 0 0 0 34,.ptr 11 0 0 0 1,.one (.v (.int .i64 p50))]++(und 1++([.ptr 14 0 0 0 4,.one (.slice .no (List.map Zs y191.1))]++(und 1++([.one (.v (.int .i64 y193.1))]++(und 28++([.one (.slice .no (List.map Z2 a2.2)),.one (.v (.int .i64 (a2.2.length:Int))),.one (.v (.int .i64 p51))]++(und 34++([.one (.slice .no (List.map Zs y191.1)),.one (.v (.int .i64 (y191.1.length:Int))),.one (.v (.int .i64 p110))]++(und 67)))))))))))))):List PV),([(3,⟨0,80,[(.v (.int .u32 a0.1.1)) :: ((arC .u8 a0.1.2.1)++((arC .u8 a0.1.2.2.1)++((.v (.int .u32 a0.1.2.2.2.1)) :: ((.v (.int .u32 a0.1.2.2.2.2.1)) :: ((.v (.int .u32 a0.1.2.2.2.2.2)) :: ((arC .u64 a0.2.1)++((.v (.int .i64 a0.2.2.1)) :: ((.v (.int .u32 a0.2.2.2.1)) :: ((.v (.int .u32 a0.2.2.2.2.1)) :: ((.v (.int .u32 a0.2.2.2.2.2.1)) :: ((.slice .no (List.map eapi_Checkpoint a0.2.2.2.2.2.2.1)) :: ((.v (.int .i64 a0.2.2.2.2.2.2.2.1)) :: ((.v (.int .i64 a0.2.2.2.2.2.2.2.2.1)) :: ((.v (.int .i64 a0.2.2.2.2.2.2.2.2.2)) :: []))))))))))))))],false,false⟩),(5,⟨0,69,[(.v (.int .u32 a2.1.1)) :: ((arC .u8 a2.1.2.1)++((arC .u8 a2.1.2.2.1)++((.v (.int .u32 a2.1.2.2.2.1)) :: ((.v (.int .u32 a2.1.2.2.2.2.1)) :: ((.v (.int .u32 a2.1.2.2.2.2.2)) :: ((.slice .no (List.map Z2 a2.2)) :: []))))))],false,false⟩),(6,⟨0,34,[(.v (.int .i64 0)) :: ((arC .u8 (zA 32))++((.slice .nil []) :: []))],false,false⟩),(7,⟨0,1,[[.slice .nil []]],false,false⟩),(10,⟨0,34,[(.v (.int .i64 (IntKind.i64.wrap (a1.1+1)))) :: ((arC .u8 y121)++((.slice .no (List.map Zs p111)) :: []))],false,false⟩),(11,⟨0,1,[[.ms 105 0 0 (p53.length) 37]],false,false⟩),(14,⟨0,4,[[.v (.int .u32 x168.1),.slice .no (List.map Za5 x168.2.1),.slice .no (List.map Xj x168.2.2.1),.v (.int .u32 x168.2.2.2)]],false,false⟩),(105,⟨0,37,List.map Zs p53,false,true⟩)]:Boxes)⟩) hr166 ?_;rintro⟨p110,p111⟩ x201r hr201
       simp only[Zgt] at hr201;refine nst ?_;refine go ?_;by_cases c202:p110<(y191.1.length:Int)
       ·have c202N:=nrm c202
        replace hr201:=ifP hr201
        refine go ?_;obtain⟨_,⟨_,_,_⟩,hr201⟩:=bI hr201;refine go ?_;obtain⟨_,ehy204,hr201⟩:=bN hr201 K135.q2;obtain⟨_,ehy205,hr201⟩:=bN hr201 K134.q2;refine go ?_;exact bk hr201
       ·have c202N:=nrm c202
        replace hr201:=ifN hr201
        refine go ?_;obtain⟨r206,q206,rfl⟩:=ms hr201;refine go ?_;rintro rfl
        refine go ?_;unfold Zgs at q206;obtain⟨_,q206⟩:=bC q206;have n1_u207_0:(p53.length+y191.1.length) * 88≤140737488355328:=by omega
        have n2_u207_0:p53.length+y191.1.length≤9223372036854775807:=by omega
        refine go ?_;exact jn 1000022 (J187 (IntKind.i64.wrap (p50+y193.1),p111,p53++y191.1) q206)
      ·replace hr166:=ifP hr166
       refine go ?_;exact fin hr166
     ·replace hr166:=ifP hr166
      refine go ?_;exact fin hr166
    ·replace hr166:=ifN hr166
     refine go ?_;exact jn 1000022 (J187 (p50,p52,p53) hr166)
  ·have c167N:=nrm c167
   replace hr166:=ifN hr166
   refine go ?_;obtain⟨r208,q208,rfl⟩:=ms hr166;refine go ?_;rintro rfl
   refine go ?_;unfold Zgr at q208;refine go ?_;obtain⟨_,hx209,q208⟩:=bs q208;have hx209c:=Xk hx209;obtain⟨_,ehy210,q208⟩:=bN q208 K138.q2;obtain⟨y211,ehy211,q208⟩:=bN q208 K137.q1;refine go ?_;by_cases c212:p50<y211
   ·replace q208:=ifP q208
    refine go ?_;exact fin q208
   ·replace q208:=ifN q208
    refine go ?_;obtain⟨y213,ehy213,q208⟩:=bN q208 K137.q1;refine go ?_;by_cases c214:2100000000000000<y213
    ·replace q208:=ifP q208
     refine go ?_;exact fin q208
    ·replace q208:=ifN q208
     refine go ?_;by_cases c215:100000<(p52.length:Int)
     ·have c215N:=nrm c215
      replace q208:=ifP q208
      refine go ?_;exact fin q208
     ·have c215N:=nrm c215
      replace q208:=ifN q208
      refine go ?_;exact fin q208
 ·replace hr:=ifP hr
  refine go ?_;exact fin hr
end
theorem w142:Walk tt G [(145,K145.G)] (fun _=>[]) Tryz.f142 K142:=by
 refine .sk [] false Tryz.ntmps142 fun T hO hT ⟨a0,a1⟩ x hr=>?_
 simp only[Zg] at hT; simp only[kS,nfs] at hr ⊢;unfold ZfX at hr;refine go ?_;obtain⟨y2,ehy2,hr⟩:=bN hr K145.q1;by_cases c3:y2=true
 ·by_cases c4:0≤a1.1
  ·by_cases c5:a1.1≤16777216
   ·refine go ?_
    exact fin hr
   ·refine go ?_
    exact fin hr
  ·refine go ?_
   exact fin hr
 ·refine go ?_
  exact fin hr
theorem w91:Walk tt G [(22,K22.G),(142,K142.G)] (fun _=>[]) Tryz.f91 K91:=by
 refine .ak [] false Tryz.ntmps91 fun T hO hT ⟨a0,a1,a2⟩ x=>?_
 simp only[Zg] at hT; simp only[kS,nfs,ZbE,Zg0,Zcz];exact au
section
attribute [local simp] az64 bz4
theorem w90:Walk tt G [(91,K91.G),(139,K139.G),(140,K140.G),(141,K141.G)] (fun _=>[]) Tryz.f90 K90:=by
 refine .ak [(20,⟨[9,74,75,76],[9],[]⟩)] false Tryz.ntmps90 fun T hO hT ⟨a0,a1,a2,a3⟩ x=>?_
 simp only[Zg] at hT; simp only[kS,nfs,Zcs,Lref14_Checkw_k1];refine au ?_
 intros; refine lpP 20 (fun p8=>([(76,.one (.v (.int .i64 p8)))],[])) ?_; rintro p8 x; simp only[ZhU,Lref14_Checkw_k1]
 exact au
end
theorem w144:Walk tt G [] (fun _=>[]) Tryz.f144 K144:=by
 refine .ak [] false Tryz.ntmps144 fun T hO hT a0 x=>?_
 simp only[Zg] at hT; simp only[kS,nfs,Zio];exact au
section
attribute [local simp] az64 bz4
theorem w92:Walk tt G [(143,K143.G),(144,K144.G)] (fun _=>[]) Tryz.f92 K92:=by
 refine .ak [] false Tryz.ntmps92 fun T hO hT a0 x=>?_
 simp only[Zg] at hT; simp only[kS,nfs,ZeL];exact au
end
theorem w93:Walk tt G [(22,K22.G),(145,K145.G)] (fun _=>[]) Tryz.f93 K93:=by
 refine .ak [] false Tryz.ntmps93 fun T hO hT a0 x=>?_
 simp only[Zg] at hT; simp only[kS,nfs,ZeM];exact au
theorem w94:Walk tt G [(22,K22.G),(145,K145.G)] (fun _=>[]) Tryz.f94 K94:=by
 refine .ak [] false Tryz.ntmps94 fun T hO hT a0 x=>?_
 simp only[Zg] at hT; simp only[kS,nfs,ZeN];exact au
section
attribute [local simp] az64 bz4
theorem w50:Walk tt G [(92,K92.G),(93,K93.G),(94,K94.G)] (fun _=>[]) Tryz.f50 K50:=by
 refine .ak [] true Tryz.ntmps50 fun T hO hT a0 x=>?_
 simp only[Zg] at hT; simp only[kS,nfs,ZfY];exact au
end
section
attribute [local simp] az64 bz4
theorem w49_7:Walk tt G [(88,K88.G),(89,K89.G),(90,K90.G),(91,K91.G)] (fun _=>[]) Tryz.f49 K49_7:=by
 refine .ak [(4,⟨[2,4,29,30,31],[2,4,15,18,23,26],[]⟩)] true Tryz.ntmps49 (hi:=by intro x; simp[E49_7]) (fun T hO hT ⟨a0,a1⟩ x=>?_);simp only[Zg] at hT; simp only[kS,E49_7,nfs,Zf1,Zi2];refine au ?_
 intros; refine lpP 4 (fun⟨p38,p39,p40,p41,p42⟩=>([(31,.one (.v (.int .i64 p38)))],[(2,⟨0,84,[(.v (.int .u32 a0.1.1.1)) :: ((arC .u8 a0.1.1.2.1)++((arC .u8 a0.1.1.2.2.1)++((.v (.int .u32 a0.1.1.2.2.2.1)) :: ((.v (.int .u32 a0.1.1.2.2.2.2.1)) :: ((.v (.int .u32 a0.1.1.2.2.2.2.2)) :: ((arC .u64 a0.1.2.1)++((.v (.int .i64 a0.1.2.2.1)) :: ((.v (.int .u32 a0.1.2.2.2.1)) :: ((.v (.int .u32 a0.1.2.2.2.2.1)) :: ((.v (.int .u32 a0.1.2.2.2.2.2.1)) :: ((.slice .no (List.map eapi_Checkpoint a0.1.2.2.2.2.2.2.1)) :: ((.v (.int .i64 a0.1.2.2.2.2.2.2.2.1)) :: ((.v (.int .i64 a0.1.2.2.2.2.2.2.2.2.1)) :: ((.v (.int .i64 a0.1.2.2.2.2.2.2.2.2.2)) :: ((.ms 15 0 0 (p39.length) 69) :: ((.ms 23 0 0 (p40.length) 34) :: ((.ms 26 0 0 (p41.length) 36) :: ((.ms 18 0 0 (p42.length) 1) :: []))))))))))))))))))],false,false⟩),(15,⟨0,69,List.map YY p39,false,true⟩),(18,⟨0,1,List.map Ze0 p42,false,true⟩),(23,⟨0,34,List.map Xr p40,false,true⟩),(26,⟨0,36,List.map YJ p41,false,true⟩)])) ?_; rintro⟨p38,p39,p40,p41,p42⟩ x; simp only[Zi3,Zi2]
 exact au
end
section
attribute [local simp] az64 bz4
theorem w20:Walk tt G [(49,K49_7.G),(50,K50.G)] (fun d=>if d=8 then[[0,0,0,0,0,0,0,0,0,0,0,0,0,0,0,0,0,0,0,0,0,0,0,0,0,0,0,0,0,0,0,0,0,0,0,0,0,0,0,0,0,0,0,0,0,0,0,0,0,0,0,0,0,0,0,0,0,0,0,0,0,0,0,0,0,0,0,0,0,0,0,0,0,0,0,0,0,0,0,0,0,34,36]] else[]) Tryz.f20 K20:=by
 refine .ak [] true Tryz.ntmps20 fun T hO hT ⟨a0,a1⟩ x=>?_
 simp only[Zg] at hT; simp only[kS,nfs,Zb7];exact au
end
theorem w21:Walk tt G [] (fun _=>[]) Tryz.f21 K21:=by
 refine .ak [] false Tryz.ntmps21 fun T hO hT ⟨a0,a1⟩ x=>?_
 simp only[Zg] at hT; simp only[kS,nfs,Zfe];exact au
theorem w5:Walk tt G [(9,K9.G),(11,K11.G),(18,K18.G),(20,K20.G),(21,K21.G),(22,K22.G),(23,K23.G)] (fun _=>[]) Tryz.f5 K5:=by
 refine .ak [(5,⟨[28,29,30],[26],[]⟩),(12,⟨[8,10,28,29,30,45,46,47],[8,10,26],[]⟩),(15,⟨[8,10,11,12,28,29,30,45,46,47,53,54,55],[8,10,12,26],[]⟩),(22,⟨[8,10,11,28,29,30,45,46,47,76,77,78],[8,10,26],[]⟩)] false Tryz.ntmps5 fun T hO hT ⟨a0,a1⟩ x=>?_
 simp only[Zg] at hT; simp only[kS,nfs,Zcl,Llaw20_FilterCovers_c_k1,YE,YF,YG];refine au ?_
 intros; refine lpP 5 (fun p137=>([(30,.one (.v (.int .i64 p137)))],[])) ?_; rintro p137 x; simp only[ZaZ,Llaw20_FilterCovers_c_k1,YE,YF,YG]
 refine au ?_
 intros; refine lpP 12 (fun p249=>([(47,.one (.v (.int .i64 p249)))],[])) ?_; rintro p249 x; simp only[XS,Llaw20_FilterCovers_c_k1,YE,YF,YG]
 refine au ?_
 intros; refine lpP 15 (fun p276=>([(55,.one (.v (.int .i64 p276)))],[])) ?_; rintro p276 x; simp only[XR,Llaw20_FilterCovers_c_k1,YE,YF,YG]
 refine au ?_
 intros; refine lpP 22 (fun p286=>([(78,.one (.v (.int .i64 p286)))],[])) ?_; rintro p286 x; simp only[ZaY,Llaw20_FilterCovers_c_k1,YE,YF,YG]
 exact au
end Go.Proofs.YthpkpciceodioaaGreatDoor
