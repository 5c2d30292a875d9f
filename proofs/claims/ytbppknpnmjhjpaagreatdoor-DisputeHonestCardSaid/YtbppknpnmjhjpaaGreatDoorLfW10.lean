import Derived.Test.YtbppknpnmjhjpaaGreatDoorLfK
import Derived.Test.YtbppknpnmjhjpaaGreatDoorCode
import Derived.Test.YtbppknpnmjhjpaaGreatDoorBl
namespace Go.Proofs.YtbppknpnmjhjpaaGreatDoor
open Go.RowKit
open Go.Av
open Go.Lc
set_option maxRecDepth 100000
set_option linter.unusedSimpArgs false
set_option linter.unusedVariables false
set_option maxHeartbeats 4000000
theorem w191:Walk tt G [(57,G57),(58,K58.G),(59,K59.G),(136,K136.G),(147,K147.G),(183,K183.G),(218,G218)] (fun _=>[]) Tryz.f191 K191:=by
 refine .ak [(7,⟨[1,3,5,6,8,9,10,42,43,44],[3,5,6,52,900009],[(9,none,900009,0),(9,none,900009,1),(8,none,52,1)]⟩),(13,⟨[1,3,5,6,8,9,10,59,60,61],[3,5,6,52,68,900009],[(10,none,68,1)]⟩)] false Tryz.ntmps191 fun T hO hT ⟨a0,a1,a2⟩ x=>?_
 simp only[Zh] at hT; simp only[kS,nfs,ZdA,Zc5,Zc6];refine au ?_
 intros; refine lpP 7 (fun⟨p13,p14,p15⟩=>([(8,.one (.ms 52 0 0 (p14.length) 1)),(9,.one (.ms 900009 0 0 (p15.length) 1)),(44,.one (.v (.int .i64 p13)))],[(52,⟨0,1,Zg .u8 p14,false,true⟩),(900009,⟨0,1,Zg .u8 p15,false,true⟩)])) ?_; rintro⟨p13,p14,p15⟩ x; simp only[ZhL,Zc5,Zc6]
 refine au ?_
 intros; refine lpP 13 (fun⟨p28,p29⟩=>([(10,.one (.ms 68 0 0 (p29.length) 1)),(61,.one (.v (.int .i64 p28)))],[(68,⟨0,1,Zg .u8 p29,false,true⟩)])) ?_; rintro⟨p28,p29⟩ x; simp only[ZhK,Zc5,Zc6]
 exact au
theorem w156:Walk tt G [(191,K191.G),(192,K192.G)] (fun _=>[]) Tryz.f156 K156:=by
 refine .ak [] false Tryz.ntmps156 fun T hO hT ⟨a0,a1,a2,a3⟩ x=>?_
 simp only[Zh] at hT; simp only[kS,nfs,Zfl];exact au
theorem w98:Walk tt G [(78,K78.G),(153,G153),(155,K155.G),(156,K156.G)] (fun _=>[]) Tryz.f98 K98:=by
 refine .ak [(9,⟨[1,2,3,8,28,29],[3],[]⟩)] false Tryz.ntmps98 fun T hO hT ⟨a0,a1,a2⟩ x=>?_
 simp only[Zh] at hT; simp only[kS,nfs,Zfm,Zi6];refine au ?_
 intros; refine lpP 9 (fun p9=>([(29,.one (.v (.int .i64 p9)))],[])) ?_; rintro p9 x; simp only[ZgL,Zi6]
 exact au
theorem w99:Walk tt G [] (fun _=>[]) Tryz.f99 K99:=by
 refine .ak [] false Tryz.ntmps99 fun T hO hT ⟨a0,a1⟩ x=>?_
 simp only[Zh] at hT; simp only[kS,nfs,Zdw];exact au
theorem w103:Walk tt G [(78,K78.G),(80,K80.G)] (fun _=>[]) Tryz.f103 K103:=by
 refine .ak [(4,⟨[1,2,5,6,12,13,14],[2,6,30],[(5,none,30,37)]⟩)] true Tryz.ntmps103 fun T hO hT ⟨a0,a1⟩ x=>?_
 simp only[Zh] at hT; simp only[kS,nfs,Za0,ZhG];refine au ?_
 intros; refine lpP 4 (fun⟨p9,p10⟩=>([(5,.one (.ms 30 0 0 (p10.length) 37)),(14,.one (.v (.int .i64 p9)))],[(30,⟨0,37,List.map Zs p10,false,true⟩)])) ?_; rintro⟨p9,p10⟩ x; simp only[ZhH,ZhG]
 exact au
def kp157:Keep:=fun i=>if i=3 then⟨[0,3,5,8,9],[3,27],[(5,none,27,37)]⟩ else if i=1000007 then⟨[0,3,5,8,9],[3,27],[]⟩ else⟨[],[],[]⟩
theorem w157 {T:Tab}(hO:T.own=fun _=>[]) (hT154:T 154=some K154.G) (hT190:T 190=some G190) (a0:(List Tapi_Coin)) (a1:Tapi_Coin) (x:(List Tapi_Coin)) (hr:Zcd a0 a1=some x):∃ kp fl n,ZN tt T G kp fl n Tryz.f157 (ZiB (a0,a1))=some (ZkA (a0,a1) x):=by
 simp only[ZiB,ZkA];refine fnE (kp:=kp157) (w:=false) body157 (by simp) ?_;unfold c157;rw[Tryz.ntmps157];unfold Zcd at hr;refine Zd rfl (by simp[Nat.add_assoc,]; rfl) ?_;refine Zd rfl (by simp[Nat.add_assoc,]; rfl) ?_;refine ZA ?_;refine Zd rfl (by simp[Nat.add_assoc,]; rfl) ?_;refine Zx ?_;refine Xs (kq:=⟨[0,3,5,8,9],[3,27],[(5,none,27,37)]⟩) (H:=fun(s:Int×(List Tapi_Coin))=>match s with | (p10,p11)=>(⟨([.one (.slice .no (List.map Zs a0))]++(und 2++([.ptr 3 0 0 0 37]++(und 1++([.one (.ms 27 0 0 (p11.length) 37)]++(und 2++([.one (.v (.int .i64 (a0.length:Int))),.one (.v (.int .i64 p10))]++(und 29))))))):List PV),([(3,⟨0,37,[(arC .u8 a1.1.1)++((.v (.int .u32 a1.1.2)) :: ((.v (.int .i64 a1.2.1.1)) :: ((.slice .no (Zg .u8 a1.2.1.2)) :: ((.v (.int .i64 a1.2.2.1)) :: ((.v (.bool a1.2.2.2)) :: [])))))],false,false⟩),(27,⟨0,37,List.map Zs p11,false,true⟩)]:Boxes)⟩:ASt)) (by kernel_rfl) hr (by simp[Nat.add_assoc,und,List.replicate,]) ?_;rintro⟨p10,p11⟩ x35r hr35
 simp only[Zjv] at hr35;unfold b157_1;simp only[und,List.replicate,List.cons_append,List.nil_append];refine Zd rfl (by simp[Nat.add_assoc,]; rfl) ?_;by_cases c36:p10<(a0.length:Int)
 ·skip
  have c36N:=c36;try simp at c36N
  first | have c36M:(_=_)=True:=eq_true c36N | have c36M:=c36N
  rw[if_pos] at hr35;rotate_left
  ·simp[Nat.add_assoc,c36,c36M]
  refine Zw (by simp[Nat.add_assoc,bV,c36,c36M]) ?_;refine ZD ?_;refine Zx ?_;refine Zd rfl (by simp[Nat.add_assoc,c36,c36M] <;> rfl) ?_;obtain⟨x37,hx37,hr35⟩:=bs hr35;obtain⟨hx37a,hx37b⟩:=ZbP hx37;have hx37c:=Yb hx37b;obtain⟨y38,hy38,hr35⟩:=bs hr35;have ehy38:=Zs3 hy38;simp only[ZhP,ZjQ,kS,nf,nfs,Z5] at ehy38;refine Z6 rfl (by simp[Nat.add_assoc,hx37a,hx37b,hx37c,hO,hT190,ehy38,c36,c36M]; first | exact⟨rfl,rfl⟩ | rfl) (by kernel_rfl) ?_;refine ZtB hr35 (.normal) (fun(s:(List Tapi_Coin))=>match s with | p23=>(⟨([.one (.slice .no (List.map Zs a0))]++(und 2++([.ptr 3 0 0 0 37]++(und 1++([.one (.ms 27 0 0 (p23.length) 37)]++(und 2++([.one (.v (.int .i64 (a0.length:Int))),.one (.v (.int .i64 p10))]++(und 29))))))):List PV),([(3,⟨0,37,[(arC .u8 a1.1.1)++((.v (.int .u32 a1.1.2)) :: ((.v (.int .i64 a1.2.1.1)) :: ((.slice .no (Zg .u8 a1.2.1.2)) :: ((.v (.int .i64 a1.2.2.1)) :: ((.v (.bool a1.2.2.2)) :: [])))))],false,false⟩),(27,⟨0,37,List.map Zs p23,false,true⟩)]:Boxes)⟩:ASt)) (fun(s:(List Tapi_Coin))=>match s with | p23=>Zdx p10 p23) ?_ ?_
  ·skip
   rintro p23 hk41
   change Zdx p10 p23=_ at hk41
   simp only[pq,reduceCtorEq];simp only[und,List.replicate,List.cons_append,List.nil_append];unfold Zdx at hk41;refine Zl5 rfl (kq:=⟨[0,3,5,8,9],[3,27],[]⟩) rfl (by simp[Nat.add_assoc,ZbL,c36,c36M]; rfl) (by simp[Nat.add_assoc,c36,c36M] <;> rfl) ?_;obtain rfl:=Option.some.inj hk41;simp only[pq,reduceCtorEq];simp[Nat.add_assoc,und,List.replicate,Nat.add_assoc,c36,c36M]
  ·skip
   intro J41;simp only[pq,reduceCtorEq] at J41;by_cases c42:y38<0
   ·skip
    rw[if_pos c42] at hr35;refine ZcS (by simp[Nat.add_assoc,bV,c36,c36M,c42]) ?_;obtain⟨hx37a,hx37b⟩:=ZbP hx37;have hx37c:=Yb hx37b;obtain⟨_,u43,hr35⟩:=bs hr35;have u43_0:=ZO u43;have n1_u43_0:(p11.length+1) * 88≤140737488355328:=by omega
    have n2_u43_0:p11.length+1≤9223372036854775807:=by omega
    refine Xb rfl (by simp[Nat.add_assoc,hx37a,hx37b,hx37c,n1_u43_0,n2_u43_0,c36,c36M,c42] <;> rfl) ?_;simp only[pq,reduceCtorEq];exact ZiE (key:=1000007) (kq:=⟨[0,3,5,8,9],[3,27],[]⟩) rfl rfl rfl (by simp[Nat.add_assoc,und,List.replicate,c36,c36M,c42]) (J41 (p11++[x37]) hr35)
   ·skip
    rw[if_neg c42] at hr35;refine ZdI (by simp[Nat.add_assoc,bV,c36,c36M,c42]) ?_;refine Ze7 ?_;simp only[pq,reduceCtorEq];exact ZiE (key:=1000007) (kq:=⟨[0,3,5,8,9],[3,27],[]⟩) rfl rfl rfl (by simp[Nat.add_assoc,und,List.replicate,c36,c36M,c42]) (J41 p11 hr35)
 ·skip
  have c36N:=c36;try simp at c36N
  first | have c36M:(_=_)=True:=eq_true c36N | have c36M:=c36N
  rw[if_neg] at hr35;rotate_left
  ·simp[Nat.add_assoc,c36,c36M]
  refine Zv (by simp[Nat.add_assoc,bV,c36,c36M]) ?_;refine Z7 ?_;obtain⟨r44,q44,rfl⟩:=ms hr35;simp only[pq,reduceCtorEq];rintro rfl
  try simp only[pq,reduceCtorEq]
  unfold Zju at q44;obtain⟨y45,hy45,q44⟩:=bs q44;have ehy45:=K154.q1 hy45;simp only[K154,kS,nf,nfs,Z5] at ehy45;obtain⟨_,u46,q44⟩:=bs q44;have u46_0:=ZO u46;have n1_u46_0:(p11.length+1) * 88≤140737488355328:=by omega
  have n2_u46_0:p11.length+1≤9223372036854775807:=by omega
  obtain⟨_,u47,q44⟩:=bs q44;obtain⟨u47_0,u47_1⟩:=ZO u47;have sf48:((p11.length:Int)).toNat≤a0.length:=by omega
  obtain⟨_,u49,q44⟩:=bs q44;have u49_0:=ZO u49;have u49_0N:=u49_0;try simp at u49_0N
  have n1_u49_0:(p11.length+(1+((a0).drop (((p11.length:Int)).toNat)).length)) * 88≤140737488355328:=by
   have h:=u49_0;try simp at h
   first | omega | (simp only[List.length_take,List.length_drop] at h ⊢; omega) | (simp only[List.length_take,List.length_drop]; omega)
  have n2_u49_0:p11.length+(1+((a0).drop (((p11.length:Int)).toNat)).length)≤9223372036854775807:=by
   have h:=u49_0;try simp at h
   first | omega | (simp only[List.length_take,List.length_drop] at h ⊢; omega) | (simp only[List.length_take,List.length_drop]; omega)
  have n1s_u49_0:=n1_u49_0;try simp only[List.length_drop,List.length_take,Nat.min_self,Nat.sub_le_iff_le_add,Nat.min_eq_left,sf48] at n1s_u49_0
  have n2s_u49_0:=n2_u49_0;try simp only[List.length_drop,List.length_take,Nat.min_self,Nat.sub_le_iff_le_add,Nat.min_eq_left,sf48] at n2s_u49_0
  have z1:p11.length≤a0.length:=by omega
  have z2:(p11.length+(1+(a0.length-p11.length))) * 88≤140737488355328:=by omega
  have z3:p11.length+(1+(a0.length-p11.length))≤9223372036854775807:=by omega
  have z4:1+(a0.length-p11.length)≤a0.length-p11.length+1:=by omega
  have z5:∀ c:List Cell,List.take (1+(a0.length-p11.length)) (c :: List.drop p11.length (List.map Zs a0))=c :: List.drop p11.length (List.map Zs a0):=fun c=>List.take_of_length_le (by simp; omega)
  refine Z6 rfl (by simp[Nat.add_assoc,z1,z2,z3,hO,hT154,ehy45,n1_u46_0,n2_u46_0,u47_0,u47_1,sf48,u49_0N,n1_u49_0,n2_u49_0,n1s_u49_0,n2s_u49_0,c36,c36M]; first | exact⟨rfl,rfl⟩ | rfl) (by kernel_rfl) ?_;refine Zai ?_;obtain rfl:=Option.some.inj q44;simp[Nat.add_assoc,z4,z5,YP,hO,hT154,ehy45,n1_u46_0,n2_u46_0,u47_0,u47_1,sf48,u49_0N,n1_u49_0,n2_u49_0,n1s_u49_0,n2s_u49_0,c36,c36M,c36N]
theorem w101:Walk tt G [(100,K100.G),(103,K103.G),(157,G157)] (fun _=>[]) Tryz.f101 K101:=by
 refine .ak [(2,⟨[0,2,4,14,15,16],[4,14],[]⟩),(8,⟨[0,28,29,30],[28],[]⟩)] false Tryz.ntmps101 fun T hO hT ⟨a0,a1,a2⟩ x=>?_
 simp only[Zh] at hT; simp only[kS,nfs,Zhr,Zig,Zf8];refine au ?_
 intros; refine lpP 2 (fun p9=>([(16,.one (.v (.int .i64 p9)))],[])) ?_; rintro p9 x; simp only[Zih,Zig,Zf8]
 refine au ?_
 intros; refine lpP 8 (fun⟨p22,p23⟩=>([(0,.one (.slice .no (List.map Zs p22))),(30,.one (.v (.int .i64 p23)))],[])) ?_; rintro⟨p22,p23⟩ x; simp only[Zkl,Zig,Zf8]
 exact au
theorem w102:Walk tt G [] (fun _=>[]) Tryz.f102 K102:=by
 refine .ak [(3,⟨[3,6,7,8],[],[]⟩)] false Tryz.ntmps102 fun T hO hT a0 x=>?_
 simp only[Zh] at hT; simp only[kS,nfs,Zd0,Zi4];refine au ?_
 intros; refine lpP 3 (fun⟨p5,p6⟩=>([(3,.one (.v (.int .i64 p5))),(8,.one (.v (.int .i64 p6)))],[])) ?_; rintro⟨p5,p6⟩ x; simp only[Zi5,Zi4]
 exact au
end Go.Proofs.YtbppknpnmjhjpaaGreatDoor
