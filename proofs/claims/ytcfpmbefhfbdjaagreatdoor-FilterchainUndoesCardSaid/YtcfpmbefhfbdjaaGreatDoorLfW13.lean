import Derived.Test.YtcfpmbefhfbdjaaGreatDoorLfK
import Derived.Test.YtcfpmbefhfbdjaaGreatDoorCode
import Derived.Test.YtcfpmbefhfbdjaaGreatDoorBl
namespace Go.Proofs.YtcfpmbefhfbdjaaGreatDoor
open Go.RowKit
open Go.Av
open Go.Lc
set_option maxRecDepth 100000
set_option linter.unusedSimpArgs false
set_option linter.unusedVariables false
set_option maxHeartbeats 4000000
def kp119:Keep:=fun i=>if i=3 then⟨[0,3,5,8,9],[3,27],[(5,none,27,37)]⟩ else if i=1000007 then⟨[0,3,5,8,9],[3,27],[]⟩ else⟨[],[],[]⟩
theorem w119 {T:Tab}(hO:T.own=fun _=>[]) (hT115:T 115=some K115.G) (hT144:T 144=some G144) (a0:(List Tapi_Coin)) (a1:Tapi_Coin) (x:(List Tapi_Coin)) (hr:ZbE a0 a1=some x):∃ kp fl n,ZZ tt T G kp fl n Tryz.f119 (Zho (a0,a1))=some (Zjl (a0,a1) x):=by
 simp only[Zho,Zjl];refine fnE (kp:=kp119) (w:=false) body119 (by simp) ?_;unfold c119;rw[Tryz.ntmps119];unfold ZbE at hr;refine Zd rfl (by simp[Nat.add_assoc,]; rfl) ?_;refine Zd rfl (by simp[Nat.add_assoc,]; rfl) ?_;refine ZH ?_;refine Zd rfl (by simp[Nat.add_assoc,]; rfl) ?_;refine ZD ?_;refine X8 (kq:=⟨[0,3,5,8,9],[3,27],[(5,none,27,37)]⟩) (H:=fun(s:Int×(List Tapi_Coin))=>match s with | (p10,p11)=>(⟨([.one (.slice .no (List.map Zr a0))]++(und 2++([.ptr 3 0 0 0 37]++(und 1++([.one (.ms 27 0 0 (p11.length) 37)]++(und 2++([.one (.v (.int .i64 (a0.length:Int))),.one (.v (.int .i64 p10))]++(und 29))))))):List PV),([(3,⟨0,37,[(arC .u8 a1.1.1)++((.v (.int .u32 a1.1.2)) :: ((.v (.int .i64 a1.2.1.1)) :: ((.slice .no (Zg .u8 a1.2.1.2)) :: ((.v (.int .i64 a1.2.2.1)) :: ((.v (.bool a1.2.2.2)) :: [])))))],false,false⟩),(27,⟨0,37,List.map Zr p11,false,true⟩)]:Boxes)⟩:ASt)) (by kernel_rfl) hr (by simp[Nat.add_assoc,und,List.replicate,]) ?_;rintro⟨p10,p11⟩ x35r hr35
 simp only[Zij] at hr35;unfold b119_1;simp only[und,List.replicate,List.cons_append,List.nil_append];refine Zd rfl (by simp[Nat.add_assoc,]; rfl) ?_;by_cases c36:p10<(a0.length:Int)
 ·skip
  have c36N:=c36;try simp at c36N
  first | have c36M:(_=_)=True:=eq_true c36N | have c36M:=c36N
  rw[if_pos] at hr35;rotate_left
  ·simp[Nat.add_assoc,c36,c36M]
  refine ZC (by simp[Nat.add_assoc,bV,c36,c36M]) ?_;refine ZM ?_;refine ZD ?_;refine Zd rfl (by simp[Nat.add_assoc,c36,c36M] <;> rfl) ?_;obtain⟨x37,hx37,hr35⟩:=bs hr35;obtain⟨hx37a,hx37b⟩:=Zcb hx37;have hx37c:=YL hx37b;obtain⟨y38,hy38,hr35⟩:=bs hr35;have ehy38:=Zrb hy38;simp only[Zgz,ZiD,kS,nf,nfs,Yp] at ehy38;refine Xf rfl (by simp[Nat.add_assoc,hx37a,hx37b,hx37c,hO,hT144,ehy38,c36,c36M]; first | exact⟨rfl,rfl⟩ | rfl) (by kernel_rfl) ?_;refine ZrI hr35 (.normal) (fun(s:(List Tapi_Coin))=>match s with | p23=>(⟨([.one (.slice .no (List.map Zr a0))]++(und 2++([.ptr 3 0 0 0 37]++(und 1++([.one (.ms 27 0 0 (p23.length) 37)]++(und 2++([.one (.v (.int .i64 (a0.length:Int))),.one (.v (.int .i64 p10))]++(und 29))))))):List PV),([(3,⟨0,37,[(arC .u8 a1.1.1)++((.v (.int .u32 a1.1.2)) :: ((.v (.int .i64 a1.2.1.1)) :: ((.slice .no (Zg .u8 a1.2.1.2)) :: ((.v (.int .i64 a1.2.2.1)) :: ((.v (.bool a1.2.2.2)) :: [])))))],false,false⟩),(27,⟨0,37,List.map Zr p23,false,true⟩)]:Boxes)⟩:ASt)) (fun(s:(List Tapi_Coin))=>match s with | p23=>ZcM p10 p23) ?_ ?_
  ·skip
   rintro p23 hk41
   change ZcM p10 p23=_ at hk41
   simp only[pq,reduceCtorEq];simp only[und,List.replicate,List.cons_append,List.nil_append];unfold ZcM at hk41;refine ZkI rfl (kq:=⟨[0,3,5,8,9],[3,27],[]⟩) rfl (by simp[Nat.add_assoc,Zbd,c36,c36M]; rfl) (by simp[Nat.add_assoc,c36,c36M] <;> rfl) ?_;obtain rfl:=Option.some.inj hk41;simp only[pq,reduceCtorEq];simp[Nat.add_assoc,und,List.replicate,Nat.add_assoc,c36,c36M]
  ·skip
   intro J41;simp only[pq,reduceCtorEq] at J41;by_cases c42:y38<0
   ·skip
    rw[if_pos c42] at hr35;refine Zg7 (by simp[Nat.add_assoc,bV,c36,c36M,c42]) ?_;obtain⟨hx37a,hx37b⟩:=Zcb hx37;have hx37c:=YL hx37b;obtain⟨_,u43,hr35⟩:=bs hr35;have u43_0:=ZK u43;have n1_u43_0:(p11.length+1) * 88≤140737488355328:=by omega
    have n2_u43_0:p11.length+1≤9223372036854775807:=by omega
    refine XY rfl (by simp[Nat.add_assoc,hx37a,hx37b,hx37c,n1_u43_0,n2_u43_0,c36,c36M,c42] <;> rfl) ?_;simp only[pq,reduceCtorEq];exact Zhq (key:=1000007) (kq:=⟨[0,3,5,8,9],[3,27],[]⟩) rfl rfl rfl (by simp[Nat.add_assoc,und,List.replicate,c36,c36M,c42]) (J41 (p11++[x37]) hr35)
   ·skip
    rw[if_neg c42] at hr35;refine Zg8 (by simp[Nat.add_assoc,bV,c36,c36M,c42]) ?_;refine Zic ?_;simp only[pq,reduceCtorEq];exact Zhq (key:=1000007) (kq:=⟨[0,3,5,8,9],[3,27],[]⟩) rfl rfl rfl (by simp[Nat.add_assoc,und,List.replicate,c36,c36M,c42]) (J41 p11 hr35)
 ·skip
  have c36N:=c36;try simp at c36N
  first | have c36M:(_=_)=True:=eq_true c36N | have c36M:=c36N
  rw[if_neg] at hr35;rotate_left
  ·simp[Nat.add_assoc,c36,c36M]
  refine ZF (by simp[Nat.add_assoc,bV,c36,c36M]) ?_;refine Ys ?_;obtain⟨r44,q44,rfl⟩:=ms hr35;simp only[pq,reduceCtorEq];rintro rfl
  try simp only[pq,reduceCtorEq]
  unfold Zii at q44;obtain⟨y45,hy45,q44⟩:=bs q44;have ehy45:=K115.q1 hy45;simp only[K115,kS,nf,nfs,Yp] at ehy45;obtain⟨_,u46,q44⟩:=bs q44;have u46_0:=ZK u46;have n1_u46_0:(p11.length+1) * 88≤140737488355328:=by omega
  have n2_u46_0:p11.length+1≤9223372036854775807:=by omega
  obtain⟨_,u47,q44⟩:=bs q44;obtain⟨u47_0,u47_1⟩:=ZK u47;have sf48:((p11.length:Int)).toNat≤a0.length:=by omega
  obtain⟨_,u49,q44⟩:=bs q44;have u49_0:=ZK u49;have u49_0N:=u49_0;try simp at u49_0N
  have n1_u49_0:(p11.length+(1+((a0).drop (((p11.length:Int)).toNat)).length)) * 88≤140737488355328:=by
   have h:=u49_0;try simp at h
   first | omega | (simp only[List.length_take,List.length_drop] at h ⊢; omega) | (simp only[List.length_take,List.length_drop]; omega)
  have n2_u49_0:p11.length+(1+((a0).drop (((p11.length:Int)).toNat)).length)≤9223372036854775807:=by
   have h:=u49_0;try simp at h
   first | omega | (simp only[List.length_take,List.length_drop] at h ⊢; omega) | (simp only[List.length_take,List.length_drop]; omega)
  have n1s_u49_0:=n1_u49_0;try simp only[List.length_drop,List.length_take,Nat.min_self,Nat.sub_le_iff_le_add,Nat.min_eq_left,sf48] at n1s_u49_0
  have n2s_u49_0:=n2_u49_0;try simp only[List.length_drop,List.length_take,Nat.min_self,Nat.sub_le_iff_le_add,Nat.min_eq_left,sf48] at n2s_u49_0
  have z1:p11.length≤a0.length:=by omega
  have z2:(p11.length+(1+(a0.length-p11.length))) * 88≤140737488355328:=by omega
  have z3:p11.length+(1+(a0.length-p11.length))≤9223372036854775807:=by omega
  have z4:1+(a0.length-p11.length)≤a0.length-p11.length+1:=by omega
  have z5:∀ c:List Cell,List.take (1+(a0.length-p11.length)) (c :: List.drop p11.length (List.map Zr a0))=c :: List.drop p11.length (List.map Zr a0):=fun c=>List.take_of_length_le (by simp; omega)
  refine Xf rfl (by simp[Nat.add_assoc,z1,z2,z3,hO,hT115,ehy45,n1_u46_0,n2_u46_0,u47_0,u47_1,sf48,u49_0N,n1_u49_0,n2_u49_0,n1s_u49_0,n2s_u49_0,c36,c36M]; first | exact⟨rfl,rfl⟩ | rfl) (by kernel_rfl) ?_;refine Zaf ?_;obtain rfl:=Option.some.inj q44;simp[Nat.add_assoc,z4,z5,YW,hO,hT115,ehy45,n1_u46_0,n2_u46_0,u47_0,u47_1,sf48,u49_0N,n1_u49_0,n2_u49_0,n1s_u49_0,n2s_u49_0,c36,c36M,c36N]
theorem w80:Walk tt G [(79,K79.G),(82,K82.G),(119,G119)] (fun _=>[]) Tryz.f80 K80:=by
 refine .ak [(2,⟨[0,2,4,14,15,16],[4,14],[]⟩),(8,⟨[0,28,29,30],[28],[]⟩)] false Tryz.ntmps80 fun T hO hT ⟨a0,a1,a2⟩ x=>?_
 simp only[Zh] at hT; simp only[kS,nfs,Zgh,Zg1,Ze9];refine au ?_
 intros; refine lpP 2 (fun p9=>([(16,.one (.v (.int .i64 p9)))],[])) ?_; rintro p9 x; simp only[Zg2,Zg1,Ze9]
 refine au ?_
 intros; refine lpP 8 (fun⟨p22,p23⟩=>([(0,.one (.slice .no (List.map Zr p22))),(30,.one (.v (.int .i64 p23)))],[])) ?_; rintro⟨p22,p23⟩ x; simp only[Zi8,Zg1,Ze9]
 exact au
theorem w81:Walk tt G [] (fun _=>[]) Tryz.f81 K81:=by
 refine .ak [(3,⟨[3,6,7,8],[],[]⟩)] false Tryz.ntmps81 fun T hO hT a0 x=>?_
 simp only[Zh] at hT; simp only[kS,nfs,Zdc,ZhS];refine au ?_
 intros; refine lpP 3 (fun⟨p5,p6⟩=>([(3,.one (.v (.int .i64 p5))),(8,.one (.v (.int .i64 p6)))],[])) ?_; rintro⟨p5,p6⟩ x; simp only[ZhT,ZhS]
 exact au
end Go.Proofs.YtcfpmbefhfbdjaaGreatDoor
