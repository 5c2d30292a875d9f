import Derived.Test.YthpkpciceodioaaGreatDoorLfK
import Derived.Test.YthpkpciceodioaaGreatDoorCode
import Derived.Test.YthpkpciceodioaaGreatDoorBl
namespace Go.Proofs.YthpkpciceodioaaGreatDoor
open Go.RowKit
open Go.Av
open Go.Lc
set_option maxRecDepth 100000
set_option linter.unusedSimpArgs false
set_option linter.unusedVariables false
set_option maxHeartbeats 4000000
def kp117 : Keep:=fun i=>if i = 3 then ⟨[1,5,6],[5],[]⟩ else ⟨[],[],[]⟩
theorem w117 {T : Tab} (hO : T.own = fun _=>[]) (hT78 : T 78 = some K78.G) (hT167 : T 167 = some G167) (hT168 : T 168 = some K168.G) (a0 : (Arr 2)) (a1 : (List Int)) (x : Int) (hr : Zcl a0 a1 = some x) : ∃ kp fl n,Y8 tt T G kp fl n Tryz.f117 (Zg3 (a0,a1)) = some (Zjw (a0,a1) x):=by
 simp only [Zg3,Zjw];refine fnE (kp:=kp117) (w:=false) body117 (by simp) ?_;unfold c117;rw [Tryz.ntmps117];unfold Zcl at hr;refine Zd rfl (by simp []; rfl) ?_;have ar27:=YH (k:=.u64) (a0) (i:=0) (by decide);have as28:=YO (k:=.u64) (a0) (i:=0) (by decide);have ar29:=YH (k:=.u64) (a0) (i:=1) (by decide);have as30:=YO (k:=.u64) (a0) (i:=1) (by decide);have ar31:=YH (k:=.u64) (a0) (i:=0) (by decide);have as32:=YO (k:=.u64) (a0) (i:=0) (by decide);have ar33:=YH (k:=.u64) (a0) (i:=1) (by decide);have as34:=YO (k:=.u64) (a0) (i:=1) (by decide);have ap35:=Xd (k:=.u64) (zA 4) (i:=0) (by decide) (bits .xor .u64 (a0.at 0) 8317987319222330741);have ap36:=Xd (k:=.u64) ((zA 4).put 0 (bits .xor .u64 (a0.at 0) 8317987319222330741)) (i:=1) (by decide) (bits .xor .u64 (a0.at 1) 7237128888997146477);have ap37:=Xd (k:=.u64) (((zA 4).put 0 (bits .xor .u64 (a0.at 0) 8317987319222330741)).put 1 (bits .xor .u64 (a0.at 1) 7237128888997146477)) (i:=2) (by decide) (bits .xor .u64 (a0.at 0) 7816392313619706465);have ap38:=Xd (k:=.u64) ((((zA 4).put 0 (bits .xor .u64 (a0.at 0) 8317987319222330741)).put 1 (bits .xor .u64 (a0.at 1) 7237128888997146477)).put 2 (bits .xor .u64 (a0.at 0) 7816392313619706465)) (i:=3) (by decide) (bits .xor .u64 (a0.at 1) 8387220255154660723);refine Zd rfl (by simp [ar27,as28,ar29,as30,ar31,as32,ar33,as34,ap35,ap36,ap37,ap38]; rfl) ?_;refine Zd rfl (by simp []; rfl) ?_;refine Yd ?_;refine XB (kq:=⟨[1,5,6],[5],[]⟩) (H:=fun (s : (List Int)×(Arr 4))=>match s with | (p11,p12)=>(⟨(und 1++([.one (.slice .no (Ze .u8 p11))]++(und 3++([.ptr 5 0 0 0 4,.one (.v (.int .i64 (a1.length : Int)))]++(und 54)))) : List PV),([(5,⟨0,4,[arC .u64 p12],false,false⟩)] : Boxes)⟩ : ASt)) (by kernel_rfl) hr (by simp [und,List.replicate,]) ?_;rintro ⟨p11,p12⟩ x48r hr48
 simp only [Zcw] at hr48;unfold b117_1;simp only [und,List.replicate,List.cons_append,List.nil_append];refine Zy ?_;refine Zd rfl (by simp []; rfl) ?_;by_cases c49 : 8≤(p11.length : Int)
 ·skip
  have c49N:=c49;try simp at c49N
  first | have c49M : (_ = _) = True:=eq_true c49N | have c49M:=c49N
  rw [if_pos] at hr48;rotate_left
  ·simp [c49,c49M]
  refine ZB (by simp [bV,c49,c49M]) ?_;refine Zz ?_;refine XH ?_;obtain ⟨_,u50,hr48⟩:=bs hr48;have u50_0:=ZA u50;have sf51 : 8≤p11.length:=by omega
  obtain ⟨y52,hy52,hr48⟩:=bs hr48;have ehy52:=Zi9 hy52;simp only [K78,nf,nfs] at ehy52;obtain ⟨y53,hy53,hr48⟩:=bs hr48;have ehy53:=Zl7 hy53;simp only [Zgg,Ziy,nf,nfs] at ehy53;obtain ⟨_,u54,hr48⟩:=bs hr48;have u54_0:=ZA u54;have sf55 : 8≤p11.length:=by omega
  refine Zfw rfl (by simp [u50_0,sf51,hO,hT78,ehy52,hT167,ehy53,u54_0,sf55,c49,c49M]; first | exact ⟨rfl,rfl⟩ | rfl) (by kernel_rfl) ?_;obtain rfl:=Option.some.inj hr48;simp only [pq,reduceCtorEq];simp [und,List.replicate,Nat.add_assoc,u50_0,sf51,hO,hT78,ehy52,hT167,ehy53,u54_0,sf55,c49,c49M]
 ·skip
  have c49N:=c49;try simp at c49N
  first | have c49M : (_ = _) = True:=eq_true c49N | have c49M:=c49N
  rw [if_neg] at hr48;rotate_left
  ·simp [c49,c49M]
  refine Zl (by simp [bV,c49,c49M]) ?_;refine Z0 ?_;obtain ⟨r56,q56,rfl⟩:=ms hr48;simp only [pq,reduceCtorEq];rintro rfl
  try simp only [pq,reduceCtorEq]
  unfold Ze8 at q56;obtain ⟨y57,hy57,q56⟩:=bs q56;have ehy57:=Zi9 hy57;simp only [K78,nf,nfs] at ehy57;obtain ⟨y58,hy58,q56⟩:=bs q56;have ehy58:=Zl7 hy58;simp only [Zgg,Ziy,nf,nfs] at ehy58;refine ZZ rfl (by simp [hO,hT78,ehy57,hT167,ehy58,c49,c49M]; first | exact ⟨rfl,rfl⟩ | rfl) (by kernel_rfl) ?_;have ar59:=YH (k:=.u64) (y58) (i:=2) (by decide);have as60:=YO (k:=.u64) (y58) (i:=2) (by decide);have ap61:=Xd (k:=.u64) (y58) (i:=2) (by decide) (bits .xor .u64 (y58.at 2) 255);refine Zd rfl (by simp [ar59,as60,ap61,c49,c49M] <;> rfl) ?_;obtain ⟨y62,hy62,q56⟩:=bs q56;have ehy62:=Zfz hy62;simp only [K168,nf,nfs] at ehy62;obtain ⟨y63,hy63,q56⟩:=bs q56;have ehy63:=Zfz hy63;simp only [K168,nf,nfs] at ehy63;obtain ⟨y64,hy64,q56⟩:=bs q56;have ehy64:=Zfz hy64;simp only [K168,nf,nfs] at ehy64;obtain ⟨y65,hy65,q56⟩:=bs q56;have ehy65:=Zfz hy65;simp only [K168,nf,nfs] at ehy65;refine Zd rfl (by simp [hO,hT168,ehy62,ehy63,ehy64,ehy65,c49,c49M] <;> rfl) ?_;have ar66:=YH (k:=.u64) (y65) (i:=0) (by decide);have as67:=YO (k:=.u64) (y65) (i:=0) (by decide);have ar68:=YH (k:=.u64) (y65) (i:=1) (by decide);have as69:=YO (k:=.u64) (y65) (i:=1) (by decide);have ar70:=YH (k:=.u64) (y65) (i:=2) (by decide);have as71:=YO (k:=.u64) (y65) (i:=2) (by decide);have ar72:=YH (k:=.u64) (y65) (i:=3) (by decide);have as73:=YO (k:=.u64) (y65) (i:=3) (by decide);refine Zd rfl (by simp [ar66,as67,ar68,as69,ar70,as71,ar72,as73,c49,c49M] <;> rfl) ?_;refine Zbm ?_;obtain rfl:=Option.some.inj q56;simp [Zaj,ar66,as67,ar68,as69,ar70,as71,ar72,as73,c49,c49M,c49N]
def kp75 : Keep:=fun i=>⟨[],[],[]⟩
theorem w75 {T : Tab} (hO : T.own = fun _=>[]) (hT116 : T 116 = some K116.G) (hT117 : T 117 = some G117) (a0 : (Arr 2)) (a1 : (List Int)) (a2 : Int) (a3 : Int) (x : Int) (hr : ZaK a0 a1 a2 a3 = some x) : ∃ kp fl n,Y8 tt T G kp fl n Tryz.f75 (E75 (a0,a1,a2,a3)) = some (R75 (a0,a1,a2,a3) x):=by
 simp only [E75,R75];refine fnE (kp:=kp75) (w:=false) body75 (by simp) ?_;unfold c75;rw [Tryz.ntmps75];unfold ZaK at hr;refine Zd rfl (by simp []; rfl) ?_;obtain ⟨y3,hy3,hr⟩:=bs hr;have ehy3:=ZqB hy3;simp only [Zg3,Zjw,nf,nfs] at ehy3;obtain ⟨y4,hy4,hr⟩:=bs hr;have ehy4:=ZqA hy4;simp only [K116,nf,nfs] at ehy4;refine Zd rfl (by simp [hO,hT117,ehy3,hT116,ehy4]; rfl) ?_;refine Zbm ?_;obtain rfl:=Option.some.inj hr;simp [Zaj,hO,hT117,ehy3,hT116,ehy4]
def kp77 : Keep:=fun i=>if i = 1000009 then ⟨[3,4,5],[900005],[]⟩ else if i = 5 then ⟨[3,4,5],[900005],[(5,none,900005,1)]⟩ else ⟨[],[],[]⟩
theorem w77 {T : Tab} (n : Nat) (hO : T.own = fun _=>[]) (hT77 : T 77 = some (Zm7 n)) (a0 : (List Int)) (x : (List Int)) (hr : ZbT (Lref19_sorted_n n) a0 = some x) : ∃ kp fl n,Y8 tt T G kp fl n Tryz.f77 (E77 a0) = some (R77 a0 x):=by
 simp only [E77,R77];refine fnE (kp:=kp77) (w:=false) body77 (by simp) ?_;unfold c77;rw [Tryz.ntmps77];unfold ZbT at hr;refine Zd rfl (by simp [-Int.natCast_tdiv_eq_ediv,Nat.add_assoc,]; rfl) ?_;refine Zy ?_;refine Zd rfl (by simp [-Int.natCast_tdiv_eq_ediv,Nat.add_assoc,]; rfl) ?_;by_cases c44 : (a0.length : Int) < 2
 ·skip
  have c44N:=c44;try simp at c44N
  first | have c44M : (_ = _) = True:=eq_true c44N | have c44M:=c44N
  rw [if_pos c44] at hr;refine ZB (by simp [-Int.natCast_tdiv_eq_ediv,Nat.add_assoc,bV,c44,c44M]) ?_;refine Zy ?_;refine Zd rfl (by simp [-Int.natCast_tdiv_eq_ediv,Nat.add_assoc,c44,c44M] <;> rfl) ?_;refine ZaD ?_;obtain rfl:=Option.some.inj hr;simp [-Int.natCast_tdiv_eq_ediv,Nat.add_assoc,Zaj,c44,c44M,c44N]
 ·skip
  have c44N:=c44;try simp at c44N
  first | have c44M : (_ = _) = True:=eq_true c44N | have c44M:=c44N
  rw [if_neg c44] at hr;refine Zl (by simp [-Int.natCast_tdiv_eq_ediv,Nat.add_assoc,bV,c44,c44M]) ?_;refine Zz ?_;obtain ⟨_,u45,hr⟩:=bs hr;obtain ⟨u45_0,u45_1⟩:=ZA u45;have sf46 : (IntKind.i64.wrap (((a0.length : Int)).tdiv 2)).toNat≤a0.length:=by omega
  have sf47 : 0≤IntKind.i64.wrap (((a0.length : Int)).tdiv 2):=by omega
  obtain ⟨y48,hy48,hr⟩:=bs hr;have ehy48:=Zl8 hy48;simp only [E77,R77,nf,nfs] at ehy48;obtain ⟨_,u49,hr⟩:=bs hr;obtain ⟨u49_0,u49_1⟩:=ZA u49;have sf50 : (IntKind.i64.wrap (((a0.length : Int)).tdiv 2)).toNat≤a0.length:=by omega
  obtain ⟨y51,hy51,hr⟩:=bs hr;have ehy51:=Zl8 hy51;simp only [E77,R77,nf,nfs] at ehy51;refine ZZ rfl (by simp [-Int.natCast_tdiv_eq_ediv,Nat.add_assoc,u45_0,u45_1,sf46,sf47,hO,hT77,ehy48,u49_0,u49_1,sf50,ehy51,c44,c44M]; first | exact ⟨rfl,rfl⟩ | rfl) (by kernel_rfl) ?_;refine Zd rfl (by simp [-Int.natCast_tdiv_eq_ediv,Nat.add_assoc,c44,c44M] <;> rfl) ?_;refine Yd ?_;refine Zb7 hr (.exit 0) (fun (s : (List Int)×(List Int)×(List Int))=>match s with | (p29,p27,p28)=>(⟨(und 3++([.one (.slice .no (Ze .u64 p27)),.one (.slice .no (Ze .u64 p28)),.one (.ms 900005 0 0 (p29.length) 1)]++(und 52)) : List PV),([(900005,⟨0,1,Ze .u64 p29,false,true⟩)] : Boxes)⟩ : ASt)) (fun (s : (List Int)×(List Int)×(List Int))=>match s with | (p29,p27,p28)=>Zab p29 p27 p28) ?_ ?_
  ·skip
   rintro ⟨p29,p27,p28⟩ hk66
   change Zab p29 p27 p28 = _ at hk66
   simp only [pq,reduceCtorEq];simp only [und,List.replicate,List.cons_append,List.nil_append];unfold Zab at hk66;obtain ⟨_,u67,hk66⟩:=bs hk66;have u67_0:=ZA u67;have n1_u67_0 : (p29.length + p27.length) * 8≤140737488355328:=by omega
   have n2_u67_0 : p29.length + p27.length≤9223372036854775807:=by omega
   obtain ⟨_,u68,hk66⟩:=bs hk66;have u68_0:=ZA u68
   have n1_u68_0 : (p29.length + (p27.length + p28.length)) * 8≤140737488355328:=by
    have h:=u68_0;try simp at h
    omega
   have n2_u68_0 : p29.length + (p27.length + p28.length)≤9223372036854775807:=by
    have h:=u68_0;try simp at h
    omega
   refine Y5 rfl (kq:=⟨[3,4,5],[900005],[]⟩) rfl (by simp [-Int.natCast_tdiv_eq_ediv,Nat.add_assoc,Yk,n1_u67_0,n2_u67_0,n1_u68_0,n2_u68_0,c44,c44M]; rfl) (by simp [-Int.natCast_tdiv_eq_ediv,Nat.add_assoc,n1_u67_0,n2_u67_0,n1_u68_0,n2_u68_0,c44,c44M] <;> rfl) ?_;refine Zbm ?_;obtain rfl:=Option.some.inj hk66;simp [-Int.natCast_tdiv_eq_ediv,Nat.add_assoc,Zaj,n1_u67_0,n2_u67_0,n1_u68_0,n2_u68_0,c44,c44M,c44N]
  ·skip
   intro J66;simp only [pq,reduceCtorEq] at J66;refine XB (kq:=⟨[3,4,5],[900005],[(5,none,900005,1)]⟩) (H:=fun (s : (List Int)×(List Int)×(List Int))=>match s with | (p27,p28,p29)=>(⟨(und 3++([.one (.slice .no (Ze .u64 p27)),.one (.slice .no (Ze .u64 p28)),.one (.ms 900005 0 0 (p29.length) 1)]++(und 52)) : List PV),([(900005,⟨0,1,Ze .u64 p29,false,true⟩)] : Boxes)⟩ : ASt)) (by kernel_rfl) hr (by simp [-Int.natCast_tdiv_eq_ediv,Nat.add_assoc,und,List.replicate,c44,c44M]) ?_;rintro ⟨p27,p28,p29⟩ x69r hr69
   simp only [Lref19_sorted_s1] at hr69;unfold b77_1;simp only [und,List.replicate,List.cons_append,List.nil_append];refine Zy ?_;by_cases c70 : 0 < (p27.length : Int)
   ·skip
    have c70N:=c70;try simp at c70N
    first | have c70M : (_ = _) = True:=eq_true c70N | have c70M:=c70N
    refine Zd rfl (by simp [-Int.natCast_tdiv_eq_ediv,Nat.add_assoc,c44,c44M,c70,c70M] <;> rfl) ?_;by_cases c71 : 0 < (p28.length : Int)
    ·skip
     have c71N:=c71;try simp at c71N
     first | have c71M : (_ = _) = True:=eq_true c71N | have c71M:=c71N
     rw [if_pos] at hr69;rotate_left
     ·simp [-Int.natCast_tdiv_eq_ediv,Nat.add_assoc,c44,c44M,c70,c70M,c71,c71M]
     refine ZB (by simp [-Int.natCast_tdiv_eq_ediv,Nat.add_assoc,bV,c44,c44M,c70,c70M,c71,c71M]) ?_;refine Zz ?_;refine XH ?_;obtain ⟨x72,hx72,hr69⟩:=bs hr69;have hx72c:=Zj hx72;obtain ⟨x73,hx73,hr69⟩:=bs hr69;have hx73c:=Zj hx73;refine ZZ rfl (by simp [-Int.natCast_tdiv_eq_ediv,Nat.add_assoc,hx72,hx72c,hx73,hx73c,c44,c44M,c70,c70M,c71,c71M]; first | exact ⟨rfl,rfl⟩ | rfl) (by kernel_rfl) ?_;by_cases c74 : x72≤x73
     ·skip
      rw [if_pos c74] at hr69;refine Zbn (by simp [-Int.natCast_tdiv_eq_ediv,Nat.add_assoc,bV,c44,c44M,c70,c70M,c71,c71M,c74]) ?_;have hx72c:=Zj hx72;obtain ⟨_,u75,hr69⟩:=bs hr69;have u75_0:=ZA u75;have n1_u75_0 : (p29.length + 1) * 8≤140737488355328:=by omega
      have n2_u75_0 : p29.length + 1≤9223372036854775807:=by omega
      obtain ⟨_,u76,hr69⟩:=bs hr69;have u76_0:=ZA u76;have sf77 : 1≤p27.length:=by omega
      refine Zfw rfl (by simp [-Int.natCast_tdiv_eq_ediv,Nat.add_assoc,hx72,hx72c,n1_u75_0,n2_u75_0,u76_0,sf77,c44,c44M,c70,c70M,c71,c71M,c74]; first | exact ⟨rfl,rfl⟩ | rfl) (by kernel_rfl) ?_;obtain rfl:=Option.some.inj hr69;simp only [pq,reduceCtorEq];simp [-Int.natCast_tdiv_eq_ediv,Nat.add_assoc,und,List.replicate,Nat.add_assoc,hx72,hx72c,n1_u75_0,n2_u75_0,u76_0,sf77,c44,c44M,c70,c70M,c71,c71M,c74]
     ·skip
      rw [if_neg c74] at hr69;refine Zbo (by simp [-Int.natCast_tdiv_eq_ediv,Nat.add_assoc,bV,c44,c44M,c70,c70M,c71,c71M,c74]) ?_;have hx73c:=Zj hx73;obtain ⟨_,u78,hr69⟩:=bs hr69;have u78_0:=ZA u78;have n1_u78_0 : (p29.length + 1) * 8≤140737488355328:=by omega
      have n2_u78_0 : p29.length + 1≤9223372036854775807:=by omega
      obtain ⟨_,u79,hr69⟩:=bs hr69;have u79_0:=ZA u79;have sf80 : 1≤p28.length:=by omega
      refine Zfw rfl (by simp [-Int.natCast_tdiv_eq_ediv,Nat.add_assoc,hx73,hx73c,n1_u78_0,n2_u78_0,u79_0,sf80,c44,c44M,c70,c70M,c71,c71M,c74]; first | exact ⟨rfl,rfl⟩ | rfl) (by kernel_rfl) ?_;obtain rfl:=Option.some.inj hr69;simp only [pq,reduceCtorEq];simp [-Int.natCast_tdiv_eq_ediv,Nat.add_assoc,und,List.replicate,Nat.add_assoc,hx73,hx73c,n1_u78_0,n2_u78_0,u79_0,sf80,c44,c44M,c70,c70M,c71,c71M,c74]
    ·skip
     have c71N:=c71;try simp at c71N
     first | have c71M : (_ = _) = True:=eq_true c71N | have c71M:=c71N
     have c71L : ¬ 0 < p28.length:=by omega
     rw [if_neg] at hr69;rotate_left
     ·simp [-Int.natCast_tdiv_eq_ediv,Nat.add_assoc,c44,c44M,c70,c70M,c71,c71M,c71L]
     refine Zl (by simp [-Int.natCast_tdiv_eq_ediv,Nat.add_assoc,bV,c44,c44M,c70,c70M,c71,c71M,c71L]) ?_;refine Z0 ?_;obtain ⟨r81,q81,rfl⟩:=ms hr69;simp only [pq,reduceCtorEq];rintro rfl
     try simp only [pq,reduceCtorEq]
     exact Y7 (key:=1000009) (kq:=⟨[3,4,5],[900005],[]⟩) rfl rfl rfl (by simp [-Int.natCast_tdiv_eq_ediv,Nat.add_assoc,und,List.replicate,c44,c44M,c70,c70M,c71,c71M,c71L]) (J66 (p29,p27,p28) q81)
   ·skip
    have c70N:=c70;try simp at c70N
    first | have c70M : (_ = _) = True:=eq_true c70N | have c70M:=c70N
    have c70L : ¬ 0 < p27.length:=by omega
    refine Zd rfl (by simp [-Int.natCast_tdiv_eq_ediv,Nat.add_assoc,c44,c44M,c70,c70M,c70L] <;> rfl) ?_;rw [if_neg] at hr69;rotate_left
    ·simp [-Int.natCast_tdiv_eq_ediv,Nat.add_assoc,c44,c44M,c70,c70M,c70L]
    refine Zl (by simp [-Int.natCast_tdiv_eq_ediv,Nat.add_assoc,bV,c44,c44M,c70,c70M,c70L]) ?_;refine Z0 ?_;obtain ⟨r82,q82,rfl⟩:=ms hr69;simp only [pq,reduceCtorEq];rintro rfl
    try simp only [pq,reduceCtorEq]
    exact Y7 (key:=1000009) (kq:=⟨[3,4,5],[900005],[]⟩) rfl rfl rfl (by simp [-Int.natCast_tdiv_eq_ediv,Nat.add_assoc,und,List.replicate,c44,c44M,c70,c70M,c70L]) (J66 (p29,p27,p28) q82)
theorem w87 : Walk tt G [(75,G75),(77,G77)] (fun _=>[]) Tryz.f87 K87:=by
 refine .of [(7,⟨[2,3,4,10,11,33,34,35],[4,46],[(10,none,46,1)]⟩),(12,⟨[11,49,50,51],[71],[(11,none,71,1)]⟩),(1000016,⟨[11,49,50,51],[71],[]⟩)] false body87 Tryz.ntmps87 fun T hO hT ⟨a0,a1,a2,a3⟩ x hr=>⟨by simp,?_⟩
 simp only [Zq] at hT; simp only at hr ⊢; unfold c87;unfold ZbF at hr;refine go ?_;by_cases c44 : 4096 < (a1.length : Int)
 ·have c44N:=nrm c44
  replace hr:=ifP hr
  refine go ?_;exact fin hr
 ·have c44N:=nrm c44
  replace hr:=ifN hr
  refine go ?_;by_cases c45 : a2 < 0
  ·refine go ?_
   replace hr:=ifP hr
   refine go ?_;exact fin hr
  ·by_cases c46 : 4096 < a2
   ·refine go ?_
    replace hr:=ifP hr
    refine go ?_;exact fin hr
   ·by_cases c47 : a3 < 1
    ·refine go ?_
     replace hr:=ifP hr
     refine go ?_;exact fin hr
    ·refine go ?_
     by_cases c48 : 1099511627776 < a3
     ·replace hr:=ifP hr
      refine go ?_;exact fin hr
     ·replace hr:=ifN hr
      refine go ?_;refine lp 7 (fun (⟨p8,p9⟩ : Int×(List Int))=>⟨(und 2++([.one (.v (.int .i64 a2)),.one (.v (.int .u64 a3)),.ptr 4 0 0 0 2]++(und 5++([.one (.ms 46 0 0 (p9.length) 1),.one (.slice .nil [])]++(und 21++([.one (.slice .no (List.map YF a1)),.one (.v (.int .i64 (a1.length : Int))),.one (.v (.int .i64 p8))]++(und 38)))))) : List PV),([(4,⟨0,2,[arC .u64 a0],false,false⟩),(46,⟨0,1,Ze .u64 p9,false,true⟩)] : Boxes)⟩) hr ?_;rintro ⟨p8,p9⟩ x55r hr55
      simp only [Zbv] at hr55;unfold b87_1;refine nst ?_;refine go ?_;by_cases c56 : p8 < (a1.length : Int)
      ·have c56N:=nrm c56
       replace hr55:=ifP hr55
       refine go ?_;obtain ⟨_,⟨_,_,_⟩,hr55⟩:=bI hr55;refine go ?_;obtain ⟨_,ehy58,hr55⟩:=bG hr55 fun _=>ZrI
       simp only [E75,R75,nf,nfs] at ehy58;obtain ⟨_,hr55⟩:=bC hr55;have n1_u59_0 : (p9.length + 1) * 8≤140737488355328:=by omega
       have n2_u59_0 : p9.length + 1≤9223372036854775807:=by omega
       refine go ?_;exact bk hr55
      ·have c56N:=nrm c56
       replace hr55:=ifN hr55
       refine go ?_;obtain ⟨r60,q60,rfl⟩:=ms hr55;refine go ?_;rintro rfl
       refine go ?_;unfold ZdZ at q60;refine go ?_;obtain ⟨y61,ehy61,q60⟩:=bG q60 fun _=>ZrJ
       simp only [E77,R77,nf,nfs] at ehy61;refine go ?_;refine lp 12 (fun (⟨p26,p27⟩ : Int×(List Int))=>⟨(und 11++([.one (.ms 71 0 0 (p27.length) 1)]++(und 37++([.one (.slice .no (Ze .u64 y61)),.one (.v (.int .i64 (y61.length : Int))),.one (.v (.int .i64 p26))]++(und 22)))) : List PV),([(71,⟨0,1,Ze .u64 p27,false,true⟩)] : Boxes)⟩) q60 ?_;rintro ⟨p26,p27⟩ x78r hr78
       simp only [Zbu] at hr78;unfold b87_2;refine nst ?_;refine go ?_;by_cases c79 : p26 < (y61.length : Int)
       ·have c79N:=nrm c79
        replace hr78:=ifP hr78
        refine go ?_;obtain ⟨x80,⟨_,_,_⟩,hr78⟩:=bI hr78;refine go ?_;rcases eqT (p26 = 0) with c81 | c81
        ·replace hr78:=Zgb hr78
         obtain ⟨_,hz82,hr78⟩:=bs hr78;obtain rfl:=Option.some.inj hz82;refine go ?_
         replace hr78:=ifP hr78
         refine go ?_;obtain ⟨_,hr78⟩:=bC hr78;have n1_u84_0 : (p27.length + 1) * 8≤140737488355328:=by omega
         have n2_u84_0 : p27.length + 1≤9223372036854775807:=by omega
         refine go ?_;unfold Xs at hr78;refine Zb8 rfl (kq:=⟨[11,49,50,51],[71],[]⟩) rfl (by simp [Yk, *]; rfl) (by simp [*] <;> rfl) ?_;exact bk hr78
        ·replace hr78:=Zgc hr78
         obtain ⟨_,hz85,hr78⟩:=bs hr78;obtain ⟨_,⟨_,_,_⟩,hz85⟩:=bA hz85;obtain ⟨x87,hx87,hz85⟩:=bs hz85;have ghx87:=Zj hx87;obtain rfl:=Option.some.inj hz85;refine go ?_;refine Zb7 hr78 (.normal) (fun (s : (List Int))=>match s with | p39=>(⟨(und 11++([.one (.ms 71 0 0 (p39.length) 1)]++(und 37++([.one (.slice .no (Ze .u64 y61)),.one (.v (.int .i64 (y61.length : Int))),.one (.v (.int .i64 p26))]++(und 22)))) : List PV),([(71,⟨0,1,Ze .u64 p39,false,true⟩)] : Boxes)⟩ : ASt)) (fun (s : (List Int))=>match s with | p39=>Xs p26 p39) ?_ ?_
         ·rintro p39 hk90
          change Xs p26 p39 = _ at hk90
          refine go ?_;refine nst ?_;unfold Xs at hk90;refine Zb8 rfl (kq:=⟨[11,49,50,51],[71],[]⟩) rfl (by simp [Yk, *]; rfl) (by simp [*] <;> rfl) ?_;exact bk hk90
         ·intro J90
          simp only [pq,reduceCtorEq] at J90;rcases eqT (x80 = x87) with c91 | c91
          ·replace hr78:=ifN hr78
           refine go ?_;exact jn 1000016 (J90 p27 hr78)
          ·replace hr78:=ifP hr78
           refine go ?_;obtain ⟨_,hr78⟩:=bC hr78;have n1_u92_0 : (p27.length + 1) * 8≤140737488355328:=by omega
           have n2_u92_0 : p27.length + 1≤9223372036854775807:=by omega
           refine go ?_;exact jn 1000016 (J90 (p27++[x80]) hr78)
       ·have c79N:=nrm c79
        replace hr78:=ifN hr78
        refine go ?_;obtain ⟨r93,q93,rfl⟩:=ms hr78;refine go ?_;rintro rfl
        refine go ?_;unfold ZdY at q93;refine go ?_;exact fin q93
end Go.Proofs.YthpkpciceodioaaGreatDoor
