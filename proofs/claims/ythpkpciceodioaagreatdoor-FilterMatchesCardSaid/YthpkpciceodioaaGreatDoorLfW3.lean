import Derived.Test.YthpkpciceodioaaGreatDoorLfK
import Derived.Test.YthpkpciceodioaaGreatDoorCode
import Derived.Test.YthpkpciceodioaaGreatDoorBl
namespace Go.Proofs.YthpkpciceodioaaGreatDoor
open Go.RowKit
open Go.Av
open Go.Lc
set_option maxRecDepth 100000
set_option linter.unusedSimpArgs false
set_option linter.unusedVariables false
set_option maxHeartbeats 4000000
theorem w205_4 : Walk tt G [] (fun _=>[]) Tryz.f205 K205_4:=by
 refine .of [(2,⟨[0,6,7],[1000000],[]⟩)] false body205 Tryz.ntmps205 fun T hO hT ⟨a0,a1,a2⟩ x hr=>⟨by simp,?_⟩
 simp only [Zq] at hT; simp only at hr ⊢; unfold c205;unfold Yu at hr;refine goL ?_;refine lp 2 (fun (⟨p14,p15,p16⟩ : Int×Int×(List Int))=>⟨([.one (.ms 1000000 0 0 (p16.length) 1)]++(und 5++([.one (.v (.int .i64 p14)),.one (.v (.int .i64 p15))]++(und 24))) : List PV),([(1000000,⟨0,1,Ze .u64 p16,false,true⟩)] : Boxes)⟩) hr ?_;rintro ⟨p14,p15,p16⟩ x22r hr22
 simp only [YG] at hr22;unfold b205_1;refine nst ?_;refine goL ?_;by_cases c23 : p14 < p15
 ·replace hr22:=ifP hr22
  refine goL ?_;obtain ⟨j24,⟨_,j24b,_⟩,hr22⟩:=bA hr22;obtain ⟨_,hx25,hr22⟩:=bs hr22;have ghx25:=Zj hx25;obtain ⟨_,⟨_,_,_⟩,hr22⟩:=bA hr22;obtain ⟨_,hx27,hr22⟩:=bs hr22;have ghx27:=Zj hx27;obtain ⟨j28,⟨_,j28b,j28c⟩,hr22⟩:=bA hr22;try simp only [List.length_set] at j28c
  obtain rfl : j24 = j28:=j24b.symm.trans j28b;refine goL ?_;exact bk hr22
 ·replace hr22:=ifN hr22
  refine goL ?_;obtain ⟨_,hr22⟩:=bC hr22;exact fin hr22
theorem w206_5 : Walk tt G [(156,K156.G)] (fun _=>[]) Tryz.f206 K206_5:=by
 refine .of [(3,⟨[0,1,2,7,8],[1000000],[]⟩),(1000007,⟨[0,1,2,7,8],[1000000],[]⟩),(1000018,⟨[0,1,2,7,8],[1000000],[]⟩),(1000004,⟨[0,1,2,7,8],[1000000],[]⟩),(20,⟨[0,1,2,7,8,10],[1000000],[]⟩),(14,⟨[0,1,2,7,8,9],[1000000],[]⟩),(5,⟨[0,1,2,7,8],[1000000],[]⟩)] false body206 Tryz.ntmps206 fun T hO hT ⟨a0,a1,a2⟩ x hr=>⟨by simp,?_⟩
 simp only [Zq] at hT; simp only at hr ⊢; unfold c206;unfold Ya at hr;refine goL ?_;refine lp 3 (fun (⟨p146,p147,p148⟩ : Int×Int×(List Int))=>⟨([.one (.ms 1000000 0 0 (p148.length) 1),.one (.v (.int .i64 a1)),.one (.v (.int .i64 a2))]++(und 4++([.one (.v (.int .i64 p146)),.one (.v (.int .i64 p147))]++(und 124))) : List PV),([(1000000,⟨0,1,Ze .u64 p148,false,true⟩)] : Boxes)⟩) hr ?_;rintro ⟨p146,p147,p148⟩ x428r hr428
 simp only [ZL] at hr428;unfold b206_1;refine nst ?_;refine goL ?_;by_cases c429 : p147 < 5
 ·replace hr428:=ifP hr428
  refine goL ?_;refine Zb7 hr428 (.exit 2) (fun (s : Int)=>match s with | p233=>(⟨([.one (.ms 1000000 0 0 (p148.length) 1),.one (.v (.int .i64 a1)),.one (.v (.int .i64 a2))]++(und 4++([.one (.v (.int .i64 p233)),.one (.v (.int .i64 p147))]++(und 124))) : List PV),([(1000000,⟨0,1,Ze .u64 p148,false,true⟩)] : Boxes)⟩ : ASt)) (fun (s : Int)=>match s with | p233=>Zv p233 a2 p148 a0 a1 p147) ?_ ?_
  ·rintro p233 hk442
   change Zv p233 a2 p148 a0 a1 p147 = _ at hk442
   refine goL ?_;refine nst ?_;unfold Zv at hk442;refine goL ?_;refine Y5 rfl (kq:=⟨[0,1,2,7,8],[1000000],[]⟩) rfl (by simp [-Zb,Za,Yk, *]; rfl) (by simp [-Zb,Za, *]; rfl) ?_;rcases eqT (p233 = a2) with c443 | c443
   ·replace hk442:=ifP hk442
    refine goL ?_;obtain ⟨_,hk442⟩:=bC hk442;exact fin hk442
   ·replace hk442:=ifN hk442
    refine goL ?_;by_cases c445 : IntKind.i64.wrap (a2 - a1) < 50
    ·replace hk442:=ifP hk442
     refine goL ?_;obtain ⟨_,hk442⟩:=bC hk442;exact fin hk442
    ·replace hk442:=ifN hk442
     refine goL ?_;obtain ⟨j447,⟨_,j447b,_⟩,hk442⟩:=bA hk442;obtain ⟨x448,hx448,hk442⟩:=bs hk442;have ghx448:=Zj hx448;obtain ⟨j449,⟨_,_,_⟩,hk442⟩:=bA hk442;obtain ⟨x450,hx450,hk442⟩:=bs hk442;have ghx450:=Zj hx450;obtain ⟨j451,⟨_,j451b,j451c⟩,hk442⟩:=bA hk442;try simp only [List.length_set] at j451c
     obtain rfl : j447 = j451:=j447b.symm.trans j451b;refine goL ?_;refine Zcj hk442 (fun (s : (List Int))=>match s with | p267=>(⟨([.one (.ms 1000000 0 0 (p267.length) 1),.one (.v (.int .i64 a1)),.one (.v (.int .i64 a2))]++(und 4++([.one (.v (.int .i64 p233)),.one (.v (.int .i64 p147))]++(und 124))) : List PV),([(1000000,⟨0,1,Ze .u64 p267,false,true⟩)] : Boxes)⟩ : ASt)) (fun (s : (List Int))=>match s with | p267=>Zu a2 p233 p147 p267) ?_ ?_
     ·rintro p267 hk464
      change Zu a2 p233 p147 p267 = _ at hk464
      refine nst ?_;unfold Zu at hk464;refine Y5 rfl (kq:=⟨[0,1,2,7,8],[1000000],[]⟩) rfl (by simp [-Zb,Za,Yk, *]; rfl) (by simp [-Zb,Za, *]; rfl) ?_;refine Zb7 hk464 (.normal) (fun (s : (List Int))=>match s with | p290=>(⟨([.one (.ms 1000000 0 0 (p290.length) 1),.one (.v (.int .i64 a1)),.one (.v (.int .i64 a2))]++(und 4++([.one (.v (.int .i64 p233)),.one (.v (.int .i64 p147))]++(und 124))) : List PV),([(1000000,⟨0,1,Ze .u64 p290,false,true⟩)] : Boxes)⟩ : ASt)) (fun (s : (List Int))=>match s with | p290=>Zt p233 p147 p290) ?_ ?_
      ·rintro p290 hk477
       change Zt p233 p147 p290 = _ at hk477
       refine goL ?_;refine nst ?_;unfold Zt at hk477;refine Zb8 rfl (kq:=⟨[0,1,2,7,8],[1000000],[]⟩) rfl (by simp [-Zb,Za,Yk, *]; rfl) (by simp [-Zb,Za, *]; rfl) ?_;exact bk hk477
      ·intro J477
       simp only [pq,reduceCtorEq] at J477;by_cases c478 : 2≤IntKind.i64.wrap (a2 - p233)
       ·replace hk464:=ifP hk464
        refine goL ?_;refine lp 20 (fun (⟨p305,p306⟩ : Int×(List Int))=>⟨([.one (.ms 1000000 0 0 (p306.length) 1),.one (.v (.int .i64 a1)),.one (.v (.int .i64 a2))]++(und 4++([.one (.v (.int .i64 p233)),.one (.v (.int .i64 p147))]++(und 1++([.one (.v (.int .i64 p305))]++(und 122))))) : List PV),([(1000000,⟨0,1,Ze .u64 p306,false,true⟩)] : Boxes)⟩) hk464 ?_;rintro ⟨p305,p306⟩ x479r hr479
        simp only [Z3] at hr479;unfold b206_4;refine nst ?_;refine goL ?_;by_cases c480 : p305 < a2
        ·replace hr479:=ifP hr479
         refine goL ?_;obtain ⟨_,⟨_,_,_⟩,hr479⟩:=bA hr479;obtain ⟨_,hx482,hr479⟩:=bs hr479;have ghx482:=Zj hx482;obtain ⟨j483,⟨_,j483b,_⟩,hr479⟩:=bA hr479;obtain ⟨_,hx484,hr479⟩:=bs hr479;have ghx484:=Zj hx484;obtain ⟨y485,ehy485,hr479⟩:=bN hr479 Zag;try simp only [Za] at ehy485
         refine goL ?_;by_cases c486 : y485 = true
         ·replace hr479:=ifN hr479
          refine goL ?_;have ghx484:=Zj hx484;have ghx482:=Zj hx482;obtain ⟨j487,⟨_,j487b,j487c⟩,hr479⟩:=bA hr479;try simp only [List.length_set] at j487c
          obtain rfl : j483 = j487:=j483b.symm.trans j487b;refine goL ?_;exact bk hr479
         ·replace hr479:=ifP hr479
          refine goL ?_;obtain ⟨r488,q488,rfl⟩:=ms hr479;refine goL ?_;rintro rfl
          refine goL ?_;exact jn 1000004 (J477 p306 q488)
        ·replace hr479:=ifN hr479
         refine goL ?_;obtain ⟨r489,q489,rfl⟩:=ms hr479;refine goL ?_;rintro rfl
         refine goL ?_;exact jn 1000004 (J477 p306 q489)
       ·replace hk464:=ifN hk464
        refine goL ?_;exact jn 1000004 (J477 p267 hk464)
     ·intro J464
      by_cases c490 : 2≤IntKind.i64.wrap (p233 - a1)
      ·replace hk442:=ifP hk442
       refine goL ?_;refine lp 14 (fun (⟨p327,p328⟩ : Int×(List Int))=>⟨([.one (.ms 1000000 0 0 (p328.length) 1),.one (.v (.int .i64 a1)),.one (.v (.int .i64 a2))]++(und 4++([.one (.v (.int .i64 p233)),.one (.v (.int .i64 p147)),.one (.v (.int .i64 p327))]++(und 123))) : List PV),([(1000000,⟨0,1,Ze .u64 p328,false,true⟩)] : Boxes)⟩) hk442 ?_;rintro ⟨p327,p328⟩ x491r hr491
       simp only [Z4] at hr491;unfold b206_3;refine nst ?_;refine goL ?_;by_cases c492 : 1≤p327
       ·replace hr491:=ifP hr491
        refine goL ?_;obtain ⟨_,⟨_,_,_⟩,hr491⟩:=bA hr491;obtain ⟨_,hx494,hr491⟩:=bs hr491;have ghx494:=Zj hx494;obtain ⟨j495,⟨_,j495b,_⟩,hr491⟩:=bA hr491;obtain ⟨_,hx496,hr491⟩:=bs hr491;have ghx496:=Zj hx496;obtain ⟨y497,ehy497,hr491⟩:=bN hr491 Zag;try simp only [Za] at ehy497
        refine goL ?_;by_cases c498 : y497 = true
        ·replace hr491:=ifN hr491
         refine goL ?_;have ghx496:=Zj hx496;have ghx494:=Zj hx494;obtain ⟨j499,⟨_,j499b,j499c⟩,hr491⟩:=bA hr491;try simp only [List.length_set] at j499c
         obtain rfl : j495 = j499:=j495b.symm.trans j499b;refine goL ?_;exact bk hr491
        ·replace hr491:=ifP hr491
         refine goL ?_;obtain ⟨r500,q500,rfl⟩:=ms hr491;refine goL ?_;rintro rfl
         refine goL ?_;exact jn 1000018 (J464 p328 q500)
       ·replace hr491:=ifN hr491
        refine goL ?_;obtain ⟨r501,q501,rfl⟩:=ms hr491;refine goL ?_;rintro rfl
        refine goL ?_;exact jn 1000018 (J464 p328 q501)
      ·replace hk442:=ifN hk442
       refine goL ?_;exact jn 1000018 (J464 (((p148).set j449 x448).set j447 x450) hk442)
  ·intro J442
   simp only [pq,reduceCtorEq] at J442;refine lp 5 (fun (p233 : Int)=>⟨([.one (.ms 1000000 0 0 (p148.length) 1),.one (.v (.int .i64 a1)),.one (.v (.int .i64 a2))]++(und 4++([.one (.v (.int .i64 p233)),.one (.v (.int .i64 p147))]++(und 124))) : List PV),([(1000000,⟨0,1,Ze .u64 p148,false,true⟩)] : Boxes)⟩) hr428 ?_;rintro p233 x502r hr502
   simp only [Z5] at hr502;unfold b206_2;refine nst ?_;refine goL ?_;by_cases c503 : p233 < a2
   ·replace hr502:=Zgb hr502
    obtain ⟨_,hz504,hr502⟩:=bs hr502;obtain ⟨_,⟨_,_,_⟩,hz504⟩:=bA hz504;obtain ⟨_,hx506,hz504⟩:=bs hz504;have ghx506:=Zj hx506;obtain ⟨_,⟨_,_,_⟩,hz504⟩:=bA hz504;obtain ⟨_,hx508,hz504⟩:=bs hz504;have ghx508:=Zj hx508;obtain ⟨y509,ehy509,hz504⟩:=bN hz504 Zag;try simp only [Za] at ehy509
    obtain rfl:=Option.some.inj hz504;refine goL ?_;by_cases c510 : y509 = true
    ·replace hr502:=ifN hr502
     refine goL ?_;obtain ⟨r511,q511,rfl⟩:=ms hr502;refine goL ?_;rintro rfl
     refine goL ?_;exact jn 1000007 (J442 p233 q511)
    ·replace hr502:=ifP hr502
     refine goL ?_;exact bk hr502
   ·replace hr502:=Zgc hr502
    obtain ⟨_,hz512,hr502⟩:=bs hr502;obtain rfl:=Option.some.inj hz512;refine goL ?_
    replace hr502:=ifN hr502
    refine goL ?_;obtain ⟨r513,q513,rfl⟩:=ms hr502;refine goL ?_;rintro rfl
    refine goL ?_;exact jn 1000007 (J442 p233 q513)
 ·replace hr428:=ifN hr428
  refine goL ?_;obtain ⟨r514,q514,rfl⟩:=ms hr428;refine goL ?_;rintro rfl
  refine goL ?_;unfold Y9 at q514;refine goL ?_;obtain ⟨_,q514⟩:=bC q514;exact fin q514
end Go.Proofs.YthpkpciceodioaaGreatDoor
