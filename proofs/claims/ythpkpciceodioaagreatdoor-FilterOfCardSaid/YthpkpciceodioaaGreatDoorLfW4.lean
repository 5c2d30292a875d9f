import Derived.Test.YthpkpciceodioaaGreatDoorLfK
import Derived.Test.YthpkpciceodioaaGreatDoorCode
import Derived.Test.YthpkpciceodioaaGreatDoorBl
namespace Go.Proofs.YthpkpciceodioaaGreatDoor
open Go.RowKit
open Go.Av
open Go.Lc
set_option maxRecDepth 100000
set_option linter.unusedSimpArgs false
set_option linter.unusedVariables false
set_option maxHeartbeats 4000000
theorem w228_4:Walk tt G [(156,K156.G)] (fun _=>[]) Tryz.f228 K228_4:=by
 refine .of [(1,⟨[0,2,3,8],[1000000],[]⟩),(1000005,⟨[0,2,3,8,9],[1000000],[]⟩)] false body228 Tryz.ntmps228 fun T hO hT ⟨a0,a1,a2,a3⟩ x hr=>⟨by simp,?_⟩
 simp only [Zi] at hT; simp only at hr ⊢; unfold c228;unfold YS at hr;refine goL ?_;refine lp 1 (fun (⟨p29,p30⟩:Int×(List Int))=>⟨([.one (.ms 1000000 0 0 (p30.length) 1)]++(und 1++([.one (.v (.int .i64 a2)),.one (.v (.int .i64 a3))]++(und 4++([.one (.v (.int .i64 p29))]++(und 67))))):List PV),([(1000000,⟨0,1,Zd .u64 p30,false,true⟩)]:Boxes)⟩) hr ?_;rintro ⟨p29,p30⟩ x44r hr44
 simp only [ZX] at hr44;unfold b228_1;refine nst ?_;refine goL ?_;by_cases c45:a2≤IntKind.i64.wrap ((IntKind.i64.wrap (2 * p29))+1)
 ·replace hr44:=ifP hr44
  refine goL ?_;obtain ⟨_,hr44⟩:=bC hr44;exact fin hr44
 ·replace hr44:=ifN hr44
  refine goL ?_;by_cases c47:IntKind.i64.wrap ((IntKind.i64.wrap ((IntKind.i64.wrap (2 * p29))+1))+1)<a2
  ·replace hr44:=ZiY hr44
   obtain ⟨_,hz48,hr44⟩:=bs hr44;obtain ⟨_,⟨_,_,_⟩,hz48⟩:=bA hz48;obtain ⟨_,hx50,hz48⟩:=bs hz48;have ghx50:=Zk hx50;obtain ⟨_,⟨_,_,_⟩,hz48⟩:=bA hz48;obtain ⟨_,hx52,hz48⟩:=bs hz48;have ghx52:=Zk hx52;obtain ⟨y53,ehy53,hz48⟩:=bN hz48 Zal;try simp only [Zj] at ehy53
   obtain rfl:=Option.some.inj hz48;refine goL ?_;refine ZaU hr44 (fun (s:Int)=>match s with | p37=>(⟨([.one (.ms 1000000 0 0 (p30.length) 1)]++(und 1++([.one (.v (.int .i64 a2)),.one (.v (.int .i64 a3))]++(und 4++([.one (.v (.int .i64 p29)),.one (.v (.int .i64 p37))]++(und 66))))):List PV),([(1000000,⟨0,1,Zd .u64 p30,false,true⟩)]:Boxes)⟩:ASt)) (fun (s:Int)=>match s with | p37=>ZW p30 a3 p29 a0 p37) ?_ ?_
   ·rintro p37 hk55
    change ZW p30 a3 p29 a0 p37=_ at hk55
    refine nst ?_;unfold ZW at hk55;refine goL ?_;obtain ⟨_,⟨_,_,_⟩,hk55⟩:=bA hk55;obtain ⟨_,hx57,hk55⟩:=bs hk55;have ghx57:=Zk hx57;obtain ⟨j58,⟨_,j58b,_⟩,hk55⟩:=bA hk55;obtain ⟨_,hx59,hk55⟩:=bs hk55;have ghx59:=Zk hx59;obtain ⟨y60,ehy60,hk55⟩:=bN hk55 Zal;try simp only [Zj] at ehy60
    refine Zbe rfl (kq:=⟨[0,2,3,8,9],[1000000],[]⟩) rfl (by simp [-Za,Zj,Yq, *]; rfl) (by simp [-Za,Zj, *]; first | exact ⟨rfl,rfl⟩ | rfl) (by kernel_rfl) ?_;by_cases c61:y60=true
    ·replace hk55:=ifN hk55
     refine goL ?_;have ghx59:=Zk hx59;have ghx57:=Zk hx57;obtain ⟨j62,⟨_,j62b,j62c⟩,hk55⟩:=bA hk55;try simp only [List.length_set] at j62c
     obtain rfl:j58=j62:=j58b.symm.trans j62b;refine goL ?_;exact bk hk55
    ·replace hk55:=ifP hk55
     refine goL ?_;obtain ⟨_,hk55⟩:=bC hk55;exact fin hk55
   ·intro J55
    by_cases c64:y53=true
    ·replace hr44:=ifP hr44
     refine goL ?_;exact jn 1000005 (J55 (IntKind.i64.wrap ((IntKind.i64.wrap ((IntKind.i64.wrap (2 * p29))+1))+1)) hr44)
    ·replace hr44:=ifN hr44
     refine goL ?_;exact jn 1000005 (J55 (IntKind.i64.wrap ((IntKind.i64.wrap (2 * p29))+1)) hr44)
  ·replace hr44:=ZiZ hr44
   obtain ⟨_,hz65,hr44⟩:=bs hr44;obtain rfl:=Option.some.inj hz65;refine goL ?_
   replace hr44:=ifN hr44
   refine goL ?_;unfold ZW at hr44;refine goL ?_;obtain ⟨_,⟨_,_,_⟩,hr44⟩:=bA hr44;obtain ⟨_,hx67,hr44⟩:=bs hr44;have ghx67:=Zk hx67;obtain ⟨j68,⟨_,j68b,_⟩,hr44⟩:=bA hr44;obtain ⟨_,hx69,hr44⟩:=bs hr44;have ghx69:=Zk hx69;obtain ⟨y70,ehy70,hr44⟩:=bN hr44 Zal;try simp only [Zj] at ehy70
   refine Zbe rfl (kq:=⟨[0,2,3,8,9],[1000000],[]⟩) rfl (by simp [-Za,Zj,Yq, *]; rfl) (by simp [-Za,Zj, *]; first | exact ⟨rfl,rfl⟩ | rfl) (by kernel_rfl) ?_;by_cases c71:y70=true
   ·replace hr44:=ifN hr44
    refine goL ?_;have ghx69:=Zk hx69;have ghx67:=Zk hx67;obtain ⟨j72,⟨_,j72b,j72c⟩,hr44⟩:=bA hr44;try simp only [List.length_set] at j72c
    obtain rfl:j68=j72:=j68b.symm.trans j72b;refine goL ?_;exact bk hr44
   ·replace hr44:=ifP hr44
    refine goL ?_;obtain ⟨_,hr44⟩:=bC hr44;exact fin hr44
theorem w202_5:Walk tt G [(228,K228_4.G)] (fun d=>if d=26 then [[1000001]] else if d=55 then [[1000001]] else []) Tryz.f202 K202_5:=by
 refine .of [(4,⟨[0,6,7,8,9],[1000000],[]⟩),(8,⟨[0,6,7,10],[1000000],[]⟩)] false body202 Tryz.ntmps202 fun T hO hT ⟨a0,a1,a2⟩ x hr=>⟨by simp,?_⟩
 simp only [Zi] at hT; simp only at hr ⊢; unfold c202;unfold YT at hr;refine goL ?_;refine lp 4 (fun (⟨p7,p8⟩:Int×(List Int))=>⟨([.one (.ms 1000000 0 0 (p8.length) 1)]++(und 5++([.one (.v (.int .i64 a1)),.one (.v (.int .i64 0)),.one (.v (.int .i64 (IntKind.i64.wrap (a2-a1)))),.one (.v (.int .i64 p7))]++(und 46))):List PV),([(1000000,⟨0,1,Zd .u64 p8,false,true⟩)]:Boxes)⟩) hr ?_;rintro ⟨p7,p8⟩ x44r hr44
 simp only [Xa] at hr44;unfold b202_1;refine nst ?_;refine goL ?_;by_cases c45:0≤p7
 ·replace hr44:=ifP hr44
  refine goL ?_;obtain ⟨_,ehy46,hr44⟩:=bN hr44 Zmz;try simp only [Zj] at ehy46
  obtain ⟨u47_0,hr44⟩:=bC hr44;have ck48:=Z5 (k:=.u64) u47_0;refine goL ?_;exact bk hr44
 ·replace hr44:=ifN hr44
  refine goL ?_;obtain ⟨r49,q49,rfl⟩:=ms hr44;refine goL ?_;rintro rfl
  refine goL ?_;unfold X4 at q49;refine goL ?_;refine lp 8 (fun (⟨p27,p28⟩:Int×(List Int))=>⟨([.one (.ms 1000000 0 0 (p28.length) 1)]++(und 5++([.one (.v (.int .i64 a1)),.one (.v (.int .i64 0))]++(und 2++([.one (.v (.int .i64 p27))]++(und 45))))):List PV),([(1000000,⟨0,1,Zd .u64 p28,false,true⟩)]:Boxes)⟩) q49 ?_;rintro ⟨p27,p28⟩ x50r hr50
  simp only [Y9] at hr50;unfold b202_2;refine nst ?_;refine goL ?_;by_cases c51:0≤p27
  ·replace hr50:=ifP hr50
   refine goL ?_;obtain ⟨j52,⟨_,j52b,_⟩,hr50⟩:=bA hr50;obtain ⟨_,hx53,hr50⟩:=bs hr50;have ghx53:=Zk hx53;obtain ⟨_,⟨_,_,_⟩,hr50⟩:=bA hr50;obtain ⟨_,hx55,hr50⟩:=bs hr50;have ghx55:=Zk hx55;obtain ⟨j56,⟨_,j56b,j56c⟩,hr50⟩:=bA hr50;try simp only [List.length_set] at j56c
   obtain rfl:j52=j56:=j52b.symm.trans j56b;refine goL ?_;obtain ⟨_,ehy57,hr50⟩:=bN hr50 Zmz;try simp only [Zj] at ehy57
   obtain ⟨u58_0,hr50⟩:=bC hr50;have ck59:=Z5 (k:=.u64) u58_0;simp only [List.length_set] at ck59 u58_0;refine goL ?_;exact bk hr50
  ·replace hr50:=ifN hr50
   refine goL ?_;obtain ⟨_,hr50⟩:=bC hr50;exact fin hr50
theorem w205_6:Walk tt G [] (fun _=>[]) Tryz.f205 K205_6:=by
 refine .of [(2,⟨[0,6,7],[1000000],[]⟩)] false body205 Tryz.ntmps205 fun T hO hT ⟨a0,a1,a2⟩ x hr=>⟨by simp,?_⟩
 simp only [Zi] at hT; simp only at hr ⊢; unfold c205;unfold Yx at hr;refine goL ?_;refine lp 2 (fun (⟨p14,p15,p16⟩:Int×Int×(List Int))=>⟨([.one (.ms 1000000 0 0 (p16.length) 1)]++(und 5++([.one (.v (.int .i64 p14)),.one (.v (.int .i64 p15))]++(und 24))):List PV),([(1000000,⟨0,1,Zd .u64 p16,false,true⟩)]:Boxes)⟩) hr ?_;rintro ⟨p14,p15,p16⟩ x22r hr22
 simp only [YK] at hr22;unfold b205_1;refine nst ?_;refine goL ?_;by_cases c23:p14<p15
 ·replace hr22:=ifP hr22
  refine goL ?_;obtain ⟨j24,⟨_,j24b,_⟩,hr22⟩:=bA hr22;obtain ⟨_,hx25,hr22⟩:=bs hr22;have ghx25:=Zk hx25;obtain ⟨_,⟨_,_,_⟩,hr22⟩:=bA hr22;obtain ⟨_,hx27,hr22⟩:=bs hr22;have ghx27:=Zk hx27;obtain ⟨j28,⟨_,j28b,j28c⟩,hr22⟩:=bA hr22;try simp only [List.length_set] at j28c
  obtain rfl:j24=j28:=j24b.symm.trans j28b;refine goL ?_;exact bk hr22
 ·replace hr22:=ifN hr22
  refine goL ?_;obtain ⟨_,hr22⟩:=bC hr22;exact fin hr22
theorem w206_7:Walk tt G [(156,K156.G)] (fun _=>[]) Tryz.f206 K206_7:=by
 refine .of [(3,⟨[0,1,2,7,8],[1000000],[]⟩),(1000007,⟨[0,1,2,7,8],[1000000],[]⟩),(1000018,⟨[0,1,2,7,8],[1000000],[]⟩),(1000004,⟨[0,1,2,7,8],[1000000],[]⟩),(20,⟨[0,1,2,7,8,10],[1000000],[]⟩),(14,⟨[0,1,2,7,8,9],[1000000],[]⟩),(5,⟨[0,1,2,7,8],[1000000],[]⟩)] false body206 Tryz.ntmps206 fun T hO hT ⟨a0,a1,a2⟩ x hr=>⟨by simp,?_⟩
 simp only [Zi] at hT; simp only at hr ⊢; unfold c206;unfold Yd at hr;refine goL ?_;refine lp 3 (fun (⟨p146,p147,p148⟩:Int×Int×(List Int))=>⟨([.one (.ms 1000000 0 0 (p148.length) 1),.one (.v (.int .i64 a1)),.one (.v (.int .i64 a2))]++(und 4++([.one (.v (.int .i64 p146)),.one (.v (.int .i64 p147))]++(und 124))):List PV),([(1000000,⟨0,1,Zd .u64 p148,false,true⟩)]:Boxes)⟩) hr ?_;rintro ⟨p146,p147,p148⟩ x428r hr428
 simp only [ZQ] at hr428;unfold b206_1;refine nst ?_;refine goL ?_;by_cases c429:p147<5
 ·replace hr428:=ifP hr428
  refine goL ?_;refine ZeA hr428 (.exit 2) (fun (s:Int)=>match s with | p233=>(⟨([.one (.ms 1000000 0 0 (p148.length) 1),.one (.v (.int .i64 a1)),.one (.v (.int .i64 a2))]++(und 4++([.one (.v (.int .i64 p233)),.one (.v (.int .i64 p147))]++(und 124))):List PV),([(1000000,⟨0,1,Zd .u64 p148,false,true⟩)]:Boxes)⟩:ASt)) (fun (s:Int)=>match s with | p233=>Zy p233 a2 p148 a0 a1 p147) ?_ ?_
  ·rintro p233 hk442
   change Zy p233 a2 p148 a0 a1 p147=_ at hk442
   refine goL ?_;refine nst ?_;unfold Zy at hk442;refine goL ?_;refine Xe rfl (kq:=⟨[0,1,2,7,8],[1000000],[]⟩) rfl (by simp [-Za,Zj,Yq, *]; rfl) (by simp [-Za,Zj, *]; rfl) ?_;rcases eqT (p233=a2) with c443 | c443
   ·replace hk442:=ifP hk442
    refine goL ?_;obtain ⟨_,hk442⟩:=bC hk442;exact fin hk442
   ·replace hk442:=ifN hk442
    refine goL ?_;by_cases c445:IntKind.i64.wrap (a2-a1)<50
    ·replace hk442:=ifP hk442
     refine goL ?_;obtain ⟨_,hk442⟩:=bC hk442;exact fin hk442
    ·replace hk442:=ifN hk442
     refine goL ?_;obtain ⟨j447,⟨_,j447b,_⟩,hk442⟩:=bA hk442;obtain ⟨x448,hx448,hk442⟩:=bs hk442;have ghx448:=Zk hx448;obtain ⟨j449,⟨_,_,_⟩,hk442⟩:=bA hk442;obtain ⟨x450,hx450,hk442⟩:=bs hk442;have ghx450:=Zk hx450;obtain ⟨j451,⟨_,j451b,j451c⟩,hk442⟩:=bA hk442;try simp only [List.length_set] at j451c
     obtain rfl:j447=j451:=j447b.symm.trans j451b;refine goL ?_;refine ZaU hk442 (fun (s:(List Int))=>match s with | p267=>(⟨([.one (.ms 1000000 0 0 (p267.length) 1),.one (.v (.int .i64 a1)),.one (.v (.int .i64 a2))]++(und 4++([.one (.v (.int .i64 p233)),.one (.v (.int .i64 p147))]++(und 124))):List PV),([(1000000,⟨0,1,Zd .u64 p267,false,true⟩)]:Boxes)⟩:ASt)) (fun (s:(List Int))=>match s with | p267=>Zx a2 p233 p147 p267) ?_ ?_
     ·rintro p267 hk464
      change Zx a2 p233 p147 p267=_ at hk464
      refine nst ?_;unfold Zx at hk464;refine Xe rfl (kq:=⟨[0,1,2,7,8],[1000000],[]⟩) rfl (by simp [-Za,Zj,Yq, *]; rfl) (by simp [-Za,Zj, *]; rfl) ?_;refine ZeA hk464 (.normal) (fun (s:(List Int))=>match s with | p290=>(⟨([.one (.ms 1000000 0 0 (p290.length) 1),.one (.v (.int .i64 a1)),.one (.v (.int .i64 a2))]++(und 4++([.one (.v (.int .i64 p233)),.one (.v (.int .i64 p147))]++(und 124))):List PV),([(1000000,⟨0,1,Zd .u64 p290,false,true⟩)]:Boxes)⟩:ASt)) (fun (s:(List Int))=>match s with | p290=>Zw p233 p147 p290) ?_ ?_
      ·rintro p290 hk477
       change Zw p233 p147 p290=_ at hk477
       refine goL ?_;refine nst ?_;unfold Zw at hk477;refine Zeh rfl (kq:=⟨[0,1,2,7,8],[1000000],[]⟩) rfl (by simp [-Za,Zj,Yq, *]; rfl) (by simp [-Za,Zj, *]; rfl) ?_;exact bk hk477
      ·intro J477
       simp only [pq,reduceCtorEq] at J477;by_cases c478:2≤IntKind.i64.wrap (a2-p233)
       ·replace hk464:=ifP hk464
        refine goL ?_;refine lp 20 (fun (⟨p305,p306⟩:Int×(List Int))=>⟨([.one (.ms 1000000 0 0 (p306.length) 1),.one (.v (.int .i64 a1)),.one (.v (.int .i64 a2))]++(und 4++([.one (.v (.int .i64 p233)),.one (.v (.int .i64 p147))]++(und 1++([.one (.v (.int .i64 p305))]++(und 122))))):List PV),([(1000000,⟨0,1,Zd .u64 p306,false,true⟩)]:Boxes)⟩) hk464 ?_;rintro ⟨p305,p306⟩ x479r hr479
        simp only [Z7] at hr479;unfold b206_4;refine nst ?_;refine goL ?_;by_cases c480:p305<a2
        ·replace hr479:=ifP hr479
         refine goL ?_;obtain ⟨_,⟨_,_,_⟩,hr479⟩:=bA hr479;obtain ⟨_,hx482,hr479⟩:=bs hr479;have ghx482:=Zk hx482;obtain ⟨j483,⟨_,j483b,_⟩,hr479⟩:=bA hr479;obtain ⟨_,hx484,hr479⟩:=bs hr479;have ghx484:=Zk hx484;obtain ⟨y485,ehy485,hr479⟩:=bN hr479 Zal;try simp only [Zj] at ehy485
         refine goL ?_;by_cases c486:y485=true
         ·replace hr479:=ifN hr479
          refine goL ?_;have ghx484:=Zk hx484;have ghx482:=Zk hx482;obtain ⟨j487,⟨_,j487b,j487c⟩,hr479⟩:=bA hr479;try simp only [List.length_set] at j487c
          obtain rfl:j483=j487:=j483b.symm.trans j487b;refine goL ?_;exact bk hr479
         ·replace hr479:=ifP hr479
          refine goL ?_;obtain ⟨r488,q488,rfl⟩:=ms hr479;refine goL ?_;rintro rfl
          refine goL ?_;exact jn 1000004 (J477 p306 q488)
        ·replace hr479:=ifN hr479
         refine goL ?_;obtain ⟨r489,q489,rfl⟩:=ms hr479;refine goL ?_;rintro rfl
         refine goL ?_;exact jn 1000004 (J477 p306 q489)
       ·replace hk464:=ifN hk464
        refine goL ?_;exact jn 1000004 (J477 p267 hk464)
     ·intro J464
      by_cases c490:2≤IntKind.i64.wrap (p233-a1)
      ·replace hk442:=ifP hk442
       refine goL ?_;refine lp 14 (fun (⟨p327,p328⟩:Int×(List Int))=>⟨([.one (.ms 1000000 0 0 (p328.length) 1),.one (.v (.int .i64 a1)),.one (.v (.int .i64 a2))]++(und 4++([.one (.v (.int .i64 p233)),.one (.v (.int .i64 p147)),.one (.v (.int .i64 p327))]++(und 123))):List PV),([(1000000,⟨0,1,Zd .u64 p328,false,true⟩)]:Boxes)⟩) hk442 ?_;rintro ⟨p327,p328⟩ x491r hr491
       simp only [Z8] at hr491;unfold b206_3;refine nst ?_;refine goL ?_;by_cases c492:1≤p327
       ·replace hr491:=ifP hr491
        refine goL ?_;obtain ⟨_,⟨_,_,_⟩,hr491⟩:=bA hr491;obtain ⟨_,hx494,hr491⟩:=bs hr491;have ghx494:=Zk hx494;obtain ⟨j495,⟨_,j495b,_⟩,hr491⟩:=bA hr491;obtain ⟨_,hx496,hr491⟩:=bs hr491;have ghx496:=Zk hx496;obtain ⟨y497,ehy497,hr491⟩:=bN hr491 Zal;try simp only [Zj] at ehy497
        refine goL ?_;by_cases c498:y497=true
        ·replace hr491:=ifN hr491
         refine goL ?_;have ghx496:=Zk hx496;have ghx494:=Zk hx494;obtain ⟨j499,⟨_,j499b,j499c⟩,hr491⟩:=bA hr491;try simp only [List.length_set] at j499c
         obtain rfl:j495=j499:=j495b.symm.trans j499b;refine goL ?_;exact bk hr491
        ·replace hr491:=ifP hr491
         refine goL ?_;obtain ⟨r500,q500,rfl⟩:=ms hr491;refine goL ?_;rintro rfl
         refine goL ?_;exact jn 1000018 (J464 p328 q500)
       ·replace hr491:=ifN hr491
        refine goL ?_;obtain ⟨r501,q501,rfl⟩:=ms hr491;refine goL ?_;rintro rfl
        refine goL ?_;exact jn 1000018 (J464 p328 q501)
      ·replace hk442:=ifN hk442
       refine goL ?_;exact jn 1000018 (J464 (((p148).set j449 x448).set j447 x450) hk442)
  ·intro J442
   simp only [pq,reduceCtorEq] at J442;refine lp 5 (fun (p233:Int)=>⟨([.one (.ms 1000000 0 0 (p148.length) 1),.one (.v (.int .i64 a1)),.one (.v (.int .i64 a2))]++(und 4++([.one (.v (.int .i64 p233)),.one (.v (.int .i64 p147))]++(und 124))):List PV),([(1000000,⟨0,1,Zd .u64 p148,false,true⟩)]:Boxes)⟩) hr428 ?_;rintro p233 x502r hr502
   simp only [Z9] at hr502;unfold b206_2;refine nst ?_;refine goL ?_;by_cases c503:p233<a2
   ·replace hr502:=ZiY hr502
    obtain ⟨_,hz504,hr502⟩:=bs hr502;obtain ⟨_,⟨_,_,_⟩,hz504⟩:=bA hz504;obtain ⟨_,hx506,hz504⟩:=bs hz504;have ghx506:=Zk hx506;obtain ⟨_,⟨_,_,_⟩,hz504⟩:=bA hz504;obtain ⟨_,hx508,hz504⟩:=bs hz504;have ghx508:=Zk hx508;obtain ⟨y509,ehy509,hz504⟩:=bN hz504 Zal;try simp only [Zj] at ehy509
    obtain rfl:=Option.some.inj hz504;refine goL ?_;by_cases c510:y509=true
    ·replace hr502:=ifN hr502
     refine goL ?_;obtain ⟨r511,q511,rfl⟩:=ms hr502;refine goL ?_;rintro rfl
     refine goL ?_;exact jn 1000007 (J442 p233 q511)
    ·replace hr502:=ifP hr502
     refine goL ?_;exact bk hr502
   ·replace hr502:=ZiZ hr502
    obtain ⟨_,hz512,hr502⟩:=bs hr502;obtain rfl:=Option.some.inj hz512;refine goL ?_
    replace hr502:=ifN hr502
    refine goL ?_;obtain ⟨r513,q513,rfl⟩:=ms hr502;refine goL ?_;rintro rfl
    refine goL ?_;exact jn 1000007 (J442 p233 q513)
 ·replace hr428:=ifN hr428
  refine goL ?_;obtain ⟨r514,q514,rfl⟩:=ms hr428;refine goL ?_;rintro rfl
  refine goL ?_;unfold Xl at q514;refine goL ?_;obtain ⟨_,q514⟩:=bC q514;exact fin q514
end Go.Proofs.YthpkpciceodioaaGreatDoor
