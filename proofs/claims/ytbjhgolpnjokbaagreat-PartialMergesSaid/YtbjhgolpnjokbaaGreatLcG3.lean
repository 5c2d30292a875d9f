import Derived.Test.YtbjhgolpnjokbaaGreatLcG2
import Derived.KernelRfl
import Derived.Test.YtbjhgolpnjokbaaGreatLcG1
section
namespace Go.Lc
open Go.RowKit
open Go.Av
set_option maxRecDepth 100000
set_option linter.unusedSimpArgs false
set_option linter.unusedVariables false
noncomputable def Zde (a0 : Int) : Option ((Arr 4)) :=
 some ((zA 4).put 0 a0)
theorem ZfJ (a0 : Int) : Le (Zde a0) (Yx a0):=by
 unfold Zde Yx;try dsimp only
 repeat' (first | (with_reducible exact Le.refl _) | (refine ZP ?_ fun _=>?_) | (refine ZY ?_ ?_) | (refine ZX ?_) | (refine ZZ fun _=>?_))
noncomputable def ZdN (a0 : Int) : Option ((Arr 4)) :=
 (Zde a0).bindF fun y1=>some (y1)
theorem Zl8 (a0 : Int) : Le (ZdN a0) (YH a0):=by
 unfold ZdN YH;try dsimp only
 repeat' (first | (with_reducible exact Le.refl _) | (with_reducible apply ZfJ) | (refine ZP ?_ fun _=>?_) | (refine ZY ?_ ?_) | (refine ZX ?_) | (refine ZZ fun _=>?_))
noncomputable def ZfU (a0 : (List Int)) (a1 : (List Int)) : Option ((List Int)) :=
 (chk (0≤IntKind.i64.wrap ((a0.length : Int) + (a1.length : Int))∧IntKind.i64.wrap ((a0.length : Int) + (a1.length : Int))≤140737488355328)).bindF fun _=>(chk (a0.length≤140737488355328)).bindF fun _=>(chk (a0.length + a1.length≤140737488355328)).bindF fun _=>some (a0++a1)
theorem Zj9 (a0 : (List Int)) (a1 : (List Int)) : Le (ZfU a0 a1) (Z9 a0 a1):=by
 unfold ZfU Z9;try dsimp only
 repeat' (first | (with_reducible exact Le.refl _) | (refine ZP ?_ fun _=>?_) | (refine ZY ?_ ?_) | (refine ZX ?_) | (refine ZZ fun _=>?_))
noncomputable def Zff (p8 : (List Int)) : Option (List Int) :=
 some (p8)
theorem ZjG (p8 : (List Int)) : Le (Zff p8) (ZdG p8):=by
 unfold Zff ZdG;try dsimp only
 repeat' (first | (with_reducible exact Le.refl _) | (refine ZP ?_ fun _=>?_) | (refine ZY ?_ ?_) | (refine ZX ?_) | (refine ZZ fun _=>?_))
noncomputable def Zfg (a0 : (List (List Int))) : (Int×(List Int))→Option ((Int×(List Int)) ⊕ ((List Int)))
 | (p7,p8)=>(if p7 < (a0.length : Int) then (idx (a0) (p7)).bindF fun x11=>(ZfU p8 x11).bindF fun y12=>some (.inl (IntKind.i64.wrap (p7 + 1),y12)) else (Zff p8).map Sum.inr)
theorem ZjH (a0 : (List (List Int))) (s) : Le (Zfg a0 s) (ZdH a0 s):=by
 obtain ⟨p7,p8⟩:=s;unfold Zfg ZdH;try dsimp only
 repeat' (first | (with_reducible exact Le.refl _) | (with_reducible apply Zj9) | (with_reducible apply ZjG) | (refine ZP ?_ fun _=>?_) | (refine ZY ?_ ?_) | (refine ZX ?_) | (refine ZZ fun _=>?_))
noncomputable def Zc3 (a0 : (List (List Int))) : Option ((List Int)) :=
 Zeu (Zfg a0) (0,([] : (List Int)))
theorem ZdO (a0 : (List (List Int))) : Le (Zc3 a0) (XC a0):=by
 unfold Zc3 XC;try dsimp only
 repeat' (first | (with_reducible exact Le.refl _) | (with_reducible apply ZjH) | (refine ZP ?_ fun _=>?_) | (refine ZY ?_ ?_) | (refine ZX ?_) | (refine ZZ fun _=>?_))
noncomputable def Zeh (a0 : Tapi_Op) : Option ((List Int)) :=
 (if a0.1 = 1 then (Zc3 [[1,IntKind.u8.wrap ((a0.2.1.length : Int))],a0.2.1]).bindF fun y1=>some (y1) else (if a0.1 = 11 then some ([11,IntKind.u8.wrap (a0.2.2.1),IntKind.u8.wrap (a0.2.2.2)]) else some ([IntKind.u8.wrap (a0.1)])))
theorem ZgC (a0 : Tapi_Op) : Le (Zeh a0) (XF a0):=by
 unfold Zeh XF;try dsimp only
 repeat' (first | (with_reducible exact Le.refl _) | (with_reducible apply ZdO) | (refine ZP ?_ fun _=>?_) | (refine ZY ?_ ?_) | (refine ZX ?_) | (refine ZZ fun _=>?_))
noncomputable def Zdf (a0 : Tapi_Op) (p1 : Bool) : Option Int :=
 (if p1 = true then some (6) else (if 255 < (a0.2.1.length : Int) then some (4) else (if (a0.1 = 11∧(((a0.2.2.2 < 1∨15 < a0.2.2.2)∨a0.2.2.1 < 1)∨a0.2.2.2 < a0.2.2.1)) then some (5) else some (0))))
theorem Zi0 (a0 : Tapi_Op) (p1 : Bool) : Le (Zdf a0 p1) (YO a0 p1):=by
 unfold Zdf YO;try dsimp only
 repeat' (first | (with_reducible exact Le.refl _) | (refine ZP ?_ fun _=>?_) | (refine ZY ?_ ?_) | (refine ZX ?_) | (refine ZZ fun _=>?_))
noncomputable def ZgD (a0 : Tapi_Op) : Option (Int) :=
 (if (a0.1 < 1∨17 < a0.1) then some (80) else (if (0 < (a0.2.1.length : Int)∧¬ (a0.1 = 1)) then Zdf a0 (decide (0 < (a0.2.1.length : Int)) && !(decide (a0.1 = 1))) else Zdf a0 ((!(decide (a0.2.2.1 = 0)) || !(decide (a0.2.2.2 = 0))) && !(decide (a0.1 = 11)))))
theorem ZkL (a0 : Tapi_Op) : Le (ZgD a0) (ZaD a0):=by
 unfold ZgD ZaD;try dsimp only
 repeat' (first | (with_reducible exact Le.refl _) | (with_reducible apply Zi0) | (refine ZP ?_ fun _=>?_) | (refine ZY ?_ ?_) | (refine ZX ?_) | (refine ZZ fun _=>?_))
noncomputable def Zdm (p18 : (List Int)) : Option ((List Int)×Int) :=
 some ((p18,0))
theorem Zhk (p18 : (List Int)) : Le (Zdm p18) (ZbW p18):=by
 unfold Zdm ZbW;try dsimp only
 repeat' (first | (with_reducible exact Le.refl _) | (refine ZP ?_ fun _=>?_) | (refine ZY ?_ ?_) | (refine ZX ?_) | (refine ZZ fun _=>?_))
noncomputable def Zdn (a0 : (List Tapi_Op)) : (Int×(List Int))→Option ((Int×(List Int)) ⊕ ((List Int)×Int))
 | (p17,p18)=>(if p17 < (a0.length : Int) then (idx (a0) (p17)).bindF fun x22=>(Zeh x22).bindF fun y23=>(chk (p18.length + y23.length≤140737488355328)).bindF fun _=>(if 520 < (p18.length + y23.length : Int) then some (.inr ((([] : (List Int)),4))) else some (.inl (IntKind.i64.wrap (p17 + 1),p18++y23))) else (Zdm p18).map Sum.inr)
theorem Zhl (a0 : (List Tapi_Op)) (s) : Le (Zdn a0 s) (ZbX a0 s):=by
 obtain ⟨p17,p18⟩:=s;unfold Zdn ZbX;try dsimp only
 repeat' (first | (with_reducible exact Le.refl _) | (with_reducible apply ZgC) | (with_reducible apply Zhk) | (refine ZP ?_ fun _=>?_) | (refine ZY ?_ ?_) | (refine ZX ?_) | (refine ZZ fun _=>?_))
noncomputable def Zdo (a0 : (List Tapi_Op)) : Option ((List Int)×Int) :=
 Zeu (Zdn a0) (0,[])
theorem Zhm (a0 : (List Tapi_Op)) : Le (Zdo a0) (ZbY a0):=by
 unfold Zdo ZbY;try dsimp only
 repeat' (first | (with_reducible exact Le.refl _) | (with_reducible apply Zhl) | (refine ZP ?_ fun _=>?_) | (refine ZY ?_ ?_) | (refine ZX ?_) | (refine ZZ fun _=>?_))
noncomputable def Zdp (a0 : (List Tapi_Op)) : Int→Option ((Int) ⊕ ((List Int)×Int))
 | p6=>(if p6 < (a0.length : Int) then (idx (a0) (p6)).bindF fun x25=>(ZgD x25).bindF fun y26=>(if ¬ (y26 = 0) then some (.inr ((([] : (List Int)),y26))) else some (.inl (IntKind.i64.wrap (p6 + 1)))) else (Zdo a0).map Sum.inr)
theorem Zhn (a0 : (List Tapi_Op)) (s) : Le (Zdp a0 s) (ZbZ a0 s):=by
 unfold Zdp ZbZ;try dsimp only
 repeat' (first | (with_reducible exact Le.refl _) | (with_reducible apply ZkL) | (with_reducible apply Zhm) | (refine ZP ?_ fun _=>?_) | (refine ZY ?_ ?_) | (refine ZX ?_) | (refine ZZ fun _=>?_))
noncomputable def ZeW (a0 : (List Tapi_Op)) : Option ((List Int)×Int) :=
 Zeu (Zdp a0) 0
theorem Zi1 (a0 : (List Tapi_Op)) : Le (ZeW a0) (Xx a0):=by
 unfold ZeW Xx;try dsimp only
 repeat' (first | (with_reducible exact Le.refl _) | (with_reducible apply Zhn) | (refine ZP ?_ fun _=>?_) | (refine ZY ?_ ?_) | (refine ZX ?_) | (refine ZZ fun _=>?_))
noncomputable def ZeX (p9 : (Arr 32)) : Option (Arr 32) :=
 some (p9)
theorem Zi2 (p9 : (Arr 32)) : Le (ZeX p9) (Zda p9):=by
 unfold ZeX Zda;try dsimp only
 repeat' (first | (with_reducible exact Le.refl _) | (refine ZP ?_ fun _=>?_) | (refine ZY ?_ ?_) | (refine ZX ?_) | (refine ZZ fun _=>?_))
noncomputable def ZeY (a0 : (Arr 4)) : (Int×(Arr 32))→Option ((Int×(Arr 32)) ⊕ ((Arr 32)))
 | (p8,p9)=>(if p8 < 32 then (inA (4) (IntKind.i64.wrap ((IntKind.i64.wrap (31 - p8)).tdiv 8))).bindF fun j13=>(chk (¬ (IntKind.i64.wrap (8 * ((IntKind.i64.wrap (31 - p8)).tmod 8)) < 0))).bindF fun _=>(inA (32) (p8)).bindF fun j15=>some (.inl (IntKind.i64.wrap (p8 + 1),p9.put j15 (IntKind.u8.wrap ((a0.at j13).fdiv (2 ^ (min (IntKind.i64.wrap (8 * ((IntKind.i64.wrap (31 - p8)).tmod 8))).toNat 64)))))) else (ZeX p9).map Sum.inr)
theorem Zi3 (a0 : (Arr 4)) (s) : Le (ZeY a0 s) (Zdb a0 s):=by
 obtain ⟨p8,p9⟩:=s;unfold ZeY Zdb;try dsimp only
 repeat' (first | (with_reducible exact Le.refl _) | (with_reducible apply Zi2) | (refine ZP ?_ fun _=>?_) | (refine ZY ?_ ?_) | (refine ZX ?_) | (refine ZZ fun _=>?_))
noncomputable def ZgE (a0 : (Arr 4)) : Option ((Arr 32)) :=
 Zeu (ZeY a0) (0,zA 32)
theorem ZkM (a0 : (Arr 4)) : Le (ZgE a0) (ZaC a0):=by
 unfold ZgE ZaC;try dsimp only
 repeat' (first | (with_reducible exact Le.refl _) | (with_reducible apply Zi3) | (refine ZP ?_ fun _=>?_) | (refine ZY ?_ ?_) | (refine ZX ?_) | (refine ZZ fun _=>?_))
noncomputable def Zgf (a0 : (Arr 4)) : Option ((List Int)) :=
 (ZgE a0).bindF fun y1=>some (y1.l)
theorem Ziv (a0 : (Arr 4)) : Le (Zgf a0) (Za9 a0):=by
 unfold Zgf Za9;try dsimp only
 repeat' (first | (with_reducible exact Le.refl _) | (with_reducible apply ZkM) | (refine ZP ?_ fun _=>?_) | (refine ZY ?_ ?_) | (refine ZX ?_) | (refine ZZ fun _=>?_))
noncomputable def ZeZ (p9 : (List Tapi_Op)) (a0 : Int) (a1 : (List (Arr 4))) : Option ((List Int)×Int) :=
 (chk (p9.length + 1≤2932031007402)).bindF fun _=>(ZeW (p9++[(11,([] : (List Int)),a0,(a1.length : Int))])).bindF fun y14=>some ((y14.1,y14.2))
theorem Zi4 (p9 : (List Tapi_Op)) (a0 : Int) (a1 : (List (Arr 4))) : Le (ZeZ p9 a0 a1) (Zdc p9 a0 a1):=by
 unfold ZeZ Zdc;try dsimp only
 repeat' (first | (with_reducible exact Le.refl _) | (with_reducible apply Zi1) | (refine ZP ?_ fun _=>?_) | (refine ZY ?_ ?_) | (refine ZX ?_) | (refine ZZ fun _=>?_))
noncomputable def Ze0 (a1 : (List (Arr 4))) (a0 : Int) : (Int×(List Tapi_Op))→Option ((Int×(List Tapi_Op)) ⊕ ((List Int)×Int))
 | (p8,p9)=>(if p8 < (a1.length : Int) then (idx (a1) (p8)).bindF fun x15=>(Zgf x15).bindF fun y16=>(chk (p9.length + 1≤2932031007402)).bindF fun _=>some (.inl (IntKind.i64.wrap (p8 + 1),p9++[(1,y16,0,0)])) else (ZeZ p9 a0 a1).map Sum.inr)
theorem Zi5 (a1 : (List (Arr 4))) (a0 : Int) (s) : Le (Ze0 a1 a0 s) (Zdd a1 a0 s):=by
 obtain ⟨p8,p9⟩:=s;unfold Ze0 Zdd;try dsimp only
 repeat' (first | (with_reducible exact Le.refl _) | (with_reducible apply Ziv) | (with_reducible apply Zi4) | (refine ZP ?_ fun _=>?_) | (refine ZY ?_ ?_) | (refine ZX ?_) | (refine ZZ fun _=>?_))
noncomputable def Ze1 (a0 : Int) (a1 : (List (Arr 4))) : Option ((List Int)×Int) :=
 Zeu (Ze0 a1 a0) (0,[])
theorem ZgT (a0 : Int) (a1 : (List (Arr 4))) : Le (Ze1 a0 a1) (XD a0 a1):=by
 unfold Ze1 XD;try dsimp only
 repeat' (first | (with_reducible exact Le.refl _) | (with_reducible apply Zi5) | (refine ZP ?_ fun _=>?_) | (refine ZY ?_ ?_) | (refine ZX ?_) | (refine ZZ fun _=>?_))
noncomputable def Zdq (p7 : (Arr 4)) : Option (Arr 4) :=
 some (p7)
theorem Zho (p7 : (Arr 4)) : Le (Zdq p7) (Zb0 p7):=by
 unfold Zdq Zb0;try dsimp only
 repeat' (first | (with_reducible exact Le.refl _) | (refine ZP ?_ fun _=>?_) | (refine ZY ?_ ?_) | (refine ZX ?_) | (refine ZZ fun _=>?_))
noncomputable def Zdr (a0 : (Arr 32)) : (Int×(Arr 4))→Option ((Int×(Arr 4)) ⊕ ((Arr 4)))
 | (p6,p7)=>(if p6 < 32 then (inA (32) (p6)).bindF fun j10=>(inA (4) (IntKind.i64.wrap (3 - (IntKind.i64.wrap ((p6).tdiv 8))))).bindF fun j11=>some (.inl (IntKind.i64.wrap (p6 + 1),p7.put j11 (bits .or .u64 (IntKind.u64.wrap ((p7.at j11) * 256)) (IntKind.u64.wrap (a0.at j10))))) else (Zdq p7).map Sum.inr)
theorem Zhp (a0 : (Arr 32)) (s) : Le (Zdr a0 s) (Xm a0 s):=by
 obtain ⟨p6,p7⟩:=s;unfold Zdr Xm;try dsimp only
 repeat' (first | (with_reducible exact Le.refl _) | (with_reducible apply Zho) | (refine ZP ?_ fun _=>?_) | (refine ZY ?_ ?_) | (refine ZX ?_) | (refine ZZ fun _=>?_))
noncomputable def Ze2 (a0 : (Arr 32)) : Option ((Arr 4)) :=
 Zeu (Zdr a0) (0,zA 4)
theorem Zi6 (a0 : (Arr 32)) : Le (Ze2 a0) (Yy a0):=by
 unfold Ze2 Yy;try dsimp only
 repeat' (first | (with_reducible exact Le.refl _) | (with_reducible apply Zhp) | (refine ZP ?_ fun _=>?_) | (refine ZY ?_ ?_) | (refine ZX ?_) | (refine ZZ fun _=>?_))
noncomputable def ZfV (a0 : Int) : Option (Bool) :=
 some ((decide (1≤a0) && decide (a0≤17)))
theorem Zka (a0 : Int) : Le (ZfV a0) (Zag a0):=by
 unfold ZfV Zag;try dsimp only
 repeat' (first | (with_reducible exact Le.refl _) | (refine ZP ?_ fun _=>?_) | (refine ZY ?_ ?_) | (refine ZX ?_) | (refine ZZ fun _=>?_))
noncomputable def Zfh (p8 : (List Int)) : Option (List Int) :=
 some (p8)
theorem ZjI (p8 : (List Int)) : Le (Zfh p8) (ZdI p8):=by
 unfold Zfh ZdI;try dsimp only
 repeat' (first | (with_reducible exact Le.refl _) | (refine ZP ?_ fun _=>?_) | (refine ZY ?_ ?_) | (refine ZX ?_) | (refine ZZ fun _=>?_))
noncomputable def Zfi (a0 : (List (List Int))) : (Int×(List Int))→Option ((Int×(List Int)) ⊕ ((List Int)))
 | (p7,p8)=>(if p7 < (a0.length : Int) then (idx (a0) (p7)).bindF fun x11=>(chk (p8.length + x11.length≤140737488355328)).bindF fun _=>some (.inl (IntKind.i64.wrap (p7 + 1),p8++x11)) else (Zfh p8).map Sum.inr)
theorem ZjJ (a0 : (List (List Int))) (s) : Le (Zfi a0 s) (ZdJ a0 s):=by
 obtain ⟨p7,p8⟩:=s;unfold Zfi ZdJ;try dsimp only
 repeat' (first | (with_reducible exact Le.refl _) | (with_reducible apply ZjI) | (refine ZP ?_ fun _=>?_) | (refine ZY ?_ ?_) | (refine ZX ?_) | (refine ZZ fun _=>?_))
noncomputable def Zg9 (a0 : (List (List Int))) : Option ((List Int)) :=
 Zeu (Zfi a0) (0,[])
theorem Zk7 (a0 : (List (List Int))) : Le (Zg9 a0) (Zbf a0):=by
 unfold Zg9 Zbf;try dsimp only
 repeat' (first | (with_reducible exact Le.refl _) | (with_reducible apply ZjJ) | (refine ZP ?_ fun _=>?_) | (refine ZY ?_ ?_) | (refine ZX ?_) | (refine ZZ fun _=>?_))
noncomputable def Ze3 (a0 : Int) (a1 : Int) : Option (Bool) :=
 some ((((decide (1≤a1) && decide (a1≤15)) && decide (1≤a0)) && decide (a0≤a1)))
theorem Zi7 (a0 : Int) (a1 : Int) : Le (Ze3 a0 a1) (Xy a0 a1):=by
 unfold Ze3 Xy;try dsimp only
 repeat' (first | (with_reducible exact Le.refl _) | (refine ZP ?_ fun _=>?_) | (refine ZY ?_ ?_) | (refine ZX ?_) | (refine ZZ fun _=>?_))
noncomputable def Zb7 (x1 : Int) (p14 : (List Int)) (p15 : Int) (p16 : Int) (p17 : (List Int)) : Option (Tapi_Op×(List Int)×Int) :=
 some (((IntKind.i64.wrap (x1),p17,p15,p16),p14,0))
theorem Zi8 (x1 : Int) (p14 : (List Int)) (p15 : Int) (p16 : Int) (p17 : (List Int)) : Le (Zb7 x1 p14 p15 p16 p17) (Xz x1 p14 p15 p16 p17):=by
 unfold Zb7 Xz;try dsimp only
 repeat' (first | (with_reducible exact Le.refl _) | (refine ZP ?_ fun _=>?_) | (refine ZY ?_ ?_) | (refine ZX ?_) | (refine ZZ fun _=>?_))
noncomputable def ZgF (a0 : (List Int)) : Option (Tapi_Op×(List Int)×Int) :=
 ((a0)[0]?).bindF fun x1=>(ZfV (IntKind.i64.wrap (x1))).bindF fun y2=>(if ¬ (y2 = true) then some (((0,([] : (List Int)),0,0),([] : (List Int)),80)) else (chk (1≤(a0.length : Int))).bindF fun _=>(if IntKind.i64.wrap (x1) = 1 then ((if (((a0).drop 1).length : Int) = 0 then some (false) else (((a0).drop 1)[0]?).bindF fun x18=>some (decide (IntKind.i64.wrap ((((a0).drop 1).length : Int) - 1) < IntKind.i64.wrap (x18))))).bindF fun z19=>(if ((((a0).drop 1).length : Int) = 0∨z19 = true) then some (((0,([] : (List Int)),0,0),([] : (List Int)),1)) else (((a0).drop 1)[0]?).bindF fun x20=>(chk (1≤IntKind.i64.wrap (1 + (IntKind.i64.wrap (x20)))∧IntKind.i64.wrap (1 + (IntKind.i64.wrap (x20)))≤(((a0).drop 1).length : Int))).bindF fun _=>(Zg9 [(((a0).drop 1).take ((IntKind.i64.wrap (1 + (IntKind.i64.wrap (x20)))).toNat)).drop 1]).bindF fun y22=>(chk (0≤IntKind.i64.wrap (1 + (IntKind.i64.wrap (x20)))∧IntKind.i64.wrap (1 + (IntKind.i64.wrap (x20)))≤(((a0).drop 1).length : Int))).bindF fun _=>Zb7 x1 (((a0).drop 1).drop ((IntKind.i64.wrap (1 + (IntKind.i64.wrap (x20)))).toNat)) 0 0 y22) else (if IntKind.i64.wrap (x1) = 11 then (if (((a0).drop 1).length : Int) < 2 then some (((0,([] : (List Int)),0,0),([] : (List Int)),1)) else (((a0).drop 1)[0]?).bindF fun x24=>(((a0).drop 1)[1]?).bindF fun x25=>(chk (2≤(((a0).drop 1).length : Int))).bindF fun _=>(Ze3 (IntKind.i64.wrap (x24)) (IntKind.i64.wrap (x25))).bindF fun y27=>(if ¬ (y27 = true) then some (((0,([] : (List Int)),0,0),([] : (List Int)),5)) else Zb7 x1 (((a0).drop 1).drop 2) (IntKind.i64.wrap (x24)) (IntKind.i64.wrap (x25)) [])) else Zb7 x1 ((a0).drop 1) 0 0 [])))
theorem ZkN (a0 : (List Int)) : Le (ZgF a0) (ZaE a0):=by
 unfold ZgF ZaE;try dsimp only
 repeat' (first | (with_reducible exact Le.refl _) | (with_reducible apply Zka) | (with_reducible apply Zk7) | (with_reducible apply Zi8) | (with_reducible apply Zi7) | (refine ZP ?_ fun _=>?_) | (refine ZY ?_ ?_) | (refine ZX ?_) | (refine ZZ fun _=>?_))
noncomputable def Zev (p7 : (List Tapi_Op)) : Option ((List Tapi_Op)×Int) :=
 some ((p7,0))
theorem Zix (p7 : (List Tapi_Op)) : Le (Zev p7) (ZcD p7):=by
 unfold Zev ZcD;try dsimp only
 repeat' (first | (with_reducible exact Le.refl _) | (refine ZP ?_ fun _=>?_) | (refine ZY ?_ ?_) | (refine ZX ?_) | (refine ZZ fun _=>?_))
noncomputable def Fscript_Parse_s1 : ((List Int)×(List Tapi_Op))→Option (((List Int)×(List Tapi_Op)) ⊕ ((List Tapi_Op)×Int))
 | (p6,p7)=>(if 0 < (p6.length : Int) then (ZgF p6).bindF fun y10=>(if ¬ (y10.2.2 = 0) then some (.inr ((([] : (List Tapi_Op)),y10.2.2))) else (chk (p7.length + 1≤2932031007402)).bindF fun _=>some (.inl (y10.2.1,p7++[y10.1]))) else (Zev p7).map Sum.inr)
theorem Ziy (s) : Le (Fscript_Parse_s1 s) (Lscript_Parse_s1 s):=by
 obtain ⟨p6,p7⟩:=s;unfold Fscript_Parse_s1 Lscript_Parse_s1;try dsimp only
 repeat' (first | (with_reducible exact Le.refl _) | (with_reducible apply ZkN) | (with_reducible apply Zix) | (refine ZP ?_ fun _=>?_) | (refine ZY ?_ ?_) | (refine ZX ?_) | (refine ZZ fun _=>?_))
noncomputable def Zei (a0 : (List Int)) : Option ((List Tapi_Op)×Int) :=
 (if 520 < (a0.length : Int) then some ((([] : (List Tapi_Op)),4)) else Zeu (Fscript_Parse_s1) (a0,[]))
theorem ZgG (a0 : (List Int)) : Le (Zei a0) (XG a0):=by
 unfold Zei XG;try dsimp only
 repeat' (first | (with_reducible exact Le.refl _) | (with_reducible apply Ziy) | (refine ZP ?_ fun _=>?_) | (refine ZY ?_ ?_) | (refine ZX ?_) | (refine ZZ fun _=>?_))
noncomputable def ZdS (p10 : Int) : Option (Int×Int) :=
 some ((p10,0))
theorem ZhW (p10 : Int) : Le (ZdS p10) (Za1 p10):=by
 unfold ZdS Za1;try dsimp only
 repeat' (first | (with_reducible exact Le.refl _) | (refine ZP ?_ fun _=>?_) | (refine ZY ?_ ?_) | (refine ZX ?_) | (refine ZZ fun _=>?_))
noncomputable def ZdT (a0 : (List Int)) : (Int×Int)→Option ((Int×Int) ⊕ (Int×Int))
 | (p10,p11)=>(if p11 < (a0.length : Int) then (idx (a0) (p11)).bindF fun x14=>(chk (¬ (IntKind.i64.wrap (8 * p11) < 0))).bindF fun _=>some (.inl (bits .or .u32 p10 (IntKind.u32.wrap ((IntKind.u32.wrap (x14)) * (2 ^ (min (IntKind.i64.wrap (8 * p11)).toNat 32)))),IntKind.i64.wrap (p11 + 1))) else (ZdS p10).map Sum.inr)
theorem ZhX (a0 : (List Int)) (s) : Le (ZdT a0 s) (Za2 a0 s):=by
 obtain ⟨p10,p11⟩:=s;unfold ZdT Za2;try dsimp only
 repeat' (first | (with_reducible exact Le.refl _) | (with_reducible apply ZhW) | (refine ZP ?_ fun _=>?_) | (refine ZY ?_ ?_) | (refine ZX ?_) | (refine ZZ fun _=>?_))
noncomputable def Zfj (a0 : (List Int)) : Option (Int×Int) :=
 ((if 4 < (a0.length : Int) then some (false) else ((if 0 < (a0.length : Int) then (idx (a0) (IntKind.i64.wrap ((a0.length : Int) - 1))).bindF fun x1=>some (decide (x1 = 0)) else some (false))).bindF fun z2=>some ((decide (0 < (a0.length : Int)) && z2)))).bindF fun z3=>(if (4 < (a0.length : Int)∨z3 = true) then some ((0,82)) else Zeu (ZdT a0) (0,0))
theorem ZjK (a0 : (List Int)) : Le (Zfj a0) (XO a0):=by
 unfold Zfj XO;try dsimp only
 repeat' (first | (with_reducible exact Le.refl _) | (with_reducible apply ZhX) | (refine ZP ?_ fun _=>?_) | (refine ZY ?_ ?_) | (refine ZX ?_) | (refine ZZ fun _=>?_))
noncomputable def Zb8 (a0 : (List Int)) : Option (Int) :=
 ((if (a0.length : Int) < 2 then some (false) else ((a0)[0]?).bindF fun x1=>some (!(decide (x1 = 1))))).bindF fun z2=>(if ((a0.length : Int) < 2∨z2 = true) then some (0) else ((a0)[1]?).bindF fun x3=>(if (a0.length : Int) < IntKind.i64.wrap ((IntKind.i64.wrap (2 + (IntKind.i64.wrap (x3)))) + 2) then some (0) else (chk (2≤IntKind.i64.wrap (2 + (IntKind.i64.wrap (x3)))∧IntKind.i64.wrap (2 + (IntKind.i64.wrap (x3)))≤(a0.length : Int))).bindF fun _=>(Zfj (((a0).take ((IntKind.i64.wrap (2 + (IntKind.i64.wrap (x3)))).toNat)).drop 2)).bindF fun y5=>(if ¬ (y5.2 = 0) then some (0) else (idx (a0) (IntKind.i64.wrap (2 + (IntKind.i64.wrap (x3))))).bindF fun x6=>((if (¬ (x6 = 12)∧¬ (x6 = 13)) then some (false) else (idx (a0) (IntKind.i64.wrap ((IntKind.i64.wrap (2 + (IntKind.i64.wrap (x3)))) + 1))).bindF fun x7=>some (!(decide (x7 = 3))))).bindF fun z8=>(if ((¬ (x6 = 12)∧¬ (x6 = 13))∨z8 = true) then some (0) else some (IntKind.i64.wrap ((IntKind.i64.wrap (2 + (IntKind.i64.wrap (x3)))) + 2))))))
theorem ZeE (a0 : (List Int)) : Le (Zb8 a0) (YP a0):=by
 unfold Zb8 YP;try dsimp only
 repeat' (first | (with_reducible exact Le.refl _) | (with_reducible apply ZjK) | (refine ZP ?_ fun _=>?_) | (refine ZY ?_ ?_) | (refine ZX ?_) | (refine ZZ fun _=>?_))
noncomputable def Zew (y13 : ((List Tapi_Op)×Int)) (p25 : (List (Arr 4))) : Option ((List (Arr 4))×Int×Bool) :=
 (idx (y13.1) (IntKind.i64.wrap ((y13.1.length : Int) - 1))).bindF fun x30=>(if (x30.1 = 10∧(p25.length : Int) = 1) then some ((p25,1,true)) else (if (x30.1 = 11∧x30.2.2.2 = (p25.length : Int)) then some ((p25,x30.2.2.1,true)) else some ((([] : (List (Arr 4))),0,false))))
theorem Ziz (y13 : ((List Tapi_Op)×Int)) (p25 : (List (Arr 4))) : Le (Zew y13 p25) (ZcE y13 p25):=by
 unfold Zew ZcE;try dsimp only
 repeat' (first | (with_reducible exact Le.refl _) | (refine ZP ?_ fun _=>?_) | (refine ZY ?_ ?_) | (refine ZX ?_) | (refine ZZ fun _=>?_))
noncomputable def Zex (y13 : ((List Tapi_Op)×Int)) : (Int×(List (Arr 4)))→Option ((Int×(List (Arr 4))) ⊕ ((List (Arr 4))×Int×Bool))
 | (p24,p25)=>(if p24 < (((y13.1).take ((IntKind.i64.wrap ((y13.1.length : Int) - 1)).toNat)).length : Int) then (idx ((y13.1).take ((IntKind.i64.wrap ((y13.1.length : Int) - 1)).toNat)) (p24)).bindF fun x31=>(if (¬ (x31.1 = 1)∨¬ ((x31.2.1.length : Int) = 32)) then some (.inr ((([] : (List (Arr 4))),0,false))) else (chk (32≤x31.2.1.length)).bindF fun _=>(Ze2 (Zg8 32 x31.2.1)).bindF fun y33=>(chk (p25.length + 1≤4398046511104)).bindF fun _=>some (.inl (IntKind.i64.wrap (p24 + 1),p25++[y33]))) else (Zew y13 p25).map Sum.inr)
theorem ZiA (y13 : ((List Tapi_Op)×Int)) (s) : Le (Zex y13 s) (ZcF y13 s):=by
 obtain ⟨p24,p25⟩:=s;unfold Zex ZcF;try dsimp only
 repeat' (first | (with_reducible exact Le.refl _) | (with_reducible apply Zi6) | (with_reducible apply Ziz) | (refine ZP ?_ fun _=>?_) | (refine ZY ?_ ?_) | (refine ZX ?_) | (refine ZZ fun _=>?_))
noncomputable def Zey (p9 : (List Int)) : Option ((List (Arr 4))×Int×Bool) :=
 (Zei p9).bindF fun y13=>(if (¬ (y13.2 = 0)∨(y13.1.length : Int) < 2) then some ((([] : (List (Arr 4))),0,false)) else (chk (IntKind.i64.wrap ((y13.1.length : Int) - 1)≤(y13.1.length : Int)∧0≤IntKind.i64.wrap ((y13.1.length : Int) - 1))).bindF fun _=>Zeu (Zex y13) (0,[]))
theorem ZiB (p9 : (List Int)) : Le (Zey p9) (ZcG p9):=by
 unfold Zey ZcG;try dsimp only
 repeat' (first | (with_reducible exact Le.refl _) | (with_reducible apply ZgG) | (with_reducible apply ZiA) | (refine ZP ?_ fun _=>?_) | (refine ZY ?_ ?_) | (refine ZX ?_) | (refine ZZ fun _=>?_))
noncomputable def Fpartial_Keys_s1 : ((List Int)×Int)→Option (((List Int)×Int) ⊕ ((List (Arr 4))×Int×Bool))
 | (p9,p10)=>(if 0 < p10 then (chk (0≤p10∧p10≤(p9.length : Int))).bindF fun _=>(Zb8 ((p9).drop ((p10).toNat))).bindF fun y36=>some (.inl ((p9).drop ((p10).toNat),y36)) else (Zey p9).map Sum.inr)
theorem ZiC (s) : Le (Fpartial_Keys_s1 s) (Lpartial_Keys_s1 s):=by
 obtain ⟨p9,p10⟩:=s;unfold Fpartial_Keys_s1 Lpartial_Keys_s1;try dsimp only
 repeat' (first | (with_reducible exact Le.refl _) | (with_reducible apply ZeE) | (with_reducible apply ZiB) | (refine ZP ?_ fun _=>?_) | (refine ZY ?_ ?_) | (refine ZX ?_) | (refine ZZ fun _=>?_))
noncomputable def Zej (a0 : (List Int)) : Option ((List (Arr 4))×Int×Bool) :=
 (Zei a0).bindF fun y1=>(if ¬ (y1.2 = 0) then some ((([] : (List (Arr 4))),0,false)) else (Zb8 a0).bindF fun y2=>Zeu (Fpartial_Keys_s1) (a0,y2))
theorem Zkb (a0 : (List Int)) : Le (Zej a0) (XH a0):=by
 unfold Zej XH;try dsimp only
 repeat' (first | (with_reducible exact Le.refl _) | (with_reducible apply ZgG) | (with_reducible apply ZeE) | (with_reducible apply ZiC) | (refine ZP ?_ fun _=>?_) | (refine ZY ?_ ?_) | (refine ZX ?_) | (refine ZZ fun _=>?_))
noncomputable def ZfW (a0 : (List Int)) (a1 : (List Int)) : Option ((List Int)) :=
 (Zc3 [[14],a0,[15],a1,[16]]).bindF fun y1=>some (y1)
theorem Zkc (a0 : (List Int)) (a1 : (List Int)) : Le (ZfW a0 a1) (Zah a0 a1):=by
 unfold ZfW Zah;try dsimp only
 repeat' (first | (with_reducible exact Le.refl _) | (with_reducible apply ZdO) | (refine ZP ?_ fun _=>?_) | (refine ZY ?_ ?_) | (refine ZX ?_) | (refine ZZ fun _=>?_))
noncomputable def Flaw35_sane : Option (Bool) :=
 (ZdN 4).bindF fun y1=>(ZdN 16).bindF fun y2=>(ZdN 64).bindF fun y3=>(Ze1 2 [y1,y2,y3]).bindF fun y4=>(Zej y4.1).bindF fun y5=>(ZfW y4.1 y4.1).bindF fun y6=>(Zej y6).bindF fun y7=>((if ((y5.2.2 = true∧y5.2.1 = 2)∧(y5.1.length : Int) = 3) then ((y5.1)[2]?).bindF fun x8=>(ZdN 64).bindF fun y9=>some (decide (x8 = y9)) else some (false))).bindF fun z10=>some (((((y5.2.2 && decide (y5.2.1 = 2)) && decide ((y5.1.length : Int) = 3)) && z10) && !(y7.2.2)))
theorem Flaw35_sane_le : Le (Flaw35_sane) (Llaw35_sane):=by
 unfold Flaw35_sane Llaw35_sane;try dsimp only
 repeat' (first | (with_reducible exact Le.refl _) | (with_reducible apply Zl8) | (with_reducible apply ZgT) | (with_reducible apply Zkb) | (with_reducible apply Zkc) | (refine ZP ?_ fun _=>?_) | (refine ZY ?_ ?_) | (refine ZX ?_) | (refine ZZ fun _=>?_))
noncomputable def Zez (a0 : Int) (a1 : Int) (a2 : Int) : Option (Int×Int) :=
 (chk ((0≤a0∧0≤a1)∧(a1≤18446744073709551615∧0≤a2)∧a2≤1)).bindF fun _=>some ((a0 + 18446744073709551616 - a1 - a2) % 18446744073709551616,if a0 < a1 + a2 then 1 else 0)
theorem ZiD (a0 : Int) (a1 : Int) (a2 : Int) : Le (Zez a0 a1 a2) (Zap a0 a1 a2):=by
 unfold Zez Zap;try dsimp only
 repeat' (first | (with_reducible exact Le.refl _) | (refine ZP ?_ fun _=>?_) | (refine ZY ?_ ?_) | (refine ZX ?_) | (refine ZZ fun _=>?_))
noncomputable def ZfX (p9 : (Arr 4)) (p7 : Int) : Option ((Arr 4)×Bool) :=
 some ((p9,decide (p7 = 1)))
theorem Zkd (p9 : (Arr 4)) (p7 : Int) : Le (ZfX p9 p7) (Zef p9 p7):=by
 unfold ZfX Zef;try dsimp only
 repeat' (first | (with_reducible exact Le.refl _) | (refine ZP ?_ fun _=>?_) | (refine ZY ?_ ?_) | (refine ZX ?_) | (refine ZZ fun _=>?_))
noncomputable def ZfY (a0 : (Arr 4)) (a1 : (Arr 4)) : (Int×Int×(Arr 4))→Option ((Int×Int×(Arr 4)) ⊕ ((Arr 4)×Bool))
 | (p7,p8,p9)=>(if p8 < 4 then (inA (4) (p8)).bindF fun j12=>(Zez (a0.at j12) (a1.at j12) p7).bindF fun y13=>some (.inl (y13.2,IntKind.i64.wrap (p8 + 1),p9.put j12 y13.1)) else (ZfX p9 p7).map Sum.inr)
theorem Zke (a0 : (Arr 4)) (a1 : (Arr 4)) (s) : Le (ZfY a0 a1 s) (Zeg a0 a1 s):=by
 obtain ⟨p7,p8,p9⟩:=s;unfold ZfY Zeg;try dsimp only
 repeat' (first | (with_reducible exact Le.refl _) | (with_reducible apply ZiD) | (with_reducible apply Zkd) | (refine ZP ?_ fun _=>?_) | (refine ZY ?_ ?_) | (refine ZX ?_) | (refine ZZ fun _=>?_))
noncomputable def ZhY (a0 : (Arr 4)) (a1 : (Arr 4)) : Option ((Arr 4)×Bool) :=
 Zeu (ZfY a0 a1) (0,0,zA 4)
theorem Zl9 (a0 : (Arr 4)) (a1 : (Arr 4)) : Le (ZhY a0 a1) (Zb4 a0 a1):=by
 unfold ZhY Zb4;try dsimp only
 repeat' (first | (with_reducible exact Le.refl _) | (with_reducible apply Zke) | (refine ZP ?_ fun _=>?_) | (refine ZY ?_ ?_) | (refine ZX ?_) | (refine ZZ fun _=>?_))
noncomputable def Fref05_Modulus : Option ((Arr 4)) :=
 (Zde 36113).bindF fun y1=>(ZhY (zA 4) y1).bindF fun y2=>some (y2.1)
theorem Fref05_Modulus_le : Le (Fref05_Modulus) (Lref05_Modulus):=by
 unfold Fref05_Modulus Lref05_Modulus;try dsimp only
 repeat' (first | (with_reducible exact Le.refl _) | (with_reducible apply ZfJ) | (with_reducible apply Zl9) | (refine ZP ?_ fun _=>?_) | (refine ZY ?_ ?_) | (refine ZX ?_) | (refine ZZ fun _=>?_))
noncomputable def ZhZ (a0 : (Arr 4)) (a1 : Int) : Option (Bool) :=
 (inA (4) (IntKind.i64.wrap ((a1).tdiv 64))).bindF fun j1=>(chk (¬ ((a1).tmod 64 < 0))).bindF fun _=>some (decide (bits .and .u64 ((a0.at j1).fdiv (2 ^ (min ((a1).tmod 64).toNat 64))) 1 = 1))
theorem Zma (a0 : (Arr 4)) (a1 : Int) : Le (ZhZ a0 a1) (Zb2 a0 a1):=by
 unfold ZhZ Zb2;try dsimp only
 repeat' (first | (with_reducible exact Le.refl _) | (refine ZP ?_ fun _=>?_) | (refine ZY ?_ ?_) | (refine ZX ?_) | (refine ZZ fun _=>?_))
noncomputable def ZfZ (p12 : (Arr 4)) : Option (Arr 4) :=
 some (p12)
theorem Zkf (p12 : (Arr 4)) : Le (ZfZ p12) (Zed p12):=by
 unfold ZfZ Zed;try dsimp only
 repeat' (first | (with_reducible exact Le.refl _) | (refine ZP ?_ fun _=>?_) | (refine ZY ?_ ?_) | (refine ZX ?_) | (refine ZZ fun _=>?_))
noncomputable def Zek (p11 : Int) (p20 : (Arr 4)) : Option ((Int×(Arr 4)) ⊕ ((Arr 4))) :=
 some (.inl (IntKind.i64.wrap (p11 + 1),p20))
theorem Zkg (p11 : Int) (p20 : (Arr 4)) : Le (Zek p11 p20) (ZaX p11 p20):=by
 unfold Zek ZaX;try dsimp only
 repeat' (first | (with_reducible exact Le.refl _) | (refine ZP ?_ fun _=>?_) | (refine ZY ?_ ?_) | (refine ZX ?_) | (refine ZZ fun _=>?_))
noncomputable def Zf0 (a1 : Int) (a0 : (Arr 4)) : (Int×(Arr 4))→Option ((Int×(Arr 4)) ⊕ ((Arr 4)))
 | (p11,p12)=>(if IntKind.i64.wrap (p11 + a1) < 256 then (ZhZ a0 (IntKind.i64.wrap (p11 + a1))).bindF fun y17=>(if y17 = true then (inA (4) (IntKind.i64.wrap ((p11).tdiv 64))).bindF fun j21=>(chk (¬ ((p11).tmod 64 < 0))).bindF fun _=>Zek p11 (p12.put j21 (bits .or .u64 (p12.at j21) (IntKind.u64.wrap (1 * (2 ^ (min ((p11).tmod 64).toNat 64)))))) else Zek p11 p12) else (ZfZ p12).map Sum.inr)
theorem Zkh (a1 : Int) (a0 : (Arr 4)) (s) : Le (Zf0 a1 a0 s) (Zee a1 a0 s):=by
 obtain ⟨p11,p12⟩:=s;unfold Zf0 Zee;try dsimp only
 repeat' (first | (with_reducible exact Le.refl _) | (with_reducible apply Zma) | (with_reducible apply Zkg) | (with_reducible apply Zkf) | (refine ZP ?_ fun _=>?_) | (refine ZY ?_ ?_) | (refine ZX ?_) | (refine ZZ fun _=>?_))
noncomputable def Zh0 (a0 : (Arr 4)) (a1 : Int) : Option ((Arr 4)) :=
 (if a1≤0 then some (a0) else (if 256≤a1 then some (zA 4) else Zeu (Zf0 a1 a0) (0,zA 4)))
theorem Zmb (a0 : (Arr 4)) (a1 : Int) : Le (Zh0 a0 a1) (Zb3 a0 a1):=by
 unfold Zh0 Zb3;try dsimp only
 repeat' (first | (with_reducible exact Le.refl _) | (with_reducible apply Zkh) | (refine ZP ?_ fun _=>?_) | (refine ZY ?_ ?_) | (refine ZX ?_) | (refine ZZ fun _=>?_))
noncomputable def Fref05_Order : Option ((Arr 4)) :=
 (Fref05_Modulus).bindF fun y1=>(Zh0 y1 1).bindF fun y2=>some (y2)
theorem Fref05_Order_le : Le (Fref05_Order) (Lref05_Order):=by
 unfold Fref05_Order Lref05_Order;try dsimp only
 repeat' (first | (with_reducible exact Le.refl _) | (with_reducible apply Fref05_Modulus_le) | (with_reducible apply Zmb) | (refine ZP ?_ fun _=>?_) | (refine ZY ?_ ?_) | (refine ZX ?_) | (refine ZZ fun _=>?_))
noncomputable def ZfB (a0 : (List Int)) : Option ((List Int)) :=
 (Zeh (1,a0,0,0)).bindF fun y1=>some (y1)
theorem Zhq (a0 : (List Int)) : Le (ZfB a0) (Zau a0):=by
 unfold ZfB Zau;try dsimp only
 repeat' (first | (with_reducible exact Le.refl _) | (with_reducible apply ZgC) | (refine ZP ?_ fun _=>?_) | (refine ZY ?_ ?_) | (refine ZX ?_) | (refine ZZ fun _=>?_))
noncomputable def Zf1 (a0 : (Arr 4)) : Option ((List Int)) :=
 (Zgf a0).bindF fun y1=>(ZfB y1).bindF fun y2=>(Zc3 [y2,[10]]).bindF fun y3=>some (y3)
theorem Zki (a0 : (Arr 4)) : Le (Zf1 a0) (XI a0):=by
 unfold Zf1 XI;try dsimp only
 repeat' (first | (with_reducible exact Le.refl _) | (with_reducible apply Ziv) | (with_reducible apply Zhq) | (with_reducible apply ZdO) | (refine ZP ?_ fun _=>?_) | (refine ZY ?_ ?_) | (refine ZX ?_) | (refine ZZ fun _=>?_))
noncomputable def Zfk (p5 : (List Int)) : Option (List Int) :=
 some (p5)
theorem ZjL (p5 : (List Int)) : Le (Zfk p5) (ZdK p5):=by
 unfold Zfk ZdK;try dsimp only
 repeat' (first | (with_reducible exact Le.refl _) | (refine ZP ?_ fun _=>?_) | (refine ZY ?_ ?_) | (refine ZX ?_) | (refine ZZ fun _=>?_))
noncomputable def Fref08_Item_s1 : (Int×(List Int))→Option ((Int×(List Int)) ⊕ ((List Int)))
 | (p4,p5)=>(if 0 < p4 then (chk (p5.length + 1≤140737488355328)).bindF fun _=>some (.inl (IntKind.u32.wrap ((p4).tdiv 256),p5++[IntKind.u8.wrap (p4)])) else (Zfk p5).map Sum.inr)
theorem ZjM (s) : Le (Fref08_Item_s1 s) (Lref08_Item_s1 s):=by
 obtain ⟨p4,p5⟩:=s;unfold Fref08_Item_s1 Lref08_Item_s1;try dsimp only
 repeat' (first | (with_reducible exact Le.refl _) | (with_reducible apply ZjL) | (refine ZP ?_ fun _=>?_) | (refine ZY ?_ ?_) | (refine ZX ?_) | (refine ZZ fun _=>?_))
noncomputable def Zha (a0 : Int) : Option ((List Int)) :=
 Zeu (Fref08_Item_s1) (a0,[])
theorem Zk8 (a0 : Int) : Le (Zha a0) (Zbg a0):=by
 unfold Zha Zbg;try dsimp only
 repeat' (first | (with_reducible exact Le.refl _) | (with_reducible apply ZjM) | (refine ZP ?_ fun _=>?_) | (refine ZY ?_ ?_) | (refine ZX ?_) | (refine ZZ fun _=>?_))
noncomputable def ZgH (a0 : Int) (a1 : (List Int)) : Option ((List Int)) :=
 (Zha a0).bindF fun y1=>(ZfB y1).bindF fun y2=>(Zc3 [y2,[12,3],a1]).bindF fun y3=>some (y3)
theorem ZkO (a0 : Int) (a1 : (List Int)) : Le (ZgH a0 a1) (X4 a0 a1):=by
 unfold ZgH X4;try dsimp only
 repeat' (first | (with_reducible exact Le.refl _) | (with_reducible apply Zk8) | (with_reducible apply Zhq) | (with_reducible apply ZdO) | (refine ZP ?_ fun _=>?_) | (refine ZY ?_ ?_) | (refine ZX ?_) | (refine ZZ fun _=>?_))
theorem order_val : Fref05_Order = some ((((zA 4).put 0 18446744073709533559).put 1 18446744073709551615).put 2 18446744073709551615 |>.put 3 9223372036854775807):=by kernel_rfl
theorem sane35F : Flaw35_sane = some true:=by kernel_rfl
theorem sane35 : Llaw35_sane = some true:=Flaw35_sane_le _ sane35F
def key4 : Arr 4:=(zA 4).put 0 4
def key16 : Arr 4:=(zA 4).put 0 16
theorem scripts_val : ((Ze1 2 [key4,key16,key4]).bindF fun y=>(ZgH 1 y.1).map fun q=>decide (q.length≤1000)) = some true:=by kernel_rfl
theorem single_val : ((Zf1 key16).map fun q=>decide (q.length≤1000)) = some true:=by kernel_rfl
end Go.Lc
end
section
namespace Go.Lc
open Go.RowKit
open Go.Av
set_option linter.unusedVariables false
theorem ZlN (bad : Nat→Prop) : ∀ n,(∃ i,i < n∧bad i)→∃ m,m < n∧bad m∧∀ j,j < m→¬ bad j:=by
 classical
 intro n;induction n with
 | zero=>rintro ⟨i,h,_⟩; omega
 | succ n ih =>
  intro h;by_cases hx : ∃ i,i < n∧bad i
  ·obtain ⟨m,h1,h2,h3⟩:=ih hx
   exact ⟨m,by omega,h2,h3⟩
  ·obtain ⟨i,hi,hb⟩:=h
   have : i = n:=by
    rcases Nat.lt_or_ge i n with h' | h'
    ·exact absurd ⟨i,h',hb⟩ hx
    ·omega
   subst this;exact ⟨i,by omega,hb,fun j hj hb=>hx ⟨j,hj,hb⟩⟩
theorem ZmS {σ ρ : Type} {step : σ→Option (σ ⊕ ρ)} (enc : Nat→σ) (n : Nat) (bad : Nat→Prop) (rb x : Option ρ) (h : ∀ i,i < n→¬ bad i→step (enc i) = some (.inl (enc (i + 1)))) (hb : ∀ i,i < n→bad i→step (enc i) = rb.map .inr) (he : step (enc n) = x.map .inr) : Zu step (enc 0) = (by classical exact if ∃ i,i < n∧bad i then rb else x):=by
 classical
 by_cases hx : ∃ i,i < n∧bad i
 ·rw [if_pos hx]
  obtain ⟨m,hm,hbm,hmin⟩:=ZlN bad n hx;exact Yu enc m (fun i hi=>h i (by omega) (hmin i hi)) (hb m hm hbm)
 ·rw [if_neg hx]
  exact Yu enc n (fun i hi=>h i hi fun hbi=>hx ⟨i,hi,hbi⟩) he
theorem Zpr {σ ρ α : Type} {step : σ→Option (σ ⊕ ρ)} (enc : Nat→σ) (l : List α) (bad : α→Prop) (rb x : Option ρ) (h : ∀ i (hi : i < l.length),¬ bad l[i]→step (enc i) = some (.inl (enc (i + 1)))) (hb : ∀ i (hi : i < l.length),bad l[i]→step (enc i) = rb.map .inr) (he : step (enc l.length) = x.map .inr) : Zu step (enc 0) = (by classical exact if ∃ a∈l,bad a then rb else x):=by
 classical
 rw [ZmS enc l.length (fun i=>∃ hi : i < l.length,bad l[i]) rb x (fun i hi hn=>h i hi fun hb=>hn ⟨hi,hb⟩) (fun i hi ⟨_,hbi⟩=>hb i hi hbi) he]
 have : (∃ i,i < l.length∧∃ hi : i < l.length,bad l[i])↔∃ a∈l,bad a:=by
  constructor
  ·rintro ⟨i,_,hi,hb⟩
   exact ⟨_,List.getElem_mem hi,hb⟩
  ·rintro ⟨a,ha,hb⟩
   obtain ⟨i,hi,rfl⟩:=List.getElem_of_mem ha;exact ⟨i,hi,hi,hb⟩
 simp only [this]
theorem Zbx {σ ρ α : Type} {step : σ→Option (σ ⊕ ρ)} (enc : Nat→σ) (l : List α) (bad : α→Prop) (rb x : Option ρ) [inst : Decidable (∃ a∈l,bad a)] (h : ∀ i (hi : i < l.length),¬ bad l[i]→step (enc i) = some (.inl (enc (i + 1)))) (hb : ∀ i (hi : i < l.length),bad l[i]→step (enc i) = rb.map .inr) (he : step (enc l.length) = x.map .inr) {s : σ} (hs : s = enc 0) : Zu step s = if ∃ a∈l,bad a then rb else x:=by
 subst hs;rw [Zpr enc l bad rb x h hb he];split
 ·rfl
 ·rfl
theorem Zcn {α β : Type} {l : List α} (f : α→List β) {i : Nat} (h : i < l.length) : (l.take (i + 1)).flatMap f = (l.take i).flatMap f++f l[i]:=by
 rw [List.take_succ_eq_append_getElem h,List.flatMap_append];simp
theorem Zdg {α β : Type} (l : List α) (f : α→List β) (i : Nat) : ((l.take i).flatMap f).length≤(l.flatMap f).length:=by
 conv=>rhs; rw [← List.take_append_drop i l]
 rw [List.flatMap_append,List.length_append];omega
def Y3 (n : Int) (k : Nat) : List Int:=(List.range k).map fun i=>IntKind.u8.wrap (n.fdiv (2 ^ (8 * i)))
@[simp] theorem Zds (n : Int) (k : Nat) : (Y3 n k).length = k:=by simp [Y3]
theorem ZnE {i : Nat} (h : i < 8) : min (IntKind.i64.wrap (8 * (i : Int))).toNat 64 = 8 * i:=by
 rw [wi _ (by omega)];omega
theorem Zi9 (n : Int) (k : Nat) (hk : k≤8) : YJ n k = some (Y3 n k):=by
 unfold YJ;rw [ZR (by omega)]
 have:=Yu (step:=Zbq k n) (fun i=>((i : Int),((List.range i).map fun i=>IntKind.u8.wrap (n.fdiv (2 ^ (8 * i))))++List.replicate (k - i) 0)) k (x:=some (Y3 n k)) (fun i hi=>by
  simp only [Zbq];rw [if_pos (by omega),ZR (by rw [wi _ (by omega)]; omega),ZmO _ _ (by omega),ZaY hi,ZnE (by omega),ZlL (fun i=>IntKind.u8.wrap (n.fdiv (2 ^ (8 * i)))) 0 hi,Z7 hi (by omega)]) (by
  simp only [Zbq];rw [if_neg (by omega)]
  simp [Zep,Y3])
 simpa using this
theorem ZeF (n : Int) (k : Nat) (hk : k≤8) : Ye n k = some (Y3 n k):=by
 unfold Ye;rw [ZR (by omega)]
 have:=Yu (step:=Zbr k n) (fun i=>((i : Int),((List.range i).map fun i=>IntKind.u8.wrap (n.fdiv (2 ^ (8 * i))))++List.replicate (k - i) 0)) k (x:=some (Y3 n k)) (fun i hi=>by
  simp only [Zbr];rw [if_pos (by simp; omega),ZR (by rw [wi _ (by omega)]; omega),ZmO _ _ (by omega),ZaY hi,ZnE (by omega),ZlL (fun i=>IntKind.u8.wrap (n.fdiv (2 ^ (8 * i)))) 0 hi,Z7 hi (by omega)]) (by
  simp only [Zbr];rw [if_neg (by simp)]
  simp [Zeq,Y3])
 simpa using this
theorem Zb9 {a b : List Int} (h : a.length + b.length≤140737488355328) : Ys a b = some (a++b):=by
 unfold Ys;rw [wi _ (by omega),ZR (by omega),ZR (by omega),ZR (by omega)]
theorem ZaI {a b : List Int} (h : a.length + b.length≤140737488355328) : Z9 a b = some (a++b):=by
 unfold Z9;rw [wi _ (by omega),ZR (by omega),ZR (by omega),ZR (by omega)]
section
variable {b : List Int} {n : Int}
theorem Zja (h : b.length≤140737488355000) : YB b n = some (b++Y3 (IntKind.u64.wrap n) 4):=by
 unfold YB;have this : YJ (IntKind.u64.wrap n) 4 = some (Y3 (IntKind.u64.wrap n) 4):=Zi9 _ 4 (by omega);rw [this,Zf,Zb9 (by simp; omega)];rfl
theorem Zps (h : b.length≤140737488355000) : Y0 b n = some (b++Y3 n 8):=by
 unfold Y0;have this : YJ n 8 = some (Y3 n 8):=Zi9 _ 8 (by omega);rw [this,Zf,Zb9 (by simp; omega)];rfl
theorem Zsy (h : b.length≤140737488355000) : Xj b n = some (b++Y3 (IntKind.u64.wrap n) 2):=by
 unfold Xj;have this : YJ (IntKind.u64.wrap n) 2 = some (Y3 (IntKind.u64.wrap n) 2):=Zi9 _ 2 (by omega);rw [this,Zf,Zb9 (by simp; omega)];rfl
theorem Zjv (h : b.length≤140737488355000) : YG b n = some (b++Y3 (IntKind.u64.wrap n) 4):=by
 unfold YG;have this : Ye (IntKind.u64.wrap n) 4 = some (Y3 (IntKind.u64.wrap n) 4):=ZeF _ 4 (by omega);rw [this,Zf,ZaI (by simp; omega)];rfl
theorem ZrF (h : b.length≤140737488355000) : Xk b n = some (b++Y3 n 8):=by
 unfold Xk;have this : Ye n 8 = some (Y3 n 8):=ZeF _ 8 (by omega);rw [this,Zf,ZaI (by simp; omega)];rfl
def ZbB (n : Int) : List Int:=if n < 253 then Y3 n 1 else if n < 65536 then 253 :: Y3 n 2 else if n < 4294967296 then 254 :: Y3 n 4 else 255 :: Y3 n 8
theorem Zca (n : Int) : (ZbB n).length≤9:=by
 unfold ZbB;split
 ·simp
 ·split
  ·simp
  ·split <;> simp
theorem Zjw (h0 : 0≤n∧n≤18446744073709551615) (h : b.length≤140737488354900) : YD b n = some (b++ZbB n):=by
 unfold YD ZbB;split
 ·rw [Zb9 (by simp; omega)]
  simp [Y3]
 ·split
  ·rw [Zb9 (by simp; omega),Zf,Zsy (by simp; omega),IntWalk.u16_in _ (by omega),wu _ (by omega)]
   simp
  ·split
   ·rw [Zb9 (by simp; omega),Zf,Zja (by simp; omega),IntWalk.u32_in _ (by omega),wu _ (by omega)]
    simp
   ·rw [Zb9 (by simp; omega),Zf,Zps (by simp; omega)]
    simp
theorem Zh1 (h0 : 0≤n∧n≤18446744073709551615) (h : b.length≤140737488354900) : YE b n = some (b++ZbB n):=by
 have l1 : Ye n 1 = some (Y3 n 1):=ZeF n 1 (by omega);have l2 : Ye n 2 = some (Y3 n 2):=ZeF n 2 (by omega);have l4 : Ye n 4 = some (Y3 n 4):=ZeF n 4 (by omega);have l8 : Ye n 8 = some (Y3 n 8):=ZeF n 8 (by omega);unfold YE ZbB;split
 ·rw [l1,Zf,ZaI (by simp; omega)]
  rfl
 ·split
  ·rw [l2,Zf,ZaI (by simp),Zf,ZaI (by simp; omega)]
   rfl
  ·split
   ·rw [l4,Zf,ZaI (by simp),Zf,ZaI (by simp; omega)]
    rfl
   ·rw [l8,Zf,ZaI (by simp),Zf,ZaI (by simp; omega)]
    rfl
end
def bytesB (s : List Int) : List Int:=ZbB s.length++s
theorem ZkP (s : List Int) : (bytesB s).length≤9 + s.length:=by
 have:=Zca s.length;simp [bytesB]
 omega
theorem ZeG {n : Nat} (h : n≤140737488355328) : IntKind.u64.wrap (n : Int) = n:=wu _ (by omega)
theorem ZlO {b s : List Int} (h : b.length + s.length≤140737488354900) : YM b s = some (b++bytesB s):=by
 unfold YM;have:=Zca s.length;rw [ZeG (by omega),Zjw (by omega) (by omega),Zf,Zb9 (by simp; omega)];simp [bytesB]
theorem ZlP {b s : List Int} (h : b.length + s.length≤140737488354900) : YN b s = some (b++bytesB s):=by
 unfold YN;have:=Zca s.length;rw [ZeG (by omega),Zh1 (by omega) (by omega),Zf,ZaI (by simp; omega)];simp [bytesB]
theorem ZrG {b : List Int} {a : Arr 32} (h : b.length≤140737488355000) : Y4 b a = some (b++a.l):=by
 unfold Y4;rw [Zb9 (by rw [a.hl]; omega)];rfl
theorem ZqD {b : List Int} {a : Arr 32} (h : b.length≤140737488355000) : Y5 b a = some (b++a.l):=by
 unfold Y5;rw [ZaI (by rw [a.hl]; omega)];rfl
def Zhr (o : Tapi_OutPoint) : List Int:=o.1.l++Y3 (IntKind.u64.wrap o.2) 4
@[simp] theorem ZkQ (o : Tapi_OutPoint) : (Zhr o).length = 36:=by simp [Zhr,o.1.hl]
theorem ZqE (o : Tapi_OutPoint) : Zcq o = some (Zhr o):=by
 unfold Zcq;rw [ZrG (by simp),Zf,Zja (by simp [o.1.hl])];rfl
theorem Zpt (o : Tapi_OutPoint) : ZaB o = some (Zhr o):=by
 unfold ZaB;rw [ZqD (by simp),Zf,Zjv (by simp [o.1.hl])];rfl
end Go.Lc
end
section
namespace Go.Lc
open Go.RowKit
open Go.Av
set_option linter.unusedVariables false
def inB (x : Tapi_Input) : List Int:=Zhr x.1++Y3 (IntKind.u64.wrap x.2.1) 4
@[simp] theorem ZrH (x : Tapi_Input) : (inB x).length = 40:=by simp [inB]
def Zfl (o : Tapi_Output) : List Int:=Y3 (IntKind.u64.wrap o.1) 8++bytesB o.2
def Zjb (x : Tapi_Input) : List Int:=ZbB x.2.2.length++x.2.2.flatMap bytesB
def ZgU (t : Tapi_Tx) : List Int:=Y3 (IntKind.u64.wrap t.1) 4++ZbB t.2.1.length
def ZbC (t : Tapi_Tx) (w : Bool) : List Int:=ZgU t++t.2.1.flatMap inB++ZbB t.2.2.1.length++t.2.2.1.flatMap Zfl++Y3 (IntKind.u64.wrap t.2.2.2) 4++(if w then t.2.1.flatMap Zjb else [])
def Zab (t : Tapi_Tx) : Nat:=100 + (t.2.1.map fun x=>60 + (x.2.2.map fun s=>20 + s.length).sum).sum + (t.2.2.1.map fun o=>60 + o.2.length).sum
theorem Zhs {α β : Type} (f : α→List β) (g : α→Nat) (h : ∀ a,(f a).length≤g a) (l : List α) : (l.flatMap f).length≤(l.map g).sum:=by
 induction l with
 | nil=>simp
 | cons a l ih =>
  simp only [List.flatMap_cons,List.length_append,List.map_cons,List.sum_cons];have:=h a;omega
theorem Zh2 {α : Type} (g : α→Nat) {l : List α} {a : α} (h : a∈l) : g a≤(l.map g).sum:=by
 induction l with
 | nil=>simp at h
 | cons b l ih =>
  simp only [List.map_cons,List.sum_cons];rcases List.mem_cons.1 h with rfl | h
  ·omega
  ·have:=ih h
   omega
theorem ZgI {α : Type} (g : α→Nat) (c : Nat) (h : ∀ a,c≤g a) (l : List α) : c * l.length≤(l.map g).sum:=by
 induction l with
 | nil=>simp
 | cons a l ih =>
  have:=h a;simp only [List.map_cons,List.sum_cons,List.length_cons,Nat.mul_add];omega
theorem ZrI (x : Tapi_Input) : (Zjb x).length≤9 + (x.2.2.map fun s=>20 + s.length).sum:=by
 have h1:=Zca x.2.2.length;have h2:=Zhs bytesB (fun s=>20 + s.length) (fun s=>by have:=ZkP s; omega) x.2.2;simp only [Zjb,List.length_append];omega
theorem ZrJ (o : Tapi_Output) : (Zfl o).length≤20 + o.2.length:=by
 have:=ZkP o.2;simp only [Zfl,List.length_append,Zds];omega
section
variable {t : Tapi_Tx} {w : Bool}
def Zdt (t : Tapi_Tx) (i : Nat) : List Int:=ZgU t++(t.2.1.take i).flatMap inB
def Zdu (t : Tapi_Tx) (i : Nat) : List Int:=ZgU t++t.2.1.flatMap inB++ZbB t.2.2.1.length++(t.2.2.1.take i).flatMap Zfl
def Zdv (t : Tapi_Tx) (i : Nat) : List Int:=ZgU t++t.2.1.flatMap inB++ZbB t.2.2.1.length++t.2.2.1.flatMap Zfl++Y3 (IntKind.u64.wrap t.2.2.2) 4++(t.2.1.take i).flatMap Zjb
theorem Zk9 (t : Tapi_Tx) : (t.2.1.flatMap inB).length + (t.2.1.flatMap Zjb).length≤(t.2.1.map fun x=>60 + (x.2.2.map fun s=>20 + s.length).sum).sum:=by
 induction t.2.1 with
 | nil=>simp
 | cons x l ih =>
  have:=ZrI x;simp only [List.flatMap_cons,List.length_append,List.map_cons,List.sum_cons,ZrH];omega
theorem ZmT (t : Tapi_Tx) : (t.2.2.1.flatMap Zfl).length≤(t.2.2.1.map fun o=>60 + o.2.length).sum:=Zhs Zfl _ (fun o=>by have:=ZrJ o; omega) _
theorem Zjc (t : Tapi_Tx) : (ZgU t).length≤13:=by
 have:=Zca t.2.1.length;simp only [ZgU,List.length_append,Zds];omega
theorem Zla (i : Nat) : (Zdt t i).length + 50≤Zab t:=by
 have h1:=Zjc t;have h2:=Zdg t.2.1 inB i;have h3:=Zk9 t;simp only [Zdt,Zab,List.length_append];omega
theorem Zht (i : Nat) : (Zdu t i).length + 50≤Zab t:=by
 have h1:=Zjc t;have h2:=Zdg t.2.2.1 Zfl i;have h3:=Zk9 t;have h4:=ZmT t;have h5:=Zca t.2.2.1.length;simp only [Zdu,Zab,List.length_append];omega
theorem ZnF (i : Nat) : (Zdv t i).length + 50≤Zab t:=by
 have h1:=Zjc t;have h2:=Zdg t.2.1 Zjb i;have h3:=Zk9 t;have h4:=ZmT t;have h5:=Zca t.2.2.1.length;simp only [Zdv,Zab,List.length_append,Zds];omega
theorem Zfm (t : Tapi_Tx) : t.2.1.length≤Zab t:=by
 have:=ZgI (fun x : Tapi_Input=>60 + (x.2.2.map fun s=>20 + s.length).sum) 60 (fun x=>by omega) t.2.1;unfold Zab;omega
theorem ZlQ (t : Tapi_Tx) : t.2.2.1.length≤Zab t:=by
 have:=ZgI (fun o : Tapi_Output=>60 + o.2.length) 60 (fun x=>by omega) t.2.2.1;unfold Zab;omega
theorem ZnG {x : Tapi_Input} (h : x∈t.2.1) : 60 + (x.2.2.map fun s=>20 + s.length).sum≤Zab t:=by
 have:=Zh2 (fun x : Tapi_Input=>60 + (x.2.2.map fun s=>20 + s.length).sum) h;unfold Zab;omega
theorem ZmU {o : Tapi_Output} (h : o∈t.2.2.1) : 60 + o.2.length≤Zab t:=by
 have:=Zh2 (fun o : Tapi_Output=>60 + o.2.length) h;unfold Zab;omega
theorem ZgV {x : Tapi_Input} (h : x∈t.2.1) : x.2.2.length≤Zab t:=by
 have h1:=ZnG h;have:=ZgI (fun s : List Int=>20 + s.length) 20 (fun x=>by omega) x.2.2;omega
theorem ZmV {x : Tapi_Input} (h : x∈t.2.1) {s : List Int} (hs : s∈x.2.2) : 20 + s.length≤Zab t:=by
 have h1:=ZnG h;have:=Zh2 (fun s : List Int=>20 + s.length) hs;omega
end
section
variable {t : Tapi_Tx} {w : Bool}
theorem Zjd {i : Nat} (h : i < t.2.1.length) : Zdv t (i + 1) = Zdv t i++ZbB (t.2.1[i]).2.2.length++(t.2.1[i]).2.2.flatMap bytesB:=by
 simp only [Zdv,Zcn Zjb h,Zjb,List.append_assoc]
theorem ZmW {i : Nat} (h : i < t.2.1.length) : (Zdv t i++ZbB (t.2.1[i]).2.2.length).length + ((t.2.1[i]).2.2.flatMap bytesB).length + 50≤Zab t:=by
 have:=ZnF (t:=t) (i + 1);rw [Zjd h] at this;simp only [List.length_append] at this ⊢;omega
theorem ZnH {x : Tapi_Input} {j : Nat} (h : j < x.2.2.length) : ((x.2.2.take j).flatMap bytesB).length + (bytesB x.2.2[j]).length≤(x.2.2.flatMap bytesB).length:=by
 have:=Zdg x.2.2 bytesB (j + 1);rw [Zcn bytesB h] at this;simpa using this
theorem ZrK (hM : Zab t≤1000000000000) {i : Nat} (h : i < t.2.1.length) {q : List Int} (hq : q.length + ((t.2.1[i]).2.2.flatMap bytesB).length + 50≤Zab t) :
  Zu (ZbD t.2.1[i] (i : Int)) (0,q) = some (.inl (((i + 1 : Nat) : Int),q++(t.2.1[i]).2.2.flatMap bytesB)):=by
 have hmem:=List.getElem_mem h;have hwl:=ZgV hmem;have hil:=Zfm t;generalize t.2.1[i] = x at hq hmem hwl ⊢
 have:=Yu (step:=ZbD x (i : Int)) (fun j=>((j : Int),q++(x.2.2.take j).flatMap bytesB)) x.2.2.length (x:=some (.inl (((i + 1 : Nat) : Int),q++x.2.2.flatMap bytesB))) (fun j hj=>by
  simp only [ZbD];have h1:=ZnH hj;have h2:=ZmV hmem (List.getElem_mem hj);rw [if_pos (by omega),Zw hj,ZlO (by simp; omega),Zf,ZR (by simp only [List.length_append,List.nil_append]; omega),Z7 hj (by omega),Zcn bytesB hj];simp) (by
  simp only [ZbD];rw [if_neg (by omega)]
  simp only [ZfQ,List.take_length,Z7 h (by omega)])
 simpa using this
theorem Zt2 (hM : Zab t≤1000000000000) : Zd9 t (Zdu t t.2.2.1.length) w = some (ZbC t w):=by
 have hil:=Zfm t;have h2:=Zht (t:=t) t.2.2.1.length;unfold Zd9;rw [Zja (by simp),Zf,ZR (by simp; omega)];have he : Zdu t t.2.2.1.length++([]++Y3 (IntKind.u64.wrap t.2.2.2) 4) = Zdv t 0:=by simp [Zdu,Zdv]
 rw [he];cases w with
 | false=>simp [ZbC,Zdv]
 | true =>
  rw [if_neg (by simp)]
  have:=Yu (step:=ZcO t) (fun i=>((i : Int),Zdv t i)) t.2.1.length (x:=some (ZbC t true)) (fun i hi=>by
   have h3:=ZmW hi;have h5:=ZgV (List.getElem_mem hi);simp only [ZcO];rw [if_pos (by omega),Zw hi,ZeG (by omega),Zjw (by omega) (by simp),Zf,ZR (by simp only [List.length_append,List.nil_append] at h3 ⊢; omega),List.nil_append,ZrK hM hi h3,Zjd hi]) (by
   simp only [ZcO];rw [if_neg (by omega)]
   simp [ZfP,Zdv,ZbC])
  simpa using this
theorem ZlR {i : Nat} (h : i < t.2.2.1.length) : Zdu t (i + 1) = Zdu t i++Y3 (IntKind.u64.wrap (t.2.2.1[i]).1) 8++bytesB (t.2.2.1[i]).2:=by
 simp only [Zdu,Zcn Zfl h,Zfl,List.append_assoc]
theorem Zt3 (hM : Zab t≤1000000000000) : Zea t (Zdt t t.2.1.length) w = some (ZbC t w):=by
 have hol:=ZlQ t;have h2:=Zht (t:=t) 0;have h1:=Zca t.2.2.1.length;have he : Zdt t t.2.1.length++ZbB t.2.2.1.length = Zdu t 0:=by simp [Zdt,Zdu]
 unfold Zea;rw [ZeG (by omega),Zjw (by omega) (by simp),Zf,List.nil_append,ZR (by rw [← List.length_append,he]; omega),he]
 have:=Yu (step:=ZcP t w) (fun i=>((i : Int),Zdu t i)) t.2.2.1.length (x:=some (ZbC t w)) (fun i hi=>by
  have h3:=Zht (t:=t) (i + 1);have h4:=ZmU (List.getElem_mem hi);rw [ZlR hi] at h3 ⊢;simp only [List.length_append,Zds] at h3;simp only [ZcP];rw [if_pos (by omega),Zw hi,Zps (by simp),Zf,ZR (by simp; omega),ZlO (by simp; omega),Zf,ZR (by simp; omega),Z7 hi (by omega)];simp) (by
  simp only [ZcP]
  rw [if_neg (by omega),Zt2 hM])
 simpa using this
theorem ZlS {i : Nat} (h : i < t.2.1.length) : Zdt t (i + 1) = Zdt t i++Zhr (t.2.1[i]).1++Y3 (IntKind.u64.wrap (t.2.1[i]).2.1) 4:=by
 simp only [Zdt,Zcn inB h,inB,List.append_assoc]
theorem Zpu (hM : Zab t≤1000000000000) : ZbO t w = some (ZbC t w):=by
 have hil:=Zfm t;have h1:=Zca t.2.1.length;have he : Y3 (IntKind.u64.wrap t.1) 4++ZbB t.2.1.length = Zdt t 0:=by simp [Zdt,ZgU]
 unfold ZbO;rw [Zja (by simp),Zf,ZeG (by omega),Zjw (by omega) (by simp),Zf,List.nil_append,List.nil_append,ZR (by simp; omega),he]
 have:=Yu (step:=ZcQ t w) (fun i=>((i : Int),Zdt t i)) t.2.1.length (x:=some (ZbC t w)) (fun i hi=>by
  have h3:=Zla (t:=t) (i + 1);rw [ZlS hi] at h3 ⊢;simp only [List.length_append,Zds,ZkQ] at h3;simp only [ZcQ];rw [if_pos (by omega),Zw hi,ZqE,Zf,ZR (by simp; omega),Zja (by simp),Zf,ZR (by simp; omega),Z7 hi (by omega)];simp) (by
  simp only [ZcQ]
  rw [if_neg (by omega),Zt3 hM])
 simpa using this
theorem ZrL {o : Tapi_Output} (h : o.2.length≤140737488354000) : ZbP o = some (Zfl o):=by
 unfold ZbP;rw [ZrF (by simp),Zf,ZlP (by simp; omega)];rfl
theorem ZqF (hM : Zab t≤1000000000000) {i : Nat} (h : i < t.2.1.length) {q : List Int} (hq : q.length + ((t.2.1[i]).2.2.flatMap bytesB).length + 50≤Zab t) :
  Zu (Zan t.2.1[i] (i : Int)) (0,q) = some (.inl (((i + 1 : Nat) : Int),q++(t.2.1[i]).2.2.flatMap bytesB)):=by
 have hmem:=List.getElem_mem h;have hwl:=ZgV hmem;have hil:=Zfm t;generalize t.2.1[i] = x at hq hmem hwl ⊢
 have:=Yu (step:=Zan x (i : Int)) (fun j=>((j : Int),q++(x.2.2.take j).flatMap bytesB)) x.2.2.length (x:=some (.inl (((i + 1 : Nat) : Int),q++x.2.2.flatMap bytesB))) (fun j hj=>by
  simp only [Zan];have h1:=ZnH hj;have h2:=ZmV hmem (List.getElem_mem hj);rw [if_pos (by omega),Zw hj,ZlP (by simp only [List.length_append]; omega),Zf,Z7 hj (by omega),Zcn bytesB hj];simp) (by
  simp only [Zan];rw [if_neg (by omega)]
  simp only [Zer,List.take_length,Z7 h (by omega)])
 simpa using this
theorem Zsz (hM : Zab t≤1000000000000) : ZcB (Zdu t t.2.2.1.length) t w = some (ZbC t w):=by
 have hil:=Zfm t;have h2:=Zht (t:=t) t.2.2.1.length;unfold ZcB;rw [Zjv (by omega),Zf];have he : Zdu t t.2.2.1.length++Y3 (IntKind.u64.wrap t.2.2.2) 4 = Zdv t 0:=by simp [Zdu,Zdv]
 rw [he];cases w with
 | false =>
  by_cases h0 : (0 : Int) < t.2.1.length
  ·refine Zbw ?_
   simp only [XL];rw [if_pos h0,show (0 : Int) = ((0 : Nat) : Int) from rfl,Zw (by omega)];simp [Xl,ZbC,Zdv]
  ·refine Zbw ?_
   simp only [XL];rw [if_neg h0];simp [Xl,ZbC,Zdv]
 | true =>
  have:=Yu (step:=XL t true) (fun i=>((i : Int),Zdv t i)) t.2.1.length (x:=some (ZbC t true)) (fun i hi=>by
   have h3:=ZmW hi;have h4:=ZnF (t:=t) i;have h5:=ZgV (List.getElem_mem hi);simp only [XL];rw [if_pos (by omega),Zw hi,if_neg (by simp),ZeG (by omega),Zh1 (by omega) (by omega),Zf,ZqF hM hi h3,Zjd hi]) (by
   simp only [XL];rw [if_neg (by omega)]
   simp [Xl,Zdv,ZbC])
  simpa using this
theorem ZsA (hM : Zab t≤1000000000000) : ZcC (Zdt t t.2.1.length) t w = some (ZbC t w):=by
 have hol:=ZlQ t;have h0:=Zla (t:=t) t.2.1.length;have he : Zdt t t.2.1.length++ZbB t.2.2.1.length = Zdu t 0:=by simp [Zdt,Zdu]
 unfold ZcC;rw [ZeG (by omega),Zh1 (by omega) (by omega),Zf,he]
 have:=Yu (step:=Zbs t w) (fun i=>((i : Int),Zdu t i)) t.2.2.1.length (x:=some (ZbC t w)) (fun i hi=>by
  have h3:=Zht (t:=t) (i + 1);have h4:=ZmU (List.getElem_mem hi);rw [ZlR hi] at h3 ⊢;simp only [List.length_append,Zds] at h3;simp only [Zbs];rw [if_pos (by omega),Zw hi,ZrL (by omega),Zf,ZR (by simp only [Zfl,List.length_append,Zds]; omega),Z7 hi (by omega)];simp [Zfl]) (by
  simp only [Zbs]
  rw [if_neg (by omega),Zsz hM])
 simpa using this
theorem Zou (hM : Zab t≤1000000000000) : Zae t w = some (ZbC t w):=by
 have hil:=Zfm t;have he : Y3 (IntKind.u64.wrap t.1) 4++ZbB t.2.1.length = Zdt t 0:=by simp [Zdt,ZgU]
 unfold Zae;rw [Zjv (by simp),Zf,ZeG (by omega),Zh1 (by omega) (by simp),Zf,List.nil_append,he]
 have:=Yu (step:=Zbt t w) (fun i=>((i : Int),Zdt t i)) t.2.1.length (x:=some (ZbC t w)) (fun i hi=>by
  have h3:=Zla (t:=t) (i + 1);rw [ZlS hi] at h3 ⊢;simp only [List.length_append,Zds,ZkQ] at h3;simp only [Zbt];rw [if_pos (by omega),Zw hi,Zpt,Zf,ZR (by simp; omega),Zjv (by simp; omega),Zf,Z7 hi (by omega)]) (by
  simp only [Zbt]
  rw [if_neg (by omega),ZsA hM])
 simpa using this
def Zfn (t : Tapi_Tx) : Prop:=t.2.1.length≤64∧t.2.2.1.length≤64∧(∀ o∈t.2.2.1,0≤o.1∧o.2.length≤520)∧∀ x∈t.2.1,x.2.2.length≤32∧∀ s∈x.2.2,s.length≤520
noncomputable def Zel (t : Tapi_Tx) : Bool:=by classical exact decide (Zfn t∧(ZbC t true).length≤20000)
theorem ZgJ {α : Type} (g : α→Nat) (c : Nat) {l : List α} (h : ∀ a∈l,g a≤c) : (l.map g).sum≤c * l.length:=by
 induction l with
 | nil=>simp
 | cons a l ih =>
  have h1:=h a (by simp);have h2:=ih fun b hb=>h b (by simp [hb])
  simp only [List.map_cons,List.sum_cons,List.length_cons,Nat.mul_add];omega
theorem Zq4 (h : Zfn t) : Zab t≤3000000:=by
 obtain ⟨h1,h2,h3,h4⟩:=h
 have e1:=ZgJ (fun x : Tapi_Input=>60 + (x.2.2.map fun s=>20 + s.length).sum) 20000 (l:=t.2.1) (fun x hx=>by
  obtain ⟨g1,g2⟩:=h4 x hx;have:=ZgJ (fun s : List Int=>20 + s.length) 540 (l:=x.2.2) (fun s hs=>by have:=g2 s hs; omega);have:=Nat.mul_le_mul_left 540 g1
  omega)
 have e2:=ZgJ (fun o : Tapi_Output=>60 + o.2.length) 600 (l:=t.2.2.1) (fun o ho=>by have:=(h3 o ho).2; omega);have:=Nat.mul_le_mul_left 20000 h1;have:=Nat.mul_le_mul_left 600 h2;unfold Zab;omega
end
section
theorem ZmX {x : Tapi_Input} {i n : Nat} (hi : i < n) (hn : n≤64) (hw : x.2.2.length≤32) : Zu (Zcc x (i : Int)) 0 = (if ∃ s∈x.2.2,520 < s.length then some (.inr false) else some (.inl ((i + 1 : Nat) : Int))):=by
 refine Zbx (step:=Zcc x (i : Int)) (fun j=>(j : Int)) x.2.2 (fun s=>520 < s.length) (some (.inr false)) (some (.inl ((i + 1 : Nat) : Int))) (fun j hj hb=>?_) (fun j hj hb=>?_) ?_ rfl
 ·simp only [Zcc]
  rw [if_pos (by omega),Zw hj,if_neg (by omega),Z7 hj (by omega)]
 ·simp only [Zcc]
  rw [if_pos (by omega),Zw hj,if_pos (by omega)];rfl
 ·simp only [Zcc]
  rw [if_neg (by omega)];simp only [Zg7,Z7 hi (by omega)]
theorem ZrM (t : Tapi_Tx) : Zdk t = some (Zel t):=by
 classical
 unfold Zdk Zel;by_cases h0 : 64 < t.2.1.length∨64 < t.2.2.1.length
 ·rw [if_pos (by omega)]
  have : ¬ Zfn t:=fun h=>by have:=h.1; have:=h.2.1; omega
  simp [this]
 ·rw [if_neg (by omega)]
  have h1:=Zbx (step:=Zc2 t) (fun i=>(i : Int)) t.2.2.1 (fun o=>o.1 < 0∨520 < o.2.length) (some false) (ZfA t) (fun i hi hb=>by
   simp only [Zc2];rw [if_pos (by omega),Zw hi,if_neg (by omega),Z7 hi (by omega)]) (fun i hi hb=>by
   simp only [Zc2];rw [if_pos (by omega),Zw hi,if_pos (by omega)];rfl) (by
   simp only [Zc2]
   rw [if_neg (by omega)]) (s:=0) rfl
  rw [h1];by_cases hb1 : ∃ o∈t.2.2.1,o.1 < 0∨520 < o.2.length
  ·rw [if_pos hb1]
   obtain ⟨o,ho,hb⟩:=hb1;have : ¬ Zfn t:=fun h=>by have:=h.2.2.1 o ho; omega
   simp [this]
  ·rw [if_neg hb1]
   unfold ZfA
   have h2:=Zbx (step:=Zc1 t) (fun i=>(i : Int)) t.2.1 (fun x=>32 < x.2.2.length∨∃ s∈x.2.2,520 < s.length) (some false) (Zfz t) (fun i hi hb=>by
    have h3 : ¬ 32 < (t.2.1[i]).2.2.length:=fun h=>hb (.inl h)
    have h4 : ¬ ∃ s∈(t.2.1[i]).2.2,520 < s.length:=fun h=>hb (.inr h)
    simp only [Zc1];rw [if_pos (by omega),Zw hi,if_neg (by omega),ZmX hi (by omega) (by omega),if_neg h4]) (fun i hi hb=>by
    simp only [Zc1];rw [if_pos (by omega),Zw hi];by_cases h3 : 32 < (t.2.1[i]).2.2.length
    ·rw [if_pos (by omega)]
     rfl
    ·rw [if_neg (by omega),ZmX hi (by omega) (by omega),if_pos (hb.resolve_left h3)]
     rfl) (by
    simp only [Zc1]
    rw [if_neg (by omega)]) (s:=0) rfl
   rw [h2];by_cases hb2 : ∃ x∈t.2.1,32 < x.2.2.length∨∃ s∈x.2.2,520 < s.length
   ·rw [if_pos hb2]
    obtain ⟨x,hx,hb⟩:=hb2
    have : ¬ Zfn t:=fun h=>by
     obtain ⟨g1,g2⟩:=h.2.2.2 x hx;rcases hb with hb | ⟨s,hs,hb⟩
     ·omega
     ·have:=g2 s hs; omega
    simp [this]
   ·rw [if_neg hb2]
    have hlim : Zfn t:=by
     refine ⟨by omega,by omega,fun o ho=>?_,fun x hx=>⟨?_,fun s hs=>?_⟩⟩
     ·have : ¬ (o.1 < 0∨520 < o.2.length):=fun h=>hb1 ⟨o,ho,h⟩
      omega
     ·have : ¬ 32 < x.2.2.length:=fun h=>hb2 ⟨x,hx,.inl h⟩
      omega
     ·have : ¬ 520 < s.length:=fun h=>hb2 ⟨x,hx,.inr ⟨s,hs,h⟩⟩
      omega
    unfold Zfz;rw [Zpu (by have:=Zq4 hlim; omega),Zf];have e : (((ZbC t true).length : Int)≤20000)↔((ZbC t true).length≤20000):=by omega
    simp [hlim,e]
theorem ZlT {x : Tapi_Input} {i n : Nat} (hi : i < n) (hn : n≤64) (hw : x.2.2.length≤32) : Zu (Zao x (i : Int)) 0 = (if ∃ s∈x.2.2,520 < s.length then some (.inr false) else some (.inl ((i + 1 : Nat) : Int))):=by
 refine Zbx (step:=Zao x (i : Int)) (fun j=>(j : Int)) x.2.2 (fun s=>520 < s.length) (some (.inr false)) (some (.inl ((i + 1 : Nat) : Int))) (fun j hj hb=>?_) (fun j hj hb=>?_) ?_ rfl
 ·simp only [Zao]
  rw [if_pos (by omega),Zw hj,if_neg (by omega),Z7 hj (by omega)]
 ·simp only [Zao]
  rw [if_pos (by omega),Zw hj,if_pos (by omega)];rfl
 ·simp only [Zao]
  rw [if_neg (by omega)];simp only [Zfe,Z7 hi (by omega)]
theorem ZqG (t : Tapi_Tx) : Zbd t = some (Zel t):=by
 classical
 unfold Zbd Zel;by_cases h0 : 64 < t.2.1.length∨64 < t.2.2.1.length
 ·rw [if_pos (by omega)]
  have : ¬ Zfn t:=fun h=>by have:=h.1; have:=h.2.1; omega
  simp [this]
 ·rw [if_neg (by omega)]
  have h1:=Zbx (step:=Zbm t) (fun i=>(i : Int)) t.2.2.1 (fun o=>o.1 < 0∨520 < o.2.length) (some false) (ZdF t) (fun i hi hb=>by
   simp only [Zbm];rw [if_pos (by omega),Zw hi,if_neg (by omega),Z7 hi (by omega)]) (fun i hi hb=>by
   simp only [Zbm];rw [if_pos (by omega),Zw hi,if_pos (by omega)];rfl) (by
   simp only [Zbm]
   rw [if_neg (by omega)]) (s:=0) rfl
  rw [h1];by_cases hb1 : ∃ o∈t.2.2.1,o.1 < 0∨520 < o.2.length
  ·rw [if_pos hb1]
   obtain ⟨o,ho,hb⟩:=hb1;have : ¬ Zfn t:=fun h=>by have:=h.2.2.1 o ho; omega
   simp [this]
  ·rw [if_neg hb1]
   unfold ZdF
   have h2:=Zbx (step:=Zbl t) (fun i=>(i : Int)) t.2.1 (fun x=>32 < x.2.2.length∨∃ s∈x.2.2,520 < s.length) (some false) (ZdE t) (fun i hi hb=>by
    have h3 : ¬ 32 < (t.2.1[i]).2.2.length:=fun h=>hb (.inl h)
    have h4 : ¬ ∃ s∈(t.2.1[i]).2.2,520 < s.length:=fun h=>hb (.inr h)
    simp only [Zbl];rw [if_pos (by omega),Zw hi,if_neg (by omega),ZlT hi (by omega) (by omega),if_neg h4]) (fun i hi hb=>by
    simp only [Zbl];rw [if_pos (by omega),Zw hi];by_cases h3 : 32 < (t.2.1[i]).2.2.length
    ·rw [if_pos (by omega)]
     rfl
    ·rw [if_neg (by omega),ZlT hi (by omega) (by omega),if_pos (hb.resolve_left h3)]
     rfl) (by
    simp only [Zbl]
    rw [if_neg (by omega)]) (s:=0) rfl
   rw [h2];by_cases hb2 : ∃ x∈t.2.1,32 < x.2.2.length∨∃ s∈x.2.2,520 < s.length
   ·rw [if_pos hb2]
    obtain ⟨x,hx,hb⟩:=hb2
    have : ¬ Zfn t:=fun h=>by
     obtain ⟨g1,g2⟩:=h.2.2.2 x hx;rcases hb with hb | ⟨s,hs,hb⟩
     ·omega
     ·have:=g2 s hs; omega
    simp [this]
   ·rw [if_neg hb2]
    have hlim : Zfn t:=by
     refine ⟨by omega,by omega,fun o ho=>?_,fun x hx=>⟨?_,fun s hs=>?_⟩⟩
     ·have : ¬ (o.1 < 0∨520 < o.2.length):=fun h=>hb1 ⟨o,ho,h⟩
      omega
     ·have : ¬ 32 < x.2.2.length:=fun h=>hb2 ⟨x,hx,.inl h⟩
      omega
     ·have : ¬ 520 < s.length:=fun h=>hb2 ⟨x,hx,.inr ⟨s,hs,h⟩⟩
      omega
    unfold ZdE;rw [Zou (by have:=Zq4 hlim; omega),Zf];have e : (((ZbC t true).length : Int)≤20000)↔((ZbC t true).length≤20000):=by omega
    simp [hlim,e]
end
end Go.Lc
end
section
namespace Go.Lc
open Go.RowKit
open Go.Av
set_option linter.unusedVariables false
def Nx {σ ρ : Type} (I : Nat→σ→Prop) (Q : ρ→Prop) (n : Nat) : σ ⊕ ρ→Prop
 | .inl s=>∃ j,j < n∧I j s
 | .inr r=>Q r
theorem Zkj {σ ρ : Type} {step : σ→Option (σ ⊕ ρ)} {I : Nat→σ→Prop} {Q : ρ→Prop} (h : ∀ n s,I n s→Tot (step s) (Nx I Q n)) {n : Nat} {s : σ} (hs : I n s) : Tot (Zu step s) Q:=by
 refine Zd3 I Q (fun i s hi=>?_) n s hs;obtain ⟨x,h1,h2⟩:=h i s hi;cases x with
 | inl s' =>
  obtain ⟨j,hj,h3⟩:=h2;exact .inl ⟨j,s',hj,h1,h3⟩
 | inr r=>exact .inr ⟨r,h1,h2⟩
theorem Tot.out {σ ρ : Type} {I : Nat→σ→Prop} {Q : ρ→Prop} {n : Nat} {x : Option ρ} (h : Tot x Q) : Tot (x.map .inr) (Nx I Q n):=by
 obtain ⟨r,rfl,h⟩:=h;exact ⟨_,rfl,h⟩
theorem Zgm {α : Type} {p : Prop} [Decidable p] {f : Unit→Option α} {Q : α→Prop} (hp : p) (h : Tot (f ()) Q) : Tot ((chk p).bind f) Q:=by rw [ZR hp]; exact h
theorem ZnI {α β : Type} {l : List α} {i : Int} {f : α→Option β} {Q : β→Prop} (h0 : 0≤i) (h1 : i < l.length) (h : ∀ x∈l,Tot (f x) Q) : Tot ((idx l i).bind f) Q:=by
 obtain ⟨n,rfl⟩:=Int.eq_ofNat_of_zero_le h0;rw [Zw (by omega)];exact h _ (List.getElem_mem _)
theorem ZnJ {β : Type} {n : Nat} {i : Int} {f : Nat→Option β} {Q : β→Prop} (h0 : 0≤i) (h1 : i < n) (h : ∀ j : Nat,(j : Int) = i→j < n→Tot (f j) Q) : Tot ((inA n i).bind f) Q:=by
 obtain ⟨m,rfl⟩:=Int.eq_ofNat_of_zero_le h0;rw [ZaY (by omega)];exact h _ rfl (by omega)
theorem Zgn {α β : Type} {l : List α} {i : Nat} {f : α→Option β} {Q : β→Prop} (h1 : i < l.length) (h : ∀ x,l[i]? = some x→Tot (f x) Q) : Tot ((l[i]?).bind f) Q:=by
 rw [ZgB h1];exact h _ (List.getElem?_eq_getElem h1)
def ZmY (v n : Int) : Int:=if v.tmod n < 0 then v.tmod n + n else v.tmod n
theorem Zlb (v : Int) {n : Int} (h : 1≤n) : 0≤ZmY v n∧ZmY v n < n:=by
 have h1:=Int.tmod_lt_of_pos v (b:=n) (by omega)
 have h2 : -n < v.tmod n:=by
  have:=Int.lt_tmod_of_pos v (b:=n) (by omega);omega
 unfold ZmY;split <;> omega
theorem Zhu (v : Int) {n : Int} (h : 1≤n) (h2 : n≤4611686018427387904) : XN v n = some (ZmY v n):=by
 have h1:=Zlb v h;unfold XN Zcj;rw [ZR (by omega)];unfold ZmY at *;split
 ·rename_i hn
  rw [if_pos hn] at h1;rw [wi _ (by omega)]
 ·rfl
def ZaJ (d : Tlightclientmill_Deck) : Prop:=0≤d.2∧d.2≤d.1.length∧d.1.length≤9223372036854775807
theorem ZcL {d : Tlightclientmill_Deck} (h : ZaJ d) {n : Int} (hn : 1≤n) (hn2 : n≤4611686018427387904) : Tot (Yh d n) fun r=>(0≤r.1∧r.1 < n)∧ZaJ r.2:=by
 obtain ⟨h1,h2,h3⟩:=h;unfold Yh XX;rw [Zf];by_cases hl : d.2 < d.1.length
 ·rw [if_neg (by simp [hl])]
  dsimp only;rw [wi (d.2 + 1) (by omega),wi _ (by omega),show d.2 + 1 - 1 = d.2 by omega];refine ZnI h1 hl fun x _=>?_
  rw [Zhu x hn hn2];exact Xv ⟨Zlb x hn,by dsimp only; omega,by dsimp only; omega,h3⟩
 ·rw [if_pos (by simp [hl])]
  exact Xv ⟨⟨by dsimp only; omega,by dsimp only; omega⟩,h1,h2,h3⟩
theorem Zje (j : Int) : XW j = some [1,1,IntKind.u8.wrap (1 + j.tmod 6),5]:=rfl
theorem Zov {α β : Type} {l : List α} (f : β→α→β) (b : β) {i : Nat} (h : i < l.length) : (l.take (i + 1)).foldl f b = f ((l.take i).foldl f b) l[i]:=by
 rw [List.take_succ_eq_append_getElem h,List.foldl_append];rfl
end Go.Lc
end
section
namespace Go.Lc
open Go.RowKit
open Go.Av
set_option linter.unusedVariables false
theorem Zce {σ ρ : Type} {step : σ→Option (σ ⊕ ρ)} (enc : Nat→σ) (n : Nat) (bad : Nat→Prop) (rb x : Option ρ) [inst : Decidable (∃ i,i < n∧bad i)] (h : ∀ i,i < n→(∀ j,j < i→¬ bad j)→¬ bad i→step (enc i) = some (.inl (enc (i + 1)))) (hb : ∀ i,i < n→(∀ j,j < i→¬ bad j)→bad i→step (enc i) = rb.map .inr) (he : (∀ j,j < n→¬ bad j)→step (enc n) = x.map .inr) {s : σ} (hs : s = enc 0) : Zu step s = if ∃ i,i < n∧bad i then rb else x:=by
 subst hs;by_cases hx : ∃ i,i < n∧bad i
 ·rw [if_pos hx]
  obtain ⟨m,hm,hbm,hmin⟩:=ZlN bad n hx;exact Yu enc m (fun i hi=>h i (by omega) (fun j hj=>hmin j (by omega)) (hmin i hi)) (hb m hm hmin hbm)
 ·rw [if_neg hx]
  have hn : ∀ i,i < n→¬ bad i:=fun i hi hbi=>hx ⟨i,hi,hbi⟩
  exact Yu enc n (fun i hi=>h i hi (fun j hj=>hn j (by omega)) (hn i hi)) (he hn)
def sumI : List Int→Int
 | []=>0
 | a :: l=>a + sumI l
theorem ZmZ (l m : List Int) : sumI (l++m) = sumI l + sumI m:=by
 induction l with
 | nil=>simp [sumI]
 | cons a l ih=>simp only [List.cons_append,sumI,ih]; omega
theorem Zbi {l : List Int} {i : Nat} (h : i < l.length) : sumI (l.take (i + 1)) = sumI (l.take i) + l[i]:=by
 rw [List.take_succ_eq_append_getElem h,ZmZ];simp [sumI]
theorem ZeA {l : List Int} (h : ∀ v∈l,0≤v) : 0≤sumI l:=by
 induction l with
 | nil=>simp [sumI]
 | cons a l ih =>
  have h1:=h a (by simp);have h2:=ih fun v hv=>h v (by simp [hv])
  simp only [sumI];omega
theorem Zjf {l : List Int} (h : ∀ v∈l,0≤v) (i : Nat) : sumI (l.take i)≤sumI l:=by
 have h1 : sumI l = sumI (l.take i) + sumI (l.drop i):=by rw [← ZmZ,List.take_append_drop]
 have h2:=ZeA (l:=l.drop i) fun v hv=>h v (List.mem_of_mem_drop hv)
 omega
theorem ZnK {l : List Int} {c : Int} (h : ∀ v∈l,v≤c) : sumI l≤l.length * c:=by
 induction l with
 | nil=>simp [sumI]
 | cons a l ih =>
  have h1:=h a (by simp);have h2:=ih fun v hv=>h v (by simp [hv])
  simp only [sumI,List.length_cons];have : ((l.length + 1 : Nat) : Int) * c = (l.length : Int) * c + c:=by rw [Int.natCast_add,Int.add_mul]; simp
  omega
theorem Zjx (vs : List Int) (M : Int) (hM : 0≤M) : (∃ i,i < vs.length∧∃ h : i < vs.length,vs[i] < 0∨M < sumI (vs.take (i + 1)))↔(∃ v∈vs,v < 0∨M < v)∨M < sumI vs:=by
 by_cases hneg : ∃ v∈vs,v < 0
 ·obtain ⟨v,hv,hv0⟩:=hneg
  obtain ⟨i,hi,rfl⟩:=List.getElem_of_mem hv;exact ⟨fun _=>.inl ⟨_,hv,.inl hv0⟩,fun _=>⟨i,hi,hi,.inl hv0⟩⟩
 ·have hp : ∀ v∈vs,0≤v:=fun v hv=>by
   have : ¬ v < 0:=fun h=>hneg ⟨v,hv,h⟩
   omega
  constructor
  ·rintro ⟨i,_,hi,hb⟩
   have h1:=hp _ (List.getElem_mem hi);have h2:=Zjf hp (i + 1);exact .inr (by omega)
  ·intro h
   have key : M < sumI vs→∃ i,i < vs.length∧∃ h : i < vs.length,vs[i] < 0∨M < sumI (vs.take (i + 1)):=by
    intro hs
    have hn : 0 < vs.length:=by
     rcases Nat.eq_zero_or_pos vs.length with h0 | h0
     ·have:=List.length_eq_zero_iff.1 h0
      subst this;simp only [sumI] at hs;omega
     ·exact h0
    refine ⟨vs.length - 1,by omega,by omega,.inr ?_⟩;rw [show vs.length - 1 + 1 = vs.length by omega,List.take_length];exact hs
   rcases h with ⟨v,hv,hb⟩ | hs
   ·have h0:=hp v hv
    obtain ⟨i,hi,rfl⟩:=List.getElem_of_mem hv;refine ⟨i,hi,hi,.inr ?_⟩;rw [Zbi hi];have:=ZeA (l:=vs.take i) fun v hv=>hp v (List.mem_of_mem_take hv)
    omega
   ·exact key hs
theorem Zpv {K V : Type} [DecidableEq K] (k a : K) (v : V) (l : List (K×V)) : Zc5 k (ZfO a v l) = if k = a then some v else Zc5 k l:=by
 induction l with
 | nil=>simp [ZfO,Zc5]
 | cons x l ih =>
  obtain ⟨b,w⟩:=x;simp only [ZfO];by_cases h : a = b
  ·subst h
   rw [if_pos rfl];simp only [Zc5];by_cases hk : k = a <;> simp [hk]
  ·rw [if_neg h]
   simp only [Zc5,ih];by_cases hk : k = b
   ·subst hk
    simp [Ne.symm h]
   ·simp [hk]
def Zlc (l : List Tapi_OutPoint) : List (Tapi_OutPoint×Bool):=l.foldl (fun m p=>ZfO p true m) []
theorem Zh3 (k : Tapi_OutPoint) (l : List Tapi_OutPoint) : ((Zc5 k (Zlc l)).getD false = true)↔k∈l:=by
 have key : ∀ (l : List Tapi_OutPoint) (m : List (Tapi_OutPoint×Bool)),((Zc5 k (l.foldl (fun m p=>ZfO p true m) m)).getD false = true)↔(k∈l∨(Zc5 k m).getD false = true):=by
  intro l;induction l with
  | nil=>intro m; simp
  | cons a l ih =>
   intro m;rw [List.foldl_cons,ih,Zpv];by_cases h : k = a
   ·simp [h]
   ·simp [h]
 have:=key l [];simpa [Zlc,Zc5] using this
theorem Zpw {l : List Tapi_OutPoint} {i : Nat} (h : i < l.length) : Zlc (l.take (i + 1)) = ZfO l[i] true (Zlc (l.take i)):=by
 unfold Zlc;rw [List.take_succ_eq_append_getElem h,List.foldl_append];rfl
abbrev nullP : Tapi_OutPoint:=(zA 32,4294967295)
def cbS (t : Tapi_Tx) : Bool:=match t.2.1 with
 | [x]=>decide (x.1 = nullP)
 | _=>false
theorem Zow (t : Tapi_Tx) : XY t = some (cbS t):=by
 obtain ⟨a,ins,outs,l⟩:=t;unfold XY Zes cbS
 match ins with
 | []=>simp
 | [x]=>simp [Prod.ext_iff]
 | x :: y :: l =>
  have : ¬ ((x :: y :: l).length : Int) = 1:=by simp only [List.length_cons]; omega
  dsimp only;simp only [if_neg this,decide_eq_false this];rfl
theorem Zm0 (t : Tapi_Tx) : Xw t = some (cbS t):=by
 rw [← Zow];rfl
def Yl (t : Tapi_Tx) : List Int:=t.2.2.1.map Prod.fst
def Yj (t : Tapi_Tx) : List Tapi_OutPoint:=t.2.1.map Prod.fst
def Zox (l : List Tapi_OutPoint) : Prop:=∃ i,i < l.length∧∃ h : i < l.length,l[i]∈l.take i
noncomputable def Zco (t : Tapi_Tx) : Int:=by
 classical exact if ¬ Zel t = true then 4 else if t.2.1.length = 0∨t.2.2.1.length = 0 then 93 else if (2100000000000000 : Int) < sumI (Yl t) then 90 else if Zox (Yj t) then 91 else if nullP∈Yj t∧¬ cbS t = true then 92 else 0
theorem Zkk {t : Tapi_Tx} (h : Zel t = true) : Zfn t:=by
 classical
 unfold Zel at h;simp only [decide_eq_true_eq] at h;exact h.1
section
variable {t : Tapi_Tx}
theorem Zm1 (h : Zfn t) : ∀ v∈Yl t,0≤v:=by
 intro v hv;obtain ⟨o,ho,rfl⟩:=List.mem_map.1 hv;exact (h.2.2.1 o ho).1
theorem ZqH (h : Zfn t) : Zcr t.2.2.1 = some (decide (¬ (2100000000000000 : Int) < sumI (Yl t))):=by
 classical
 have hp:=Zm1 h;have hl : (Yl t).length = t.2.2.1.length:=by simp [Yl]
 have hget : ∀ i (h1 : i < t.2.2.1.length),(Yl t)[i]'(by omega) = (t.2.2.1[i]).1:=by intro i h1; simp [Yl]
 unfold Zcr;have h64:=h.2.1
 have hbnd : ∀ i,(∀ j,j < i→¬ ∃ h : j < (Yl t).length,(Yl t)[j] < 0∨(2100000000000000 : Int) < sumI ((Yl t).take (j + 1)))→i≤(Yl t).length→0≤sumI ((Yl t).take i)∧sumI ((Yl t).take i)≤(2100000000000000 : Int):=by
  intro i hj hi;refine ⟨ZeA fun v hv=>hp v (List.mem_of_mem_take hv),?_⟩;cases i with
  | zero=>simp [sumI]
  | succ i =>
   have:=hj i (by omega);have h2 : ¬ (2100000000000000 : Int) < sumI ((Yl t).take (i + 1)):=fun h=>this ⟨by omega,.inr h⟩
   omega
 rw [Zce (s:=(0,0)) (step:=Zck t.2.2.1) (fun i=>(sumI ((Yl t).take i),(i : Int))) (Yl t).length (fun i=>∃ h : i < (Yl t).length,(Yl t)[i] < 0∨(2100000000000000 : Int) < sumI ((Yl t).take (i + 1))) (some false) (some true) ?_ ?_ ?_ rfl]
 ·by_cases hs : (2100000000000000 : Int) < sumI (Yl t)
  ·rw [if_pos ((Zjx _ _ (by decide)).2 (.inr hs))]
   simp [hs]
  ·rw [if_neg]
   ·simp [hs]
   ·intro hb
    rcases (Zjx _ _ (by decide)).1 hb with ⟨v,hv,hb⟩ | hb
    ·have h0:=hp v hv
     have:=(Zjx (Yl t) (2100000000000000 : Int) (by decide)).2 (.inl ⟨v,hv,hb⟩);obtain ⟨i,_,hi,hb'⟩:=this;have h1:=hp _ (List.getElem_mem hi);have h2:=Zjf hp (i + 1);omega
    ·exact hs hb
 ·intro i hi hj hb
  have hb0:=hbnd i hj (by omega);have hb1 : ¬ (2100000000000000 : Int) < sumI ((Yl t).take (i + 1)):=fun h=>hb ⟨hi,.inr h⟩
  have h0:=hp _ (List.getElem_mem hi);have hg:=hget i (by omega);rw [Zbi hi] at hb1;simp only [Zck];rw [if_pos (by omega),Zw (by omega),wi _ (by omega),if_neg (by omega),wi _ (by omega),Z7 hi (by omega),Zbi hi,hg]
 ·intro i hi hj hb
  have hb0:=hbnd i hj (by omega);obtain ⟨_,hb⟩:=hb;have h0:=hp _ (List.getElem_mem hi);have hg:=hget i (by omega);rw [Zbi hi] at hb;simp only [Zck];rw [if_pos (by omega),Zw (by omega),wi _ (by omega),if_pos (by omega)];rfl
 ·intro hj
  simp only [Zck];rw [if_neg (by omega)];rfl
theorem pts_len : (Yj t).length = t.2.1.length:=by simp [Yj]
theorem Zfo {i : Nat} (h1 : i < t.2.1.length) (h2 : i < (Yj t).length) : (Yj t)[i] = (t.2.1[i]).1:=by simp [Yj]
theorem Zm2 (t : Tapi_Tx) : ZbR t = some (Zco t):=by
 classical
 unfold ZbR Zco;rw [ZrM,Zf];by_cases hf : Zel t = true
 ·have hlim:=Zkk hf
  have h64:=hlim.1;have hnf : ¬ ¬ Zel t = true:=by simp [hf]
  rw [if_neg hnf,if_neg hnf];by_cases h0 : t.2.1.length = 0∨t.2.2.1.length = 0
  ·rw [if_pos (show (t.2.1.length : Int) = 0∨(t.2.2.1.length : Int) = 0 by omega),if_pos h0]
  ·rw [if_neg (show ¬ ((t.2.1.length : Int) = 0∨(t.2.2.1.length : Int) = 0) by omega),if_neg h0,ZqH hlim,Zf]
   by_cases hs : (2100000000000000 : Int) < sumI (Yl t)
   ·rw [if_pos (by simp [hs]),if_pos hs]
   ·rw [if_neg (by simp [hs]),if_neg hs]
    have hl:=pts_len (t:=t);rw [Zce (s:=(0,[])) (step:=Zcl t) (fun i=>((i : Int),Zlc ((Yj t).take i))) (Yj t).length (fun i=>∃ h : i < (Yj t).length,(Yj t)[i]∈(Yj t).take i) (some 91) (some (if nullP∈Yj t∧¬ cbS t = true then 92 else 0)) ?_ ?_ ?_ rfl]
    ·by_cases hd : Zox (Yj t)
     ·rw [if_pos (show ∃ i,i < (Yj t).length∧∃ h : i < (Yj t).length,(Yj t)[i]∈(Yj t).take i from hd),if_pos hd]
     ·rw [if_neg (show ¬ ∃ i,i < (Yj t).length∧∃ h : i < (Yj t).length,(Yj t)[i]∈(Yj t).take i from hd),if_neg hd]
    ·intro i hi _ hb
     have hg:=Zfo (t:=t) (by omega) hi;simp only [Zcl];rw [if_pos (by omega),Zw (by omega),if_neg,Z7 hi (by omega),Zpw hi,hg];rw [← hg,Zh3];exact fun h=>hb ⟨hi,h⟩
    ·intro i hi _ hb
     have hg:=Zfo (t:=t) (by omega) hi;simp only [Zcl];rw [if_pos (by omega),Zw (by omega),if_pos]
     ·rfl
     ·rw [← hg,Zh3]
      exact hb.2
    ·intro _
     simp only [Zcl];rw [if_neg (by omega),List.take_length];unfold Zgz;rw [Zow];by_cases hn : nullP∈Yj t
     ·have hn' := (Zh3 _ _).2 hn
      rw [if_pos hn'];cases hc : cbS t <;> simp [hn,hn']
     ·have hn' : ¬ _:=fun h=>hn ((Zh3 nullP (Yj t)).1 h)
      rw [if_neg hn'];simp [hn,hn']
 ·rw [if_pos hf,if_pos hf]
theorem ZnL {i : Nat} (hi : i < t.2.1.length) (h64 : t.2.1.length≤64) : (Zu (XZ (i : Int) t) 0) = (by classical exact if ∃ h : i < (Yj t).length,(Yj t)[i]∈(Yj t).take i then some (.inr 91) else some (.inl ((i + 1 : Nat) : Int))):=by
 classical
 have hl:=pts_len (t:=t);have hgi:=Zfo hi (by omega);rw [Zce (s:=0) (step:=XZ (i : Int) t) (fun j=>(j : Int)) i (fun j=>∃ h : j < (Yj t).length,(Yj t)[i]'(by omega) = (Yj t)[j]) (some (.inr 91)) (some (.inl ((i + 1 : Nat) : Int))) ?_ ?_ ?_ rfl]
 ·have e : (∃ j,j < i∧∃ h : j < (Yj t).length,(Yj t)[i]'(by omega) = (Yj t)[j])↔∃ h : i < (Yj t).length,(Yj t)[i]∈(Yj t).take i:=by
   constructor
   ·rintro ⟨j,hj,hj2,e⟩
    refine ⟨by omega,?_⟩;rw [e];exact List.mem_take_iff_getElem.2 ⟨j,by omega,rfl⟩
   ·rintro ⟨h,hm⟩
    obtain ⟨j,hj,e⟩:=List.mem_take_iff_getElem.1 hm;exact ⟨j,by omega,by omega,e.symm⟩
  simp only [e]
 ·intro j hj _ hb
  have hgj:=Zfo (t:=t) (i:=j) (by omega) (by omega);simp only [XZ];rw [if_pos (by omega),Zw (by omega),Zw (by omega),if_neg,Z7 hj (by omega)];intro h;exact hb ⟨by omega,by rw [hgi,hgj]; exact Prod.ext h.1 h.2⟩
 ·intro j hj _ hb
  have hgj:=Zfo (t:=t) (i:=j) (by omega) (by omega);obtain ⟨_,hb⟩:=hb;rw [hgi,hgj] at hb;simp only [XZ];rw [if_pos (by omega),Zw (by omega),Zw (by omega),if_pos ⟨congrArg Prod.fst hb,congrArg Prod.snd hb⟩];rfl
 ·intro _
  simp only [XZ];rw [if_neg (by omega)];simp only [ZeQ,Z7 hi (by omega)]
theorem ZqI (h64 : t.2.1.length≤64) : Zc9 t = (by classical exact some (if nullP∈Yj t∧¬ cbS t = true then 92 else 0)):=by
 classical
 unfold Zc9;have hl:=pts_len (t:=t);rw [Zce (s:=0) (step:=ZaN t) (fun j=>(j : Int)) (Yj t).length (fun j=>∃ h : j < (Yj t).length,(Yj t)[j] = nullP∧¬ cbS t = true) (some 92) (some 0) ?_ ?_ ?_ rfl]
 ·have e : (∃ j,j < (Yj t).length∧∃ h : j < (Yj t).length,(Yj t)[j] = nullP∧¬ cbS t = true)↔nullP∈Yj t∧¬ cbS t = true:=by
   constructor
   ·rintro ⟨j,_,hj,e,hc⟩
    exact ⟨e ▸ List.getElem_mem hj,hc⟩
   ·rintro ⟨hm,hc⟩
    obtain ⟨j,hj,e⟩:=List.getElem_of_mem hm;exact ⟨j,hj,hj,e,hc⟩
  simp only [e];split <;> rfl
 ·intro i hi _ hb
  have hg:=Zfo (t:=t) (by omega) hi;simp only [ZaN];rw [if_pos (by omega),Zw (by omega),Zm0];unfold Zat;rw [Zf];by_cases hn : (t.2.1[i]'(by omega)).1 = nullP
  ·have hc : cbS t = true:=Decidable.byContradiction fun h=>hb ⟨hi,by rw [hg,hn],h⟩
   rw [hn];simp [hc,Z7 hi (show (Yj t).length≤9223372036854775807 by omega)]
  ·have hn' : ¬ ((decide ((t.2.1[i]'(by omega)).1.1 = zA 32) && decide ((t.2.1[i]'(by omega)).1.2 = 4294967295)) = true):=by
    simp only [Bool.and_eq_true,decide_eq_true_eq];exact fun h=>hn (Prod.ext h.1 h.2)
   rw [if_neg hn',Zf,if_neg (fun h=>hn' h.1),Z7 hi (by omega)]
 ·intro i hi _ hb
  have hg:=Zfo (t:=t) (by omega) hi;obtain ⟨_,hb,hc⟩:=hb;rw [hg] at hb;simp only [ZaN];rw [if_pos (by omega),Zw (by omega),Zm0];unfold Zat;rw [Zf,hb];simp [hc]
 ·intro _
  simp only [ZaN];rw [if_neg (by omega)];rfl
theorem ZlU (t : Tapi_Tx) : X0 t = some (Zco t):=by
 classical
 unfold X0 Zco;rw [ZqG,Zf];by_cases hf : Zel t = true
 ·have hlim:=Zkk hf
  have h64:=hlim.1;have h65:=hlim.2.1;have hp:=Zm1 hlim;have hnf : ¬ ¬ Zel t = true:=by simp [hf]
  rw [if_neg hnf,if_neg hnf];by_cases h0 : t.2.1.length = 0∨t.2.2.1.length = 0
  ·rw [if_pos (show (t.2.1.length : Int) = 0∨(t.2.2.1.length : Int) = 0 by omega),if_pos h0]
  ·rw [if_neg (show ¬ ((t.2.1.length : Int) = 0∨(t.2.2.1.length : Int) = 0) by omega),if_neg h0]
   have hl : (Yl t).length = t.2.2.1.length:=by simp [Yl]
   have hget : ∀ i (h1 : i < t.2.2.1.length),(Yl t)[i]'(by omega) = (t.2.2.1[i]).1:=by intro i h1; simp [Yl]
   have hk1 : ZbU (sumI (Yl t)) t = some (if (2100000000000000 : Int) < sumI (Yl t) then 90 else if Zox (Yj t) then 91 else if nullP∈Yj t∧¬ cbS t = true then 92 else 0):=by
    unfold ZbU;by_cases hs : (2100000000000000 : Int) < sumI (Yl t)
    ·rw [if_pos hs,if_pos hs]
    ·rw [if_neg hs,if_neg hs]
     have hl:=pts_len (t:=t);rw [Zce (s:=0) (step:=ZaO t) (fun i=>(i : Int)) (Yj t).length (fun i=>∃ h : i < (Yj t).length,(Yj t)[i]∈(Yj t).take i) (some 91) (some (if nullP∈Yj t∧¬ cbS t = true then 92 else 0)) ?_ ?_ ?_ rfl]
     ·by_cases hd : Zox (Yj t)
      ·rw [if_pos (show ∃ i,i < (Yj t).length∧∃ h : i < (Yj t).length,(Yj t)[i]∈(Yj t).take i from hd),if_pos hd]
      ·rw [if_neg (show ¬ ∃ i,i < (Yj t).length∧∃ h : i < (Yj t).length,(Yj t)[i]∈(Yj t).take i from hd),if_neg hd]
     ·intro i hi _ hb
      simp only [ZaO];rw [if_pos (by omega),ZnL (by omega) h64,if_neg hb]
     ·intro i hi _ hb
      simp only [ZaO];rw [if_pos (by omega),ZnL (by omega) h64,if_pos hb];rfl
     ·intro _
      simp only [ZaO];rw [if_neg (by omega),ZqI h64]
   have hbnd : ∀ i,(∀ j,j < i→¬ ∃ h : j < (Yl t).length,(2100000000000000 : Int) < (Yl t)[j])→i≤(Yl t).length→0≤sumI ((Yl t).take i)∧sumI ((Yl t).take i)≤i * (2100000000000000 : Int):=by
    intro i hj hi;refine ⟨ZeA fun v hv=>hp v (List.mem_of_mem_take hv),?_⟩
    have:=ZnK (l:=(Yl t).take i) (c:=(2100000000000000 : Int)) (fun v hv=>by
     obtain ⟨j,hj2,rfl⟩:=List.mem_take_iff_getElem.1 hv;have h1 : ¬ (2100000000000000 : Int) < (Yl t)[j]:=fun h=>hj j (by omega) ⟨by omega,h⟩
     omega)
    rw [List.length_take,Nat.min_eq_left hi] at this;exact this
   rw [Zce (s:=(0,0)) (step:=ZaP t) (fun i=>(sumI ((Yl t).take i),(i : Int))) (Yl t).length (fun i=>∃ h : i < (Yl t).length,(2100000000000000 : Int) < (Yl t)[i]) (some 90) (ZbU (sumI (Yl t)) t) ?_ ?_ ?_ rfl]
   ·rw [hk1]
    by_cases hx : ∃ i,i < (Yl t).length∧∃ h : i < (Yl t).length,(2100000000000000 : Int) < (Yl t)[i]
    ·rw [if_pos hx]
     obtain ⟨i,_,hi,hb⟩:=hx;have h1:=Zjf hp (i + 1);rw [Zbi hi] at h1;have h2:=ZeA (l:=(Yl t).take i) fun v hv=>hp v (List.mem_of_mem_take hv)
     rw [if_pos (by omega)]
    ·rw [if_neg hx]
   ·intro i hi hj hb
    have hb0:=hbnd i hj (by omega);have hb1 : ¬ (2100000000000000 : Int) < (Yl t)[i]:=fun h=>hb ⟨hi,h⟩
    have h0:=hp _ (List.getElem_mem hi);have hg:=hget i (by omega);have hi64 : (i : Int)≤64:=by omega
    simp only [ZaP];rw [if_pos (by omega),Zw (by omega),if_neg (by omega),wi _ (by omega),Z7 hi (by omega),Zbi hi,hg]
   ·intro i hi hj hb
    obtain ⟨_,hb⟩:=hb;have hg:=hget i (by omega);simp only [ZaP];rw [if_pos (by omega),Zw (by omega),if_pos (by omega)];rfl
   ·intro _
    simp only [ZaP];rw [if_neg (by omega),List.take_length]
 ·rw [if_pos hf,if_pos hf]
end
theorem Zpx {t : Tapi_Tx} (h : Zco t = 0) : t.2.1.length≤64∧t.2.2.1.length≤64:=by
 classical
 unfold Zco at h;by_cases hf : Zel t = true
 ·have:=Zkk hf
  exact ⟨this.1,this.2.1⟩
 ·rw [if_pos hf] at h
  omega
def Z6 (l : List Tapi_Coin) : List Int:=l.map fun c=>c.2.1.1
def ZgK (vs : List Int) : Prop:=(∃ v∈vs,v < 0∨(2100000000000000 : Int) < v)∨(2100000000000000 : Int) < sumI vs
section
variable {l : List Tapi_Coin}
theorem ZkR {i : Nat} (h1 : i < l.length) (h2 : i < (Z6 l).length) : (Z6 l)[i] = (l[i]).2.1.1:=by simp [Z6]
theorem Zpy (h64 : l.length≤64) : ZbS l = (by classical exact if ZgK (Z6 l) then some (0,false) else some (sumI (Z6 l),true)):=by
 classical
 have hl : (Z6 l).length = l.length:=by simp [Z6]
 have hbnd : ∀ i,(∀ j,j < i→¬ ∃ h : j < (Z6 l).length,(Z6 l)[j] < 0∨(2100000000000000 : Int) < sumI ((Z6 l).take (j + 1)))→i≤(Z6 l).length→0≤sumI ((Z6 l).take i)∧sumI ((Z6 l).take i)≤(2100000000000000 : Int):=by
  intro i hj hi;refine ⟨ZeA fun v hv=>?_,?_⟩
  ·obtain ⟨j,hj2,rfl⟩:=List.mem_take_iff_getElem.1 hv
   have h1 : ¬ (Z6 l)[j] < 0:=fun h=>hj j (by omega) ⟨by omega,.inl h⟩
   omega
  ·cases i with
   | zero=>simp [sumI]
   | succ i =>
    have h2 : ¬ (2100000000000000 : Int) < sumI ((Z6 l).take (i + 1)):=fun h=>hj i (by omega) ⟨by omega,.inr h⟩
    omega
 unfold ZbS;rw [Zce (s:=(0,0)) (step:=ZbE l) (fun i=>(sumI ((Z6 l).take i),(i : Int))) (Z6 l).length (fun i=>∃ h : i < (Z6 l).length,(Z6 l)[i] < 0∨(2100000000000000 : Int) < sumI ((Z6 l).take (i + 1))) (some (0,false)) (some (sumI (Z6 l),true)) ?_ ?_ ?_ rfl]
 ·simp only [Zjx (Z6 l) (2100000000000000 : Int) (by decide)]
  by_cases hs : ZgK (Z6 l)
  ·rw [if_pos (show (∃ v∈Z6 l,v < 0∨(2100000000000000 : Int) < v)∨(2100000000000000 : Int) < sumI (Z6 l) from hs),if_pos hs]
  ·rw [if_neg (show ¬ ((∃ v∈Z6 l,v < 0∨(2100000000000000 : Int) < v)∨(2100000000000000 : Int) < sumI (Z6 l)) from hs),if_neg hs]
 ·intro i hi hj hb
  have hb0:=hbnd i hj (by omega);have hb1 : ¬ (2100000000000000 : Int) < sumI ((Z6 l).take (i + 1)):=fun h=>hb ⟨hi,.inr h⟩
  have h0 : ¬ (Z6 l)[i] < 0:=fun h=>hb ⟨hi,.inl h⟩
  have hg:=ZkR (l:=l) (by omega) hi;rw [Zbi hi] at hb1;simp only [ZbE];rw [if_pos (by omega),Zw (by omega),wi (2100000000000000 - _) (by omega),if_neg (by omega),wi _ (by omega),Z7 hi (by omega),Zbi hi,hg]
 ·intro i hi hj hb
  have hb0:=hbnd i hj (by omega);obtain ⟨_,hb⟩:=hb;have hg:=ZkR (l:=l) (by omega) hi;rw [Zbi hi] at hb;simp only [ZbE];rw [if_pos (by omega),Zw (by omega),wi _ (by omega),if_pos (by omega)];rfl
 ·intro hj
  simp only [ZbE];rw [if_neg (by omega),List.take_length];rfl
theorem ZrN {t : Tapi_Tx} (h64 : l.length≤64) : ZcS l t = (by classical exact if ZgK (Z6 l) then some (0,90) else Zu (XE t) (sumI (Z6 l),0)):=by
 classical
 have hl : (Z6 l).length = l.length:=by simp [Z6]
 have hbnd : ∀ i,(∀ j,j < i→¬ ∃ h : j < (Z6 l).length,(Z6 l)[j] < 0∨(2100000000000000 : Int) < (Z6 l)[j])→i≤(Z6 l).length→0≤sumI ((Z6 l).take i)∧sumI ((Z6 l).take i)≤i * (2100000000000000 : Int):=by
  intro i hj hi
  have hp : ∀ v∈(Z6 l).take i,0≤v∧v≤(2100000000000000 : Int):=fun v hv=>by
   obtain ⟨j,hj2,rfl⟩:=List.mem_take_iff_getElem.1 hv;have h1 : ¬ (Z6 l)[j] < 0:=fun h=>hj j (by omega) ⟨by omega,.inl h⟩
   have h2 : ¬ (2100000000000000 : Int) < (Z6 l)[j]:=fun h=>hj j (by omega) ⟨by omega,.inr h⟩
   omega
  refine ⟨ZeA fun v hv=>(hp v hv).1,?_⟩;have:=ZnK (l:=(Z6 l).take i) (c:=(2100000000000000 : Int)) (fun v hv=>(hp v hv).2);rw [List.length_take,Nat.min_eq_left hi] at this;exact this
 unfold ZcS;rw [Zce (s:=(0,0)) (step:=ZbG l t) (fun i=>(sumI ((Z6 l).take i),(i : Int))) (Z6 l).length (fun i=>∃ h : i < (Z6 l).length,(Z6 l)[i] < 0∨(2100000000000000 : Int) < (Z6 l)[i]) (some (0,90)) (Zec (sumI (Z6 l)) t) ?_ ?_ ?_ rfl]
 ·by_cases hx : ∃ i,i < (Z6 l).length∧∃ h : i < (Z6 l).length,(Z6 l)[i] < 0∨(2100000000000000 : Int) < (Z6 l)[i]
  ·have hs : ZgK (Z6 l):=by
    obtain ⟨i,_,hi,hb⟩:=hx;exact .inl ⟨_,List.getElem_mem hi,hb⟩
   rw [if_pos hx,if_pos hs]
  ·rw [if_neg hx]
   unfold Zec;by_cases hs : (2100000000000000 : Int) < sumI (Z6 l)
   ·have hs' : ZgK (Z6 l):=.inr hs
    rw [if_pos hs,if_pos hs']
   ·have hs' : ¬ ZgK (Z6 l):=by
     rintro (⟨v,hv,hb⟩ | h)
     ·obtain ⟨i,hi,rfl⟩:=List.getElem_of_mem hv
      exact hx ⟨i,hi,hi,hb⟩
     ·exact hs h
    rw [if_neg hs,if_neg hs']
 ·intro i hi hj hb
  have hb0:=hbnd i hj (by omega);have hb1 : ¬ ((Z6 l)[i] < 0∨(2100000000000000 : Int) < (Z6 l)[i]):=fun h=>hb ⟨hi,h⟩
  have hg:=ZkR (l:=l) (by omega) hi;have hi64 : (i : Int)≤64:=by omega
  simp only [ZbG];rw [if_pos (by omega),Zw (by omega),if_neg (by omega),wi _ (by omega),Z7 hi (by omega),Zbi hi,hg]
 ·intro i hi hj hb
  obtain ⟨_,hb⟩:=hb;have hg:=ZkR (l:=l) (by omega) hi;simp only [ZbG];rw [if_pos (by omega),Zw (by omega),if_pos (by omega)];rfl
 ·intro _
  simp only [ZbG];rw [if_neg (by omega),List.take_length]
end
theorem ZrO (t : Tapi_Tx) : ZfT t = XE t:=by
 funext ⟨a,b⟩
 rfl
def Zm3 (n : Int) (l : List Tapi_Output) : Int:=l.foldl (fun n x=>IntKind.i64.wrap (n - x.1)) n
theorem ZqJ {t : Tapi_Tx} (h : t.2.2.1.length≤64) (n : Int) : ∃ r,Zu (XE t) (n,0) = some r:=by
 have:=Yu (step:=XE t) (fun i=>(Zm3 n (t.2.2.1.take i),(i : Int))) t.2.2.1.length (x:=ZcR (Zm3 n t.2.2.1)) (fun i hi=>by
  simp only [XE];rw [if_pos (by omega),Zw hi,Z7 hi (by omega)];unfold Zm3;rw [Zov _ _ hi]) (by
  simp only [XE]
  rw [if_neg (by omega),List.take_length])
 have e : Zu (XE t) (n,0) = ZcR (Zm3 n t.2.2.1):=by simpa [Zm3] using this
 rw [e];unfold ZcR;split <;> exact ⟨_,rfl⟩
theorem ZqK (t : Tapi_Tx) (l : List Tapi_Coin) : ∃ r,ZbT t l = some r∧ZbV t l = some r:=by
 classical
 unfold ZbT ZbV;rw [Zm2,ZlU,Zf,Zf];by_cases hc : Zco t = 0
 ·obtain ⟨h64,h65⟩:=Zpx hc
  have hnc : ¬ ¬ Zco t = 0:=by simp [hc]
  rw [if_neg hnc,if_neg hnc];by_cases hn : (l.length : Int) = (t.2.1.length : Int)
  ·have hnn : ¬ ¬ (l.length : Int) = (t.2.1.length : Int):=by simp [hn]
   rw [if_neg hnn,if_neg hnn]
   have hk : ∃ r,Zeb l t = some r∧ZcS l t = some r:=by
    rw [ZrN (by omega)];unfold Zeb;rw [Zpy (by omega)];by_cases hs : ZgK (Z6 l)
    ·rw [if_pos hs,if_pos hs]
     exact ⟨_,rfl,rfl⟩
    ·rw [if_neg hs,if_neg hs,Zf,if_neg (by simp),ZrO]
     obtain ⟨r,hr⟩:=ZqJ h65 (sumI (Z6 l));exact ⟨r,hr,hr⟩
   obtain ⟨r,hk1,hk2⟩:=hk
   have e1:=Zbx (s:=0) (step:=ZbF l t) (fun i=>(i : Int)) (l.zip t.2.1) (fun x=>¬ (x.1.1.1 = x.2.1.1∧x.1.1.2 = x.2.1.2)) (some (0,101)) (some r) (fun i hi hb=>by
    have hi2 : i < l.length:=by simp at hi; omega
    have hi3 : i < t.2.1.length:=by simp at hi; omega
    simp only [List.getElem_zip] at hb;simp only [ZbF];rw [if_pos (by omega),Zw hi2,Zw hi3,if_neg hb,Z7 hi2 (by omega)]) (fun i hi hb=>by
    have hi2 : i < l.length:=by simp at hi; omega
    have hi3 : i < t.2.1.length:=by simp at hi; omega
    simp only [List.getElem_zip] at hb;simp only [ZbF];rw [if_pos (by omega),Zw hi2,Zw hi3,if_pos hb];rfl) (by
    have : (l.zip t.2.1).length = l.length:=by simp; omega
    simp only [ZbF]
    rw [if_neg (by omega),hk1]) rfl
   have e2:=Zbx (s:=0) (step:=ZbH l t) (fun i=>(i : Int)) (l.zip t.2.1) (fun x=>¬ (x.1.1.1 = x.2.1.1∧x.1.1.2 = x.2.1.2)) (some (0,101)) (some r) (fun i hi hb=>by
    have hi2 : i < l.length:=by simp at hi; omega
    have hi3 : i < t.2.1.length:=by simp at hi; omega
    simp only [List.getElem_zip] at hb;simp only [ZbH];rw [if_pos (by omega),Zw hi2,Zw hi3,if_neg hb,Z7 hi2 (by omega)]) (fun i hi hb=>by
    have hi2 : i < l.length:=by simp at hi; omega
    have hi3 : i < t.2.1.length:=by simp at hi; omega
    simp only [List.getElem_zip] at hb;simp only [ZbH];rw [if_pos (by omega),Zw hi2,Zw hi3,if_pos hb];rfl) (by
    have : (l.zip t.2.1).length = l.length:=by simp; omega
    simp only [ZbH]
    rw [if_neg (by omega),hk2]) rfl
   rw [e1,e2];split <;> exact ⟨_,rfl,rfl⟩
  ·rw [if_pos hn,if_pos hn]
   exact ⟨_,rfl,rfl⟩
 ·rw [if_pos hc,if_pos hc]
  exact ⟨_,rfl,rfl⟩
theorem Zoy (p : Tapi_Plan) : ∃ b,XB p = some b∧X1 p = some b:=by
 classical
 unfold XB X1;rw [Zm2,ZlU,Zf,Zf,Zow,Zm0];by_cases hc : Zco p.1 = 0
 ·obtain ⟨h64,h65⟩:=Zpx hc
  have hnc : ¬ ¬ Zco p.1 = 0:=by simp [hc]
  rw [if_neg hnc];simp only [Zf];cases hb : cbS p.1 with
  | true=>exact ⟨false,by simp,by simp⟩
  | false =>
   have h1 : ¬ (¬ Zco p.1 = 0∨false = true):=by simp [hc]
   rw [if_neg h1,if_neg h1];unfold Zdj;rw [Zf,Zf,wi _ (by omega)];by_cases hx : p.2.2.2 < (-1)∨(p.1.2.2.1.length : Int)≤p.2.2.2
   ·refine ⟨false,?_,?_⟩
    ·have e1:=Zbx (s:=0) (step:=YY p) (fun i=>(i : Int)) p.1.2.1 (fun x=>0 < x.2.2.length) (some false) (some false) (fun i hi hb=>by
      simp only [YY];rw [if_pos (by omega),Zw hi,if_neg (by omega),Z7 hi (by omega)]) (fun i hi hb=>by
      simp only [YY];rw [if_pos (by omega),Zw hi,if_pos (by omega)];rfl) (by
      simp only [YY];rw [if_neg (by omega)];unfold Zc8
      rw [if_pos hx]) rfl
     rw [e1];split <;> rfl
    ·have h2 : (!(decide ((-1)≤p.2.2.2) && decide (p.2.2.2≤(p.1.2.2.1.length : Int) - 1))) = true:=by
      rcases hx with hx | hx
      ·have : ¬ (-1)≤p.2.2.2:=by omega
       simp [this]
      ·have : ¬ p.2.2.2≤(p.1.2.2.1.length : Int) - 1:=by omega
       simp [this]
     rw [h2,if_pos (.inr rfl)]
   ·have h2 : (!(decide ((-1)≤p.2.2.2) && decide (p.2.2.2≤(p.1.2.2.1.length : Int) - 1))) = false:=by
     have g1 : (-1)≤p.2.2.2:=by omega
     have g2 : p.2.2.2≤(p.1.2.2.1.length : Int) - 1:=by omega
     simp [g1,g2]
    rw [h2];have h3 : ¬ ((¬ Zco p.1 = 0∨false = true)∨false = true):=by simp [hc]
    rw [if_neg h3];obtain ⟨r,hr1,hr2⟩:=ZqK p.1 p.2.1
    have e1:=Zbx (s:=0) (step:=YY p) (fun i=>(i : Int)) p.1.2.1 (fun x=>0 < x.2.2.length) (some false) (some (decide (r.2 = 0) && decide (r.1 = p.2.2.1))) (fun i hi hb=>by
     simp only [YY];rw [if_pos (by omega),Zw hi,if_neg (by omega),Z7 hi (by omega)]) (fun i hi hb=>by
     simp only [YY];rw [if_pos (by omega),Zw hi,if_pos (by omega)];rfl) (by
     simp only [YY];rw [if_neg (by omega)];unfold Zc8;rw [if_neg hx,hr1]
     rfl) rfl
    have e2:=Zbx (s:=0) (step:=ZaQ p) (fun i=>(i : Int)) p.1.2.1 (fun x=>0 < x.2.2.length) (some false) (some (decide (r.2 = 0) && decide (r.1 = p.2.2.1))) (fun i hi hb=>by
     simp only [ZaQ];rw [if_pos (by omega),Zw hi,if_neg (by omega),Z7 hi (by omega)]) (fun i hi hb=>by
     simp only [ZaQ];rw [if_pos (by omega),Zw hi,if_pos (by omega)];rfl) (by
     simp only [ZaQ];rw [if_neg (by omega)];unfold ZeR;rw [hr2]
     rfl) rfl
    rw [e1,e2];split <;> exact ⟨_,rfl,rfl⟩
 ·have hc' : ¬ Zco p.1 = 0:=hc
  rw [if_pos hc',Zf,Zf,if_pos (.inl hc'),if_pos (.inl hc'),Zf,if_pos (.inl (.inl hc'))];exact ⟨_,rfl,rfl⟩
end Go.Lc
end
section
namespace Go.Lc
open Go.RowKit
open Go.Av
set_option linter.unusedVariables false
set_option linter.unusedSimpArgs false
set_option maxRecDepth 100000
theorem Zm4 {a b : Arr 4} (h0 : a.at 0 = b.at 0) (h1 : a.at 1 = b.at 1) (h2 : a.at 2 = b.at 2) (h3 : a.at 3 = b.at 3) : a = b:=by
 obtain ⟨l,hl⟩:=a;obtain ⟨m,hm⟩:=b
 match l,hl,m,hm with
 | [x0,x1,x2,x3],_,[y0,y1,y2,y3],_ =>
  simp [Arr.at] at h0 h1 h2 h3
  subst h0 h1 h2 h3;rfl
def ZdU (a b : Arr 4) : Int :=
 if a.at 3 < b.at 3 then -1 else if b.at 3 < a.at 3 then 1 else if a.at 2 < b.at 2 then -1 else if b.at 2 < a.at 2 then 1 else if a.at 1 < b.at 1 then -1 else if b.at 1 < a.at 1 then 1 else if a.at 0 < b.at 0 then -1 else if b.at 0 < a.at 0 then 1 else 0
theorem Zkl (a b : Arr 4) : Zb1 a b = some (ZdU a b):=by
 have st : ∀ (j : Nat),j < 4→Zu (Zbu a b) (j : Int) = if a.at j < b.at j then some (-1) else if b.at j < a.at j then some 1 else Zu (Zbu a b) ((j : Int) - 1):=by
  intro j hj;rw [Zge];simp only [Zbu];rw [if_pos (by omega),ZaY hj,wi _ (by omega)];by_cases h1 : a.at j < b.at j
  ·rw [if_pos h1,if_pos h1]
  ·rw [if_neg h1,if_neg h1]
   by_cases h2 : b.at j < a.at j
   ·rw [if_pos h2,if_pos h2]
   ·rw [if_neg h2,if_neg h2]
 have en : Zu (Zbu a b) (((0 : Nat) : Int) - 1) = some 0:=by
  refine Zbw ?_;simp only [Zbu];rw [if_neg (by omega)];rfl
 unfold Zb1 ZdU;have h3:=st 3 (by omega);have h2:=st 2 (by omega);have h1:=st 1 (by omega);have h0:=st 0 (by omega);rw [show (3 : Int) = ((3 : Nat) : Int) from rfl,h3,show ((3 : Nat) : Int) - 1 = ((2 : Nat) : Int) from rfl,h2,show ((2 : Nat) : Int) - 1 = ((1 : Nat) : Int) from rfl,h1,show ((1 : Nat) : Int) - 1 = ((0 : Nat) : Int) from rfl,h0,en]
 repeat' split
 all_goals rfl
theorem Zhv (a b : Arr 4) : Zba a b = some (ZdU a b):=by
 rw [← Zkl];rfl
def ltS (s t : Tapi_Signed) : Prop:=s.1 < t.1∨s.1 = t.1∧ZdU s.2.1 t.2.1 < 0
def eqK (s t : Tapi_Signed) : Prop:=s.1 = t.1∧s.2.1 = t.2.1
noncomputable instance (s t : Tapi_Signed) : Decidable (ltS s t):=by unfold ltS; infer_instance
theorem ZlV (a : Arr 4) : ZdU a a = 0:=by simp [ZdU]
theorem Zpz {a b : Arr 4} : ZdU a b = 0↔a = b:=by
 constructor
 ·intro h
  unfold ZdU at h
  repeat' split at h
  all_goals first | (exact Zm4 (by omega) (by omega) (by omega) (by omega)) | (exfalso; omega)
 ·rintro rfl; exact ZlV a
theorem ZnM {a b : Arr 4} : ZdU a b < 0↔(a.at 3 < b.at 3∨a.at 3 = b.at 3∧(a.at 2 < b.at 2∨a.at 2 = b.at 2∧(a.at 1 < b.at 1∨a.at 1 = b.at 1∧a.at 0 < b.at 0))):=by
 unfold ZdU
 repeat' split
 all_goals omega
theorem ZnN {a b : Arr 4} : 0 < ZdU a b↔ZdU b a < 0:=by
 rw [ZnM];unfold ZdU
 repeat' split
 all_goals omega
theorem Zhw (s : Tapi_Signed) : ¬ ltS s s:=by
 unfold ltS;rw [ZlV];omega
theorem ZfK {s t u : Tapi_Signed} (h : ltS s t) (h' : ltS t u) : ltS s u:=by
 unfold ltS at *;rw [ZnM] at *;omega
theorem ZnO (s t : Tapi_Signed) : ltS s t∨eqK s t∨ltS t s:=by
 unfold ltS eqK;rw [← Zpz (a:=s.2.1),← ZnN (a:=s.2.1)];omega
theorem Zt4 {s s' t : Tapi_Signed} (h : eqK s s') : ltS s t↔ltS s' t:=by unfold ltS; rw [h.1,h.2]
theorem Zfp {s t : Tapi_Signed} (h : eqK s t) : eqK t s:=⟨h.1.symm,h.2.symm⟩
theorem ZgL {s t : Tapi_Signed} (h : ltS s t) : ¬ eqK s t:=fun e=>Zhw t ((Zt4 e).1 h)
theorem Zh4 (s t : Tapi_Signed) : ∃ c,Y1 s t = some c∧(c < 0↔ltS s t)∧(0 < c↔ltS t s):=by
 have hor : ∀ x y : Int,XP [x,y] = some (if x = 0 then y else x):=by
  intro x y;unfold XP;by_cases hx : x = 0
  ·rw [Zbv (s' := (1 : Int)) (by simp only [Xu]; simp [idx,hx,wi]),if_pos hx]
   by_cases hy : y = 0
   ·rw [Zbv (s' := (2 : Int)) (by simp only [Xu]; simp [idx,hy,wi])]
    refine Zbw ?_;simp [Xu,Lcmp_Or_of_int_k1,hy]
   ·refine Zd2 ?_
    simp [Xu,idx,hy]
  ·rw [if_neg hx]
   refine Zd2 ?_;simp [Xu,idx,hx]
 have hc : YT s.1 t.1 = some (if s.1 < t.1 then -1 else if t.1 < s.1 then 1 else 0):=by
  unfold YT Y6;simp
  split
  ·rfl
  ·split <;> rfl
 refine ⟨if (if s.1 < t.1 then (-1 : Int) else if t.1 < s.1 then 1 else 0) = 0 then ZdU s.2.1 t.2.1 else (if s.1 < t.1 then (-1 : Int) else if t.1 < s.1 then 1 else 0),?_,?_⟩
 ·unfold Y1
  rw [hc,Zf,Zkl,Zf,hor,Zf]
 ·have:=ZnN (a:=s.2.1) (b:=t.2.1)
  unfold ltS;constructor
  ·by_cases h1 : s.1 < t.1
   ·simp [h1]
   ·by_cases h2 : t.1 < s.1
    ·simp [h1,h2]; omega
    ·simp [h1,h2]; omega
  ·by_cases h1 : s.1 < t.1
   ·simp [h1]; omega
   ·by_cases h2 : t.1 < s.1
    ·simp [h1,h2]
    ·simp [h1,h2]; omega
theorem ZgW (s t : Tapi_Signed) : XJ s t = some (decide (ltS s t)):=by
 unfold XJ ltS;rw [Zhv];by_cases h1 : s.1 < t.1
 ·simp [h1]
 ·by_cases h2 : s.1 = t.1
  ·simp [h1,h2]
  ·simp [h1,h2]
abbrev Asc (l : List Tapi_Signed) : Prop:=l.Pairwise ltS
theorem ZrP {l m : List Tapi_Signed} (hl : Asc l) (hm : Asc m) (h : ∀ s,s∈l↔s∈m) : l = m:=by
 induction l generalizing m with
 | nil =>
  cases m with
  | nil=>rfl
  | cons b m=>exact absurd ((h b).2 (by simp)) (by simp)
 | cons a l ih =>
  cases m with
  | nil=>exact absurd ((h a).1 (by simp)) (by simp)
  | cons b m =>
   have hl' := List.pairwise_cons.1 hl;have hm' := List.pairwise_cons.1 hm
   have hab : a = b:=by
    rcases List.mem_cons.1 ((h a).1 (by simp)) with e | e
    ·exact e
    ·rcases List.mem_cons.1 ((h b).2 (by simp)) with f | f
     ·exact f.symm
     ·exact absurd (ZfK (hl'.1 b f) (hm'.1 a e)) (Zhw a)
   subst hab
   congr 1
   refine ih hl'.2 hm'.2 fun s=>?_
   constructor
   ·intro hs
    rcases List.mem_cons.1 ((h s).1 (List.mem_cons_of_mem _ hs)) with e | e
    ·subst e; exact absurd (hl'.1 s hs) (Zhw s)
    ·exact e
   ·intro hs
    rcases List.mem_cons.1 ((h s).2 (List.mem_cons_of_mem _ hs)) with e | e
    ·subst e; exact absurd (hm'.1 s hs) (Zhw s)
    ·exact e
theorem ZrQ {l : List Tapi_Signed} (hl : Asc l) {s t : Tapi_Signed} (hs : s∈l) (ht : t∈l) (h : eqK s t) : s = t:=by
 induction l with
 | nil=>cases hs
 | cons a l ih =>
  have hl' := List.pairwise_cons.1 hl;rcases List.mem_cons.1 hs with e | hs <;> rcases List.mem_cons.1 ht with e' | ht
  ·rw [e,e']
  ·rw [e] at h ⊢; exact absurd h (ZgL (hl'.1 t ht))
  ·rw [e'] at h ⊢; exact absurd (Zfp h) (ZgL (hl'.1 s hs))
  ·exact ih hl'.2 hs ht
def ZdV (x y : List Tapi_Signed) : Prop:=∃ s∈x,∃ t∈y,eqK s t∧s≠t
theorem ZgX {x y : List Tapi_Signed} (h : ZdV x y) : ZdV y x:=by
 obtain ⟨s,hs,t,ht,h1,h2⟩:=h;exact ⟨t,ht,s,hs,Zfp h1,fun e=>h2 e.symm⟩
def Zh5 (x y z : List Tapi_Signed) : Prop:=Asc z∧∀ s,s∈z↔s∈x∨s∈y
theorem Zh5.ext {x y z z' : List Tapi_Signed} (h : Zh5 x y z) (h' : Zh5 x y z') : z = z' := ZrP h.1 h'.1 fun s=>(h.2 s).trans (h'.2 s).symm
end Go.Lc
end
section
namespace Go.Lc
open Go.RowKit
open Go.Av
set_option linter.unusedVariables false
set_option linter.unusedSimpArgs false
set_option maxRecDepth 100000
theorem Zh6 {a : Tapi_Signed} {l : List Tapi_Signed} (h : Asc (a :: l)) : Asc l:=(List.pairwise_cons.1 h).2
theorem Zdw {a : Tapi_Signed} {l : List Tapi_Signed} (h : Asc (a :: l)) : ∀ s∈l,ltS a s:=(List.pairwise_cons.1 h).1
theorem Zkm {l : List Tapi_Signed} {a : Tapi_Signed} (h : Asc l) (h' : ∀ s∈l,ltS s a) : Asc (l++[a]) :=
 List.pairwise_append.2 ⟨h,List.pairwise_singleton _ _,fun s hs t ht=>by rw [List.mem_singleton.1 ht]; exact h' s hs⟩
theorem ZpA (l : List Tapi_Signed) (s : Tapi_Signed) (hl : l.length≤1000000) : (∃ n : Nat,∃ h : n < l.length,Zay l s.1 s.2.1 = some (n : Int)∧eqK l[n] s)∨(Zay l s.1 s.2.1 = some (-1)∧∀ x∈l,¬ eqK x s):=by
 have key:=Zd3 (step:=Zbn l s.1 s.2.1) (fun m p=>∃ j : Nat,p = (j : Int)∧m + j = l.length∧∀ (i : Nat) (h : i < l.length),i < j→¬ eqK l[i] s) (fun r=>(∃ n : Nat,∃ h : n < l.length,r = (n : Int)∧eqK l[n] s)∨(r = -1∧∀ x∈l,¬ eqK x s)) (fun m p hI=>?_) l.length 0 ⟨0,rfl,by omega,fun i h hi=>by omega⟩
 ·unfold Zay
  obtain ⟨r,h1,h2⟩:=key;rcases h2 with ⟨n,h,rfl,h2⟩ | ⟨rfl,h2⟩
  ·exact .inl ⟨n,h,h1,h2⟩
  ·exact .inr ⟨h1,h2⟩
 ·obtain ⟨j,rfl,hj,hb⟩:=hI
  by_cases hlt : j < l.length
  ·by_cases he : eqK l[j] s
   ·right
    refine ⟨(j : Int),?_,.inl ⟨j,hlt,rfl,he⟩⟩;simp only [Zbn];rw [if_pos (by omega),Zw hlt,if_pos (show _∧_ from he)]
   ·left
    refine ⟨m - 1,((j + 1 : Nat) : Int),by omega,?_,j + 1,rfl,by omega,fun i h hi=>?_⟩
    ·simp only [Zbn]
     rw [if_pos (by omega),Zw hlt,if_neg (show ¬ (_∧_) from he),wi _ (by omega)];rfl
    ·by_cases e : i = j
     ·subst e; exact he
     ·exact hb i h (by omega)
  ·right
   refine ⟨-1,?_,.inr ⟨rfl,fun x hx=>?_⟩⟩
   ·simp only [Zbn]
    rw [if_neg (by omega)];rfl
   ·obtain ⟨i,hi,rfl⟩:=List.getElem_of_mem hx
    exact hb i hi (by omega)
theorem ZqL {l : List Tapi_Signed} {s : Tapi_Signed} (hl : Asc l) (hk : ∀ x∈l,¬ eqK x s) (hn : l.length≤1000000) : Tot (Zb6 l s) fun R=>Asc R∧(∀ x,x∈R↔x∈l∨x = s)∧R.length = l.length + 1:=by
 unfold Zb6;refine Zd3 (fun m p=>∃ j : Nat,p = (j : Int)∧m + j = l.length∧∀ (i : Nat) (h : i < l.length),i < j→ltS l[i] s) _ (fun m p hI=>?_) l.length 0 ⟨0,rfl,by omega,fun i h hi=>by omega⟩;obtain ⟨j,rfl,hj,hb⟩:=hI
 have fin : (∀ (h : j < l.length),¬ ltS l[j] s)→∃ r,((ZbI (j : Int) l s).map Sum.inr : Option (Int ⊕ List Tapi_Signed)) = some (.inr r)∧(Asc r∧(∀ x,x∈r↔x∈l∨x = s)∧r.length = l.length + 1):=by
  intro hno
  have hd : ∀ x∈l.drop j,ltS s x:=by
   intro x hx;by_cases hlt : j < l.length
   ·rw [List.drop_eq_getElem_cons hlt] at hx
    have h0 : ltS s l[j]:=by
     rcases ZnO l[j] s with h | h | h
     ·exact absurd h (hno hlt)
     ·exact absurd h (hk _ (List.getElem_mem hlt))
     ·exact h
    rcases List.mem_cons.1 hx with rfl | hx
    ·exact h0
    ·have hA : Asc (l.drop j):=List.Pairwise.sublist (List.drop_sublist _ _) hl
     rw [List.drop_eq_getElem_cons hlt] at hA;exact ZfK h0 (Zdw hA x hx)
   ·rw [List.drop_eq_nil_of_le (by omega)] at hx; cases hx
  have ht : ∀ x∈l.take j,ltS x s:=by
   intro x hx;obtain ⟨i,hi,rfl⟩:=List.getElem_of_mem hx;simp only [List.length_take] at hi;rw [List.getElem_take];exact hb i (by omega) (by omega)
  refine ⟨l.take j++[s]++l.drop j,?_,?_,?_,?_⟩
  ·unfold ZbI
   rw [show ((j : Int)).toNat = j by omega,ZR (by omega),ZR (by simp; omega),ZR (by simp; omega),ZR (by omega),ZR (by simp; omega)];rfl
  ·rw [List.append_assoc]
   refine List.pairwise_append.2 ⟨List.Pairwise.sublist (List.take_sublist _ _) hl,?_,fun a ha b hb'=>?_⟩
   ·exact List.pairwise_append.2 ⟨List.pairwise_singleton _ _,List.Pairwise.sublist (List.drop_sublist _ _) hl,fun a ha b hb'=>by rw [List.mem_singleton.1 ha]; exact hd b hb'⟩
   ·rcases List.mem_append.1 hb' with h | h
    ·rw [List.mem_singleton.1 h]; exact ht a ha
    ·exact ZfK (ht a ha) (hd b h)
  ·intro x
   have : x∈l↔x∈l.take j∨x∈l.drop j:=by rw [← List.mem_append,List.take_append_drop]
   rw [this];simp only [List.mem_append,List.mem_singleton];constructor
   ·rintro ((h | h) | h)
    ·exact .inl (.inl h)
    ·exact .inr h
    ·exact .inl (.inr h)
   ·rintro ((h | h) | h)
    ·exact .inl (.inl h)
    ·exact .inr h
    ·exact .inl (.inr h)
  ·simp
   omega
 by_cases hlt : j < l.length
 ·by_cases he : ltS l[j] s
  ·left
   refine ⟨m - 1,((j + 1 : Nat) : Int),by omega,?_,j + 1,rfl,by omega,fun i h hi=>?_⟩
   ·simp only [ZcT]
    rw [if_pos (by omega),Zw hlt,ZgW,Zf,Zf,if_pos (by simp [he]; omega),wi _ (by omega)];rfl
   ·by_cases e : i = j
    ·subst e; exact he
    ·exact hb i h (by omega)
  ·right
   obtain ⟨r,h1,h2⟩:=fin fun _=>he
   refine ⟨r,?_,h2⟩;simp only [ZcT];rw [if_pos (by omega),Zw hlt,ZgW,Zf,Zf,if_neg (by simp [he])];exact h1
 ·right
  obtain ⟨r,h1,h2⟩:=fin fun h=>absurd h hlt
  refine ⟨r,?_,h2⟩;simp only [ZcT];rw [if_neg (by omega),Zf,if_neg (by omega)];exact h1
def nilP : Tapi_PartialTx:=((((0,[],[],0),[],0,0),[]))
theorem Zkn {α : Type} {l : List α} {i : Nat} (h : i < l.length) (x : α) : x∈l.take (i + 1)↔x∈l.take i∨x = l[i]:=by
 rw [List.take_add_one,List.getElem?_eq_getElem h];simp only [Option.toList,List.mem_append,List.mem_singleton]
theorem ZpB {a b : Tapi_PartialTx} (ha : Asc a.2) (hb : Asc b.2) (hla : a.2.length≤400000) (hlb : b.2.length≤400000) :
  Tot (Zu (Zaa b a) (0,a.2)) fun r=>(ZdV a.2 b.2∧r = (nilP,350))∨(¬ ZdV a.2 b.2∧∃ z,Zh5 a.2 b.2 z∧r = ((a.1,z),0)):=by
 refine Zd3 (fun m p=>∃ j : Nat,p.1 = (j : Int)∧m + j = b.2.length∧Asc p.2∧(∀ x,x∈p.2↔x∈a.2∨x∈b.2.take j)∧p.2.length≤a.2.length + j∧¬ ZdV a.2 (b.2.take j)) _ (fun m p hI=>?_) b.2.length (0,a.2) ⟨0,rfl,by omega,ha,fun x=>by simp,by simp,fun ⟨s,_,t,ht,_⟩=>by simp at ht⟩;obtain ⟨p18,p19⟩:=p;obtain ⟨j,e,hj,hA,hm,hlen,hc⟩:=hI;simp only at e hA hm hlen;subst e;by_cases hlt : j < b.2.length
 ·have hbs : ∀ x∈b.2.take j,ltS x b.2[j]:=by
   intro x hx;obtain ⟨i,hi,rfl⟩:=List.getElem_of_mem hx;simp only [List.length_take] at hi;rw [List.getElem_take];exact List.pairwise_iff_getElem.1 hb i j (by omega) hlt (by omega)
  have hnx : (∀ x∈a.2,eqK x b.2[j]→x = b.2[j])→¬ ZdV a.2 (b.2.take (j + 1)):=by
   rintro h ⟨s,hs,t,ht,h1,h2⟩
   rcases (Zkn hlt t).1 ht with ht | rfl
   ·exact hc ⟨s,hs,t,ht,h1,h2⟩
   ·exact h2 (h s hs h1)
  rcases ZpA a.2 b.2[j] (by omega) with ⟨n,hn,h1,h2⟩ | ⟨h1,h2⟩
  ·by_cases he : a.2[n] = b.2[j]
   ·left
    refine ⟨m - 1,(((j + 1 : Nat) : Int),p19),by omega,?_,j + 1,rfl,by omega,hA,fun x=>?_,by simp only; omega,hnx fun x hx hk=>?_⟩
    ·simp only [Zaa]
     rw [if_pos (by omega),Zw hlt,h1,Zf,if_neg (by omega),Zw hn,if_neg (by rw [he]; simp),ZaS,wi _ (by omega)];rfl
    ·rw [hm x,Zkn hlt x]
     constructor
     ·rintro (h | h)
      ·exact .inl h
      ·exact .inr (.inl h)
     ·rintro (h | h | h)
      ·exact .inl h
      ·exact .inr h
      ·rw [h,← he]; exact .inl (List.getElem_mem hn)
    ·rw [ZrQ ha hx (List.getElem_mem hn) ⟨hk.1.trans h2.1.symm,hk.2.trans h2.2.symm⟩,he]
   ·right
    refine ⟨(nilP,350),?_,.inl ⟨⟨_,List.getElem_mem hn,_,List.getElem_mem hlt,h2,he⟩,rfl⟩⟩;simp only [Zaa];rw [if_pos (by omega),Zw hlt,h1,Zf,if_neg (by omega),Zw hn,if_pos]
    ·rfl
    ·rintro ⟨e1,e2,e3,e4⟩
     exact he (Prod.ext e1 (Prod.ext e2 (Prod.ext e3 e4)))
  ·left
   have hk : ∀ x∈p19,¬ eqK x b.2[j]:=by
    intro x hx;rcases (hm x).1 hx with h | h
    ·exact h2 x h
    ·exact ZgL (hbs x h)
   obtain ⟨R,r1,r2,r3,r4⟩:=ZqL hA hk (by omega);refine ⟨m - 1,(((j + 1 : Nat) : Int),R),by omega,?_,j + 1,rfl,by omega,r2,fun x=>?_,by simp only; omega,hnx fun x hx hk=>absurd hk (h2 x hx)⟩
   ·simp only [Zaa]
    rw [if_pos (by omega),Zw hlt,h1,Zf,if_pos (by omega),r1,Zf,ZaS,wi _ (by omega)];rfl
   ·rw [r3 x,hm x,Zkn hlt x,or_assoc]
 ·right
  rw [List.take_of_length_le (by omega)] at hm hc;refine ⟨((a.1,p19),0),?_,.inr ⟨hc,p19,⟨hA,hm⟩,rfl⟩⟩;simp only [Zaa];rw [if_neg (by omega)];rfl
theorem Zjg {x y : List Tapi_Signed} {h : Tapi_Signed} (hh : ∀ t∈y,¬ eqK h t) : ZdV (h :: x) y↔ZdV x y:=by
 constructor
 ·rintro ⟨s,hs,t,ht,h1,h2⟩
  rcases List.mem_cons.1 hs with rfl | hs
  ·exact absurd h1 (hh t ht)
  ·exact ⟨s,hs,t,ht,h1,h2⟩
 ·rintro ⟨s,hs,t,ht,h1,h2⟩
  exact ⟨s,List.mem_cons_of_mem _ hs,t,ht,h1,h2⟩
theorem Zoz {x y : List Tapi_Signed} {h : Tapi_Signed} (hh : ∀ t∈x,¬ eqK t h) : ZdV x (h :: y)↔ZdV x y:=by
 constructor
 ·intro hc; exact ZgX ((Zjg fun t ht hk=>hh t ht (Zfp hk)).1 (ZgX hc))
 ·intro hc; exact ZgX ((Zjg fun t ht hk=>hh t ht (Zfp hk)).2 (ZgX hc))
theorem ZkS {x : Tapi_Signed} {h : Tapi_Signed} {l : List Tapi_Signed} (hl : Asc (h :: l)) (hx : ltS x h) : ∀ t∈h :: l,ltS x t:=by
 intro t ht;rcases List.mem_cons.1 ht with rfl | ht
 ·exact hx
 ·exact ZfK hx (Zdw hl t ht)
theorem ZoA {a b : Tapi_PartialTx} (ha : Asc a.2) (hb : Asc b.2) (hla : a.2.length≤400000) (hlb : b.2.length≤400000) {p : Tapi_Plan} (hp : YQ a.1 = some p) :
  Tot (Zu (YW a) (a.2,b.2,[])) fun r=>(ZdV a.2 b.2∧r = (nilP,350))∨(¬ ZdV a.2 b.2∧∃ z,Zh5 a.2 b.2 z∧r = ((p,z),0)):=by
 refine Zd3 (fun m q=>m = q.1.length + q.2.1.length∧Asc q.1∧Asc q.2.1∧Asc q.2.2∧(∀ s∈q.2.2,(∀ t∈q.1,ltS s t)∧∀ t∈q.2.1,ltS s t)∧(∀ s,(s∈a.2∨s∈b.2)↔(s∈q.2.2∨s∈q.1∨s∈q.2.1))∧(ZdV a.2 b.2↔ZdV q.1 q.2.1)∧q.2.2.length + q.1.length + q.2.1.length≤a.2.length + b.2.length) _ (fun m q hI=>?_) (a.2.length + b.2.length) (a.2,b.2,[]) ⟨rfl,ha,hb,.nil,fun s hs=>by simp at hs,fun s=>by simp,.rfl,by simp⟩;obtain ⟨x,y,acc⟩:=q;obtain ⟨hm,hx,hy,hA,hlow,hmem,hcf,hlen⟩:=hI;simp only at hm hx hy hA hlow hmem hcf hlen
 match x,y with
 | [],y =>
  right
  refine ⟨((p,acc++[]++y),0),?_,.inr ⟨fun hc=>?_,_,⟨?_,fun s=>?_⟩,rfl⟩⟩
  ·simp only [YW]
   rw [if_neg (by simp),Zad,ZR (by simp at hlen ⊢; omega),ZR (by simp at hlen ⊢; omega),hp,Zf];rfl
  ·obtain ⟨s,hs,_⟩:=hcf.1 hc
   cases hs
  ·rw [List.append_nil]
   exact List.pairwise_append.2 ⟨hA,hy,fun s hs t ht=>(hlow s hs).2 t ht⟩
  ·rw [hmem s]; simp
 | h :: x,[] =>
  right
  refine ⟨((p,acc++(h :: x)++[]),0),?_,.inr ⟨fun hc=>?_,_,⟨?_,fun s=>?_⟩,rfl⟩⟩
  ·simp only [YW]
   rw [if_neg (by simp),Zad,ZR (by simp at hlen ⊢; omega),ZR (by simp at hlen ⊢; omega),hp,Zf];rfl
  ·obtain ⟨s,hs,t,ht,_⟩:=hcf.1 hc
   cases ht
  ·rw [List.append_nil]
   exact List.pairwise_append.2 ⟨hA,hx,fun s hs t ht=>(hlow s hs).1 t ht⟩
  ·rw [hmem s]; simp
 | h :: x,k :: y =>
  obtain ⟨c,hc0,hc1,hc2⟩:=Zh4 h k;simp only [List.length_cons] at hlen hm;by_cases hlt : c < 0
  ·left
   have hhk:=hc1.1 hlt;refine ⟨m - 1,(x,k :: y,acc++[h]),by omega,?_,by simp only [List.length_cons]; omega,Zh6 hx,hy,Zkm hA fun s hs=>(hlow s hs).1 h (by simp),fun s hs=>?_,fun s=>?_,hcf.trans (Zjg fun t ht=>ZgL (ZkS hy hhk t ht)),by simp; omega⟩
   ·simp only [YW]
    rw [if_pos (by simp)];simp only [List.getElem?_cons_zero];rw [Zf,Zf,hc0,Zf,if_pos hlt,ZR (by omega),ZR (by simp; omega)];rfl
   ·rcases List.mem_append.1 hs with hs | hs
    ·exact ⟨fun t ht=>(hlow s hs).1 t (List.mem_cons_of_mem _ ht),(hlow s hs).2⟩
    ·rw [List.mem_singleton.1 hs]
     exact ⟨Zdw hx,ZkS hy hhk⟩
   ·rw [hmem s]
    simp only [List.mem_append,List.mem_cons,List.not_mem_nil,or_false];simp only [or_assoc]
  ·by_cases hgt : 0 < c
   ·left
    have hhk:=hc2.1 hgt;refine ⟨m - 1,(h :: x,y,acc++[k]),by omega,?_,by simp only [List.length_cons]; omega,hx,Zh6 hy,Zkm hA fun s hs=>(hlow s hs).2 k (by simp),fun s hs=>?_,fun s=>?_,hcf.trans (Zoz fun t ht hk=>ZgL (ZkS hx hhk t ht) (Zfp hk)),by simp; omega⟩
    ·simp only [YW]
     rw [if_pos (by simp)];simp only [List.getElem?_cons_zero];rw [Zf,Zf,hc0,Zf,if_neg hlt,if_pos hgt,ZR (by omega),ZR (by simp; omega)];rfl
    ·rcases List.mem_append.1 hs with hs | hs
     ·exact ⟨(hlow s hs).1,fun t ht=>(hlow s hs).2 t (List.mem_cons_of_mem _ ht)⟩
     ·rw [List.mem_singleton.1 hs]
      exact ⟨ZkS hx hhk,Zdw hy⟩
    ·rw [hmem s]
     simp only [List.mem_append,List.mem_cons,List.not_mem_nil,or_false];constructor
     ·rintro (h | (h | h) | h | h) <;> simp [h]
     ·rintro ((h | h) | (h | h) | h) <;> simp [h]
   ·have hk : eqK h k:=by
     rcases ZnO h k with e | e | e
     ·exact absurd (hc1.2 e) hlt
     ·exact e
     ·exact absurd (hc2.2 e) hgt
    by_cases he : h = k
    ·left
     subst he;refine ⟨m - 2,(x,y,acc++[h]),by omega,?_,by simp only; omega,Zh6 hx,Zh6 hy,Zkm hA fun s hs=>(hlow s hs).1 h (by simp),fun s hs=>?_,fun s=>?_,hcf.trans ?_,by simp; omega⟩
     ·simp only [YW]
      rw [if_pos (by simp)];simp only [List.getElem?_cons_zero];rw [Zf,Zf,hc0,Zf,if_neg hlt,if_neg hgt,if_neg (by simp),ZR (by omega),ZR (by simp; omega),ZR (by simp; omega)];rfl
     ·rcases List.mem_append.1 hs with hs | hs
      ·exact ⟨fun t ht=>(hlow s hs).1 t (List.mem_cons_of_mem _ ht),fun t ht=>(hlow s hs).2 t (List.mem_cons_of_mem _ ht)⟩
      ·rw [List.mem_singleton.1 hs]
       exact ⟨Zdw hx,Zdw hy⟩
     ·rw [hmem s]
      simp only [List.mem_append,List.mem_cons,List.not_mem_nil,or_false];constructor
      ·rintro (h | (h | h) | h | h) <;> simp [h]
      ·rintro ((h | h) | h | h) <;> simp [h]
     ·constructor
      ·rintro ⟨s,hs,t,ht,h1,h2⟩
       rcases List.mem_cons.1 hs with e | hs <;> rcases List.mem_cons.1 ht with e' | ht
       ·exact absurd (e.trans e'.symm) h2
       ·rw [e] at h1; exact absurd h1 (ZgL (Zdw hy t ht))
       ·rw [e'] at h1; exact absurd (Zfp h1) (ZgL (Zdw hx s hs))
       ·exact ⟨s,hs,t,ht,h1,h2⟩
      ·rintro ⟨s,hs,t,ht,h1,h2⟩
       exact ⟨s,List.mem_cons_of_mem _ hs,t,List.mem_cons_of_mem _ ht,h1,h2⟩
    ·right
     refine ⟨(nilP,350),?_,.inl ⟨hcf.2 ⟨h,by simp,k,by simp,hk,he⟩,rfl⟩⟩;simp only [YW];rw [if_pos (by simp)];simp only [List.getElem?_cons_zero];rw [Zf,Zf,hc0,Zf,if_neg hlt,if_neg hgt,if_pos]
     ·rfl
     ·rintro ⟨e3,e4⟩
      exact he (Prod.ext hk.1 (Prod.ext hk.2 (Prod.ext e3 e4)))
end Go.Lc
end
section
namespace Go.Lc
open Go.RowKit
open Go.Av
set_option linter.unusedVariables false
set_option linter.unusedSimpArgs false
set_option maxRecDepth 100000
theorem wn (n : Nat) (h : n≤18446744073709551615) : IntKind.u64.wrap (n : Int) = n:=wu _ (by omega)
theorem ZsB {q : Nat} {low : Nat} (hl : low < 256) (hs : q * 256 + low≤18446744073709551615) : bits .or .u64 (IntKind.u64.wrap ((q : Int) * 256)) (low : Int) = ((q * 256 + low : Nat) : Int):=by
 have e0 : (q : Int) * 256 = ((q * 256 : Nat) : Int):=by simp
 rw [e0,wn _ (by omega)];show IntKind.u64.wrap ((BitVec.ofInt 64 ((q * 256 : Nat) : Int) ||| BitVec.ofInt 64 (low : Int)).toNat : Int) = _
 rw [BitVec.toNat_or]
 have e1 : (BitVec.ofInt 64 ((q * 256 : Nat) : Int)).toNat = q * 256:=by
  simp only [BitVec.toNat_ofInt];omega
 have e2 : (BitVec.ofInt 64 (low : Int)).toNat = low:=by
  simp only [BitVec.toNat_ofInt];omega
 have e3:=Nat.two_pow_add_eq_or_of_lt (i:=8) (by simpa using hl) q;rw [e1,e2,Nat.mul_comm q,show (256 : Nat) = 2 ^ 8 from rfl,← e3,wn _ (by simp; omega)]
def dig (a : Arr 4) : Prop:=∀ i,i < 4→∃ w : Nat,a.at i = (w : Int)∧w≤18446744073709551615
def byW (a : Arr 4) (i : Nat) : Int:=IntKind.u8.wrap ((a.at (3 - i / 8)).fdiv (2 ^ (56 - (i % 8) * 8)))
def bw (a : Arr 4) : Nat→Arr 32
 | 0=>zA 32
 | i + 1=>(bw a i).put i (byW a i)
theorem ZlW (a : Arr 4) : Zav a = some (bw a 32):=by
 unfold Zav;refine Yu (step:=Zcm a) (fun k=>((k : Int),bw a k)) 32 (x:=some (bw a 32)) (fun k hk=>?_) ?_
 ·simp only [Zcm]
  have e8 : (k : Int).tmod 8 = ((k % 8 : Nat) : Int):=rfl;have d8 : (k : Int).tdiv 8 = ((k / 8 : Nat) : Int):=rfl;rw [if_pos (by omega),e8,d8,wi (((k / 8 : Nat) : Int)) (by omega),wi (((k % 8 : Nat) : Int) * 8) (by omega),wi (56 - ((k % 8 : Nat) : Int) * 8) (by omega),wi (3 - ((k / 8 : Nat) : Int)) (by omega),show (3 : Int) - ((k / 8 : Nat) : Int) = ((3 - k / 8 : Nat) : Int) by omega,ZaY (by omega),ZR (by omega),ZaY hk,Z7 hk (by omega)];have e : min (56 - ((k % 8 : Nat) : Int) * 8).toNat 64 = 56 - (k % 8) * 8:=by omega
  rw [e];rfl
 ·simp only [Zcm]
  rw [if_neg (by omega)];rfl
theorem ZoB (a : Arr 4) : ∀ (n i : Nat),i < n→n≤32→(bw a n).at i = byW a i
 | 0,i,h,_=>by omega
 | n + 1,i,h,hn=>by
  rw [bw];by_cases e : i = n
  ·subst e
   rw [Arr.at_put _ (by omega)]
  ·rw [Arr.at_put_ne _ (fun h'=>e h'.symm)]
   exact ZoB a n i (by omega) (by omega)
theorem ZrR {a : Arr 4} {i w : Nat} (hw : a.at (3 - i / 8) = (w : Int)) : byW a i = ((w / 2 ^ (56 - (i % 8) * 8) % 256 : Nat) : Int):=by
 unfold byW;rw [hw]
 have : ((w : Int)).fdiv (2 ^ (56 - (i % 8) * 8)) = ((w / 2 ^ (56 - (i % 8) * 8) : Nat) : Int):=by
  rw [Int.fdiv_eq_ediv_of_nonneg _ (Int.le_of_lt (Int.pow_pos (by decide))),Int.natCast_ediv,Int.natCast_pow];rfl
 rw [this];generalize w / 2 ^ (56 - (i % 8) * 8) = v;unfold IntKind.wrap;simp [IntKind.bits,IntKind.signed]
def fw (x : Arr 32) : Nat→Arr 4
 | 0=>zA 4
 | i + 1=>(fw x i).put (3 - i / 8) (bits .or .u64 (IntKind.u64.wrap ((fw x i).at (3 - i / 8) * 256)) (IntKind.u64.wrap (x.at i)))
theorem ZqM (x : Arr 32) : Yy x = some (fw x 32):=by
 unfold Yy;refine Yu (step:=Xm x) (fun k=>((k : Int),fw x k)) 32 (x:=some (fw x 32)) (fun k hk=>?_) ?_
 ·simp only [Xm]
  have d8 : (k : Int).tdiv 8 = ((k / 8 : Nat) : Int):=rfl;rw [if_pos (by omega),ZaY hk,d8,wi (((k / 8 : Nat) : Int)) (by omega),wi (3 - ((k / 8 : Nat) : Int)) (by omega),show (3 : Int) - ((k / 8 : Nat) : Int) = ((3 - k / 8 : Nat) : Int) by omega,ZaY (by omega),Z7 hk (by omega)];rfl
 ·simp only [Xm]
  rw [if_neg (by omega)];rfl
theorem Zmf (n i : Nat) : (zA n).at i = 0:=by
 unfold zA Arr.at zs;simp only [List.getD_eq_getElem?_getD,List.getElem?_replicate];split <;> rfl
theorem ZnP {a : Arr 4} {x : Arr 32} (hx : ∀ i,i < 32→x.at i = byW a i) : ∀ (n q w : Nat),n≤32→q < 4→a.at (3 - q) = (w : Int)→w≤18446744073709551615→(fw x n).at (3 - q) = ((w / 2 ^ (64 - 8 * min 8 (n - 8 * q)) : Nat) : Int)
 | 0,q,w,_,hq,hw,hw2=>by
  rw [fw,Zmf,Nat.zero_sub,Nat.min_zero];have : w / 2 ^ (64 - 8 * 0) = 0:=Nat.div_eq_of_lt (by simp; omega);rw [this];rfl
 | n + 1,q,w,hn,hq,hw,hw2=>by
  have ih:=ZnP hx n q w (by omega) hq hw hw2;rw [fw];by_cases e : n / 8 = q
  ·subst e
   rw [Arr.at_put _ (by omega),ih,hx n (by omega),ZrR hw];have hk : n - 8 * (n / 8) = n % 8:=by omega
   have hk1 : n + 1 - 8 * (n / 8) = n % 8 + 1:=by omega
   rw [hk,hk1,Nat.min_eq_right (by omega),Nat.min_eq_right (by omega),wn _ (by omega)];have hlt : n % 8 < 8:=by omega
   generalize n % 8 = k at hlt;have e1 : 64 - 8 * k = 8 + (56 - k * 8):=by omega
   have e2 : 64 - 8 * (k + 1) = 56 - k * 8:=by omega
   rw [e1,e2,Nat.pow_add,Nat.mul_comm,← Nat.div_div_eq_div_mul];generalize hv : w / 2 ^ (56 - k * 8) = v;have hv2 : v≤w:=by rw [← hv]; exact Nat.div_le_self _ _
   rw [ZsB (by omega) (by omega)]
   congr 1
   omega
  ·rw [Arr.at_put_ne _ (by omega),ih]
   congr 4
   omega
theorem ZnQ {a : Arr 4} (ha : dig a) {x : Arr 32} (hx : ∀ i,i < 32→x.at i = byW a i) : Yy x = some a:=by
 rw [ZqM];refine congrArg some ?_
 have key : ∀ q,q < 4→(fw x 32).at (3 - q) = a.at (3 - q):=by
  intro q hq;obtain ⟨w,hw,hw2⟩:=ha (3 - q) (by omega);rw [ZnP hx 32 q w (by omega) hq hw hw2,hw,Nat.min_eq_left (by omega)];simp
 generalize fw x 32 = y at key;have k0:=key 3 (by omega);have k1:=key 2 (by omega);have k2:=key 1 (by omega);have k3:=key 0 (by omega);exact Zm4 k0 k1 k2 k3
theorem Zm5 (g : Tapi_Signature) : ZaG g = some ((bw g.1 32).l++(bw g.2 32).l):=by
 have h1:=(bw g.1 32).hl;have h2:=(bw g.2 32).hl
 have hr : Zcs [bw g.1 32,bw g.2 32] = some ((bw g.1 32).l++(bw g.2 32).l):=by
  unfold Zcs
  rw [Zbv (s' := (1,(bw g.1 32).l)) (by
   simp only [Zdl];rw [if_pos (by simp),show (0 : Int) = ((0 : Nat) : Int) from rfl,Zw (by simp),ZR (by simp)];simp [wi]),Zbv (s' := (2,(bw g.1 32).l++(bw g.2 32).l)) (by
   simp only [Zdl];rw [if_pos (by simp),show (1 : Int) = ((1 : Nat) : Int) from rfl,Zw (by simp),ZR (by simp [Arr.hl])]
   simp [wi])]
  refine Zbw ?_;simp only [Zdl];rw [if_neg (by simp)];rfl
 unfold ZaG;rw [ZlW,Zf,ZlW,Zf,hr,Zf]
def ordA : Arr 4:=(((zA 4).put 0 18446744073709533559).put 1 18446744073709551615).put 2 18446744073709551615 |>.put 3 9223372036854775807
def Zby (a : Arr 4) : Prop:=ZdU a ordA < 0
instance (a : Arr 4) : Decidable (Zby a):=by unfold Zby; infer_instance
theorem ZlX (a : Arr 4) : X5 a = some (decide (Zby a)):=by
 unfold X5 Lgroup_Order;rw [Zf,Zkl,Zf];rfl
theorem ZnR {n : Nat} {l : List Int} (h : n≤l.length) (i : Nat) (hi : i < n) : (Zg8 n l).at i = l.getD i 0:=by
 unfold Zg8 Arr.at;rw [dif_pos h];simp only [List.getD_eq_getElem?_getD];rw [List.getElem?_take_of_lt hi]
theorem Zm6 {g : Tapi_Signature} (h1 : dig g.1) (h2 : dig g.2) : ∃ r,ZaF ((bw g.1 32).l++(bw g.2 32).l) = some r∧(r.2 = 0↔Zby g.1∧Zby g.2):=by
 have l1:=(bw g.1 32).hl;have l2:=(bw g.2 32).hl
 have a1 : ∀ i,i < 32→(Zg8 32 (((bw g.1 32).l++(bw g.2 32).l).take 32)).at i = byW g.1 i:=by
  intro i hi;rw [List.take_left' l1,ZnR (by omega) i hi];exact ZoB g.1 32 i hi (by omega)
 have a2 : ∀ i,i < 32→(Zg8 32 (((bw g.1 32).l++(bw g.2 32).l).drop 32)).at i = byW g.2 i:=by
  intro i hi;rw [List.drop_left' l1,ZnR (by omega) i hi];exact ZoB g.2 32 i hi (by omega)
 unfold ZaF;rw [if_neg (by simp [l1,l2]),ZR (by simp [l1,l2]),ZR (by simp [l1,l2]),ZnQ h1 a1,Zf,ZR (by simp [l1,l2]),ZR (by simp [l1,l2]),ZnQ h2 a2,Zf,ZlX,Zf];by_cases s1 : Zby g.1
 ·rw [if_neg (by simp [s1]),ZlX,Zf,Zf]
  by_cases s2 : Zby g.2
  ·rw [if_neg (by simp [s1,s2])]
   exact ⟨_,rfl,by simp [s1,s2]⟩
  ·rw [if_pos (by simp [s1,s2])]
   exact ⟨_,rfl,by simp [s1,s2]⟩
 ·rw [if_pos (by simp [s1]),Zf,if_pos (by simp [s1])]
  exact ⟨_,rfl,by simp [s1]⟩
end Go.Lc
end
