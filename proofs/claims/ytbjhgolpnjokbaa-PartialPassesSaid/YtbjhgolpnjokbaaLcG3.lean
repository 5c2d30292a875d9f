import Derived.Test.YtbjhgolpnjokbaaLcG2
import Derived.KernelRfl
import Derived.Test.YtbjhgolpnjokbaaLcG1
section
namespace Go.Lc
open Go.RowKit
open Go.Av
set_option maxRecDepth 100000
set_option linter.unusedSimpArgs false
set_option linter.unusedVariables false
noncomputable def ZcV (a0 : Int) : Option ((Arr 4)) :=
 some ((zA 4).put 0 a0)
theorem ZfN (a0 : Int) : Le (ZcV a0) (Yw a0) := by
 unfold ZcV Yw
 try dsimp only
 repeat' (first | (with_reducible exact Le.refl _) | (refine Zn ?_ fun _ => ?_) | (refine Zv ?_ ?_) | (refine Zu ?_) | (refine Zw fun _ => ?_))
noncomputable def Zdw (a0 : Int) : Option ((Arr 4)) :=
 (ZcV a0).bindF fun y1 => some (y1)
theorem Zmm (a0 : Int) : Le (Zdw a0) (YR a0) := by
 unfold Zdw YR
 try dsimp only
 repeat' (first | (with_reducible exact Le.refl _) | (with_reducible apply ZfN) | (refine Zn ?_ fun _ => ?_) | (refine Zv ?_ ?_) | (refine Zu ?_) | (refine Zw fun _ => ?_))
noncomputable def YD (a0 : (List Int)) (a1 : (List Int)) : Option ((List Int)) :=
 (chk (0 ≤ IntKind.i64.wrap ((a0.length : Int) + (a1.length : Int)) ∧ IntKind.i64.wrap ((a0.length : Int) + (a1.length : Int)) ≤ 140737488355328)).bindF fun _ => (chk (a0.length ≤ 140737488355328)).bindF fun _ => (chk (a0.length + a1.length ≤ 140737488355328)).bindF fun _ => some (a0 ++ a1)
theorem Zak (a0 : (List Int)) (a1 : (List Int)) : Le (YD a0 a1) (Z7 a0 a1) := by
 unfold YD Z7
 try dsimp only
 repeat' (first | (with_reducible exact Le.refl _) | (refine Zn ?_ fun _ => ?_) | (refine Zv ?_ ?_) | (refine Zu ?_) | (refine Zw fun _ => ?_))
noncomputable def Zfe (p8 : (List Int)) : Option (List Int) :=
 some (p8)
theorem ZjZ (p8 : (List Int)) : Le (Zfe p8) (Zdp p8) := by
 unfold Zfe Zdp
 try dsimp only
 repeat' (first | (with_reducible exact Le.refl _) | (refine Zn ?_ fun _ => ?_) | (refine Zv ?_ ?_) | (refine Zu ?_) | (refine Zw fun _ => ?_))
noncomputable def Zff (a0 : (List (List Int))) : (Int × (List Int)) → Option ((Int × (List Int)) ⊕ ((List Int)))
 | (p7, p8) => (if p7 < (a0.length : Int) then (idx (a0) (p7)).bindF fun x11 => (YD p8 x11).bindF fun y12 => some (.inl (IntKind.i64.wrap (p7 + 1), y12)) else (Zfe p8).map Sum.inr)
theorem Zj0 (a0 : (List (List Int))) (s) : Le (Zff a0 s) (Zdq a0 s) := by
 obtain ⟨p7, p8⟩ := s
 unfold Zff Zdq
 try dsimp only
 repeat' (first | (with_reducible exact Le.refl _) | (with_reducible apply Zak) | (with_reducible apply ZjZ) | (refine Zn ?_ fun _ => ?_) | (refine Zv ?_ ?_) | (refine Zu ?_) | (refine Zw fun _ => ?_))
noncomputable def ZcI (a0 : (List (List Int))) : Option ((List Int)) :=
 XH (Zff a0) (0, ([] : (List Int)))
theorem Zdx (a0 : (List (List Int))) : Le (ZcI a0) (Xx a0) := by
 unfold ZcI Xx
 try dsimp only
 repeat' (first | (with_reducible exact Le.refl _) | (with_reducible apply Zj0) | (refine Zn ?_ fun _ => ?_) | (refine Zv ?_ ?_) | (refine Zu ?_) | (refine Zw fun _ => ?_))
noncomputable def ZdT (a0 : Tapi_Op) : Option ((List Int)) :=
 (if a0.1 = 1 then (ZcI [[1, IntKind.u8.wrap ((a0.2.1.length : Int))], a0.2.1]).bindF fun y1 => some (y1) else (if a0.1 = 11 then some ([11, IntKind.u8.wrap (a0.2.2.1), IntKind.u8.wrap (a0.2.2.2)]) else some ([IntKind.u8.wrap (a0.1)])))
theorem ZgS (a0 : Tapi_Op) : Le (ZdT a0) (XA a0) := by
 unfold ZdT XA
 try dsimp only
 repeat' (first | (with_reducible exact Le.refl _) | (with_reducible apply Zdx) | (refine Zn ?_ fun _ => ?_) | (refine Zv ?_ ?_) | (refine Zu ?_) | (refine Zw fun _ => ?_))
noncomputable def ZcW (a0 : Tapi_Op) (p1 : Bool) : Option Int :=
 (if p1 = true then some (6) else (if 255 < (a0.2.1.length : Int) then some (4) else (if (a0.1 = 11 ∧ (((a0.2.2.2 < 1 ∨ 15 < a0.2.2.2) ∨ a0.2.2.1 < 1) ∨ a0.2.2.2 < a0.2.2.1)) then some (5) else some (0))))
theorem Zjd (a0 : Tapi_Op) (p1 : Bool) : Le (ZcW a0 p1) (YJ a0 p1) := by
 unfold ZcW YJ
 try dsimp only
 repeat' (first | (with_reducible exact Le.refl _) | (refine Zn ?_ fun _ => ?_) | (refine Zv ?_ ?_) | (refine Zu ?_) | (refine Zw fun _ => ?_))
noncomputable def ZgT (a0 : Tapi_Op) : Option (Int) :=
 (if (a0.1 < 1 ∨ 17 < a0.1) then some (80) else (if (0 < (a0.2.1.length : Int) ∧ ¬ (a0.1 = 1)) then ZcW a0 (decide (0 < (a0.2.1.length : Int)) && !(decide (a0.1 = 1))) else ZcW a0 ((!(decide (a0.2.2.1 = 0)) || !(decide (a0.2.2.2 = 0))) && !(decide (a0.1 = 11)))))
theorem Zld (a0 : Tapi_Op) : Le (ZgT a0) (Zat a0) := by
 unfold ZgT Zat
 try dsimp only
 repeat' (first | (with_reducible exact Le.refl _) | (with_reducible apply Zjd) | (refine Zn ?_ fun _ => ?_) | (refine Zv ?_ ?_) | (refine Zu ?_) | (refine Zw fun _ => ?_))
noncomputable def Zc6 (p18 : (List Int)) : Option ((List Int) × Int) :=
 some ((p18, 0))
theorem Zhw (p18 : (List Int)) : Le (Zc6 p18) (ZbC p18) := by
 unfold Zc6 ZbC
 try dsimp only
 repeat' (first | (with_reducible exact Le.refl _) | (refine Zn ?_ fun _ => ?_) | (refine Zv ?_ ?_) | (refine Zu ?_) | (refine Zw fun _ => ?_))
noncomputable def Zc7 (a0 : (List Tapi_Op)) : (Int × (List Int)) → Option ((Int × (List Int)) ⊕ ((List Int) × Int))
 | (p17, p18) => (if p17 < (a0.length : Int) then (idx (a0) (p17)).bindF fun x22 => (ZdT x22).bindF fun y23 => (chk (p18.length + y23.length ≤ 140737488355328)).bindF fun _ => (if 520 < (p18.length + y23.length : Int) then some (.inr ((([] : (List Int)), 4))) else some (.inl (IntKind.i64.wrap (p17 + 1), p18 ++ y23))) else (Zc6 p18).map Sum.inr)
theorem Zhx (a0 : (List Tapi_Op)) (s) : Le (Zc7 a0 s) (ZbD a0 s) := by
 obtain ⟨p17, p18⟩ := s
 unfold Zc7 ZbD
 try dsimp only
 repeat' (first | (with_reducible exact Le.refl _) | (with_reducible apply ZgS) | (with_reducible apply Zhw) | (refine Zn ?_ fun _ => ?_) | (refine Zv ?_ ?_) | (refine Zu ?_) | (refine Zw fun _ => ?_))
noncomputable def Zc8 (a0 : (List Tapi_Op)) : Option ((List Int) × Int) :=
 XH (Zc7 a0) (0, [])
theorem Zhy (a0 : (List Tapi_Op)) : Le (Zc8 a0) (ZbE a0) := by
 unfold Zc8 ZbE
 try dsimp only
 repeat' (first | (with_reducible exact Le.refl _) | (with_reducible apply Zhx) | (refine Zn ?_ fun _ => ?_) | (refine Zv ?_ ?_) | (refine Zu ?_) | (refine Zw fun _ => ?_))
noncomputable def Zc9 (a0 : (List Tapi_Op)) : Int → Option ((Int) ⊕ ((List Int) × Int))
 | p6 => (if p6 < (a0.length : Int) then (idx (a0) (p6)).bindF fun x25 => (ZgT x25).bindF fun y26 => (if ¬ (y26 = 0) then some (.inr ((([] : (List Int)), y26))) else some (.inl (IntKind.i64.wrap (p6 + 1)))) else (Zc8 a0).map Sum.inr)
theorem Zhz (a0 : (List Tapi_Op)) (s) : Le (Zc9 a0 s) (ZbF a0 s) := by
 unfold Zc9 ZbF
 try dsimp only
 repeat' (first | (with_reducible exact Le.refl _) | (with_reducible apply Zld) | (with_reducible apply Zhy) | (refine Zn ?_ fun _ => ?_) | (refine Zv ?_ ?_) | (refine Zu ?_) | (refine Zw fun _ => ?_))
noncomputable def ZeL (a0 : (List Tapi_Op)) : Option ((List Int) × Int) :=
 XH (Zc9 a0) 0
theorem Zje (a0 : (List Tapi_Op)) : Le (ZeL a0) (Xt a0) := by
 unfold ZeL Xt
 try dsimp only
 repeat' (first | (with_reducible exact Le.refl _) | (with_reducible apply Zhz) | (refine Zn ?_ fun _ => ?_) | (refine Zv ?_ ?_) | (refine Zu ?_) | (refine Zw fun _ => ?_))
noncomputable def ZeM (p9 : (Arr 32)) : Option (Arr 32) :=
 some (p9)
theorem Zjf (p9 : (Arr 32)) : Le (ZeM p9) (ZcQ p9) := by
 unfold ZeM ZcQ
 try dsimp only
 repeat' (first | (with_reducible exact Le.refl _) | (refine Zn ?_ fun _ => ?_) | (refine Zv ?_ ?_) | (refine Zu ?_) | (refine Zw fun _ => ?_))
noncomputable def ZeN (a0 : (Arr 4)) : (Int × (Arr 32)) → Option ((Int × (Arr 32)) ⊕ ((Arr 32)))
 | (p8, p9) => (if p8 < 32 then (inA (4) (IntKind.i64.wrap ((IntKind.i64.wrap (31 - p8)).tdiv 8))).bindF fun j13 => (chk (¬ (IntKind.i64.wrap (8 * ((IntKind.i64.wrap (31 - p8)).tmod 8)) < 0))).bindF fun _ => (inA (32) (p8)).bindF fun j15 => some (.inl (IntKind.i64.wrap (p8 + 1), p9.put j15 (IntKind.u8.wrap ((a0.at j13).fdiv (2 ^ (min (IntKind.i64.wrap (8 * ((IntKind.i64.wrap (31 - p8)).tmod 8))).toNat 64)))))) else (ZeM p9).map Sum.inr)
theorem Zjg (a0 : (Arr 4)) (s) : Le (ZeN a0 s) (ZcR a0 s) := by
 obtain ⟨p8, p9⟩ := s
 unfold ZeN ZcR
 try dsimp only
 repeat' (first | (with_reducible exact Le.refl _) | (with_reducible apply Zjf) | (refine Zn ?_ fun _ => ?_) | (refine Zv ?_ ?_) | (refine Zu ?_) | (refine Zw fun _ => ?_))
noncomputable def ZgU (a0 : (Arr 4)) : Option ((Arr 32)) :=
 XH (ZeN a0) (0, zA 32)
theorem Zle (a0 : (Arr 4)) : Le (ZgU a0) (Zas a0) := by
 unfold ZgU Zas
 try dsimp only
 repeat' (first | (with_reducible exact Le.refl _) | (with_reducible apply Zjg) | (refine Zn ?_ fun _ => ?_) | (refine Zv ?_ ?_) | (refine Zu ?_) | (refine Zw fun _ => ?_))
noncomputable def Zgu (a0 : (Arr 4)) : Option ((List Int)) :=
 (ZgU a0).bindF fun y1 => some (y1.l)
theorem Ziv (a0 : (Arr 4)) : Le (Zgu a0) (ZaT a0) := by
 unfold Zgu ZaT
 try dsimp only
 repeat' (first | (with_reducible exact Le.refl _) | (with_reducible apply Zle) | (refine Zn ?_ fun _ => ?_) | (refine Zv ?_ ?_) | (refine Zu ?_) | (refine Zw fun _ => ?_))
noncomputable def ZeO (p9 : (List Tapi_Op)) (a0 : Int) (a1 : (List (Arr 4))) : Option ((List Int) × Int) :=
 (chk (p9.length + 1 ≤ 2932031007402)).bindF fun _ => (ZeL (p9 ++ [(11, ([] : (List Int)), a0, (a1.length : Int))])).bindF fun y14 => some ((y14.1, y14.2))
theorem Zjh (p9 : (List Tapi_Op)) (a0 : Int) (a1 : (List (Arr 4))) : Le (ZeO p9 a0 a1) (ZcS p9 a0 a1) := by
 unfold ZeO ZcS
 try dsimp only
 repeat' (first | (with_reducible exact Le.refl _) | (with_reducible apply Zje) | (refine Zn ?_ fun _ => ?_) | (refine Zv ?_ ?_) | (refine Zu ?_) | (refine Zw fun _ => ?_))
noncomputable def ZeP (a1 : (List (Arr 4))) (a0 : Int) : (Int × (List Tapi_Op)) → Option ((Int × (List Tapi_Op)) ⊕ ((List Int) × Int))
 | (p8, p9) => (if p8 < (a1.length : Int) then (idx (a1) (p8)).bindF fun x15 => (Zgu x15).bindF fun y16 => (chk (p9.length + 1 ≤ 2932031007402)).bindF fun _ => some (.inl (IntKind.i64.wrap (p8 + 1), p9 ++ [(1, y16, 0, 0)])) else (ZeO p9 a0 a1).map Sum.inr)
theorem Zji (a1 : (List (Arr 4))) (a0 : Int) (s) : Le (ZeP a1 a0 s) (ZcT a1 a0 s) := by
 obtain ⟨p8, p9⟩ := s
 unfold ZeP ZcT
 try dsimp only
 repeat' (first | (with_reducible exact Le.refl _) | (with_reducible apply Ziv) | (with_reducible apply Zjh) | (refine Zn ?_ fun _ => ?_) | (refine Zv ?_ ?_) | (refine Zu ?_) | (refine Zw fun _ => ?_))
noncomputable def ZeQ (a0 : Int) (a1 : (List (Arr 4))) : Option ((List Int) × Int) :=
 XH (ZeP a1 a0) (0, [])
theorem Zg8 (a0 : Int) (a1 : (List (Arr 4))) : Le (ZeQ a0 a1) (Xy a0 a1) := by
 unfold ZeQ Xy
 try dsimp only
 repeat' (first | (with_reducible exact Le.refl _) | (with_reducible apply Zji) | (refine Zn ?_ fun _ => ?_) | (refine Zv ?_ ?_) | (refine Zu ?_) | (refine Zw fun _ => ?_))
noncomputable def Zda (p7 : (Arr 4)) : Option (Arr 4) :=
 some (p7)
theorem ZhA (p7 : (Arr 4)) : Le (Zda p7) (ZbG p7) := by
 unfold Zda ZbG
 try dsimp only
 repeat' (first | (with_reducible exact Le.refl _) | (refine Zn ?_ fun _ => ?_) | (refine Zv ?_ ?_) | (refine Zu ?_) | (refine Zw fun _ => ?_))
noncomputable def Zdb (a0 : (Arr 32)) : (Int × (Arr 4)) → Option ((Int × (Arr 4)) ⊕ ((Arr 4)))
 | (p6, p7) => (if p6 < 32 then (inA (32) (p6)).bindF fun j10 => (inA (4) (IntKind.i64.wrap (3 - (IntKind.i64.wrap ((p6).tdiv 8))))).bindF fun j11 => some (.inl (IntKind.i64.wrap (p6 + 1), p7.put j11 (bits .or .u64 (IntKind.u64.wrap ((p7.at j11) * 256)) (IntKind.u64.wrap (a0.at j10))))) else (Zda p7).map Sum.inr)
theorem ZhB (a0 : (Arr 32)) (s) : Le (Zdb a0 s) (Xh a0 s) := by
 obtain ⟨p6, p7⟩ := s
 unfold Zdb Xh
 try dsimp only
 repeat' (first | (with_reducible exact Le.refl _) | (with_reducible apply ZhA) | (refine Zn ?_ fun _ => ?_) | (refine Zv ?_ ?_) | (refine Zu ?_) | (refine Zw fun _ => ?_))
noncomputable def ZeR (a0 : (Arr 32)) : Option ((Arr 4)) :=
 XH (Zdb a0) (0, zA 4)
theorem Zjj (a0 : (Arr 32)) : Le (ZeR a0) (Yx a0) := by
 unfold ZeR Yx
 try dsimp only
 repeat' (first | (with_reducible exact Le.refl _) | (with_reducible apply ZhB) | (refine Zn ?_ fun _ => ?_) | (refine Zv ?_ ?_) | (refine Zu ?_) | (refine Zw fun _ => ?_))
noncomputable def Zf4 (a0 : Int) : Option (Bool) :=
 some ((decide (1 ≤ a0) && decide (a0 ≤ 17)))
theorem Zkz (a0 : Int) : Le (Zf4 a0) (X8 a0) := by
 unfold Zf4 X8
 try dsimp only
 repeat' (first | (with_reducible exact Le.refl _) | (refine Zn ?_ fun _ => ?_) | (refine Zv ?_ ?_) | (refine Zu ?_) | (refine Zw fun _ => ?_))
noncomputable def Zfg (p8 : (List Int)) : Option (List Int) :=
 some (p8)
theorem Zj1 (p8 : (List Int)) : Le (Zfg p8) (Zdr p8) := by
 unfold Zfg Zdr
 try dsimp only
 repeat' (first | (with_reducible exact Le.refl _) | (refine Zn ?_ fun _ => ?_) | (refine Zv ?_ ?_) | (refine Zu ?_) | (refine Zw fun _ => ?_))
noncomputable def Zfh (a0 : (List (List Int))) : (Int × (List Int)) → Option ((Int × (List Int)) ⊕ ((List Int)))
 | (p7, p8) => (if p7 < (a0.length : Int) then (idx (a0) (p7)).bindF fun x11 => (chk (p8.length + x11.length ≤ 140737488355328)).bindF fun _ => some (.inl (IntKind.i64.wrap (p7 + 1), p8 ++ x11)) else (Zfg p8).map Sum.inr)
theorem Zj2 (a0 : (List (List Int))) (s) : Le (Zfh a0 s) (Zds a0 s) := by
 obtain ⟨p7, p8⟩ := s
 unfold Zfh Zds
 try dsimp only
 repeat' (first | (with_reducible exact Le.refl _) | (with_reducible apply Zj1) | (refine Zn ?_ fun _ => ?_) | (refine Zv ?_ ?_) | (refine Zu ?_) | (refine Zw fun _ => ?_))
noncomputable def Zho (a0 : (List (List Int))) : Option ((List Int)) :=
 XH (Zfh a0) (0, [])
theorem Zlz (a0 : (List (List Int))) : Le (Zho a0) (ZaW a0) := by
 unfold Zho ZaW
 try dsimp only
 repeat' (first | (with_reducible exact Le.refl _) | (with_reducible apply Zj2) | (refine Zn ?_ fun _ => ?_) | (refine Zv ?_ ?_) | (refine Zu ?_) | (refine Zw fun _ => ?_))
noncomputable def ZeS (a0 : Int) (a1 : Int) : Option (Bool) :=
 some ((((decide (1 ≤ a1) && decide (a1 ≤ 15)) && decide (1 ≤ a0)) && decide (a0 ≤ a1)))
theorem Zjk (a0 : Int) (a1 : Int) : Le (ZeS a0 a1) (Xu a0 a1) := by
 unfold ZeS Xu
 try dsimp only
 repeat' (first | (with_reducible exact Le.refl _) | (refine Zn ?_ fun _ => ?_) | (refine Zv ?_ ?_) | (refine Zu ?_) | (refine Zw fun _ => ?_))
noncomputable def ZbI (x1 : Int) (p14 : (List Int)) (p15 : Int) (p16 : Int) (p17 : (List Int)) : Option (Tapi_Op × (List Int) × Int) :=
 some (((IntKind.i64.wrap (x1), p17, p15, p16), p14, 0))
theorem Zjl (x1 : Int) (p14 : (List Int)) (p15 : Int) (p16 : Int) (p17 : (List Int)) : Le (ZbI x1 p14 p15 p16 p17) (Xv x1 p14 p15 p16 p17) := by
 unfold ZbI Xv
 try dsimp only
 repeat' (first | (with_reducible exact Le.refl _) | (refine Zn ?_ fun _ => ?_) | (refine Zv ?_ ?_) | (refine Zu ?_) | (refine Zw fun _ => ?_))
noncomputable def ZgV (a0 : (List Int)) : Option (Tapi_Op × (List Int) × Int) :=
 ((a0)[0]?).bindF fun x1 => (Zf4 (IntKind.i64.wrap (x1))).bindF fun y2 => (if ¬ (y2 = true) then some (((0, ([] : (List Int)), 0, 0), ([] : (List Int)), 80)) else (chk (1 ≤ (a0.length : Int))).bindF fun _ => (if IntKind.i64.wrap (x1) = 1 then ((if (((a0).drop 1).length : Int) = 0 then some (false) else (((a0).drop 1)[0]?).bindF fun x18 => some (decide (IntKind.i64.wrap ((((a0).drop 1).length : Int) - 1) < IntKind.i64.wrap (x18))))).bindF fun z19 => (if ((((a0).drop 1).length : Int) = 0 ∨ z19 = true) then some (((0, ([] : (List Int)), 0, 0), ([] : (List Int)), 1)) else (((a0).drop 1)[0]?).bindF fun x20 => (chk (1 ≤ IntKind.i64.wrap (1 + (IntKind.i64.wrap (x20))) ∧ IntKind.i64.wrap (1 + (IntKind.i64.wrap (x20))) ≤ (((a0).drop 1).length : Int))).bindF fun _ => (Zho [(((a0).drop 1).take ((IntKind.i64.wrap (1 + (IntKind.i64.wrap (x20)))).toNat)).drop 1]).bindF fun y22 => (chk (0 ≤ IntKind.i64.wrap (1 + (IntKind.i64.wrap (x20))) ∧ IntKind.i64.wrap (1 + (IntKind.i64.wrap (x20))) ≤ (((a0).drop 1).length : Int))).bindF fun _ => ZbI x1 (((a0).drop 1).drop ((IntKind.i64.wrap (1 + (IntKind.i64.wrap (x20)))).toNat)) 0 0 y22) else (if IntKind.i64.wrap (x1) = 11 then (if (((a0).drop 1).length : Int) < 2 then some (((0, ([] : (List Int)), 0, 0), ([] : (List Int)), 1)) else (((a0).drop 1)[0]?).bindF fun x24 => (((a0).drop 1)[1]?).bindF fun x25 => (chk (2 ≤ (((a0).drop 1).length : Int))).bindF fun _ => (ZeS (IntKind.i64.wrap (x24)) (IntKind.i64.wrap (x25))).bindF fun y27 => (if ¬ (y27 = true) then some (((0, ([] : (List Int)), 0, 0), ([] : (List Int)), 5)) else ZbI x1 (((a0).drop 1).drop 2) (IntKind.i64.wrap (x24)) (IntKind.i64.wrap (x25)) [])) else ZbI x1 ((a0).drop 1) 0 0 [])))
theorem Zlf (a0 : (List Int)) : Le (ZgV a0) (Zau a0) := by
 unfold ZgV Zau
 try dsimp only
 repeat' (first | (with_reducible exact Le.refl _) | (with_reducible apply Zkz) | (with_reducible apply Zlz) | (with_reducible apply Zjl) | (with_reducible apply Zjk) | (refine Zn ?_ fun _ => ?_) | (refine Zv ?_ ?_) | (refine Zu ?_) | (refine Zw fun _ => ?_))
noncomputable def Zd5 (p7 : (List Tapi_Op)) : Option ((List Tapi_Op) × Int) :=
 some ((p7, 0))
theorem Zix (p7 : (List Tapi_Op)) : Le (Zd5 p7) (Zcj p7) := by
 unfold Zd5 Zcj
 try dsimp only
 repeat' (first | (with_reducible exact Le.refl _) | (refine Zn ?_ fun _ => ?_) | (refine Zv ?_ ?_) | (refine Zu ?_) | (refine Zw fun _ => ?_))
noncomputable def Fscript_Parse_s1 : ((List Int) × (List Tapi_Op)) → Option (((List Int) × (List Tapi_Op)) ⊕ ((List Tapi_Op) × Int))
 | (p6, p7) => (if 0 < (p6.length : Int) then (ZgV p6).bindF fun y10 => (if ¬ (y10.2.2 = 0) then some (.inr ((([] : (List Tapi_Op)), y10.2.2))) else (chk (p7.length + 1 ≤ 2932031007402)).bindF fun _ => some (.inl (y10.2.1, p7 ++ [y10.1]))) else (Zd5 p7).map Sum.inr)
theorem Ziy (s) : Le (Fscript_Parse_s1 s) (Lscript_Parse_s1 s) := by
 obtain ⟨p6, p7⟩ := s
 unfold Fscript_Parse_s1 Lscript_Parse_s1
 try dsimp only
 repeat' (first | (with_reducible exact Le.refl _) | (with_reducible apply Zlf) | (with_reducible apply Zix) | (refine Zn ?_ fun _ => ?_) | (refine Zv ?_ ?_) | (refine Zu ?_) | (refine Zw fun _ => ?_))
noncomputable def ZdU (a0 : (List Int)) : Option ((List Tapi_Op) × Int) :=
 (if 520 < (a0.length : Int) then some ((([] : (List Tapi_Op)), 4)) else XH (Fscript_Parse_s1) (a0, []))
theorem ZgW (a0 : (List Int)) : Le (ZdU a0) (XB a0) := by
 unfold ZdU XB
 try dsimp only
 repeat' (first | (with_reducible exact Le.refl _) | (with_reducible apply Ziy) | (refine Zn ?_ fun _ => ?_) | (refine Zv ?_ ?_) | (refine Zu ?_) | (refine Zw fun _ => ?_))
noncomputable def Zdz (p10 : Int) : Option (Int × Int) :=
 some ((p10, 0))
theorem Zib (p10 : Int) : Le (Zdz p10) (ZaK p10) := by
 unfold Zdz ZaK
 try dsimp only
 repeat' (first | (with_reducible exact Le.refl _) | (refine Zn ?_ fun _ => ?_) | (refine Zv ?_ ?_) | (refine Zu ?_) | (refine Zw fun _ => ?_))
noncomputable def ZdA (a0 : (List Int)) : (Int × Int) → Option ((Int × Int) ⊕ (Int × Int))
 | (p10, p11) => (if p11 < (a0.length : Int) then (idx (a0) (p11)).bindF fun x14 => (chk (¬ (IntKind.i64.wrap (8 * p11) < 0))).bindF fun _ => some (.inl (bits .or .u32 p10 (IntKind.u32.wrap ((IntKind.u32.wrap (x14)) * (2 ^ (min (IntKind.i64.wrap (8 * p11)).toNat 32)))), IntKind.i64.wrap (p11 + 1))) else (Zdz p10).map Sum.inr)
theorem Zic (a0 : (List Int)) (s) : Le (ZdA a0 s) (ZaL a0 s) := by
 obtain ⟨p10, p11⟩ := s
 unfold ZdA ZaL
 try dsimp only
 repeat' (first | (with_reducible exact Le.refl _) | (with_reducible apply Zib) | (refine Zn ?_ fun _ => ?_) | (refine Zv ?_ ?_) | (refine Zu ?_) | (refine Zw fun _ => ?_))
noncomputable def Zfi (a0 : (List Int)) : Option (Int × Int) :=
 ((if 4 < (a0.length : Int) then some (false) else ((if 0 < (a0.length : Int) then (idx (a0) (IntKind.i64.wrap ((a0.length : Int) - 1))).bindF fun x1 => some (decide (x1 = 0)) else some (false))).bindF fun z2 => some ((decide (0 < (a0.length : Int)) && z2)))).bindF fun z3 => (if (4 < (a0.length : Int) ∨ z3 = true) then some ((0, 82)) else XH (ZdA a0) (0, 0))
theorem Zj3 (a0 : (List Int)) : Le (Zfi a0) (XL a0) := by
 unfold Zfi XL
 try dsimp only
 repeat' (first | (with_reducible exact Le.refl _) | (with_reducible apply Zic) | (refine Zn ?_ fun _ => ?_) | (refine Zv ?_ ?_) | (refine Zu ?_) | (refine Zw fun _ => ?_))
noncomputable def ZbJ (a0 : (List Int)) : Option (Int) :=
 ((if (a0.length : Int) < 2 then some (false) else ((a0)[0]?).bindF fun x1 => some (!(decide (x1 = 1))))).bindF fun z2 => (if ((a0.length : Int) < 2 ∨ z2 = true) then some (0) else ((a0)[1]?).bindF fun x3 => (if (a0.length : Int) < IntKind.i64.wrap ((IntKind.i64.wrap (2 + (IntKind.i64.wrap (x3)))) + 2) then some (0) else (chk (2 ≤ IntKind.i64.wrap (2 + (IntKind.i64.wrap (x3))) ∧ IntKind.i64.wrap (2 + (IntKind.i64.wrap (x3))) ≤ (a0.length : Int))).bindF fun _ => (Zfi (((a0).take ((IntKind.i64.wrap (2 + (IntKind.i64.wrap (x3)))).toNat)).drop 2)).bindF fun y5 => (if ¬ (y5.2 = 0) then some (0) else (idx (a0) (IntKind.i64.wrap (2 + (IntKind.i64.wrap (x3))))).bindF fun x6 => ((if (¬ (x6 = 12) ∧ ¬ (x6 = 13)) then some (false) else (idx (a0) (IntKind.i64.wrap ((IntKind.i64.wrap (2 + (IntKind.i64.wrap (x3)))) + 1))).bindF fun x7 => some (!(decide (x7 = 3))))).bindF fun z8 => (if ((¬ (x6 = 12) ∧ ¬ (x6 = 13)) ∨ z8 = true) then some (0) else some (IntKind.i64.wrap ((IntKind.i64.wrap (2 + (IntKind.i64.wrap (x3)))) + 2))))))
theorem Zet (a0 : (List Int)) : Le (ZbJ a0) (YK a0) := by
 unfold ZbJ YK
 try dsimp only
 repeat' (first | (with_reducible exact Le.refl _) | (with_reducible apply Zj3) | (refine Zn ?_ fun _ => ?_) | (refine Zv ?_ ?_) | (refine Zu ?_) | (refine Zw fun _ => ?_))
noncomputable def Zd6 (y13 : ((List Tapi_Op) × Int)) (p25 : (List (Arr 4))) : Option ((List (Arr 4)) × Int × Bool) :=
 (idx (y13.1) (IntKind.i64.wrap ((y13.1.length : Int) - 1))).bindF fun x30 => (if (x30.1 = 10 ∧ (p25.length : Int) = 1) then some ((p25, 1, true)) else (if (x30.1 = 11 ∧ x30.2.2.2 = (p25.length : Int)) then some ((p25, x30.2.2.1, true)) else some ((([] : (List (Arr 4))), 0, false))))
theorem Ziz (y13 : ((List Tapi_Op) × Int)) (p25 : (List (Arr 4))) : Le (Zd6 y13 p25) (Zck y13 p25) := by
 unfold Zd6 Zck
 try dsimp only
 repeat' (first | (with_reducible exact Le.refl _) | (refine Zn ?_ fun _ => ?_) | (refine Zv ?_ ?_) | (refine Zu ?_) | (refine Zw fun _ => ?_))
noncomputable def Zd7 (y13 : ((List Tapi_Op) × Int)) : (Int × (List (Arr 4))) → Option ((Int × (List (Arr 4))) ⊕ ((List (Arr 4)) × Int × Bool))
 | (p24, p25) => (if p24 < (((y13.1).take ((IntKind.i64.wrap ((y13.1.length : Int) - 1)).toNat)).length : Int) then (idx ((y13.1).take ((IntKind.i64.wrap ((y13.1.length : Int) - 1)).toNat)) (p24)).bindF fun x31 => (if (¬ (x31.1 = 1) ∨ ¬ ((x31.2.1.length : Int) = 32)) then some (.inr ((([] : (List (Arr 4))), 0, false))) else (chk (32 ≤ x31.2.1.length)).bindF fun _ => (ZeR (Zhn 32 x31.2.1)).bindF fun y33 => (chk (p25.length + 1 ≤ 4398046511104)).bindF fun _ => some (.inl (IntKind.i64.wrap (p24 + 1), p25 ++ [y33]))) else (Zd6 y13 p25).map Sum.inr)
theorem ZiA (y13 : ((List Tapi_Op) × Int)) (s) : Le (Zd7 y13 s) (Zcl y13 s) := by
 obtain ⟨p24, p25⟩ := s
 unfold Zd7 Zcl
 try dsimp only
 repeat' (first | (with_reducible exact Le.refl _) | (with_reducible apply Zjj) | (with_reducible apply Ziz) | (refine Zn ?_ fun _ => ?_) | (refine Zv ?_ ?_) | (refine Zu ?_) | (refine Zw fun _ => ?_))
noncomputable def Zd8 (p9 : (List Int)) : Option ((List (Arr 4)) × Int × Bool) :=
 (ZdU p9).bindF fun y13 => (if (¬ (y13.2 = 0) ∨ (y13.1.length : Int) < 2) then some ((([] : (List (Arr 4))), 0, false)) else (chk (IntKind.i64.wrap ((y13.1.length : Int) - 1) ≤ (y13.1.length : Int) ∧ 0 ≤ IntKind.i64.wrap ((y13.1.length : Int) - 1))).bindF fun _ => XH (Zd7 y13) (0, []))
theorem ZiB (p9 : (List Int)) : Le (Zd8 p9) (Zcm p9) := by
 unfold Zd8 Zcm
 try dsimp only
 repeat' (first | (with_reducible exact Le.refl _) | (with_reducible apply ZgW) | (with_reducible apply ZiA) | (refine Zn ?_ fun _ => ?_) | (refine Zv ?_ ?_) | (refine Zu ?_) | (refine Zw fun _ => ?_))
noncomputable def Fpartial_Keys_s1 : ((List Int) × Int) → Option (((List Int) × Int) ⊕ ((List (Arr 4)) × Int × Bool))
 | (p9, p10) => (if 0 < p10 then (chk (0 ≤ p10 ∧ p10 ≤ (p9.length : Int))).bindF fun _ => (ZbJ ((p9).drop ((p10).toNat))).bindF fun y36 => some (.inl ((p9).drop ((p10).toNat), y36)) else (Zd8 p9).map Sum.inr)
theorem ZiC (s) : Le (Fpartial_Keys_s1 s) (Lpartial_Keys_s1 s) := by
 obtain ⟨p9, p10⟩ := s
 unfold Fpartial_Keys_s1 Lpartial_Keys_s1
 try dsimp only
 repeat' (first | (with_reducible exact Le.refl _) | (with_reducible apply Zet) | (with_reducible apply ZiB) | (refine Zn ?_ fun _ => ?_) | (refine Zv ?_ ?_) | (refine Zu ?_) | (refine Zw fun _ => ?_))
noncomputable def ZdV (a0 : (List Int)) : Option ((List (Arr 4)) × Int × Bool) :=
 (ZdU a0).bindF fun y1 => (if ¬ (y1.2 = 0) then some ((([] : (List (Arr 4))), 0, false)) else (ZbJ a0).bindF fun y2 => XH (Fpartial_Keys_s1) (a0, y2))
theorem ZkA (a0 : (List Int)) : Le (ZdV a0) (XC a0) := by
 unfold ZdV XC
 try dsimp only
 repeat' (first | (with_reducible exact Le.refl _) | (with_reducible apply ZgW) | (with_reducible apply Zet) | (with_reducible apply ZiC) | (refine Zn ?_ fun _ => ?_) | (refine Zv ?_ ?_) | (refine Zu ?_) | (refine Zw fun _ => ?_))
noncomputable def Zf5 (a0 : (List Int)) (a1 : (List Int)) : Option ((List Int)) :=
 (ZcI [[14], a0, [15], a1, [16]]).bindF fun y1 => some (y1)
theorem ZkB (a0 : (List Int)) (a1 : (List Int)) : Le (Zf5 a0 a1) (X9 a0 a1) := by
 unfold Zf5 X9
 try dsimp only
 repeat' (first | (with_reducible exact Le.refl _) | (with_reducible apply Zdx) | (refine Zn ?_ fun _ => ?_) | (refine Zv ?_ ?_) | (refine Zu ?_) | (refine Zw fun _ => ?_))
noncomputable def Flaw35_sane : Option (Bool) :=
 (Zdw 4).bindF fun y1 => (Zdw 16).bindF fun y2 => (Zdw 64).bindF fun y3 => (ZeQ 2 [y1, y2, y3]).bindF fun y4 => (ZdV y4.1).bindF fun y5 => (Zf5 y4.1 y4.1).bindF fun y6 => (ZdV y6).bindF fun y7 => ((if ((y5.2.2 = true ∧ y5.2.1 = 2) ∧ (y5.1.length : Int) = 3) then ((y5.1)[2]?).bindF fun x8 => (Zdw 64).bindF fun y9 => some (decide (x8 = y9)) else some (false))).bindF fun z10 => some (((((y5.2.2 && decide (y5.2.1 = 2)) && decide ((y5.1.length : Int) = 3)) && z10) && !(y7.2.2)))
theorem Flaw35_sane_le : Le (Flaw35_sane) (Llaw35_sane) := by
 unfold Flaw35_sane Llaw35_sane
 try dsimp only
 repeat' (first | (with_reducible exact Le.refl _) | (with_reducible apply Zmm) | (with_reducible apply Zg8) | (with_reducible apply ZkA) | (with_reducible apply ZkB) | (refine Zn ?_ fun _ => ?_) | (refine Zv ?_ ?_) | (refine Zu ?_) | (refine Zw fun _ => ?_))
noncomputable def Zd9 (a0 : Int) (a1 : Int) (a2 : Int) : Option (Int × Int) :=
 (chk ((0 ≤ a0 ∧ 0 ≤ a1) ∧ (a1 ≤ 18446744073709551615 ∧ 0 ≤ a2) ∧ a2 ≤ 1)).bindF fun _ => some ((a0 + 18446744073709551616 - a1 - a2) % 18446744073709551616, if a0 < a1 + a2 then 1 else 0)
theorem ZiD (a0 : Int) (a1 : Int) (a2 : Int) : Le (Zd9 a0 a1 a2) (Zd4 a0 a1 a2) := by
 unfold Zd9 Zd4
 try dsimp only
 repeat' (first | (with_reducible exact Le.refl _) | (refine Zn ?_ fun _ => ?_) | (refine Zv ?_ ?_) | (refine Zu ?_) | (refine Zw fun _ => ?_))
noncomputable def Zf6 (p9 : (Arr 4)) (p7 : Int) : Option ((Arr 4) × Bool) :=
 some ((p9, decide (p7 = 1)))
theorem ZkC (p9 : (Arr 4)) (p7 : Int) : Le (Zf6 p9 p7) (Zf1 p9 p7) := by
 unfold Zf6 Zf1
 try dsimp only
 repeat' (first | (with_reducible exact Le.refl _) | (refine Zn ?_ fun _ => ?_) | (refine Zv ?_ ?_) | (refine Zu ?_) | (refine Zw fun _ => ?_))
noncomputable def Zf7 (a0 : (Arr 4)) (a1 : (Arr 4)) : (Int × Int × (Arr 4)) → Option ((Int × Int × (Arr 4)) ⊕ ((Arr 4) × Bool))
 | (p7, p8, p9) => (if p8 < 4 then (inA (4) (p8)).bindF fun j12 => (Zd9 (a0.at j12) (a1.at j12) p7).bindF fun y13 => some (.inl (y13.2, IntKind.i64.wrap (p8 + 1), p9.put j12 y13.1)) else (Zf6 p9 p7).map Sum.inr)
theorem ZkD (a0 : (Arr 4)) (a1 : (Arr 4)) (s) : Le (Zf7 a0 a1 s) (Zf2 a0 a1 s) := by
 obtain ⟨p7, p8, p9⟩ := s
 unfold Zf7 Zf2
 try dsimp only
 repeat' (first | (with_reducible exact Le.refl _) | (with_reducible apply ZiD) | (with_reducible apply ZkC) | (refine Zn ?_ fun _ => ?_) | (refine Zv ?_ ?_) | (refine Zu ?_) | (refine Zw fun _ => ?_))
noncomputable def Zid (a0 : (Arr 4)) (a1 : (Arr 4)) : Option ((Arr 4) × Bool) :=
 XH (Zf7 a0 a1) (0, 0, zA 4)
theorem Zmn (a0 : (Arr 4)) (a1 : (Arr 4)) : Le (Zid a0 a1) (Zh9 a0 a1) := by
 unfold Zid Zh9
 try dsimp only
 repeat' (first | (with_reducible exact Le.refl _) | (with_reducible apply ZkD) | (refine Zn ?_ fun _ => ?_) | (refine Zv ?_ ?_) | (refine Zu ?_) | (refine Zw fun _ => ?_))
noncomputable def Fref05_Modulus : Option ((Arr 4)) :=
 (ZcV 36113).bindF fun y1 => (Zid (zA 4) y1).bindF fun y2 => some (y2.1)
theorem Fref05_Modulus_le : Le (Fref05_Modulus) (Lref05_Modulus) := by
 unfold Fref05_Modulus Lref05_Modulus
 try dsimp only
 repeat' (first | (with_reducible exact Le.refl _) | (with_reducible apply ZfN) | (with_reducible apply Zmn) | (refine Zn ?_ fun _ => ?_) | (refine Zv ?_ ?_) | (refine Zu ?_) | (refine Zw fun _ => ?_))
noncomputable def Zie (a0 : (Arr 4)) (a1 : Int) : Option (Bool) :=
 (inA (4) (IntKind.i64.wrap ((a1).tdiv 64))).bindF fun j1 => (chk (¬ ((a1).tmod 64 < 0))).bindF fun _ => some (decide (bits .and .u64 ((a0.at j1).fdiv (2 ^ (min ((a1).tmod 64).toNat 64))) 1 = 1))
theorem Zmo (a0 : (Arr 4)) (a1 : Int) : Le (Zie a0 a1) (Zh7 a0 a1) := by
 unfold Zie Zh7
 try dsimp only
 repeat' (first | (with_reducible exact Le.refl _) | (refine Zn ?_ fun _ => ?_) | (refine Zv ?_ ?_) | (refine Zu ?_) | (refine Zw fun _ => ?_))
noncomputable def Zf8 (p12 : (Arr 4)) : Option (Arr 4) :=
 some (p12)
theorem ZkE (p12 : (Arr 4)) : Le (Zf8 p12) (ZfZ p12) := by
 unfold Zf8 ZfZ
 try dsimp only
 repeat' (first | (with_reducible exact Le.refl _) | (refine Zn ?_ fun _ => ?_) | (refine Zv ?_ ?_) | (refine Zu ?_) | (refine Zw fun _ => ?_))
noncomputable def ZdW (p11 : Int) (p20 : (Arr 4)) : Option ((Int × (Arr 4)) ⊕ ((Arr 4))) :=
 some (.inl (IntKind.i64.wrap (p11 + 1), p20))
theorem ZkF (p11 : Int) (p20 : (Arr 4)) : Le (ZdW p11 p20) (ZdS p11 p20) := by
 unfold ZdW ZdS
 try dsimp only
 repeat' (first | (with_reducible exact Le.refl _) | (refine Zn ?_ fun _ => ?_) | (refine Zv ?_ ?_) | (refine Zu ?_) | (refine Zw fun _ => ?_))
noncomputable def Zf9 (a1 : Int) (a0 : (Arr 4)) : (Int × (Arr 4)) → Option ((Int × (Arr 4)) ⊕ ((Arr 4)))
 | (p11, p12) => (if IntKind.i64.wrap (p11 + a1) < 256 then (Zie a0 (IntKind.i64.wrap (p11 + a1))).bindF fun y17 => (if y17 = true then (inA (4) (IntKind.i64.wrap ((p11).tdiv 64))).bindF fun j21 => (chk (¬ ((p11).tmod 64 < 0))).bindF fun _ => ZdW p11 (p12.put j21 (bits .or .u64 (p12.at j21) (IntKind.u64.wrap (1 * (2 ^ (min ((p11).tmod 64).toNat 64)))))) else ZdW p11 p12) else (Zf8 p12).map Sum.inr)
theorem ZkG (a1 : Int) (a0 : (Arr 4)) (s) : Le (Zf9 a1 a0 s) (Zf0 a1 a0 s) := by
 obtain ⟨p11, p12⟩ := s
 unfold Zf9 Zf0
 try dsimp only
 repeat' (first | (with_reducible exact Le.refl _) | (with_reducible apply Zmo) | (with_reducible apply ZkF) | (with_reducible apply ZkE) | (refine Zn ?_ fun _ => ?_) | (refine Zv ?_ ?_) | (refine Zu ?_) | (refine Zw fun _ => ?_))
noncomputable def Zif (a0 : (Arr 4)) (a1 : Int) : Option ((Arr 4)) :=
 (if a1 ≤ 0 then some (a0) else (if 256 ≤ a1 then some (zA 4) else XH (Zf9 a1 a0) (0, zA 4)))
theorem Zmp (a0 : (Arr 4)) (a1 : Int) : Le (Zif a0 a1) (Zh8 a0 a1) := by
 unfold Zif Zh8
 try dsimp only
 repeat' (first | (with_reducible exact Le.refl _) | (with_reducible apply ZkG) | (refine Zn ?_ fun _ => ?_) | (refine Zv ?_ ?_) | (refine Zu ?_) | (refine Zw fun _ => ?_))
noncomputable def Fref05_Order : Option ((Arr 4)) :=
 (Fref05_Modulus).bindF fun y1 => (Zif y1 1).bindF fun y2 => some (y2)
theorem Fref05_Order_le : Le (Fref05_Order) (Lref05_Order) := by
 unfold Fref05_Order Lref05_Order
 try dsimp only
 repeat' (first | (with_reducible exact Le.refl _) | (with_reducible apply Fref05_Modulus_le) | (with_reducible apply Zmp) | (refine Zn ?_ fun _ => ?_) | (refine Zv ?_ ?_) | (refine Zu ?_) | (refine Zw fun _ => ?_))
noncomputable def ZfF (a0 : (List Int)) : Option ((List Int)) :=
 (ZdT (1, a0, 0, 0)).bindF fun y1 => some (y1)
theorem ZhC (a0 : (List Int)) : Le (ZfF a0) (Zap a0) := by
 unfold ZfF Zap
 try dsimp only
 repeat' (first | (with_reducible exact Le.refl _) | (with_reducible apply ZgS) | (refine Zn ?_ fun _ => ?_) | (refine Zv ?_ ?_) | (refine Zu ?_) | (refine Zw fun _ => ?_))
noncomputable def Zga (a0 : (Arr 4)) : Option ((List Int)) :=
 (Zgu a0).bindF fun y1 => (ZfF y1).bindF fun y2 => (ZcI [y2, [10]]).bindF fun y3 => some (y3)
theorem ZkH (a0 : (Arr 4)) : Le (Zga a0) (XD a0) := by
 unfold Zga XD
 try dsimp only
 repeat' (first | (with_reducible exact Le.refl _) | (with_reducible apply Ziv) | (with_reducible apply ZhC) | (with_reducible apply Zdx) | (refine Zn ?_ fun _ => ?_) | (refine Zv ?_ ?_) | (refine Zu ?_) | (refine Zw fun _ => ?_))
noncomputable def Zfj (p5 : (List Int)) : Option (List Int) :=
 some (p5)
theorem Zj4 (p5 : (List Int)) : Le (Zfj p5) (Zdt p5) := by
 unfold Zfj Zdt
 try dsimp only
 repeat' (first | (with_reducible exact Le.refl _) | (refine Zn ?_ fun _ => ?_) | (refine Zv ?_ ?_) | (refine Zu ?_) | (refine Zw fun _ => ?_))
noncomputable def Fref08_Item_s1 : (Int × (List Int)) → Option ((Int × (List Int)) ⊕ ((List Int)))
 | (p4, p5) => (if 0 < p4 then (chk (p5.length + 1 ≤ 140737488355328)).bindF fun _ => some (.inl (IntKind.u32.wrap ((p4).tdiv 256), p5 ++ [IntKind.u8.wrap (p4)])) else (Zfj p5).map Sum.inr)
theorem Zj5 (s) : Le (Fref08_Item_s1 s) (Lref08_Item_s1 s) := by
 obtain ⟨p4, p5⟩ := s
 unfold Fref08_Item_s1 Lref08_Item_s1
 try dsimp only
 repeat' (first | (with_reducible exact Le.refl _) | (with_reducible apply Zj4) | (refine Zn ?_ fun _ => ?_) | (refine Zv ?_ ?_) | (refine Zu ?_) | (refine Zw fun _ => ?_))
noncomputable def Zhp (a0 : Int) : Option ((List Int)) :=
 XH (Fref08_Item_s1) (a0, [])
theorem ZlA (a0 : Int) : Le (Zhp a0) (ZaX a0) := by
 unfold Zhp ZaX
 try dsimp only
 repeat' (first | (with_reducible exact Le.refl _) | (with_reducible apply Zj5) | (refine Zn ?_ fun _ => ?_) | (refine Zv ?_ ?_) | (refine Zu ?_) | (refine Zw fun _ => ?_))
noncomputable def ZgX (a0 : Int) (a1 : (List Int)) : Option ((List Int)) :=
 (Zhp a0).bindF fun y1 => (ZfF y1).bindF fun y2 => (ZcI [y2, [12, 3], a1]).bindF fun y3 => some (y3)
theorem Zlg (a0 : Int) (a1 : (List Int)) : Le (ZgX a0 a1) (X0 a0 a1) := by
 unfold ZgX X0
 try dsimp only
 repeat' (first | (with_reducible exact Le.refl _) | (with_reducible apply ZlA) | (with_reducible apply ZhC) | (with_reducible apply Zdx) | (refine Zn ?_ fun _ => ?_) | (refine Zv ?_ ?_) | (refine Zu ?_) | (refine Zw fun _ => ?_))
noncomputable def ZfG (a0 : Tapi_OutPoint) : Option (Bool) :=
 some ((decide (a0.1 = zA 32) && decide (a0.2 = 4294967295)))
theorem ZhD (a0 : Tapi_OutPoint) : Le (ZfG a0) (ZcH a0) := by
 unfold ZfG ZcH
 try dsimp only
 repeat' (first | (with_reducible exact Le.refl _) | (refine Zn ?_ fun _ => ?_) | (refine Zv ?_ ?_) | (refine Zu ?_) | (refine Zw fun _ => ?_))
noncomputable def ZcX (a0 : Tapi_Tx) : Option (Bool) :=
 ((if (a0.2.1.length : Int) = 1 then ((a0.2.1)[0]?).bindF fun x1 => (ZfG x1.1).bindF fun y2 => some (y2) else some (false))).bindF fun z3 => some ((decide ((a0.2.1.length : Int) = 1) && z3))
theorem ZfO (a0 : Tapi_Tx) : Le (ZcX a0) (ZbA a0) := by
 unfold ZcX ZbA
 try dsimp only
 repeat' (first | (with_reducible exact Le.refl _) | (with_reducible apply ZhD) | (refine Zn ?_ fun _ => ?_) | (refine Zv ?_ ?_) | (refine Zu ?_) | (refine Zw fun _ => ?_))
noncomputable def Zea (p9 : (List Int)) : Option (List Int) :=
 some (p9)
theorem ZiE (p9 : (List Int)) : Le (Zea p9) (Zch p9) := by
 unfold Zea Zch
 try dsimp only
 repeat' (first | (with_reducible exact Le.refl _) | (refine Zn ?_ fun _ => ?_) | (refine Zv ?_ ?_) | (refine Zu ?_) | (refine Zw fun _ => ?_))
noncomputable def Zeb (a1 : Int) (a0 : Int) : (Int × (List Int)) → Option ((Int × (List Int)) ⊕ ((List Int)))
 | (p8, p9) => (if p8 < ((List.replicate ((a1).toNat) 0).length : Int) then (chk (¬ (IntKind.i64.wrap (8 * p8) < 0))).bindF fun _ => (inA (p9.length) (p8)).bindF fun j13 => some (.inl (IntKind.i64.wrap (p8 + 1), (p9).set j13 (IntKind.u8.wrap ((a0).fdiv (2 ^ (min (IntKind.i64.wrap (8 * p8)).toNat 64)))))) else (Zea p9).map Sum.inr)
theorem ZiF (a1 : Int) (a0 : Int) (s) : Le (Zeb a1 a0 s) (Zaf a1 a0 s) := by
 obtain ⟨p8, p9⟩ := s
 unfold Zeb Zaf
 try dsimp only
 repeat' (first | (with_reducible exact Le.refl _) | (with_reducible apply ZiE) | (refine Zn ?_ fun _ => ?_) | (refine Zv ?_ ?_) | (refine Zu ?_) | (refine Zw fun _ => ?_))
noncomputable def Zab (a0 : Int) (a1 : Int) : Option ((List Int)) :=
 (chk (0 ≤ a1 ∧ a1 ≤ 140737488355328)).bindF fun _ => XH (Zeb a1 a0) (0, List.replicate ((a1).toNat) 0)
theorem Zec (a0 : Int) (a1 : Int) : Le (Zab a0 a1) (Yq a0 a1) := by
 unfold Zab Yq
 try dsimp only
 repeat' (first | (with_reducible exact Le.refl _) | (with_reducible apply ZiF) | (refine Zn ?_ fun _ => ?_) | (refine Zv ?_ ?_) | (refine Zu ?_) | (refine Zw fun _ => ?_))
noncomputable def X6 (a0 : (List Int)) (a1 : Int) : Option ((List Int)) :=
 (if a1 < 253 then (Zab a1 1).bindF fun y1 => (YD a0 y1).bindF fun y2 => some (y2) else (if a1 < 65536 then (Zab a1 2).bindF fun y3 => (YD [253] y3).bindF fun y4 => (YD a0 y4).bindF fun y5 => some (y5) else (if a1 < 4294967296 then (Zab a1 4).bindF fun y6 => (YD [254] y6).bindF fun y7 => (YD a0 y7).bindF fun y8 => some (y8) else (Zab a1 8).bindF fun y9 => (YD [255] y9).bindF fun y10 => (YD a0 y10).bindF fun y11 => some (y11))))
theorem ZaU (a0 : (List Int)) (a1 : Int) : Le (X6 a0 a1) (Y1 a0 a1) := by
 unfold X6 Y1
 try dsimp only
 repeat' (first | (with_reducible exact Le.refl _) | (with_reducible apply Zec) | (with_reducible apply Zak) | (refine Zn ?_ fun _ => ?_) | (refine Zv ?_ ?_) | (refine Zu ?_) | (refine Zw fun _ => ?_))
noncomputable def ZbK (a0 : (List Int)) (a1 : (List Int)) : Option ((List Int)) :=
 (X6 a0 (IntKind.u64.wrap ((a1.length : Int)))).bindF fun y1 => (YD y1 a1).bindF fun y2 => some (y2)
theorem Zeu (a0 : (List Int)) (a1 : (List Int)) : Le (ZbK a0 a1) (XJ a0 a1) := by
 unfold ZbK XJ
 try dsimp only
 repeat' (first | (with_reducible exact Le.refl _) | (with_reducible apply ZaU) | (with_reducible apply Zak) | (refine Zn ?_ fun _ => ?_) | (refine Zv ?_ ?_) | (refine Zu ?_) | (refine Zw fun _ => ?_))
noncomputable def Zal (a0 : (List Int)) (a1 : Int) : Option ((List Int)) :=
 (Zab (IntKind.u64.wrap (a1)) 4).bindF fun y1 => (YD a0 y1).bindF fun y2 => some (y2)
theorem Zbh (a0 : (List Int)) (a1 : Int) : Le (Zal a0 a1) (Xf a0 a1) := by
 unfold Zal Xf
 try dsimp only
 repeat' (first | (with_reducible exact Le.refl _) | (with_reducible apply Zec) | (with_reducible apply Zak) | (refine Zn ?_ fun _ => ?_) | (refine Zv ?_ ?_) | (refine Zu ?_) | (refine Zw fun _ => ?_))
noncomputable def Zed (a0 : (List Int)) (a1 : Int) : Option ((List Int)) :=
 (Zab a1 8).bindF fun y1 => (YD a0 y1).bindF fun y2 => some (y2)
theorem ZiG (a0 : (List Int)) (a1 : Int) : Le (Zed a0 a1) (Za5 a0 a1) := by
 unfold Zed Za5
 try dsimp only
 repeat' (first | (with_reducible exact Le.refl _) | (with_reducible apply Zec) | (with_reducible apply Zak) | (refine Zn ?_ fun _ => ?_) | (refine Zv ?_ ?_) | (refine Zu ?_) | (refine Zw fun _ => ?_))
noncomputable def Zig (a0 : Tapi_Output) : Option ((List Int)) :=
 (Zed ([] : (List Int)) (IntKind.u64.wrap (a0.1))).bindF fun y1 => (ZbK y1 a0.2).bindF fun y2 => some (y2)
theorem Zmq (a0 : Tapi_Output) : Le (Zig a0) (ZeF a0) := by
 unfold Zig ZeF
 try dsimp only
 repeat' (first | (with_reducible exact Le.refl _) | (with_reducible apply ZiG) | (with_reducible apply Zeu) | (refine Zn ?_ fun _ => ?_) | (refine Zv ?_ ?_) | (refine Zu ?_) | (refine Zw fun _ => ?_))
noncomputable def ZdB (a0 : (List Int)) (a1 : (Arr 32)) : Option ((List Int)) :=
 (YD a0 a1.l).bindF fun y1 => some (y1)
theorem Zih (a0 : (List Int)) (a1 : (Arr 32)) : Le (ZdB a0 a1) (ZaJ a0 a1) := by
 unfold ZdB ZaJ
 try dsimp only
 repeat' (first | (with_reducible exact Le.refl _) | (with_reducible apply Zak) | (refine Zn ?_ fun _ => ?_) | (refine Zv ?_ ?_) | (refine Zu ?_) | (refine Zw fun _ => ?_))
noncomputable def ZgY (a0 : Tapi_OutPoint) : Option ((List Int)) :=
 (ZdB ([] : (List Int)) a0.1).bindF fun y1 => (Zal y1 a0.2).bindF fun y2 => some (y2)
theorem Zlh (a0 : Tapi_OutPoint) : Le (ZgY a0) (Zc4 a0) := by
 unfold ZgY Zc4
 try dsimp only
 repeat' (first | (with_reducible exact Le.refl _) | (with_reducible apply Zih) | (with_reducible apply Zbh) | (refine Zn ?_ fun _ => ?_) | (refine Zv ?_ ?_) | (refine Zu ?_) | (refine Zw fun _ => ?_))
noncomputable def Zcq (p61 : (List Int)) : Option (List Int) :=
 some (p61)
theorem ZiH (p61 : (List Int)) : Le (Zcq p61) (XF p61) := by
 unfold Zcq XF
 try dsimp only
 repeat' (first | (with_reducible exact Le.refl _) | (refine Zn ?_ fun _ => ?_) | (refine Zv ?_ ?_) | (refine Zu ?_) | (refine Zw fun _ => ?_))
noncomputable def Zee (p60 : Int) (p83 : (List Int)) : Option ((Int × (List Int)) ⊕ ((List Int))) :=
 some (.inl (IntKind.i64.wrap (p60 + 1), p83))
theorem ZiI (p60 : Int) (p83 : (List Int)) : Le (Zee p60 p83) (Zci p60 p83) := by
 unfold Zee Zci
 try dsimp only
 repeat' (first | (with_reducible exact Le.refl _) | (refine Zn ?_ fun _ => ?_) | (refine Zv ?_ ?_) | (refine Zu ?_) | (refine Zw fun _ => ?_))
noncomputable def Zef (x74 : Tapi_Input) (p60 : Int) : (Int × (List Int)) → Option ((Int × (List Int)) ⊕ ((Int × (List Int)) ⊕ ((List Int))))
 | (p82, p83) => (if p82 < (x74.2.2.length : Int) then (idx (x74.2.2) (p82)).bindF fun x86 => (ZbK p83 x86).bindF fun y87 => some (.inl (IntKind.i64.wrap (p82 + 1), y87)) else (Zee p60 p83).map Sum.inr)
theorem ZiJ (x74 : Tapi_Input) (p60 : Int) (s) : Le (Zef x74 p60 s) (XG x74 p60 s) := by
 obtain ⟨p82, p83⟩ := s
 unfold Zef XG
 try dsimp only
 repeat' (first | (with_reducible exact Le.refl _) | (with_reducible apply Zeu) | (with_reducible apply ZiI) | (refine Zn ?_ fun _ => ?_) | (refine Zv ?_ ?_) | (refine Zu ?_) | (refine Zw fun _ => ?_))
noncomputable def Zeg (a0 : Tapi_Tx) (a1 : Bool) : (Int × (List Int)) → Option ((Int × (List Int)) ⊕ ((List Int)))
 | (p60, p61) => (if p60 < (a0.2.1.length : Int) then (idx (a0.2.1) (p60)).bindF fun x74 => (if ¬ (a1 = true) then (Zcq p61).map Sum.inr else (X6 p61 (IntKind.u64.wrap ((x74.2.2.length : Int)))).bindF fun y75 => XH (Zef x74 p60) (0, y75)) else (Zcq p61).map Sum.inr)
theorem ZiK (a0 : Tapi_Tx) (a1 : Bool) (s) : Le (Zeg a0 a1 s) (Xg a0 a1 s) := by
 obtain ⟨p60, p61⟩ := s
 unfold Zeg Xg
 try dsimp only
 repeat' (first | (with_reducible exact Le.refl _) | (with_reducible apply ZiH) | (with_reducible apply ZaU) | (with_reducible apply ZiJ) | (refine Zn ?_ fun _ => ?_) | (refine Zv ?_ ?_) | (refine Zu ?_) | (refine Zw fun _ => ?_))
noncomputable def Zeh (p29 : (List Int)) (a0 : Tapi_Tx) (a1 : Bool) : Option (List Int) :=
 (Zal p29 a0.2.2.2).bindF fun y33 => XH (Zeg a0 a1) (0, y33)
theorem ZiL (p29 : (List Int)) (a0 : Tapi_Tx) (a1 : Bool) : Le (Zeh p29 a0 a1) (Za6 p29 a0 a1) := by
 unfold Zeh Za6
 try dsimp only
 repeat' (first | (with_reducible exact Le.refl _) | (with_reducible apply Zbh) | (with_reducible apply ZiK) | (refine Zn ?_ fun _ => ?_) | (refine Zv ?_ ?_) | (refine Zu ?_) | (refine Zw fun _ => ?_))
noncomputable def Zei (a0 : Tapi_Tx) (a1 : Bool) : (Int × (List Int)) → Option ((Int × (List Int)) ⊕ ((List Int)))
 | (p28, p29) => (if p28 < (a0.2.2.1.length : Int) then (idx (a0.2.2.1) (p28)).bindF fun x88 => (Zig x88).bindF fun y89 => (chk (p29.length + y89.length ≤ 140737488355328)).bindF fun _ => some (.inl (IntKind.i64.wrap (p28 + 1), p29 ++ y89)) else (Zeh p29 a0 a1).map Sum.inr)
theorem ZiM (a0 : Tapi_Tx) (a1 : Bool) (s) : Le (Zei a0 a1 s) (Zag a0 a1 s) := by
 obtain ⟨p28, p29⟩ := s
 unfold Zei Zag
 try dsimp only
 repeat' (first | (with_reducible exact Le.refl _) | (with_reducible apply Zmq) | (with_reducible apply ZiL) | (refine Zn ?_ fun _ => ?_) | (refine Zv ?_ ?_) | (refine Zu ?_) | (refine Zw fun _ => ?_))
noncomputable def Zej (p14 : (List Int)) (a0 : Tapi_Tx) (a1 : Bool) : Option (List Int) :=
 (X6 p14 (IntKind.u64.wrap ((a0.2.2.1.length : Int)))).bindF fun y19 => XH (Zei a0 a1) (0, y19)
theorem ZiN (p14 : (List Int)) (a0 : Tapi_Tx) (a1 : Bool) : Le (Zej p14 a0 a1) (Za7 p14 a0 a1) := by
 unfold Zej Za7
 try dsimp only
 repeat' (first | (with_reducible exact Le.refl _) | (with_reducible apply ZaU) | (with_reducible apply ZiM) | (refine Zn ?_ fun _ => ?_) | (refine Zv ?_ ?_) | (refine Zu ?_) | (refine Zw fun _ => ?_))
noncomputable def Zek (a0 : Tapi_Tx) (a1 : Bool) : (Int × (List Int)) → Option ((Int × (List Int)) ⊕ ((List Int)))
 | (p13, p14) => (if p13 < (a0.2.1.length : Int) then (idx (a0.2.1) (p13)).bindF fun x91 => (ZgY x91.1).bindF fun y92 => (chk (p14.length + y92.length ≤ 140737488355328)).bindF fun _ => (Zal (p14 ++ y92) x91.2.1).bindF fun y94 => some (.inl (IntKind.i64.wrap (p13 + 1), y94)) else (Zej p14 a0 a1).map Sum.inr)
theorem ZiO (a0 : Tapi_Tx) (a1 : Bool) (s) : Le (Zek a0 a1 s) (Zah a0 a1 s) := by
 obtain ⟨p13, p14⟩ := s
 unfold Zek Zah
 try dsimp only
 repeat' (first | (with_reducible exact Le.refl _) | (with_reducible apply Zlh) | (with_reducible apply Zbh) | (with_reducible apply ZiN) | (refine Zn ?_ fun _ => ?_) | (refine Zv ?_ ?_) | (refine Zu ?_) | (refine Zw fun _ => ?_))
noncomputable def Zgb (a0 : Tapi_Tx) (a1 : Bool) : Option ((List Int)) :=
 (Zal ([] : (List Int)) a0.1).bindF fun y1 => (X6 y1 (IntKind.u64.wrap ((a0.2.1.length : Int)))).bindF fun y2 => XH (Zek a0 a1) (0, y2)
theorem ZkI (a0 : Tapi_Tx) (a1 : Bool) : Le (Zgb a0 a1) (Zcw a0 a1) := by
 unfold Zgb Zcw
 try dsimp only
 repeat' (first | (with_reducible exact Le.refl _) | (with_reducible apply Zbh) | (with_reducible apply ZaU) | (with_reducible apply ZiO) | (refine Zn ?_ fun _ => ?_) | (refine Zv ?_ ?_) | (refine Zu ?_) | (refine Zw fun _ => ?_))
noncomputable def Zfk (a0 : Tapi_Tx) : Option Bool :=
 (Zgb a0 true).bindF fun y26 => some (decide ((y26.length : Int) ≤ 20000))
theorem Zj6 (a0 : Tapi_Tx) : Le (Zfk a0) (ZbX a0) := by
 unfold Zfk ZbX
 try dsimp only
 repeat' (first | (with_reducible exact Le.refl _) | (with_reducible apply ZkI) | (refine Zn ?_ fun _ => ?_) | (refine Zv ?_ ?_) | (refine Zu ?_) | (refine Zw fun _ => ?_))
noncomputable def Zfl (p19 : Int) : Option ((Int) ⊕ (Bool)) :=
 some (.inl (IntKind.i64.wrap (p19 + 1)))
theorem Zj7 (p19 : Int) : Le (Zfl p19) (Zdo p19) := by
 unfold Zfl Zdo
 try dsimp only
 repeat' (first | (with_reducible exact Le.refl _) | (refine Zn ?_ fun _ => ?_) | (refine Zv ?_ ?_) | (refine Zu ?_) | (refine Zw fun _ => ?_))
noncomputable def Zfm (x27 : Tapi_Input) (p19 : Int) : Int → Option ((Int) ⊕ ((Int) ⊕ (Bool)))
 | p31 => (if p31 < (x27.2.2.length : Int) then (idx (x27.2.2) (p31)).bindF fun x33 => (if 520 < (x33.length : Int) then some (.inr (.inr (false))) else some (.inl (IntKind.i64.wrap (p31 + 1)))) else (Zfl p19).map Sum.inr)
theorem Zj8 (x27 : Tapi_Input) (p19 : Int) (s) : Le (Zfm x27 p19 s) (XK x27 p19 s) := by
 unfold Zfm XK
 try dsimp only
 repeat' (first | (with_reducible exact Le.refl _) | (with_reducible apply Zj7) | (refine Zn ?_ fun _ => ?_) | (refine Zv ?_ ?_) | (refine Zu ?_) | (refine Zw fun _ => ?_))
noncomputable def Zfn (a0 : Tapi_Tx) : Int → Option ((Int) ⊕ (Bool))
 | p19 => (if p19 < (a0.2.1.length : Int) then (idx (a0.2.1) (p19)).bindF fun x27 => (if 32 < (x27.2.2.length : Int) then some (.inr (false)) else XH (Zfm x27 p19) 0) else (Zfk a0).map Sum.inr)
theorem Zj9 (a0 : Tapi_Tx) (s) : Le (Zfn a0 s) (Zai a0 s) := by
 unfold Zfn Zai
 try dsimp only
 repeat' (first | (with_reducible exact Le.refl _) | (with_reducible apply Zj8) | (with_reducible apply Zj6) | (refine Zn ?_ fun _ => ?_) | (refine Zv ?_ ?_) | (refine Zu ?_) | (refine Zw fun _ => ?_))
noncomputable def Zfo (a0 : Tapi_Tx) : Option Bool :=
 XH (Zfn a0) 0
theorem Zka (a0 : Tapi_Tx) : Le (Zfo a0) (ZbY a0) := by
 unfold Zfo ZbY
 try dsimp only
 repeat' (first | (with_reducible exact Le.refl _) | (with_reducible apply Zj9) | (refine Zn ?_ fun _ => ?_) | (refine Zv ?_ ?_) | (refine Zu ?_) | (refine Zw fun _ => ?_))
noncomputable def Zfp (a0 : Tapi_Tx) : Int → Option ((Int) ⊕ (Bool))
 | p4 => (if p4 < (a0.2.2.1.length : Int) then (idx (a0.2.2.1) (p4)).bindF fun x34 => (if (x34.1 < 0 ∨ 520 < (x34.2.length : Int)) then some (.inr (false)) else some (.inl (IntKind.i64.wrap (p4 + 1)))) else (Zfo a0).map Sum.inr)
theorem Zkb (a0 : Tapi_Tx) (s) : Le (Zfp a0 s) (Zaj a0 s) := by
 unfold Zfp Zaj
 try dsimp only
 repeat' (first | (with_reducible exact Le.refl _) | (with_reducible apply Zka) | (refine Zn ?_ fun _ => ?_) | (refine Zv ?_ ?_) | (refine Zu ?_) | (refine Zw fun _ => ?_))
noncomputable def Zhq (a0 : Tapi_Tx) : Option (Bool) :=
 (if (64 < (a0.2.1.length : Int) ∨ 64 < (a0.2.2.1.length : Int)) then some (false) else XH (Zfp a0) 0)
theorem ZlB (a0 : Tapi_Tx) : Le (Zhq a0) (ZdI a0) := by
 unfold Zhq ZdI
 try dsimp only
 repeat' (first | (with_reducible exact Le.refl _) | (with_reducible apply Zkb) | (refine Zn ?_ fun _ => ?_) | (refine Zv ?_ ?_) | (refine Zu ?_) | (refine Zw fun _ => ?_))
noncomputable def Fref09_Check_k3 : Option Int :=
 some (0)
theorem Fref09_Check_k3_le : Le (Fref09_Check_k3) (Lref09_Check_k3) := by
 unfold Fref09_Check_k3 Lref09_Check_k3
 try dsimp only
 repeat' (first | (with_reducible exact Le.refl _) | (refine Zn ?_ fun _ => ?_) | (refine Zv ?_ ?_) | (refine Zu ?_) | (refine Zw fun _ => ?_))
noncomputable def ZeT (a0 : Tapi_Tx) : Int → Option ((Int) ⊕ (Int))
 | p43 => (if p43 < (a0.2.1.length : Int) then (idx (a0.2.1) (p43)).bindF fun x48 => (ZfG x48.1).bindF fun y49 => ((if y49 = true then (ZcX a0).bindF fun y50 => some (!(y50)) else some (false))).bindF fun z51 => (if (y49 = true ∧ z51 = true) then some (.inr (92)) else some (.inl (IntKind.i64.wrap (p43 + 1)))) else (Fref09_Check_k3).map Sum.inr)
theorem Zjm (a0 : Tapi_Tx) (s) : Le (ZeT a0 s) (XV a0 s) := by
 unfold ZeT XV
 try dsimp only
 repeat' (first | (with_reducible exact Le.refl _) | (with_reducible apply ZhD) | (with_reducible apply ZfO) | (with_reducible apply Fref09_Check_k3_le) | (refine Zn ?_ fun _ => ?_) | (refine Zv ?_ ?_) | (refine Zu ?_) | (refine Zw fun _ => ?_))
noncomputable def ZeU (a0 : Tapi_Tx) : Option Int :=
 XH (ZeT a0) 0
theorem Zjn (a0 : Tapi_Tx) : Le (ZeU a0) (ZbB a0) := by
 unfold ZeU ZbB
 try dsimp only
 repeat' (first | (with_reducible exact Le.refl _) | (with_reducible apply Zjm) | (refine Zn ?_ fun _ => ?_) | (refine Zv ?_ ?_) | (refine Zu ?_) | (refine Zw fun _ => ?_))
noncomputable def ZeV (p25 : Int) : Option ((Int) ⊕ (Int)) :=
 some (.inl (IntKind.i64.wrap (p25 + 1)))
theorem Zjo (p25 : Int) : Le (ZeV p25) (ZcO p25) := by
 unfold ZeV ZcO
 try dsimp only
 repeat' (first | (with_reducible exact Le.refl _) | (refine Zn ?_ fun _ => ?_) | (refine Zv ?_ ?_) | (refine Zu ?_) | (refine Zw fun _ => ?_))
noncomputable def ZeW (p25 : Int) (a0 : Tapi_Tx) : Int → Option ((Int) ⊕ ((Int) ⊕ (Int)))
 | p57 => (if p57 < p25 then (idx (a0.2.1) (p25)).bindF fun x60 => (idx (a0.2.1) (p57)).bindF fun x61 => (if (x60.1.1 = x61.1.1 ∧ x60.1.2 = x61.1.2) then some (.inr (.inr (91))) else some (.inl (IntKind.i64.wrap (p57 + 1)))) else (ZeV p25).map Sum.inr)
theorem Zjp (p25 : Int) (a0 : Tapi_Tx) (s) : Le (ZeW p25 a0 s) (Xs p25 a0 s) := by
 unfold ZeW Xs
 try dsimp only
 repeat' (first | (with_reducible exact Le.refl _) | (with_reducible apply Zjo) | (refine Zn ?_ fun _ => ?_) | (refine Zv ?_ ?_) | (refine Zu ?_) | (refine Zw fun _ => ?_))
noncomputable def ZeX (a0 : Tapi_Tx) : Int → Option ((Int) ⊕ (Int))
 | p25 => (if p25 < (a0.2.1.length : Int) then XH (ZeW p25 a0) 0 else (ZeU a0).map Sum.inr)
theorem Zjq (a0 : Tapi_Tx) (s) : Le (ZeX a0 s) (XW a0 s) := by
 unfold ZeX XW
 try dsimp only
 repeat' (first | (with_reducible exact Le.refl _) | (with_reducible apply Zjp) | (with_reducible apply Zjn) | (refine Zn ?_ fun _ => ?_) | (refine Zv ?_ ?_) | (refine Zu ?_) | (refine Zw fun _ => ?_))
noncomputable def ZeY (p6 : Int) (a0 : Tapi_Tx) : Option Int :=
 (if 2100000000000000 < p6 then some (90) else XH (ZeX a0) 0)
theorem Zjr (p6 : Int) (a0 : Tapi_Tx) : Le (ZeY p6 a0) (ZaC p6 a0) := by
 unfold ZeY ZaC
 try dsimp only
 repeat' (first | (with_reducible exact Le.refl _) | (with_reducible apply Zjq) | (refine Zn ?_ fun _ => ?_) | (refine Zv ?_ ?_) | (refine Zu ?_) | (refine Zw fun _ => ?_))
noncomputable def ZeZ (a0 : Tapi_Tx) : (Int × Int) → Option ((Int × Int) ⊕ (Int))
 | (p6, p7) => (if p7 < (a0.2.2.1.length : Int) then (idx (a0.2.2.1) (p7)).bindF fun x62 => (if 2100000000000000 < x62.1 then some (.inr (90)) else some (.inl (IntKind.i64.wrap (p6 + x62.1), IntKind.i64.wrap (p7 + 1)))) else (ZeY p6 a0).map Sum.inr)
theorem Zjs (a0 : Tapi_Tx) (s) : Le (ZeZ a0 s) (XX a0 s) := by
 obtain ⟨p6, p7⟩ := s
 unfold ZeZ XX
 try dsimp only
 repeat' (first | (with_reducible exact Le.refl _) | (with_reducible apply Zjr) | (refine Zn ?_ fun _ => ?_) | (refine Zv ?_ ?_) | (refine Zu ?_) | (refine Zw fun _ => ?_))
noncomputable def Ze0 (a0 : Tapi_Tx) : Option (Int) :=
 (Zhq a0).bindF fun y1 => (if ¬ (y1 = true) then some (4) else (if ((a0.2.1.length : Int) = 0 ∨ (a0.2.2.1.length : Int) = 0) then some (93) else XH (ZeZ a0) (0, 0)))
theorem Zg9 (a0 : Tapi_Tx) : Le (Ze0 a0) (Zb1 a0) := by
 unfold Ze0 Zb1
 try dsimp only
 repeat' (first | (with_reducible exact Le.refl _) | (with_reducible apply ZlB) | (with_reducible apply Zjs) | (refine Zn ?_ fun _ => ?_) | (refine Zv ?_ ?_) | (refine Zu ?_) | (refine Zw fun _ => ?_))
noncomputable def Zgc (p21 : Int) : Option (Int × Int) :=
 (if p21 < 0 then some ((0, 100)) else some ((p21, 0)))
theorem ZkJ (p21 : Int) : Le (Zgc p21) (Zbn p21) := by
 unfold Zgc Zbn
 try dsimp only
 repeat' (first | (with_reducible exact Le.refl _) | (refine Zn ?_ fun _ => ?_) | (refine Zv ?_ ?_) | (refine Zu ?_) | (refine Zw fun _ => ?_))
noncomputable def Zgd (a0 : Tapi_Tx) : (Int × Int) → Option ((Int × Int) ⊕ (Int × Int))
 | (p21, p22) => (if p22 < (a0.2.2.1.length : Int) then (idx (a0.2.2.1) (p22)).bindF fun x24 => some (.inl (IntKind.i64.wrap (p21 - x24.1), IntKind.i64.wrap (p22 + 1))) else (Zgc p21).map Sum.inr)
theorem ZkK (a0 : Tapi_Tx) (s) : Le (Zgd a0 s) (Xk a0 s) := by
 obtain ⟨p21, p22⟩ := s
 unfold Zgd Xk
 try dsimp only
 repeat' (first | (with_reducible exact Le.refl _) | (with_reducible apply ZkJ) | (refine Zn ?_ fun _ => ?_) | (refine Zv ?_ ?_) | (refine Zu ?_) | (refine Zw fun _ => ?_))
noncomputable def Zge (p14 : Int) (a0 : Tapi_Tx) : Option (Int × Int) :=
 (if 2100000000000000 < p14 then some ((0, 90)) else XH (Zgd a0) (p14, 0))
theorem ZkL (p14 : Int) (a0 : Tapi_Tx) : Le (Zge p14 a0) (Zcx p14 a0) := by
 unfold Zge Zcx
 try dsimp only
 repeat' (first | (with_reducible exact Le.refl _) | (with_reducible apply ZkK) | (refine Zn ?_ fun _ => ?_) | (refine Zv ?_ ?_) | (refine Zu ?_) | (refine Zw fun _ => ?_))
noncomputable def Zgf (a1 : (List Tapi_Coin)) (a0 : Tapi_Tx) : (Int × Int) → Option ((Int × Int) ⊕ (Int × Int))
 | (p14, p15) => (if p15 < (a1.length : Int) then (idx (a1) (p15)).bindF fun x25 => (if (x25.2.1.1 < 0 ∨ 2100000000000000 < x25.2.1.1) then some (.inr ((0, 90))) else some (.inl (IntKind.i64.wrap (p14 + x25.2.1.1), IntKind.i64.wrap (p15 + 1)))) else (Zge p14 a0).map Sum.inr)
theorem ZkM (a1 : (List Tapi_Coin)) (a0 : Tapi_Tx) (s) : Le (Zgf a1 a0 s) (ZaF a1 a0 s) := by
 obtain ⟨p14, p15⟩ := s
 unfold Zgf ZaF
 try dsimp only
 repeat' (first | (with_reducible exact Le.refl _) | (with_reducible apply ZkL) | (refine Zn ?_ fun _ => ?_) | (refine Zv ?_ ?_) | (refine Zu ?_) | (refine Zw fun _ => ?_))
noncomputable def Zgg (a1 : (List Tapi_Coin)) (a0 : Tapi_Tx) : Option (Int × Int) :=
 XH (Zgf a1 a0) (0, 0)
theorem ZkN (a1 : (List Tapi_Coin)) (a0 : Tapi_Tx) : Le (Zgg a1 a0) (Zbo a1 a0) := by
 unfold Zgg Zbo
 try dsimp only
 repeat' (first | (with_reducible exact Le.refl _) | (with_reducible apply ZkM) | (refine Zn ?_ fun _ => ?_) | (refine Zv ?_ ?_) | (refine Zu ?_) | (refine Zw fun _ => ?_))
noncomputable def Zgh (a1 : (List Tapi_Coin)) (a0 : Tapi_Tx) : Int → Option ((Int) ⊕ (Int × Int))
 | p7 => (if p7 < (a1.length : Int) then (idx (a1) (p7)).bindF fun x26 => (idx (a0.2.1) (p7)).bindF fun x27 => (if ¬ ((x26.1.1 = x27.1.1 ∧ x26.1.2 = x27.1.2)) then some (.inr ((0, 101))) else some (.inl (IntKind.i64.wrap (p7 + 1)))) else (Zgg a1 a0).map Sum.inr)
theorem ZkO (a1 : (List Tapi_Coin)) (a0 : Tapi_Tx) (s) : Le (Zgh a1 a0 s) (ZaG a1 a0 s) := by
 unfold Zgh ZaG
 try dsimp only
 repeat' (first | (with_reducible exact Le.refl _) | (with_reducible apply ZkN) | (refine Zn ?_ fun _ => ?_) | (refine Zv ?_ ?_) | (refine Zu ?_) | (refine Zw fun _ => ?_))
noncomputable def Zii (a0 : Tapi_Tx) (a1 : (List Tapi_Coin)) : Option (Int × Int) :=
 (Ze0 a0).bindF fun y1 => (if ¬ (y1 = 0) then some ((0, y1)) else (if ¬ ((a1.length : Int) = (a0.2.1.length : Int)) then some ((0, 8)) else XH (Zgh a1 a0) 0))
theorem Zmr (a0 : Tapi_Tx) (a1 : (List Tapi_Coin)) : Le (Zii a0 a1) (ZeG a0 a1) := by
 unfold Zii ZeG
 try dsimp only
 repeat' (first | (with_reducible exact Le.refl _) | (with_reducible apply Zg9) | (with_reducible apply ZkO) | (refine Zn ?_ fun _ => ?_) | (refine Zv ?_ ?_) | (refine Zu ?_) | (refine Zw fun _ => ?_))
noncomputable def Zjt (a0 : Int) (a1 : Int) (a2 : Int) : Option (Bool) :=
 some ((decide (a1 ≤ a0) && decide (a0 ≤ a2)))
theorem Zm9 (a0 : Int) (a1 : Int) (a2 : Int) : Le (Zjt a0 a1 a2) (Zg7 a0 a1 a2) := by
 unfold Zjt Zg7
 try dsimp only
 repeat' (first | (with_reducible exact Le.refl _) | (refine Zn ?_ fun _ => ?_) | (refine Zv ?_ ?_) | (refine Zu ?_) | (refine Zw fun _ => ?_))
noncomputable def Ze1 (a0 : Tapi_Plan) : Option Bool :=
 (Zii a0.1 a0.2.1).bindF fun y11 => some ((decide (y11.2 = 0) && decide (y11.1 = a0.2.2.1)))
theorem Zju (a0 : Tapi_Plan) : Le (Ze1 a0) (ZcP a0) := by
 unfold Ze1 ZcP
 try dsimp only
 repeat' (first | (with_reducible exact Le.refl _) | (with_reducible apply Zmr) | (refine Zn ?_ fun _ => ?_) | (refine Zv ?_ ?_) | (refine Zu ?_) | (refine Zw fun _ => ?_))
noncomputable def Ze2 (a0 : Tapi_Plan) : Int → Option ((Int) ⊕ (Bool))
 | p9 => (if p9 < (a0.1.2.1.length : Int) then (idx (a0.1.2.1) (p9)).bindF fun x12 => (if 0 < (x12.2.2.length : Int) then some (.inr (false)) else some (.inl (IntKind.i64.wrap (p9 + 1)))) else (Ze1 a0).map Sum.inr)
theorem Zjv (a0 : Tapi_Plan) (s) : Le (Ze2 a0 s) (XY a0 s) := by
 unfold Ze2 XY
 try dsimp only
 repeat' (first | (with_reducible exact Le.refl _) | (with_reducible apply Zju) | (refine Zn ?_ fun _ => ?_) | (refine Zv ?_ ?_) | (refine Zu ?_) | (refine Zw fun _ => ?_))
noncomputable def ZgZ (a0 : Tapi_Plan) : Option (Bool) :=
 (Ze0 a0.1).bindF fun y1 => ((if ¬ (y1 = 0) then some (false) else (ZcX a0.1).bindF fun y2 => some (y2))).bindF fun z3 => ((if (¬ (y1 = 0) ∨ z3 = true) then some (false) else (Zjt a0.2.2.2 (-1) (IntKind.i64.wrap ((a0.1.2.2.1.length : Int) - 1))).bindF fun y4 => some (!(y4)))).bindF fun z5 => (if ((¬ (y1 = 0) ∨ z3 = true) ∨ z5 = true) then some (false) else XH (Ze2 a0) 0)
theorem Zli (a0 : Tapi_Plan) : Le (ZgZ a0) (Zb2 a0) := by
 unfold ZgZ Zb2
 try dsimp only
 repeat' (first | (with_reducible exact Le.refl _) | (with_reducible apply Zg9) | (with_reducible apply ZfO) | (with_reducible apply Zm9) | (with_reducible apply Zjv) | (refine Zn ?_ fun _ => ?_) | (refine Zv ?_ ?_) | (refine Zu ?_) | (refine Zw fun _ => ?_))
theorem order_val : Fref05_Order = some ((((zA 4).put 0 18446744073709533559).put 1 18446744073709551615).put 2 18446744073709551615 |>.put 3 9223372036854775807) := by kernel_rfl
theorem sane35F : Flaw35_sane = some true := by kernel_rfl
theorem sane35 : Llaw35_sane = some true := Flaw35_sane_le _ sane35F
theorem zero_val : ZgZ ((0, [], [], 0), [], 0, 0) = some false := by kernel_rfl
def key4 : Arr 4 := (zA 4).put 0 4
def key16 : Arr 4 := (zA 4).put 0 16
theorem scripts_val : ((ZeQ 2 [key4, key16, key4]).bindF fun y => (ZgX 1 y.1).map fun q => decide (q.length ≤ 1000)) = some true := by kernel_rfl
theorem single_val : ((Zga key16).map fun q => decide (q.length ≤ 1000)) = some true := by kernel_rfl
end Go.Lc
end
section
namespace Go.Lc
open Go.RowKit
open Go.Av
set_option linter.unusedVariables false
theorem Zl0 (bad : Nat → Prop) : ∀ n, (∃ i, i < n ∧ bad i) → ∃ m, m < n ∧ bad m ∧ ∀ j, j < m → ¬ bad j := by
 classical
 intro n
 induction n with
 | zero => rintro ⟨i, h, _⟩; omega
 | succ n ih =>
  intro h
  by_cases hx : ∃ i, i < n ∧ bad i
  ·obtain ⟨m, h1, h2, h3⟩ := ih hx
   exact ⟨m, by omega, h2, h3⟩
  ·obtain ⟨i, hi, hb⟩ := h
   have : i = n := by
    rcases Nat.lt_or_ge i n with h' | h'
    ·exact absurd ⟨i, h', hb⟩ hx
    ·omega
   subst this
   exact ⟨i, by omega, hb, fun j hj hb => hx ⟨j, hj, hb⟩⟩
theorem Zna {σ ρ : Type} {step : σ → Option (σ ⊕ ρ)} (enc : Nat → σ) (n : Nat) (bad : Nat → Prop) (rb x : Option ρ) (h : ∀ i, i < n → ¬ bad i → step (enc i) = some (.inl (enc (i + 1)))) (hb : ∀ i, i < n → bad i → step (enc i) = rb.map .inr) (he : step (enc n) = x.map .inr) : Zs step (enc 0) = (by classical exact if ∃ i, i < n ∧ bad i then rb else x) := by
 classical
 by_cases hx : ∃ i, i < n ∧ bad i
 ·rw [if_pos hx]
  obtain ⟨m, hm, hbm, hmin⟩ := Zl0 bad n hx
  exact Yt enc m (fun i hi => h i (by omega) (hmin i hi)) (hb m hm hbm)
 ·rw [if_neg hx]
  exact Yt enc n (fun i hi => h i hi fun hbi => hx ⟨i, hi, hbi⟩) he
theorem ZpH {σ ρ α : Type} {step : σ → Option (σ ⊕ ρ)} (enc : Nat → σ) (l : List α) (bad : α → Prop) (rb x : Option ρ) (h : ∀ i (hi : i < l.length), ¬ bad l[i] → step (enc i) = some (.inl (enc (i + 1)))) (hb : ∀ i (hi : i < l.length), bad l[i] → step (enc i) = rb.map .inr) (he : step (enc l.length) = x.map .inr) : Zs step (enc 0) = (by classical exact if ∃ a ∈ l, bad a then rb else x) := by
 classical
 rw [Zna enc l.length (fun i => ∃ hi : i < l.length, bad l[i]) rb x (fun i hi hn => h i hi fun hb => hn ⟨hi, hb⟩) (fun i hi ⟨_, hbi⟩ => hb i hi hbi) he]
 have : (∃ i, i < l.length ∧ ∃ hi : i < l.length, bad l[i]) ↔ ∃ a ∈ l, bad a := by
  constructor
  ·rintro ⟨i, _, hi, hb⟩
   exact ⟨_, List.getElem_mem hi, hb⟩
  ·rintro ⟨a, ha, hb⟩
   obtain ⟨i, hi, rfl⟩ := List.getElem_of_mem ha
   exact ⟨i, hi, hi, hb⟩
 simp only [this]
theorem Zbd {σ ρ α : Type} {step : σ → Option (σ ⊕ ρ)} (enc : Nat → σ) (l : List α) (bad : α → Prop) (rb x : Option ρ) [inst : Decidable (∃ a ∈ l, bad a)] (h : ∀ i (hi : i < l.length), ¬ bad l[i] → step (enc i) = some (.inl (enc (i + 1)))) (hb : ∀ i (hi : i < l.length), bad l[i] → step (enc i) = rb.map .inr) (he : step (enc l.length) = x.map .inr) {s : σ} (hs : s = enc 0) : Zs step s = if ∃ a ∈ l, bad a then rb else x := by
 subst hs
 rw [ZpH enc l bad rb x h hb he]
 split
 ·rfl
 ·rfl
theorem Zb4 {α β : Type} {l : List α} (f : α → List β) {i : Nat} (h : i < l.length) : (l.take (i + 1)).flatMap f = (l.take i).flatMap f ++ f l[i] := by
 rw [List.take_succ_eq_append_getElem h, List.flatMap_append]
 simp
theorem ZcY {α β : Type} (l : List α) (f : α → List β) (i : Nat) : ((l.take i).flatMap f).length ≤ (l.flatMap f).length := by
 conv => rhs; rw [← List.take_append_drop i l]
 rw [List.flatMap_append, List.length_append]
 omega
def YY (n : Int) (k : Nat) : List Int := (List.range k).map fun i => IntKind.u8.wrap (n.fdiv (2 ^ (8 * i)))
@[simp] theorem Zdc (n : Int) (k : Nat) : (YY n k).length = k := by simp [YY]
theorem ZnZ {i : Nat} (h : i < 8) : min (IntKind.i64.wrap (8 * (i : Int))).toNat 64 = 8 * i := by
 rw [wi _ (by omega)]
 omega
theorem Zjw (n : Int) (k : Nat) (hk : k ≤ 8) : YG n k = some (YY n k) := by
 unfold YG
 rw [ZV (by omega)]
 have := Yt (step := Za4 k n) (fun i => ((i : Int), ((List.range i).map fun i => IntKind.u8.wrap (n.fdiv (2 ^ (8 * i)))) ++ List.replicate (k - i) 0)) k (x := some (YY n k)) (fun i hi => by
  simp only [Za4]
  rw [if_pos (by omega), ZV (by rw [wi _ (by omega)]; omega), Zm5 _ _ (by omega), Zbc hi, ZnZ (by omega), ZlY (fun i => IntKind.u8.wrap (n.fdiv (2 ^ (8 * i)))) 0 hi, Z6 hi (by omega)]) (by
  simp only [Za4]
  rw [if_neg (by omega)]
  simp [Zd1, YY])
 simpa using this
theorem Zev (n : Int) (k : Nat) (hk : k ≤ 8) : Yq n k = some (YY n k) := by
 unfold Yq
 rw [ZV (by omega)]
 have := Yt (step := Zaf k n) (fun i => ((i : Int), ((List.range i).map fun i => IntKind.u8.wrap (n.fdiv (2 ^ (8 * i)))) ++ List.replicate (k - i) 0)) k (x := some (YY n k)) (fun i hi => by
  simp only [Zaf]
  rw [if_pos (by simp; omega), ZV (by rw [wi _ (by omega)]; omega), Zm5 _ _ (by omega), Zbc hi, ZnZ (by omega), ZlY (fun i => IntKind.u8.wrap (n.fdiv (2 ^ (8 * i)))) 0 hi, Z6 hi (by omega)]) (by
  simp only [Zaf]
  rw [if_neg (by simp)]
  simp [Zch, YY])
 simpa using this
theorem ZbL {a b : List Int} (h : a.length + b.length ≤ 140737488355328) : Yp a b = some (a ++ b) := by
 unfold Yp
 rw [wi _ (by omega), ZV (by omega), ZV (by omega), ZV (by omega)]
theorem Zax {a b : List Int} (h : a.length + b.length ≤ 140737488355328) : Z7 a b = some (a ++ b) := by
 unfold Z7
 rw [wi _ (by omega), ZV (by omega), ZV (by omega), ZV (by omega)]
section
variable {b : List Int} {n : Int}
theorem Zjx (h : b.length ≤ 140737488355000) : Yy b n = some (b ++ YY (IntKind.u64.wrap n) 4) := by
 unfold Yy
 have this : YG (IntKind.u64.wrap n) 4 = some (YY (IntKind.u64.wrap n) 4) := Zjw _ 4 (by omega)
 rw [this, Zb, ZbL (by simp; omega)]
 rfl
theorem ZpI (h : b.length ≤ 140737488355000) : YV b n = some (b ++ YY n 8) := by
 unfold YV
 have this : YG n 8 = some (YY n 8) := Zjw _ 8 (by omega)
 rw [this, Zb, ZbL (by simp; omega)]
 rfl
theorem Zsj (h : b.length ≤ 140737488355000) : Xe b n = some (b ++ YY (IntKind.u64.wrap n) 2) := by
 unfold Xe
 have this : YG (IntKind.u64.wrap n) 2 = some (YY (IntKind.u64.wrap n) 2) := Zjw _ 2 (by omega)
 rw [this, Zb, ZbL (by simp; omega)]
 rfl
theorem ZjQ (h : b.length ≤ 140737488355000) : Xf b n = some (b ++ YY (IntKind.u64.wrap n) 4) := by
 unfold Xf
 have this : Yq (IntKind.u64.wrap n) 4 = some (YY (IntKind.u64.wrap n) 4) := Zev _ 4 (by omega)
 rw [this, Zb, Zax (by simp; omega)]
 rfl
theorem ZrD (h : b.length ≤ 140737488355000) : Za5 b n = some (b ++ YY n 8) := by
 unfold Za5
 have this : Yq n 8 = some (YY n 8) := Zev _ 8 (by omega)
 rw [this, Zb, Zax (by simp; omega)]
 rfl
def Zbi (n : Int) : List Int := if n < 253 then YY n 1 else if n < 65536 then 253 :: YY n 2 else if n < 4294967296 then 254 :: YY n 4 else 255 :: YY n 8
theorem ZbM (n : Int) : (Zbi n).length ≤ 9 := by
 unfold Zbi
 split
 ·simp
 ·split
  ·simp
  ·split <;> simp
theorem ZjR (h0 : 0 ≤ n ∧ n ≤ 18446744073709551615) (h : b.length ≤ 140737488354900) : YC b n = some (b ++ Zbi n) := by
 unfold YC Zbi
 split
 ·rw [ZbL (by simp; omega)]
  simp [YY]
 ·split
  ·rw [ZbL (by simp; omega), Zb, Zsj (by simp; omega), IntWalk.u16_in _ (by omega), wu _ (by omega)]
   simp
  ·split
   ·rw [ZbL (by simp; omega), Zb, Zjx (by simp; omega), IntWalk.u32_in _ (by omega), wu _ (by omega)]
    simp
   ·rw [ZbL (by simp; omega), Zb, ZpI (by simp; omega)]
    simp
theorem Zij (h0 : 0 ≤ n ∧ n ≤ 18446744073709551615) (h : b.length ≤ 140737488354900) : Y1 b n = some (b ++ Zbi n) := by
 have l1 : Yq n 1 = some (YY n 1) := Zev n 1 (by omega)
 have l2 : Yq n 2 = some (YY n 2) := Zev n 2 (by omega)
 have l4 : Yq n 4 = some (YY n 4) := Zev n 4 (by omega)
 have l8 : Yq n 8 = some (YY n 8) := Zev n 8 (by omega)
 unfold Y1 Zbi
 split
 ·rw [l1, Zb, Zax (by simp; omega)]
  rfl
 ·split
  ·rw [l2, Zb, Zax (by simp), Zb, Zax (by simp; omega)]
   rfl
  ·split
   ·rw [l4, Zb, Zax (by simp), Zb, Zax (by simp; omega)]
    rfl
   ·rw [l8, Zb, Zax (by simp), Zb, Zax (by simp; omega)]
    rfl
end
def bytesB (s : List Int) : List Int := Zbi s.length ++ s
theorem Zlj (s : List Int) : (bytesB s).length ≤ 9 + s.length := by
 have := ZbM s.length
 simp [bytesB]
 omega
theorem Zew {n : Nat} (h : n ≤ 140737488355328) : IntKind.u64.wrap (n : Int) = n := wu _ (by omega)
theorem Zl1 {b s : List Int} (h : b.length + s.length ≤ 140737488354900) : YI b s = some (b ++ bytesB s) := by
 unfold YI
 have := ZbM s.length
 rw [Zew (by omega), ZjR (by omega) (by omega), Zb, ZbL (by simp; omega)]
 simp [bytesB]
theorem Zl2 {b s : List Int} (h : b.length + s.length ≤ 140737488354900) : XJ b s = some (b ++ bytesB s) := by
 unfold XJ
 have := ZbM s.length
 rw [Zew (by omega), Zij (by omega) (by omega), Zb, Zax (by simp; omega)]
 simp [bytesB]
theorem ZrE {b : List Int} {a : Arr 32} (h : b.length ≤ 140737488355000) : Y0 b a = some (b ++ a.l) := by
 unfold Y0
 rw [ZbL (by rw [a.hl]; omega)]
 rfl
theorem ZqK {b : List Int} {a : Arr 32} (h : b.length ≤ 140737488355000) : ZaJ b a = some (b ++ a.l) := by
 unfold ZaJ
 rw [Zax (by rw [a.hl]; omega)]
 rfl
def ZhE (o : Tapi_OutPoint) : List Int := o.1.l ++ YY (IntKind.u64.wrap o.2) 4
@[simp] theorem Zlk (o : Tapi_OutPoint) : (ZhE o).length = 36 := by simp [ZhE, o.1.hl]
theorem ZqL (o : Tapi_OutPoint) : Zb7 o = some (ZhE o) := by
 unfold Zb7
 rw [ZrE (by simp), Zb, Zjx (by simp [o.1.hl])]
 rfl
theorem ZpJ (o : Tapi_OutPoint) : Zc4 o = some (ZhE o) := by
 unfold Zc4
 rw [ZqK (by simp), Zb, ZjQ (by simp [o.1.hl])]
 rfl
end Go.Lc
end
section
namespace Go.Lc
open Go.RowKit
open Go.Av
set_option linter.unusedVariables false
def inB (x : Tapi_Input) : List Int := ZhE x.1 ++ YY (IntKind.u64.wrap x.2.1) 4
@[simp] theorem ZrF (x : Tapi_Input) : (inB x).length = 40 := by simp [inB]
def Zfq (o : Tapi_Output) : List Int := YY (IntKind.u64.wrap o.1) 8 ++ bytesB o.2
def Zjy (x : Tapi_Input) : List Int := Zbi x.2.2.length ++ x.2.2.flatMap bytesB
def Zha (t : Tapi_Tx) : List Int := YY (IntKind.u64.wrap t.1) 4 ++ Zbi t.2.1.length
def Zbj (t : Tapi_Tx) (w : Bool) : List Int := Zha t ++ t.2.1.flatMap inB ++ Zbi t.2.2.1.length ++ t.2.2.1.flatMap Zfq ++ YY (IntKind.u64.wrap t.2.2.2) 4 ++ (if w then t.2.1.flatMap Zjy else [])
def X4 (t : Tapi_Tx) : Nat := 100 + (t.2.1.map fun x => 60 + (x.2.2.map fun s => 20 + s.length).sum).sum + (t.2.2.1.map fun o => 60 + o.2.length).sum
theorem ZhF {α β : Type} (f : α → List β) (g : α → Nat) (h : ∀ a, (f a).length ≤ g a) (l : List α) : (l.flatMap f).length ≤ (l.map g).sum := by
 induction l with
 | nil => simp
 | cons a l ih =>
  simp only [List.flatMap_cons, List.length_append, List.map_cons, List.sum_cons]
  have := h a
  omega
theorem Zik {α : Type} (g : α → Nat) {l : List α} {a : α} (h : a ∈ l) : g a ≤ (l.map g).sum := by
 induction l with
 | nil => simp at h
 | cons b l ih =>
  simp only [List.map_cons, List.sum_cons]
  rcases List.mem_cons.1 h with rfl | h
  ·omega
  ·have := ih h
   omega
theorem Zg0 {α : Type} (g : α → Nat) (c : Nat) (h : ∀ a, c ≤ g a) (l : List α) : c * l.length ≤ (l.map g).sum := by
 induction l with
 | nil => simp
 | cons a l ih =>
  have := h a
  simp only [List.map_cons, List.sum_cons, List.length_cons, Nat.mul_add]
  omega
theorem ZrG (x : Tapi_Input) : (Zjy x).length ≤ 9 + (x.2.2.map fun s => 20 + s.length).sum := by
 have h1 := ZbM x.2.2.length
 have h2 := ZhF bytesB (fun s => 20 + s.length) (fun s => by have := Zlj s; omega) x.2.2
 simp only [Zjy, List.length_append]
 omega
theorem ZrH (o : Tapi_Output) : (Zfq o).length ≤ 20 + o.2.length := by
 have := Zlj o.2
 simp only [Zfq, List.length_append, Zdc]
 omega
section
variable {t : Tapi_Tx} {w : Bool}
def Zdd (t : Tapi_Tx) (i : Nat) : List Int := Zha t ++ (t.2.1.take i).flatMap inB
def Zde (t : Tapi_Tx) (i : Nat) : List Int := Zha t ++ t.2.1.flatMap inB ++ Zbi t.2.2.1.length ++ (t.2.2.1.take i).flatMap Zfq
def Zdf (t : Tapi_Tx) (i : Nat) : List Int := Zha t ++ t.2.1.flatMap inB ++ Zbi t.2.2.1.length ++ t.2.2.1.flatMap Zfq ++ YY (IntKind.u64.wrap t.2.2.2) 4 ++ (t.2.1.take i).flatMap Zjy
theorem ZlC (t : Tapi_Tx) : (t.2.1.flatMap inB).length + (t.2.1.flatMap Zjy).length ≤ (t.2.1.map fun x => 60 + (x.2.2.map fun s => 20 + s.length).sum).sum := by
 induction t.2.1 with
 | nil => simp
 | cons x l ih =>
  have := ZrG x
  simp only [List.flatMap_cons, List.length_append, List.map_cons, List.sum_cons, ZrF]
  omega
theorem Znb (t : Tapi_Tx) : (t.2.2.1.flatMap Zfq).length ≤ (t.2.2.1.map fun o => 60 + o.2.length).sum := ZhF Zfq _ (fun o => by have := ZrH o; omega) _
theorem Zjz (t : Tapi_Tx) : (Zha t).length ≤ 13 := by
 have := ZbM t.2.1.length
 simp only [Zha, List.length_append, Zdc]
 omega
theorem ZlD (i : Nat) : (Zdd t i).length + 50 ≤ X4 t := by
 have h1 := Zjz t
 have h2 := ZcY t.2.1 inB i
 have h3 := ZlC t
 simp only [Zdd, X4, List.length_append]
 omega
theorem ZhG (i : Nat) : (Zde t i).length + 50 ≤ X4 t := by
 have h1 := Zjz t
 have h2 := ZcY t.2.2.1 Zfq i
 have h3 := ZlC t
 have h4 := Znb t
 have h5 := ZbM t.2.2.1.length
 simp only [Zde, X4, List.length_append]
 omega
theorem Zn0 (i : Nat) : (Zdf t i).length + 50 ≤ X4 t := by
 have h1 := Zjz t
 have h2 := ZcY t.2.1 Zjy i
 have h3 := ZlC t
 have h4 := Znb t
 have h5 := ZbM t.2.2.1.length
 simp only [Zdf, X4, List.length_append, Zdc]
 omega
theorem Zfr (t : Tapi_Tx) : t.2.1.length ≤ X4 t := by
 have := Zg0 (fun x : Tapi_Input => 60 + (x.2.2.map fun s => 20 + s.length).sum) 60 (fun x => by omega) t.2.1
 unfold X4
 omega
theorem Zl3 (t : Tapi_Tx) : t.2.2.1.length ≤ X4 t := by
 have := Zg0 (fun o : Tapi_Output => 60 + o.2.length) 60 (fun x => by omega) t.2.2.1
 unfold X4
 omega
theorem Zn1 {x : Tapi_Input} (h : x ∈ t.2.1) : 60 + (x.2.2.map fun s => 20 + s.length).sum ≤ X4 t := by
 have := Zik (fun x : Tapi_Input => 60 + (x.2.2.map fun s => 20 + s.length).sum) h
 unfold X4
 omega
theorem Znc {o : Tapi_Output} (h : o ∈ t.2.2.1) : 60 + o.2.length ≤ X4 t := by
 have := Zik (fun o : Tapi_Output => 60 + o.2.length) h
 unfold X4
 omega
theorem Zhb {x : Tapi_Input} (h : x ∈ t.2.1) : x.2.2.length ≤ X4 t := by
 have h1 := Zn1 h
 have := Zg0 (fun s : List Int => 20 + s.length) 20 (fun x => by omega) x.2.2
 omega
theorem Znd {x : Tapi_Input} (h : x ∈ t.2.1) {s : List Int} (hs : s ∈ x.2.2) : 20 + s.length ≤ X4 t := by
 have h1 := Zn1 h
 have := Zik (fun s : List Int => 20 + s.length) hs
 omega
end
section
variable {t : Tapi_Tx} {w : Bool}
theorem ZjA {i : Nat} (h : i < t.2.1.length) : Zdf t (i + 1) = Zdf t i ++ Zbi (t.2.1[i]).2.2.length ++ (t.2.1[i]).2.2.flatMap bytesB := by
 simp only [Zdf, Zb4 Zjy h, Zjy, List.append_assoc]
theorem Zne {i : Nat} (h : i < t.2.1.length) : (Zdf t i ++ Zbi (t.2.1[i]).2.2.length).length + ((t.2.1[i]).2.2.flatMap bytesB).length + 50 ≤ X4 t := by
 have := Zn0 (t := t) (i + 1)
 rw [ZjA h] at this
 simp only [List.length_append] at this ⊢
 omega
theorem Zn2 {x : Tapi_Input} {j : Nat} (h : j < x.2.2.length) : ((x.2.2.take j).flatMap bytesB).length + (bytesB x.2.2[j]).length ≤ (x.2.2.flatMap bytesB).length := by
 have := ZcY x.2.2 bytesB (j + 1)
 rw [Zb4 bytesB h] at this
 simpa using this
theorem ZrI (hM : X4 t ≤ 1000000000000) {i : Nat} (h : i < t.2.1.length) {q : List Int} (hq : q.length + ((t.2.1[i]).2.2.flatMap bytesB).length + 50 ≤ X4 t) :
  Zs (Zbk t.2.1[i] (i : Int)) (0, q) = some (.inl (((i + 1 : Nat) : Int), q ++ (t.2.1[i]).2.2.flatMap bytesB)) := by
 have hmem := List.getElem_mem h
 have hwl := Zhb hmem
 have hil := Zfr t
 generalize t.2.1[i] = x at hq hmem hwl ⊢
 have := Yt (step := Zbk x (i : Int)) (fun j => ((j : Int), q ++ (x.2.2.take j).flatMap bytesB)) x.2.2.length (x := some (.inl (((i + 1 : Nat) : Int), q ++ x.2.2.flatMap bytesB))) (fun j hj => by
  simp only [Zbk]
  have h1 := Zn2 hj
  have h2 := Znd hmem (List.getElem_mem hj)
  rw [if_pos (by omega), Zx hj, Zl1 (by simp; omega), Zb, ZV (by simp only [List.length_append, List.nil_append]; omega), Z6 hj (by omega), Zb4 bytesB hj]
  simp) (by
  simp only [Zbk]
  rw [if_neg (by omega)]
  simp only [ZfV, List.take_length, Z6 h (by omega)])
 simpa using this
theorem ZtK (hM : X4 t ≤ 1000000000000) : ZdP t (Zde t t.2.2.1.length) w = some (Zbj t w) := by
 have hil := Zfr t
 have h2 := ZhG (t := t) t.2.2.1.length
 unfold ZdP
 rw [Zjx (by simp), Zb, ZV (by simp; omega)]
 have he : Zde t t.2.2.1.length ++ ([] ++ YY (IntKind.u64.wrap t.2.2.2) 4) = Zdf t 0 := by simp [Zde, Zdf]
 rw [he]
 cases w with
 | false => simp [Zbj, Zdf]
 | true =>
  rw [if_neg (by simp)]
  have := Yt (step := Zct t) (fun i => ((i : Int), Zdf t i)) t.2.1.length (x := some (Zbj t true)) (fun i hi => by
   have h3 := Zne hi
   have h5 := Zhb (List.getElem_mem hi)
   simp only [Zct]
   rw [if_pos (by omega), Zx hi, Zew (by omega), ZjR (by omega) (by simp), Zb, ZV (by simp only [List.length_append, List.nil_append] at h3 ⊢; omega), List.nil_append, ZrI hM hi h3, ZjA hi]) (by
   simp only [Zct]
   rw [if_neg (by omega)]
   simp [ZfU, Zdf, Zbj])
  simpa using this
theorem Zl4 {i : Nat} (h : i < t.2.2.1.length) : Zde t (i + 1) = Zde t i ++ YY (IntKind.u64.wrap (t.2.2.1[i]).1) 8 ++ bytesB (t.2.2.1[i]).2 := by
 simp only [Zde, Zb4 Zfq h, Zfq, List.append_assoc]
theorem ZtL (hM : X4 t ≤ 1000000000000) : ZdQ t (Zdd t t.2.1.length) w = some (Zbj t w) := by
 have hol := Zl3 t
 have h2 := ZhG (t := t) 0
 have h1 := ZbM t.2.2.1.length
 have he : Zdd t t.2.1.length ++ Zbi t.2.2.1.length = Zde t 0 := by simp [Zdd, Zde]
 unfold ZdQ
 rw [Zew (by omega), ZjR (by omega) (by simp), Zb, List.nil_append, ZV (by rw [← List.length_append, he]; omega), he]
 have := Yt (step := Zcu t w) (fun i => ((i : Int), Zde t i)) t.2.2.1.length (x := some (Zbj t w)) (fun i hi => by
  have h3 := ZhG (t := t) (i + 1)
  have h4 := Znc (List.getElem_mem hi)
  rw [Zl4 hi] at h3 ⊢
  simp only [List.length_append, Zdc] at h3
  simp only [Zcu]
  rw [if_pos (by omega), Zx hi, ZpI (by simp), Zb, ZV (by simp; omega), Zl1 (by simp; omega), Zb, ZV (by simp; omega), Z6 hi (by omega)]
  simp) (by
  simp only [Zcu]
  rw [if_neg (by omega), ZtK hM])
 simpa using this
theorem Zl5 {i : Nat} (h : i < t.2.1.length) : Zdd t (i + 1) = Zdd t i ++ ZhE (t.2.1[i]).1 ++ YY (IntKind.u64.wrap (t.2.1[i]).2.1) 4 := by
 simp only [Zdd, Zb4 inB h, inB, List.append_assoc]
theorem ZpK (hM : X4 t ≤ 1000000000000) : Zbv t w = some (Zbj t w) := by
 have hil := Zfr t
 have h1 := ZbM t.2.1.length
 have he : YY (IntKind.u64.wrap t.1) 4 ++ Zbi t.2.1.length = Zdd t 0 := by simp [Zdd, Zha]
 unfold Zbv
 rw [Zjx (by simp), Zb, Zew (by omega), ZjR (by omega) (by simp), Zb, List.nil_append, List.nil_append, ZV (by simp; omega), he]
 have := Yt (step := Zcv t w) (fun i => ((i : Int), Zdd t i)) t.2.1.length (x := some (Zbj t w)) (fun i hi => by
  have h3 := ZlD (t := t) (i + 1)
  rw [Zl5 hi] at h3 ⊢
  simp only [List.length_append, Zdc, Zlk] at h3
  simp only [Zcv]
  rw [if_pos (by omega), Zx hi, ZqL, Zb, ZV (by simp; omega), Zjx (by simp), Zb, ZV (by simp; omega), Z6 hi (by omega)]
  simp) (by
  simp only [Zcv]
  rw [if_neg (by omega), ZtL hM])
 simpa using this
theorem ZrJ {o : Tapi_Output} (h : o.2.length ≤ 140737488354000) : ZeF o = some (Zfq o) := by
 unfold ZeF
 rw [ZrD (by simp), Zb, Zl2 (by simp; omega)]
 rfl
theorem ZqM (hM : X4 t ≤ 1000000000000) {i : Nat} (h : i < t.2.1.length) {q : List Int} (hq : q.length + ((t.2.1[i]).2.2.flatMap bytesB).length + 50 ≤ X4 t) :
  Zs (XG t.2.1[i] (i : Int)) (0, q) = some (.inl (((i + 1 : Nat) : Int), q ++ (t.2.1[i]).2.2.flatMap bytesB)) := by
 have hmem := List.getElem_mem h
 have hwl := Zhb hmem
 have hil := Zfr t
 generalize t.2.1[i] = x at hq hmem hwl ⊢
 have := Yt (step := XG x (i : Int)) (fun j => ((j : Int), q ++ (x.2.2.take j).flatMap bytesB)) x.2.2.length (x := some (.inl (((i + 1 : Nat) : Int), q ++ x.2.2.flatMap bytesB))) (fun j hj => by
  simp only [XG]
  have h1 := Zn2 hj
  have h2 := Znd hmem (List.getElem_mem hj)
  rw [if_pos (by omega), Zx hj, Zl2 (by simp only [List.length_append]; omega), Zb, Z6 hj (by omega), Zb4 bytesB hj]
  simp) (by
  simp only [XG]
  rw [if_neg (by omega)]
  simp only [Zci, List.take_length, Z6 h (by omega)])
 simpa using this
theorem Zsk (hM : X4 t ≤ 1000000000000) : Za6 (Zde t t.2.2.1.length) t w = some (Zbj t w) := by
 have hil := Zfr t
 have h2 := ZhG (t := t) t.2.2.1.length
 unfold Za6
 rw [ZjQ (by omega), Zb]
 have he : Zde t t.2.2.1.length ++ YY (IntKind.u64.wrap t.2.2.2) 4 = Zdf t 0 := by simp [Zde, Zdf]
 rw [he]
 cases w with
 | false =>
  by_cases h0 : (0 : Int) < t.2.1.length
  ·refine Zba ?_
   simp only [Xg]
   rw [if_pos h0, show (0 : Int) = ((0 : Nat) : Int) from rfl, Zx (by omega)]
   simp [XF, Zbj, Zdf]
  ·refine Zba ?_
   simp only [Xg]
   rw [if_neg h0]
   simp [XF, Zbj, Zdf]
 | true =>
  have := Yt (step := Xg t true) (fun i => ((i : Int), Zdf t i)) t.2.1.length (x := some (Zbj t true)) (fun i hi => by
   have h3 := Zne hi
   have h4 := Zn0 (t := t) i
   have h5 := Zhb (List.getElem_mem hi)
   simp only [Xg]
   rw [if_pos (by omega), Zx hi, if_neg (by simp), Zew (by omega), Zij (by omega) (by omega), Zb, ZqM hM hi h3, ZjA hi]) (by
   simp only [Xg]
   rw [if_neg (by omega)]
   simp [XF, Zdf, Zbj])
  simpa using this
theorem Zsl (hM : X4 t ≤ 1000000000000) : Za7 (Zdd t t.2.1.length) t w = some (Zbj t w) := by
 have hol := Zl3 t
 have h0 := ZlD (t := t) t.2.1.length
 have he : Zdd t t.2.1.length ++ Zbi t.2.2.1.length = Zde t 0 := by simp [Zdd, Zde]
 unfold Za7
 rw [Zew (by omega), Zij (by omega) (by omega), Zb, he]
 have := Yt (step := Zag t w) (fun i => ((i : Int), Zde t i)) t.2.2.1.length (x := some (Zbj t w)) (fun i hi => by
  have h3 := ZhG (t := t) (i + 1)
  have h4 := Znc (List.getElem_mem hi)
  rw [Zl4 hi] at h3 ⊢
  simp only [List.length_append, Zdc] at h3
  simp only [Zag]
  rw [if_pos (by omega), Zx hi, ZrJ (by omega), Zb, ZV (by simp only [Zfq, List.length_append, Zdc]; omega), Z6 hi (by omega)]
  simp [Zfq]) (by
  simp only [Zag]
  rw [if_neg (by omega), Zsk hM])
 simpa using this
theorem ZoM (hM : X4 t ≤ 1000000000000) : Zcw t w = some (Zbj t w) := by
 have hil := Zfr t
 have he : YY (IntKind.u64.wrap t.1) 4 ++ Zbi t.2.1.length = Zdd t 0 := by simp [Zdd, Zha]
 unfold Zcw
 rw [ZjQ (by simp), Zb, Zew (by omega), Zij (by omega) (by simp), Zb, List.nil_append, he]
 have := Yt (step := Zah t w) (fun i => ((i : Int), Zdd t i)) t.2.1.length (x := some (Zbj t w)) (fun i hi => by
  have h3 := ZlD (t := t) (i + 1)
  rw [Zl5 hi] at h3 ⊢
  simp only [List.length_append, Zdc, Zlk] at h3
  simp only [Zah]
  rw [if_pos (by omega), Zx hi, ZpJ, Zb, ZV (by simp; omega), ZjQ (by simp; omega), Zb, Z6 hi (by omega)]) (by
  simp only [Zah]
  rw [if_neg (by omega), Zsl hM])
 simpa using this
def Zfs (t : Tapi_Tx) : Prop := t.2.1.length ≤ 64 ∧ t.2.2.1.length ≤ 64 ∧ (∀ o ∈ t.2.2.1, 0 ≤ o.1 ∧ o.2.length ≤ 520) ∧ ∀ x ∈ t.2.1, x.2.2.length ≤ 32 ∧ ∀ s ∈ x.2.2, s.length ≤ 520
noncomputable def ZdX (t : Tapi_Tx) : Bool := by classical exact decide (Zfs t ∧ (Zbj t true).length ≤ 20000)
theorem Zg1 {α : Type} (g : α → Nat) (c : Nat) {l : List α} (h : ∀ a ∈ l, g a ≤ c) : (l.map g).sum ≤ c * l.length := by
 induction l with
 | nil => simp
 | cons a l ih =>
  have h1 := h a (by simp)
  have h2 := ih fun b hb => h b (by simp [hb])
  simp only [List.map_cons, List.sum_cons, List.length_cons, Nat.mul_add]
  omega
theorem Zq7 (h : Zfs t) : X4 t ≤ 3000000 := by
 obtain ⟨h1, h2, h3, h4⟩ := h
 have e1 := Zg1 (fun x : Tapi_Input => 60 + (x.2.2.map fun s => 20 + s.length).sum) 20000 (l := t.2.1) (fun x hx => by
  obtain ⟨g1, g2⟩ := h4 x hx
  have := Zg1 (fun s : List Int => 20 + s.length) 540 (l := x.2.2) (fun s hs => by have := g2 s hs; omega)
  have := Nat.mul_le_mul_left 540 g1
  omega)
 have e2 := Zg1 (fun o : Tapi_Output => 60 + o.2.length) 600 (l := t.2.2.1) (fun o ho => by have := (h3 o ho).2; omega)
 have := Nat.mul_le_mul_left 20000 h1
 have := Nat.mul_le_mul_left 600 h2
 unfold X4
 omega
end
section
theorem Znf {x : Tapi_Input} {i n : Nat} (hi : i < n) (hn : n ≤ 64) (hw : x.2.2.length ≤ 32) : Zs (ZbO x (i : Int)) 0 = (if ∃ s ∈ x.2.2, 520 < s.length then some (.inr false) else some (.inl ((i + 1 : Nat) : Int))) := by
 refine Zbd (step := ZbO x (i : Int)) (fun j => (j : Int)) x.2.2 (fun s => 520 < s.length) (some (.inr false)) (some (.inl ((i + 1 : Nat) : Int))) (fun j hj hb => ?_) (fun j hj hb => ?_) ?_ rfl
 ·simp only [ZbO]
  rw [if_pos (by omega), Zx hj, if_neg (by omega), Z6 hj (by omega)]
 ·simp only [ZbO]
  rw [if_pos (by omega), Zx hj, if_pos (by omega)]
  rfl
 ·simp only [ZbO]
  rw [if_neg (by omega)]
  simp only [Zhm, Z6 hi (by omega)]
theorem ZrK (t : Tapi_Tx) : Zc3 t = some (ZdX t) := by
 classical
 unfold Zc3 ZdX
 by_cases h0 : 64 < t.2.1.length ∨ 64 < t.2.2.1.length
 ·rw [if_pos (by omega)]
  have : ¬ Zfs t := fun h => by have := h.1; have := h.2.1; omega
  simp [this]
 ·rw [if_neg (by omega)]
  have h1 := Zbd (step := ZcG t) (fun i => (i : Int)) t.2.2.1 (fun o => o.1 < 0 ∨ 520 < o.2.length) (some false) (ZfE t) (fun i hi hb => by
   simp only [ZcG]
   rw [if_pos (by omega), Zx hi, if_neg (by omega), Z6 hi (by omega)]) (fun i hi hb => by
   simp only [ZcG]
   rw [if_pos (by omega), Zx hi, if_pos (by omega)]
   rfl) (by
   simp only [ZcG]
   rw [if_neg (by omega)]) (s := 0) rfl
  rw [h1]
  by_cases hb1 : ∃ o ∈ t.2.2.1, o.1 < 0 ∨ 520 < o.2.length
  ·rw [if_pos hb1]
   obtain ⟨o, ho, hb⟩ := hb1
   have : ¬ Zfs t := fun h => by have := h.2.2.1 o ho; omega
   simp [this]
  ·rw [if_neg hb1]
   unfold ZfE
   have h2 := Zbd (step := ZcF t) (fun i => (i : Int)) t.2.1 (fun x => 32 < x.2.2.length ∨ ∃ s ∈ x.2.2, 520 < s.length) (some false) (ZfD t) (fun i hi hb => by
    have h3 : ¬ 32 < (t.2.1[i]).2.2.length := fun h => hb (.inl h)
    have h4 : ¬ ∃ s ∈ (t.2.1[i]).2.2, 520 < s.length := fun h => hb (.inr h)
    simp only [ZcF]
    rw [if_pos (by omega), Zx hi, if_neg (by omega), Znf hi (by omega) (by omega), if_neg h4]) (fun i hi hb => by
    simp only [ZcF]
    rw [if_pos (by omega), Zx hi]
    by_cases h3 : 32 < (t.2.1[i]).2.2.length
    ·rw [if_pos (by omega)]
     rfl
    ·rw [if_neg (by omega), Znf hi (by omega) (by omega), if_pos (hb.resolve_left h3)]
     rfl) (by
    simp only [ZcF]
    rw [if_neg (by omega)]) (s := 0) rfl
   rw [h2]
   by_cases hb2 : ∃ x ∈ t.2.1, 32 < x.2.2.length ∨ ∃ s ∈ x.2.2, 520 < s.length
   ·rw [if_pos hb2]
    obtain ⟨x, hx, hb⟩ := hb2
    have : ¬ Zfs t := fun h => by
     obtain ⟨g1, g2⟩ := h.2.2.2 x hx
     rcases hb with hb | ⟨s, hs, hb⟩
     ·omega
     ·have := g2 s hs; omega
    simp [this]
   ·rw [if_neg hb2]
    have hlim : Zfs t := by
     refine ⟨by omega, by omega, fun o ho => ?_, fun x hx => ⟨?_, fun s hs => ?_⟩⟩
     ·have : ¬ (o.1 < 0 ∨ 520 < o.2.length) := fun h => hb1 ⟨o, ho, h⟩
      omega
     ·have : ¬ 32 < x.2.2.length := fun h => hb2 ⟨x, hx, .inl h⟩
      omega
     ·have : ¬ 520 < s.length := fun h => hb2 ⟨x, hx, .inr ⟨s, hs, h⟩⟩
      omega
    unfold ZfD
    rw [ZpK (by have := Zq7 hlim; omega), Zb]
    have e : (((Zbj t true).length : Int) ≤ 20000) ↔ ((Zbj t true).length ≤ 20000) := by omega
    simp [hlim, e]
theorem Zl6 {x : Tapi_Input} {i n : Nat} (hi : i < n) (hn : n ≤ 64) (hw : x.2.2.length ≤ 32) : Zs (XK x (i : Int)) 0 = (if ∃ s ∈ x.2.2, 520 < s.length then some (.inr false) else some (.inl ((i + 1 : Nat) : Int))) := by
 refine Zbd (step := XK x (i : Int)) (fun j => (j : Int)) x.2.2 (fun s => 520 < s.length) (some (.inr false)) (some (.inl ((i + 1 : Nat) : Int))) (fun j hj hb => ?_) (fun j hj hb => ?_) ?_ rfl
 ·simp only [XK]
  rw [if_pos (by omega), Zx hj, if_neg (by omega), Z6 hj (by omega)]
 ·simp only [XK]
  rw [if_pos (by omega), Zx hj, if_pos (by omega)]
  rfl
 ·simp only [XK]
  rw [if_neg (by omega)]
  simp only [Zdo, Z6 hi (by omega)]
theorem ZqN (t : Tapi_Tx) : ZdI t = some (ZdX t) := by
 classical
 unfold ZdI ZdX
 by_cases h0 : 64 < t.2.1.length ∨ 64 < t.2.2.1.length
 ·rw [if_pos (by omega)]
  have : ¬ Zfs t := fun h => by have := h.1; have := h.2.1; omega
  simp [this]
 ·rw [if_neg (by omega)]
  have h1 := Zbd (step := Zaj t) (fun i => (i : Int)) t.2.2.1 (fun o => o.1 < 0 ∨ 520 < o.2.length) (some false) (ZbY t) (fun i hi hb => by
   simp only [Zaj]
   rw [if_pos (by omega), Zx hi, if_neg (by omega), Z6 hi (by omega)]) (fun i hi hb => by
   simp only [Zaj]
   rw [if_pos (by omega), Zx hi, if_pos (by omega)]
   rfl) (by
   simp only [Zaj]
   rw [if_neg (by omega)]) (s := 0) rfl
  rw [h1]
  by_cases hb1 : ∃ o ∈ t.2.2.1, o.1 < 0 ∨ 520 < o.2.length
  ·rw [if_pos hb1]
   obtain ⟨o, ho, hb⟩ := hb1
   have : ¬ Zfs t := fun h => by have := h.2.2.1 o ho; omega
   simp [this]
  ·rw [if_neg hb1]
   unfold ZbY
   have h2 := Zbd (step := Zai t) (fun i => (i : Int)) t.2.1 (fun x => 32 < x.2.2.length ∨ ∃ s ∈ x.2.2, 520 < s.length) (some false) (ZbX t) (fun i hi hb => by
    have h3 : ¬ 32 < (t.2.1[i]).2.2.length := fun h => hb (.inl h)
    have h4 : ¬ ∃ s ∈ (t.2.1[i]).2.2, 520 < s.length := fun h => hb (.inr h)
    simp only [Zai]
    rw [if_pos (by omega), Zx hi, if_neg (by omega), Zl6 hi (by omega) (by omega), if_neg h4]) (fun i hi hb => by
    simp only [Zai]
    rw [if_pos (by omega), Zx hi]
    by_cases h3 : 32 < (t.2.1[i]).2.2.length
    ·rw [if_pos (by omega)]
     rfl
    ·rw [if_neg (by omega), Zl6 hi (by omega) (by omega), if_pos (hb.resolve_left h3)]
     rfl) (by
    simp only [Zai]
    rw [if_neg (by omega)]) (s := 0) rfl
   rw [h2]
   by_cases hb2 : ∃ x ∈ t.2.1, 32 < x.2.2.length ∨ ∃ s ∈ x.2.2, 520 < s.length
   ·rw [if_pos hb2]
    obtain ⟨x, hx, hb⟩ := hb2
    have : ¬ Zfs t := fun h => by
     obtain ⟨g1, g2⟩ := h.2.2.2 x hx
     rcases hb with hb | ⟨s, hs, hb⟩
     ·omega
     ·have := g2 s hs; omega
    simp [this]
   ·rw [if_neg hb2]
    have hlim : Zfs t := by
     refine ⟨by omega, by omega, fun o ho => ?_, fun x hx => ⟨?_, fun s hs => ?_⟩⟩
     ·have : ¬ (o.1 < 0 ∨ 520 < o.2.length) := fun h => hb1 ⟨o, ho, h⟩
      omega
     ·have : ¬ 32 < x.2.2.length := fun h => hb2 ⟨x, hx, .inl h⟩
      omega
     ·have : ¬ 520 < s.length := fun h => hb2 ⟨x, hx, .inr ⟨s, hs, h⟩⟩
      omega
    unfold ZbX
    rw [ZoM (by have := Zq7 hlim; omega), Zb]
    have e : (((Zbj t true).length : Int) ≤ 20000) ↔ ((Zbj t true).length ≤ 20000) := by omega
    simp [hlim, e]
end
end Go.Lc
end
section
namespace Go.Lc
open Go.RowKit
open Go.Av
set_option linter.unusedVariables false
def Nx {σ ρ : Type} (I : Nat → σ → Prop) (Q : ρ → Prop) (n : Nat) : σ ⊕ ρ → Prop
 | .inl s => ∃ j, j < n ∧ I j s
 | .inr r => Q r
theorem ZkP {σ ρ : Type} {step : σ → Option (σ ⊕ ρ)} {I : Nat → σ → Prop} {Q : ρ → Prop} (h : ∀ n s, I n s → Tot (step s) (Nx I Q n)) {n : Nat} {s : σ} (hs : I n s) : Tot (Zs step s) Q := by
 refine Zkk I Q (fun i s hi => ?_) n s hs
 obtain ⟨x, h1, h2⟩ := h i s hi
 cases x with
 | inl s' =>
  obtain ⟨j, hj, h3⟩ := h2
  exact .inl ⟨j, s', hj, h1, h3⟩
 | inr r => exact .inr ⟨r, h1, h2⟩
theorem Tot.out {σ ρ : Type} {I : Nat → σ → Prop} {Q : ρ → Prop} {n : Nat} {x : Option ρ} (h : Tot x Q) : Tot (x.map .inr) (Nx I Q n) := by
 obtain ⟨r, rfl, h⟩ := h
 exact ⟨_, rfl, h⟩
theorem ZjS {α : Type} {p : Prop} [Decidable p] {f : Unit → Option α} {Q : α → Prop} (hp : p) (h : Tot (f ()) Q) : Tot ((chk p).bind f) Q := by rw [ZV hp]; exact h
theorem Zn3 {α β : Type} {l : List α} {i : Int} {f : α → Option β} {Q : β → Prop} (h0 : 0 ≤ i) (h1 : i < l.length) (h : ∀ x ∈ l, Tot (f x) Q) : Tot ((idx l i).bind f) Q := by
 obtain ⟨n, rfl⟩ := Int.eq_ofNat_of_zero_le h0
 rw [Zx (by omega)]
 exact h _ (List.getElem_mem _)
theorem ZrL {β : Type} {n : Nat} {i : Int} {f : Nat → Option β} {Q : β → Prop} (h0 : 0 ≤ i) (h1 : i < n) (h : ∀ j : Nat, (j : Int) = i → j < n → Tot (f j) Q) : Tot ((inA n i).bind f) Q := by
 obtain ⟨m, rfl⟩ := Int.eq_ofNat_of_zero_le h0
 rw [Zbc (by omega)]
 exact h _ rfl (by omega)
theorem ZrM {α β : Type} {l : List α} {i : Nat} {f : α → Option β} {Q : β → Prop} (h1 : i < l.length) (h : ∀ x, l[i]? = some x → Tot (f x) Q) : Tot ((l[i]?).bind f) Q := by
 rw [Zia h1]
 exact h _ (List.getElem?_eq_getElem h1)
def Zng (v n : Int) : Int := if v.tmod n < 0 then v.tmod n + n else v.tmod n
theorem Zn4 (v : Int) {n : Int} (h : 1 ≤ n) : 0 ≤ Zng v n ∧ Zng v n < n := by
 have h1 := Int.tmod_lt_of_pos v (b := n) (by omega)
 have h2 : -n < v.tmod n := by
  have := Int.lt_tmod_of_pos v (b := n) (by omega)
  omega
 unfold Zng
 split <;> omega
theorem Zsm (v : Int) {n : Int} (h : 1 ≤ n) (h2 : n ≤ 4611686018427387904) : Zb6 v n = some (Zng v n) := by
 have h1 := Zn4 v h
 unfold Zb6 ZbW
 rw [ZV (by omega)]
 unfold Zng at *
 split
 ·rename_i hn
  rw [if_pos hn] at h1
  rw [wi _ (by omega)]
 ·rfl
def Zay (d : Tlightclientmill_Deck) : Prop := 0 ≤ d.2 ∧ d.2 ≤ d.1.length ∧ d.1.length ≤ 9223372036854775807
theorem Zcr {d : Tlightclientmill_Deck} (h : Zay d) {n : Int} (hn : 1 ≤ n) (hn2 : n ≤ 4611686018427387904) : Tot (Ye d n) fun r => (0 ≤ r.1 ∧ r.1 < n) ∧ Zay r.2 := by
 obtain ⟨h1, h2, h3⟩ := h
 unfold Ye XT
 rw [Zb]
 by_cases hl : d.2 < d.1.length
 ·rw [if_neg (by simp [hl])]
  dsimp only
  rw [wi (d.2 + 1) (by omega), wi _ (by omega), show d.2 + 1 - 1 = d.2 by omega]
  refine Zn3 h1 hl fun x _ => ?_
  rw [Zsm x hn hn2]
  exact Zbb ⟨Zn4 x hn, by dsimp only; omega, by dsimp only; omega, h3⟩
 ·rw [if_pos (by simp [hl])]
  exact Zbb ⟨⟨by dsimp only; omega, by dsimp only; omega⟩, h1, h2, h3⟩
theorem ZjB (j : Int) : XS j = some [1, 1, IntKind.u8.wrap (1 + j.tmod 6), 5] := rfl
theorem ZoN {α β : Type} {l : List α} (f : β → α → β) (b : β) {i : Nat} (h : i < l.length) : (l.take (i + 1)).foldl f b = f ((l.take i).foldl f b) l[i] := by
 rw [List.take_succ_eq_append_getElem h, List.foldl_append]
 rfl
end Go.Lc
end
section
namespace Go.Lc
open Go.RowKit
open Go.Av
set_option linter.unusedVariables false
theorem ZbQ {σ ρ : Type} {step : σ → Option (σ ⊕ ρ)} (enc : Nat → σ) (n : Nat) (bad : Nat → Prop) (rb x : Option ρ) [inst : Decidable (∃ i, i < n ∧ bad i)] (h : ∀ i, i < n → (∀ j, j < i → ¬ bad j) → ¬ bad i → step (enc i) = some (.inl (enc (i + 1)))) (hb : ∀ i, i < n → (∀ j, j < i → ¬ bad j) → bad i → step (enc i) = rb.map .inr) (he : (∀ j, j < n → ¬ bad j) → step (enc n) = x.map .inr) {s : σ} (hs : s = enc 0) : Zs step s = if ∃ i, i < n ∧ bad i then rb else x := by
 subst hs
 by_cases hx : ∃ i, i < n ∧ bad i
 ·rw [if_pos hx]
  obtain ⟨m, hm, hbm, hmin⟩ := Zl0 bad n hx
  exact Yt enc m (fun i hi => h i (by omega) (fun j hj => hmin j (by omega)) (hmin i hi)) (hb m hm hmin hbm)
 ·rw [if_neg hx]
  have hn : ∀ i, i < n → ¬ bad i := fun i hi hbi => hx ⟨i, hi, hbi⟩
  exact Yt enc n (fun i hi => h i hi (fun j hj => hn j (by omega)) (hn i hi)) (he hn)
def sumI : List Int → Int
 | [] => 0
 | a :: l => a + sumI l
theorem Znh (l m : List Int) : sumI (l ++ m) = sumI l + sumI m := by
 induction l with
 | nil => simp [sumI]
 | cons a l ih => simp only [List.cons_append, sumI, ih]; omega
theorem Za0 {l : List Int} {i : Nat} (h : i < l.length) : sumI (l.take (i + 1)) = sumI (l.take i) + l[i] := by
 rw [List.take_succ_eq_append_getElem h, Znh]
 simp [sumI]
theorem Zel {l : List Int} (h : ∀ v ∈ l, 0 ≤ v) : 0 ≤ sumI l := by
 induction l with
 | nil => simp [sumI]
 | cons a l ih =>
  have h1 := h a (by simp)
  have h2 := ih fun v hv => h v (by simp [hv])
  simp only [sumI]
  omega
theorem ZjC {l : List Int} (h : ∀ v ∈ l, 0 ≤ v) (i : Nat) : sumI (l.take i) ≤ sumI l := by
 have h1 : sumI l = sumI (l.take i) + sumI (l.drop i) := by rw [← Znh, List.take_append_drop]
 have h2 := Zel (l := l.drop i) fun v hv => h v (List.mem_of_mem_drop hv)
 omega
theorem Zn5 {l : List Int} {c : Int} (h : ∀ v ∈ l, v ≤ c) : sumI l ≤ l.length * c := by
 induction l with
 | nil => simp [sumI]
 | cons a l ih =>
  have h1 := h a (by simp)
  have h2 := ih fun v hv => h v (by simp [hv])
  simp only [sumI, List.length_cons]
  have : ((l.length + 1 : Nat) : Int) * c = (l.length : Int) * c + c := by rw [Int.natCast_add, Int.add_mul]; simp
  omega
theorem ZjT (vs : List Int) (M : Int) (hM : 0 ≤ M) : (∃ i, i < vs.length ∧ ∃ h : i < vs.length, vs[i] < 0 ∨ M < sumI (vs.take (i + 1))) ↔ (∃ v ∈ vs, v < 0 ∨ M < v) ∨ M < sumI vs := by
 by_cases hneg : ∃ v ∈ vs, v < 0
 ·obtain ⟨v, hv, hv0⟩ := hneg
  obtain ⟨i, hi, rfl⟩ := List.getElem_of_mem hv
  exact ⟨fun _ => .inl ⟨_, hv, .inl hv0⟩, fun _ => ⟨i, hi, hi, .inl hv0⟩⟩
 ·have hp : ∀ v ∈ vs, 0 ≤ v := fun v hv => by
   have : ¬ v < 0 := fun h => hneg ⟨v, hv, h⟩
   omega
  constructor
  ·rintro ⟨i, _, hi, hb⟩
   have h1 := hp _ (List.getElem_mem hi)
   have h2 := ZjC hp (i + 1)
   exact .inr (by omega)
  ·intro h
   have key : M < sumI vs → ∃ i, i < vs.length ∧ ∃ h : i < vs.length, vs[i] < 0 ∨ M < sumI (vs.take (i + 1)) := by
    intro hs
    have hn : 0 < vs.length := by
     rcases Nat.eq_zero_or_pos vs.length with h0 | h0
     ·have := List.length_eq_zero_iff.1 h0
      subst this
      simp only [sumI] at hs
      omega
     ·exact h0
    refine ⟨vs.length - 1, by omega, by omega, .inr ?_⟩
    rw [show vs.length - 1 + 1 = vs.length by omega, List.take_length]
    exact hs
   rcases h with ⟨v, hv, hb⟩ | hs
   ·have h0 := hp v hv
    obtain ⟨i, hi, rfl⟩ := List.getElem_of_mem hv
    refine ⟨i, hi, hi, .inr ?_⟩
    rw [Za0 hi]
    have := Zel (l := vs.take i) fun v hv => hp v (List.mem_of_mem_take hv)
    omega
   ·exact key hs
theorem ZpL {K V : Type} [DecidableEq K] (k a : K) (v : V) (l : List (K × V)) : ZcK k (ZfT a v l) = if k = a then some v else ZcK k l := by
 induction l with
 | nil => simp [ZfT, ZcK]
 | cons x l ih =>
  obtain ⟨b, w⟩ := x
  simp only [ZfT]
  by_cases h : a = b
  ·subst h
   rw [if_pos rfl]
   simp only [ZcK]
   by_cases hk : k = a <;> simp [hk]
  ·rw [if_neg h]
   simp only [ZcK, ih]
   by_cases hk : k = b
   ·subst hk
    simp [Ne.symm h]
   ·simp [hk]
def ZlE (l : List Tapi_OutPoint) : List (Tapi_OutPoint × Bool) := l.foldl (fun m p => ZfT p true m) []
theorem Zil (k : Tapi_OutPoint) (l : List Tapi_OutPoint) : ((ZcK k (ZlE l)).getD false = true) ↔ k ∈ l := by
 have key : ∀ (l : List Tapi_OutPoint) (m : List (Tapi_OutPoint × Bool)), ((ZcK k (l.foldl (fun m p => ZfT p true m) m)).getD false = true) ↔ (k ∈ l ∨ (ZcK k m).getD false = true) := by
  intro l
  induction l with
  | nil => intro m; simp
  | cons a l ih =>
   intro m
   rw [List.foldl_cons, ih, ZpL]
   by_cases h : k = a
   ·simp [h]
   ·simp [h]
 have := key l []
 simpa [ZlE, ZcK] using this
theorem ZpM {l : List Tapi_OutPoint} {i : Nat} (h : i < l.length) : ZlE (l.take (i + 1)) = ZfT l[i] true (ZlE (l.take i)) := by
 unfold ZlE
 rw [List.take_succ_eq_append_getElem h, List.foldl_append]
 rfl
abbrev nullP : Tapi_OutPoint := (zA 32, 4294967295)
def cbS (t : Tapi_Tx) : Bool := match t.2.1 with
 | [x] => decide (x.1 = nullP)
 | _ => false
theorem ZoO (t : Tapi_Tx) : XU t = some (cbS t) := by
 obtain ⟨a, ins, outs, l⟩ := t
 unfold XU Zd2 cbS
 match ins with
 | [] => simp
 | [x] => simp [Prod.ext_iff]
 | x :: y :: l =>
  have : ¬ ((x :: y :: l).length : Int) = 1 := by simp only [List.length_cons]; omega
  dsimp only
  simp only [if_neg this, decide_eq_false this]
  rfl
theorem Zni (t : Tapi_Tx) : ZbA t = some (cbS t) := by
 rw [← ZoO]
 rfl
def Yk (t : Tapi_Tx) : List Int := t.2.2.1.map Prod.fst
def Yi (t : Tapi_Tx) : List Tapi_OutPoint := t.2.1.map Prod.fst
def ZoP (l : List Tapi_OutPoint) : Prop := ∃ i, i < l.length ∧ ∃ h : i < l.length, l[i] ∈ l.take i
noncomputable def Zb5 (t : Tapi_Tx) : Int := by
 classical exact if ¬ ZdX t = true then 4 else if t.2.1.length = 0 ∨ t.2.2.1.length = 0 then 93 else if (2100000000000000 : Int) < sumI (Yk t) then 90 else if ZoP (Yi t) then 91 else if nullP ∈ Yi t ∧ ¬ cbS t = true then 92 else 0
theorem ZkQ {t : Tapi_Tx} (h : ZdX t = true) : Zfs t := by
 classical
 unfold ZdX at h
 simp only [decide_eq_true_eq] at h
 exact h.1
section
variable {t : Tapi_Tx}
theorem Znj (h : Zfs t) : ∀ v ∈ Yk t, 0 ≤ v := by
 intro v hv
 obtain ⟨o, ho, rfl⟩ := List.mem_map.1 hv
 exact (h.2.2.1 o ho).1
theorem ZqO (h : Zfs t) : Zb8 t.2.2.1 = some (decide (¬ (2100000000000000 : Int) < sumI (Yk t))) := by
 classical
 have hp := Znj h
 have hl : (Yk t).length = t.2.2.1.length := by simp [Yk]
 have hget : ∀ i (h1 : i < t.2.2.1.length), (Yk t)[i]'(by omega) = (t.2.2.1[i]).1 := by intro i h1; simp [Yk]
 unfold Zb8
 have h64 := h.2.1
 have hbnd : ∀ i, (∀ j, j < i → ¬ ∃ h : j < (Yk t).length, (Yk t)[j] < 0 ∨ (2100000000000000 : Int) < sumI ((Yk t).take (j + 1))) → i ≤ (Yk t).length → 0 ≤ sumI ((Yk t).take i) ∧ sumI ((Yk t).take i) ≤ (2100000000000000 : Int) := by
  intro i hj hi
  refine ⟨Zel fun v hv => hp v (List.mem_of_mem_take hv), ?_⟩
  cases i with
  | zero => simp [sumI]
  | succ i =>
   have := hj i (by omega)
   have h2 : ¬ (2100000000000000 : Int) < sumI ((Yk t).take (i + 1)) := fun h => this ⟨by omega, .inr h⟩
   omega
 rw [ZbQ (s := (0, 0)) (step := ZbZ t.2.2.1) (fun i => (sumI ((Yk t).take i), (i : Int))) (Yk t).length (fun i => ∃ h : i < (Yk t).length, (Yk t)[i] < 0 ∨ (2100000000000000 : Int) < sumI ((Yk t).take (i + 1))) (some false) (some true) ?_ ?_ ?_ rfl]
 ·by_cases hs : (2100000000000000 : Int) < sumI (Yk t)
  ·rw [if_pos ((ZjT _ _ (by decide)).2 (.inr hs))]
   simp [hs]
  ·rw [if_neg]
   ·simp [hs]
   ·intro hb
    rcases (ZjT _ _ (by decide)).1 hb with ⟨v, hv, hb⟩ | hb
    ·have h0 := hp v hv
     have := (ZjT (Yk t) (2100000000000000 : Int) (by decide)).2 (.inl ⟨v, hv, hb⟩)
     obtain ⟨i, _, hi, hb'⟩ := this
     have h1 := hp _ (List.getElem_mem hi)
     have h2 := ZjC hp (i + 1)
     omega
    ·exact hs hb
 ·intro i hi hj hb
  have hb0 := hbnd i hj (by omega)
  have hb1 : ¬ (2100000000000000 : Int) < sumI ((Yk t).take (i + 1)) := fun h => hb ⟨hi, .inr h⟩
  have h0 := hp _ (List.getElem_mem hi)
  have hg := hget i (by omega)
  rw [Za0 hi] at hb1
  simp only [ZbZ]
  rw [if_pos (by omega), Zx (by omega), wi _ (by omega), if_neg (by omega), wi _ (by omega), Z6 hi (by omega), Za0 hi, hg]
 ·intro i hi hj hb
  have hb0 := hbnd i hj (by omega)
  obtain ⟨_, hb⟩ := hb
  have h0 := hp _ (List.getElem_mem hi)
  have hg := hget i (by omega)
  rw [Za0 hi] at hb
  simp only [ZbZ]
  rw [if_pos (by omega), Zx (by omega), wi _ (by omega), if_pos (by omega)]
  rfl
 ·intro hj
  simp only [ZbZ]
  rw [if_neg (by omega)]
  rfl
theorem pts_len : (Yi t).length = t.2.1.length := by simp [Yi]
theorem Zft {i : Nat} (h1 : i < t.2.1.length) (h2 : i < (Yi t).length) : (Yi t)[i] = (t.2.1[i]).1 := by simp [Yi]
theorem Znk (t : Tapi_Tx) : Zbx t = some (Zb5 t) := by
 classical
 unfold Zbx Zb5
 rw [ZrK, Zb]
 by_cases hf : ZdX t = true
 ·have hlim := ZkQ hf
  have h64 := hlim.1
  have hnf : ¬ ¬ ZdX t = true := by simp [hf]
  rw [if_neg hnf, if_neg hnf]
  by_cases h0 : t.2.1.length = 0 ∨ t.2.2.1.length = 0
  ·rw [if_pos (show (t.2.1.length : Int) = 0 ∨ (t.2.2.1.length : Int) = 0 by omega), if_pos h0]
  ·rw [if_neg (show ¬ ((t.2.1.length : Int) = 0 ∨ (t.2.2.1.length : Int) = 0) by omega), if_neg h0, ZqO hlim, Zb]
   by_cases hs : (2100000000000000 : Int) < sumI (Yk t)
   ·rw [if_pos (by simp [hs]), if_pos hs]
   ·rw [if_neg (by simp [hs]), if_neg hs]
    have hl := pts_len (t := t)
    rw [ZbQ (s := (0, [])) (step := Zb0 t) (fun i => ((i : Int), ZlE ((Yi t).take i))) (Yi t).length (fun i => ∃ h : i < (Yi t).length, (Yi t)[i] ∈ (Yi t).take i) (some 91) (some (if nullP ∈ Yi t ∧ ¬ cbS t = true then 92 else 0)) ?_ ?_ ?_ rfl]
    ·by_cases hd : ZoP (Yi t)
     ·rw [if_pos (show ∃ i, i < (Yi t).length ∧ ∃ h : i < (Yi t).length, (Yi t)[i] ∈ (Yi t).take i from hd), if_pos hd]
     ·rw [if_neg (show ¬ ∃ i, i < (Yi t).length ∧ ∃ h : i < (Yi t).length, (Yi t)[i] ∈ (Yi t).take i from hd), if_neg hd]
    ·intro i hi _ hb
     have hg := Zft (t := t) (by omega) hi
     simp only [Zb0]
     rw [if_pos (by omega), Zx (by omega), if_neg, Z6 hi (by omega), ZpM hi, hg]
     rw [← hg, Zil]
     exact fun h => hb ⟨hi, h⟩
    ·intro i hi _ hb
     have hg := Zft (t := t) (by omega) hi
     simp only [Zb0]
     rw [if_pos (by omega), Zx (by omega), if_pos]
     ·rfl
     ·rw [← hg, Zil]
      exact hb.2
    ·intro _
     simp only [Zb0]
     rw [if_neg (by omega), List.take_length]
     unfold ZgQ
     rw [ZoO]
     by_cases hn : nullP ∈ Yi t
     ·have hn' := (Zil _ _).2 hn
      rw [if_pos hn']
      cases hc : cbS t <;> simp [hn, hn']
     ·have hn' : ¬ _ := fun h => hn ((Zil nullP (Yi t)).1 h)
      rw [if_neg hn']
      simp [hn, hn']
 ·rw [if_pos hf, if_pos hf]
theorem Zn6 {i : Nat} (hi : i < t.2.1.length) (h64 : t.2.1.length ≤ 64) : (Zs (Xs (i : Int) t) 0) = (by classical exact if ∃ h : i < (Yi t).length, (Yi t)[i] ∈ (Yi t).take i then some (.inr 91) else some (.inl ((i + 1 : Nat) : Int))) := by
 classical
 have hl := pts_len (t := t)
 have hgi := Zft hi (by omega)
 rw [ZbQ (s := 0) (step := Xs (i : Int) t) (fun j => (j : Int)) i (fun j => ∃ h : j < (Yi t).length, (Yi t)[i]'(by omega) = (Yi t)[j]) (some (.inr 91)) (some (.inl ((i + 1 : Nat) : Int))) ?_ ?_ ?_ rfl]
 ·have e : (∃ j, j < i ∧ ∃ h : j < (Yi t).length, (Yi t)[i]'(by omega) = (Yi t)[j]) ↔ ∃ h : i < (Yi t).length, (Yi t)[i] ∈ (Yi t).take i := by
   constructor
   ·rintro ⟨j, hj, hj2, e⟩
    refine ⟨by omega, ?_⟩
    rw [e]
    exact List.mem_take_iff_getElem.2 ⟨j, by omega, rfl⟩
   ·rintro ⟨h, hm⟩
    obtain ⟨j, hj, e⟩ := List.mem_take_iff_getElem.1 hm
    exact ⟨j, by omega, by omega, e.symm⟩
  simp only [e]
 ·intro j hj _ hb
  have hgj := Zft (t := t) (i := j) (by omega) (by omega)
  simp only [Xs]
  rw [if_pos (by omega), Zx (by omega), Zx (by omega), if_neg, Z6 hj (by omega)]
  intro h
  exact hb ⟨by omega, by rw [hgi, hgj]; exact Prod.ext h.1 h.2⟩
 ·intro j hj _ hb
  have hgj := Zft (t := t) (i := j) (by omega) (by omega)
  obtain ⟨_, hb⟩ := hb
  rw [hgi, hgj] at hb
  simp only [Xs]
  rw [if_pos (by omega), Zx (by omega), Zx (by omega), if_pos ⟨congrArg Prod.fst hb, congrArg Prod.snd hb⟩]
  rfl
 ·intro _
  simp only [Xs]
  rw [if_neg (by omega)]
  simp only [ZcO, Z6 hi (by omega)]
theorem ZqP (h64 : t.2.1.length ≤ 64) : ZbB t = (by classical exact some (if nullP ∈ Yi t ∧ ¬ cbS t = true then 92 else 0)) := by
 classical
 unfold ZbB
 have hl := pts_len (t := t)
 rw [ZbQ (s := 0) (step := XV t) (fun j => (j : Int)) (Yi t).length (fun j => ∃ h : j < (Yi t).length, (Yi t)[j] = nullP ∧ ¬ cbS t = true) (some 92) (some 0) ?_ ?_ ?_ rfl]
 ·have e : (∃ j, j < (Yi t).length ∧ ∃ h : j < (Yi t).length, (Yi t)[j] = nullP ∧ ¬ cbS t = true) ↔ nullP ∈ Yi t ∧ ¬ cbS t = true := by
   constructor
   ·rintro ⟨j, _, hj, e, hc⟩
    exact ⟨e ▸ List.getElem_mem hj, hc⟩
   ·rintro ⟨hm, hc⟩
    obtain ⟨j, hj, e⟩ := List.getElem_of_mem hm
    exact ⟨j, hj, hj, e, hc⟩
  simp only [e]
  split <;> rfl
 ·intro i hi _ hb
  have hg := Zft (t := t) (by omega) hi
  simp only [XV]
  rw [if_pos (by omega), Zx (by omega), Zni]
  unfold ZcH
  rw [Zb]
  by_cases hn : (t.2.1[i]'(by omega)).1 = nullP
  ·have hc : cbS t = true := Decidable.byContradiction fun h => hb ⟨hi, by rw [hg, hn], h⟩
   rw [hn]
   simp [hc, Z6 hi (show (Yi t).length ≤ 9223372036854775807 by omega)]
  ·have hn' : ¬ ((decide ((t.2.1[i]'(by omega)).1.1 = zA 32) && decide ((t.2.1[i]'(by omega)).1.2 = 4294967295)) = true) := by
    simp only [Bool.and_eq_true, decide_eq_true_eq]
    exact fun h => hn (Prod.ext h.1 h.2)
   rw [if_neg hn', Zb, if_neg (fun h => hn' h.1), Z6 hi (by omega)]
 ·intro i hi _ hb
  have hg := Zft (t := t) (by omega) hi
  obtain ⟨_, hb, hc⟩ := hb
  rw [hg] at hb
  simp only [XV]
  rw [if_pos (by omega), Zx (by omega), Zni]
  unfold ZcH
  rw [Zb, hb]
  simp [hc]
 ·intro _
  simp only [XV]
  rw [if_neg (by omega)]
  rfl
theorem Zl7 (t : Tapi_Tx) : Zb1 t = some (Zb5 t) := by
 classical
 unfold Zb1 Zb5
 rw [ZqN, Zb]
 by_cases hf : ZdX t = true
 ·have hlim := ZkQ hf
  have h64 := hlim.1
  have h65 := hlim.2.1
  have hp := Znj hlim
  have hnf : ¬ ¬ ZdX t = true := by simp [hf]
  rw [if_neg hnf, if_neg hnf]
  by_cases h0 : t.2.1.length = 0 ∨ t.2.2.1.length = 0
  ·rw [if_pos (show (t.2.1.length : Int) = 0 ∨ (t.2.2.1.length : Int) = 0 by omega), if_pos h0]
  ·rw [if_neg (show ¬ ((t.2.1.length : Int) = 0 ∨ (t.2.2.1.length : Int) = 0) by omega), if_neg h0]
   have hl : (Yk t).length = t.2.2.1.length := by simp [Yk]
   have hget : ∀ i (h1 : i < t.2.2.1.length), (Yk t)[i]'(by omega) = (t.2.2.1[i]).1 := by intro i h1; simp [Yk]
   have hk1 : ZaC (sumI (Yk t)) t = some (if (2100000000000000 : Int) < sumI (Yk t) then 90 else if ZoP (Yi t) then 91 else if nullP ∈ Yi t ∧ ¬ cbS t = true then 92 else 0) := by
    unfold ZaC
    by_cases hs : (2100000000000000 : Int) < sumI (Yk t)
    ·rw [if_pos hs, if_pos hs]
    ·rw [if_neg hs, if_neg hs]
     have hl := pts_len (t := t)
     rw [ZbQ (s := 0) (step := XW t) (fun i => (i : Int)) (Yi t).length (fun i => ∃ h : i < (Yi t).length, (Yi t)[i] ∈ (Yi t).take i) (some 91) (some (if nullP ∈ Yi t ∧ ¬ cbS t = true then 92 else 0)) ?_ ?_ ?_ rfl]
     ·by_cases hd : ZoP (Yi t)
      ·rw [if_pos (show ∃ i, i < (Yi t).length ∧ ∃ h : i < (Yi t).length, (Yi t)[i] ∈ (Yi t).take i from hd), if_pos hd]
      ·rw [if_neg (show ¬ ∃ i, i < (Yi t).length ∧ ∃ h : i < (Yi t).length, (Yi t)[i] ∈ (Yi t).take i from hd), if_neg hd]
     ·intro i hi _ hb
      simp only [XW]
      rw [if_pos (by omega), Zn6 (by omega) h64, if_neg hb]
     ·intro i hi _ hb
      simp only [XW]
      rw [if_pos (by omega), Zn6 (by omega) h64, if_pos hb]
      rfl
     ·intro _
      simp only [XW]
      rw [if_neg (by omega), ZqP h64]
   have hbnd : ∀ i, (∀ j, j < i → ¬ ∃ h : j < (Yk t).length, (2100000000000000 : Int) < (Yk t)[j]) → i ≤ (Yk t).length → 0 ≤ sumI ((Yk t).take i) ∧ sumI ((Yk t).take i) ≤ i * (2100000000000000 : Int) := by
    intro i hj hi
    refine ⟨Zel fun v hv => hp v (List.mem_of_mem_take hv), ?_⟩
    have := Zn5 (l := (Yk t).take i) (c := (2100000000000000 : Int)) (fun v hv => by
     obtain ⟨j, hj2, rfl⟩ := List.mem_take_iff_getElem.1 hv
     have h1 : ¬ (2100000000000000 : Int) < (Yk t)[j] := fun h => hj j (by omega) ⟨by omega, h⟩
     omega)
    rw [List.length_take, Nat.min_eq_left hi] at this
    exact this
   rw [ZbQ (s := (0, 0)) (step := XX t) (fun i => (sumI ((Yk t).take i), (i : Int))) (Yk t).length (fun i => ∃ h : i < (Yk t).length, (2100000000000000 : Int) < (Yk t)[i]) (some 90) (ZaC (sumI (Yk t)) t) ?_ ?_ ?_ rfl]
   ·rw [hk1]
    by_cases hx : ∃ i, i < (Yk t).length ∧ ∃ h : i < (Yk t).length, (2100000000000000 : Int) < (Yk t)[i]
    ·rw [if_pos hx]
     obtain ⟨i, _, hi, hb⟩ := hx
     have h1 := ZjC hp (i + 1)
     rw [Za0 hi] at h1
     have h2 := Zel (l := (Yk t).take i) fun v hv => hp v (List.mem_of_mem_take hv)
     rw [if_pos (by omega)]
    ·rw [if_neg hx]
   ·intro i hi hj hb
    have hb0 := hbnd i hj (by omega)
    have hb1 : ¬ (2100000000000000 : Int) < (Yk t)[i] := fun h => hb ⟨hi, h⟩
    have h0 := hp _ (List.getElem_mem hi)
    have hg := hget i (by omega)
    have hi64 : (i : Int) ≤ 64 := by omega
    simp only [XX]
    rw [if_pos (by omega), Zx (by omega), if_neg (by omega), wi _ (by omega), Z6 hi (by omega), Za0 hi, hg]
   ·intro i hi hj hb
    obtain ⟨_, hb⟩ := hb
    have hg := hget i (by omega)
    simp only [XX]
    rw [if_pos (by omega), Zx (by omega), if_pos (by omega)]
    rfl
   ·intro _
    simp only [XX]
    rw [if_neg (by omega), List.take_length]
 ·rw [if_pos hf, if_pos hf]
end
theorem ZpN {t : Tapi_Tx} (h : Zb5 t = 0) : t.2.1.length ≤ 64 ∧ t.2.2.1.length ≤ 64 := by
 classical
 unfold Zb5 at h
 by_cases hf : ZdX t = true
 ·have := ZkQ hf
  exact ⟨this.1, this.2.1⟩
 ·rw [if_pos hf] at h
  omega
def Z5 (l : List Tapi_Coin) : List Int := l.map fun c => c.2.1.1
def Zg2 (vs : List Int) : Prop := (∃ v ∈ vs, v < 0 ∨ (2100000000000000 : Int) < v) ∨ (2100000000000000 : Int) < sumI vs
section
variable {l : List Tapi_Coin}
theorem Zll {i : Nat} (h1 : i < l.length) (h2 : i < (Z5 l).length) : (Z5 l)[i] = (l[i]).2.1.1 := by simp [Z5]
theorem ZpO (h64 : l.length ≤ 64) : Zby l = (by classical exact if Zg2 (Z5 l) then some (0, false) else some (sumI (Z5 l), true)) := by
 classical
 have hl : (Z5 l).length = l.length := by simp [Z5]
 have hbnd : ∀ i, (∀ j, j < i → ¬ ∃ h : j < (Z5 l).length, (Z5 l)[j] < 0 ∨ (2100000000000000 : Int) < sumI ((Z5 l).take (j + 1))) → i ≤ (Z5 l).length → 0 ≤ sumI ((Z5 l).take i) ∧ sumI ((Z5 l).take i) ≤ (2100000000000000 : Int) := by
  intro i hj hi
  refine ⟨Zel fun v hv => ?_, ?_⟩
  ·obtain ⟨j, hj2, rfl⟩ := List.mem_take_iff_getElem.1 hv
   have h1 : ¬ (Z5 l)[j] < 0 := fun h => hj j (by omega) ⟨by omega, .inl h⟩
   omega
  ·cases i with
   | zero => simp [sumI]
   | succ i =>
    have h2 : ¬ (2100000000000000 : Int) < sumI ((Z5 l).take (i + 1)) := fun h => hj i (by omega) ⟨by omega, .inr h⟩
    omega
 unfold Zby
 rw [ZbQ (s := (0, 0)) (step := Zbl l) (fun i => (sumI ((Z5 l).take i), (i : Int))) (Z5 l).length (fun i => ∃ h : i < (Z5 l).length, (Z5 l)[i] < 0 ∨ (2100000000000000 : Int) < sumI ((Z5 l).take (i + 1))) (some (0, false)) (some (sumI (Z5 l), true)) ?_ ?_ ?_ rfl]
 ·simp only [ZjT (Z5 l) (2100000000000000 : Int) (by decide)]
  by_cases hs : Zg2 (Z5 l)
  ·rw [if_pos (show (∃ v ∈ Z5 l, v < 0 ∨ (2100000000000000 : Int) < v) ∨ (2100000000000000 : Int) < sumI (Z5 l) from hs), if_pos hs]
  ·rw [if_neg (show ¬ ((∃ v ∈ Z5 l, v < 0 ∨ (2100000000000000 : Int) < v) ∨ (2100000000000000 : Int) < sumI (Z5 l)) from hs), if_neg hs]
 ·intro i hi hj hb
  have hb0 := hbnd i hj (by omega)
  have hb1 : ¬ (2100000000000000 : Int) < sumI ((Z5 l).take (i + 1)) := fun h => hb ⟨hi, .inr h⟩
  have h0 : ¬ (Z5 l)[i] < 0 := fun h => hb ⟨hi, .inl h⟩
  have hg := Zll (l := l) (by omega) hi
  rw [Za0 hi] at hb1
  simp only [Zbl]
  rw [if_pos (by omega), Zx (by omega), wi (2100000000000000 - _) (by omega), if_neg (by omega), wi _ (by omega), Z6 hi (by omega), Za0 hi, hg]
 ·intro i hi hj hb
  have hb0 := hbnd i hj (by omega)
  obtain ⟨_, hb⟩ := hb
  have hg := Zll (l := l) (by omega) hi
  rw [Za0 hi] at hb
  simp only [Zbl]
  rw [if_pos (by omega), Zx (by omega), wi _ (by omega), if_pos (by omega)]
  rfl
 ·intro hj
  simp only [Zbl]
  rw [if_neg (by omega), List.take_length]
  rfl
theorem ZrN {t : Tapi_Tx} (h64 : l.length ≤ 64) : Zbo l t = (by classical exact if Zg2 (Z5 l) then some (0, 90) else Zs (Xk t) (sumI (Z5 l), 0)) := by
 classical
 have hl : (Z5 l).length = l.length := by simp [Z5]
 have hbnd : ∀ i, (∀ j, j < i → ¬ ∃ h : j < (Z5 l).length, (Z5 l)[j] < 0 ∨ (2100000000000000 : Int) < (Z5 l)[j]) → i ≤ (Z5 l).length → 0 ≤ sumI ((Z5 l).take i) ∧ sumI ((Z5 l).take i) ≤ i * (2100000000000000 : Int) := by
  intro i hj hi
  have hp : ∀ v ∈ (Z5 l).take i, 0 ≤ v ∧ v ≤ (2100000000000000 : Int) := fun v hv => by
   obtain ⟨j, hj2, rfl⟩ := List.mem_take_iff_getElem.1 hv
   have h1 : ¬ (Z5 l)[j] < 0 := fun h => hj j (by omega) ⟨by omega, .inl h⟩
   have h2 : ¬ (2100000000000000 : Int) < (Z5 l)[j] := fun h => hj j (by omega) ⟨by omega, .inr h⟩
   omega
  refine ⟨Zel fun v hv => (hp v hv).1, ?_⟩
  have := Zn5 (l := (Z5 l).take i) (c := (2100000000000000 : Int)) (fun v hv => (hp v hv).2)
  rw [List.length_take, Nat.min_eq_left hi] at this
  exact this
 unfold Zbo
 rw [ZbQ (s := (0, 0)) (step := ZaF l t) (fun i => (sumI ((Z5 l).take i), (i : Int))) (Z5 l).length (fun i => ∃ h : i < (Z5 l).length, (Z5 l)[i] < 0 ∨ (2100000000000000 : Int) < (Z5 l)[i]) (some (0, 90)) (Zcx (sumI (Z5 l)) t) ?_ ?_ ?_ rfl]
 ·by_cases hx : ∃ i, i < (Z5 l).length ∧ ∃ h : i < (Z5 l).length, (Z5 l)[i] < 0 ∨ (2100000000000000 : Int) < (Z5 l)[i]
  ·have hs : Zg2 (Z5 l) := by
    obtain ⟨i, _, hi, hb⟩ := hx
    exact .inl ⟨_, List.getElem_mem hi, hb⟩
   rw [if_pos hx, if_pos hs]
  ·rw [if_neg hx]
   unfold Zcx
   by_cases hs : (2100000000000000 : Int) < sumI (Z5 l)
   ·have hs' : Zg2 (Z5 l) := .inr hs
    rw [if_pos hs, if_pos hs']
   ·have hs' : ¬ Zg2 (Z5 l) := by
     rintro (⟨v, hv, hb⟩ | h)
     ·obtain ⟨i, hi, rfl⟩ := List.getElem_of_mem hv
      exact hx ⟨i, hi, hi, hb⟩
     ·exact hs h
    rw [if_neg hs, if_neg hs']
 ·intro i hi hj hb
  have hb0 := hbnd i hj (by omega)
  have hb1 : ¬ ((Z5 l)[i] < 0 ∨ (2100000000000000 : Int) < (Z5 l)[i]) := fun h => hb ⟨hi, h⟩
  have hg := Zll (l := l) (by omega) hi
  have hi64 : (i : Int) ≤ 64 := by omega
  simp only [ZaF]
  rw [if_pos (by omega), Zx (by omega), if_neg (by omega), wi _ (by omega), Z6 hi (by omega), Za0 hi, hg]
 ·intro i hi hj hb
  obtain ⟨_, hb⟩ := hb
  have hg := Zll (l := l) (by omega) hi
  simp only [ZaF]
  rw [if_pos (by omega), Zx (by omega), if_pos (by omega)]
  rfl
 ·intro _
  simp only [ZaF]
  rw [if_neg (by omega), List.take_length]
end
theorem ZrO (t : Tapi_Tx) : ZfY t = Xk t := by
 funext ⟨a, b⟩
 rfl
def Znl (n : Int) (l : List Tapi_Output) : Int := l.foldl (fun n x => IntKind.i64.wrap (n - x.1)) n
theorem ZqQ {t : Tapi_Tx} (h : t.2.2.1.length ≤ 64) (n : Int) : ∃ r, Zs (Xk t) (n, 0) = some r := by
 have := Yt (step := Xk t) (fun i => (Znl n (t.2.2.1.take i), (i : Int))) t.2.2.1.length (x := Zbn (Znl n t.2.2.1)) (fun i hi => by
  simp only [Xk]
  rw [if_pos (by omega), Zx hi, Z6 hi (by omega)]
  unfold Znl
  rw [ZoN _ _ hi]) (by
  simp only [Xk]
  rw [if_neg (by omega), List.take_length])
 have e : Zs (Xk t) (n, 0) = Zbn (Znl n t.2.2.1) := by simpa [Znl] using this
 rw [e]
 unfold Zbn
 split <;> exact ⟨_, rfl⟩
theorem ZqR (t : Tapi_Tx) (l : List Tapi_Coin) : ∃ r, Zbz t l = some r ∧ ZeG t l = some r := by
 classical
 unfold Zbz ZeG
 rw [Znk, Zl7, Zb, Zb]
 by_cases hc : Zb5 t = 0
 ·obtain ⟨h64, h65⟩ := ZpN hc
  have hnc : ¬ ¬ Zb5 t = 0 := by simp [hc]
  rw [if_neg hnc, if_neg hnc]
  by_cases hn : (l.length : Int) = (t.2.1.length : Int)
  ·have hnn : ¬ ¬ (l.length : Int) = (t.2.1.length : Int) := by simp [hn]
   rw [if_neg hnn, if_neg hnn]
   have hk : ∃ r, ZdR l t = some r ∧ Zbo l t = some r := by
    rw [ZrN (by omega)]
    unfold ZdR
    rw [ZpO (by omega)]
    by_cases hs : Zg2 (Z5 l)
    ·rw [if_pos hs, if_pos hs]
     exact ⟨_, rfl, rfl⟩
    ·rw [if_neg hs, if_neg hs, Zb, if_neg (by simp), ZrO]
     obtain ⟨r, hr⟩ := ZqQ h65 (sumI (Z5 l))
     exact ⟨r, hr, hr⟩
   obtain ⟨r, hk1, hk2⟩ := hk
   have e1 := Zbd (s := 0) (step := Zbm l t) (fun i => (i : Int)) (l.zip t.2.1) (fun x => ¬ (x.1.1.1 = x.2.1.1 ∧ x.1.1.2 = x.2.1.2)) (some (0, 101)) (some r) (fun i hi hb => by
    have hi2 : i < l.length := by simp at hi; omega
    have hi3 : i < t.2.1.length := by simp at hi; omega
    simp only [List.getElem_zip] at hb
    simp only [Zbm]
    rw [if_pos (by omega), Zx hi2, Zx hi3, if_neg hb, Z6 hi2 (by omega)]) (fun i hi hb => by
    have hi2 : i < l.length := by simp at hi; omega
    have hi3 : i < t.2.1.length := by simp at hi; omega
    simp only [List.getElem_zip] at hb
    simp only [Zbm]
    rw [if_pos (by omega), Zx hi2, Zx hi3, if_pos hb]
    rfl) (by
    have : (l.zip t.2.1).length = l.length := by simp; omega
    simp only [Zbm]
    rw [if_neg (by omega), hk1]) rfl
   have e2 := Zbd (s := 0) (step := ZaG l t) (fun i => (i : Int)) (l.zip t.2.1) (fun x => ¬ (x.1.1.1 = x.2.1.1 ∧ x.1.1.2 = x.2.1.2)) (some (0, 101)) (some r) (fun i hi hb => by
    have hi2 : i < l.length := by simp at hi; omega
    have hi3 : i < t.2.1.length := by simp at hi; omega
    simp only [List.getElem_zip] at hb
    simp only [ZaG]
    rw [if_pos (by omega), Zx hi2, Zx hi3, if_neg hb, Z6 hi2 (by omega)]) (fun i hi hb => by
    have hi2 : i < l.length := by simp at hi; omega
    have hi3 : i < t.2.1.length := by simp at hi; omega
    simp only [List.getElem_zip] at hb
    simp only [ZaG]
    rw [if_pos (by omega), Zx hi2, Zx hi3, if_pos hb]
    rfl) (by
    have : (l.zip t.2.1).length = l.length := by simp; omega
    simp only [ZaG]
    rw [if_neg (by omega), hk2]) rfl
   rw [e1, e2]
   split <;> exact ⟨_, rfl, rfl⟩
  ·rw [if_pos hn, if_pos hn]
   exact ⟨_, rfl, rfl⟩
 ·rw [if_pos hc, if_pos hc]
  exact ⟨_, rfl, rfl⟩
theorem ZoQ (p : Tapi_Plan) : ∃ b, Xw p = some b ∧ Zb2 p = some b := by
 classical
 unfold Xw Zb2
 rw [Znk, Zl7, Zb, Zb, ZoO, Zni]
 by_cases hc : Zb5 p.1 = 0
 ·obtain ⟨h64, h65⟩ := ZpN hc
  have hnc : ¬ ¬ Zb5 p.1 = 0 := by simp [hc]
  rw [if_neg hnc]
  simp only [Zb]
  cases hb : cbS p.1 with
  | true => exact ⟨false, by simp, by simp⟩
  | false =>
   have h1 : ¬ (¬ Zb5 p.1 = 0 ∨ false = true) := by simp [hc]
   rw [if_neg h1, if_neg h1]
   unfold Zg7
   rw [Zb, Zb, wi _ (by omega)]
   by_cases hx : p.2.2.2 < (-1) ∨ (p.1.2.2.1.length : Int) ≤ p.2.2.2
   ·refine ⟨false, ?_, ?_⟩
    ·have e1 := Zbd (s := 0) (step := YU p) (fun i => (i : Int)) p.1.2.1 (fun x => 0 < x.2.2.length) (some false) (some false) (fun i hi hb => by
      simp only [YU]
      rw [if_pos (by omega), Zx hi, if_neg (by omega), Z6 hi (by omega)]) (fun i hi hb => by
      simp only [YU]
      rw [if_pos (by omega), Zx hi, if_pos (by omega)]
      rfl) (by
      simp only [YU]
      rw [if_neg (by omega)]
      unfold ZcN
      rw [if_pos hx]) rfl
     rw [e1]
     split <;> rfl
    ·have h2 : (!(decide ((-1) ≤ p.2.2.2) && decide (p.2.2.2 ≤ (p.1.2.2.1.length : Int) - 1))) = true := by
      rcases hx with hx | hx
      ·have : ¬ (-1) ≤ p.2.2.2 := by omega
       simp [this]
      ·have : ¬ p.2.2.2 ≤ (p.1.2.2.1.length : Int) - 1 := by omega
       simp [this]
     rw [h2, if_pos (.inr rfl)]
   ·have h2 : (!(decide ((-1) ≤ p.2.2.2) && decide (p.2.2.2 ≤ (p.1.2.2.1.length : Int) - 1))) = false := by
     have g1 : (-1) ≤ p.2.2.2 := by omega
     have g2 : p.2.2.2 ≤ (p.1.2.2.1.length : Int) - 1 := by omega
     simp [g1, g2]
    rw [h2]
    have h3 : ¬ ((¬ Zb5 p.1 = 0 ∨ false = true) ∨ false = true) := by simp [hc]
    rw [if_neg h3]
    obtain ⟨r, hr1, hr2⟩ := ZqR p.1 p.2.1
    have e1 := Zbd (s := 0) (step := YU p) (fun i => (i : Int)) p.1.2.1 (fun x => 0 < x.2.2.length) (some false) (some (decide (r.2 = 0) && decide (r.1 = p.2.2.1))) (fun i hi hb => by
     simp only [YU]
     rw [if_pos (by omega), Zx hi, if_neg (by omega), Z6 hi (by omega)]) (fun i hi hb => by
     simp only [YU]
     rw [if_pos (by omega), Zx hi, if_pos (by omega)]
     rfl) (by
     simp only [YU]
     rw [if_neg (by omega)]
     unfold ZcN
     rw [if_neg hx, hr1]
     rfl) rfl
    have e2 := Zbd (s := 0) (step := XY p) (fun i => (i : Int)) p.1.2.1 (fun x => 0 < x.2.2.length) (some false) (some (decide (r.2 = 0) && decide (r.1 = p.2.2.1))) (fun i hi hb => by
     simp only [XY]
     rw [if_pos (by omega), Zx hi, if_neg (by omega), Z6 hi (by omega)]) (fun i hi hb => by
     simp only [XY]
     rw [if_pos (by omega), Zx hi, if_pos (by omega)]
     rfl) (by
     simp only [XY]
     rw [if_neg (by omega)]
     unfold ZcP
     rw [hr2]
     rfl) rfl
    rw [e1, e2]
    split <;> exact ⟨_, rfl, rfl⟩
 ·have hc' : ¬ Zb5 p.1 = 0 := hc
  rw [if_pos hc', Zb, Zb, if_pos (.inl hc'), if_pos (.inl hc'), Zb, if_pos (.inl (.inl hc'))]
  exact ⟨_, rfl, rfl⟩
end Go.Lc
end
section
namespace Go.Lc
open Go.RowKit
open Go.Av
set_option linter.unusedVariables false
set_option linter.unusedSimpArgs false
set_option maxRecDepth 100000
theorem Znm {a b : Arr 4} (h0 : a.at 0 = b.at 0) (h1 : a.at 1 = b.at 1) (h2 : a.at 2 = b.at 2) (h3 : a.at 3 = b.at 3) : a = b := by
 obtain ⟨l, hl⟩ := a
 obtain ⟨m, hm⟩ := b
 match l, hl, m, hm with
 | [x0, x1, x2, x3], _, [y0, y1, y2, y3], _ =>
  simp [Arr.at] at h0 h1 h2 h3
  subst h0 h1 h2 h3
  rfl
def ZdC (a b : Arr 4) : Int :=
 if a.at 3 < b.at 3 then -1 else if b.at 3 < a.at 3 then 1 else if a.at 2 < b.at 2 then -1 else if b.at 2 < a.at 2 then 1 else if a.at 1 < b.at 1 then -1 else if b.at 1 < a.at 1 then 1 else if a.at 0 < b.at 0 then -1 else if b.at 0 < a.at 0 then 1 else 0
theorem ZkR (a b : Arr 4) : ZbH a b = some (ZdC a b) := by
 have st : ∀ (j : Nat), j < 4 → Zs (Za8 a b) (j : Int) = if a.at j < b.at j then some (-1) else if b.at j < a.at j then some 1 else Zs (Za8 a b) ((j : Int) - 1) := by
  intro j hj
  rw [Zgs]
  simp only [Za8]
  rw [if_pos (by omega), Zbc hj, wi _ (by omega)]
  by_cases h1 : a.at j < b.at j
  ·rw [if_pos h1, if_pos h1]
  ·rw [if_neg h1, if_neg h1]
   by_cases h2 : b.at j < a.at j
   ·rw [if_pos h2, if_pos h2]
   ·rw [if_neg h2, if_neg h2]
 have en : Zs (Za8 a b) (((0 : Nat) : Int) - 1) = some 0 := by
  refine Zba ?_
  simp only [Za8]
  rw [if_neg (by omega)]
  rfl
 unfold ZbH ZdC
 have h3 := st 3 (by omega)
 have h2 := st 2 (by omega)
 have h1 := st 1 (by omega)
 have h0 := st 0 (by omega)
 rw [show (3 : Int) = ((3 : Nat) : Int) from rfl, h3, show ((3 : Nat) : Int) - 1 = ((2 : Nat) : Int) from rfl, h2, show ((2 : Nat) : Int) - 1 = ((1 : Nat) : Int) from rfl, h1, show ((1 : Nat) : Int) - 1 = ((0 : Nat) : Int) from rfl, h0, en]
 repeat' split
 all_goals rfl
theorem ZhH (a b : Arr 4) : Zgt a b = some (ZdC a b) := by
 rw [← ZkR]
 rfl
def ltS (s t : Tapi_Signed) : Prop := s.1 < t.1 ∨ s.1 = t.1 ∧ ZdC s.2.1 t.2.1 < 0
def eqK (s t : Tapi_Signed) : Prop := s.1 = t.1 ∧ s.2.1 = t.2.1
noncomputable instance (s t : Tapi_Signed) : Decidable (ltS s t) := by unfold ltS; infer_instance
theorem Zl8 (a : Arr 4) : ZdC a a = 0 := by simp [ZdC]
theorem ZpP {a b : Arr 4} : ZdC a b = 0 ↔ a = b := by
 constructor
 ·intro h
  unfold ZdC at h
  repeat' split at h
  all_goals first | (exact Znm (by omega) (by omega) (by omega) (by omega)) | (exfalso; omega)
 ·rintro rfl; exact Zl8 a
theorem Zn7 {a b : Arr 4} : ZdC a b < 0 ↔ (a.at 3 < b.at 3 ∨ a.at 3 = b.at 3 ∧ (a.at 2 < b.at 2 ∨ a.at 2 = b.at 2 ∧ (a.at 1 < b.at 1 ∨ a.at 1 = b.at 1 ∧ a.at 0 < b.at 0))) := by
 unfold ZdC
 repeat' split
 all_goals omega
theorem Zn8 {a b : Arr 4} : 0 < ZdC a b ↔ ZdC b a < 0 := by
 rw [Zn7]
 unfold ZdC
 repeat' split
 all_goals omega
theorem ZhI (s : Tapi_Signed) : ¬ ltS s s := by
 unfold ltS
 rw [Zl8]
 omega
theorem ZjD {s t u : Tapi_Signed} (h : ltS s t) (h' : ltS t u) : ltS s u := by
 unfold ltS at *
 rw [Zn7] at *
 omega
theorem ZrP (s t : Tapi_Signed) : ltS s t ∨ eqK s t ∨ ltS t s := by
 unfold ltS eqK
 rw [← ZpP (a := s.2.1), ← Zn8 (a := s.2.1)]
 omega
theorem ZtM {s s' t : Tapi_Signed} (h : eqK s s') : ltS s t ↔ ltS s' t := by unfold ltS; rw [h.1, h.2]
theorem Zfu {s t : Tapi_Signed} (h : eqK s t) : eqK t s := ⟨h.1.symm, h.2.symm⟩
theorem ZhJ {s t : Tapi_Signed} (h : ltS s t) : ¬ eqK s t := fun e => ZhI t ((ZtM e).1 h)
theorem Zim (s t : Tapi_Signed) : ∃ c, YW s t = some c ∧ (c < 0 ↔ ltS s t) ∧ (0 < c ↔ ltS t s) := by
 have hor : ∀ x y : Int, XM [x, y] = some (if x = 0 then y else x) := by
  intro x y
  unfold XM
  by_cases hx : x = 0
  ·rw [Za9 (s' := (1 : Int)) (by simp only [Xq]; simp [idx, hx, wi]), if_pos hx]
   by_cases hy : y = 0
   ·rw [Za9 (s' := (2 : Int)) (by simp only [Xq]; simp [idx, hy, wi])]
    refine Zba ?_
    simp [Xq, Lcmp_Or_of_int_k1, hy]
   ·refine ZdK ?_
    simp [Xq, idx, hy]
  ·rw [if_neg hx]
   refine ZdK ?_
   simp [Xq, idx, hx]
 have hc : YO s.1 t.1 = some (if s.1 < t.1 then -1 else if t.1 < s.1 then 1 else 0) := by
  unfold YO Y2
  simp
  split
  ·rfl
  ·split <;> rfl
 refine ⟨if (if s.1 < t.1 then (-1 : Int) else if t.1 < s.1 then 1 else 0) = 0 then ZdC s.2.1 t.2.1 else (if s.1 < t.1 then (-1 : Int) else if t.1 < s.1 then 1 else 0), ?_, ?_⟩
 ·unfold YW
  rw [hc, Zb, ZkR, Zb, hor, Zb]
 ·have := Zn8 (a := s.2.1) (b := t.2.1)
  unfold ltS
  constructor
  ·by_cases h1 : s.1 < t.1
   ·simp [h1]
   ·by_cases h2 : t.1 < s.1
    ·simp [h1, h2]; omega
    ·simp [h1, h2]; omega
  ·by_cases h1 : s.1 < t.1
   ·simp [h1]; omega
   ·by_cases h2 : t.1 < s.1
    ·simp [h1, h2]
    ·simp [h1, h2]; omega
theorem Zl9 (s t : Tapi_Signed) : Zf3 s t = some (decide (ltS s t)) := by
 unfold Zf3 ltS
 rw [ZhH]
 by_cases h1 : s.1 < t.1
 ·simp [h1]
 ·by_cases h2 : s.1 = t.1
  ·simp [h1, h2]
  ·simp [h1, h2]
abbrev Asc (l : List Tapi_Signed) : Prop := l.Pairwise ltS
theorem ZlF {l m : List Tapi_Signed} (hl : Asc l) (hm : Asc m) (h : ∀ s, s ∈ l ↔ s ∈ m) : l = m := by
 induction l generalizing m with
 | nil =>
  cases m with
  | nil => rfl
  | cons b m => exact absurd ((h b).2 (by simp)) (by simp)
 | cons a l ih =>
  cases m with
  | nil => exact absurd ((h a).1 (by simp)) (by simp)
  | cons b m =>
   have hl' := List.pairwise_cons.1 hl
   have hm' := List.pairwise_cons.1 hm
   have hab : a = b := by
    rcases List.mem_cons.1 ((h a).1 (by simp)) with e | e
    ·exact e
    ·rcases List.mem_cons.1 ((h b).2 (by simp)) with f | f
     ·exact f.symm
     ·exact absurd (ZjD (hl'.1 b f) (hm'.1 a e)) (ZhI a)
   subst hab
   congr 1
   refine ih hl'.2 hm'.2 fun s => ?_
   constructor
   ·intro hs
    rcases List.mem_cons.1 ((h s).1 (List.mem_cons_of_mem _ hs)) with e | e
    ·subst e; exact absurd (hl'.1 s hs) (ZhI s)
    ·exact e
   ·intro hs
    rcases List.mem_cons.1 ((h s).2 (List.mem_cons_of_mem _ hs)) with e | e
    ·subst e; exact absurd (hm'.1 s hs) (ZhI s)
    ·exact e
theorem ZrQ {l : List Tapi_Signed} (hl : Asc l) {s t : Tapi_Signed} (hs : s ∈ l) (ht : t ∈ l) (h : eqK s t) : s = t := by
 induction l with
 | nil => cases hs
 | cons a l ih =>
  have hl' := List.pairwise_cons.1 hl
  rcases List.mem_cons.1 hs with e | hs <;> rcases List.mem_cons.1 ht with e' | ht
  ·rw [e, e']
  ·rw [e] at h ⊢; exact absurd h (ZhJ (hl'.1 t ht))
  ·rw [e'] at h ⊢; exact absurd (Zfu h) (ZhJ (hl'.1 s hs))
  ·exact ih hl'.2 hs ht
def Zem (x y : List Tapi_Signed) : Prop := ∃ s ∈ x, ∃ t ∈ y, eqK s t ∧ s ≠ t
theorem Zex {x y : List Tapi_Signed} (h : Zem x y) : Zem y x := by
 obtain ⟨s, hs, t, ht, h1, h2⟩ := h
 exact ⟨t, ht, s, hs, Zfu h1, fun e => h2 e.symm⟩
theorem ZpQ {x : List Tapi_Signed} (h : Asc x) : ¬ Zem x x := by
 rintro ⟨s, hs, t, ht, h1, h2⟩
 exact h2 (ZrQ h hs ht h1)
def ZfH (x y z : List Tapi_Signed) : Prop := Asc z ∧ ∀ s, s ∈ z ↔ s ∈ x ∨ s ∈ y
theorem ZfH.ext {x y z z' : List Tapi_Signed} (h : ZfH x y z) (h' : ZfH x y z') : z = z' := ZlF h.1 h'.1 fun s => (h.2 s).trans (h'.2 s).symm
end Go.Lc
end
section
namespace Go.Lc
open Go.RowKit
open Go.Av
set_option linter.unusedVariables false
set_option linter.unusedSimpArgs false
set_option maxRecDepth 100000
theorem Zin {a : Tapi_Signed} {l : List Tapi_Signed} (h : Asc (a :: l)) : Asc l := (List.pairwise_cons.1 h).2
theorem Zen {a : Tapi_Signed} {l : List Tapi_Signed} (h : Asc (a :: l)) : ∀ s ∈ l, ltS a s := (List.pairwise_cons.1 h).1
theorem ZkS {l : List Tapi_Signed} {a : Tapi_Signed} (h : Asc l) (h' : ∀ s ∈ l, ltS s a) : Asc (l ++ [a]) :=
 List.pairwise_append.2 ⟨h, List.pairwise_singleton _ _, fun s hs t ht => by rw [List.mem_singleton.1 ht]; exact h' s hs⟩
def nilP : Tapi_PartialTx := ((((0, [], [], 0), [], 0, 0), []))
theorem ZjE {x y : List Tapi_Signed} {h : Tapi_Signed} (hh : ∀ t ∈ y, ¬ eqK h t) : Zem (h :: x) y ↔ Zem x y := by
 constructor
 ·rintro ⟨s, hs, t, ht, h1, h2⟩
  rcases List.mem_cons.1 hs with rfl | hs
  ·exact absurd h1 (hh t ht)
  ·exact ⟨s, hs, t, ht, h1, h2⟩
 ·rintro ⟨s, hs, t, ht, h1, h2⟩
  exact ⟨s, List.mem_cons_of_mem _ hs, t, ht, h1, h2⟩
theorem ZoR {x y : List Tapi_Signed} {h : Tapi_Signed} (hh : ∀ t ∈ x, ¬ eqK t h) : Zem x (h :: y) ↔ Zem x y := by
 constructor
 ·intro hc; exact Zex ((ZjE fun t ht hk => hh t ht (Zfu hk)).1 (Zex hc))
 ·intro hc; exact Zex ((ZjE fun t ht hk => hh t ht (Zfu hk)).2 (Zex hc))
theorem Zlm {x : Tapi_Signed} {h : Tapi_Signed} {l : List Tapi_Signed} (hl : Asc (h :: l)) (hx : ltS x h) : ∀ t ∈ h :: l, ltS x t := by
 intro t ht
 rcases List.mem_cons.1 ht with rfl | ht
 ·exact hx
 ·exact ZjD hx (Zen hl t ht)
theorem ZoS {a b : Tapi_PartialTx} (ha : Asc a.2) (hb : Asc b.2) (hla : a.2.length ≤ 400000) (hlb : b.2.length ≤ 400000) {p : Tapi_Plan} (hp : YL a.1 = some p) :
  Tot (Zs (YS a) (a.2, b.2, [])) fun r => (Zem a.2 b.2 ∧ r = (nilP, 350)) ∨ (¬ Zem a.2 b.2 ∧ ∃ z, ZfH a.2 b.2 z ∧ r = ((p, z), 0)) := by
 refine Zkk (fun m q => m = q.1.length + q.2.1.length ∧ Asc q.1 ∧ Asc q.2.1 ∧ Asc q.2.2 ∧ (∀ s ∈ q.2.2, (∀ t ∈ q.1, ltS s t) ∧ ∀ t ∈ q.2.1, ltS s t) ∧ (∀ s, (s ∈ a.2 ∨ s ∈ b.2) ↔ (s ∈ q.2.2 ∨ s ∈ q.1 ∨ s ∈ q.2.1)) ∧ (Zem a.2 b.2 ↔ Zem q.1 q.2.1) ∧ q.2.2.length + q.1.length + q.2.1.length ≤ a.2.length + b.2.length) _ (fun m q hI => ?_) (a.2.length + b.2.length) (a.2, b.2, []) ⟨rfl, ha, hb, .nil, fun s hs => by simp at hs, fun s => by simp, .rfl, by simp⟩
 obtain ⟨x, y, acc⟩ := q
 obtain ⟨hm, hx, hy, hA, hlow, hmem, hcf, hlen⟩ := hI
 simp only at hm hx hy hA hlow hmem hcf hlen
 match x, y with
 | [], y =>
  right
  refine ⟨((p, acc ++ [] ++ y), 0), ?_, .inr ⟨fun hc => ?_, _, ⟨?_, fun s => ?_⟩, rfl⟩⟩
  ·simp only [YS]
   rw [if_neg (by simp), X5, ZV (by simp at hlen ⊢; omega), ZV (by simp at hlen ⊢; omega), hp, Zb]
   rfl
  ·obtain ⟨s, hs, _⟩ := hcf.1 hc
   cases hs
  ·rw [List.append_nil]
   exact List.pairwise_append.2 ⟨hA, hy, fun s hs t ht => (hlow s hs).2 t ht⟩
  ·rw [hmem s]; simp
 | h :: x, [] =>
  right
  refine ⟨((p, acc ++ (h :: x) ++ []), 0), ?_, .inr ⟨fun hc => ?_, _, ⟨?_, fun s => ?_⟩, rfl⟩⟩
  ·simp only [YS]
   rw [if_neg (by simp), X5, ZV (by simp at hlen ⊢; omega), ZV (by simp at hlen ⊢; omega), hp, Zb]
   rfl
  ·obtain ⟨s, hs, t, ht, _⟩ := hcf.1 hc
   cases ht
  ·rw [List.append_nil]
   exact List.pairwise_append.2 ⟨hA, hx, fun s hs t ht => (hlow s hs).1 t ht⟩
  ·rw [hmem s]; simp
 | h :: x, k :: y =>
  obtain ⟨c, hc0, hc1, hc2⟩ := Zim h k
  simp only [List.length_cons] at hlen hm
  by_cases hlt : c < 0
  ·left
   have hhk := hc1.1 hlt
   refine ⟨m - 1, (x, k :: y, acc ++ [h]), by omega, ?_, by simp only [List.length_cons]; omega, Zin hx, hy, ZkS hA fun s hs => (hlow s hs).1 h (by simp), fun s hs => ?_, fun s => ?_, hcf.trans (ZjE fun t ht => ZhJ (Zlm hy hhk t ht)), by simp; omega⟩
   ·simp only [YS]
    rw [if_pos (by simp)]
    simp only [List.getElem?_cons_zero]
    rw [Zb, Zb, hc0, Zb, if_pos hlt, ZV (by omega), ZV (by simp; omega)]
    rfl
   ·rcases List.mem_append.1 hs with hs | hs
    ·exact ⟨fun t ht => (hlow s hs).1 t (List.mem_cons_of_mem _ ht), (hlow s hs).2⟩
    ·rw [List.mem_singleton.1 hs]
     exact ⟨Zen hx, Zlm hy hhk⟩
   ·rw [hmem s]
    simp only [List.mem_append, List.mem_cons, List.not_mem_nil, or_false]
    simp only [or_assoc]
  ·by_cases hgt : 0 < c
   ·left
    have hhk := hc2.1 hgt
    refine ⟨m - 1, (h :: x, y, acc ++ [k]), by omega, ?_, by simp only [List.length_cons]; omega, hx, Zin hy, ZkS hA fun s hs => (hlow s hs).2 k (by simp), fun s hs => ?_, fun s => ?_, hcf.trans (ZoR fun t ht hk => ZhJ (Zlm hx hhk t ht) (Zfu hk)), by simp; omega⟩
    ·simp only [YS]
     rw [if_pos (by simp)]
     simp only [List.getElem?_cons_zero]
     rw [Zb, Zb, hc0, Zb, if_neg hlt, if_pos hgt, ZV (by omega), ZV (by simp; omega)]
     rfl
    ·rcases List.mem_append.1 hs with hs | hs
     ·exact ⟨(hlow s hs).1, fun t ht => (hlow s hs).2 t (List.mem_cons_of_mem _ ht)⟩
     ·rw [List.mem_singleton.1 hs]
      exact ⟨Zlm hx hhk, Zen hy⟩
    ·rw [hmem s]
     simp only [List.mem_append, List.mem_cons, List.not_mem_nil, or_false]
     constructor
     ·rintro (h | (h | h) | h | h) <;> simp [h]
     ·rintro ((h | h) | (h | h) | h) <;> simp [h]
   ·have hk : eqK h k := by
     rcases ZrP h k with e | e | e
     ·exact absurd (hc1.2 e) hlt
     ·exact e
     ·exact absurd (hc2.2 e) hgt
    by_cases he : h = k
    ·left
     subst he
     refine ⟨m - 2, (x, y, acc ++ [h]), by omega, ?_, by simp only; omega, Zin hx, Zin hy, ZkS hA fun s hs => (hlow s hs).1 h (by simp), fun s hs => ?_, fun s => ?_, hcf.trans ?_, by simp; omega⟩
     ·simp only [YS]
      rw [if_pos (by simp)]
      simp only [List.getElem?_cons_zero]
      rw [Zb, Zb, hc0, Zb, if_neg hlt, if_neg hgt, if_neg (by simp), ZV (by omega), ZV (by simp; omega), ZV (by simp; omega)]
      rfl
     ·rcases List.mem_append.1 hs with hs | hs
      ·exact ⟨fun t ht => (hlow s hs).1 t (List.mem_cons_of_mem _ ht), fun t ht => (hlow s hs).2 t (List.mem_cons_of_mem _ ht)⟩
      ·rw [List.mem_singleton.1 hs]
       exact ⟨Zen hx, Zen hy⟩
     ·rw [hmem s]
      simp only [List.mem_append, List.mem_cons, List.not_mem_nil, or_false]
      constructor
      ·rintro (h | (h | h) | h | h) <;> simp [h]
      ·rintro ((h | h) | h | h) <;> simp [h]
     ·constructor
      ·rintro ⟨s, hs, t, ht, h1, h2⟩
       rcases List.mem_cons.1 hs with e | hs <;> rcases List.mem_cons.1 ht with e' | ht
       ·exact absurd (e.trans e'.symm) h2
       ·rw [e] at h1; exact absurd h1 (ZhJ (Zen hy t ht))
       ·rw [e'] at h1; exact absurd (Zfu h1) (ZhJ (Zen hx s hs))
       ·exact ⟨s, hs, t, ht, h1, h2⟩
      ·rintro ⟨s, hs, t, ht, h1, h2⟩
       exact ⟨s, List.mem_cons_of_mem _ hs, t, List.mem_cons_of_mem _ ht, h1, h2⟩
    ·right
     refine ⟨(nilP, 350), ?_, .inl ⟨hcf.2 ⟨h, by simp, k, by simp, hk, he⟩, rfl⟩⟩
     simp only [YS]
     rw [if_pos (by simp)]
     simp only [List.getElem?_cons_zero]
     rw [Zb, Zb, hc0, Zb, if_neg hlt, if_neg hgt, if_pos]
     ·rfl
     ·rintro ⟨e3, e4⟩
      exact he (Prod.ext hk.1 (Prod.ext hk.2 (Prod.ext e3 e4)))
end Go.Lc
end
section
namespace Go.Lc
open Go.RowKit
open Go.Av
set_option linter.unusedVariables false
set_option linter.unusedSimpArgs false
set_option maxRecDepth 100000
theorem wn (n : Nat) (h : n ≤ 18446744073709551615) : IntKind.u64.wrap (n : Int) = n := wu _ (by omega)
theorem Zsn {q : Nat} {low : Nat} (hl : low < 256) (hs : q * 256 + low ≤ 18446744073709551615) : bits .or .u64 (IntKind.u64.wrap ((q : Int) * 256)) (low : Int) = ((q * 256 + low : Nat) : Int) := by
 have e0 : (q : Int) * 256 = ((q * 256 : Nat) : Int) := by simp
 rw [e0, wn _ (by omega)]
 show IntKind.u64.wrap ((BitVec.ofInt 64 ((q * 256 : Nat) : Int) ||| BitVec.ofInt 64 (low : Int)).toNat : Int) = _
 rw [BitVec.toNat_or]
 have e1 : (BitVec.ofInt 64 ((q * 256 : Nat) : Int)).toNat = q * 256 := by
  simp only [BitVec.toNat_ofInt]
  omega
 have e2 : (BitVec.ofInt 64 (low : Int)).toNat = low := by
  simp only [BitVec.toNat_ofInt]
  omega
 have e3 := Nat.two_pow_add_eq_or_of_lt (i := 8) (by simpa using hl) q
 rw [e1, e2, Nat.mul_comm q, show (256 : Nat) = 2 ^ 8 from rfl, ← e3, wn _ (by simp; omega)]
def dig (a : Arr 4) : Prop := ∀ i, i < 4 → ∃ w : Nat, a.at i = (w : Int) ∧ w ≤ 18446744073709551615
def byW (a : Arr 4) (i : Nat) : Int := IntKind.u8.wrap ((a.at (3 - i / 8)).fdiv (2 ^ (56 - (i % 8) * 8)))
def bw (a : Arr 4) : Nat → Arr 32
 | 0 => zA 32
 | i + 1 => (bw a i).put i (byW a i)
theorem Zma (a : Arr 4) : Zaq a = some (bw a 32) := by
 unfold Zaq
 refine Yt (step := Zb3 a) (fun k => ((k : Int), bw a k)) 32 (x := some (bw a 32)) (fun k hk => ?_) ?_
 ·simp only [Zb3]
  have e8 : (k : Int).tmod 8 = ((k % 8 : Nat) : Int) := rfl
  have d8 : (k : Int).tdiv 8 = ((k / 8 : Nat) : Int) := rfl
  rw [if_pos (by omega), e8, d8, wi (((k / 8 : Nat) : Int)) (by omega), wi (((k % 8 : Nat) : Int) * 8) (by omega), wi (56 - ((k % 8 : Nat) : Int) * 8) (by omega), wi (3 - ((k / 8 : Nat) : Int)) (by omega), show (3 : Int) - ((k / 8 : Nat) : Int) = ((3 - k / 8 : Nat) : Int) by omega, Zbc (by omega), ZV (by omega), Zbc hk, Z6 hk (by omega)]
  have e : min (56 - ((k % 8 : Nat) : Int) * 8).toNat 64 = 56 - (k % 8) * 8 := by omega
  rw [e]
  rfl
 ·simp only [Zb3]
  rw [if_neg (by omega)]
  rfl
theorem ZoT (a : Arr 4) : ∀ (n i : Nat), i < n → n ≤ 32 → (bw a n).at i = byW a i
 | 0, i, h, _ => by omega
 | n + 1, i, h, hn => by
  rw [bw]
  by_cases e : i = n
  ·subst e
   rw [Arr.at_put _ (by omega)]
  ·rw [Arr.at_put_ne _ (fun h' => e h'.symm)]
   exact ZoT a n i (by omega) (by omega)
theorem ZrR {a : Arr 4} {i w : Nat} (hw : a.at (3 - i / 8) = (w : Int)) : byW a i = ((w / 2 ^ (56 - (i % 8) * 8) % 256 : Nat) : Int) := by
 unfold byW
 rw [hw]
 have : ((w : Int)).fdiv (2 ^ (56 - (i % 8) * 8)) = ((w / 2 ^ (56 - (i % 8) * 8) : Nat) : Int) := by
  rw [Int.fdiv_eq_ediv_of_nonneg _ (Int.le_of_lt (Int.pow_pos (by decide))), Int.natCast_ediv, Int.natCast_pow]
  rfl
 rw [this]
 generalize w / 2 ^ (56 - (i % 8) * 8) = v
 unfold IntKind.wrap
 simp [IntKind.bits, IntKind.signed]
def fw (x : Arr 32) : Nat → Arr 4
 | 0 => zA 4
 | i + 1 => (fw x i).put (3 - i / 8) (bits .or .u64 (IntKind.u64.wrap ((fw x i).at (3 - i / 8) * 256)) (IntKind.u64.wrap (x.at i)))
theorem ZqS (x : Arr 32) : Yx x = some (fw x 32) := by
 unfold Yx
 refine Yt (step := Xh x) (fun k => ((k : Int), fw x k)) 32 (x := some (fw x 32)) (fun k hk => ?_) ?_
 ·simp only [Xh]
  have d8 : (k : Int).tdiv 8 = ((k / 8 : Nat) : Int) := rfl
  rw [if_pos (by omega), Zbc hk, d8, wi (((k / 8 : Nat) : Int)) (by omega), wi (3 - ((k / 8 : Nat) : Int)) (by omega), show (3 : Int) - ((k / 8 : Nat) : Int) = ((3 - k / 8 : Nat) : Int) by omega, Zbc (by omega), Z6 hk (by omega)]
  rfl
 ·simp only [Xh]
  rw [if_neg (by omega)]
  rfl
theorem ZoK (n i : Nat) : (zA n).at i = 0 := by
 unfold zA Arr.at zs
 simp only [List.getD_eq_getElem?_getD, List.getElem?_replicate]
 split <;> rfl
theorem Zn9 {a : Arr 4} {x : Arr 32} (hx : ∀ i, i < 32 → x.at i = byW a i) : ∀ (n q w : Nat), n ≤ 32 → q < 4 → a.at (3 - q) = (w : Int) → w ≤ 18446744073709551615 → (fw x n).at (3 - q) = ((w / 2 ^ (64 - 8 * min 8 (n - 8 * q)) : Nat) : Int)
 | 0, q, w, _, hq, hw, hw2 => by
  rw [fw, ZoK, Nat.zero_sub, Nat.min_zero]
  have : w / 2 ^ (64 - 8 * 0) = 0 := Nat.div_eq_of_lt (by simp; omega)
  rw [this]
  rfl
 | n + 1, q, w, hn, hq, hw, hw2 => by
  have ih := Zn9 hx n q w (by omega) hq hw hw2
  rw [fw]
  by_cases e : n / 8 = q
  ·subst e
   rw [Arr.at_put _ (by omega), ih, hx n (by omega), ZrR hw]
   have hk : n - 8 * (n / 8) = n % 8 := by omega
   have hk1 : n + 1 - 8 * (n / 8) = n % 8 + 1 := by omega
   rw [hk, hk1, Nat.min_eq_right (by omega), Nat.min_eq_right (by omega), wn _ (by omega)]
   have hlt : n % 8 < 8 := by omega
   generalize n % 8 = k at hlt
   have e1 : 64 - 8 * k = 8 + (56 - k * 8) := by omega
   have e2 : 64 - 8 * (k + 1) = 56 - k * 8 := by omega
   rw [e1, e2, Nat.pow_add, Nat.mul_comm, ← Nat.div_div_eq_div_mul]
   generalize hv : w / 2 ^ (56 - k * 8) = v
   have hv2 : v ≤ w := by rw [← hv]; exact Nat.div_le_self _ _
   rw [Zsn (by omega) (by omega)]
   congr 1
   omega
  ·rw [Arr.at_put_ne _ (by omega), ih]
   congr 4
   omega
theorem Zoa {a : Arr 4} (ha : dig a) {x : Arr 32} (hx : ∀ i, i < 32 → x.at i = byW a i) : Yx x = some a := by
 rw [ZqS]
 refine congrArg some ?_
 have key : ∀ q, q < 4 → (fw x 32).at (3 - q) = a.at (3 - q) := by
  intro q hq
  obtain ⟨w, hw, hw2⟩ := ha (3 - q) (by omega)
  rw [Zn9 hx 32 q w (by omega) hq hw hw2, hw, Nat.min_eq_left (by omega)]
  simp
 generalize fw x 32 = y at key
 have k0 := key 3 (by omega)
 have k1 := key 2 (by omega)
 have k2 := key 1 (by omega)
 have k3 := key 0 (by omega)
 exact Znm k0 k1 k2 k3
theorem Znn (g : Tapi_Signature) : Zaw g = some ((bw g.1 32).l ++ (bw g.2 32).l) := by
 have h1 := (bw g.1 32).hl
 have h2 := (bw g.2 32).hl
 have hr : Zb9 [bw g.1 32, bw g.2 32] = some ((bw g.1 32).l ++ (bw g.2 32).l) := by
  unfold Zb9
  rw [Za9 (s' := (1, (bw g.1 32).l)) (by
   simp only [Zc5]
   rw [if_pos (by simp), show (0 : Int) = ((0 : Nat) : Int) from rfl, Zx (by simp), ZV (by simp)]
   simp [wi]), Za9 (s' := (2, (bw g.1 32).l ++ (bw g.2 32).l)) (by
   simp only [Zc5]
   rw [if_pos (by simp), show (1 : Int) = ((1 : Nat) : Int) from rfl, Zx (by simp), ZV (by simp [Arr.hl])]
   simp [wi])]
  refine Zba ?_
  simp only [Zc5]
  rw [if_neg (by simp)]
  rfl
 unfold Zaw
 rw [Zma, Zb, Zma, Zb, hr, Zb]
def ordA : Arr 4 := (((zA 4).put 0 18446744073709533559).put 1 18446744073709551615).put 2 18446744073709551615 |>.put 3 9223372036854775807
def Zbe (a : Arr 4) : Prop := ZdC a ordA < 0
instance (a : Arr 4) : Decidable (Zbe a) := by unfold Zbe; infer_instance
theorem Zmb (a : Arr 4) : X1 a = some (decide (Zbe a)) := by
 unfold X1 Lgroup_Order
 rw [Zb, ZkR, Zb]
 rfl
theorem Zob {n : Nat} {l : List Int} (h : n ≤ l.length) (i : Nat) (hi : i < n) : (Zhn n l).at i = l.getD i 0 := by
 unfold Zhn Arr.at
 rw [dif_pos h]
 simp only [List.getD_eq_getElem?_getD]
 rw [List.getElem?_take_of_lt hi]
theorem Zno {g : Tapi_Signature} (h1 : dig g.1) (h2 : dig g.2) : ∃ r, Zav ((bw g.1 32).l ++ (bw g.2 32).l) = some r ∧ (r.2 = 0 ↔ Zbe g.1 ∧ Zbe g.2) := by
 have l1 := (bw g.1 32).hl
 have l2 := (bw g.2 32).hl
 have a1 : ∀ i, i < 32 → (Zhn 32 (((bw g.1 32).l ++ (bw g.2 32).l).take 32)).at i = byW g.1 i := by
  intro i hi
  rw [List.take_left' l1, Zob (by omega) i hi]
  exact ZoT g.1 32 i hi (by omega)
 have a2 : ∀ i, i < 32 → (Zhn 32 (((bw g.1 32).l ++ (bw g.2 32).l).drop 32)).at i = byW g.2 i := by
  intro i hi
  rw [List.drop_left' l1, Zob (by omega) i hi]
  exact ZoT g.2 32 i hi (by omega)
 unfold Zav
 rw [if_neg (by simp [l1, l2]), ZV (by simp [l1, l2]), ZV (by simp [l1, l2]), Zoa h1 a1, Zb, ZV (by simp [l1, l2]), ZV (by simp [l1, l2]), Zoa h2 a2, Zb, Zmb, Zb]
 by_cases s1 : Zbe g.1
 ·rw [if_neg (by simp [s1]), Zmb, Zb, Zb]
  by_cases s2 : Zbe g.2
  ·rw [if_neg (by simp [s1, s2])]
   exact ⟨_, rfl, by simp [s1, s2]⟩
  ·rw [if_pos (by simp [s1, s2])]
   exact ⟨_, rfl, by simp [s1, s2]⟩
 ·rw [if_pos (by simp [s1]), Zb, if_pos (by simp [s1])]
  exact ⟨_, rfl, by simp [s1]⟩
end Go.Lc
end
