import Derived.Test.YtbjhgolpnjokbaaGreatLcG2
import Derived.KernelRfl
import Derived.Test.YtbjhgolpnjokbaaGreatLcG1
section
namespace Go.Lc
open Go.RowKit
open Go.Av
set_option maxRecDepth 100000
set_option linter.unusedSimpArgs false
set_option linter.unusedVariables false
noncomputable def ZcJ (a0 : Int) : Option ((Arr 4)) :=
 some ((zA 4).put 0 a0)
theorem Zfe (a0 : Int) : Le (ZcJ a0) (Yp a0) := by
 unfold ZcJ Yp
 try dsimp only
 repeat' (first | (with_reducible exact Le.refl _) | (refine ZK ?_ fun _ => ?_) | (refine ZO ?_ ?_) | (refine ZN ?_) | (refine ZP fun _ => ?_))
noncomputable def Zdl (a0 : Int) : Option ((Arr 4)) :=
 (ZcJ a0).bindF fun y1 => some (y1)
theorem Zlf (a0 : Int) : Le (Zdl a0) (Yy a0) := by
 unfold Zdl Yy
 try dsimp only
 repeat' (first | (with_reducible exact Le.refl _) | (with_reducible apply Zfe) | (refine ZK ?_ fun _ => ?_) | (refine ZO ?_ ?_) | (refine ZN ?_) | (refine ZP fun _ => ?_))
noncomputable def Zfn (a0 : (List Int)) (a1 : (List Int)) : Option ((List Int)) :=
 (chk (0 ≤ IntKind.i64.wrap ((a0.length : Int) + (a1.length : Int)) ∧ IntKind.i64.wrap ((a0.length : Int) + (a1.length : Int)) ≤ 140737488355328)).bindF fun _ => (chk (a0.length ≤ 140737488355328)).bindF fun _ => (chk (a0.length + a1.length ≤ 140737488355328)).bindF fun _ => some (a0 ++ a1)
theorem Zjl (a0 : (List Int)) (a1 : (List Int)) : Le (Zfn a0 a1) (Z2 a0 a1) := by
 unfold Zfn Z2
 try dsimp only
 repeat' (first | (with_reducible exact Le.refl _) | (refine ZK ?_ fun _ => ?_) | (refine ZO ?_ ?_) | (refine ZN ?_) | (refine ZP fun _ => ?_))
noncomputable def ZeL (p8 : (List Int)) : Option (List Int) :=
 some (p8)
theorem ZiR (p8 : (List Int)) : Le (ZeL p8) (Zde p8) := by
 unfold ZeL Zde
 try dsimp only
 repeat' (first | (with_reducible exact Le.refl _) | (refine ZK ?_ fun _ => ?_) | (refine ZO ?_ ?_) | (refine ZN ?_) | (refine ZP fun _ => ?_))
noncomputable def ZeM (a0 : (List (List Int))) : (Int × (List Int)) → Option ((Int × (List Int)) ⊕ ((List Int)))
 | (p7, p8) => (if p7 < (a0.length : Int) then (idx (a0) (p7)).bindF fun x11 => (Zfn p8 x11).bindF fun y12 => some (.inl (IntKind.i64.wrap (p7 + 1), y12)) else (ZeL p8).map Sum.inr)
theorem ZiS (a0 : (List (List Int))) (s) : Le (ZeM a0 s) (Zdf a0 s) := by
 obtain ⟨p7, p8⟩ := s
 unfold ZeM Zdf
 try dsimp only
 repeat' (first | (with_reducible exact Le.refl _) | (with_reducible apply Zjl) | (with_reducible apply ZiR) | (refine ZK ?_ fun _ => ?_) | (refine ZO ?_ ?_) | (refine ZN ?_) | (refine ZP fun _ => ?_))
noncomputable def Zcy (a0 : (List (List Int))) : Option ((List Int)) :=
 ZdZ (ZeM a0) (0, ([] : (List Int)))
theorem Zdm (a0 : (List (List Int))) : Le (Zcy a0) (Xn a0) := by
 unfold Zcy Xn
 try dsimp only
 repeat' (first | (with_reducible exact Le.refl _) | (with_reducible apply ZiS) | (refine ZK ?_ fun _ => ?_) | (refine ZO ?_ ?_) | (refine ZN ?_) | (refine ZP fun _ => ?_))
noncomputable def ZdN (a0 : Tapi_Op) : Option ((List Int)) :=
 (if a0.1 = 1 then (Zcy [[1, IntKind.u8.wrap ((a0.2.1.length : Int))], a0.2.1]).bindF fun y1 => some (y1) else (if a0.1 = 11 then some ([11, IntKind.u8.wrap (a0.2.2.1), IntKind.u8.wrap (a0.2.2.2)]) else some ([IntKind.u8.wrap (a0.1)])))
theorem Zf2 (a0 : Tapi_Op) : Le (ZdN a0) (Xq a0) := by
 unfold ZdN Xq
 try dsimp only
 repeat' (first | (with_reducible exact Le.refl _) | (with_reducible apply Zdm) | (refine ZK ?_ fun _ => ?_) | (refine ZO ?_ ?_) | (refine ZN ?_) | (refine ZP fun _ => ?_))
noncomputable def ZcK (a0 : Tapi_Op) (p1 : Bool) : Option Int :=
 (if p1 = true then some (6) else (if 255 < (a0.2.1.length : Int) then some (4) else (if (a0.1 = 11 ∧ (((a0.2.2.2 < 1 ∨ 15 < a0.2.2.2) ∨ a0.2.2.1 < 1) ∨ a0.2.2.2 < a0.2.2.1)) then some (5) else some (0))))
theorem Zii (a0 : Tapi_Op) (p1 : Bool) : Le (ZcK a0 p1) (YE a0 p1) := by
 unfold ZcK YE
 try dsimp only
 repeat' (first | (with_reducible exact Le.refl _) | (refine ZK ?_ fun _ => ?_) | (refine ZO ?_ ?_) | (refine ZN ?_) | (refine ZP fun _ => ?_))
noncomputable def Zf3 (a0 : Tapi_Op) : Option (Int) :=
 (if (a0.1 < 1 ∨ 17 < a0.1) then some (80) else (if (0 < (a0.2.1.length : Int) ∧ ¬ (a0.1 = 1)) then ZcK a0 (decide (0 < (a0.2.1.length : Int)) && !(decide (a0.1 = 1))) else ZcK a0 ((!(decide (a0.2.2.1 = 0)) || !(decide (a0.2.2.2 = 0))) && !(decide (a0.1 = 11)))))
theorem ZjV (a0 : Tapi_Op) : Le (Zf3 a0) (Zaf a0) := by
 unfold Zf3 Zaf
 try dsimp only
 repeat' (first | (with_reducible exact Le.refl _) | (with_reducible apply Zii) | (refine ZK ?_ fun _ => ?_) | (refine ZO ?_ ?_) | (refine ZN ?_) | (refine ZP fun _ => ?_))
noncomputable def ZcU (p18 : (List Int)) : Option ((List Int) × Int) :=
 some ((p18, 0))
theorem ZgG (p18 : (List Int)) : Le (ZcU p18) (Zbu p18) := by
 unfold ZcU Zbu
 try dsimp only
 repeat' (first | (with_reducible exact Le.refl _) | (refine ZK ?_ fun _ => ?_) | (refine ZO ?_ ?_) | (refine ZN ?_) | (refine ZP fun _ => ?_))
noncomputable def ZcV (a0 : (List Tapi_Op)) : (Int × (List Int)) → Option ((Int × (List Int)) ⊕ ((List Int) × Int))
 | (p17, p18) => (if p17 < (a0.length : Int) then (idx (a0) (p17)).bindF fun x22 => (ZdN x22).bindF fun y23 => (chk (p18.length + y23.length ≤ 140737488355328)).bindF fun _ => (if 520 < (p18.length + y23.length : Int) then some (.inr ((([] : (List Int)), 4))) else some (.inl (IntKind.i64.wrap (p17 + 1), p18 ++ y23))) else (ZcU p18).map Sum.inr)
theorem ZgH (a0 : (List Tapi_Op)) (s) : Le (ZcV a0 s) (Zbv a0 s) := by
 obtain ⟨p17, p18⟩ := s
 unfold ZcV Zbv
 try dsimp only
 repeat' (first | (with_reducible exact Le.refl _) | (with_reducible apply Zf2) | (with_reducible apply ZgG) | (refine ZK ?_ fun _ => ?_) | (refine ZO ?_ ?_) | (refine ZN ?_) | (refine ZP fun _ => ?_))
noncomputable def ZcW (a0 : (List Tapi_Op)) : Option ((List Int) × Int) :=
 ZdZ (ZcV a0) (0, [])
theorem ZgI (a0 : (List Tapi_Op)) : Le (ZcW a0) (Zbw a0) := by
 unfold ZcW Zbw
 try dsimp only
 repeat' (first | (with_reducible exact Le.refl _) | (with_reducible apply ZgH) | (refine ZK ?_ fun _ => ?_) | (refine ZO ?_ ?_) | (refine ZN ?_) | (refine ZP fun _ => ?_))
noncomputable def ZcX (a0 : (List Tapi_Op)) : Int → Option ((Int) ⊕ ((List Int) × Int))
 | p6 => (if p6 < (a0.length : Int) then (idx (a0) (p6)).bindF fun x25 => (Zf3 x25).bindF fun y26 => (if ¬ (y26 = 0) then some (.inr ((([] : (List Int)), y26))) else some (.inl (IntKind.i64.wrap (p6 + 1)))) else (ZcW a0).map Sum.inr)
theorem ZgJ (a0 : (List Tapi_Op)) (s) : Le (ZcX a0 s) (Zbx a0 s) := by
 unfold ZcX Zbx
 try dsimp only
 repeat' (first | (with_reducible exact Le.refl _) | (with_reducible apply ZjV) | (with_reducible apply ZgI) | (refine ZK ?_ fun _ => ?_) | (refine ZO ?_ ?_) | (refine ZN ?_) | (refine ZP fun _ => ?_))
noncomputable def Zep (a0 : (List Tapi_Op)) : Option ((List Int) × Int) :=
 ZdZ (ZcX a0) 0
theorem Zij (a0 : (List Tapi_Op)) : Le (Zep a0) (Xj a0) := by
 unfold Zep Xj
 try dsimp only
 repeat' (first | (with_reducible exact Le.refl _) | (with_reducible apply ZgJ) | (refine ZK ?_ fun _ => ?_) | (refine ZO ?_ ?_) | (refine ZN ?_) | (refine ZP fun _ => ?_))
noncomputable def Zeq (p9 : (Arr 32)) : Option (Arr 32) :=
 some (p9)
theorem Zik (p9 : (Arr 32)) : Le (Zeq p9) (ZcF p9) := by
 unfold Zeq ZcF
 try dsimp only
 repeat' (first | (with_reducible exact Le.refl _) | (refine ZK ?_ fun _ => ?_) | (refine ZO ?_ ?_) | (refine ZN ?_) | (refine ZP fun _ => ?_))
noncomputable def Zer (a0 : (Arr 4)) : (Int × (Arr 32)) → Option ((Int × (Arr 32)) ⊕ ((Arr 32)))
 | (p8, p9) => (if p8 < 32 then (inA (4) (IntKind.i64.wrap ((IntKind.i64.wrap (31 - p8)).tdiv 8))).bindF fun j13 => (chk (¬ (IntKind.i64.wrap (8 * ((IntKind.i64.wrap (31 - p8)).tmod 8)) < 0))).bindF fun _ => (inA (32) (p8)).bindF fun j15 => some (.inl (IntKind.i64.wrap (p8 + 1), p9.put j15 (IntKind.u8.wrap ((a0.at j13).fdiv (2 ^ (min (IntKind.i64.wrap (8 * ((IntKind.i64.wrap (31 - p8)).tmod 8))).toNat 64)))))) else (Zeq p9).map Sum.inr)
theorem Zil (a0 : (Arr 4)) (s) : Le (Zer a0 s) (ZcG a0 s) := by
 obtain ⟨p8, p9⟩ := s
 unfold Zer ZcG
 try dsimp only
 repeat' (first | (with_reducible exact Le.refl _) | (with_reducible apply Zik) | (refine ZK ?_ fun _ => ?_) | (refine ZO ?_ ?_) | (refine ZN ?_) | (refine ZP fun _ => ?_))
noncomputable def Zf4 (a0 : (Arr 4)) : Option ((Arr 32)) :=
 ZdZ (Zer a0) (0, zA 32)
theorem ZjW (a0 : (Arr 4)) : Le (Zf4 a0) (Zae a0) := by
 unfold Zf4 Zae
 try dsimp only
 repeat' (first | (with_reducible exact Le.refl _) | (with_reducible apply Zil) | (refine ZK ?_ fun _ => ?_) | (refine ZO ?_ ?_) | (refine ZN ?_) | (refine ZP fun _ => ?_))
noncomputable def ZfI (a0 : (Arr 4)) : Option ((List Int)) :=
 (Zf4 a0).bindF fun y1 => some (y1.l)
theorem ZhM (a0 : (Arr 4)) : Le (ZfI a0) (ZaK a0) := by
 unfold ZfI ZaK
 try dsimp only
 repeat' (first | (with_reducible exact Le.refl _) | (with_reducible apply ZjW) | (refine ZK ?_ fun _ => ?_) | (refine ZO ?_ ?_) | (refine ZN ?_) | (refine ZP fun _ => ?_))
noncomputable def Zes (p9 : (List Tapi_Op)) (a0 : Int) (a1 : (List (Arr 4))) : Option ((List Int) × Int) :=
 (chk (p9.length + 1 ≤ 2932031007402)).bindF fun _ => (Zep (p9 ++ [(11, ([] : (List Int)), a0, (a1.length : Int))])).bindF fun y14 => some ((y14.1, y14.2))
theorem Zim (p9 : (List Tapi_Op)) (a0 : Int) (a1 : (List (Arr 4))) : Le (Zes p9 a0 a1) (ZcH p9 a0 a1) := by
 unfold Zes ZcH
 try dsimp only
 repeat' (first | (with_reducible exact Le.refl _) | (with_reducible apply Zij) | (refine ZK ?_ fun _ => ?_) | (refine ZO ?_ ?_) | (refine ZN ?_) | (refine ZP fun _ => ?_))
noncomputable def Zet (a1 : (List (Arr 4))) (a0 : Int) : (Int × (List Tapi_Op)) → Option ((Int × (List Tapi_Op)) ⊕ ((List Int) × Int))
 | (p8, p9) => (if p8 < (a1.length : Int) then (idx (a1) (p8)).bindF fun x15 => (ZfI x15).bindF fun y16 => (chk (p9.length + 1 ≤ 2932031007402)).bindF fun _ => some (.inl (IntKind.i64.wrap (p8 + 1), p9 ++ [(1, y16, 0, 0)])) else (Zes p9 a0 a1).map Sum.inr)
theorem Zin (a1 : (List (Arr 4))) (a0 : Int) (s) : Le (Zet a1 a0 s) (ZcI a1 a0 s) := by
 obtain ⟨p8, p9⟩ := s
 unfold Zet ZcI
 try dsimp only
 repeat' (first | (with_reducible exact Le.refl _) | (with_reducible apply ZhM) | (with_reducible apply Zim) | (refine ZK ?_ fun _ => ?_) | (refine ZO ?_ ?_) | (refine ZN ?_) | (refine ZP fun _ => ?_))
noncomputable def Zeu (a0 : Int) (a1 : (List (Arr 4))) : Option ((List Int) × Int) :=
 ZdZ (Zet a1 a0) (0, [])
theorem Zgh (a0 : Int) (a1 : (List (Arr 4))) : Le (Zeu a0 a1) (Xo a0 a1) := by
 unfold Zeu Xo
 try dsimp only
 repeat' (first | (with_reducible exact Le.refl _) | (with_reducible apply Zin) | (refine ZK ?_ fun _ => ?_) | (refine ZO ?_ ?_) | (refine ZN ?_) | (refine ZP fun _ => ?_))
noncomputable def ZcY (p7 : (Arr 4)) : Option (Arr 4) :=
 some (p7)
theorem ZgK (p7 : (Arr 4)) : Le (ZcY p7) (Zby p7) := by
 unfold ZcY Zby
 try dsimp only
 repeat' (first | (with_reducible exact Le.refl _) | (refine ZK ?_ fun _ => ?_) | (refine ZO ?_ ?_) | (refine ZN ?_) | (refine ZP fun _ => ?_))
noncomputable def ZcZ (a0 : (Arr 32)) : (Int × (Arr 4)) → Option ((Int × (Arr 4)) ⊕ ((Arr 4)))
 | (p6, p7) => (if p6 < 32 then (inA (32) (p6)).bindF fun j10 => (inA (4) (IntKind.i64.wrap (3 - (IntKind.i64.wrap ((p6).tdiv 8))))).bindF fun j11 => some (.inl (IntKind.i64.wrap (p6 + 1), p7.put j11 (bits .or .u64 (IntKind.u64.wrap ((p7.at j11) * 256)) (IntKind.u64.wrap (a0.at j10))))) else (ZcY p7).map Sum.inr)
theorem ZgL (a0 : (Arr 32)) (s) : Le (ZcZ a0 s) (Y8 a0 s) := by
 obtain ⟨p6, p7⟩ := s
 unfold ZcZ Y8
 try dsimp only
 repeat' (first | (with_reducible exact Le.refl _) | (with_reducible apply ZgK) | (refine ZK ?_ fun _ => ?_) | (refine ZO ?_ ?_) | (refine ZN ?_) | (refine ZP fun _ => ?_))
noncomputable def Zev (a0 : (Arr 32)) : Option ((Arr 4)) :=
 ZdZ (ZcZ a0) (0, zA 4)
theorem Zio (a0 : (Arr 32)) : Le (Zev a0) (Yq a0) := by
 unfold Zev Yq
 try dsimp only
 repeat' (first | (with_reducible exact Le.refl _) | (with_reducible apply ZgL) | (refine ZK ?_ fun _ => ?_) | (refine ZO ?_ ?_) | (refine ZN ?_) | (refine ZP fun _ => ?_))
noncomputable def Zfo (a0 : Int) : Option (Bool) :=
 some ((decide (1 ≤ a0) && decide (a0 ≤ 17)))
theorem Zjm (a0 : Int) : Le (Zfo a0) (XT a0) := by
 unfold Zfo XT
 try dsimp only
 repeat' (first | (with_reducible exact Le.refl _) | (refine ZK ?_ fun _ => ?_) | (refine ZO ?_ ?_) | (refine ZN ?_) | (refine ZP fun _ => ?_))
noncomputable def ZeN (p8 : (List Int)) : Option (List Int) :=
 some (p8)
theorem ZiT (p8 : (List Int)) : Le (ZeN p8) (Zdg p8) := by
 unfold ZeN Zdg
 try dsimp only
 repeat' (first | (with_reducible exact Le.refl _) | (refine ZK ?_ fun _ => ?_) | (refine ZO ?_ ?_) | (refine ZN ?_) | (refine ZP fun _ => ?_))
noncomputable def ZeO (a0 : (List (List Int))) : (Int × (List Int)) → Option ((Int × (List Int)) ⊕ ((List Int)))
 | (p7, p8) => (if p7 < (a0.length : Int) then (idx (a0) (p7)).bindF fun x11 => (chk (p8.length + x11.length ≤ 140737488355328)).bindF fun _ => some (.inl (IntKind.i64.wrap (p7 + 1), p8 ++ x11)) else (ZeN p8).map Sum.inr)
theorem ZiU (a0 : (List (List Int))) (s) : Le (ZeO a0 s) (Zdh a0 s) := by
 obtain ⟨p7, p8⟩ := s
 unfold ZeO Zdh
 try dsimp only
 repeat' (first | (with_reducible exact Le.refl _) | (with_reducible apply ZiT) | (refine ZK ?_ fun _ => ?_) | (refine ZO ?_ ?_) | (refine ZN ?_) | (refine ZP fun _ => ?_))
noncomputable def Zgv (a0 : (List (List Int))) : Option ((List Int)) :=
 ZdZ (ZeO a0) (0, [])
theorem Zkf (a0 : (List (List Int))) : Le (Zgv a0) (ZaO a0) := by
 unfold Zgv ZaO
 try dsimp only
 repeat' (first | (with_reducible exact Le.refl _) | (with_reducible apply ZiU) | (refine ZK ?_ fun _ => ?_) | (refine ZO ?_ ?_) | (refine ZN ?_) | (refine ZP fun _ => ?_))
noncomputable def Zew (a0 : Int) (a1 : Int) : Option (Bool) :=
 some ((((decide (1 ≤ a1) && decide (a1 ≤ 15)) && decide (1 ≤ a0)) && decide (a0 ≤ a1)))
theorem Zip (a0 : Int) (a1 : Int) : Le (Zew a0 a1) (Xk a0 a1) := by
 unfold Zew Xk
 try dsimp only
 repeat' (first | (with_reducible exact Le.refl _) | (refine ZK ?_ fun _ => ?_) | (refine ZO ?_ ?_) | (refine ZN ?_) | (refine ZP fun _ => ?_))
noncomputable def ZbF (x1 : Int) (p14 : (List Int)) (p15 : Int) (p16 : Int) (p17 : (List Int)) : Option (Tapi_Op × (List Int) × Int) :=
 some (((IntKind.i64.wrap (x1), p17, p15, p16), p14, 0))
theorem Ziq (x1 : Int) (p14 : (List Int)) (p15 : Int) (p16 : Int) (p17 : (List Int)) : Le (ZbF x1 p14 p15 p16 p17) (Xl x1 p14 p15 p16 p17) := by
 unfold ZbF Xl
 try dsimp only
 repeat' (first | (with_reducible exact Le.refl _) | (refine ZK ?_ fun _ => ?_) | (refine ZO ?_ ?_) | (refine ZN ?_) | (refine ZP fun _ => ?_))
noncomputable def Zf5 (a0 : (List Int)) : Option (Tapi_Op × (List Int) × Int) :=
 ((a0)[0]?).bindF fun x1 => (Zfo (IntKind.i64.wrap (x1))).bindF fun y2 => (if ¬ (y2 = true) then some (((0, ([] : (List Int)), 0, 0), ([] : (List Int)), 80)) else (chk (1 ≤ (a0.length : Int))).bindF fun _ => (if IntKind.i64.wrap (x1) = 1 then ((if (((a0).drop 1).length : Int) = 0 then some (false) else (((a0).drop 1)[0]?).bindF fun x18 => some (decide (IntKind.i64.wrap ((((a0).drop 1).length : Int) - 1) < IntKind.i64.wrap (x18))))).bindF fun z19 => (if ((((a0).drop 1).length : Int) = 0 ∨ z19 = true) then some (((0, ([] : (List Int)), 0, 0), ([] : (List Int)), 1)) else (((a0).drop 1)[0]?).bindF fun x20 => (chk (1 ≤ IntKind.i64.wrap (1 + (IntKind.i64.wrap (x20))) ∧ IntKind.i64.wrap (1 + (IntKind.i64.wrap (x20))) ≤ (((a0).drop 1).length : Int))).bindF fun _ => (Zgv [(((a0).drop 1).take ((IntKind.i64.wrap (1 + (IntKind.i64.wrap (x20)))).toNat)).drop 1]).bindF fun y22 => (chk (0 ≤ IntKind.i64.wrap (1 + (IntKind.i64.wrap (x20))) ∧ IntKind.i64.wrap (1 + (IntKind.i64.wrap (x20))) ≤ (((a0).drop 1).length : Int))).bindF fun _ => ZbF x1 (((a0).drop 1).drop ((IntKind.i64.wrap (1 + (IntKind.i64.wrap (x20)))).toNat)) 0 0 y22) else (if IntKind.i64.wrap (x1) = 11 then (if (((a0).drop 1).length : Int) < 2 then some (((0, ([] : (List Int)), 0, 0), ([] : (List Int)), 1)) else (((a0).drop 1)[0]?).bindF fun x24 => (((a0).drop 1)[1]?).bindF fun x25 => (chk (2 ≤ (((a0).drop 1).length : Int))).bindF fun _ => (Zew (IntKind.i64.wrap (x24)) (IntKind.i64.wrap (x25))).bindF fun y27 => (if ¬ (y27 = true) then some (((0, ([] : (List Int)), 0, 0), ([] : (List Int)), 5)) else ZbF x1 (((a0).drop 1).drop 2) (IntKind.i64.wrap (x24)) (IntKind.i64.wrap (x25)) [])) else ZbF x1 ((a0).drop 1) 0 0 [])))
theorem ZjX (a0 : (List Int)) : Le (Zf5 a0) (Zag a0) := by
 unfold Zf5 Zag
 try dsimp only
 repeat' (first | (with_reducible exact Le.refl _) | (with_reducible apply Zjm) | (with_reducible apply Zkf) | (with_reducible apply Ziq) | (with_reducible apply Zip) | (refine ZK ?_ fun _ => ?_) | (refine ZO ?_ ?_) | (refine ZN ?_) | (refine ZP fun _ => ?_))
noncomputable def Zd0 (p7 : (List Tapi_Op)) : Option ((List Tapi_Op) × Int) :=
 some ((p7, 0))
theorem ZhO (p7 : (List Tapi_Op)) : Le (Zd0 p7) (Zcb p7) := by
 unfold Zd0 Zcb
 try dsimp only
 repeat' (first | (with_reducible exact Le.refl _) | (refine ZK ?_ fun _ => ?_) | (refine ZO ?_ ?_) | (refine ZN ?_) | (refine ZP fun _ => ?_))
noncomputable def Fscript_Parse_s1 : ((List Int) × (List Tapi_Op)) → Option (((List Int) × (List Tapi_Op)) ⊕ ((List Tapi_Op) × Int))
 | (p6, p7) => (if 0 < (p6.length : Int) then (Zf5 p6).bindF fun y10 => (if ¬ (y10.2.2 = 0) then some (.inr ((([] : (List Tapi_Op)), y10.2.2))) else (chk (p7.length + 1 ≤ 2932031007402)).bindF fun _ => some (.inl (y10.2.1, p7 ++ [y10.1]))) else (Zd0 p7).map Sum.inr)
theorem ZhP (s) : Le (Fscript_Parse_s1 s) (Lscript_Parse_s1 s) := by
 obtain ⟨p6, p7⟩ := s
 unfold Fscript_Parse_s1 Lscript_Parse_s1
 try dsimp only
 repeat' (first | (with_reducible exact Le.refl _) | (with_reducible apply ZjX) | (with_reducible apply ZhO) | (refine ZK ?_ fun _ => ?_) | (refine ZO ?_ ?_) | (refine ZN ?_) | (refine ZP fun _ => ?_))
noncomputable def ZdO (a0 : (List Int)) : Option ((List Tapi_Op) × Int) :=
 (if 520 < (a0.length : Int) then some ((([] : (List Tapi_Op)), 4)) else ZdZ (Fscript_Parse_s1) (a0, []))
theorem Zf6 (a0 : (List Int)) : Le (ZdO a0) (Xr a0) := by
 unfold ZdO Xr
 try dsimp only
 repeat' (first | (with_reducible exact Le.refl _) | (with_reducible apply ZhP) | (refine ZK ?_ fun _ => ?_) | (refine ZO ?_ ?_) | (refine ZN ?_) | (refine ZP fun _ => ?_))
noncomputable def Zdp (p10 : Int) : Option (Int × Int) :=
 some ((p10, 0))
theorem Zhg (p10 : Int) : Le (Zdp p10) (ZaC p10) := by
 unfold Zdp ZaC
 try dsimp only
 repeat' (first | (with_reducible exact Le.refl _) | (refine ZK ?_ fun _ => ?_) | (refine ZO ?_ ?_) | (refine ZN ?_) | (refine ZP fun _ => ?_))
noncomputable def Zdq (a0 : (List Int)) : (Int × Int) → Option ((Int × Int) ⊕ (Int × Int))
 | (p10, p11) => (if p11 < (a0.length : Int) then (idx (a0) (p11)).bindF fun x14 => (chk (¬ (IntKind.i64.wrap (8 * p11) < 0))).bindF fun _ => some (.inl (bits .or .u32 p10 (IntKind.u32.wrap ((IntKind.u32.wrap (x14)) * (2 ^ (min (IntKind.i64.wrap (8 * p11)).toNat 32)))), IntKind.i64.wrap (p11 + 1))) else (Zdp p10).map Sum.inr)
theorem Zhh (a0 : (List Int)) (s) : Le (Zdq a0 s) (ZaD a0 s) := by
 obtain ⟨p10, p11⟩ := s
 unfold Zdq ZaD
 try dsimp only
 repeat' (first | (with_reducible exact Le.refl _) | (with_reducible apply Zhg) | (refine ZK ?_ fun _ => ?_) | (refine ZO ?_ ?_) | (refine ZN ?_) | (refine ZP fun _ => ?_))
noncomputable def ZeP (a0 : (List Int)) : Option (Int × Int) :=
 ((if 4 < (a0.length : Int) then some (false) else ((if 0 < (a0.length : Int) then (idx (a0) (IntKind.i64.wrap ((a0.length : Int) - 1))).bindF fun x1 => some (decide (x1 = 0)) else some (false))).bindF fun z2 => some ((decide (0 < (a0.length : Int)) && z2)))).bindF fun z3 => (if (4 < (a0.length : Int) ∨ z3 = true) then some ((0, 82)) else ZdZ (Zdq a0) (0, 0))
theorem ZiV (a0 : (List Int)) : Le (ZeP a0) (Xy a0) := by
 unfold ZeP Xy
 try dsimp only
 repeat' (first | (with_reducible exact Le.refl _) | (with_reducible apply Zhh) | (refine ZK ?_ fun _ => ?_) | (refine ZO ?_ ?_) | (refine ZN ?_) | (refine ZP fun _ => ?_))
noncomputable def ZbG (a0 : (List Int)) : Option (Int) :=
 ((if (a0.length : Int) < 2 then some (false) else ((a0)[0]?).bindF fun x1 => some (!(decide (x1 = 1))))).bindF fun z2 => (if ((a0.length : Int) < 2 ∨ z2 = true) then some (0) else ((a0)[1]?).bindF fun x3 => (if (a0.length : Int) < IntKind.i64.wrap ((IntKind.i64.wrap (2 + (IntKind.i64.wrap (x3)))) + 2) then some (0) else (chk (2 ≤ IntKind.i64.wrap (2 + (IntKind.i64.wrap (x3))) ∧ IntKind.i64.wrap (2 + (IntKind.i64.wrap (x3))) ≤ (a0.length : Int))).bindF fun _ => (ZeP (((a0).take ((IntKind.i64.wrap (2 + (IntKind.i64.wrap (x3)))).toNat)).drop 2)).bindF fun y5 => (if ¬ (y5.2 = 0) then some (0) else (idx (a0) (IntKind.i64.wrap (2 + (IntKind.i64.wrap (x3))))).bindF fun x6 => ((if (¬ (x6 = 12) ∧ ¬ (x6 = 13)) then some (false) else (idx (a0) (IntKind.i64.wrap ((IntKind.i64.wrap (2 + (IntKind.i64.wrap (x3)))) + 1))).bindF fun x7 => some (!(decide (x7 = 3))))).bindF fun z8 => (if ((¬ (x6 = 12) ∧ ¬ (x6 = 13)) ∨ z8 = true) then some (0) else some (IntKind.i64.wrap ((IntKind.i64.wrap (2 + (IntKind.i64.wrap (x3)))) + 2))))))
theorem Zd8 (a0 : (List Int)) : Le (ZbG a0) (YF a0) := by
 unfold ZbG YF
 try dsimp only
 repeat' (first | (with_reducible exact Le.refl _) | (with_reducible apply ZiV) | (refine ZK ?_ fun _ => ?_) | (refine ZO ?_ ?_) | (refine ZN ?_) | (refine ZP fun _ => ?_))
noncomputable def Zd1 (y13 : ((List Tapi_Op) × Int)) (p25 : (List (Arr 4))) : Option ((List (Arr 4)) × Int × Bool) :=
 (idx (y13.1) (IntKind.i64.wrap ((y13.1.length : Int) - 1))).bindF fun x30 => (if (x30.1 = 10 ∧ (p25.length : Int) = 1) then some ((p25, 1, true)) else (if (x30.1 = 11 ∧ x30.2.2.2 = (p25.length : Int)) then some ((p25, x30.2.2.1, true)) else some ((([] : (List (Arr 4))), 0, false))))
theorem ZhQ (y13 : ((List Tapi_Op) × Int)) (p25 : (List (Arr 4))) : Le (Zd1 y13 p25) (Zcc y13 p25) := by
 unfold Zd1 Zcc
 try dsimp only
 repeat' (first | (with_reducible exact Le.refl _) | (refine ZK ?_ fun _ => ?_) | (refine ZO ?_ ?_) | (refine ZN ?_) | (refine ZP fun _ => ?_))
noncomputable def Zd2 (y13 : ((List Tapi_Op) × Int)) : (Int × (List (Arr 4))) → Option ((Int × (List (Arr 4))) ⊕ ((List (Arr 4)) × Int × Bool))
 | (p24, p25) => (if p24 < (((y13.1).take ((IntKind.i64.wrap ((y13.1.length : Int) - 1)).toNat)).length : Int) then (idx ((y13.1).take ((IntKind.i64.wrap ((y13.1.length : Int) - 1)).toNat)) (p24)).bindF fun x31 => (if (¬ (x31.1 = 1) ∨ ¬ ((x31.2.1.length : Int) = 32)) then some (.inr ((([] : (List (Arr 4))), 0, false))) else (chk (32 ≤ x31.2.1.length)).bindF fun _ => (Zev (Zgu 32 x31.2.1)).bindF fun y33 => (chk (p25.length + 1 ≤ 4398046511104)).bindF fun _ => some (.inl (IntKind.i64.wrap (p24 + 1), p25 ++ [y33]))) else (Zd1 y13 p25).map Sum.inr)
theorem ZhR (y13 : ((List Tapi_Op) × Int)) (s) : Le (Zd2 y13 s) (Zcd y13 s) := by
 obtain ⟨p24, p25⟩ := s
 unfold Zd2 Zcd
 try dsimp only
 repeat' (first | (with_reducible exact Le.refl _) | (with_reducible apply Zio) | (with_reducible apply ZhQ) | (refine ZK ?_ fun _ => ?_) | (refine ZO ?_ ?_) | (refine ZN ?_) | (refine ZP fun _ => ?_))
noncomputable def Zd3 (p9 : (List Int)) : Option ((List (Arr 4)) × Int × Bool) :=
 (ZdO p9).bindF fun y13 => (if (¬ (y13.2 = 0) ∨ (y13.1.length : Int) < 2) then some ((([] : (List (Arr 4))), 0, false)) else (chk (IntKind.i64.wrap ((y13.1.length : Int) - 1) ≤ (y13.1.length : Int) ∧ 0 ≤ IntKind.i64.wrap ((y13.1.length : Int) - 1))).bindF fun _ => ZdZ (Zd2 y13) (0, []))
theorem ZhS (p9 : (List Int)) : Le (Zd3 p9) (Zce p9) := by
 unfold Zd3 Zce
 try dsimp only
 repeat' (first | (with_reducible exact Le.refl _) | (with_reducible apply Zf6) | (with_reducible apply ZhR) | (refine ZK ?_ fun _ => ?_) | (refine ZO ?_ ?_) | (refine ZN ?_) | (refine ZP fun _ => ?_))
noncomputable def Fpartial_Keys_s1 : ((List Int) × Int) → Option (((List Int) × Int) ⊕ ((List (Arr 4)) × Int × Bool))
 | (p9, p10) => (if 0 < p10 then (chk (0 ≤ p10 ∧ p10 ≤ (p9.length : Int))).bindF fun _ => (ZbG ((p9).drop ((p10).toNat))).bindF fun y36 => some (.inl ((p9).drop ((p10).toNat), y36)) else (Zd3 p9).map Sum.inr)
theorem ZhT (s) : Le (Fpartial_Keys_s1 s) (Lpartial_Keys_s1 s) := by
 obtain ⟨p9, p10⟩ := s
 unfold Fpartial_Keys_s1 Lpartial_Keys_s1
 try dsimp only
 repeat' (first | (with_reducible exact Le.refl _) | (with_reducible apply Zd8) | (with_reducible apply ZhS) | (refine ZK ?_ fun _ => ?_) | (refine ZO ?_ ?_) | (refine ZN ?_) | (refine ZP fun _ => ?_))
noncomputable def ZdP (a0 : (List Int)) : Option ((List (Arr 4)) × Int × Bool) :=
 (ZdO a0).bindF fun y1 => (if ¬ (y1.2 = 0) then some ((([] : (List (Arr 4))), 0, false)) else (ZbG a0).bindF fun y2 => ZdZ (Fpartial_Keys_s1) (a0, y2))
theorem Zjn (a0 : (List Int)) : Le (ZdP a0) (Xs a0) := by
 unfold ZdP Xs
 try dsimp only
 repeat' (first | (with_reducible exact Le.refl _) | (with_reducible apply Zf6) | (with_reducible apply Zd8) | (with_reducible apply ZhT) | (refine ZK ?_ fun _ => ?_) | (refine ZO ?_ ?_) | (refine ZN ?_) | (refine ZP fun _ => ?_))
noncomputable def Zfp (a0 : (List Int)) (a1 : (List Int)) : Option ((List Int)) :=
 (Zcy [[14], a0, [15], a1, [16]]).bindF fun y1 => some (y1)
theorem Zjo (a0 : (List Int)) (a1 : (List Int)) : Le (Zfp a0 a1) (XU a0 a1) := by
 unfold Zfp XU
 try dsimp only
 repeat' (first | (with_reducible exact Le.refl _) | (with_reducible apply Zdm) | (refine ZK ?_ fun _ => ?_) | (refine ZO ?_ ?_) | (refine ZN ?_) | (refine ZP fun _ => ?_))
noncomputable def Flaw35_sane : Option (Bool) :=
 (Zdl 4).bindF fun y1 => (Zdl 16).bindF fun y2 => (Zdl 64).bindF fun y3 => (Zeu 2 [y1, y2, y3]).bindF fun y4 => (ZdP y4.1).bindF fun y5 => (Zfp y4.1 y4.1).bindF fun y6 => (ZdP y6).bindF fun y7 => ((if ((y5.2.2 = true ∧ y5.2.1 = 2) ∧ (y5.1.length : Int) = 3) then ((y5.1)[2]?).bindF fun x8 => (Zdl 64).bindF fun y9 => some (decide (x8 = y9)) else some (false))).bindF fun z10 => some (((((y5.2.2 && decide (y5.2.1 = 2)) && decide ((y5.1.length : Int) = 3)) && z10) && !(y7.2.2)))
theorem Flaw35_sane_le : Le (Flaw35_sane) (Llaw35_sane) := by
 unfold Flaw35_sane Llaw35_sane
 try dsimp only
 repeat' (first | (with_reducible exact Le.refl _) | (with_reducible apply Zlf) | (with_reducible apply Zgh) | (with_reducible apply Zjn) | (with_reducible apply Zjo) | (refine ZK ?_ fun _ => ?_) | (refine ZO ?_ ?_) | (refine ZN ?_) | (refine ZP fun _ => ?_))
noncomputable def Zd4 (a0 : Int) (a1 : Int) (a2 : Int) : Option (Int × Int) :=
 (chk ((0 ≤ a0 ∧ 0 ≤ a1) ∧ (a1 ≤ 18446744073709551615 ∧ 0 ≤ a2) ∧ a2 ≤ 1)).bindF fun _ => some ((a0 + 18446744073709551616 - a1 - a2) % 18446744073709551616, if a0 < a1 + a2 then 1 else 0)
theorem ZhU (a0 : Int) (a1 : Int) (a2 : Int) : Le (Zd4 a0 a1 a2) (X2 a0 a1 a2) := by
 unfold Zd4 X2
 try dsimp only
 repeat' (first | (with_reducible exact Le.refl _) | (refine ZK ?_ fun _ => ?_) | (refine ZO ?_ ?_) | (refine ZN ?_) | (refine ZP fun _ => ?_))
noncomputable def Zfq (p9 : (Arr 4)) (p7 : Int) : Option ((Arr 4) × Bool) :=
 some ((p9, decide (p7 = 1)))
theorem Zjp (p9 : (Arr 4)) (p7 : Int) : Le (Zfq p9 p7) (ZdL p9 p7) := by
 unfold Zfq ZdL
 try dsimp only
 repeat' (first | (with_reducible exact Le.refl _) | (refine ZK ?_ fun _ => ?_) | (refine ZO ?_ ?_) | (refine ZN ?_) | (refine ZP fun _ => ?_))
noncomputable def Zfr (a0 : (Arr 4)) (a1 : (Arr 4)) : (Int × Int × (Arr 4)) → Option ((Int × Int × (Arr 4)) ⊕ ((Arr 4) × Bool))
 | (p7, p8, p9) => (if p8 < 4 then (inA (4) (p8)).bindF fun j12 => (Zd4 (a0.at j12) (a1.at j12) p7).bindF fun y13 => some (.inl (y13.2, IntKind.i64.wrap (p8 + 1), p9.put j12 y13.1)) else (Zfq p9 p7).map Sum.inr)
theorem Zjq (a0 : (Arr 4)) (a1 : (Arr 4)) (s) : Le (Zfr a0 a1 s) (ZdM a0 a1 s) := by
 obtain ⟨p7, p8, p9⟩ := s
 unfold Zfr ZdM
 try dsimp only
 repeat' (first | (with_reducible exact Le.refl _) | (with_reducible apply ZhU) | (with_reducible apply Zjp) | (refine ZK ?_ fun _ => ?_) | (refine ZO ?_ ?_) | (refine ZN ?_) | (refine ZP fun _ => ?_))
noncomputable def Zhi (a0 : (Arr 4)) (a1 : (Arr 4)) : Option ((Arr 4) × Bool) :=
 ZdZ (Zfr a0 a1) (0, 0, zA 4)
theorem Zlg (a0 : (Arr 4)) (a1 : (Arr 4)) : Le (Zhi a0 a1) (ZbD a0 a1) := by
 unfold Zhi ZbD
 try dsimp only
 repeat' (first | (with_reducible exact Le.refl _) | (with_reducible apply Zjq) | (refine ZK ?_ fun _ => ?_) | (refine ZO ?_ ?_) | (refine ZN ?_) | (refine ZP fun _ => ?_))
noncomputable def Fref05_Modulus : Option ((Arr 4)) :=
 (ZcJ 36113).bindF fun y1 => (Zhi (zA 4) y1).bindF fun y2 => some (y2.1)
theorem Fref05_Modulus_le : Le (Fref05_Modulus) (Lref05_Modulus) := by
 unfold Fref05_Modulus Lref05_Modulus
 try dsimp only
 repeat' (first | (with_reducible exact Le.refl _) | (with_reducible apply Zfe) | (with_reducible apply Zlg) | (refine ZK ?_ fun _ => ?_) | (refine ZO ?_ ?_) | (refine ZN ?_) | (refine ZP fun _ => ?_))
noncomputable def Zhj (a0 : (Arr 4)) (a1 : Int) : Option (Bool) :=
 (inA (4) (IntKind.i64.wrap ((a1).tdiv 64))).bindF fun j1 => (chk (¬ ((a1).tmod 64 < 0))).bindF fun _ => some (decide (bits .and .u64 ((a0.at j1).fdiv (2 ^ (min ((a1).tmod 64).toNat 64))) 1 = 1))
theorem Zlh (a0 : (Arr 4)) (a1 : Int) : Le (Zhj a0 a1) (ZbB a0 a1) := by
 unfold Zhj ZbB
 try dsimp only
 repeat' (first | (with_reducible exact Le.refl _) | (refine ZK ?_ fun _ => ?_) | (refine ZO ?_ ?_) | (refine ZN ?_) | (refine ZP fun _ => ?_))
noncomputable def Zfs (p12 : (Arr 4)) : Option (Arr 4) :=
 some (p12)
theorem Zjr (p12 : (Arr 4)) : Le (Zfs p12) (ZdJ p12) := by
 unfold Zfs ZdJ
 try dsimp only
 repeat' (first | (with_reducible exact Le.refl _) | (refine ZK ?_ fun _ => ?_) | (refine ZO ?_ ?_) | (refine ZN ?_) | (refine ZP fun _ => ?_))
noncomputable def ZdQ (p11 : Int) (p20 : (Arr 4)) : Option ((Int × (Arr 4)) ⊕ ((Arr 4))) :=
 some (.inl (IntKind.i64.wrap (p11 + 1), p20))
theorem Zjs (p11 : Int) (p20 : (Arr 4)) : Le (ZdQ p11 p20) (Zaz p11 p20) := by
 unfold ZdQ Zaz
 try dsimp only
 repeat' (first | (with_reducible exact Le.refl _) | (refine ZK ?_ fun _ => ?_) | (refine ZO ?_ ?_) | (refine ZN ?_) | (refine ZP fun _ => ?_))
noncomputable def Zft (a1 : Int) (a0 : (Arr 4)) : (Int × (Arr 4)) → Option ((Int × (Arr 4)) ⊕ ((Arr 4)))
 | (p11, p12) => (if IntKind.i64.wrap (p11 + a1) < 256 then (Zhj a0 (IntKind.i64.wrap (p11 + a1))).bindF fun y17 => (if y17 = true then (inA (4) (IntKind.i64.wrap ((p11).tdiv 64))).bindF fun j21 => (chk (¬ ((p11).tmod 64 < 0))).bindF fun _ => ZdQ p11 (p12.put j21 (bits .or .u64 (p12.at j21) (IntKind.u64.wrap (1 * (2 ^ (min ((p11).tmod 64).toNat 64)))))) else ZdQ p11 p12) else (Zfs p12).map Sum.inr)
theorem Zjt (a1 : Int) (a0 : (Arr 4)) (s) : Le (Zft a1 a0 s) (ZdK a1 a0 s) := by
 obtain ⟨p11, p12⟩ := s
 unfold Zft ZdK
 try dsimp only
 repeat' (first | (with_reducible exact Le.refl _) | (with_reducible apply Zlh) | (with_reducible apply Zjs) | (with_reducible apply Zjr) | (refine ZK ?_ fun _ => ?_) | (refine ZO ?_ ?_) | (refine ZN ?_) | (refine ZP fun _ => ?_))
noncomputable def Zhk (a0 : (Arr 4)) (a1 : Int) : Option ((Arr 4)) :=
 (if a1 ≤ 0 then some (a0) else (if 256 ≤ a1 then some (zA 4) else ZdZ (Zft a1 a0) (0, zA 4)))
theorem Zli (a0 : (Arr 4)) (a1 : Int) : Le (Zhk a0 a1) (ZbC a0 a1) := by
 unfold Zhk ZbC
 try dsimp only
 repeat' (first | (with_reducible exact Le.refl _) | (with_reducible apply Zjt) | (refine ZK ?_ fun _ => ?_) | (refine ZO ?_ ?_) | (refine ZN ?_) | (refine ZP fun _ => ?_))
noncomputable def Fref05_Order : Option ((Arr 4)) :=
 (Fref05_Modulus).bindF fun y1 => (Zhk y1 1).bindF fun y2 => some (y2)
theorem Fref05_Order_le : Le (Fref05_Order) (Lref05_Order) := by
 unfold Fref05_Order Lref05_Order
 try dsimp only
 repeat' (first | (with_reducible exact Le.refl _) | (with_reducible apply Fref05_Modulus_le) | (with_reducible apply Zli) | (refine ZK ?_ fun _ => ?_) | (refine ZO ?_ ?_) | (refine ZN ?_) | (refine ZP fun _ => ?_))
noncomputable def Ze6 (a0 : (List Int)) : Option ((List Int)) :=
 (ZdN (1, a0, 0, 0)).bindF fun y1 => some (y1)
theorem ZgM (a0 : (List Int)) : Le (Ze6 a0) (X7 a0) := by
 unfold Ze6 X7
 try dsimp only
 repeat' (first | (with_reducible exact Le.refl _) | (with_reducible apply Zf2) | (refine ZK ?_ fun _ => ?_) | (refine ZO ?_ ?_) | (refine ZN ?_) | (refine ZP fun _ => ?_))
noncomputable def Zfu (a0 : (Arr 4)) : Option ((List Int)) :=
 (ZfI a0).bindF fun y1 => (Ze6 y1).bindF fun y2 => (Zcy [y2, [10]]).bindF fun y3 => some (y3)
theorem Zju (a0 : (Arr 4)) : Le (Zfu a0) (Xt a0) := by
 unfold Zfu Xt
 try dsimp only
 repeat' (first | (with_reducible exact Le.refl _) | (with_reducible apply ZhM) | (with_reducible apply ZgM) | (with_reducible apply Zdm) | (refine ZK ?_ fun _ => ?_) | (refine ZO ?_ ?_) | (refine ZN ?_) | (refine ZP fun _ => ?_))
noncomputable def ZeQ (p5 : (List Int)) : Option (List Int) :=
 some (p5)
theorem ZiW (p5 : (List Int)) : Le (ZeQ p5) (Zdi p5) := by
 unfold ZeQ Zdi
 try dsimp only
 repeat' (first | (with_reducible exact Le.refl _) | (refine ZK ?_ fun _ => ?_) | (refine ZO ?_ ?_) | (refine ZN ?_) | (refine ZP fun _ => ?_))
noncomputable def Fref08_Item_s1 : (Int × (List Int)) → Option ((Int × (List Int)) ⊕ ((List Int)))
 | (p4, p5) => (if 0 < p4 then (chk (p5.length + 1 ≤ 140737488355328)).bindF fun _ => some (.inl (IntKind.u32.wrap ((p4).tdiv 256), p5 ++ [IntKind.u8.wrap (p4)])) else (ZeQ p5).map Sum.inr)
theorem ZiX (s) : Le (Fref08_Item_s1 s) (Lref08_Item_s1 s) := by
 obtain ⟨p4, p5⟩ := s
 unfold Fref08_Item_s1 Lref08_Item_s1
 try dsimp only
 repeat' (first | (with_reducible exact Le.refl _) | (with_reducible apply ZiW) | (refine ZK ?_ fun _ => ?_) | (refine ZO ?_ ?_) | (refine ZN ?_) | (refine ZP fun _ => ?_))
noncomputable def Zgw (a0 : Int) : Option ((List Int)) :=
 ZdZ (Fref08_Item_s1) (a0, [])
theorem Zkg (a0 : Int) : Le (Zgw a0) (ZaP a0) := by
 unfold Zgw ZaP
 try dsimp only
 repeat' (first | (with_reducible exact Le.refl _) | (with_reducible apply ZiX) | (refine ZK ?_ fun _ => ?_) | (refine ZO ?_ ?_) | (refine ZN ?_) | (refine ZP fun _ => ?_))
noncomputable def Zf7 (a0 : Int) (a1 : (List Int)) : Option ((List Int)) :=
 (Zgw a0).bindF fun y1 => (Ze6 y1).bindF fun y2 => (Zcy [y2, [12, 3], a1]).bindF fun y3 => some (y3)
theorem ZjY (a0 : Int) (a1 : (List Int)) : Le (Zf7 a0 a1) (XL a0 a1) := by
 unfold Zf7 XL
 try dsimp only
 repeat' (first | (with_reducible exact Le.refl _) | (with_reducible apply Zkg) | (with_reducible apply ZgM) | (with_reducible apply Zdm) | (refine ZK ?_ fun _ => ?_) | (refine ZO ?_ ?_) | (refine ZN ?_) | (refine ZP fun _ => ?_))
theorem order_val : Fref05_Order = some ((((zA 4).put 0 18446744073709533559).put 1 18446744073709551615).put 2 18446744073709551615 |>.put 3 9223372036854775807) := by kernel_rfl
theorem sane35F : Flaw35_sane = some true := by kernel_rfl
theorem sane35 : Llaw35_sane = some true := Flaw35_sane_le _ sane35F
def key4 : Arr 4 := (zA 4).put 0 4
def key16 : Arr 4 := (zA 4).put 0 16
theorem scripts_val : ((Zeu 2 [key4, key16, key4]).bindF fun y => (Zf7 1 y.1).map fun q => decide (q.length ≤ 1000)) = some true := by kernel_rfl
theorem single_val : ((Zfu key16).map fun q => decide (q.length ≤ 1000)) = some true := by kernel_rfl
end Go.Lc
end
section
namespace Go.Lc
open Go.RowKit
open Go.Av
set_option linter.unusedVariables false
theorem ZkW (bad : Nat → Prop) : ∀ n, (∃ i, i < n ∧ bad i) → ∃ m, m < n ∧ bad m ∧ ∀ j, j < m → ¬ bad j := by
 classical
 intro n
 induction n with
 | zero => rintro ⟨i, h, _⟩; omega
 | succ n ih =>
  intro h
  by_cases hx : ∃ i, i < n ∧ bad i
  ·obtain ⟨m, h1, h2, h3⟩ := ih hx
   exact ⟨m, by omega, h2, h3⟩
  ·obtain ⟨i, hi, hb⟩ := h
   have : i = n := by
    rcases Nat.lt_or_ge i n with h' | h'
    ·exact absurd ⟨i, h', hb⟩ hx
    ·omega
   subst this
   exact ⟨i, by omega, hb, fun j hj hb => hx ⟨j, hj, hb⟩⟩
theorem Zl0 {σ ρ : Type} {step : σ → Option (σ ⊕ ρ)} (enc : Nat → σ) (n : Nat) (bad : Nat → Prop) (rb x : Option ρ) (h : ∀ i, i < n → ¬ bad i → step (enc i) = some (.inl (enc (i + 1)))) (hb : ∀ i, i < n → bad i → step (enc i) = rb.map .inr) (he : step (enc n) = x.map .inr) : Zt step (enc 0) = (by classical exact if ∃ i, i < n ∧ bad i then rb else x) := by
 classical
 by_cases hx : ∃ i, i < n ∧ bad i
 ·rw [if_pos hx]
  obtain ⟨m, hm, hbm, hmin⟩ := ZkW bad n hx
  exact Ym enc m (fun i hi => h i (by omega) (hmin i hi)) (hb m hm hbm)
 ·rw [if_neg hx]
  exact Ym enc n (fun i hi => h i hi fun hbi => hx ⟨i, hi, hbi⟩) he
theorem Zos {σ ρ α : Type} {step : σ → Option (σ ⊕ ρ)} (enc : Nat → σ) (l : List α) (bad : α → Prop) (rb x : Option ρ) (h : ∀ i (hi : i < l.length), ¬ bad l[i] → step (enc i) = some (.inl (enc (i + 1)))) (hb : ∀ i (hi : i < l.length), bad l[i] → step (enc i) = rb.map .inr) (he : step (enc l.length) = x.map .inr) : Zt step (enc 0) = (by classical exact if ∃ a ∈ l, bad a then rb else x) := by
 classical
 rw [Zl0 enc l.length (fun i => ∃ hi : i < l.length, bad l[i]) rb x (fun i hi hn => h i hi fun hb => hn ⟨hi, hb⟩) (fun i hi ⟨_, hbi⟩ => hb i hi hbi) he]
 have : (∃ i, i < l.length ∧ ∃ hi : i < l.length, bad l[i]) ↔ ∃ a ∈ l, bad a := by
  constructor
  ·rintro ⟨i, _, hi, hb⟩
   exact ⟨_, List.getElem_mem hi, hb⟩
  ·rintro ⟨a, ha, hb⟩
   obtain ⟨i, hi, rfl⟩ := List.getElem_of_mem ha
   exact ⟨i, hi, hi, hb⟩
 simp only [this]
theorem Za6 {σ ρ α : Type} {step : σ → Option (σ ⊕ ρ)} (enc : Nat → σ) (l : List α) (bad : α → Prop) (rb x : Option ρ) [inst : Decidable (∃ a ∈ l, bad a)] (h : ∀ i (hi : i < l.length), ¬ bad l[i] → step (enc i) = some (.inl (enc (i + 1)))) (hb : ∀ i (hi : i < l.length), bad l[i] → step (enc i) = rb.map .inr) (he : step (enc l.length) = x.map .inr) {s : σ} (hs : s = enc 0) : Zt step s = if ∃ a ∈ l, bad a then rb else x := by
 subst hs
 rw [Zos enc l bad rb x h hb he]
 split
 ·rfl
 ·rfl
theorem ZbW {α β : Type} {l : List α} (f : α → List β) {i : Nat} (h : i < l.length) : (l.take (i + 1)).flatMap f = (l.take i).flatMap f ++ f l[i] := by
 rw [List.take_succ_eq_append_getElem h, List.flatMap_append]
 simp
theorem ZcL {α β : Type} (l : List α) (f : α → List β) (i : Nat) : ((l.take i).flatMap f).length ≤ (l.flatMap f).length := by
 conv => rhs; rw [← List.take_append_drop i l]
 rw [List.flatMap_append, List.length_append]
 omega
def YP (n : Int) (k : Nat) : List Int := (List.range k).map fun i => IntKind.u8.wrap (n.fdiv (2 ^ (8 * i)))
@[simp] theorem Zc0 (n : Int) (k : Nat) : (YP n k).length = k := by simp [YP]
theorem ZmN {i : Nat} (h : i < 8) : min (IntKind.i64.wrap (8 * (i : Int))).toNat 64 = 8 * i := by
 rw [wi _ (by omega)]
 omega
theorem Zir (n : Int) (k : Nat) (hk : k ≤ 8) : YA n k = some (YP n k) := by
 unfold YA
 rw [ZZ (by omega)]
 have := Ym (step := ZaY k n) (fun i => ((i : Int), ((List.range i).map fun i => IntKind.u8.wrap (n.fdiv (2 ^ (8 * i)))) ++ List.replicate (k - i) 0)) k (x := some (YP n k)) (fun i hi => by
  simp only [ZaY]
  rw [if_pos (by omega), ZZ (by rw [wi _ (by omega)]; omega), ZlW _ _ (by omega), Za5 hi, ZmN (by omega), ZkU (fun i => IntKind.u8.wrap (n.fdiv (2 ^ (8 * i)))) 0 hi, Z0 hi (by omega)]) (by
  simp only [ZaY]
  rw [if_neg (by omega)]
  simp [ZdU, YP])
 simpa using this
theorem Zd9 (n : Int) (k : Nat) (hk : k ≤ 8) : Z5 n k = some (YP n k) := by
 unfold Z5
 rw [ZZ (by omega)]
 have := Ym (step := ZaZ k n) (fun i => ((i : Int), ((List.range i).map fun i => IntKind.u8.wrap (n.fdiv (2 ^ (8 * i)))) ++ List.replicate (k - i) 0)) k (x := some (YP n k)) (fun i hi => by
  simp only [ZaZ]
  rw [if_pos (by simp; omega), ZZ (by rw [wi _ (by omega)]; omega), ZlW _ _ (by omega), Za5 hi, ZmN (by omega), ZkU (fun i => IntKind.u8.wrap (n.fdiv (2 ^ (8 * i)))) 0 hi, Z0 hi (by omega)]) (by
  simp only [ZaZ]
  rw [if_neg (by simp)]
  simp [ZdV, YP])
 simpa using this
theorem ZbH {a b : List Int} (h : a.length + b.length ≤ 140737488355328) : Yk a b = some (a ++ b) := by
 unfold Yk
 rw [wi _ (by omega), ZZ (by omega), ZZ (by omega), ZZ (by omega)]
theorem Zam {a b : List Int} (h : a.length + b.length ≤ 140737488355328) : Z2 a b = some (a ++ b) := by
 unfold Z2
 rw [wi _ (by omega), ZZ (by omega), ZZ (by omega), ZZ (by omega)]
section
variable {b : List Int} {n : Int}
theorem Zis (h : b.length ≤ 140737488355000) : Ys b n = some (b ++ YP (IntKind.u64.wrap n) 4) := by
 unfold Ys
 have this : YA (IntKind.u64.wrap n) 4 = some (YP (IntKind.u64.wrap n) 4) := Zir _ 4 (by omega)
 rw [this, Zf, ZbH (by simp; omega)]
 rfl
theorem Zot (h : b.length ≤ 140737488355000) : YO b n = some (b ++ YP n 8) := by
 unfold YO
 have this : YA n 8 = some (YP n 8) := Zir _ 8 (by omega)
 rw [this, Zf, ZbH (by simp; omega)]
 rfl
theorem Zre (h : b.length ≤ 140737488355000) : Y4 b n = some (b ++ YP (IntKind.u64.wrap n) 2) := by
 unfold Y4
 have this : YA (IntKind.u64.wrap n) 2 = some (YP (IntKind.u64.wrap n) 2) := Zir _ 2 (by omega)
 rw [this, Zf, ZbH (by simp; omega)]
 rfl
theorem ZiK (h : b.length ≤ 140737488355000) : Yx b n = some (b ++ YP (IntKind.u64.wrap n) 4) := by
 unfold Yx
 have this : Z5 (IntKind.u64.wrap n) 4 = some (YP (IntKind.u64.wrap n) 4) := Zd9 _ 4 (by omega)
 rw [this, Zf, Zam (by simp; omega)]
 rfl
theorem Zqn (h : b.length ≤ 140737488355000) : Y5 b n = some (b ++ YP n 8) := by
 unfold Y5
 have this : Z5 n 8 = some (YP n 8) := Zd9 _ 8 (by omega)
 rw [this, Zf, Zam (by simp; omega)]
 rfl
def Zba (n : Int) : List Int := if n < 253 then YP n 1 else if n < 65536 then 253 :: YP n 2 else if n < 4294967296 then 254 :: YP n 4 else 255 :: YP n 8
theorem ZbI (n : Int) : (Zba n).length ≤ 9 := by
 unfold Zba
 split
 ·simp
 ·split
  ·simp
  ·split <;> simp
theorem ZiL (h0 : 0 ≤ n ∧ n ≤ 18446744073709551615) (h : b.length ≤ 140737488354900) : Yv b n = some (b ++ Zba n) := by
 unfold Yv Zba
 split
 ·rw [ZbH (by simp; omega)]
  simp [YP]
 ·split
  ·rw [ZbH (by simp; omega), Zf, Zre (by simp; omega), IntWalk.u16_in _ (by omega), wu _ (by omega)]
   simp
  ·split
   ·rw [ZbH (by simp; omega), Zf, Zis (by simp; omega), IntWalk.u32_in _ (by omega), wu _ (by omega)]
    simp
   ·rw [ZbH (by simp; omega), Zf, Zot (by simp; omega)]
    simp
theorem Zhl (h0 : 0 ≤ n ∧ n ≤ 18446744073709551615) (h : b.length ≤ 140737488354900) : Yw b n = some (b ++ Zba n) := by
 have l1 : Z5 n 1 = some (YP n 1) := Zd9 n 1 (by omega)
 have l2 : Z5 n 2 = some (YP n 2) := Zd9 n 2 (by omega)
 have l4 : Z5 n 4 = some (YP n 4) := Zd9 n 4 (by omega)
 have l8 : Z5 n 8 = some (YP n 8) := Zd9 n 8 (by omega)
 unfold Yw Zba
 split
 ·rw [l1, Zf, Zam (by simp; omega)]
  rfl
 ·split
  ·rw [l2, Zf, Zam (by simp), Zf, Zam (by simp; omega)]
   rfl
  ·split
   ·rw [l4, Zf, Zam (by simp), Zf, Zam (by simp; omega)]
    rfl
   ·rw [l8, Zf, Zam (by simp), Zf, Zam (by simp; omega)]
    rfl
end
def bytesB (s : List Int) : List Int := Zba s.length ++ s
theorem ZjZ (s : List Int) : (bytesB s).length ≤ 9 + s.length := by
 have := ZbI s.length
 simp [bytesB]
 omega
theorem Zea {n : Nat} (h : n ≤ 140737488355328) : IntKind.u64.wrap (n : Int) = n := wu _ (by omega)
theorem ZkX {b s : List Int} (h : b.length + s.length ≤ 140737488354900) : YC b s = some (b ++ bytesB s) := by
 unfold YC
 have := ZbI s.length
 rw [Zea (by omega), ZiL (by omega) (by omega), Zf, ZbH (by simp; omega)]
 simp [bytesB]
theorem ZkY {b s : List Int} (h : b.length + s.length ≤ 140737488354900) : YD b s = some (b ++ bytesB s) := by
 unfold YD
 have := ZbI s.length
 rw [Zea (by omega), Zhl (by omega) (by omega), Zf, Zam (by simp; omega)]
 simp [bytesB]
theorem Zqo {b : List Int} {a : Arr 32} (h : b.length ≤ 140737488355000) : YQ b a = some (b ++ a.l) := by
 unfold YQ
 rw [ZbH (by rw [a.hl]; omega)]
 rfl
theorem Zpw {b : List Int} {a : Arr 32} (h : b.length ≤ 140737488355000) : YR b a = some (b ++ a.l) := by
 unfold YR
 rw [Zam (by rw [a.hl]; omega)]
 rfl
def ZgN (o : Tapi_OutPoint) : List Int := o.1.l ++ YP (IntKind.u64.wrap o.2) 4
@[simp] theorem Zj0 (o : Tapi_OutPoint) : (ZgN o).length = 36 := by simp [ZgN, o.1.hl]
theorem Zpx (o : Tapi_OutPoint) : ZbY o = some (ZgN o) := by
 unfold ZbY
 rw [Zqo (by simp), Zf, Zis (by simp [o.1.hl])]
 rfl
theorem Zou (o : Tapi_OutPoint) : Zad o = some (ZgN o) := by
 unfold Zad
 rw [Zpw (by simp), Zf, ZiK (by simp [o.1.hl])]
 rfl
end Go.Lc
end
section
namespace Go.Lc
open Go.RowKit
open Go.Av
set_option linter.unusedVariables false
def inB (x : Tapi_Input) : List Int := ZgN x.1 ++ YP (IntKind.u64.wrap x.2.1) 4
@[simp] theorem Zqp (x : Tapi_Input) : (inB x).length = 40 := by simp [inB]
def ZeR (o : Tapi_Output) : List Int := YP (IntKind.u64.wrap o.1) 8 ++ bytesB o.2
def Zit (x : Tapi_Input) : List Int := Zba x.2.2.length ++ x.2.2.flatMap bytesB
def Zgi (t : Tapi_Tx) : List Int := YP (IntKind.u64.wrap t.1) 4 ++ Zba t.2.1.length
def Zbb (t : Tapi_Tx) (w : Bool) : List Int := Zgi t ++ t.2.1.flatMap inB ++ Zba t.2.2.1.length ++ t.2.2.1.flatMap ZeR ++ YP (IntKind.u64.wrap t.2.2.2) 4 ++ (if w then t.2.1.flatMap Zit else [])
def XP (t : Tapi_Tx) : Nat := 100 + (t.2.1.map fun x => 60 + (x.2.2.map fun s => 20 + s.length).sum).sum + (t.2.2.1.map fun o => 60 + o.2.length).sum
theorem ZgO {α β : Type} (f : α → List β) (g : α → Nat) (h : ∀ a, (f a).length ≤ g a) (l : List α) : (l.flatMap f).length ≤ (l.map g).sum := by
 induction l with
 | nil => simp
 | cons a l ih =>
  simp only [List.flatMap_cons, List.length_append, List.map_cons, List.sum_cons]
  have := h a
  omega
theorem Zhm {α : Type} (g : α → Nat) {l : List α} {a : α} (h : a ∈ l) : g a ≤ (l.map g).sum := by
 induction l with
 | nil => simp at h
 | cons b l ih =>
  simp only [List.map_cons, List.sum_cons]
  rcases List.mem_cons.1 h with rfl | h
  ·omega
  ·have := ih h
   omega
theorem Zf8 {α : Type} (g : α → Nat) (c : Nat) (h : ∀ a, c ≤ g a) (l : List α) : c * l.length ≤ (l.map g).sum := by
 induction l with
 | nil => simp
 | cons a l ih =>
  have := h a
  simp only [List.map_cons, List.sum_cons, List.length_cons, Nat.mul_add]
  omega
theorem Zqq (x : Tapi_Input) : (Zit x).length ≤ 9 + (x.2.2.map fun s => 20 + s.length).sum := by
 have h1 := ZbI x.2.2.length
 have h2 := ZgO bytesB (fun s => 20 + s.length) (fun s => by have := ZjZ s; omega) x.2.2
 simp only [Zit, List.length_append]
 omega
theorem Zqr (o : Tapi_Output) : (ZeR o).length ≤ 20 + o.2.length := by
 have := ZjZ o.2
 simp only [ZeR, List.length_append, Zc0]
 omega
section
variable {t : Tapi_Tx} {w : Bool}
def Zc1 (t : Tapi_Tx) (i : Nat) : List Int := Zgi t ++ (t.2.1.take i).flatMap inB
def Zc2 (t : Tapi_Tx) (i : Nat) : List Int := Zgi t ++ t.2.1.flatMap inB ++ Zba t.2.2.1.length ++ (t.2.2.1.take i).flatMap ZeR
def Zc3 (t : Tapi_Tx) (i : Nat) : List Int := Zgi t ++ t.2.1.flatMap inB ++ Zba t.2.2.1.length ++ t.2.2.1.flatMap ZeR ++ YP (IntKind.u64.wrap t.2.2.2) 4 ++ (t.2.1.take i).flatMap Zit
theorem Zkh (t : Tapi_Tx) : (t.2.1.flatMap inB).length + (t.2.1.flatMap Zit).length ≤ (t.2.1.map fun x => 60 + (x.2.2.map fun s => 20 + s.length).sum).sum := by
 induction t.2.1 with
 | nil => simp
 | cons x l ih =>
  have := Zqq x
  simp only [List.flatMap_cons, List.length_append, List.map_cons, List.sum_cons, Zqp]
  omega
theorem Zl1 (t : Tapi_Tx) : (t.2.2.1.flatMap ZeR).length ≤ (t.2.2.1.map fun o => 60 + o.2.length).sum := ZgO ZeR _ (fun o => by have := Zqr o; omega) _
theorem Ziu (t : Tapi_Tx) : (Zgi t).length ≤ 13 := by
 have := ZbI t.2.1.length
 simp only [Zgi, List.length_append, Zc0]
 omega
theorem Zki (i : Nat) : (Zc1 t i).length + 50 ≤ XP t := by
 have h1 := Ziu t
 have h2 := ZcL t.2.1 inB i
 have h3 := Zkh t
 simp only [Zc1, XP, List.length_append]
 omega
theorem ZgP (i : Nat) : (Zc2 t i).length + 50 ≤ XP t := by
 have h1 := Ziu t
 have h2 := ZcL t.2.2.1 ZeR i
 have h3 := Zkh t
 have h4 := Zl1 t
 have h5 := ZbI t.2.2.1.length
 simp only [Zc2, XP, List.length_append]
 omega
theorem ZmO (i : Nat) : (Zc3 t i).length + 50 ≤ XP t := by
 have h1 := Ziu t
 have h2 := ZcL t.2.1 Zit i
 have h3 := Zkh t
 have h4 := Zl1 t
 have h5 := ZbI t.2.2.1.length
 simp only [Zc3, XP, List.length_append, Zc0]
 omega
theorem ZeS (t : Tapi_Tx) : t.2.1.length ≤ XP t := by
 have := Zf8 (fun x : Tapi_Input => 60 + (x.2.2.map fun s => 20 + s.length).sum) 60 (fun x => by omega) t.2.1
 unfold XP
 omega
theorem ZkZ (t : Tapi_Tx) : t.2.2.1.length ≤ XP t := by
 have := Zf8 (fun o : Tapi_Output => 60 + o.2.length) 60 (fun x => by omega) t.2.2.1
 unfold XP
 omega
theorem ZmP {x : Tapi_Input} (h : x ∈ t.2.1) : 60 + (x.2.2.map fun s => 20 + s.length).sum ≤ XP t := by
 have := Zhm (fun x : Tapi_Input => 60 + (x.2.2.map fun s => 20 + s.length).sum) h
 unfold XP
 omega
theorem Zl2 {o : Tapi_Output} (h : o ∈ t.2.2.1) : 60 + o.2.length ≤ XP t := by
 have := Zhm (fun o : Tapi_Output => 60 + o.2.length) h
 unfold XP
 omega
theorem Zgj {x : Tapi_Input} (h : x ∈ t.2.1) : x.2.2.length ≤ XP t := by
 have h1 := ZmP h
 have := Zf8 (fun s : List Int => 20 + s.length) 20 (fun x => by omega) x.2.2
 omega
theorem Zl3 {x : Tapi_Input} (h : x ∈ t.2.1) {s : List Int} (hs : s ∈ x.2.2) : 20 + s.length ≤ XP t := by
 have h1 := ZmP h
 have := Zhm (fun s : List Int => 20 + s.length) hs
 omega
end
section
variable {t : Tapi_Tx} {w : Bool}
theorem Ziv {i : Nat} (h : i < t.2.1.length) : Zc3 t (i + 1) = Zc3 t i ++ Zba (t.2.1[i]).2.2.length ++ (t.2.1[i]).2.2.flatMap bytesB := by
 simp only [Zc3, ZbW Zit h, Zit, List.append_assoc]
theorem Zl4 {i : Nat} (h : i < t.2.1.length) : (Zc3 t i ++ Zba (t.2.1[i]).2.2.length).length + ((t.2.1[i]).2.2.flatMap bytesB).length + 50 ≤ XP t := by
 have := ZmO (t := t) (i + 1)
 rw [Ziv h] at this
 simp only [List.length_append] at this ⊢
 omega
theorem ZmQ {x : Tapi_Input} {j : Nat} (h : j < x.2.2.length) : ((x.2.2.take j).flatMap bytesB).length + (bytesB x.2.2[j]).length ≤ (x.2.2.flatMap bytesB).length := by
 have := ZcL x.2.2 bytesB (j + 1)
 rw [ZbW bytesB h] at this
 simpa using this
theorem Zqs (hM : XP t ≤ 1000000000000) {i : Nat} (h : i < t.2.1.length) {q : List Int} (hq : q.length + ((t.2.1[i]).2.2.flatMap bytesB).length + 50 ≤ XP t) :
  Zt (Zbc t.2.1[i] (i : Int)) (0, q) = some (.inl (((i + 1 : Nat) : Int), q ++ (t.2.1[i]).2.2.flatMap bytesB)) := by
 have hmem := List.getElem_mem h
 have hwl := Zgj hmem
 have hil := ZeS t
 generalize t.2.1[i] = x at hq hmem hwl ⊢
 have := Ym (step := Zbc x (i : Int)) (fun j => ((j : Int), q ++ (x.2.2.take j).flatMap bytesB)) x.2.2.length (x := some (.inl (((i + 1 : Nat) : Int), q ++ x.2.2.flatMap bytesB))) (fun j hj => by
  simp only [Zbc]
  have h1 := ZmQ hj
  have h2 := Zl3 hmem (List.getElem_mem hj)
  rw [if_pos (by omega), Zy hj, ZkX (by simp; omega), Zf, ZZ (by simp only [List.length_append, List.nil_append]; omega), Z0 hj (by omega), ZbW bytesB hj]
  simp) (by
  simp only [Zbc]
  rw [if_neg (by omega)]
  simp only [Zfj, List.take_length, Z0 h (by omega)])
 simpa using this
theorem ZsF (hM : XP t ≤ 1000000000000) : ZdF t (Zc2 t t.2.2.1.length) w = some (Zbb t w) := by
 have hil := ZeS t
 have h2 := ZgP (t := t) t.2.2.1.length
 unfold ZdF
 rw [Zis (by simp), Zf, ZZ (by simp; omega)]
 have he : Zc2 t t.2.2.1.length ++ ([] ++ YP (IntKind.u64.wrap t.2.2.2) 4) = Zc3 t 0 := by simp [Zc2, Zc3]
 rw [he]
 cases w with
 | false => simp [Zbb, Zc3]
 | true =>
  rw [if_neg (by simp)]
  have := Ym (step := Zcl t) (fun i => ((i : Int), Zc3 t i)) t.2.1.length (x := some (Zbb t true)) (fun i hi => by
   have h3 := Zl4 hi
   have h5 := Zgj (List.getElem_mem hi)
   simp only [Zcl]
   rw [if_pos (by omega), Zy hi, Zea (by omega), ZiL (by omega) (by simp), Zf, ZZ (by simp only [List.length_append, List.nil_append] at h3 ⊢; omega), List.nil_append, Zqs hM hi h3, Ziv hi]) (by
   simp only [Zcl]
   rw [if_neg (by omega)]
   simp [Zfi, Zc3, Zbb])
  simpa using this
theorem Zk0 {i : Nat} (h : i < t.2.2.1.length) : Zc2 t (i + 1) = Zc2 t i ++ YP (IntKind.u64.wrap (t.2.2.1[i]).1) 8 ++ bytesB (t.2.2.1[i]).2 := by
 simp only [Zc2, ZbW ZeR h, ZeR, List.append_assoc]
theorem ZsG (hM : XP t ≤ 1000000000000) : ZdG t (Zc1 t t.2.1.length) w = some (Zbb t w) := by
 have hol := ZkZ t
 have h2 := ZgP (t := t) 0
 have h1 := ZbI t.2.2.1.length
 have he : Zc1 t t.2.1.length ++ Zba t.2.2.1.length = Zc2 t 0 := by simp [Zc1, Zc2]
 unfold ZdG
 rw [Zea (by omega), ZiL (by omega) (by simp), Zf, List.nil_append, ZZ (by rw [← List.length_append, he]; omega), he]
 have := Ym (step := Zcm t w) (fun i => ((i : Int), Zc2 t i)) t.2.2.1.length (x := some (Zbb t w)) (fun i hi => by
  have h3 := ZgP (t := t) (i + 1)
  have h4 := Zl2 (List.getElem_mem hi)
  rw [Zk0 hi] at h3 ⊢
  simp only [List.length_append, Zc0] at h3
  simp only [Zcm]
  rw [if_pos (by omega), Zy hi, Zot (by simp), Zf, ZZ (by simp; omega), ZkX (by simp; omega), Zf, ZZ (by simp; omega), Z0 hi (by omega)]
  simp) (by
  simp only [Zcm]
  rw [if_neg (by omega), ZsF hM])
 simpa using this
theorem Zk1 {i : Nat} (h : i < t.2.1.length) : Zc1 t (i + 1) = Zc1 t i ++ ZgN (t.2.1[i]).1 ++ YP (IntKind.u64.wrap (t.2.1[i]).2.1) 4 := by
 simp only [Zc1, ZbW inB h, inB, List.append_assoc]
theorem Zov (hM : XP t ≤ 1000000000000) : Zbm t w = some (Zbb t w) := by
 have hil := ZeS t
 have h1 := ZbI t.2.1.length
 have he : YP (IntKind.u64.wrap t.1) 4 ++ Zba t.2.1.length = Zc1 t 0 := by simp [Zc1, Zgi]
 unfold Zbm
 rw [Zis (by simp), Zf, Zea (by omega), ZiL (by omega) (by simp), Zf, List.nil_append, List.nil_append, ZZ (by simp; omega), he]
 have := Ym (step := Zcn t w) (fun i => ((i : Int), Zc1 t i)) t.2.1.length (x := some (Zbb t w)) (fun i hi => by
  have h3 := Zki (t := t) (i + 1)
  rw [Zk1 hi] at h3 ⊢
  simp only [List.length_append, Zc0, Zj0] at h3
  simp only [Zcn]
  rw [if_pos (by omega), Zy hi, Zpx, Zf, ZZ (by simp; omega), Zis (by simp), Zf, ZZ (by simp; omega), Z0 hi (by omega)]
  simp) (by
  simp only [Zcn]
  rw [if_neg (by omega), ZsG hM])
 simpa using this
theorem Zqt {o : Tapi_Output} (h : o.2.length ≤ 140737488354000) : Zbn o = some (ZeR o) := by
 unfold Zbn
 rw [Zqn (by simp), Zf, ZkY (by simp; omega)]
 rfl
theorem Zpy (hM : XP t ≤ 1000000000000) {i : Nat} (h : i < t.2.1.length) {q : List Int} (hq : q.length + ((t.2.1[i]).2.2.flatMap bytesB).length + 50 ≤ XP t) :
  Zt (X0 t.2.1[i] (i : Int)) (0, q) = some (.inl (((i + 1 : Nat) : Int), q ++ (t.2.1[i]).2.2.flatMap bytesB)) := by
 have hmem := List.getElem_mem h
 have hwl := Zgj hmem
 have hil := ZeS t
 generalize t.2.1[i] = x at hq hmem hwl ⊢
 have := Ym (step := X0 x (i : Int)) (fun j => ((j : Int), q ++ (x.2.2.take j).flatMap bytesB)) x.2.2.length (x := some (.inl (((i + 1 : Nat) : Int), q ++ x.2.2.flatMap bytesB))) (fun j hj => by
  simp only [X0]
  have h1 := ZmQ hj
  have h2 := Zl3 hmem (List.getElem_mem hj)
  rw [if_pos (by omega), Zy hj, ZkY (by simp only [List.length_append]; omega), Zf, Z0 hj (by omega), ZbW bytesB hj]
  simp) (by
  simp only [X0]
  rw [if_neg (by omega)]
  simp only [ZdW, List.take_length, Z0 h (by omega)])
 simpa using this
theorem Zrf (hM : XP t ≤ 1000000000000) : Zb9 (Zc2 t t.2.2.1.length) t w = some (Zbb t w) := by
 have hil := ZeS t
 have h2 := ZgP (t := t) t.2.2.1.length
 unfold Zb9
 rw [ZiK (by omega), Zf]
 have he : Zc2 t t.2.2.1.length ++ YP (IntKind.u64.wrap t.2.2.2) 4 = Zc3 t 0 := by simp [Zc2, Zc3]
 rw [he]
 cases w with
 | false =>
  by_cases h0 : (0 : Int) < t.2.1.length
  ·refine Za4 ?_
   simp only [Xv]
   rw [if_pos h0, show (0 : Int) = ((0 : Nat) : Int) from rfl, Zy (by omega)]
   simp [Y6, Zbb, Zc3]
  ·refine Za4 ?_
   simp only [Xv]
   rw [if_neg h0]
   simp [Y6, Zbb, Zc3]
 | true =>
  have := Ym (step := Xv t true) (fun i => ((i : Int), Zc3 t i)) t.2.1.length (x := some (Zbb t true)) (fun i hi => by
   have h3 := Zl4 hi
   have h4 := ZmO (t := t) i
   have h5 := Zgj (List.getElem_mem hi)
   simp only [Xv]
   rw [if_pos (by omega), Zy hi, if_neg (by simp), Zea (by omega), Zhl (by omega) (by omega), Zf, Zpy hM hi h3, Ziv hi]) (by
   simp only [Xv]
   rw [if_neg (by omega)]
   simp [Y6, Zc3, Zbb])
  simpa using this
theorem Zrg (hM : XP t ≤ 1000000000000) : Zca (Zc1 t t.2.1.length) t w = some (Zbb t w) := by
 have hol := ZkZ t
 have h0 := Zki (t := t) t.2.1.length
 have he : Zc1 t t.2.1.length ++ Zba t.2.2.1.length = Zc2 t 0 := by simp [Zc1, Zc2]
 unfold Zca
 rw [Zea (by omega), Zhl (by omega) (by omega), Zf, he]
 have := Ym (step := Za0 t w) (fun i => ((i : Int), Zc2 t i)) t.2.2.1.length (x := some (Zbb t w)) (fun i hi => by
  have h3 := ZgP (t := t) (i + 1)
  have h4 := Zl2 (List.getElem_mem hi)
  rw [Zk0 hi] at h3 ⊢
  simp only [List.length_append, Zc0] at h3
  simp only [Za0]
  rw [if_pos (by omega), Zy hi, Zqt (by omega), Zf, ZZ (by simp only [ZeR, List.length_append, Zc0]; omega), Z0 hi (by omega)]
  simp [ZeR]) (by
  simp only [Za0]
  rw [if_neg (by omega), Zrf hM])
 simpa using this
theorem ZnC (hM : XP t ≤ 1000000000000) : XR t w = some (Zbb t w) := by
 have hil := ZeS t
 have he : YP (IntKind.u64.wrap t.1) 4 ++ Zba t.2.1.length = Zc1 t 0 := by simp [Zc1, Zgi]
 unfold XR
 rw [ZiK (by simp), Zf, Zea (by omega), Zhl (by omega) (by simp), Zf, List.nil_append, he]
 have := Ym (step := Za1 t w) (fun i => ((i : Int), Zc1 t i)) t.2.1.length (x := some (Zbb t w)) (fun i hi => by
  have h3 := Zki (t := t) (i + 1)
  rw [Zk1 hi] at h3 ⊢
  simp only [List.length_append, Zc0, Zj0] at h3
  simp only [Za1]
  rw [if_pos (by omega), Zy hi, Zou, Zf, ZZ (by simp; omega), ZiK (by simp; omega), Zf, Z0 hi (by omega)]) (by
  simp only [Za1]
  rw [if_neg (by omega), Zrg hM])
 simpa using this
def ZeT (t : Tapi_Tx) : Prop := t.2.1.length ≤ 64 ∧ t.2.2.1.length ≤ 64 ∧ (∀ o ∈ t.2.2.1, 0 ≤ o.1 ∧ o.2.length ≤ 520) ∧ ∀ x ∈ t.2.1, x.2.2.length ≤ 32 ∧ ∀ s ∈ x.2.2, s.length ≤ 520
noncomputable def ZdR (t : Tapi_Tx) : Bool := by classical exact decide (ZeT t ∧ (Zbb t true).length ≤ 20000)
theorem Zf9 {α : Type} (g : α → Nat) (c : Nat) {l : List α} (h : ∀ a ∈ l, g a ≤ c) : (l.map g).sum ≤ c * l.length := by
 induction l with
 | nil => simp
 | cons a l ih =>
  have h1 := h a (by simp)
  have h2 := ih fun b hb => h b (by simp [hb])
  simp only [List.map_cons, List.sum_cons, List.length_cons, Nat.mul_add]
  omega
theorem ZpR (h : ZeT t) : XP t ≤ 3000000 := by
 obtain ⟨h1, h2, h3, h4⟩ := h
 have e1 := Zf9 (fun x : Tapi_Input => 60 + (x.2.2.map fun s => 20 + s.length).sum) 20000 (l := t.2.1) (fun x hx => by
  obtain ⟨g1, g2⟩ := h4 x hx
  have := Zf9 (fun s : List Int => 20 + s.length) 540 (l := x.2.2) (fun s hs => by have := g2 s hs; omega)
  have := Nat.mul_le_mul_left 540 g1
  omega)
 have e2 := Zf9 (fun o : Tapi_Output => 60 + o.2.length) 600 (l := t.2.2.1) (fun o ho => by have := (h3 o ho).2; omega)
 have := Nat.mul_le_mul_left 20000 h1
 have := Nat.mul_le_mul_left 600 h2
 unfold XP
 omega
end
section
theorem Zl5 {x : Tapi_Input} {i n : Nat} (hi : i < n) (hn : n ≤ 64) (hw : x.2.2.length ≤ 32) : Zt (ZbK x (i : Int)) 0 = (if ∃ s ∈ x.2.2, 520 < s.length then some (.inr false) else some (.inl ((i + 1 : Nat) : Int))) := by
 refine Za6 (step := ZbK x (i : Int)) (fun j => (j : Int)) x.2.2 (fun s => 520 < s.length) (some (.inr false)) (some (.inl ((i + 1 : Nat) : Int))) (fun j hj hb => ?_) (fun j hj hb => ?_) ?_ rfl
 ·simp only [ZbK]
  rw [if_pos (by omega), Zy hj, if_neg (by omega), Z0 hj (by omega)]
 ·simp only [ZbK]
  rw [if_pos (by omega), Zy hj, if_pos (by omega)]
  rfl
 ·simp only [ZbK]
  rw [if_neg (by omega)]
  simp only [Zgt, Z0 hi (by omega)]
theorem Zqu (t : Tapi_Tx) : ZcS t = some (ZdR t) := by
 classical
 unfold ZcS ZdR
 by_cases h0 : 64 < t.2.1.length ∨ 64 < t.2.2.1.length
 ·rw [if_pos (by omega)]
  have : ¬ ZeT t := fun h => by have := h.1; have := h.2.1; omega
  simp [this]
 ·rw [if_neg (by omega)]
  have h1 := Za6 (step := Zcx t) (fun i => (i : Int)) t.2.2.1 (fun o => o.1 < 0 ∨ 520 < o.2.length) (some false) (Ze5 t) (fun i hi hb => by
   simp only [Zcx]
   rw [if_pos (by omega), Zy hi, if_neg (by omega), Z0 hi (by omega)]) (fun i hi hb => by
   simp only [Zcx]
   rw [if_pos (by omega), Zy hi, if_pos (by omega)]
   rfl) (by
   simp only [Zcx]
   rw [if_neg (by omega)]) (s := 0) rfl
  rw [h1]
  by_cases hb1 : ∃ o ∈ t.2.2.1, o.1 < 0 ∨ 520 < o.2.length
  ·rw [if_pos hb1]
   obtain ⟨o, ho, hb⟩ := hb1
   have : ¬ ZeT t := fun h => by have := h.2.2.1 o ho; omega
   simp [this]
  ·rw [if_neg hb1]
   unfold Ze5
   have h2 := Za6 (step := Zcw t) (fun i => (i : Int)) t.2.1 (fun x => 32 < x.2.2.length ∨ ∃ s ∈ x.2.2, 520 < s.length) (some false) (Ze4 t) (fun i hi hb => by
    have h3 : ¬ 32 < (t.2.1[i]).2.2.length := fun h => hb (.inl h)
    have h4 : ¬ ∃ s ∈ (t.2.1[i]).2.2, 520 < s.length := fun h => hb (.inr h)
    simp only [Zcw]
    rw [if_pos (by omega), Zy hi, if_neg (by omega), Zl5 hi (by omega) (by omega), if_neg h4]) (fun i hi hb => by
    simp only [Zcw]
    rw [if_pos (by omega), Zy hi]
    by_cases h3 : 32 < (t.2.1[i]).2.2.length
    ·rw [if_pos (by omega)]
     rfl
    ·rw [if_neg (by omega), Zl5 hi (by omega) (by omega), if_pos (hb.resolve_left h3)]
     rfl) (by
    simp only [Zcw]
    rw [if_neg (by omega)]) (s := 0) rfl
   rw [h2]
   by_cases hb2 : ∃ x ∈ t.2.1, 32 < x.2.2.length ∨ ∃ s ∈ x.2.2, 520 < s.length
   ·rw [if_pos hb2]
    obtain ⟨x, hx, hb⟩ := hb2
    have : ¬ ZeT t := fun h => by
     obtain ⟨g1, g2⟩ := h.2.2.2 x hx
     rcases hb with hb | ⟨s, hs, hb⟩
     ·omega
     ·have := g2 s hs; omega
    simp [this]
   ·rw [if_neg hb2]
    have hlim : ZeT t := by
     refine ⟨by omega, by omega, fun o ho => ?_, fun x hx => ⟨?_, fun s hs => ?_⟩⟩
     ·have : ¬ (o.1 < 0 ∨ 520 < o.2.length) := fun h => hb1 ⟨o, ho, h⟩
      omega
     ·have : ¬ 32 < x.2.2.length := fun h => hb2 ⟨x, hx, .inl h⟩
      omega
     ·have : ¬ 520 < s.length := fun h => hb2 ⟨x, hx, .inr ⟨s, hs, h⟩⟩
      omega
    unfold Ze4
    rw [Zov (by have := ZpR hlim; omega), Zf]
    have e : (((Zbb t true).length : Int) ≤ 20000) ↔ ((Zbb t true).length ≤ 20000) := by omega
    simp [hlim, e]
theorem Zk2 {x : Tapi_Input} {i n : Nat} (hi : i < n) (hn : n ≤ 64) (hw : x.2.2.length ≤ 32) : Zt (X1 x (i : Int)) 0 = (if ∃ s ∈ x.2.2, 520 < s.length then some (.inr false) else some (.inl ((i + 1 : Nat) : Int))) := by
 refine Za6 (step := X1 x (i : Int)) (fun j => (j : Int)) x.2.2 (fun s => 520 < s.length) (some (.inr false)) (some (.inl ((i + 1 : Nat) : Int))) (fun j hj hb => ?_) (fun j hj hb => ?_) ?_ rfl
 ·simp only [X1]
  rw [if_pos (by omega), Zy hj, if_neg (by omega), Z0 hj (by omega)]
 ·simp only [X1]
  rw [if_pos (by omega), Zy hj, if_pos (by omega)]
  rfl
 ·simp only [X1]
  rw [if_neg (by omega)]
  simp only [ZeK, Z0 hi (by omega)]
theorem Zpz (t : Tapi_Tx) : ZaM t = some (ZdR t) := by
 classical
 unfold ZaM ZdR
 by_cases h0 : 64 < t.2.1.length ∨ 64 < t.2.2.1.length
 ·rw [if_pos (by omega)]
  have : ¬ ZeT t := fun h => by have := h.1; have := h.2.1; omega
  simp [this]
 ·rw [if_neg (by omega)]
  have h1 := Za6 (step := ZaV t) (fun i => (i : Int)) t.2.2.1 (fun o => o.1 < 0 ∨ 520 < o.2.length) (some false) (Zdd t) (fun i hi hb => by
   simp only [ZaV]
   rw [if_pos (by omega), Zy hi, if_neg (by omega), Z0 hi (by omega)]) (fun i hi hb => by
   simp only [ZaV]
   rw [if_pos (by omega), Zy hi, if_pos (by omega)]
   rfl) (by
   simp only [ZaV]
   rw [if_neg (by omega)]) (s := 0) rfl
  rw [h1]
  by_cases hb1 : ∃ o ∈ t.2.2.1, o.1 < 0 ∨ 520 < o.2.length
  ·rw [if_pos hb1]
   obtain ⟨o, ho, hb⟩ := hb1
   have : ¬ ZeT t := fun h => by have := h.2.2.1 o ho; omega
   simp [this]
  ·rw [if_neg hb1]
   unfold Zdd
   have h2 := Za6 (step := ZaU t) (fun i => (i : Int)) t.2.1 (fun x => 32 < x.2.2.length ∨ ∃ s ∈ x.2.2, 520 < s.length) (some false) (Zdc t) (fun i hi hb => by
    have h3 : ¬ 32 < (t.2.1[i]).2.2.length := fun h => hb (.inl h)
    have h4 : ¬ ∃ s ∈ (t.2.1[i]).2.2, 520 < s.length := fun h => hb (.inr h)
    simp only [ZaU]
    rw [if_pos (by omega), Zy hi, if_neg (by omega), Zk2 hi (by omega) (by omega), if_neg h4]) (fun i hi hb => by
    simp only [ZaU]
    rw [if_pos (by omega), Zy hi]
    by_cases h3 : 32 < (t.2.1[i]).2.2.length
    ·rw [if_pos (by omega)]
     rfl
    ·rw [if_neg (by omega), Zk2 hi (by omega) (by omega), if_pos (hb.resolve_left h3)]
     rfl) (by
    simp only [ZaU]
    rw [if_neg (by omega)]) (s := 0) rfl
   rw [h2]
   by_cases hb2 : ∃ x ∈ t.2.1, 32 < x.2.2.length ∨ ∃ s ∈ x.2.2, 520 < s.length
   ·rw [if_pos hb2]
    obtain ⟨x, hx, hb⟩ := hb2
    have : ¬ ZeT t := fun h => by
     obtain ⟨g1, g2⟩ := h.2.2.2 x hx
     rcases hb with hb | ⟨s, hs, hb⟩
     ·omega
     ·have := g2 s hs; omega
    simp [this]
   ·rw [if_neg hb2]
    have hlim : ZeT t := by
     refine ⟨by omega, by omega, fun o ho => ?_, fun x hx => ⟨?_, fun s hs => ?_⟩⟩
     ·have : ¬ (o.1 < 0 ∨ 520 < o.2.length) := fun h => hb1 ⟨o, ho, h⟩
      omega
     ·have : ¬ 32 < x.2.2.length := fun h => hb2 ⟨x, hx, .inl h⟩
      omega
     ·have : ¬ 520 < s.length := fun h => hb2 ⟨x, hx, .inr ⟨s, hs, h⟩⟩
      omega
    unfold Zdc
    rw [ZnC (by have := ZpR hlim; omega), Zf]
    have e : (((Zbb t true).length : Int) ≤ 20000) ↔ ((Zbb t true).length ≤ 20000) := by omega
    simp [hlim, e]
end
end Go.Lc
end
section
namespace Go.Lc
open Go.RowKit
open Go.Av
set_option linter.unusedVariables false
def Nx {σ ρ : Type} (I : Nat → σ → Prop) (Q : ρ → Prop) (n : Nat) : σ ⊕ ρ → Prop
 | .inl s => ∃ j, j < n ∧ I j s
 | .inr r => Q r
theorem Zjv {σ ρ : Type} {step : σ → Option (σ ⊕ ρ)} {I : Nat → σ → Prop} {Q : ρ → Prop} (h : ∀ n s, I n s → Tot (step s) (Nx I Q n)) {n : Nat} {s : σ} (hs : I n s) : Tot (Zt step s) Q := by
 refine ZmA I Q (fun i s hi => ?_) n s hs
 obtain ⟨x, h1, h2⟩ := h i s hi
 cases x with
 | inl s' =>
  obtain ⟨j, hj, h3⟩ := h2
  exact .inl ⟨j, s', hj, h1, h3⟩
 | inr r => exact .inr ⟨r, h1, h2⟩
theorem Tot.out {σ ρ : Type} {I : Nat → σ → Prop} {Q : ρ → Prop} {n : Nat} {x : Option ρ} (h : Tot x Q) : Tot (x.map .inr) (Nx I Q n) := by
 obtain ⟨r, rfl, h⟩ := h
 exact ⟨_, rfl, h⟩
theorem ZfL {α : Type} {p : Prop} [Decidable p] {f : Unit → Option α} {Q : α → Prop} (hp : p) (h : Tot (f ()) Q) : Tot ((chk p).bind f) Q := by rw [ZZ hp]; exact h
theorem ZmR {α β : Type} {l : List α} {i : Int} {f : α → Option β} {Q : β → Prop} (h0 : 0 ≤ i) (h1 : i < l.length) (h : ∀ x ∈ l, Tot (f x) Q) : Tot ((idx l i).bind f) Q := by
 obtain ⟨n, rfl⟩ := Int.eq_ofNat_of_zero_le h0
 rw [Zy (by omega)]
 exact h _ (List.getElem_mem _)
theorem ZmS {β : Type} {n : Nat} {i : Int} {f : Nat → Option β} {Q : β → Prop} (h0 : 0 ≤ i) (h1 : i < n) (h : ∀ j : Nat, (j : Int) = i → j < n → Tot (f j) Q) : Tot ((inA n i).bind f) Q := by
 obtain ⟨m, rfl⟩ := Int.eq_ofNat_of_zero_le h0
 rw [Za5 (by omega)]
 exact h _ rfl (by omega)
theorem ZfM {α β : Type} {l : List α} {i : Nat} {f : α → Option β} {Q : β → Prop} (h1 : i < l.length) (h : ∀ x, l[i]? = some x → Tot (f x) Q) : Tot ((l[i]?).bind f) Q := by
 rw [Zhf h1]
 exact h _ (List.getElem?_eq_getElem h1)
def Zl6 (v n : Int) : Int := if v.tmod n < 0 then v.tmod n + n else v.tmod n
theorem Zkj (v : Int) {n : Int} (h : 1 ≤ n) : 0 ≤ Zl6 v n ∧ Zl6 v n < n := by
 have h1 := Int.tmod_lt_of_pos v (b := n) (by omega)
 have h2 : -n < v.tmod n := by
  have := Int.lt_tmod_of_pos v (b := n) (by omega)
  omega
 unfold Zl6
 split <;> omega
theorem ZgQ (v : Int) {n : Int} (h : 1 ≤ n) (h2 : n ≤ 4611686018427387904) : Xx v n = some (Zl6 v n) := by
 have h1 := Zkj v h
 unfold Xx ZbS
 rw [ZZ (by omega)]
 unfold Zl6 at *
 split
 ·rename_i hn
  rw [if_pos hn] at h1
  rw [wi _ (by omega)]
 ·rfl
def Zan (d : Tlightclientmill_Deck) : Prop := 0 ≤ d.2 ∧ d.2 ≤ d.1.length ∧ d.1.length ≤ 9223372036854775807
theorem Zcj {d : Tlightclientmill_Deck} (h : Zan d) {n : Int} (hn : 1 ≤ n) (hn2 : n ≤ 4611686018427387904) : Tot (Z8 d n) fun r => (0 ≤ r.1 ∧ r.1 < n) ∧ Zan r.2 := by
 obtain ⟨h1, h2, h3⟩ := h
 unfold Z8 XG
 rw [Zf]
 by_cases hl : d.2 < d.1.length
 ·rw [if_neg (by simp [hl])]
  dsimp only
  rw [wi (d.2 + 1) (by omega), wi _ (by omega), show d.2 + 1 - 1 = d.2 by omega]
  refine ZmR h1 hl fun x _ => ?_
  rw [ZgQ x hn hn2]
  exact ZbM ⟨Zkj x hn, by dsimp only; omega, by dsimp only; omega, h3⟩
 ·rw [if_pos (by simp [hl])]
  exact ZbM ⟨⟨by dsimp only; omega, by dsimp only; omega⟩, h1, h2, h3⟩
theorem Ziw (j : Int) : XF j = some [1, 1, IntKind.u8.wrap (1 + j.tmod 6), 5] := rfl
theorem ZnD {α β : Type} {l : List α} (f : β → α → β) (b : β) {i : Nat} (h : i < l.length) : (l.take (i + 1)).foldl f b = f ((l.take i).foldl f b) l[i] := by
 rw [List.take_succ_eq_append_getElem h, List.foldl_append]
 rfl
end Go.Lc
end
section
namespace Go.Lc
open Go.RowKit
open Go.Av
set_option linter.unusedVariables false
theorem ZbN {σ ρ : Type} {step : σ → Option (σ ⊕ ρ)} (enc : Nat → σ) (n : Nat) (bad : Nat → Prop) (rb x : Option ρ) [inst : Decidable (∃ i, i < n ∧ bad i)] (h : ∀ i, i < n → (∀ j, j < i → ¬ bad j) → ¬ bad i → step (enc i) = some (.inl (enc (i + 1)))) (hb : ∀ i, i < n → (∀ j, j < i → ¬ bad j) → bad i → step (enc i) = rb.map .inr) (he : (∀ j, j < n → ¬ bad j) → step (enc n) = x.map .inr) {s : σ} (hs : s = enc 0) : Zt step s = if ∃ i, i < n ∧ bad i then rb else x := by
 subst hs
 by_cases hx : ∃ i, i < n ∧ bad i
 ·rw [if_pos hx]
  obtain ⟨m, hm, hbm, hmin⟩ := ZkW bad n hx
  exact Ym enc m (fun i hi => h i (by omega) (fun j hj => hmin j (by omega)) (hmin i hi)) (hb m hm hmin hbm)
 ·rw [if_neg hx]
  have hn : ∀ i, i < n → ¬ bad i := fun i hi hbi => hx ⟨i, hi, hbi⟩
  exact Ym enc n (fun i hi => h i hi (fun j hj => hn j (by omega)) (hn i hi)) (he hn)
def sumI : List Int → Int
 | [] => 0
 | a :: l => a + sumI l
theorem Zl7 (l m : List Int) : sumI (l ++ m) = sumI l + sumI m := by
 induction l with
 | nil => simp [sumI]
 | cons a l ih => simp only [List.cons_append, sumI, ih]; omega
theorem ZaS {l : List Int} {i : Nat} (h : i < l.length) : sumI (l.take (i + 1)) = sumI (l.take i) + l[i] := by
 rw [List.take_succ_eq_append_getElem h, Zl7]
 simp [sumI]
theorem Zd5 {l : List Int} (h : ∀ v ∈ l, 0 ≤ v) : 0 ≤ sumI l := by
 induction l with
 | nil => simp [sumI]
 | cons a l ih =>
  have h1 := h a (by simp)
  have h2 := ih fun v hv => h v (by simp [hv])
  simp only [sumI]
  omega
theorem Zix {l : List Int} (h : ∀ v ∈ l, 0 ≤ v) (i : Nat) : sumI (l.take i) ≤ sumI l := by
 have h1 : sumI l = sumI (l.take i) + sumI (l.drop i) := by rw [← Zl7, List.take_append_drop]
 have h2 := Zd5 (l := l.drop i) fun v hv => h v (List.mem_of_mem_drop hv)
 omega
theorem ZmT {l : List Int} {c : Int} (h : ∀ v ∈ l, v ≤ c) : sumI l ≤ l.length * c := by
 induction l with
 | nil => simp [sumI]
 | cons a l ih =>
  have h1 := h a (by simp)
  have h2 := ih fun v hv => h v (by simp [hv])
  simp only [sumI, List.length_cons]
  have : ((l.length + 1 : Nat) : Int) * c = (l.length : Int) * c + c := by rw [Int.natCast_add, Int.add_mul]; simp
  omega
theorem ZiM (vs : List Int) (M : Int) (hM : 0 ≤ M) : (∃ i, i < vs.length ∧ ∃ h : i < vs.length, vs[i] < 0 ∨ M < sumI (vs.take (i + 1))) ↔ (∃ v ∈ vs, v < 0 ∨ M < v) ∨ M < sumI vs := by
 by_cases hneg : ∃ v ∈ vs, v < 0
 ·obtain ⟨v, hv, hv0⟩ := hneg
  obtain ⟨i, hi, rfl⟩ := List.getElem_of_mem hv
  exact ⟨fun _ => .inl ⟨_, hv, .inl hv0⟩, fun _ => ⟨i, hi, hi, .inl hv0⟩⟩
 ·have hp : ∀ v ∈ vs, 0 ≤ v := fun v hv => by
   have : ¬ v < 0 := fun h => hneg ⟨v, hv, h⟩
   omega
  constructor
  ·rintro ⟨i, _, hi, hb⟩
   have h1 := hp _ (List.getElem_mem hi)
   have h2 := Zix hp (i + 1)
   exact .inr (by omega)
  ·intro h
   have key : M < sumI vs → ∃ i, i < vs.length ∧ ∃ h : i < vs.length, vs[i] < 0 ∨ M < sumI (vs.take (i + 1)) := by
    intro hs
    have hn : 0 < vs.length := by
     rcases Nat.eq_zero_or_pos vs.length with h0 | h0
     ·have := List.length_eq_zero_iff.1 h0
      subst this
      simp only [sumI] at hs
      omega
     ·exact h0
    refine ⟨vs.length - 1, by omega, by omega, .inr ?_⟩
    rw [show vs.length - 1 + 1 = vs.length by omega, List.take_length]
    exact hs
   rcases h with ⟨v, hv, hb⟩ | hs
   ·have h0 := hp v hv
    obtain ⟨i, hi, rfl⟩ := List.getElem_of_mem hv
    refine ⟨i, hi, hi, .inr ?_⟩
    rw [ZaS hi]
    have := Zd5 (l := vs.take i) fun v hv => hp v (List.mem_of_mem_take hv)
    omega
   ·exact key hs
theorem Zow {K V : Type} [DecidableEq K] (k a : K) (v : V) (l : List (K × V)) : ZcA k (Zfh a v l) = if k = a then some v else ZcA k l := by
 induction l with
 | nil => simp [Zfh, ZcA]
 | cons x l ih =>
  obtain ⟨b, w⟩ := x
  simp only [Zfh]
  by_cases h : a = b
  ·subst h
   rw [if_pos rfl]
   simp only [ZcA]
   by_cases hk : k = a <;> simp [hk]
  ·rw [if_neg h]
   simp only [ZcA, ih]
   by_cases hk : k = b
   ·subst hk
    simp [Ne.symm h]
   ·simp [hk]
def Zkk (l : List Tapi_OutPoint) : List (Tapi_OutPoint × Bool) := l.foldl (fun m p => Zfh p true m) []
theorem Zhn (k : Tapi_OutPoint) (l : List Tapi_OutPoint) : ((ZcA k (Zkk l)).getD false = true) ↔ k ∈ l := by
 have key : ∀ (l : List Tapi_OutPoint) (m : List (Tapi_OutPoint × Bool)), ((ZcA k (l.foldl (fun m p => Zfh p true m) m)).getD false = true) ↔ (k ∈ l ∨ (ZcA k m).getD false = true) := by
  intro l
  induction l with
  | nil => intro m; simp
  | cons a l ih =>
   intro m
   rw [List.foldl_cons, ih, Zow]
   by_cases h : k = a
   ·simp [h]
   ·simp [h]
 have := key l []
 simpa [Zkk, ZcA] using this
theorem Zox {l : List Tapi_OutPoint} {i : Nat} (h : i < l.length) : Zkk (l.take (i + 1)) = Zfh l[i] true (Zkk (l.take i)) := by
 unfold Zkk
 rw [List.take_succ_eq_append_getElem h, List.foldl_append]
 rfl
abbrev nullP : Tapi_OutPoint := (zA 32, 4294967295)
def cbS (t : Tapi_Tx) : Bool := match t.2.1 with
 | [x] => decide (x.1 = nullP)
 | _ => false
theorem ZnE (t : Tapi_Tx) : XH t = some (cbS t) := by
 obtain ⟨a, ins, outs, l⟩ := t
 unfold XH ZdX cbS
 match ins with
 | [] => simp
 | [x] => simp [Prod.ext_iff]
 | x :: y :: l =>
  have : ¬ ((x :: y :: l).length : Int) = 1 := by simp only [List.length_cons]; omega
  dsimp only
  simp only [if_neg this, decide_eq_false this]
  rfl
theorem Zl8 (t : Tapi_Tx) : Xi t = some (cbS t) := by
 rw [← ZnE]
 rfl
def Yc (t : Tapi_Tx) : List Int := t.2.2.1.map Prod.fst
def Ya (t : Tapi_Tx) : List Tapi_OutPoint := t.2.1.map Prod.fst
def ZnF (l : List Tapi_OutPoint) : Prop := ∃ i, i < l.length ∧ ∃ h : i < l.length, l[i] ∈ l.take i
noncomputable def ZbX (t : Tapi_Tx) : Int := by
 classical exact if ¬ ZdR t = true then 4 else if t.2.1.length = 0 ∨ t.2.2.1.length = 0 then 93 else if (2100000000000000 : Int) < sumI (Yc t) then 90 else if ZnF (Ya t) then 91 else if nullP ∈ Ya t ∧ ¬ cbS t = true then 92 else 0
theorem Zjw {t : Tapi_Tx} (h : ZdR t = true) : ZeT t := by
 classical
 unfold ZdR at h
 simp only [decide_eq_true_eq] at h
 exact h.1
section
variable {t : Tapi_Tx}
theorem Zl9 (h : ZeT t) : ∀ v ∈ Yc t, 0 ≤ v := by
 intro v hv
 obtain ⟨o, ho, rfl⟩ := List.mem_map.1 hv
 exact (h.2.2.1 o ho).1
theorem ZpA (h : ZeT t) : ZbZ t.2.2.1 = some (decide (¬ (2100000000000000 : Int) < sumI (Yc t))) := by
 classical
 have hp := Zl9 h
 have hl : (Yc t).length = t.2.2.1.length := by simp [Yc]
 have hget : ∀ i (h1 : i < t.2.2.1.length), (Yc t)[i]'(by omega) = (t.2.2.1[i]).1 := by intro i h1; simp [Yc]
 unfold ZbZ
 have h64 := h.2.1
 have hbnd : ∀ i, (∀ j, j < i → ¬ ∃ h : j < (Yc t).length, (Yc t)[j] < 0 ∨ (2100000000000000 : Int) < sumI ((Yc t).take (j + 1))) → i ≤ (Yc t).length → 0 ≤ sumI ((Yc t).take i) ∧ sumI ((Yc t).take i) ≤ (2100000000000000 : Int) := by
  intro i hj hi
  refine ⟨Zd5 fun v hv => hp v (List.mem_of_mem_take hv), ?_⟩
  cases i with
  | zero => simp [sumI]
  | succ i =>
   have := hj i (by omega)
   have h2 : ¬ (2100000000000000 : Int) < sumI ((Yc t).take (i + 1)) := fun h => this ⟨by omega, .inr h⟩
   omega
 rw [ZbN (s := (0, 0)) (step := ZbT t.2.2.1) (fun i => (sumI ((Yc t).take i), (i : Int))) (Yc t).length (fun i => ∃ h : i < (Yc t).length, (Yc t)[i] < 0 ∨ (2100000000000000 : Int) < sumI ((Yc t).take (i + 1))) (some false) (some true) ?_ ?_ ?_ rfl]
 ·by_cases hs : (2100000000000000 : Int) < sumI (Yc t)
  ·rw [if_pos ((ZiM _ _ (by decide)).2 (.inr hs))]
   simp [hs]
  ·rw [if_neg]
   ·simp [hs]
   ·intro hb
    rcases (ZiM _ _ (by decide)).1 hb with ⟨v, hv, hb⟩ | hb
    ·have h0 := hp v hv
     have := (ZiM (Yc t) (2100000000000000 : Int) (by decide)).2 (.inl ⟨v, hv, hb⟩)
     obtain ⟨i, _, hi, hb'⟩ := this
     have h1 := hp _ (List.getElem_mem hi)
     have h2 := Zix hp (i + 1)
     omega
    ·exact hs hb
 ·intro i hi hj hb
  have hb0 := hbnd i hj (by omega)
  have hb1 : ¬ (2100000000000000 : Int) < sumI ((Yc t).take (i + 1)) := fun h => hb ⟨hi, .inr h⟩
  have h0 := hp _ (List.getElem_mem hi)
  have hg := hget i (by omega)
  rw [ZaS hi] at hb1
  simp only [ZbT]
  rw [if_pos (by omega), Zy (by omega), wi _ (by omega), if_neg (by omega), wi _ (by omega), Z0 hi (by omega), ZaS hi, hg]
 ·intro i hi hj hb
  have hb0 := hbnd i hj (by omega)
  obtain ⟨_, hb⟩ := hb
  have h0 := hp _ (List.getElem_mem hi)
  have hg := hget i (by omega)
  rw [ZaS hi] at hb
  simp only [ZbT]
  rw [if_pos (by omega), Zy (by omega), wi _ (by omega), if_pos (by omega)]
  rfl
 ·intro hj
  simp only [ZbT]
  rw [if_neg (by omega)]
  rfl
theorem pts_len : (Ya t).length = t.2.1.length := by simp [Ya]
theorem ZeU {i : Nat} (h1 : i < t.2.1.length) (h2 : i < (Ya t).length) : (Ya t)[i] = (t.2.1[i]).1 := by simp [Ya]
theorem Zma (t : Tapi_Tx) : Zbp t = some (ZbX t) := by
 classical
 unfold Zbp ZbX
 rw [Zqu, Zf]
 by_cases hf : ZdR t = true
 ·have hlim := Zjw hf
  have h64 := hlim.1
  have hnf : ¬ ¬ ZdR t = true := by simp [hf]
  rw [if_neg hnf, if_neg hnf]
  by_cases h0 : t.2.1.length = 0 ∨ t.2.2.1.length = 0
  ·rw [if_pos (show (t.2.1.length : Int) = 0 ∨ (t.2.2.1.length : Int) = 0 by omega), if_pos h0]
  ·rw [if_neg (show ¬ ((t.2.1.length : Int) = 0 ∨ (t.2.2.1.length : Int) = 0) by omega), if_neg h0, ZpA hlim, Zf]
   by_cases hs : (2100000000000000 : Int) < sumI (Yc t)
   ·rw [if_pos (by simp [hs]), if_pos hs]
   ·rw [if_neg (by simp [hs]), if_neg hs]
    have hl := pts_len (t := t)
    rw [ZbN (s := (0, [])) (step := ZbU t) (fun i => ((i : Int), Zkk ((Ya t).take i))) (Ya t).length (fun i => ∃ h : i < (Ya t).length, (Ya t)[i] ∈ (Ya t).take i) (some 91) (some (if nullP ∈ Ya t ∧ ¬ cbS t = true then 92 else 0)) ?_ ?_ ?_ rfl]
    ·by_cases hd : ZnF (Ya t)
     ·rw [if_pos (show ∃ i, i < (Ya t).length ∧ ∃ h : i < (Ya t).length, (Ya t)[i] ∈ (Ya t).take i from hd), if_pos hd]
     ·rw [if_neg (show ¬ ∃ i, i < (Ya t).length ∧ ∃ h : i < (Ya t).length, (Ya t)[i] ∈ (Ya t).take i from hd), if_neg hd]
    ·intro i hi _ hb
     have hg := ZeU (t := t) (by omega) hi
     simp only [ZbU]
     rw [if_pos (by omega), Zy (by omega), if_neg, Z0 hi (by omega), Zox hi, hg]
     rw [← hg, Zhn]
     exact fun h => hb ⟨hi, h⟩
    ·intro i hi _ hb
     have hg := ZeU (t := t) (by omega) hi
     simp only [ZbU]
     rw [if_pos (by omega), Zy (by omega), if_pos]
     ·rfl
     ·rw [← hg, Zhn]
      exact hb.2
    ·intro _
     simp only [ZbU]
     rw [if_neg (by omega), List.take_length]
     unfold Zf0
     rw [ZnE]
     by_cases hn : nullP ∈ Ya t
     ·have hn' := (Zhn _ _).2 hn
      rw [if_pos hn']
      cases hc : cbS t <;> simp [hn, hn']
     ·have hn' : ¬ _ := fun h => hn ((Zhn nullP (Ya t)).1 h)
      rw [if_neg hn']
      simp [hn, hn']
 ·rw [if_pos hf, if_pos hf]
theorem ZmU {i : Nat} (hi : i < t.2.1.length) (h64 : t.2.1.length ≤ 64) : (Zt (XI (i : Int) t) 0) = (by classical exact if ∃ h : i < (Ya t).length, (Ya t)[i] ∈ (Ya t).take i then some (.inr 91) else some (.inl ((i + 1 : Nat) : Int))) := by
 classical
 have hl := pts_len (t := t)
 have hgi := ZeU hi (by omega)
 rw [ZbN (s := 0) (step := XI (i : Int) t) (fun j => (j : Int)) i (fun j => ∃ h : j < (Ya t).length, (Ya t)[i]'(by omega) = (Ya t)[j]) (some (.inr 91)) (some (.inl ((i + 1 : Nat) : Int))) ?_ ?_ ?_ rfl]
 ·have e : (∃ j, j < i ∧ ∃ h : j < (Ya t).length, (Ya t)[i]'(by omega) = (Ya t)[j]) ↔ ∃ h : i < (Ya t).length, (Ya t)[i] ∈ (Ya t).take i := by
   constructor
   ·rintro ⟨j, hj, hj2, e⟩
    refine ⟨by omega, ?_⟩
    rw [e]
    exact List.mem_take_iff_getElem.2 ⟨j, by omega, rfl⟩
   ·rintro ⟨h, hm⟩
    obtain ⟨j, hj, e⟩ := List.mem_take_iff_getElem.1 hm
    exact ⟨j, by omega, by omega, e.symm⟩
  simp only [e]
 ·intro j hj _ hb
  have hgj := ZeU (t := t) (i := j) (by omega) (by omega)
  simp only [XI]
  rw [if_pos (by omega), Zy (by omega), Zy (by omega), if_neg, Z0 hj (by omega)]
  intro h
  exact hb ⟨by omega, by rw [hgi, hgj]; exact Prod.ext h.1 h.2⟩
 ·intro j hj _ hb
  have hgj := ZeU (t := t) (i := j) (by omega) (by omega)
  obtain ⟨_, hb⟩ := hb
  rw [hgi, hgj] at hb
  simp only [XI]
  rw [if_pos (by omega), Zy (by omega), Zy (by omega), if_pos ⟨congrArg Prod.fst hb, congrArg Prod.snd hb⟩]
  rfl
 ·intro _
  simp only [XI]
  rw [if_neg (by omega)]
  simp only [Zej, Z0 hi (by omega)]
theorem ZpB (h64 : t.2.1.length ≤ 64) : ZcE t = (by classical exact some (if nullP ∈ Ya t ∧ ¬ cbS t = true then 92 else 0)) := by
 classical
 unfold ZcE
 have hl := pts_len (t := t)
 rw [ZbN (s := 0) (step := Zar t) (fun j => (j : Int)) (Ya t).length (fun j => ∃ h : j < (Ya t).length, (Ya t)[j] = nullP ∧ ¬ cbS t = true) (some 92) (some 0) ?_ ?_ ?_ rfl]
 ·have e : (∃ j, j < (Ya t).length ∧ ∃ h : j < (Ya t).length, (Ya t)[j] = nullP ∧ ¬ cbS t = true) ↔ nullP ∈ Ya t ∧ ¬ cbS t = true := by
   constructor
   ·rintro ⟨j, _, hj, e, hc⟩
    exact ⟨e ▸ List.getElem_mem hj, hc⟩
   ·rintro ⟨hm, hc⟩
    obtain ⟨j, hj, e⟩ := List.getElem_of_mem hm
    exact ⟨j, hj, hj, e, hc⟩
  simp only [e]
  split <;> rfl
 ·intro i hi _ hb
  have hg := ZeU (t := t) (by omega) hi
  simp only [Zar]
  rw [if_pos (by omega), Zy (by omega), Zl8]
  unfold X6
  rw [Zf]
  by_cases hn : (t.2.1[i]'(by omega)).1 = nullP
  ·have hc : cbS t = true := Decidable.byContradiction fun h => hb ⟨hi, by rw [hg, hn], h⟩
   rw [hn]
   simp [hc, Z0 hi (show (Ya t).length ≤ 9223372036854775807 by omega)]
  ·have hn' : ¬ ((decide ((t.2.1[i]'(by omega)).1.1 = zA 32) && decide ((t.2.1[i]'(by omega)).1.2 = 4294967295)) = true) := by
    simp only [Bool.and_eq_true, decide_eq_true_eq]
    exact fun h => hn (Prod.ext h.1 h.2)
   rw [if_neg hn', Zf, if_neg (fun h => hn' h.1), Z0 hi (by omega)]
 ·intro i hi _ hb
  have hg := ZeU (t := t) (by omega) hi
  obtain ⟨_, hb, hc⟩ := hb
  rw [hg] at hb
  simp only [Zar]
  rw [if_pos (by omega), Zy (by omega), Zl8]
  unfold X6
  rw [Zf, hb]
  simp [hc]
 ·intro _
  simp only [Zar]
  rw [if_neg (by omega)]
  rfl
theorem Zk3 (t : Tapi_Tx) : XJ t = some (ZbX t) := by
 classical
 unfold XJ ZbX
 rw [Zpz, Zf]
 by_cases hf : ZdR t = true
 ·have hlim := Zjw hf
  have h64 := hlim.1
  have h65 := hlim.2.1
  have hp := Zl9 hlim
  have hnf : ¬ ¬ ZdR t = true := by simp [hf]
  rw [if_neg hnf, if_neg hnf]
  by_cases h0 : t.2.1.length = 0 ∨ t.2.2.1.length = 0
  ·rw [if_pos (show (t.2.1.length : Int) = 0 ∨ (t.2.2.1.length : Int) = 0 by omega), if_pos h0]
  ·rw [if_neg (show ¬ ((t.2.1.length : Int) = 0 ∨ (t.2.2.1.length : Int) = 0) by omega), if_neg h0]
   have hl : (Yc t).length = t.2.2.1.length := by simp [Yc]
   have hget : ∀ i (h1 : i < t.2.2.1.length), (Yc t)[i]'(by omega) = (t.2.2.1[i]).1 := by intro i h1; simp [Yc]
   have hk1 : Zbs (sumI (Yc t)) t = some (if (2100000000000000 : Int) < sumI (Yc t) then 90 else if ZnF (Ya t) then 91 else if nullP ∈ Ya t ∧ ¬ cbS t = true then 92 else 0) := by
    unfold Zbs
    by_cases hs : (2100000000000000 : Int) < sumI (Yc t)
    ·rw [if_pos hs, if_pos hs]
    ·rw [if_neg hs, if_neg hs]
     have hl := pts_len (t := t)
     rw [ZbN (s := 0) (step := Zas t) (fun i => (i : Int)) (Ya t).length (fun i => ∃ h : i < (Ya t).length, (Ya t)[i] ∈ (Ya t).take i) (some 91) (some (if nullP ∈ Ya t ∧ ¬ cbS t = true then 92 else 0)) ?_ ?_ ?_ rfl]
     ·by_cases hd : ZnF (Ya t)
      ·rw [if_pos (show ∃ i, i < (Ya t).length ∧ ∃ h : i < (Ya t).length, (Ya t)[i] ∈ (Ya t).take i from hd), if_pos hd]
      ·rw [if_neg (show ¬ ∃ i, i < (Ya t).length ∧ ∃ h : i < (Ya t).length, (Ya t)[i] ∈ (Ya t).take i from hd), if_neg hd]
     ·intro i hi _ hb
      simp only [Zas]
      rw [if_pos (by omega), ZmU (by omega) h64, if_neg hb]
     ·intro i hi _ hb
      simp only [Zas]
      rw [if_pos (by omega), ZmU (by omega) h64, if_pos hb]
      rfl
     ·intro _
      simp only [Zas]
      rw [if_neg (by omega), ZpB h64]
   have hbnd : ∀ i, (∀ j, j < i → ¬ ∃ h : j < (Yc t).length, (2100000000000000 : Int) < (Yc t)[j]) → i ≤ (Yc t).length → 0 ≤ sumI ((Yc t).take i) ∧ sumI ((Yc t).take i) ≤ i * (2100000000000000 : Int) := by
    intro i hj hi
    refine ⟨Zd5 fun v hv => hp v (List.mem_of_mem_take hv), ?_⟩
    have := ZmT (l := (Yc t).take i) (c := (2100000000000000 : Int)) (fun v hv => by
     obtain ⟨j, hj2, rfl⟩ := List.mem_take_iff_getElem.1 hv
     have h1 : ¬ (2100000000000000 : Int) < (Yc t)[j] := fun h => hj j (by omega) ⟨by omega, h⟩
     omega)
    rw [List.length_take, Nat.min_eq_left hi] at this
    exact this
   rw [ZbN (s := (0, 0)) (step := Zat t) (fun i => (sumI ((Yc t).take i), (i : Int))) (Yc t).length (fun i => ∃ h : i < (Yc t).length, (2100000000000000 : Int) < (Yc t)[i]) (some 90) (Zbs (sumI (Yc t)) t) ?_ ?_ ?_ rfl]
   ·rw [hk1]
    by_cases hx : ∃ i, i < (Yc t).length ∧ ∃ h : i < (Yc t).length, (2100000000000000 : Int) < (Yc t)[i]
    ·rw [if_pos hx]
     obtain ⟨i, _, hi, hb⟩ := hx
     have h1 := Zix hp (i + 1)
     rw [ZaS hi] at h1
     have h2 := Zd5 (l := (Yc t).take i) fun v hv => hp v (List.mem_of_mem_take hv)
     rw [if_pos (by omega)]
    ·rw [if_neg hx]
   ·intro i hi hj hb
    have hb0 := hbnd i hj (by omega)
    have hb1 : ¬ (2100000000000000 : Int) < (Yc t)[i] := fun h => hb ⟨hi, h⟩
    have h0 := hp _ (List.getElem_mem hi)
    have hg := hget i (by omega)
    have hi64 : (i : Int) ≤ 64 := by omega
    simp only [Zat]
    rw [if_pos (by omega), Zy (by omega), if_neg (by omega), wi _ (by omega), Z0 hi (by omega), ZaS hi, hg]
   ·intro i hi hj hb
    obtain ⟨_, hb⟩ := hb
    have hg := hget i (by omega)
    simp only [Zat]
    rw [if_pos (by omega), Zy (by omega), if_pos (by omega)]
    rfl
   ·intro _
    simp only [Zat]
    rw [if_neg (by omega), List.take_length]
 ·rw [if_pos hf, if_pos hf]
end
theorem Zoy {t : Tapi_Tx} (h : ZbX t = 0) : t.2.1.length ≤ 64 ∧ t.2.2.1.length ≤ 64 := by
 classical
 unfold ZbX at h
 by_cases hf : ZdR t = true
 ·have := Zjw hf
  exact ⟨this.1, this.2.1⟩
 ·rw [if_pos hf] at h
  omega
def ZY (l : List Tapi_Coin) : List Int := l.map fun c => c.2.1.1
def Zga (vs : List Int) : Prop := (∃ v ∈ vs, v < 0 ∨ (2100000000000000 : Int) < v) ∨ (2100000000000000 : Int) < sumI vs
section
variable {l : List Tapi_Coin}
theorem Zj1 {i : Nat} (h1 : i < l.length) (h2 : i < (ZY l).length) : (ZY l)[i] = (l[i]).2.1.1 := by simp [ZY]
theorem Zoz (h64 : l.length ≤ 64) : Zbq l = (by classical exact if Zga (ZY l) then some (0, false) else some (sumI (ZY l), true)) := by
 classical
 have hl : (ZY l).length = l.length := by simp [ZY]
 have hbnd : ∀ i, (∀ j, j < i → ¬ ∃ h : j < (ZY l).length, (ZY l)[j] < 0 ∨ (2100000000000000 : Int) < sumI ((ZY l).take (j + 1))) → i ≤ (ZY l).length → 0 ≤ sumI ((ZY l).take i) ∧ sumI ((ZY l).take i) ≤ (2100000000000000 : Int) := by
  intro i hj hi
  refine ⟨Zd5 fun v hv => ?_, ?_⟩
  ·obtain ⟨j, hj2, rfl⟩ := List.mem_take_iff_getElem.1 hv
   have h1 : ¬ (ZY l)[j] < 0 := fun h => hj j (by omega) ⟨by omega, .inl h⟩
   omega
  ·cases i with
   | zero => simp [sumI]
   | succ i =>
    have h2 : ¬ (2100000000000000 : Int) < sumI ((ZY l).take (i + 1)) := fun h => hj i (by omega) ⟨by omega, .inr h⟩
    omega
 unfold Zbq
 rw [ZbN (s := (0, 0)) (step := Zbd l) (fun i => (sumI ((ZY l).take i), (i : Int))) (ZY l).length (fun i => ∃ h : i < (ZY l).length, (ZY l)[i] < 0 ∨ (2100000000000000 : Int) < sumI ((ZY l).take (i + 1))) (some (0, false)) (some (sumI (ZY l), true)) ?_ ?_ ?_ rfl]
 ·simp only [ZiM (ZY l) (2100000000000000 : Int) (by decide)]
  by_cases hs : Zga (ZY l)
  ·rw [if_pos (show (∃ v ∈ ZY l, v < 0 ∨ (2100000000000000 : Int) < v) ∨ (2100000000000000 : Int) < sumI (ZY l) from hs), if_pos hs]
  ·rw [if_neg (show ¬ ((∃ v ∈ ZY l, v < 0 ∨ (2100000000000000 : Int) < v) ∨ (2100000000000000 : Int) < sumI (ZY l)) from hs), if_neg hs]
 ·intro i hi hj hb
  have hb0 := hbnd i hj (by omega)
  have hb1 : ¬ (2100000000000000 : Int) < sumI ((ZY l).take (i + 1)) := fun h => hb ⟨hi, .inr h⟩
  have h0 : ¬ (ZY l)[i] < 0 := fun h => hb ⟨hi, .inl h⟩
  have hg := Zj1 (l := l) (by omega) hi
  rw [ZaS hi] at hb1
  simp only [Zbd]
  rw [if_pos (by omega), Zy (by omega), wi (2100000000000000 - _) (by omega), if_neg (by omega), wi _ (by omega), Z0 hi (by omega), ZaS hi, hg]
 ·intro i hi hj hb
  have hb0 := hbnd i hj (by omega)
  obtain ⟨_, hb⟩ := hb
  have hg := Zj1 (l := l) (by omega) hi
  rw [ZaS hi] at hb
  simp only [Zbd]
  rw [if_pos (by omega), Zy (by omega), wi _ (by omega), if_pos (by omega)]
  rfl
 ·intro hj
  simp only [Zbd]
  rw [if_neg (by omega), List.take_length]
  rfl
theorem Zqv {t : Tapi_Tx} (h64 : l.length ≤ 64) : Zcp l t = (by classical exact if Zga (ZY l) then some (0, 90) else Zt (Xp t) (sumI (ZY l), 0)) := by
 classical
 have hl : (ZY l).length = l.length := by simp [ZY]
 have hbnd : ∀ i, (∀ j, j < i → ¬ ∃ h : j < (ZY l).length, (ZY l)[j] < 0 ∨ (2100000000000000 : Int) < (ZY l)[j]) → i ≤ (ZY l).length → 0 ≤ sumI ((ZY l).take i) ∧ sumI ((ZY l).take i) ≤ i * (2100000000000000 : Int) := by
  intro i hj hi
  have hp : ∀ v ∈ (ZY l).take i, 0 ≤ v ∧ v ≤ (2100000000000000 : Int) := fun v hv => by
   obtain ⟨j, hj2, rfl⟩ := List.mem_take_iff_getElem.1 hv
   have h1 : ¬ (ZY l)[j] < 0 := fun h => hj j (by omega) ⟨by omega, .inl h⟩
   have h2 : ¬ (2100000000000000 : Int) < (ZY l)[j] := fun h => hj j (by omega) ⟨by omega, .inr h⟩
   omega
  refine ⟨Zd5 fun v hv => (hp v hv).1, ?_⟩
  have := ZmT (l := (ZY l).take i) (c := (2100000000000000 : Int)) (fun v hv => (hp v hv).2)
  rw [List.length_take, Nat.min_eq_left hi] at this
  exact this
 unfold Zcp
 rw [ZbN (s := (0, 0)) (step := Zbf l t) (fun i => (sumI ((ZY l).take i), (i : Int))) (ZY l).length (fun i => ∃ h : i < (ZY l).length, (ZY l)[i] < 0 ∨ (2100000000000000 : Int) < (ZY l)[i]) (some (0, 90)) (ZdI (sumI (ZY l)) t) ?_ ?_ ?_ rfl]
 ·by_cases hx : ∃ i, i < (ZY l).length ∧ ∃ h : i < (ZY l).length, (ZY l)[i] < 0 ∨ (2100000000000000 : Int) < (ZY l)[i]
  ·have hs : Zga (ZY l) := by
    obtain ⟨i, _, hi, hb⟩ := hx
    exact .inl ⟨_, List.getElem_mem hi, hb⟩
   rw [if_pos hx, if_pos hs]
  ·rw [if_neg hx]
   unfold ZdI
   by_cases hs : (2100000000000000 : Int) < sumI (ZY l)
   ·have hs' : Zga (ZY l) := .inr hs
    rw [if_pos hs, if_pos hs']
   ·have hs' : ¬ Zga (ZY l) := by
     rintro (⟨v, hv, hb⟩ | h)
     ·obtain ⟨i, hi, rfl⟩ := List.getElem_of_mem hv
      exact hx ⟨i, hi, hi, hb⟩
     ·exact hs h
    rw [if_neg hs, if_neg hs']
 ·intro i hi hj hb
  have hb0 := hbnd i hj (by omega)
  have hb1 : ¬ ((ZY l)[i] < 0 ∨ (2100000000000000 : Int) < (ZY l)[i]) := fun h => hb ⟨hi, h⟩
  have hg := Zj1 (l := l) (by omega) hi
  have hi64 : (i : Int) ≤ 64 := by omega
  simp only [Zbf]
  rw [if_pos (by omega), Zy (by omega), if_neg (by omega), wi _ (by omega), Z0 hi (by omega), ZaS hi, hg]
 ·intro i hi hj hb
  obtain ⟨_, hb⟩ := hb
  have hg := Zj1 (l := l) (by omega) hi
  simp only [Zbf]
  rw [if_pos (by omega), Zy (by omega), if_pos (by omega)]
  rfl
 ·intro _
  simp only [Zbf]
  rw [if_neg (by omega), List.take_length]
end
theorem Zqw (t : Tapi_Tx) : Zfm t = Xp t := by
 funext ⟨a, b⟩
 rfl
def Zmb (n : Int) (l : List Tapi_Output) : Int := l.foldl (fun n x => IntKind.i64.wrap (n - x.1)) n
theorem ZpC {t : Tapi_Tx} (h : t.2.2.1.length ≤ 64) (n : Int) : ∃ r, Zt (Xp t) (n, 0) = some r := by
 have := Ym (step := Xp t) (fun i => (Zmb n (t.2.2.1.take i), (i : Int))) t.2.2.1.length (x := Zco (Zmb n t.2.2.1)) (fun i hi => by
  simp only [Xp]
  rw [if_pos (by omega), Zy hi, Z0 hi (by omega)]
  unfold Zmb
  rw [ZnD _ _ hi]) (by
  simp only [Xp]
  rw [if_neg (by omega), List.take_length])
 have e : Zt (Xp t) (n, 0) = Zco (Zmb n t.2.2.1) := by simpa [Zmb] using this
 rw [e]
 unfold Zco
 split <;> exact ⟨_, rfl⟩
theorem ZpD (t : Tapi_Tx) (l : List Tapi_Coin) : ∃ r, Zbr t l = some r ∧ Zbt t l = some r := by
 classical
 unfold Zbr Zbt
 rw [Zma, Zk3, Zf, Zf]
 by_cases hc : ZbX t = 0
 ·obtain ⟨h64, h65⟩ := Zoy hc
  have hnc : ¬ ¬ ZbX t = 0 := by simp [hc]
  rw [if_neg hnc, if_neg hnc]
  by_cases hn : (l.length : Int) = (t.2.1.length : Int)
  ·have hnn : ¬ ¬ (l.length : Int) = (t.2.1.length : Int) := by simp [hn]
   rw [if_neg hnn, if_neg hnn]
   have hk : ∃ r, ZdH l t = some r ∧ Zcp l t = some r := by
    rw [Zqv (by omega)]
    unfold ZdH
    rw [Zoz (by omega)]
    by_cases hs : Zga (ZY l)
    ·rw [if_pos hs, if_pos hs]
     exact ⟨_, rfl, rfl⟩
    ·rw [if_neg hs, if_neg hs, Zf, if_neg (by simp), Zqw]
     obtain ⟨r, hr⟩ := ZpC h65 (sumI (ZY l))
     exact ⟨r, hr, hr⟩
   obtain ⟨r, hk1, hk2⟩ := hk
   have e1 := Za6 (s := 0) (step := Zbe l t) (fun i => (i : Int)) (l.zip t.2.1) (fun x => ¬ (x.1.1.1 = x.2.1.1 ∧ x.1.1.2 = x.2.1.2)) (some (0, 101)) (some r) (fun i hi hb => by
    have hi2 : i < l.length := by simp at hi; omega
    have hi3 : i < t.2.1.length := by simp at hi; omega
    simp only [List.getElem_zip] at hb
    simp only [Zbe]
    rw [if_pos (by omega), Zy hi2, Zy hi3, if_neg hb, Z0 hi2 (by omega)]) (fun i hi hb => by
    have hi2 : i < l.length := by simp at hi; omega
    have hi3 : i < t.2.1.length := by simp at hi; omega
    simp only [List.getElem_zip] at hb
    simp only [Zbe]
    rw [if_pos (by omega), Zy hi2, Zy hi3, if_pos hb]
    rfl) (by
    have : (l.zip t.2.1).length = l.length := by simp; omega
    simp only [Zbe]
    rw [if_neg (by omega), hk1]) rfl
   have e2 := Za6 (s := 0) (step := Zbg l t) (fun i => (i : Int)) (l.zip t.2.1) (fun x => ¬ (x.1.1.1 = x.2.1.1 ∧ x.1.1.2 = x.2.1.2)) (some (0, 101)) (some r) (fun i hi hb => by
    have hi2 : i < l.length := by simp at hi; omega
    have hi3 : i < t.2.1.length := by simp at hi; omega
    simp only [List.getElem_zip] at hb
    simp only [Zbg]
    rw [if_pos (by omega), Zy hi2, Zy hi3, if_neg hb, Z0 hi2 (by omega)]) (fun i hi hb => by
    have hi2 : i < l.length := by simp at hi; omega
    have hi3 : i < t.2.1.length := by simp at hi; omega
    simp only [List.getElem_zip] at hb
    simp only [Zbg]
    rw [if_pos (by omega), Zy hi2, Zy hi3, if_pos hb]
    rfl) (by
    have : (l.zip t.2.1).length = l.length := by simp; omega
    simp only [Zbg]
    rw [if_neg (by omega), hk2]) rfl
   rw [e1, e2]
   split <;> exact ⟨_, rfl, rfl⟩
  ·rw [if_pos hn, if_pos hn]
   exact ⟨_, rfl, rfl⟩
 ·rw [if_pos hc, if_pos hc]
  exact ⟨_, rfl, rfl⟩
theorem ZnG (p : Tapi_Plan) : ∃ b, Y7 p = some b ∧ Xm p = some b := by
 classical
 unfold Y7 Xm
 rw [Zma, Zk3, Zf, Zf, ZnE, Zl8]
 by_cases hc : ZbX p.1 = 0
 ·obtain ⟨h64, h65⟩ := Zoy hc
  have hnc : ¬ ¬ ZbX p.1 = 0 := by simp [hc]
  rw [if_neg hnc]
  simp only [Zf]
  cases hb : cbS p.1 with
  | true => exact ⟨false, by simp, by simp⟩
  | false =>
   have h1 : ¬ (¬ ZbX p.1 = 0 ∨ false = true) := by simp [hc]
   rw [if_neg h1, if_neg h1]
   unfold ZcR
   rw [Zf, Zf, wi _ (by omega)]
   by_cases hx : p.2.2.2 < (-1) ∨ (p.1.2.2.1.length : Int) ≤ p.2.2.2
   ·refine ⟨false, ?_, ?_⟩
    ·have e1 := Za6 (s := 0) (step := YL p) (fun i => (i : Int)) p.1.2.1 (fun x => 0 < x.2.2.length) (some false) (some false) (fun i hi hb => by
      simp only [YL]
      rw [if_pos (by omega), Zy hi, if_neg (by omega), Z0 hi (by omega)]) (fun i hi hb => by
      simp only [YL]
      rw [if_pos (by omega), Zy hi, if_pos (by omega)]
      rfl) (by
      simp only [YL]
      rw [if_neg (by omega)]
      unfold ZcD
      rw [if_pos hx]) rfl
     rw [e1]
     split <;> rfl
    ·have h2 : (!(decide ((-1) ≤ p.2.2.2) && decide (p.2.2.2 ≤ (p.1.2.2.1.length : Int) - 1))) = true := by
      rcases hx with hx | hx
      ·have : ¬ (-1) ≤ p.2.2.2 := by omega
       simp [this]
      ·have : ¬ p.2.2.2 ≤ (p.1.2.2.1.length : Int) - 1 := by omega
       simp [this]
     rw [h2, if_pos (.inr rfl)]
   ·have h2 : (!(decide ((-1) ≤ p.2.2.2) && decide (p.2.2.2 ≤ (p.1.2.2.1.length : Int) - 1))) = false := by
     have g1 : (-1) ≤ p.2.2.2 := by omega
     have g2 : p.2.2.2 ≤ (p.1.2.2.1.length : Int) - 1 := by omega
     simp [g1, g2]
    rw [h2]
    have h3 : ¬ ((¬ ZbX p.1 = 0 ∨ false = true) ∨ false = true) := by simp [hc]
    rw [if_neg h3]
    obtain ⟨r, hr1, hr2⟩ := ZpD p.1 p.2.1
    have e1 := Za6 (s := 0) (step := YL p) (fun i => (i : Int)) p.1.2.1 (fun x => 0 < x.2.2.length) (some false) (some (decide (r.2 = 0) && decide (r.1 = p.2.2.1))) (fun i hi hb => by
     simp only [YL]
     rw [if_pos (by omega), Zy hi, if_neg (by omega), Z0 hi (by omega)]) (fun i hi hb => by
     simp only [YL]
     rw [if_pos (by omega), Zy hi, if_pos (by omega)]
     rfl) (by
     simp only [YL]
     rw [if_neg (by omega)]
     unfold ZcD
     rw [if_neg hx, hr1]
     rfl) rfl
    have e2 := Za6 (s := 0) (step := Zau p) (fun i => (i : Int)) p.1.2.1 (fun x => 0 < x.2.2.length) (some false) (some (decide (r.2 = 0) && decide (r.1 = p.2.2.1))) (fun i hi hb => by
     simp only [Zau]
     rw [if_pos (by omega), Zy hi, if_neg (by omega), Z0 hi (by omega)]) (fun i hi hb => by
     simp only [Zau]
     rw [if_pos (by omega), Zy hi, if_pos (by omega)]
     rfl) (by
     simp only [Zau]
     rw [if_neg (by omega)]
     unfold Zek
     rw [hr2]
     rfl) rfl
    rw [e1, e2]
    split <;> exact ⟨_, rfl, rfl⟩
 ·have hc' : ¬ ZbX p.1 = 0 := hc
  rw [if_pos hc', Zf, Zf, if_pos (.inl hc'), if_pos (.inl hc'), Zf, if_pos (.inl (.inl hc'))]
  exact ⟨_, rfl, rfl⟩
end Go.Lc
end
section
namespace Go.Lc
open Go.RowKit
open Go.Av
set_option linter.unusedVariables false
set_option linter.unusedSimpArgs false
set_option maxRecDepth 100000
theorem ZpE {a b : Arr 4} (h0 : a.at 0 = b.at 0) (h1 : a.at 1 = b.at 1) (h2 : a.at 2 = b.at 2) (h3 : a.at 3 = b.at 3) : a = b := by
 obtain ⟨l, hl⟩ := a
 obtain ⟨m, hm⟩ := b
 match l, hl, m, hm with
 | [x0, x1, x2, x3], _, [y0, y1, y2, y3], _ =>
  simp [Arr.at] at h0 h1 h2 h3
  subst h0 h1 h2 h3
  rfl
def Zex (a b : Arr 4) : Int :=
 if a.at 3 < b.at 3 then -1 else if b.at 3 < a.at 3 then 1 else if a.at 2 < b.at 2 then -1 else if b.at 2 < a.at 2 then 1 else if a.at 1 < b.at 1 then -1 else if b.at 1 < a.at 1 then 1 else if a.at 0 < b.at 0 then -1 else if b.at 0 < a.at 0 then 1 else 0
theorem Zjx (a b : Arr 4) : Zbz a b = some (Zex a b) := by
 have st : ∀ (j : Nat), j < 4 → Zt (Za2 a b) (j : Int) = if a.at j < b.at j then some (-1) else if b.at j < a.at j then some 1 else Zt (Za2 a b) ((j : Int) - 1) := by
  intro j hj
  rw [ZfH]
  simp only [Za2]
  rw [if_pos (by omega), Za5 hj, wi _ (by omega)]
  by_cases h1 : a.at j < b.at j
  ·rw [if_pos h1, if_pos h1]
  ·rw [if_neg h1, if_neg h1]
   by_cases h2 : b.at j < a.at j
   ·rw [if_pos h2, if_pos h2]
   ·rw [if_neg h2, if_neg h2]
 have en : Zt (Za2 a b) (((0 : Nat) : Int) - 1) = some 0 := by
  refine Za4 ?_
  simp only [Za2]
  rw [if_neg (by omega)]
  rfl
 unfold Zbz Zex
 have h3 := st 3 (by omega)
 have h2 := st 2 (by omega)
 have h1 := st 1 (by omega)
 have h0 := st 0 (by omega)
 rw [show (3 : Int) = ((3 : Nat) : Int) from rfl, h3, show ((3 : Nat) : Int) - 1 = ((2 : Nat) : Int) from rfl, h2, show ((2 : Nat) : Int) - 1 = ((1 : Nat) : Int) from rfl, h1, show ((1 : Nat) : Int) - 1 = ((0 : Nat) : Int) from rfl, h0, en]
 repeat' split
 all_goals rfl
theorem ZgR (a b : Arr 4) : ZaL a b = some (Zex a b) := by
 rw [← Zjx]
 rfl
def ltS (s t : Tapi_Signed) : Prop := s.1 < t.1 ∨ s.1 = t.1 ∧ Zex s.2.1 t.2.1 < 0
def eqK (s t : Tapi_Signed) : Prop := s.1 = t.1 ∧ s.2.1 = t.2.1
noncomputable instance (s t : Tapi_Signed) : Decidable (ltS s t) := by unfold ltS; infer_instance
theorem ZoA (a : Arr 4) : Zex a a = 0 := by simp [Zex]
theorem ZmV {a b : Arr 4} : Zex a b < 0 ↔ (a.at 3 < b.at 3 ∨ a.at 3 = b.at 3 ∧ (a.at 2 < b.at 2 ∨ a.at 2 = b.at 2 ∧ (a.at 1 < b.at 1 ∨ a.at 1 = b.at 1 ∧ a.at 0 < b.at 0))) := by
 unfold Zex
 repeat' split
 all_goals omega
theorem Zqx {a b : Arr 4} : 0 < Zex a b ↔ Zex b a < 0 := by
 rw [ZmV]
 unfold Zex
 repeat' split
 all_goals omega
theorem Zkl (s : Tapi_Signed) : ¬ ltS s s := by
 unfold ltS
 rw [ZoA]
 omega
theorem Zk4 {s t u : Tapi_Signed} (h : ltS s t) (h' : ltS t u) : ltS s u := by
 unfold ltS at *
 rw [ZmV] at *
 omega
theorem Zj2 (s t : Tapi_Signed) : ∃ c, Y9 s t = some c ∧ (c < 0 ↔ ltS s t) ∧ (0 < c ↔ ltS t s) := by
 have hor : ∀ x y : Int, Xz [x, y] = some (if x = 0 then y else x) := by
  intro x y
  unfold Xz
  by_cases hx : x = 0
  ·rw [Za3 (s' := (1 : Int)) (by simp only [Xh]; simp [idx, hx, wi]), if_pos hx]
   by_cases hy : y = 0
   ·rw [Za3 (s' := (2 : Int)) (by simp only [Xh]; simp [idx, hy, wi])]
    refine Za4 ?_
    simp [Xh, Lcmp_Or_of_int_k1, hy]
   ·refine Zdy ?_
    simp [Xh, idx, hy]
  ·rw [if_neg hx]
   refine Zdy ?_
   simp [Xh, idx, hx]
 have hc : YH s.1 t.1 = some (if s.1 < t.1 then -1 else if t.1 < s.1 then 1 else 0) := by
  unfold YH YS
  simp
  split
  ·rfl
  ·split <;> rfl
 refine ⟨if (if s.1 < t.1 then (-1 : Int) else if t.1 < s.1 then 1 else 0) = 0 then Zex s.2.1 t.2.1 else (if s.1 < t.1 then (-1 : Int) else if t.1 < s.1 then 1 else 0), ?_, ?_⟩
 ·unfold Y9
  rw [hc, Zf, Zjx, Zf, hor, Zf]
 ·have := Zqx (a := s.2.1) (b := t.2.1)
  unfold ltS
  constructor
  ·by_cases h1 : s.1 < t.1
   ·simp [h1]
   ·by_cases h2 : t.1 < s.1
    ·simp [h1, h2]; omega
    ·simp [h1, h2]; omega
  ·by_cases h1 : s.1 < t.1
   ·simp [h1]; omega
   ·by_cases h2 : t.1 < s.1
    ·simp [h1, h2]
    ·simp [h1, h2]; omega
theorem Zk5 (s t : Tapi_Signed) : XW s t = some (decide (ltS s t)) := by
 unfold XW ltS
 rw [ZgR]
 by_cases h1 : s.1 < t.1
 ·simp [h1]
 ·by_cases h2 : s.1 = t.1
  ·simp [h1, h2]
  ·simp [h1, h2]
abbrev Asc (l : List Tapi_Signed) : Prop := l.Pairwise ltS
theorem Zqy {l m : List Tapi_Signed} (hl : Asc l) (hm : Asc m) (h : ∀ s, s ∈ l ↔ s ∈ m) : l = m := by
 induction l generalizing m with
 | nil =>
  cases m with
  | nil => rfl
  | cons b m => exact absurd ((h b).2 (by simp)) (by simp)
 | cons a l ih =>
  cases m with
  | nil => exact absurd ((h a).1 (by simp)) (by simp)
  | cons b m =>
   have hl' := List.pairwise_cons.1 hl
   have hm' := List.pairwise_cons.1 hm
   have hab : a = b := by
    rcases List.mem_cons.1 ((h a).1 (by simp)) with e | e
    ·exact e
    ·rcases List.mem_cons.1 ((h b).2 (by simp)) with f | f
     ·exact f.symm
     ·exact absurd (Zk4 (hl'.1 b f) (hm'.1 a e)) (Zkl a)
   subst hab
   congr 1
   refine ih hl'.2 hm'.2 fun s => ?_
   constructor
   ·intro hs
    rcases List.mem_cons.1 ((h s).1 (List.mem_cons_of_mem _ hs)) with e | e
    ·subst e; exact absurd (hl'.1 s hs) (Zkl s)
    ·exact e
   ·intro hs
    rcases List.mem_cons.1 ((h s).2 (List.mem_cons_of_mem _ hs)) with e | e
    ·subst e; exact absurd (hm'.1 s hs) (Zkl s)
    ·exact e
def Conf (x y : List Tapi_Signed) : Prop := ∃ s ∈ x, ∃ t ∈ y, eqK s t ∧ s ≠ t
def Zlo (x y z : List Tapi_Signed) : Prop := Asc z ∧ ∀ s, s ∈ z ↔ s ∈ x ∨ s ∈ y
theorem Zlo.ext {x y z z' : List Tapi_Signed} (h : Zlo x y z) (h' : Zlo x y z') : z = z' := Zqy h.1 h'.1 fun s => (h.2 s).trans (h'.2 s).symm
end Go.Lc
end
section
namespace Go.Lc
open Go.RowKit
open Go.Av
set_option linter.unusedVariables false
set_option linter.unusedSimpArgs false
set_option maxRecDepth 100000
def nilP : Tapi_PartialTx := ((((0, [], [], 0), [], 0, 0), []))
end Go.Lc
end
section
namespace Go.Lc
open Go.RowKit
open Go.Av
set_option linter.unusedVariables false
set_option linter.unusedSimpArgs false
set_option maxRecDepth 100000
theorem wn (n : Nat) (h : n ≤ 18446744073709551615) : IntKind.u64.wrap (n : Int) = n := wu _ (by omega)
theorem Zri {q : Nat} {low : Nat} (hl : low < 256) (hs : q * 256 + low ≤ 18446744073709551615) : bits .or .u64 (IntKind.u64.wrap ((q : Int) * 256)) (low : Int) = ((q * 256 + low : Nat) : Int) := by
 have e0 : (q : Int) * 256 = ((q * 256 : Nat) : Int) := by simp
 rw [e0, wn _ (by omega)]
 show IntKind.u64.wrap ((BitVec.ofInt 64 ((q * 256 : Nat) : Int) ||| BitVec.ofInt 64 (low : Int)).toNat : Int) = _
 rw [BitVec.toNat_or]
 have e1 : (BitVec.ofInt 64 ((q * 256 : Nat) : Int)).toNat = q * 256 := by
  simp only [BitVec.toNat_ofInt]
  omega
 have e2 : (BitVec.ofInt 64 (low : Int)).toNat = low := by
  simp only [BitVec.toNat_ofInt]
  omega
 have e3 := Nat.two_pow_add_eq_or_of_lt (i := 8) (by simpa using hl) q
 rw [e1, e2, Nat.mul_comm q, show (256 : Nat) = 2 ^ 8 from rfl, ← e3, wn _ (by simp; omega)]
def dig (a : Arr 4) : Prop := ∀ i, i < 4 → ∃ w : Nat, a.at i = (w : Int) ∧ w ≤ 18446744073709551615
def byW (a : Arr 4) (i : Nat) : Int := IntKind.u8.wrap ((a.at (3 - i / 8)).fdiv (2 ^ (56 - (i % 8) * 8)))
def bw (a : Arr 4) : Nat → Arr 32
 | 0 => zA 32
 | i + 1 => (bw a i).put i (byW a i)
theorem Zk6 (a : Arr 4) : X8 a = some (bw a 32) := by
 unfold X8
 refine Ym (step := ZbV a) (fun k => ((k : Int), bw a k)) 32 (x := some (bw a 32)) (fun k hk => ?_) ?_
 ·simp only [ZbV]
  have e8 : (k : Int).tmod 8 = ((k % 8 : Nat) : Int) := rfl
  have d8 : (k : Int).tdiv 8 = ((k / 8 : Nat) : Int) := rfl
  rw [if_pos (by omega), e8, d8, wi (((k / 8 : Nat) : Int)) (by omega), wi (((k % 8 : Nat) : Int) * 8) (by omega), wi (56 - ((k % 8 : Nat) : Int) * 8) (by omega), wi (3 - ((k / 8 : Nat) : Int)) (by omega), show (3 : Int) - ((k / 8 : Nat) : Int) = ((3 - k / 8 : Nat) : Int) by omega, Za5 (by omega), ZZ (by omega), Za5 hk, Z0 hk (by omega)]
  have e : min (56 - ((k % 8 : Nat) : Int) * 8).toNat 64 = 56 - (k % 8) * 8 := by omega
  rw [e]
  rfl
 ·simp only [ZbV]
  rw [if_neg (by omega)]
  rfl
theorem ZnH (a : Arr 4) : ∀ (n i : Nat), i < n → n ≤ 32 → (bw a n).at i = byW a i
 | 0, i, h, _ => by omega
 | n + 1, i, h, hn => by
  rw [bw]
  by_cases e : i = n
  ·subst e
   rw [Arr.at_put _ (by omega)]
  ·rw [Arr.at_put_ne _ (fun h' => e h'.symm)]
   exact ZnH a n i (by omega) (by omega)
theorem Zqz {a : Arr 4} {i w : Nat} (hw : a.at (3 - i / 8) = (w : Int)) : byW a i = ((w / 2 ^ (56 - (i % 8) * 8) % 256 : Nat) : Int) := by
 unfold byW
 rw [hw]
 have : ((w : Int)).fdiv (2 ^ (56 - (i % 8) * 8)) = ((w / 2 ^ (56 - (i % 8) * 8) : Nat) : Int) := by
  rw [Int.fdiv_eq_ediv_of_nonneg _ (Int.le_of_lt (Int.pow_pos (by decide))), Int.natCast_ediv, Int.natCast_pow]
  rfl
 rw [this]
 generalize w / 2 ^ (56 - (i % 8) * 8) = v
 unfold IntKind.wrap
 simp [IntKind.bits, IntKind.signed]
def fw (x : Arr 32) : Nat → Arr 4
 | 0 => zA 4
 | i + 1 => (fw x i).put (3 - i / 8) (bits .or .u64 (IntKind.u64.wrap ((fw x i).at (3 - i / 8) * 256)) (IntKind.u64.wrap (x.at i)))
theorem ZpF (x : Arr 32) : Yq x = some (fw x 32) := by
 unfold Yq
 refine Ym (step := Y8 x) (fun k => ((k : Int), fw x k)) 32 (x := some (fw x 32)) (fun k hk => ?_) ?_
 ·simp only [Y8]
  have d8 : (k : Int).tdiv 8 = ((k / 8 : Nat) : Int) := rfl
  rw [if_pos (by omega), Za5 hk, d8, wi (((k / 8 : Nat) : Int)) (by omega), wi (3 - ((k / 8 : Nat) : Int)) (by omega), show (3 : Int) - ((k / 8 : Nat) : Int) = ((3 - k / 8 : Nat) : Int) by omega, Za5 (by omega), Z0 hk (by omega)]
  rfl
 ·simp only [Y8]
  rw [if_neg (by omega)]
  rfl
theorem Zlm (n i : Nat) : (zA n).at i = 0 := by
 unfold zA Arr.at zs
 simp only [List.getD_eq_getElem?_getD, List.getElem?_replicate]
 split <;> rfl
theorem ZmW {a : Arr 4} {x : Arr 32} (hx : ∀ i, i < 32 → x.at i = byW a i) : ∀ (n q w : Nat), n ≤ 32 → q < 4 → a.at (3 - q) = (w : Int) → w ≤ 18446744073709551615 → (fw x n).at (3 - q) = ((w / 2 ^ (64 - 8 * min 8 (n - 8 * q)) : Nat) : Int)
 | 0, q, w, _, hq, hw, hw2 => by
  rw [fw, Zlm, Nat.zero_sub, Nat.min_zero]
  have : w / 2 ^ (64 - 8 * 0) = 0 := Nat.div_eq_of_lt (by simp; omega)
  rw [this]
  rfl
 | n + 1, q, w, hn, hq, hw, hw2 => by
  have ih := ZmW hx n q w (by omega) hq hw hw2
  rw [fw]
  by_cases e : n / 8 = q
  ·subst e
   rw [Arr.at_put _ (by omega), ih, hx n (by omega), Zqz hw]
   have hk : n - 8 * (n / 8) = n % 8 := by omega
   have hk1 : n + 1 - 8 * (n / 8) = n % 8 + 1 := by omega
   rw [hk, hk1, Nat.min_eq_right (by omega), Nat.min_eq_right (by omega), wn _ (by omega)]
   have hlt : n % 8 < 8 := by omega
   generalize n % 8 = k at hlt
   have e1 : 64 - 8 * k = 8 + (56 - k * 8) := by omega
   have e2 : 64 - 8 * (k + 1) = 56 - k * 8 := by omega
   rw [e1, e2, Nat.pow_add, Nat.mul_comm, ← Nat.div_div_eq_div_mul]
   generalize hv : w / 2 ^ (56 - k * 8) = v
   have hv2 : v ≤ w := by rw [← hv]; exact Nat.div_le_self _ _
   rw [Zri (by omega) (by omega)]
   congr 1
   omega
  ·rw [Arr.at_put_ne _ (by omega), ih]
   congr 4
   omega
theorem ZmX {a : Arr 4} (ha : dig a) {x : Arr 32} (hx : ∀ i, i < 32 → x.at i = byW a i) : Yq x = some a := by
 rw [ZpF]
 refine congrArg some ?_
 have key : ∀ q, q < 4 → (fw x 32).at (3 - q) = a.at (3 - q) := by
  intro q hq
  obtain ⟨w, hw, hw2⟩ := ha (3 - q) (by omega)
  rw [ZmW hx 32 q w (by omega) hq hw hw2, hw, Nat.min_eq_left (by omega)]
  simp
 generalize fw x 32 = y at key
 have k0 := key 3 (by omega)
 have k1 := key 2 (by omega)
 have k2 := key 1 (by omega)
 have k3 := key 0 (by omega)
 exact ZpE k0 k1 k2 k3
theorem Zmc (g : Tapi_Signature) : Zaj g = some ((bw g.1 32).l ++ (bw g.2 32).l) := by
 have h1 := (bw g.1 32).hl
 have h2 := (bw g.2 32).hl
 have hr : Zb0 [bw g.1 32, bw g.2 32] = some ((bw g.1 32).l ++ (bw g.2 32).l) := by
  unfold Zb0
  rw [Za3 (s' := (1, (bw g.1 32).l)) (by
   simp only [ZcT]
   rw [if_pos (by simp), show (0 : Int) = ((0 : Nat) : Int) from rfl, Zy (by simp), ZZ (by simp)]
   simp [wi]), Za3 (s' := (2, (bw g.1 32).l ++ (bw g.2 32).l)) (by
   simp only [ZcT]
   rw [if_pos (by simp), show (1 : Int) = ((1 : Nat) : Int) from rfl, Zy (by simp), ZZ (by simp [Arr.hl])]
   simp [wi])]
  refine Za4 ?_
  simp only [ZcT]
  rw [if_neg (by simp)]
  rfl
 unfold Zaj
 rw [Zk6, Zf, Zk6, Zf, hr, Zf]
def ordA : Arr 4 := (((zA 4).put 0 18446744073709533559).put 1 18446744073709551615).put 2 18446744073709551615 |>.put 3 9223372036854775807
def Za7 (a : Arr 4) : Prop := Zex a ordA < 0
instance (a : Arr 4) : Decidable (Za7 a) := by unfold Za7; infer_instance
theorem Zk7 (a : Arr 4) : XM a = some (decide (Za7 a)) := by
 unfold XM Lgroup_Order
 rw [Zf, Zjx, Zf]
 rfl
theorem ZmY {n : Nat} {l : List Int} (h : n ≤ l.length) (i : Nat) (hi : i < n) : (Zgu n l).at i = l.getD i 0 := by
 unfold Zgu Arr.at
 rw [dif_pos h]
 simp only [List.getD_eq_getElem?_getD]
 rw [List.getElem?_take_of_lt hi]
theorem Zmd {g : Tapi_Signature} (h1 : dig g.1) (h2 : dig g.2) : ∃ r, Zai ((bw g.1 32).l ++ (bw g.2 32).l) = some r ∧ (r.2 = 0 ↔ Za7 g.1 ∧ Za7 g.2) := by
 have l1 := (bw g.1 32).hl
 have l2 := (bw g.2 32).hl
 have a1 : ∀ i, i < 32 → (Zgu 32 (((bw g.1 32).l ++ (bw g.2 32).l).take 32)).at i = byW g.1 i := by
  intro i hi
  rw [List.take_left' l1, ZmY (by omega) i hi]
  exact ZnH g.1 32 i hi (by omega)
 have a2 : ∀ i, i < 32 → (Zgu 32 (((bw g.1 32).l ++ (bw g.2 32).l).drop 32)).at i = byW g.2 i := by
  intro i hi
  rw [List.drop_left' l1, ZmY (by omega) i hi]
  exact ZnH g.2 32 i hi (by omega)
 unfold Zai
 rw [if_neg (by simp [l1, l2]), ZZ (by simp [l1, l2]), ZZ (by simp [l1, l2]), ZmX h1 a1, Zf, ZZ (by simp [l1, l2]), ZZ (by simp [l1, l2]), ZmX h2 a2, Zf, Zk7, Zf]
 by_cases s1 : Za7 g.1
 ·rw [if_neg (by simp [s1]), Zk7, Zf, Zf]
  by_cases s2 : Za7 g.2
  ·rw [if_neg (by simp [s1, s2])]
   exact ⟨_, rfl, by simp [s1, s2]⟩
  ·rw [if_pos (by simp [s1, s2])]
   exact ⟨_, rfl, by simp [s1, s2]⟩
 ·rw [if_pos (by simp [s1]), Zf, if_pos (by simp [s1])]
  exact ⟨_, rfl, by simp [s1]⟩
end Go.Lc
end
