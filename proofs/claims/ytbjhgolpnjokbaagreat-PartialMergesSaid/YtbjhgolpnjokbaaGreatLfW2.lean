import Derived.Test.YtbjhgolpnjokbaaGreatLfK
import Derived.Test.YtbjhgolpnjokbaaGreatCode
import Derived.Test.YtbjhgolpnjokbaaGreatBl
namespace Go.Proofs.YtbjhgolpnjokbaaGreat
open Go.RowKit
open Go.Av
open Go.Lc
set_option maxRecDepth 100000
set_option linter.unusedSimpArgs false
set_option linter.unusedVariables false
set_option maxHeartbeats 4000000
variable {G : Glob}
def kp80 : Keep:=fun i=>⟨[],[],[]⟩
theorem w80 {T : Tab} (a0 : Tapi_Op) (x : Int) (hr : ZaD a0 = some x) : ∃ kp fl n,Zt tt T G kp fl n Tryz.f80 (E80 a0) = some (R80 a0 x):=by
 simp only [E80,R80];refine fnE (kp:=kp80) (w:=false) body80 (by simp) ?_;unfold c80;rw [Tryz.ntmps80];unfold ZaD at hr;refine Za rfl (by simp []; rfl) ?_;refine Zg ?_;by_cases c2 : a0.1 < 1
 ·skip
  refine Za rfl (by simp [c2]; rfl) ?_;rw [if_pos] at hr;rotate_left
  ·simp [c2]
  refine Zp (by simp [bV,c2]) ?_;refine Za rfl (by simp [c2]; rfl) ?_;refine Zi ?_;obtain rfl:=Option.some.inj hr;simp [Zj,c2]
 ·skip
  refine Za rfl (by simp [c2]; rfl) ?_;by_cases c3 : 17 < a0.1
  ·skip
   rw [if_pos] at hr;rotate_left
   ·simp [c2,c3]
   refine Zp (by simp [bV,c2,c3]) ?_;refine Za rfl (by simp [c2,c3]; rfl) ?_;refine Zi ?_;obtain rfl:=Option.some.inj hr;simp [Zj,c2,c3]
  ·skip
   rw [if_neg] at hr;rotate_left
   ·simp [c2,c3]
   refine Zy (by simp [bV,c2,c3]) ?_;refine Zb ?_;by_cases c4 : 0 < (a0.2.1.length : Int)
   ·skip
    have c4N:=c4;try simp at c4N
    first | have c4M : (_ = _) = True:=eq_true c4N | have c4M:=c4N
    refine Za rfl (by simp [c2,c3,c4,c4M]; rfl) ?_;by_cases c8 : a0.1 = 1
    ·skip
     rw [if_neg] at hr;rotate_left
     ·simp [c2,c3,c4,c4M,eq_true c8]
     refine Ze (by simp [bV,c2,c3,c4,c4M,eq_true c8]) ?_;by_cases c9 : a0.2.2.1 = 0
     ·skip
      by_cases c10 : a0.2.2.2 = 0
      ·skip
       refine Za rfl (by simp [c2,c3,c4,c4M,eq_true c8,eq_true c9,eq_true c10]; rfl) ?_;unfold YO at hr;rw [if_neg] at hr;rotate_left
       ·simp [c2,c3,c4,c4M,eq_true c8,eq_true c9,eq_true c10]
       refine Zy (by simp [bV,c2,c3,c4,c4M,eq_true c8,eq_true c9,eq_true c10]) ?_;refine Za rfl (by simp [c2,c3,c4,c4M,eq_true c8,eq_true c9,eq_true c10]; rfl) ?_;by_cases c11 : 255 < (a0.2.1.length : Int)
       ·skip
        have c11N:=c11;try simp at c11N
        first | have c11M : (_ = _) = True:=eq_true c11N | have c11M:=c11N
        rw [if_pos c11] at hr;refine Zp (by simp [bV,c2,c3,c4,c4M,eq_true c8,eq_true c9,eq_true c10,c11,c11M]) ?_;refine Za rfl (by simp [c2,c3,c4,c4M,eq_true c8,eq_true c9,eq_true c10,c11,c11M]; rfl) ?_;refine Zi ?_;obtain rfl:=Option.some.inj hr;simp [Zj,c2,c3,c4,c4M,eq_true c8,eq_true c9,eq_true c10,c11,c11M,c4N,c11N]
       ·skip
        have c11N:=c11;try simp at c11N
        first | have c11M : (_ = _) = True:=eq_true c11N | have c11M:=c11N
        rw [if_neg c11] at hr;refine Zy (by simp [bV,c2,c3,c4,c4M,eq_true c8,eq_true c9,eq_true c10,c11,c11M]) ?_;by_cases c12 : a0.1 = 11
        ·skip
         by_cases c13 : a0.2.2.2 < 1
         ·skip
          refine Za rfl (by simp [c2,c3,c4,c4M,eq_true c8,eq_true c9,eq_true c10,c11,c11M,eq_true c12,c13]; rfl) ?_;rw [if_pos] at hr;rotate_left
          ·simp [c2,c3,c4,c4M,eq_true c8,eq_true c9,eq_true c10,c11,c11M,eq_true c12,c13]
          refine Zp (by simp [bV,c2,c3,c4,c4M,eq_true c8,eq_true c9,eq_true c10,c11,c11M,eq_true c12,c13]) ?_;refine Za rfl (by simp [c2,c3,c4,c4M,eq_true c8,eq_true c9,eq_true c10,c11,c11M,eq_true c12,c13]; rfl) ?_;refine Zi ?_;obtain rfl:=Option.some.inj hr;simp [Zj,c2,c3,c4,c4M,eq_true c8,eq_true c9,eq_true c10,c11,c11M,eq_true c12,c13,c4N,c11N]
         ·skip
          by_cases c14 : 15 < a0.2.2.2
          ·skip
           refine Za rfl (by simp [c2,c3,c4,c4M,eq_true c8,eq_true c9,eq_true c10,c11,c11M,eq_true c12,c13,c14]; rfl) ?_;rw [if_pos] at hr;rotate_left
           ·simp [c2,c3,c4,c4M,eq_true c8,eq_true c9,eq_true c10,c11,c11M,eq_true c12,c13,c14]
           refine Zp (by simp [bV,c2,c3,c4,c4M,eq_true c8,eq_true c9,eq_true c10,c11,c11M,eq_true c12,c13,c14]) ?_;refine Za rfl (by simp [c2,c3,c4,c4M,eq_true c8,eq_true c9,eq_true c10,c11,c11M,eq_true c12,c13,c14]; rfl) ?_;refine Zi ?_;obtain rfl:=Option.some.inj hr;simp [Zj,c2,c3,c4,c4M,eq_true c8,eq_true c9,eq_true c10,c11,c11M,eq_true c12,c13,c14,c4N,c11N]
          ·skip
           by_cases c15 : a0.2.2.1 < 1
           ·skip
            refine Za rfl (by simp [c2,c3,c4,c4M,eq_true c8,eq_true c9,eq_true c10,c11,c11M,eq_true c12,c13,c14,c15]; rfl) ?_;rw [if_pos] at hr;rotate_left
            ·simp [c2,c3,c4,c4M,eq_true c8,eq_true c9,eq_true c10,c11,c11M,eq_true c12,c13,c14,c15]
            refine Zp (by simp [bV,c2,c3,c4,c4M,eq_true c8,eq_true c9,eq_true c10,c11,c11M,eq_true c12,c13,c14,c15]) ?_;refine Za rfl (by simp [c2,c3,c4,c4M,eq_true c8,eq_true c9,eq_true c10,c11,c11M,eq_true c12,c13,c14,c15]; rfl) ?_;refine Zi ?_;obtain rfl:=Option.some.inj hr;simp [Zj,c2,c3,c4,c4M,eq_true c8,eq_true c9,eq_true c10,c11,c11M,eq_true c12,c13,c14,c15,c4N,c11N]
           ·skip
            refine Za rfl (by simp [c2,c3,c4,c4M,eq_true c8,eq_true c9,eq_true c10,c11,c11M,eq_true c12,c13,c14,c15]; rfl) ?_;by_cases c16 : a0.2.2.2 < a0.2.2.1
            ·skip
             rw [if_pos] at hr;rotate_left
             ·simp [c2,c3,c4,c4M,eq_true c8,eq_true c9,eq_true c10,c11,c11M,eq_true c12,c13,c14,c15,c16]
             refine Zp (by simp [bV,c2,c3,c4,c4M,eq_true c8,eq_true c9,eq_true c10,c11,c11M,eq_true c12,c13,c14,c15,c16]) ?_;refine Za rfl (by simp [c2,c3,c4,c4M,eq_true c8,eq_true c9,eq_true c10,c11,c11M,eq_true c12,c13,c14,c15,c16]; rfl) ?_;refine Zi ?_;obtain rfl:=Option.some.inj hr;simp [Zj,c2,c3,c4,c4M,eq_true c8,eq_true c9,eq_true c10,c11,c11M,eq_true c12,c13,c14,c15,c16,c4N,c11N]
            ·skip
             rw [if_neg] at hr;rotate_left
             ·simp [c2,c3,c4,c4M,eq_true c8,eq_true c9,eq_true c10,c11,c11M,eq_true c12,c13,c14,c15,c16]
             refine Zy (by simp [bV,c2,c3,c4,c4M,eq_true c8,eq_true c9,eq_true c10,c11,c11M,eq_true c12,c13,c14,c15,c16]) ?_;refine ZV ?_;simp only [pq,reduceCtorEq];refine Za rfl (by simp [c2,c3,c4,c4M,eq_true c8,eq_true c9,eq_true c10,c11,c11M,eq_true c12,c13,c14,c15,c16]; rfl) ?_;refine Zi ?_;obtain rfl:=Option.some.inj hr;simp [Zj,c2,c3,c4,c4M,eq_true c8,eq_true c9,eq_true c10,c11,c11M,eq_true c12,c13,c14,c15,c16,c4N,c11N]
        ·skip
         refine Za rfl (by simp [c2,c3,c4,c4M,eq_true c8,eq_true c9,eq_true c10,c11,c11M,c12]; rfl) ?_;rw [if_neg] at hr;rotate_left
         ·simp [c2,c3,c4,c4M,eq_true c8,eq_true c9,eq_true c10,c11,c11M,c12]
         refine Zy (by simp [bV,c2,c3,c4,c4M,eq_true c8,eq_true c9,eq_true c10,c11,c11M,c12]) ?_;refine ZV ?_;simp only [pq,reduceCtorEq];refine Za rfl (by simp [c2,c3,c4,c4M,eq_true c8,eq_true c9,eq_true c10,c11,c11M,c12]; rfl) ?_;refine Zi ?_;obtain rfl:=Option.some.inj hr;simp [Zj,c2,c3,c4,c4M,eq_true c8,eq_true c9,eq_true c10,c11,c11M,c12,c4N,c11N]
      ·skip
       refine Za rfl (by simp [c2,c3,c4,c4M,eq_true c8,eq_true c9,c10]; rfl) ?_;unfold YO at hr;by_cases c17 : a0.1 = 11
       ·skip
        rw [if_neg] at hr;rotate_left
        ·simp [c2,c3,c4,c4M,eq_true c8,eq_true c9,c10,eq_true c17]
        refine Zy (by simp [bV,c2,c3,c4,c4M,eq_true c8,eq_true c9,c10,eq_true c17]) ?_;refine Za rfl (by simp [c2,c3,c4,c4M,eq_true c8,eq_true c9,c10,eq_true c17]; rfl) ?_;by_cases c18 : 255 < (a0.2.1.length : Int)
        ·skip
         have c18N:=c18;try simp at c18N
         first | have c18M : (_ = _) = True:=eq_true c18N | have c18M:=c18N
         rw [if_pos c18] at hr;refine Zp (by simp [bV,c2,c3,c4,c4M,eq_true c8,eq_true c9,c10,eq_true c17,c18,c18M]) ?_;refine Za rfl (by simp [c2,c3,c4,c4M,eq_true c8,eq_true c9,c10,eq_true c17,c18,c18M]; rfl) ?_;refine Zi ?_;obtain rfl:=Option.some.inj hr;simp [Zj,c2,c3,c4,c4M,eq_true c8,eq_true c9,c10,eq_true c17,c18,c18M,c4N,c18N]
        ·skip
         have c18N:=c18;try simp at c18N
         first | have c18M : (_ = _) = True:=eq_true c18N | have c18M:=c18N
         rw [if_neg c18] at hr;refine Zy (by simp [bV,c2,c3,c4,c4M,eq_true c8,eq_true c9,c10,eq_true c17,c18,c18M]) ?_;by_cases c19 : a0.2.2.2 < 1
         ·skip
          refine Za rfl (by simp [c2,c3,c4,c4M,eq_true c8,eq_true c9,c10,eq_true c17,c18,c18M,c19]; rfl) ?_;rw [if_pos] at hr;rotate_left
          ·simp [c2,c3,c4,c4M,eq_true c8,eq_true c9,c10,eq_true c17,c18,c18M,c19]
          refine Zp (by simp [bV,c2,c3,c4,c4M,eq_true c8,eq_true c9,c10,eq_true c17,c18,c18M,c19]) ?_;refine Za rfl (by simp [c2,c3,c4,c4M,eq_true c8,eq_true c9,c10,eq_true c17,c18,c18M,c19]; rfl) ?_;refine Zi ?_;obtain rfl:=Option.some.inj hr;simp [Zj,c2,c3,c4,c4M,eq_true c8,eq_true c9,c10,eq_true c17,c18,c18M,c19,c4N,c18N]
         ·skip
          by_cases c20 : 15 < a0.2.2.2
          ·skip
           refine Za rfl (by simp [c2,c3,c4,c4M,eq_true c8,eq_true c9,c10,eq_true c17,c18,c18M,c19,c20]; rfl) ?_;rw [if_pos] at hr;rotate_left
           ·simp [c2,c3,c4,c4M,eq_true c8,eq_true c9,c10,eq_true c17,c18,c18M,c19,c20]
           refine Zp (by simp [bV,c2,c3,c4,c4M,eq_true c8,eq_true c9,c10,eq_true c17,c18,c18M,c19,c20]) ?_;refine Za rfl (by simp [c2,c3,c4,c4M,eq_true c8,eq_true c9,c10,eq_true c17,c18,c18M,c19,c20]; rfl) ?_;refine Zi ?_;obtain rfl:=Option.some.inj hr;simp [Zj,c2,c3,c4,c4M,eq_true c8,eq_true c9,c10,eq_true c17,c18,c18M,c19,c20,c4N,c18N]
          ·skip
           by_cases c21 : a0.2.2.1 < 1
           ·skip
            refine Za rfl (by simp [c2,c3,c4,c4M,eq_true c8,eq_true c9,c10,eq_true c17,c18,c18M,c19,c20,c21]; rfl) ?_;rw [if_pos] at hr;rotate_left
            ·simp [c2,c3,c4,c4M,eq_true c8,eq_true c9,c10,eq_true c17,c18,c18M,c19,c20,c21]
            refine Zp (by simp [bV,c2,c3,c4,c4M,eq_true c8,eq_true c9,c10,eq_true c17,c18,c18M,c19,c20,c21]) ?_;refine Za rfl (by simp [c2,c3,c4,c4M,eq_true c8,eq_true c9,c10,eq_true c17,c18,c18M,c19,c20,c21]; rfl) ?_;refine Zi ?_;obtain rfl:=Option.some.inj hr;simp [Zj,c2,c3,c4,c4M,eq_true c8,eq_true c9,c10,eq_true c17,c18,c18M,c19,c20,c21,c4N,c18N]
           ·skip
            refine Za rfl (by simp [c2,c3,c4,c4M,eq_true c8,eq_true c9,c10,eq_true c17,c18,c18M,c19,c20,c21]; rfl) ?_;by_cases c22 : a0.2.2.2 < a0.2.2.1
            ·skip
             rw [if_pos] at hr;rotate_left
             ·simp [c2,c3,c4,c4M,eq_true c8,eq_true c9,c10,eq_true c17,c18,c18M,c19,c20,c21,c22]
             refine Zp (by simp [bV,c2,c3,c4,c4M,eq_true c8,eq_true c9,c10,eq_true c17,c18,c18M,c19,c20,c21,c22]) ?_;refine Za rfl (by simp [c2,c3,c4,c4M,eq_true c8,eq_true c9,c10,eq_true c17,c18,c18M,c19,c20,c21,c22]; rfl) ?_;refine Zi ?_;obtain rfl:=Option.some.inj hr;simp [Zj,c2,c3,c4,c4M,eq_true c8,eq_true c9,c10,eq_true c17,c18,c18M,c19,c20,c21,c22,c4N,c18N]
            ·skip
             rw [if_neg] at hr;rotate_left
             ·simp [c2,c3,c4,c4M,eq_true c8,eq_true c9,c10,eq_true c17,c18,c18M,c19,c20,c21,c22]
             refine Zy (by simp [bV,c2,c3,c4,c4M,eq_true c8,eq_true c9,c10,eq_true c17,c18,c18M,c19,c20,c21,c22]) ?_;refine ZV ?_;simp only [pq,reduceCtorEq];refine Za rfl (by simp [c2,c3,c4,c4M,eq_true c8,eq_true c9,c10,eq_true c17,c18,c18M,c19,c20,c21,c22]; rfl) ?_;refine Zi ?_;obtain rfl:=Option.some.inj hr;simp [Zj,c2,c3,c4,c4M,eq_true c8,eq_true c9,c10,eq_true c17,c18,c18M,c19,c20,c21,c22,c4N,c18N]
       ·skip
        rw [if_pos] at hr;rotate_left
        ·simp [c2,c3,c4,c4M,eq_true c8,eq_true c9,c10,c17]
        refine Zp (by simp [bV,c2,c3,c4,c4M,eq_true c8,eq_true c9,c10,c17]) ?_;refine Za rfl (by simp [c2,c3,c4,c4M,eq_true c8,eq_true c9,c10,c17]; rfl) ?_;refine Zi ?_;obtain rfl:=Option.some.inj hr;simp [Zj,c2,c3,c4,c4M,eq_true c8,eq_true c9,c10,c17,c4N]
     ·skip
      refine Za rfl (by simp [c2,c3,c4,c4M,eq_true c8,c9]; rfl) ?_;unfold YO at hr;by_cases c23 : a0.1 = 11
      ·skip
       rw [if_neg] at hr;rotate_left
       ·simp [c2,c3,c4,c4M,eq_true c8,c9,eq_true c23]
       refine Zy (by simp [bV,c2,c3,c4,c4M,eq_true c8,c9,eq_true c23]) ?_;refine Za rfl (by simp [c2,c3,c4,c4M,eq_true c8,c9,eq_true c23]; rfl) ?_;by_cases c24 : 255 < (a0.2.1.length : Int)
       ·skip
        have c24N:=c24;try simp at c24N
        first | have c24M : (_ = _) = True:=eq_true c24N | have c24M:=c24N
        rw [if_pos c24] at hr;refine Zp (by simp [bV,c2,c3,c4,c4M,eq_true c8,c9,eq_true c23,c24,c24M]) ?_;refine Za rfl (by simp [c2,c3,c4,c4M,eq_true c8,c9,eq_true c23,c24,c24M]; rfl) ?_;refine Zi ?_;obtain rfl:=Option.some.inj hr;simp [Zj,c2,c3,c4,c4M,eq_true c8,c9,eq_true c23,c24,c24M,c4N,c24N]
       ·skip
        have c24N:=c24;try simp at c24N
        first | have c24M : (_ = _) = True:=eq_true c24N | have c24M:=c24N
        rw [if_neg c24] at hr;refine Zy (by simp [bV,c2,c3,c4,c4M,eq_true c8,c9,eq_true c23,c24,c24M]) ?_;by_cases c25 : a0.2.2.2 < 1
        ·skip
         refine Za rfl (by simp [c2,c3,c4,c4M,eq_true c8,c9,eq_true c23,c24,c24M,c25]; rfl) ?_;rw [if_pos] at hr;rotate_left
         ·simp [c2,c3,c4,c4M,eq_true c8,c9,eq_true c23,c24,c24M,c25]
         refine Zp (by simp [bV,c2,c3,c4,c4M,eq_true c8,c9,eq_true c23,c24,c24M,c25]) ?_;refine Za rfl (by simp [c2,c3,c4,c4M,eq_true c8,c9,eq_true c23,c24,c24M,c25]; rfl) ?_;refine Zi ?_;obtain rfl:=Option.some.inj hr;simp [Zj,c2,c3,c4,c4M,eq_true c8,c9,eq_true c23,c24,c24M,c25,c4N,c24N]
        ·skip
         by_cases c26 : 15 < a0.2.2.2
         ·skip
          refine Za rfl (by simp [c2,c3,c4,c4M,eq_true c8,c9,eq_true c23,c24,c24M,c25,c26]; rfl) ?_;rw [if_pos] at hr;rotate_left
          ·simp [c2,c3,c4,c4M,eq_true c8,c9,eq_true c23,c24,c24M,c25,c26]
          refine Zp (by simp [bV,c2,c3,c4,c4M,eq_true c8,c9,eq_true c23,c24,c24M,c25,c26]) ?_;refine Za rfl (by simp [c2,c3,c4,c4M,eq_true c8,c9,eq_true c23,c24,c24M,c25,c26]; rfl) ?_;refine Zi ?_;obtain rfl:=Option.some.inj hr;simp [Zj,c2,c3,c4,c4M,eq_true c8,c9,eq_true c23,c24,c24M,c25,c26,c4N,c24N]
         ·skip
          by_cases c27 : a0.2.2.1 < 1
          ·skip
           refine Za rfl (by simp [c2,c3,c4,c4M,eq_true c8,c9,eq_true c23,c24,c24M,c25,c26,c27]; rfl) ?_;rw [if_pos] at hr;rotate_left
           ·simp [c2,c3,c4,c4M,eq_true c8,c9,eq_true c23,c24,c24M,c25,c26,c27]
           refine Zp (by simp [bV,c2,c3,c4,c4M,eq_true c8,c9,eq_true c23,c24,c24M,c25,c26,c27]) ?_;refine Za rfl (by simp [c2,c3,c4,c4M,eq_true c8,c9,eq_true c23,c24,c24M,c25,c26,c27]; rfl) ?_;refine Zi ?_;obtain rfl:=Option.some.inj hr;simp [Zj,c2,c3,c4,c4M,eq_true c8,c9,eq_true c23,c24,c24M,c25,c26,c27,c4N,c24N]
          ·skip
           refine Za rfl (by simp [c2,c3,c4,c4M,eq_true c8,c9,eq_true c23,c24,c24M,c25,c26,c27]; rfl) ?_;by_cases c28 : a0.2.2.2 < a0.2.2.1
           ·skip
            rw [if_pos] at hr;rotate_left
            ·simp [c2,c3,c4,c4M,eq_true c8,c9,eq_true c23,c24,c24M,c25,c26,c27,c28]
            refine Zp (by simp [bV,c2,c3,c4,c4M,eq_true c8,c9,eq_true c23,c24,c24M,c25,c26,c27,c28]) ?_;refine Za rfl (by simp [c2,c3,c4,c4M,eq_true c8,c9,eq_true c23,c24,c24M,c25,c26,c27,c28]; rfl) ?_;refine Zi ?_;obtain rfl:=Option.some.inj hr;simp [Zj,c2,c3,c4,c4M,eq_true c8,c9,eq_true c23,c24,c24M,c25,c26,c27,c28,c4N,c24N]
           ·skip
            rw [if_neg] at hr;rotate_left
            ·simp [c2,c3,c4,c4M,eq_true c8,c9,eq_true c23,c24,c24M,c25,c26,c27,c28]
            refine Zy (by simp [bV,c2,c3,c4,c4M,eq_true c8,c9,eq_true c23,c24,c24M,c25,c26,c27,c28]) ?_;refine ZV ?_;simp only [pq,reduceCtorEq];refine Za rfl (by simp [c2,c3,c4,c4M,eq_true c8,c9,eq_true c23,c24,c24M,c25,c26,c27,c28]; rfl) ?_;refine Zi ?_;obtain rfl:=Option.some.inj hr;simp [Zj,c2,c3,c4,c4M,eq_true c8,c9,eq_true c23,c24,c24M,c25,c26,c27,c28,c4N,c24N]
      ·skip
       rw [if_pos] at hr;rotate_left
       ·simp [c2,c3,c4,c4M,eq_true c8,c9,c23]
       refine Zp (by simp [bV,c2,c3,c4,c4M,eq_true c8,c9,c23]) ?_;refine Za rfl (by simp [c2,c3,c4,c4M,eq_true c8,c9,c23]; rfl) ?_;refine Zi ?_;obtain rfl:=Option.some.inj hr;simp [Zj,c2,c3,c4,c4M,eq_true c8,c9,c23,c4N]
    ·skip
     rw [if_pos] at hr;rotate_left
     ·simp [c2,c3,c4,c4M,c8]
     refine Zd (by simp [bV,c2,c3,c4,c4M,c8]) ?_;refine Zh ?_;unfold YO at hr;rw [if_pos] at hr;rotate_left
     ·simp [c2,c3,c4,c4M,c8]
     refine Zp (by simp [bV,c2,c3,c4,c4M,c8]) ?_;refine Za rfl (by simp [c2,c3,c4,c4M,c8]; rfl) ?_;refine Zi ?_;obtain rfl:=Option.some.inj hr;simp [Zj,c2,c3,c4,c4M,c8,c4N]
   ·skip
    have c4N:=c4;try simp at c4N
    first | have c4M : (_ = _) = True:=eq_true c4N | have c4M:=c4N
    have c4L : ¬ 0 < a0.2.1.length:=by omega
    refine Za rfl (by simp [c2,c3,c4,c4M,c4L]; rfl) ?_;rw [if_neg] at hr;rotate_left
    ·simp [c2,c3,c4,c4M,c4L]
    refine Ze (by simp [bV,c2,c3,c4,c4M,c4L]) ?_;by_cases c31 : a0.2.2.1 = 0
    ·skip
     by_cases c32 : a0.2.2.2 = 0
     ·skip
      refine Za rfl (by simp [c2,c3,c4,c4M,c4L,eq_true c31,eq_true c32]; rfl) ?_;unfold YO at hr;rw [if_neg] at hr;rotate_left
      ·simp [c2,c3,c4,c4M,c4L,eq_true c31,eq_true c32]
      refine Zy (by simp [bV,c2,c3,c4,c4M,c4L,eq_true c31,eq_true c32]) ?_;refine Za rfl (by simp [c2,c3,c4,c4M,c4L,eq_true c31,eq_true c32]; rfl) ?_;by_cases c33 : 255 < (a0.2.1.length : Int)
      ·skip
       have c33N:=c33;try simp at c33N
       first | have c33M : (_ = _) = True:=eq_true c33N | have c33M:=c33N
       rw [if_pos c33] at hr;refine Zp (by simp [bV,c2,c3,c4,c4M,c4L,eq_true c31,eq_true c32,c33,c33M]) ?_;refine Za rfl (by simp [c2,c3,c4,c4M,c4L,eq_true c31,eq_true c32,c33,c33M]; rfl) ?_;refine Zi ?_;obtain rfl:=Option.some.inj hr;simp [Zj,c2,c3,c4,c4M,c4L,eq_true c31,eq_true c32,c33,c33M,c4N,c33N]
      ·skip
       have c33N:=c33;try simp at c33N
       first | have c33M : (_ = _) = True:=eq_true c33N | have c33M:=c33N
       rw [if_neg c33] at hr;refine Zy (by simp [bV,c2,c3,c4,c4M,c4L,eq_true c31,eq_true c32,c33,c33M]) ?_;by_cases c34 : a0.1 = 11
       ·skip
        by_cases c35 : a0.2.2.2 < 1
        ·skip
         refine Za rfl (by simp [c2,c3,c4,c4M,c4L,eq_true c31,eq_true c32,c33,c33M,eq_true c34,c35]; rfl) ?_;rw [if_pos] at hr;rotate_left
         ·simp [c2,c3,c4,c4M,c4L,eq_true c31,eq_true c32,c33,c33M,eq_true c34,c35]
         refine Zp (by simp [bV,c2,c3,c4,c4M,c4L,eq_true c31,eq_true c32,c33,c33M,eq_true c34,c35]) ?_;refine Za rfl (by simp [c2,c3,c4,c4M,c4L,eq_true c31,eq_true c32,c33,c33M,eq_true c34,c35]; rfl) ?_;refine Zi ?_;obtain rfl:=Option.some.inj hr;simp [Zj,c2,c3,c4,c4M,c4L,eq_true c31,eq_true c32,c33,c33M,eq_true c34,c35,c4N,c33N]
        ·skip
         by_cases c36 : 15 < a0.2.2.2
         ·skip
          refine Za rfl (by simp [c2,c3,c4,c4M,c4L,eq_true c31,eq_true c32,c33,c33M,eq_true c34,c35,c36]; rfl) ?_;rw [if_pos] at hr;rotate_left
          ·simp [c2,c3,c4,c4M,c4L,eq_true c31,eq_true c32,c33,c33M,eq_true c34,c35,c36]
          refine Zp (by simp [bV,c2,c3,c4,c4M,c4L,eq_true c31,eq_true c32,c33,c33M,eq_true c34,c35,c36]) ?_;refine Za rfl (by simp [c2,c3,c4,c4M,c4L,eq_true c31,eq_true c32,c33,c33M,eq_true c34,c35,c36]; rfl) ?_;refine Zi ?_;obtain rfl:=Option.some.inj hr;simp [Zj,c2,c3,c4,c4M,c4L,eq_true c31,eq_true c32,c33,c33M,eq_true c34,c35,c36,c4N,c33N]
         ·skip
          by_cases c37 : a0.2.2.1 < 1
          ·skip
           refine Za rfl (by simp [c2,c3,c4,c4M,c4L,eq_true c31,eq_true c32,c33,c33M,eq_true c34,c35,c36,c37]; rfl) ?_;rw [if_pos] at hr;rotate_left
           ·simp [c2,c3,c4,c4M,c4L,eq_true c31,eq_true c32,c33,c33M,eq_true c34,c35,c36,c37]
           refine Zp (by simp [bV,c2,c3,c4,c4M,c4L,eq_true c31,eq_true c32,c33,c33M,eq_true c34,c35,c36,c37]) ?_;refine Za rfl (by simp [c2,c3,c4,c4M,c4L,eq_true c31,eq_true c32,c33,c33M,eq_true c34,c35,c36,c37]; rfl) ?_;refine Zi ?_;obtain rfl:=Option.some.inj hr;simp [Zj,c2,c3,c4,c4M,c4L,eq_true c31,eq_true c32,c33,c33M,eq_true c34,c35,c36,c37,c4N,c33N]
          ·skip
           refine Za rfl (by simp [c2,c3,c4,c4M,c4L,eq_true c31,eq_true c32,c33,c33M,eq_true c34,c35,c36,c37]; rfl) ?_;by_cases c38 : a0.2.2.2 < a0.2.2.1
           ·skip
            rw [if_pos] at hr;rotate_left
            ·simp [c2,c3,c4,c4M,c4L,eq_true c31,eq_true c32,c33,c33M,eq_true c34,c35,c36,c37,c38]
            refine Zp (by simp [bV,c2,c3,c4,c4M,c4L,eq_true c31,eq_true c32,c33,c33M,eq_true c34,c35,c36,c37,c38]) ?_;refine Za rfl (by simp [c2,c3,c4,c4M,c4L,eq_true c31,eq_true c32,c33,c33M,eq_true c34,c35,c36,c37,c38]; rfl) ?_;refine Zi ?_;obtain rfl:=Option.some.inj hr;simp [Zj,c2,c3,c4,c4M,c4L,eq_true c31,eq_true c32,c33,c33M,eq_true c34,c35,c36,c37,c38,c4N,c33N]
           ·skip
            rw [if_neg] at hr;rotate_left
            ·simp [c2,c3,c4,c4M,c4L,eq_true c31,eq_true c32,c33,c33M,eq_true c34,c35,c36,c37,c38]
            refine Zy (by simp [bV,c2,c3,c4,c4M,c4L,eq_true c31,eq_true c32,c33,c33M,eq_true c34,c35,c36,c37,c38]) ?_;refine ZV ?_;simp only [pq,reduceCtorEq];refine Za rfl (by simp [c2,c3,c4,c4M,c4L,eq_true c31,eq_true c32,c33,c33M,eq_true c34,c35,c36,c37,c38]; rfl) ?_;refine Zi ?_;obtain rfl:=Option.some.inj hr;simp [Zj,c2,c3,c4,c4M,c4L,eq_true c31,eq_true c32,c33,c33M,eq_true c34,c35,c36,c37,c38,c4N,c33N]
       ·skip
        refine Za rfl (by simp [c2,c3,c4,c4M,c4L,eq_true c31,eq_true c32,c33,c33M,c34]; rfl) ?_;rw [if_neg] at hr;rotate_left
        ·simp [c2,c3,c4,c4M,c4L,eq_true c31,eq_true c32,c33,c33M,c34]
        refine Zy (by simp [bV,c2,c3,c4,c4M,c4L,eq_true c31,eq_true c32,c33,c33M,c34]) ?_;refine ZV ?_;simp only [pq,reduceCtorEq];refine Za rfl (by simp [c2,c3,c4,c4M,c4L,eq_true c31,eq_true c32,c33,c33M,c34]; rfl) ?_;refine Zi ?_;obtain rfl:=Option.some.inj hr;simp [Zj,c2,c3,c4,c4M,c4L,eq_true c31,eq_true c32,c33,c33M,c34,c4N,c33N]
     ·skip
      refine Za rfl (by simp [c2,c3,c4,c4M,c4L,eq_true c31,c32]; rfl) ?_;unfold YO at hr;by_cases c39 : a0.1 = 11
      ·skip
       rw [if_neg] at hr;rotate_left
       ·simp [c2,c3,c4,c4M,c4L,eq_true c31,c32,eq_true c39]
       refine Zy (by simp [bV,c2,c3,c4,c4M,c4L,eq_true c31,c32,eq_true c39]) ?_;refine Za rfl (by simp [c2,c3,c4,c4M,c4L,eq_true c31,c32,eq_true c39]; rfl) ?_;by_cases c40 : 255 < (a0.2.1.length : Int)
       ·skip
        have c40N:=c40;try simp at c40N
        first | have c40M : (_ = _) = True:=eq_true c40N | have c40M:=c40N
        rw [if_pos c40] at hr;refine Zp (by simp [bV,c2,c3,c4,c4M,c4L,eq_true c31,c32,eq_true c39,c40,c40M]) ?_;refine Za rfl (by simp [c2,c3,c4,c4M,c4L,eq_true c31,c32,eq_true c39,c40,c40M]; rfl) ?_;refine Zi ?_;obtain rfl:=Option.some.inj hr;simp [Zj,c2,c3,c4,c4M,c4L,eq_true c31,c32,eq_true c39,c40,c40M,c4N,c40N]
       ·skip
        have c40N:=c40;try simp at c40N
        first | have c40M : (_ = _) = True:=eq_true c40N | have c40M:=c40N
        rw [if_neg c40] at hr;refine Zy (by simp [bV,c2,c3,c4,c4M,c4L,eq_true c31,c32,eq_true c39,c40,c40M]) ?_;by_cases c41 : a0.2.2.2 < 1
        ·skip
         refine Za rfl (by simp [c2,c3,c4,c4M,c4L,eq_true c31,c32,eq_true c39,c40,c40M,c41]; rfl) ?_;rw [if_pos] at hr;rotate_left
         ·simp [c2,c3,c4,c4M,c4L,eq_true c31,c32,eq_true c39,c40,c40M,c41]
         refine Zp (by simp [bV,c2,c3,c4,c4M,c4L,eq_true c31,c32,eq_true c39,c40,c40M,c41]) ?_;refine Za rfl (by simp [c2,c3,c4,c4M,c4L,eq_true c31,c32,eq_true c39,c40,c40M,c41]; rfl) ?_;refine Zi ?_;obtain rfl:=Option.some.inj hr;simp [Zj,c2,c3,c4,c4M,c4L,eq_true c31,c32,eq_true c39,c40,c40M,c41,c4N,c40N]
        ·skip
         by_cases c42 : 15 < a0.2.2.2
         ·skip
          refine Za rfl (by simp [c2,c3,c4,c4M,c4L,eq_true c31,c32,eq_true c39,c40,c40M,c41,c42]; rfl) ?_;rw [if_pos] at hr;rotate_left
          ·simp [c2,c3,c4,c4M,c4L,eq_true c31,c32,eq_true c39,c40,c40M,c41,c42]
          refine Zp (by simp [bV,c2,c3,c4,c4M,c4L,eq_true c31,c32,eq_true c39,c40,c40M,c41,c42]) ?_;refine Za rfl (by simp [c2,c3,c4,c4M,c4L,eq_true c31,c32,eq_true c39,c40,c40M,c41,c42]; rfl) ?_;refine Zi ?_;obtain rfl:=Option.some.inj hr;simp [Zj,c2,c3,c4,c4M,c4L,eq_true c31,c32,eq_true c39,c40,c40M,c41,c42,c4N,c40N]
         ·skip
          by_cases c43 : a0.2.2.1 < 1
          ·skip
           refine Za rfl (by simp [c2,c3,c4,c4M,c4L,eq_true c31,c32,eq_true c39,c40,c40M,c41,c42,c43]; rfl) ?_;rw [if_pos] at hr;rotate_left
           ·simp [c2,c3,c4,c4M,c4L,eq_true c31,c32,eq_true c39,c40,c40M,c41,c42,c43]
           refine Zp (by simp [bV,c2,c3,c4,c4M,c4L,eq_true c31,c32,eq_true c39,c40,c40M,c41,c42,c43]) ?_;refine Za rfl (by simp [c2,c3,c4,c4M,c4L,eq_true c31,c32,eq_true c39,c40,c40M,c41,c42,c43]; rfl) ?_;refine Zi ?_;obtain rfl:=Option.some.inj hr;simp [Zj,c2,c3,c4,c4M,c4L,eq_true c31,c32,eq_true c39,c40,c40M,c41,c42,c43,c4N,c40N]
          ·skip
           refine Za rfl (by simp [c2,c3,c4,c4M,c4L,eq_true c31,c32,eq_true c39,c40,c40M,c41,c42,c43]; rfl) ?_;by_cases c44 : a0.2.2.2 < a0.2.2.1
           ·skip
            rw [if_pos] at hr;rotate_left
            ·simp [c2,c3,c4,c4M,c4L,eq_true c31,c32,eq_true c39,c40,c40M,c41,c42,c43,c44]
            refine Zp (by simp [bV,c2,c3,c4,c4M,c4L,eq_true c31,c32,eq_true c39,c40,c40M,c41,c42,c43,c44]) ?_;refine Za rfl (by simp [c2,c3,c4,c4M,c4L,eq_true c31,c32,eq_true c39,c40,c40M,c41,c42,c43,c44]; rfl) ?_;refine Zi ?_;obtain rfl:=Option.some.inj hr;simp [Zj,c2,c3,c4,c4M,c4L,eq_true c31,c32,eq_true c39,c40,c40M,c41,c42,c43,c44,c4N,c40N]
           ·skip
            rw [if_neg] at hr;rotate_left
            ·simp [c2,c3,c4,c4M,c4L,eq_true c31,c32,eq_true c39,c40,c40M,c41,c42,c43,c44]
            refine Zy (by simp [bV,c2,c3,c4,c4M,c4L,eq_true c31,c32,eq_true c39,c40,c40M,c41,c42,c43,c44]) ?_;refine ZV ?_;simp only [pq,reduceCtorEq];refine Za rfl (by simp [c2,c3,c4,c4M,c4L,eq_true c31,c32,eq_true c39,c40,c40M,c41,c42,c43,c44]; rfl) ?_;refine Zi ?_;obtain rfl:=Option.some.inj hr;simp [Zj,c2,c3,c4,c4M,c4L,eq_true c31,c32,eq_true c39,c40,c40M,c41,c42,c43,c44,c4N,c40N]
      ·skip
       rw [if_pos] at hr;rotate_left
       ·simp [c2,c3,c4,c4M,c4L,eq_true c31,c32,c39]
       refine Zp (by simp [bV,c2,c3,c4,c4M,c4L,eq_true c31,c32,c39]) ?_;refine Za rfl (by simp [c2,c3,c4,c4M,c4L,eq_true c31,c32,c39]; rfl) ?_;refine Zi ?_;obtain rfl:=Option.some.inj hr;simp [Zj,c2,c3,c4,c4M,c4L,eq_true c31,c32,c39,c4N]
    ·skip
     refine Za rfl (by simp [c2,c3,c4,c4M,c4L,c31]; rfl) ?_;unfold YO at hr;by_cases c45 : a0.1 = 11
     ·skip
      rw [if_neg] at hr;rotate_left
      ·simp [c2,c3,c4,c4M,c4L,c31,eq_true c45]
      refine Zy (by simp [bV,c2,c3,c4,c4M,c4L,c31,eq_true c45]) ?_;refine Za rfl (by simp [c2,c3,c4,c4M,c4L,c31,eq_true c45]; rfl) ?_;by_cases c46 : 255 < (a0.2.1.length : Int)
      ·skip
       have c46N:=c46;try simp at c46N
       first | have c46M : (_ = _) = True:=eq_true c46N | have c46M:=c46N
       rw [if_pos c46] at hr;refine Zp (by simp [bV,c2,c3,c4,c4M,c4L,c31,eq_true c45,c46,c46M]) ?_;refine Za rfl (by simp [c2,c3,c4,c4M,c4L,c31,eq_true c45,c46,c46M]; rfl) ?_;refine Zi ?_;obtain rfl:=Option.some.inj hr;simp [Zj,c2,c3,c4,c4M,c4L,c31,eq_true c45,c46,c46M,c4N,c46N]
      ·skip
       have c46N:=c46;try simp at c46N
       first | have c46M : (_ = _) = True:=eq_true c46N | have c46M:=c46N
       rw [if_neg c46] at hr;refine Zy (by simp [bV,c2,c3,c4,c4M,c4L,c31,eq_true c45,c46,c46M]) ?_;by_cases c47 : a0.2.2.2 < 1
       ·skip
        refine Za rfl (by simp [c2,c3,c4,c4M,c4L,c31,eq_true c45,c46,c46M,c47]; rfl) ?_;rw [if_pos] at hr;rotate_left
        ·simp [c2,c3,c4,c4M,c4L,c31,eq_true c45,c46,c46M,c47]
        refine Zp (by simp [bV,c2,c3,c4,c4M,c4L,c31,eq_true c45,c46,c46M,c47]) ?_;refine Za rfl (by simp [c2,c3,c4,c4M,c4L,c31,eq_true c45,c46,c46M,c47]; rfl) ?_;refine Zi ?_;obtain rfl:=Option.some.inj hr;simp [Zj,c2,c3,c4,c4M,c4L,c31,eq_true c45,c46,c46M,c47,c4N,c46N]
       ·skip
        by_cases c48 : 15 < a0.2.2.2
        ·skip
         refine Za rfl (by simp [c2,c3,c4,c4M,c4L,c31,eq_true c45,c46,c46M,c47,c48]; rfl) ?_;rw [if_pos] at hr;rotate_left
         ·simp [c2,c3,c4,c4M,c4L,c31,eq_true c45,c46,c46M,c47,c48]
         refine Zp (by simp [bV,c2,c3,c4,c4M,c4L,c31,eq_true c45,c46,c46M,c47,c48]) ?_;refine Za rfl (by simp [c2,c3,c4,c4M,c4L,c31,eq_true c45,c46,c46M,c47,c48]; rfl) ?_;refine Zi ?_;obtain rfl:=Option.some.inj hr;simp [Zj,c2,c3,c4,c4M,c4L,c31,eq_true c45,c46,c46M,c47,c48,c4N,c46N]
        ·skip
         by_cases c49 : a0.2.2.1 < 1
         ·skip
          refine Za rfl (by simp [c2,c3,c4,c4M,c4L,c31,eq_true c45,c46,c46M,c47,c48,c49]; rfl) ?_;rw [if_pos] at hr;rotate_left
          ·simp [c2,c3,c4,c4M,c4L,c31,eq_true c45,c46,c46M,c47,c48,c49]
          refine Zp (by simp [bV,c2,c3,c4,c4M,c4L,c31,eq_true c45,c46,c46M,c47,c48,c49]) ?_;refine Za rfl (by simp [c2,c3,c4,c4M,c4L,c31,eq_true c45,c46,c46M,c47,c48,c49]; rfl) ?_;refine Zi ?_;obtain rfl:=Option.some.inj hr;simp [Zj,c2,c3,c4,c4M,c4L,c31,eq_true c45,c46,c46M,c47,c48,c49,c4N,c46N]
         ·skip
          refine Za rfl (by simp [c2,c3,c4,c4M,c4L,c31,eq_true c45,c46,c46M,c47,c48,c49]; rfl) ?_;by_cases c50 : a0.2.2.2 < a0.2.2.1
          ·skip
           rw [if_pos] at hr;rotate_left
           ·simp [c2,c3,c4,c4M,c4L,c31,eq_true c45,c46,c46M,c47,c48,c49,c50]
           refine Zp (by simp [bV,c2,c3,c4,c4M,c4L,c31,eq_true c45,c46,c46M,c47,c48,c49,c50]) ?_;refine Za rfl (by simp [c2,c3,c4,c4M,c4L,c31,eq_true c45,c46,c46M,c47,c48,c49,c50]; rfl) ?_;refine Zi ?_;obtain rfl:=Option.some.inj hr;simp [Zj,c2,c3,c4,c4M,c4L,c31,eq_true c45,c46,c46M,c47,c48,c49,c50,c4N,c46N]
          ·skip
           rw [if_neg] at hr;rotate_left
           ·simp [c2,c3,c4,c4M,c4L,c31,eq_true c45,c46,c46M,c47,c48,c49,c50]
           refine Zy (by simp [bV,c2,c3,c4,c4M,c4L,c31,eq_true c45,c46,c46M,c47,c48,c49,c50]) ?_;refine ZV ?_;simp only [pq,reduceCtorEq];refine Za rfl (by simp [c2,c3,c4,c4M,c4L,c31,eq_true c45,c46,c46M,c47,c48,c49,c50]; rfl) ?_;refine Zi ?_;obtain rfl:=Option.some.inj hr;simp [Zj,c2,c3,c4,c4M,c4L,c31,eq_true c45,c46,c46M,c47,c48,c49,c50,c4N,c46N]
     ·skip
      rw [if_pos] at hr;rotate_left
      ·simp [c2,c3,c4,c4M,c4L,c31,c45]
      refine Zp (by simp [bV,c2,c3,c4,c4M,c4L,c31,c45]) ?_;refine Za rfl (by simp [c2,c3,c4,c4M,c4L,c31,c45]; rfl) ?_;refine Zi ?_;obtain rfl:=Option.some.inj hr;simp [Zj,c2,c3,c4,c4M,c4L,c31,c45,c4N]
def kp84 : Keep:=fun i=>⟨[],[],[]⟩
theorem w84 {T : Tab} (a0 : (List Int)) (a1 : (List Int)) (x : (List Int)) (hr : Z9 a0 a1 = some x) : ∃ kp fl n,Zt tt T G kp fl n Tryz.f84 (E84 (a0,a1)) = some (R84 (a0,a1) x):=by
 simp only [E84,R84];refine fnE (kp:=kp84) (w:=true) body84 (by simp) ?_;unfold c84;rw [Tryz.ntmps84];unfold Z9 at hr;refine Za rfl (by simp []; rfl) ?_;obtain ⟨_,u4,hr⟩:=bs hr;obtain ⟨u4_0,u4_1⟩:=ZD u4;have mf5 : 0≤(IntKind.i64.wrap ((a0.length : Int) + (a1.length : Int))).toNat:=by omega
 have mf6 : (IntKind.i64.wrap ((a0.length : Int) + (a1.length : Int))).toNat≤140737488355328:=by omega
 have mf7 : (IntKind.i64.wrap ((a0.length : Int) + (a1.length : Int))).toNat≤9223372036854775807:=by omega
 have mf8 : 0≤IntKind.i64.wrap ((a0.length : Int) + (a1.length : Int)):=by omega
 refine Za rfl (by simp [u4_0,u4_1,mf5,mf6,mf7,mf8]; rfl) ?_;obtain ⟨_,u9,hr⟩:=bs hr;have u9_0:=ZD u9;have n1_u9_0 : a0.length≤140737488355328:=by omega
 have n2_u9_0 : a0.length≤9223372036854775807:=by omega
 obtain ⟨_,u10,hr⟩:=bs hr;have u10_0:=ZD u10;have n1_u10_0 : a0.length + a1.length≤140737488355328:=by omega
 have n2_u10_0 : a0.length + a1.length≤9223372036854775807:=by omega
 refine Za rfl (by simp [n1_u9_0,n2_u9_0,n1_u10_0,n2_u10_0]; rfl) ?_;refine Zi ?_;obtain rfl:=Option.some.inj hr;simp [Zj,n1_u9_0,n2_u9_0,n1_u10_0,n2_u10_0]
end Go.Proofs.YtbjhgolpnjokbaaGreat
