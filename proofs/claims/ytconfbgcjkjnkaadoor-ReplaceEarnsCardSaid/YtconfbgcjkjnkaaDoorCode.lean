import Derived.Test.YtconfbgcjkjnkaaDoorTt
namespace Go.Proofs.YtconfbgcjkjnkaaDoor
open Go.Av
set_option maxRecDepth 1000000

noncomputable def c3 : Code := (.seq (reg Tryd.f3 0) (.seq (.seq (reg Tryd.f3 1) (.cond (Operand.tmp 12) (.seq (reg Tryd.f3 2) Code.ret) Code.skip)) (.seq (reg Tryd.f3 3) (.seq (reg Tryd.f3 4) (.seq (reg Tryd.f3 5) (.seq (reg Tryd.f3 6) Code.ret))))))
theorem body3 : Tryd.f3.body = some c3 := by kernel_rfl

noncomputable def b4_2 : Code := (.seq (reg Tryd.f4 12) (.seq (.cond (Operand.tmp 47) Code.skip (Code.exit 2)) (.seq (.block 3 (.seq (reg Tryd.f4 13) (.seq (reg Tryd.f4 14) (.cond (Operand.tmp 58) (.seq (reg Tryd.f4 15) Code.ret) Code.skip)))) (reg Tryd.f4 16))))
noncomputable def b4_1 : Code := (.seq (reg Tryd.f4 9) (.seq (.cond (Operand.tmp 38) Code.skip (Code.exit 0)) (.seq (.block 1 (.seq (reg Tryd.f4 10) (.seq (reg Tryd.f4 11) (.block 2 (.loop b4_2))))) (reg Tryd.f4 17))))
noncomputable def c4 : Code := (.seq (reg Tryd.f4 0) (.seq (.seq (reg Tryd.f4 1) (.cond (Operand.tmp 13) (.seq (reg Tryd.f4 2) Code.ret) Code.skip)) (.seq (reg Tryd.f4 3) (.seq (reg Tryd.f4 4) (.seq (reg Tryd.f4 5) (.seq (.seq (reg Tryd.f4 6) (.cond (Operand.tmp 22) (reg Tryd.f4 7) Code.skip)) (.seq (.seq (reg Tryd.f4 8) (.block 0 (.loop b4_1))) (.seq (reg Tryd.f4 18) Code.ret))))))))
theorem body4 : Tryd.f4.body = some c4 := by kernel_rfl

noncomputable def b5_1 : Code := (.seq (reg Tryd.f5 14) (.seq (.cond (Operand.tmp 61) Code.skip (Code.exit 0)) (.seq (.block 1 (.seq (reg Tryd.f5 15) (.seq (reg Tryd.f5 16) (.cond (Operand.tmp 67) (reg Tryd.f5 17) Code.skip)))) (reg Tryd.f5 18))))
noncomputable def b5_2 : Code := (.seq (reg Tryd.f5 22) (.seq (.cond (Operand.tmp 113) Code.skip (Code.exit 2)) (.seq (.block 3 (.seq (reg Tryd.f5 23) (.seq (reg Tryd.f5 24) (.cond (Operand.tmp 119) (.seq (reg Tryd.f5 25) Code.ret) Code.skip)))) (reg Tryd.f5 26))))
noncomputable def c5 : Code := (.seq (reg Tryd.f5 0) (.seq (.seq (reg Tryd.f5 1) (.cond (Operand.tmp 18) (.seq (reg Tryd.f5 2) Code.ret) Code.skip)) (.seq (reg Tryd.f5 3) (.seq (reg Tryd.f5 4) (.seq (reg Tryd.f5 5) (.seq (.seq (reg Tryd.f5 6) (.cond (Operand.tmp 27) (reg Tryd.f5 7) Code.skip)) (.seq (reg Tryd.f5 8) (.seq (reg Tryd.f5 9) (.seq (.seq (reg Tryd.f5 10) (.cond (Operand.tmp 49) (.seq (reg Tryd.f5 11) Code.ret) Code.skip)) (.seq (reg Tryd.f5 12) (.seq (.seq (reg Tryd.f5 13) (.block 0 (.loop b5_1))) (.seq (.seq (reg Tryd.f5 19) (.cond (Operand.tmp 105) (.seq (reg Tryd.f5 20) Code.ret) Code.skip)) (.seq (.seq (reg Tryd.f5 21) (.block 2 (.loop b5_2))) (.seq (reg Tryd.f5 27) Code.ret))))))))))))))
theorem body5 : Tryd.f5.body = some c5 := by kernel_rfl

noncomputable def b6_1 : Code := (.seq (reg Tryd.f6 10) (.seq (.cond (Operand.tmp 71) Code.skip (Code.exit 0)) (.seq (.block 1 (.seq (reg Tryd.f6 11) (.seq (reg Tryd.f6 12) (.seq (reg Tryd.f6 13) (.seq (reg Tryd.f6 14) (.cond (Operand.tmp 100) (.seq (reg Tryd.f6 15) Code.ret) Code.skip)))))) (reg Tryd.f6 16))))
noncomputable def c6 : Code := (.seq (reg Tryd.f6 0) (.seq (.seq (reg Tryd.f6 1) (.cond (Operand.tmp 17) (.seq (reg Tryd.f6 2) Code.ret) Code.skip)) (.seq (reg Tryd.f6 3) (.seq (reg Tryd.f6 4) (.seq (.seq (reg Tryd.f6 5) (.cond (Operand.tmp 36) (.seq (reg Tryd.f6 6) (reg Tryd.f6 7)) Code.skip)) (.seq (reg Tryd.f6 8) (.seq (.seq (reg Tryd.f6 9) (.block 0 (.loop b6_1))) (.seq (reg Tryd.f6 17) Code.ret))))))))
theorem body6 : Tryd.f6.body = some c6 := by kernel_rfl

noncomputable def b7_1 : Code := (.seq (.seq (reg Tryd.f7 6) (.cond (Operand.tmp 20) Code.skip (Code.exit 0))) (.seq (.block 1 (.seq (reg Tryd.f7 8) (.seq (.seq (reg Tryd.f7 9) (.cond (Operand.tmp 35) (.seq (reg Tryd.f7 10) Code.ret) Code.skip)) (.seq (.seq (reg Tryd.f7 11) (.cond (Operand.tmp 82) (.seq (reg Tryd.f7 12) Code.ret) Code.skip)) (reg Tryd.f7 13))))) (reg Tryd.f7 7)))
noncomputable def c7 : Code := (.seq (reg Tryd.f7 0) (.seq (.seq (reg Tryd.f7 1) (.cond (Operand.tmp 11) (.seq (reg Tryd.f7 2) Code.ret) Code.skip)) (.seq (reg Tryd.f7 3) (.seq (reg Tryd.f7 4) (.seq (.seq (reg Tryd.f7 5) (.block 0 (.loop b7_1))) (.seq (reg Tryd.f7 14) Code.ret))))))
theorem body7 : Tryd.f7.body = some c7 := by kernel_rfl

noncomputable def c8 : Code := (.seq (reg Tryd.f8 0) (.seq (reg Tryd.f8 1) (.seq (reg Tryd.f8 2) (.seq (reg Tryd.f8 3) (.seq (reg Tryd.f8 4) Code.ret)))))
theorem body8 : Tryd.f8.body = some c8 := by kernel_rfl

noncomputable def c9 : Code := (.seq (reg Tryd.f9 0) (.seq (reg Tryd.f9 1) Code.ret))
theorem body9 : Tryd.f9.body = some c9 := by kernel_rfl

noncomputable def b10_1 : Code := (.seq (.seq (reg Tryd.f10 3) (.cond (Operand.tmp 17) Code.skip (Code.exit 0))) (.seq (.block 1 (.seq (reg Tryd.f10 5) (.seq (.seq (reg Tryd.f10 6) (.cond (Operand.tmp 34) (reg Tryd.f10 7) Code.skip)) (reg Tryd.f10 8)))) (reg Tryd.f10 4)))
noncomputable def b10_2 : Code := (.seq (.seq (reg Tryd.f10 10) (.cond (Operand.tmp 50) Code.skip (Code.exit 2))) (.seq (.block 3 (reg Tryd.f10 12)) (reg Tryd.f10 11)))
noncomputable def c10 : Code := (.seq (reg Tryd.f10 0) (.seq (reg Tryd.f10 1) (.seq (.seq (reg Tryd.f10 2) (.block 0 (.loop b10_1))) (.seq (.seq (reg Tryd.f10 9) (.block 2 (.loop b10_2))) (.seq (reg Tryd.f10 13) Code.ret)))))
theorem body10 : Tryd.f10.body = some c10 := by kernel_rfl

noncomputable def c11 : Code := (.seq (reg Tryd.f11 0) (.seq (reg Tryd.f11 1) Code.ret))
theorem body11 : Tryd.f11.body = some c11 := by kernel_rfl

noncomputable def b12_1 : Code := (.seq (.seq (reg Tryd.f12 2) (.cond (Operand.tmp 8) Code.skip (Code.exit 0))) (.seq (.block 1 (.seq (reg Tryd.f12 4) (.cond (Operand.tmp 17) (.seq (reg Tryd.f12 5) Code.ret) Code.skip))) (reg Tryd.f12 3)))
noncomputable def c12 : Code := (.seq (reg Tryd.f12 0) (.seq (.seq (reg Tryd.f12 1) (.block 0 (.loop b12_1))) (.seq (reg Tryd.f12 6) Code.ret)))
theorem body12 : Tryd.f12.body = some c12 := by kernel_rfl

noncomputable def c13 : Code := (.seq (reg Tryd.f13 0) (.seq (reg Tryd.f13 1) Code.ret))
theorem body13 : Tryd.f13.body = some c13 := by kernel_rfl

noncomputable def b14_2 : Code := (.seq (.seq (reg Tryd.f14 5) (.cond (Operand.tmp 18) Code.skip (Code.exit 2))) (.seq (.block 3 (.seq (reg Tryd.f14 7) (.cond (Operand.tmp 33) (.seq (reg Tryd.f14 8) Code.ret) Code.skip))) (reg Tryd.f14 6)))
noncomputable def b14_1 : Code := (.seq (.seq (reg Tryd.f14 2) (.cond (Operand.tmp 11) Code.skip (Code.exit 0))) (.seq (.block 1 (.seq (reg Tryd.f14 4) (.block 2 (.loop b14_2)))) (reg Tryd.f14 3)))
noncomputable def c14 : Code := (.seq (reg Tryd.f14 0) (.seq (.seq (reg Tryd.f14 1) (.block 0 (.loop b14_1))) (.seq (reg Tryd.f14 9) Code.ret)))
theorem body14 : Tryd.f14.body = some c14 := by kernel_rfl

noncomputable def b15_3 : Code := (.seq (reg Tryd.f15 11) (.seq (.cond (Operand.tmp 37) Code.skip (Code.exit 4)) (.seq (.block 5 (.seq (reg Tryd.f15 12) (reg Tryd.f15 13))) (reg Tryd.f15 14))))
noncomputable def b15_5 : Code := (.seq (reg Tryd.f15 19) (.seq (.cond (Operand.tmp 67) Code.skip (Code.exit 8)) (.seq (.block 9 (.seq (reg Tryd.f15 20) (reg Tryd.f15 21))) (reg Tryd.f15 22))))
noncomputable def b15_4 : Code := (.seq (reg Tryd.f15 16) (.seq (.cond (Operand.tmp 59) Code.skip (Code.exit 6)) (.seq (.block 7 (.seq (reg Tryd.f15 17) (.seq (reg Tryd.f15 18) (.block 8 (.loop b15_5))))) (reg Tryd.f15 23))))
noncomputable def b15_2 : Code := (.seq (reg Tryd.f15 8) (.seq (.cond (Operand.tmp 29) Code.skip (Code.exit 2)) (.seq (.block 3 (.seq (reg Tryd.f15 9) (.seq (.seq (reg Tryd.f15 10) (.block 4 (.loop b15_3))) (.seq (reg Tryd.f15 15) (.block 6 (.loop b15_4)))))) (reg Tryd.f15 24))))
noncomputable def b15_1 : Code := (.seq (.seq (reg Tryd.f15 3) (.cond (Operand.tmp 20) Code.skip (Code.exit 0))) (.seq (.block 1 (.seq (reg Tryd.f15 5) (.seq (reg Tryd.f15 6) (.seq (.seq (reg Tryd.f15 7) (.block 2 (.loop b15_2))) (.seq (reg Tryd.f15 25) (.cond (Operand.tmp 86) (reg Tryd.f15 26) Code.skip)))))) (reg Tryd.f15 4)))
noncomputable def c15 : Code := (.seq (reg Tryd.f15 0) (.seq (reg Tryd.f15 1) (.seq (.seq (reg Tryd.f15 2) (.block 0 (.loop b15_1))) (.seq (reg Tryd.f15 27) Code.ret))))
theorem body15 : Tryd.f15.body = some c15 := by kernel_rfl

noncomputable def c16 : Code := (.seq (reg Tryd.f16 0) (.seq (reg Tryd.f16 1) (.seq (.seq (reg Tryd.f16 2) (.cond (Operand.tmp 11) (reg Tryd.f16 3) Code.skip)) (.seq (.seq (reg Tryd.f16 4) (.cond (Operand.tmp 26) (reg Tryd.f16 5) Code.skip)) (.seq (reg Tryd.f16 6) Code.ret)))))
theorem body16 : Tryd.f16.body = some c16 := by kernel_rfl

noncomputable def c17 : Code := (.seq (reg Tryd.f17 0) (.seq (.seq (reg Tryd.f17 1) (.cond (Operand.tmp 7) (.seq (reg Tryd.f17 2) Code.ret) Code.skip)) (.seq (reg Tryd.f17 3) (.seq (reg Tryd.f17 4) Code.ret))))
theorem body17 : Tryd.f17.body = some c17 := by kernel_rfl

noncomputable def c18 : Code := (.seq (reg Tryd.f18 0) (.seq (.seq (reg Tryd.f18 1) (.seq (reg Tryd.f18 2) (.cond (Operand.tmp 13) (.seq (reg Tryd.f18 3) Code.ret) Code.skip))) (.seq (reg Tryd.f18 4) (.seq (reg Tryd.f18 5) (.seq (.block 0 (.seq (reg Tryd.f18 6) (.cond (Operand.tmp 17) (.seq (reg Tryd.f18 7) Code.ret) (.seq (reg Tryd.f18 8) (.cond (Operand.tmp 20) (.seq (reg Tryd.f18 9) Code.ret) (.seq (reg Tryd.f18 10) (.cond (Operand.tmp 28) (.seq (reg Tryd.f18 11) Code.ret) (.seq (reg Tryd.f18 12) (.cond (Operand.tmp 32) (.seq (reg Tryd.f18 13) Code.ret) (.seq (reg Tryd.f18 14) (.cond (Operand.tmp 35) (.seq (reg Tryd.f18 15) Code.ret) (.seq (reg Tryd.f18 16) (.cond (Operand.tmp 39) (.seq (reg Tryd.f18 17) Code.ret) Code.skip))))))))))))) (.seq (reg Tryd.f18 18) Code.ret))))))
theorem body18 : Tryd.f18.body = some c18 := by kernel_rfl

noncomputable def b19_1 : Code := (.seq (.seq (reg Tryd.f19 9) (.cond (Operand.tmp 27) Code.skip (Code.exit 0))) (.seq (.block 1 (.seq (reg Tryd.f19 11) (.cond (Operand.tmp 36) (.seq (reg Tryd.f19 12) Code.ret) Code.skip))) (reg Tryd.f19 10)))
noncomputable def b19_2 : Code := (.seq (.seq (reg Tryd.f19 14) (.cond (Operand.tmp 40) Code.skip (Code.exit 2))) (.seq (.block 3 (.seq (reg Tryd.f19 16) (.cond (Operand.tmp 50) (.seq (reg Tryd.f19 17) Code.ret) Code.skip))) (reg Tryd.f19 15)))
noncomputable def b19_3 : Code := (.seq (.seq (reg Tryd.f19 19) (.cond (Operand.tmp 54) Code.skip (Code.exit 4))) (.seq (.block 5 (.seq (reg Tryd.f19 21) (.cond (Operand.tmp 63) (.seq (reg Tryd.f19 22) Code.ret) Code.skip))) (reg Tryd.f19 20)))
noncomputable def b19_4 : Code := (.seq (.seq (reg Tryd.f19 24) (.cond (Operand.tmp 67) Code.skip (Code.exit 6))) (.seq (.block 7 (.seq (reg Tryd.f19 26) (.cond (Operand.tmp 76) (.seq (reg Tryd.f19 27) Code.ret) Code.skip))) (reg Tryd.f19 25)))
noncomputable def b19_5 : Code := (.seq (.seq (reg Tryd.f19 30) (.cond (Operand.tmp 85) Code.skip (Code.exit 8))) (.seq (.block 9 (.seq (.seq (reg Tryd.f19 32) (.cond (Operand.tmp 104) (.seq (reg Tryd.f19 33) Code.ret) Code.skip)) (.seq (reg Tryd.f19 34) (.cond (Operand.tmp 106) (reg Tryd.f19 35) Code.skip)))) (reg Tryd.f19 31)))
noncomputable def c19 : Code := (.seq (reg Tryd.f19 0) (.seq (.seq (reg Tryd.f19 1) (.seq (reg Tryd.f19 2) (.cond (Operand.tmp 17) (.seq (reg Tryd.f19 3) Code.ret) Code.skip))) (.seq (.seq (reg Tryd.f19 4) (.cond (Operand.tmp 20) (.seq (reg Tryd.f19 5) Code.ret) Code.skip)) (.seq (.seq (reg Tryd.f19 6) (.cond (Operand.tmp 23) (.seq (reg Tryd.f19 7) Code.ret) Code.skip)) (.seq (.seq (reg Tryd.f19 8) (.block 0 (.loop b19_1))) (.seq (.seq (reg Tryd.f19 13) (.block 2 (.loop b19_2))) (.seq (.seq (reg Tryd.f19 18) (.block 4 (.loop b19_3))) (.seq (.seq (reg Tryd.f19 23) (.block 6 (.loop b19_4))) (.seq (reg Tryd.f19 28) (.seq (.seq (reg Tryd.f19 29) (.block 8 (.loop b19_5))) (.seq (.seq (reg Tryd.f19 36) (.cond (Operand.tmp 115) (.seq (reg Tryd.f19 37) Code.ret) Code.skip)) (.seq (reg Tryd.f19 38) Code.ret))))))))))))
theorem body19 : Tryd.f19.body = some c19 := by kernel_rfl

noncomputable def b20_1 : Code := (.seq (reg Tryd.f20 8) (.seq (.cond (Operand.tmp 32) Code.skip (Code.exit 0)) (.seq (.block 1 (.seq (reg Tryd.f20 9) (.seq (reg Tryd.f20 10) (.cond (Operand.tmp 38) (reg Tryd.f20 11) (reg Tryd.f20 12))))) (reg Tryd.f20 13))))
noncomputable def b20_2 : Code := (.seq (reg Tryd.f20 19) (.seq (.cond (Operand.tmp 63) Code.skip (Code.exit 2)) (.seq (.block 3 (.seq (reg Tryd.f20 20) (reg Tryd.f20 21))) (reg Tryd.f20 22))))
noncomputable def b20_3 : Code := (.seq (.seq (reg Tryd.f20 24) (.cond (Operand.tmp 88) Code.skip (Code.exit 4))) (.block 5 (.seq (reg Tryd.f20 25) (.seq (reg Tryd.f20 26) (reg Tryd.f20 27)))))
noncomputable def c20 : Code := (.seq (reg Tryd.f20 0) (.seq (.seq (reg Tryd.f20 1) (.cond (Operand.tmp 23) (.seq (reg Tryd.f20 2) Code.ret) Code.skip)) (.seq (reg Tryd.f20 3) (.seq (.seq (reg Tryd.f20 4) (.cond (Operand.tmp 28) (.seq (reg Tryd.f20 5) Code.ret) Code.skip)) (.seq (reg Tryd.f20 6) (.seq (.seq (reg Tryd.f20 7) (.block 0 (.loop b20_1))) (.seq (.seq (reg Tryd.f20 14) (.seq (reg Tryd.f20 15) (.cond (Operand.tmp 58) (.seq (reg Tryd.f20 16) Code.ret) Code.skip))) (.seq (reg Tryd.f20 17) (.seq (.seq (reg Tryd.f20 18) (.block 2 (.loop b20_2))) (.seq (reg Tryd.f20 23) (.seq (.block 4 (.loop b20_3)) (.seq (reg Tryd.f20 28) Code.ret))))))))))))
theorem body20 : Tryd.f20.body = some c20 := by kernel_rfl

noncomputable def b21_2 : Code := (.seq (reg Tryd.f21 10) (.seq (.cond (Operand.tmp 81) Code.skip (Code.exit 2)) (.seq (.block 3 (.seq (reg Tryd.f21 11) (.seq (reg Tryd.f21 12) (.cond (Operand.tmp 94) (.seq (reg Tryd.f21 13) Code.ret) Code.skip)))) (reg Tryd.f21 14))))
noncomputable def b21_1 : Code := (.seq (reg Tryd.f21 4) (.seq (.cond (Operand.tmp 44) Code.skip (Code.exit 0)) (.seq (.block 1 (.seq (reg Tryd.f21 5) (.seq (reg Tryd.f21 6) (.seq (.seq (reg Tryd.f21 7) (.cond (Operand.tmp 76) (.seq (reg Tryd.f21 8) Code.ret) Code.skip)) (.seq (reg Tryd.f21 9) (.block 2 (.loop b21_2))))))) (reg Tryd.f21 15))))
noncomputable def b21_3 : Code := (.seq (reg Tryd.f21 17) (.seq (.cond (Operand.tmp 101) Code.skip (Code.exit 4)) (.seq (.block 5 (.seq (reg Tryd.f21 18) (.seq (reg Tryd.f21 19) (.cond (Operand.tmp 114) (.seq (reg Tryd.f21 20) Code.ret) Code.skip)))) (reg Tryd.f21 21))))
noncomputable def c21 : Code := (.seq (reg Tryd.f21 0) (.seq (.seq (reg Tryd.f21 1) (.cond (Operand.tmp 39) (.seq (reg Tryd.f21 2) Code.ret) Code.skip)) (.seq (.seq (reg Tryd.f21 3) (.block 0 (.loop b21_1))) (.seq (.seq (reg Tryd.f21 16) (.block 4 (.loop b21_3))) (.seq (reg Tryd.f21 22) Code.ret)))))
theorem body21 : Tryd.f21.body = some c21 := by kernel_rfl

noncomputable def b22_1 : Code := (.seq (reg Tryd.f22 5) (.seq (.cond (Operand.tmp 18) Code.skip (Code.exit 0)) (.seq (.block 1 (.seq (reg Tryd.f22 6) (.seq (reg Tryd.f22 7) (.seq (reg Tryd.f22 8) (.seq (reg Tryd.f22 9) (reg Tryd.f22 10)))))) (reg Tryd.f22 11))))
noncomputable def c22 : Code := (.seq (reg Tryd.f22 0) (.seq (reg Tryd.f22 1) (.seq (reg Tryd.f22 2) (.seq (reg Tryd.f22 3) (.seq (.seq (reg Tryd.f22 4) (.block 0 (.loop b22_1))) (.seq (reg Tryd.f22 12) (.seq (reg Tryd.f22 13) (.seq (reg Tryd.f22 14) (.seq (.seq (reg Tryd.f22 15) (.block 2 (.seq (reg Tryd.f22 16) (.cond (Operand.tmp 73) (reg Tryd.f22 17) (.seq (reg Tryd.f22 18) (.cond (Operand.tmp 76) (.seq (reg Tryd.f22 19) (reg Tryd.f22 20)) Code.skip)))))) (.seq (reg Tryd.f22 21) Code.ret))))))))))
theorem body22 : Tryd.f22.body = some c22 := by kernel_rfl

noncomputable def c23 : Code := (.seq (reg Tryd.f23 0) (.seq (reg Tryd.f23 1) Code.ret))
theorem body23 : Tryd.f23.body = some c23 := by kernel_rfl

noncomputable def c24 : Code := (.seq (reg Tryd.f24 0) (.seq (.seq (reg Tryd.f24 1) (.cond (Operand.tmp 5) (.seq (reg Tryd.f24 2) Code.ret) Code.skip)) (.seq (reg Tryd.f24 3) Code.ret)))
theorem body24 : Tryd.f24.body = some c24 := by kernel_rfl

noncomputable def c25 : Code := (.seq (reg Tryd.f25 0) (.seq (reg Tryd.f25 1) (.seq (.seq (reg Tryd.f25 2) (.cond (Operand.tmp 10) (reg Tryd.f25 3) Code.skip)) (.seq (reg Tryd.f25 4) Code.ret))))
theorem body25 : Tryd.f25.body = some c25 := by kernel_rfl

noncomputable def c26 : Code := (.seq (reg Tryd.f26 0) (.seq (.block 0 (.seq (reg Tryd.f26 1) (.cond (Operand.tmp 11) (.seq (reg Tryd.f26 2) Code.ret) (.seq (reg Tryd.f26 3) (.cond (Operand.tmp 16) (.seq (reg Tryd.f26 4) Code.ret) (.seq (reg Tryd.f26 5) (.cond (Operand.tmp 35) (.seq (reg Tryd.f26 6) Code.ret) (.seq (reg Tryd.f26 7) (.cond (Operand.tmp 41) (.seq (reg Tryd.f26 8) Code.ret) Code.skip))))))))) (.seq (reg Tryd.f26 9) (.seq (reg Tryd.f26 10) (.seq (reg Tryd.f26 11) (.seq (reg Tryd.f26 12) (.seq (.block 1 (.seq (reg Tryd.f26 16) (.cond (Operand.tmp 90) (.seq (reg Tryd.f26 17) (reg Tryd.f26 18)) (.seq (reg Tryd.f26 19) (.cond (Operand.tmp 108) (.seq (reg Tryd.f26 20) Code.ret) (.seq (reg Tryd.f26 13) (.seq (reg Tryd.f26 14) (reg Tryd.f26 15)))))))) (.seq (.seq (reg Tryd.f26 21) (.cond (Operand.tmp 125) (.seq (reg Tryd.f26 22) Code.ret) Code.skip)) (.seq (reg Tryd.f26 23) Code.ret)))))))))
theorem body26 : Tryd.f26.body = some c26 := by kernel_rfl

noncomputable def c27 : Code := (.seq (reg Tryd.f27 0) (.seq (.block 0 (.seq (reg Tryd.f27 1) (.cond (Operand.tmp 11) (.seq (reg Tryd.f27 2) Code.ret) (.seq (reg Tryd.f27 3) (.cond (Operand.tmp 16) (.seq (reg Tryd.f27 4) Code.ret) (.seq (reg Tryd.f27 5) (.cond (Operand.tmp 35) (.seq (reg Tryd.f27 6) Code.ret) (.seq (reg Tryd.f27 7) (.cond (Operand.tmp 41) (.seq (reg Tryd.f27 8) Code.ret) Code.skip))))))))) (.seq (reg Tryd.f27 9) (.seq (reg Tryd.f27 10) (.seq (reg Tryd.f27 11) (.seq (reg Tryd.f27 12) (.seq (reg Tryd.f27 13) (.seq (.block 1 (.seq (reg Tryd.f27 16) (.cond (Operand.tmp 103) (.seq (reg Tryd.f27 17) (reg Tryd.f27 18)) (.seq (reg Tryd.f27 19) (.cond (Operand.tmp 126) (.seq (reg Tryd.f27 20) Code.ret) (.seq (reg Tryd.f27 14) (reg Tryd.f27 15))))))) (.seq (.seq (reg Tryd.f27 21) (.cond (Operand.tmp 144) (.seq (reg Tryd.f27 22) Code.ret) Code.skip)) (.seq (reg Tryd.f27 23) Code.ret))))))))))
theorem body27 : Tryd.f27.body = some c27 := by kernel_rfl

noncomputable def b28_1 : Code := (.seq (.seq (reg Tryd.f28 4) (.cond (Operand.tmp 39) Code.skip (Code.exit 0))) (.seq (.block 1 (.seq (reg Tryd.f28 6) (.cond (Operand.tmp 53) (.seq (reg Tryd.f28 7) Code.ret) Code.skip))) (reg Tryd.f28 5)))
noncomputable def c28 : Code := (.seq (reg Tryd.f28 0) (.seq (.seq (reg Tryd.f28 1) (.cond (Operand.tmp 34) (.seq (reg Tryd.f28 2) Code.ret) Code.skip)) (.seq (.seq (reg Tryd.f28 3) (.block 0 (.loop b28_1))) (.seq (reg Tryd.f28 8) Code.ret))))
theorem body28 : Tryd.f28.body = some c28 := by kernel_rfl

noncomputable def b29_1 : Code := (.seq (.seq (reg Tryd.f29 4) (.cond (Operand.tmp 31) Code.skip (Code.exit 0))) (.seq (.block 1 (.seq (reg Tryd.f29 6) (.cond (Operand.tmp 42) (.seq (reg Tryd.f29 7) Code.ret) Code.skip))) (reg Tryd.f29 5)))
noncomputable def c29 : Code := (.seq (reg Tryd.f29 0) (.seq (.seq (reg Tryd.f29 1) (.cond (Operand.tmp 25) (.seq (reg Tryd.f29 2) Code.ret) Code.skip)) (.seq (.seq (reg Tryd.f29 3) (.block 0 (.loop b29_1))) (.seq (reg Tryd.f29 8) (.seq (reg Tryd.f29 9) Code.ret)))))
theorem body29 : Tryd.f29.body = some c29 := by kernel_rfl

noncomputable def c30 : Code := (.seq (reg Tryd.f30 0) (.seq (reg Tryd.f30 1) Code.ret))
theorem body30 : Tryd.f30.body = some c30 := by kernel_rfl

noncomputable def c31 : Code := (.seq (reg Tryd.f31 0) (.seq (reg Tryd.f31 1) Code.ret))
theorem body31 : Tryd.f31.body = some c31 := by kernel_rfl

noncomputable def c32 : Code := (.seq (reg Tryd.f32 0) (.seq (reg Tryd.f32 1) Code.ret))
theorem body32 : Tryd.f32.body = some c32 := by kernel_rfl

noncomputable def c33 : Code := (.seq (reg Tryd.f33 0) (.seq (reg Tryd.f33 1) Code.ret))
theorem body33 : Tryd.f33.body = some c33 := by kernel_rfl

noncomputable def c34 : Code := (.seq (reg Tryd.f34 0) (.seq (reg Tryd.f34 1) Code.ret))
theorem body34 : Tryd.f34.body = some c34 := by kernel_rfl

noncomputable def c35 : Code := (.seq (reg Tryd.f35 0) (.seq (reg Tryd.f35 1) Code.ret))
theorem body35 : Tryd.f35.body = some c35 := by kernel_rfl

noncomputable def c36 : Code := (.seq (reg Tryd.f36 0) (.seq (reg Tryd.f36 1) Code.ret))
theorem body36 : Tryd.f36.body = some c36 := by kernel_rfl

noncomputable def c37 : Code := (.seq (reg Tryd.f37 0) (.seq (.seq (reg Tryd.f37 1) (.cond (Operand.tmp 5) (.seq (reg Tryd.f37 2) Code.ret) Code.skip)) (.seq (reg Tryd.f37 3) Code.ret)))
theorem body37 : Tryd.f37.body = some c37 := by kernel_rfl

noncomputable def c38 : Code := (.seq (reg Tryd.f38 0) (.seq (reg Tryd.f38 1) Code.ret))
theorem body38 : Tryd.f38.body = some c38 := by kernel_rfl

noncomputable def b39_1 : Code := (.seq (reg Tryd.f39 9) (.seq (.cond (Operand.tmp 28) Code.skip (Code.exit 0)) (.seq (.block 1 (.seq (reg Tryd.f39 10) (.seq (.seq (reg Tryd.f39 11) (.cond (Operand.tmp 34) (.seq (reg Tryd.f39 12) Code.ret) Code.skip)) (reg Tryd.f39 13)))) (reg Tryd.f39 14))))
noncomputable def c39 : Code := (.seq (reg Tryd.f39 0) (.seq (.seq (reg Tryd.f39 1) (.cond (Operand.tmp 8) (.seq (reg Tryd.f39 2) Code.ret) Code.skip)) (.seq (.seq (reg Tryd.f39 3) (.cond (Operand.tmp 18) (.seq (reg Tryd.f39 4) Code.ret) Code.skip)) (.seq (.seq (reg Tryd.f39 5) (.cond (Operand.tmp 22) (.seq (reg Tryd.f39 6) Code.ret) Code.skip)) (.seq (reg Tryd.f39 7) (.seq (.seq (reg Tryd.f39 8) (.block 0 (.loop b39_1))) (.seq (.seq (reg Tryd.f39 15) (.cond (Operand.tmp 46) (.seq (reg Tryd.f39 16) Code.ret) Code.skip)) (.seq (reg Tryd.f39 17) Code.ret))))))))
theorem body39 : Tryd.f39.body = some c39 := by kernel_rfl

noncomputable def c40 : Code := (.seq (reg Tryd.f40 0) (.seq (reg Tryd.f40 1) Code.ret))
theorem body40 : Tryd.f40.body = some c40 := by kernel_rfl

noncomputable def c41 : Code := (.seq (reg Tryd.f41 0) (.seq (reg Tryd.f41 1) Code.ret))
theorem body41 : Tryd.f41.body = some c41 := by kernel_rfl

noncomputable def c42 : Code := (.seq (reg Tryd.f42 0) (.seq (reg Tryd.f42 1) (.seq (reg Tryd.f42 2) Code.ret)))
theorem body42 : Tryd.f42.body = some c42 := by kernel_rfl

noncomputable def c43 : Code := (.seq (reg Tryd.f43 0) (.seq (reg Tryd.f43 1) Code.ret))
theorem body43 : Tryd.f43.body = some c43 := by kernel_rfl

noncomputable def c44 : Code := (.seq (reg Tryd.f44 0) (.seq (reg Tryd.f44 1) Code.ret))
theorem body44 : Tryd.f44.body = some c44 := by kernel_rfl

noncomputable def c45 : Code := (.seq (reg Tryd.f45 0) (.seq (reg Tryd.f45 1) Code.ret))
theorem body45 : Tryd.f45.body = some c45 := by kernel_rfl

noncomputable def c46 : Code := (.seq (reg Tryd.f46 0) (.seq (reg Tryd.f46 1) Code.ret))
theorem body46 : Tryd.f46.body = some c46 := by kernel_rfl

noncomputable def c47 : Code := (.seq (reg Tryd.f47 0) (.seq (reg Tryd.f47 1) Code.ret))
theorem body47 : Tryd.f47.body = some c47 := by kernel_rfl

noncomputable def c48 : Code := (.seq (reg Tryd.f48 0) (.seq (reg Tryd.f48 1) Code.ret))
theorem body48 : Tryd.f48.body = some c48 := by kernel_rfl

noncomputable def c49 : Code := (.seq (reg Tryd.f49 0) (.seq (reg Tryd.f49 1) Code.ret))
theorem body49 : Tryd.f49.body = some c49 := by kernel_rfl

noncomputable def b50_1 : Code := (.seq (reg Tryd.f50 4) (.seq (.cond (Operand.tmp 21) Code.skip (Code.exit 0)) (.seq (.block 1 (.seq (reg Tryd.f50 5) (.seq (.seq (reg Tryd.f50 6) (.cond (Operand.tmp 27) (.seq (reg Tryd.f50 7) Code.ret) Code.skip)) (reg Tryd.f50 8)))) (reg Tryd.f50 9))))
noncomputable def c50 : Code := (.seq (reg Tryd.f50 0) (.seq (reg Tryd.f50 1) (.seq (reg Tryd.f50 2) (.seq (.seq (reg Tryd.f50 3) (.block 0 (.loop b50_1))) (.seq (.seq (reg Tryd.f50 10) (.cond (Operand.tmp 34) (.seq (reg Tryd.f50 11) Code.ret) Code.skip)) (.seq (reg Tryd.f50 12) (.seq (reg Tryd.f50 13) Code.ret)))))))
theorem body50 : Tryd.f50.body = some c50 := by kernel_rfl

noncomputable def b51_1 : Code := (.seq (reg Tryd.f51 7) (.seq (.cond (Operand.tmp 27) Code.skip (Code.exit 0)) (.seq (.block 1 (.seq (reg Tryd.f51 8) (.seq (.seq (reg Tryd.f51 9) (.cond (Operand.tmp 32) (.seq (reg Tryd.f51 10) Code.ret) Code.skip)) (reg Tryd.f51 11)))) (reg Tryd.f51 12))))
noncomputable def b51_3 : Code := (.seq (.seq (reg Tryd.f51 19) (.cond (Operand.tmp 48) Code.skip (Code.exit 4))) (.seq (.block 5 (.seq (reg Tryd.f51 21) (.cond (Operand.tmp 63) (.seq (reg Tryd.f51 22) Code.ret) Code.skip))) (reg Tryd.f51 20)))
noncomputable def b51_2 : Code := (.seq (reg Tryd.f51 16) (.seq (.cond (Operand.tmp 44) Code.skip (Code.exit 2)) (.seq (.block 3 (.seq (reg Tryd.f51 17) (.seq (reg Tryd.f51 18) (.block 4 (.loop b51_3))))) (reg Tryd.f51 23))))
noncomputable def b51_4 : Code := (.seq (reg Tryd.f51 25) (.seq (.cond (Operand.tmp 69) Code.skip (Code.exit 6)) (.seq (.block 7 (.seq (reg Tryd.f51 26) (.seq (reg Tryd.f51 27) (.cond (Operand.tmp 79) (.seq (reg Tryd.f51 28) Code.ret) Code.skip)))) (reg Tryd.f51 29))))
noncomputable def c51 : Code := (.seq (reg Tryd.f51 0) (.seq (.seq (reg Tryd.f51 1) (.cond (Operand.tmp 12) (.seq (reg Tryd.f51 2) Code.ret) Code.skip)) (.seq (.seq (reg Tryd.f51 3) (.cond (Operand.tmp 22) (.seq (reg Tryd.f51 4) Code.ret) Code.skip)) (.seq (reg Tryd.f51 5) (.seq (.seq (reg Tryd.f51 6) (.block 0 (.loop b51_1))) (.seq (.seq (reg Tryd.f51 13) (.cond (Operand.tmp 39) (.seq (reg Tryd.f51 14) Code.ret) Code.skip)) (.seq (.seq (reg Tryd.f51 15) (.block 2 (.loop b51_2))) (.seq (.seq (reg Tryd.f51 24) (.block 6 (.loop b51_4))) (.seq (reg Tryd.f51 30) Code.ret)))))))))
theorem body51 : Tryd.f51.body = some c51 := by kernel_rfl

noncomputable def c52 : Code := (.seq (reg Tryd.f52 0) (.seq (reg Tryd.f52 1) Code.ret))
theorem body52 : Tryd.f52.body = some c52 := by kernel_rfl

noncomputable def c53 : Code := (.seq (reg Tryd.f53 0) (.seq (reg Tryd.f53 1) Code.ret))
theorem body53 : Tryd.f53.body = some c53 := by kernel_rfl

noncomputable def b54_1 : Code := (.seq (.seq (reg Tryd.f54 3) (.cond (Operand.tmp 13) Code.skip (Code.exit 0))) (.seq (.block 1 (.seq (reg Tryd.f54 5) (.cond (Operand.tmp 24) (.seq (reg Tryd.f54 6) Code.ret) Code.skip))) (reg Tryd.f54 4)))
noncomputable def c54 : Code := (.seq (reg Tryd.f54 0) (.seq (reg Tryd.f54 1) (.seq (.seq (reg Tryd.f54 2) (.block 0 (.loop b54_1))) (.seq (reg Tryd.f54 7) Code.ret))))
theorem body54 : Tryd.f54.body = some c54 := by kernel_rfl

noncomputable def c55 : Code := (.seq (reg Tryd.f55 0) (.seq (.seq (reg Tryd.f55 1) (.cond (Operand.tmp 12) (.seq (reg Tryd.f55 2) Code.ret) Code.skip)) (.seq (reg Tryd.f55 3) Code.ret)))
theorem body55 : Tryd.f55.body = some c55 := by kernel_rfl

noncomputable def c56 : Code := (.seq (reg Tryd.f56 0) (.seq (.seq (reg Tryd.f56 1) (.cond (Operand.tmp 15) (.seq (reg Tryd.f56 2) Code.ret) Code.skip)) (.seq (reg Tryd.f56 3) Code.ret)))
theorem body56 : Tryd.f56.body = some c56 := by kernel_rfl

noncomputable def b57_2 : Code := (.seq (reg Tryd.f57 8) (.seq (.cond (Operand.tmp 35) Code.skip (Code.exit 2)) (.seq (.block 3 (.seq (reg Tryd.f57 9) (.seq (.seq (reg Tryd.f57 10) (.cond (Operand.tmp 41) (.seq (reg Tryd.f57 11) Code.ret) Code.skip)) (reg Tryd.f57 12)))) (reg Tryd.f57 13))))
noncomputable def b57_1 : Code := (.seq (reg Tryd.f57 3) (.seq (.cond (Operand.tmp 12) Code.skip (Code.exit 0)) (.seq (.block 1 (.seq (reg Tryd.f57 4) (.seq (.seq (reg Tryd.f57 5) (.cond (Operand.tmp 29) (.seq (reg Tryd.f57 6) Code.ret) Code.skip)) (.seq (reg Tryd.f57 7) (.block 2 (.loop b57_2)))))) (reg Tryd.f57 14))))
noncomputable def c57 : Code := (.seq (reg Tryd.f57 0) (.seq (reg Tryd.f57 1) (.seq (.seq (reg Tryd.f57 2) (.block 0 (.loop b57_1))) (.seq (reg Tryd.f57 15) Code.ret))))
theorem body57 : Tryd.f57.body = some c57 := by kernel_rfl

noncomputable def c58 : Code := (.seq (reg Tryd.f58 0) (.seq (reg Tryd.f58 1) Code.ret))
theorem body58 : Tryd.f58.body = some c58 := by kernel_rfl

noncomputable def b59_1 : Code := (.seq (reg Tryd.f59 3) (.seq (.cond (Operand.tmp 19) Code.skip (Code.exit 0)) (.seq (.block 1 (.seq (reg Tryd.f59 4) (reg Tryd.f59 5))) (reg Tryd.f59 6))))
noncomputable def b59_2 : Code := (.seq (reg Tryd.f59 8) (.seq (.cond (Operand.tmp 36) Code.skip (Code.exit 2)) (.seq (.block 3 (.seq (reg Tryd.f59 9) (reg Tryd.f59 10))) (reg Tryd.f59 11))))
noncomputable def c59 : Code := (.seq (reg Tryd.f59 0) (.seq (reg Tryd.f59 1) (.seq (.seq (reg Tryd.f59 2) (.block 0 (.loop b59_1))) (.seq (.seq (reg Tryd.f59 7) (.block 2 (.loop b59_2))) (.seq (reg Tryd.f59 12) Code.ret)))))
theorem body59 : Tryd.f59.body = some c59 := by kernel_rfl

noncomputable def b60_1 : Code := (.seq (reg Tryd.f60 3) (.seq (.cond (Operand.tmp 15) Code.skip (Code.exit 0)) (.seq (.block 1 (.seq (reg Tryd.f60 4) (.seq (reg Tryd.f60 5) (.seq (reg Tryd.f60 6) (.cond (Operand.tmp 23) (reg Tryd.f60 7) Code.skip))))) (reg Tryd.f60 8))))
noncomputable def c60 : Code := (.seq (reg Tryd.f60 0) (.seq (reg Tryd.f60 1) (.seq (.seq (reg Tryd.f60 2) (.block 0 (.loop b60_1))) (.seq (reg Tryd.f60 9) Code.ret))))
theorem body60 : Tryd.f60.body = some c60 := by kernel_rfl

noncomputable def c61 : Code := (.seq (reg Tryd.f61 0) (.seq (reg Tryd.f61 1) (.seq (.seq (reg Tryd.f61 2) (.cond (Operand.tmp 16) (.seq (reg Tryd.f61 3) Code.ret) Code.skip)) (.seq (reg Tryd.f61 4) (.seq (reg Tryd.f61 5) (.seq (reg Tryd.f61 6) (.seq (reg Tryd.f61 7) Code.ret)))))))
theorem body61 : Tryd.f61.body = some c61 := by kernel_rfl

noncomputable def c62 : Code := (.seq (reg Tryd.f62 0) (.seq (reg Tryd.f62 1) Code.ret))
theorem body62 : Tryd.f62.body = some c62 := by kernel_rfl

noncomputable def b63_1 : Code := (.seq (reg Tryd.f63 4) (.seq (.cond (Operand.tmp 23) Code.skip (Code.exit 0)) (.seq (.block 1 (.seq (reg Tryd.f63 5) (.seq (reg Tryd.f63 6) (.cond (Operand.tmp 34) (.seq (reg Tryd.f63 7) Code.ret) Code.skip)))) (reg Tryd.f63 8))))
noncomputable def b63_3 : Code := (.seq (reg Tryd.f63 15) (.seq (.cond (Operand.tmp 51) Code.skip (Code.exit 4)) (.seq (.block 5 (.seq (reg Tryd.f63 16) (.seq (reg Tryd.f63 17) (.cond (Operand.tmp 56) (.seq (reg Tryd.f63 18) Code.ret) Code.skip)))) (reg Tryd.f63 19))))
noncomputable def b63_2 : Code := (.seq (reg Tryd.f63 10) (.seq (.cond (Operand.tmp 40) Code.skip (Code.exit 2)) (.seq (.block 3 (.seq (reg Tryd.f63 11) (.seq (.seq (reg Tryd.f63 12) (.cond (Operand.tmp 46) (.seq (reg Tryd.f63 13) Code.ret) Code.skip)) (.seq (reg Tryd.f63 14) (.block 4 (.loop b63_3)))))) (reg Tryd.f63 20))))
noncomputable def c63 : Code := (.seq (reg Tryd.f63 0) (.seq (.seq (reg Tryd.f63 1) (.cond (Operand.tmp 18) (.seq (reg Tryd.f63 2) Code.ret) Code.skip)) (.seq (.seq (reg Tryd.f63 3) (.block 0 (.loop b63_1))) (.seq (.seq (reg Tryd.f63 9) (.block 2 (.loop b63_2))) (.seq (reg Tryd.f63 21) Code.ret)))))
theorem body63 : Tryd.f63.body = some c63 := by kernel_rfl

noncomputable def b64_1 : Code := (.seq (reg Tryd.f64 4) (.seq (.cond (Operand.tmp 27) Code.skip (Code.exit 0)) (.seq (.block 1 (.seq (reg Tryd.f64 5) (reg Tryd.f64 6))) (reg Tryd.f64 7))))
noncomputable def b64_2 : Code := (.seq (reg Tryd.f64 10) (.seq (.cond (Operand.tmp 49) Code.skip (Code.exit 2)) (.seq (.block 3 (.seq (reg Tryd.f64 11) (reg Tryd.f64 12))) (reg Tryd.f64 13))))
noncomputable def b64_4 : Code := (.seq (reg Tryd.f64 21) (.seq (.cond (Operand.tmp 80) Code.skip (Code.exit 6)) (.seq (.block 7 (.seq (reg Tryd.f64 22) (reg Tryd.f64 23))) (reg Tryd.f64 24))))
noncomputable def b64_3 : Code := (.seq (reg Tryd.f64 16) (.seq (.cond (Operand.tmp 65) Code.skip (Code.exit 4)) (.seq (.block 5 (.seq (reg Tryd.f64 17) (.seq (.seq (reg Tryd.f64 18) (.cond (Operand.tmp 69) (Code.exit 4) Code.skip)) (.seq (reg Tryd.f64 19) (.seq (reg Tryd.f64 20) (.block 6 (.loop b64_4))))))) (reg Tryd.f64 25))))
noncomputable def c64 : Code := (.seq (reg Tryd.f64 0) (.seq (reg Tryd.f64 1) (.seq (reg Tryd.f64 2) (.seq (.seq (reg Tryd.f64 3) (.block 0 (.loop b64_1))) (.seq (reg Tryd.f64 8) (.seq (.seq (reg Tryd.f64 9) (.block 2 (.loop b64_2))) (.seq (reg Tryd.f64 14) (.seq (.seq (reg Tryd.f64 15) (.block 4 (.loop b64_3))) (.seq (reg Tryd.f64 26) Code.ret)))))))))
theorem body64 : Tryd.f64.body = some c64 := by kernel_rfl

noncomputable def b65_1 : Code := (.seq (reg Tryd.f65 4) (.seq (.cond (Operand.tmp 21) Code.skip (Code.exit 0)) (.seq (.block 1 (.seq (reg Tryd.f65 5) (.seq (reg Tryd.f65 6) (.cond (Operand.tmp 27) (.seq (reg Tryd.f65 7) Code.ret) Code.skip)))) (reg Tryd.f65 8))))
noncomputable def c65 : Code := (.seq (reg Tryd.f65 0) (.seq (.seq (reg Tryd.f65 1) (.cond (Operand.tmp 15) (.seq (reg Tryd.f65 2) Code.ret) Code.skip)) (.seq (.seq (reg Tryd.f65 3) (.block 0 (.loop b65_1))) (.seq (.seq (reg Tryd.f65 9) (.cond (Operand.tmp 40) (.seq (reg Tryd.f65 10) Code.ret) Code.skip)) (.seq (reg Tryd.f65 11) (.seq (reg Tryd.f65 12) Code.ret))))))
theorem body65 : Tryd.f65.body = some c65 := by kernel_rfl

noncomputable def c66 : Code := (.seq (reg Tryd.f66 0) (.seq (.seq (reg Tryd.f66 1) (.cond (Operand.tmp 5) (.seq (reg Tryd.f66 2) Code.ret) Code.skip)) (.seq (reg Tryd.f66 3) Code.ret)))
theorem body66 : Tryd.f66.body = some c66 := by kernel_rfl

noncomputable def c67 : Code := (.seq (reg Tryd.f67 0) (.seq (.seq (reg Tryd.f67 1) (.cond (Operand.tmp 18) (.seq (reg Tryd.f67 2) Code.ret) Code.skip)) (.seq (reg Tryd.f67 3) Code.ret)))
theorem body67 : Tryd.f67.body = some c67 := by kernel_rfl

noncomputable def b68_1 : Code := (.seq (reg Tryd.f68 3) (.seq (.cond (Operand.tmp 17) Code.skip (Code.exit 0)) (.seq (.block 1 (.seq (reg Tryd.f68 4) (reg Tryd.f68 5))) (reg Tryd.f68 6))))
noncomputable def c68 : Code := (.seq (reg Tryd.f68 0) (.seq (reg Tryd.f68 1) (.seq (.seq (reg Tryd.f68 2) (.block 0 (.loop b68_1))) (.seq (reg Tryd.f68 7) Code.ret))))
theorem body68 : Tryd.f68.body = some c68 := by kernel_rfl

noncomputable def c69 : Code := (.seq (reg Tryd.f69 0) (.seq (reg Tryd.f69 1) (.seq (.seq (reg Tryd.f69 2) (.cond (Operand.tmp 16) (.seq (reg Tryd.f69 3) Code.ret) Code.skip)) (.seq (reg Tryd.f69 4) (.seq (reg Tryd.f69 5) (.seq (reg Tryd.f69 6) (.seq (reg Tryd.f69 7) Code.ret)))))))
theorem body69 : Tryd.f69.body = some c69 := by kernel_rfl

noncomputable def c70 : Code := (.seq (reg Tryd.f70 0) (.seq (reg Tryd.f70 1) Code.ret))
theorem body70 : Tryd.f70.body = some c70 := by kernel_rfl

noncomputable def c71 : Code := (.seq (reg Tryd.f71 0) (.seq (reg Tryd.f71 1) Code.ret))
theorem body71 : Tryd.f71.body = some c71 := by kernel_rfl

noncomputable def b72_1 : Code := (.seq (reg Tryd.f72 7) (.seq (.cond (Operand.tmp 27) Code.skip (Code.exit 0)) (.seq (.block 1 (.seq (reg Tryd.f72 8) (.seq (reg Tryd.f72 9) (.cond (Operand.tmp 40) (.seq (reg Tryd.f72 10) Code.ret) Code.skip)))) (reg Tryd.f72 11))))
noncomputable def b72_2 : Code := (.seq (reg Tryd.f72 14) (.seq (.cond (Operand.tmp 45) Code.skip (Code.exit 2)) (.seq (.block 3 (.seq (reg Tryd.f72 15) (.seq (.seq (reg Tryd.f72 16) (.cond (Operand.tmp 57) (.seq (reg Tryd.f72 17) Code.ret) Code.skip)) (reg Tryd.f72 18)))) (reg Tryd.f72 19))))
noncomputable def b72_3 : Code := (.seq (reg Tryd.f72 23) (.seq (.cond (Operand.tmp 70) Code.skip (Code.exit 4)) (.seq (.block 5 (.seq (reg Tryd.f72 24) (reg Tryd.f72 25))) (reg Tryd.f72 26))))
noncomputable def c72 : Code := (.seq (reg Tryd.f72 0) (.seq (.seq (reg Tryd.f72 1) (.seq (reg Tryd.f72 2) (.cond (Operand.tmp 16) (.seq (reg Tryd.f72 3) Code.ret) Code.skip))) (.seq (.seq (reg Tryd.f72 4) (.cond (Operand.tmp 23) (.seq (reg Tryd.f72 5) Code.ret) Code.skip)) (.seq (.seq (reg Tryd.f72 6) (.block 0 (.loop b72_1))) (.seq (reg Tryd.f72 12) (.seq (.seq (reg Tryd.f72 13) (.block 2 (.loop b72_2))) (.seq (.seq (reg Tryd.f72 20) (.cond (Operand.tmp 65) (.seq (reg Tryd.f72 21) Code.ret) Code.skip)) (.seq (.seq (reg Tryd.f72 22) (.block 4 (.loop b72_3))) (.seq (.seq (reg Tryd.f72 27) (.cond (Operand.tmp 79) (.seq (reg Tryd.f72 28) Code.ret) Code.skip)) (.seq (reg Tryd.f72 29) Code.ret))))))))))
theorem body72 : Tryd.f72.body = some c72 := by kernel_rfl

noncomputable def b73_1 : Code := (.seq (reg Tryd.f73 2) (.seq (.cond (Operand.tmp 9) Code.skip (Code.exit 0)) (.seq (.block 1 (.seq (reg Tryd.f73 3) (.seq (reg Tryd.f73 4) (.cond (Operand.tmp 16) (.seq (reg Tryd.f73 5) Code.ret) Code.skip)))) (reg Tryd.f73 6))))
noncomputable def c73 : Code := (.seq (reg Tryd.f73 0) (.seq (.seq (reg Tryd.f73 1) (.block 0 (.loop b73_1))) (.seq (reg Tryd.f73 7) Code.ret)))
theorem body73 : Tryd.f73.body = some c73 := by kernel_rfl

noncomputable def c74 : Code := (.seq (reg Tryd.f74 0) (.seq (reg Tryd.f74 1) (.seq (reg Tryd.f74 2) Code.ret)))
theorem body74 : Tryd.f74.body = some c74 := by kernel_rfl

noncomputable def b75_1 : Code := (.seq (reg Tryd.f75 4) (.seq (.cond (Operand.tmp 23) Code.skip (Code.exit 0)) (.seq (.block 1 (.seq (reg Tryd.f75 5) (.seq (reg Tryd.f75 6) (.cond (Operand.tmp 34) (.seq (reg Tryd.f75 7) Code.ret) Code.skip)))) (reg Tryd.f75 8))))
noncomputable def b75_3 : Code := (.seq (reg Tryd.f75 15) (.seq (.cond (Operand.tmp 51) Code.skip (Code.exit 4)) (.seq (.block 5 (.seq (reg Tryd.f75 16) (.seq (reg Tryd.f75 17) (.cond (Operand.tmp 56) (.seq (reg Tryd.f75 18) Code.ret) Code.skip)))) (reg Tryd.f75 19))))
noncomputable def b75_2 : Code := (.seq (reg Tryd.f75 10) (.seq (.cond (Operand.tmp 40) Code.skip (Code.exit 2)) (.seq (.block 3 (.seq (reg Tryd.f75 11) (.seq (.seq (reg Tryd.f75 12) (.cond (Operand.tmp 46) (.seq (reg Tryd.f75 13) Code.ret) Code.skip)) (.seq (reg Tryd.f75 14) (.block 4 (.loop b75_3)))))) (reg Tryd.f75 20))))
noncomputable def c75 : Code := (.seq (reg Tryd.f75 0) (.seq (.seq (reg Tryd.f75 1) (.cond (Operand.tmp 18) (.seq (reg Tryd.f75 2) Code.ret) Code.skip)) (.seq (.seq (reg Tryd.f75 3) (.block 0 (.loop b75_1))) (.seq (.seq (reg Tryd.f75 9) (.block 2 (.loop b75_2))) (.seq (reg Tryd.f75 21) Code.ret)))))
theorem body75 : Tryd.f75.body = some c75 := by kernel_rfl

noncomputable def b76_1 : Code := (.seq (reg Tryd.f76 3) (.seq (.cond (Operand.tmp 9) Code.skip (Code.exit 0)) (.seq (.block 1 (.seq (reg Tryd.f76 4) (.seq (.seq (reg Tryd.f76 5) (.cond (Operand.tmp 16) (.seq (reg Tryd.f76 6) Code.ret) Code.skip)) (reg Tryd.f76 7)))) (reg Tryd.f76 8))))
noncomputable def c76 : Code := (.seq (reg Tryd.f76 0) (.seq (reg Tryd.f76 1) (.seq (.seq (reg Tryd.f76 2) (.block 0 (.loop b76_1))) (.seq (reg Tryd.f76 9) Code.ret))))
theorem body76 : Tryd.f76.body = some c76 := by kernel_rfl

noncomputable def b77_1 : Code := (.seq (reg Tryd.f77 2) (.seq (.cond (Operand.tmp 9) Code.skip (Code.exit 0)) (.seq (.block 1 (.seq (reg Tryd.f77 3) (.seq (reg Tryd.f77 4) (.cond (Operand.tmp 16) (.seq (reg Tryd.f77 5) Code.ret) Code.skip)))) (reg Tryd.f77 6))))
noncomputable def c77 : Code := (.seq (reg Tryd.f77 0) (.seq (.seq (reg Tryd.f77 1) (.block 0 (.loop b77_1))) (.seq (reg Tryd.f77 7) Code.ret)))
theorem body77 : Tryd.f77.body = some c77 := by kernel_rfl

noncomputable def c78 : Code := (.seq (reg Tryd.f78 0) (.seq (reg Tryd.f78 1) (.seq (.seq (reg Tryd.f78 2) (.cond (Operand.tmp 14) (.seq (reg Tryd.f78 3) Code.ret) Code.skip)) (.seq (reg Tryd.f78 4) Code.ret))))
theorem body78 : Tryd.f78.body = some c78 := by kernel_rfl

noncomputable def c79 : Code := (.seq (reg Tryd.f79 0) (.seq (reg Tryd.f79 1) Code.ret))
theorem body79 : Tryd.f79.body = some c79 := by kernel_rfl

noncomputable def c80 : Code := (.seq (reg Tryd.f80 0) (.seq (.seq (reg Tryd.f80 1) (.cond (Operand.tmp 18) (.seq (reg Tryd.f80 2) Code.ret) Code.skip)) (.seq (reg Tryd.f80 3) Code.ret)))
theorem body80 : Tryd.f80.body = some c80 := by kernel_rfl

noncomputable def c81 : Code := (.seq (reg Tryd.f81 0) (.seq (reg Tryd.f81 1) Code.ret))
theorem body81 : Tryd.f81.body = some c81 := by kernel_rfl

noncomputable def c82 : Code := (.seq (reg Tryd.f82 0) (.seq (reg Tryd.f82 1) Code.ret))
theorem body82 : Tryd.f82.body = some c82 := by kernel_rfl

noncomputable def c83 : Code := (.seq (reg Tryd.f83 0) (.seq (reg Tryd.f83 1) Code.ret))
theorem body83 : Tryd.f83.body = some c83 := by kernel_rfl

noncomputable def c84 : Code := (.seq (reg Tryd.f84 0) (.seq (reg Tryd.f84 1) Code.ret))
theorem body84 : Tryd.f84.body = some c84 := by kernel_rfl

noncomputable def c85 : Code := (.seq (reg Tryd.f85 0) (.seq (.seq (reg Tryd.f85 1) (.cond (Operand.tmp 4) (.seq (reg Tryd.f85 2) Code.ret) Code.skip)) (.seq (reg Tryd.f85 3) Code.ret)))
theorem body85 : Tryd.f85.body = some c85 := by kernel_rfl

noncomputable def c86 : Code := (.seq (reg Tryd.f86 0) (.seq (.seq (reg Tryd.f86 1) (.cond (Operand.tmp 4) (.seq (reg Tryd.f86 2) Code.ret) Code.skip)) (.seq (reg Tryd.f86 3) Code.ret)))
theorem body86 : Tryd.f86.body = some c86 := by kernel_rfl

noncomputable def b87_1 : Code := (.seq (reg Tryd.f87 3) (.seq (.cond (Operand.tmp 10) Code.skip (Code.exit 0)) (.seq (.block 1 (.seq (reg Tryd.f87 4) (reg Tryd.f87 5))) (reg Tryd.f87 6))))
noncomputable def c87 : Code := (.seq (reg Tryd.f87 0) (.seq (reg Tryd.f87 1) (.seq (.seq (reg Tryd.f87 2) (.block 0 (.loop b87_1))) (.seq (reg Tryd.f87 7) Code.ret))))
theorem body87 : Tryd.f87.body = some c87 := by kernel_rfl

noncomputable def c88 : Code := (.seq (reg Tryd.f88 0) (.seq (.seq (reg Tryd.f88 1) (.cond (Operand.tmp 4) (.seq (reg Tryd.f88 2) Code.ret) Code.skip)) (.seq (reg Tryd.f88 3) Code.ret)))
theorem body88 : Tryd.f88.body = some c88 := by kernel_rfl

noncomputable def c89 : Code := (.seq (reg Tryd.f89 0) (.seq (reg Tryd.f89 1) Code.ret))
theorem body89 : Tryd.f89.body = some c89 := by kernel_rfl

noncomputable def c90 : Code := (.seq (reg Tryd.f90 0) (.seq (.block 0 (.seq (reg Tryd.f90 1) (.cond (Operand.tmp 5) (.seq (reg Tryd.f90 2) Code.ret) (.seq (reg Tryd.f90 3) (.cond (Operand.tmp 12) (.seq (reg Tryd.f90 4) Code.ret) (.seq (reg Tryd.f90 5) (.cond (Operand.tmp 21) (.seq (reg Tryd.f90 6) Code.ret) Code.skip))))))) (.seq (reg Tryd.f90 7) Code.ret)))
theorem body90 : Tryd.f90.body = some c90 := by kernel_rfl

noncomputable def c91 : Code := (.seq (reg Tryd.f91 0) (.seq (reg Tryd.f91 1) Code.ret))
theorem body91 : Tryd.f91.body = some c91 := by kernel_rfl

noncomputable def c92 : Code := (.seq (reg Tryd.f92 0) (.seq (reg Tryd.f92 1) Code.ret))
theorem body92 : Tryd.f92.body = some c92 := by kernel_rfl

noncomputable def c93 : Code := (.seq (reg Tryd.f93 0) (.seq (reg Tryd.f93 1) Code.ret))
theorem body93 : Tryd.f93.body = some c93 := by kernel_rfl

noncomputable def b94_1 : Code := (.seq (reg Tryd.f94 7) (.seq (.cond (Operand.tmp 27) Code.skip (Code.exit 0)) (.seq (.block 1 (.seq (reg Tryd.f94 8) (.seq (reg Tryd.f94 9) (.cond (Operand.tmp 39) (.seq (reg Tryd.f94 10) Code.ret) Code.skip)))) (reg Tryd.f94 11))))
noncomputable def b94_2 : Code := (.seq (reg Tryd.f94 16) (.seq (.cond (Operand.tmp 52) Code.skip (Code.exit 2)) (.seq (.block 3 (.seq (reg Tryd.f94 17) (reg Tryd.f94 18))) (reg Tryd.f94 19))))
noncomputable def c94 : Code := (.seq (reg Tryd.f94 0) (.seq (.seq (reg Tryd.f94 1) (.seq (reg Tryd.f94 2) (.cond (Operand.tmp 16) (.seq (reg Tryd.f94 3) Code.ret) Code.skip))) (.seq (.seq (reg Tryd.f94 4) (.cond (Operand.tmp 23) (.seq (reg Tryd.f94 5) Code.ret) Code.skip)) (.seq (.seq (reg Tryd.f94 6) (.block 0 (.loop b94_1))) (.seq (reg Tryd.f94 12) (.seq (.seq (reg Tryd.f94 13) (.cond (Operand.tmp 47) (.seq (reg Tryd.f94 14) Code.ret) Code.skip)) (.seq (.seq (reg Tryd.f94 15) (.block 2 (.loop b94_2))) (.seq (.seq (reg Tryd.f94 20) (.cond (Operand.tmp 61) (.seq (reg Tryd.f94 21) Code.ret) Code.skip)) (.seq (reg Tryd.f94 22) Code.ret)))))))))
theorem body94 : Tryd.f94.body = some c94 := by kernel_rfl

noncomputable def b95_1 : Code := (.seq (reg Tryd.f95 4) (.seq (.cond (Operand.tmp 28) Code.skip (Code.exit 0)) (.seq (.block 1 (.seq (reg Tryd.f95 5) (.seq (reg Tryd.f95 6) (reg Tryd.f95 7)))) (reg Tryd.f95 8))))
noncomputable def b95_2 : Code := (.seq (reg Tryd.f95 11) (.seq (.cond (Operand.tmp 53) Code.skip (Code.exit 2)) (.seq (.block 3 (.seq (reg Tryd.f95 12) (.seq (reg Tryd.f95 13) (reg Tryd.f95 14)))) (reg Tryd.f95 15))))
noncomputable def b95_4 : Code := (.seq (reg Tryd.f95 24) (.seq (.cond (Operand.tmp 94) Code.skip (Code.exit 6)) (.seq (.block 7 (.seq (reg Tryd.f95 25) (reg Tryd.f95 26))) (reg Tryd.f95 27))))
noncomputable def b95_3 : Code := (.seq (reg Tryd.f95 20) (.seq (.cond (Operand.tmp 80) Code.skip (Code.exit 4)) (.seq (.block 5 (.seq (reg Tryd.f95 21) (.seq (reg Tryd.f95 22) (.seq (reg Tryd.f95 23) (.block 6 (.loop b95_4)))))) (reg Tryd.f95 28))))
noncomputable def c95 : Code := (.seq (reg Tryd.f95 0) (.seq (reg Tryd.f95 1) (.seq (reg Tryd.f95 2) (.seq (.seq (reg Tryd.f95 3) (.block 0 (.loop b95_1))) (.seq (reg Tryd.f95 9) (.seq (.seq (reg Tryd.f95 10) (.block 2 (.loop b95_2))) (.seq (reg Tryd.f95 16) (.seq (.seq (reg Tryd.f95 17) (.cond (Operand.tmp 74) (.seq (reg Tryd.f95 18) Code.ret) Code.skip)) (.seq (.seq (reg Tryd.f95 19) (.block 4 (.loop b95_3))) (.seq (reg Tryd.f95 29) Code.ret))))))))))
theorem body95 : Tryd.f95.body = some c95 := by kernel_rfl

noncomputable def c96 : Code := (.seq (reg Tryd.f96 0) (.seq (.seq (reg Tryd.f96 1) (.cond (Operand.tmp 4) (.seq (reg Tryd.f96 2) Code.ret) Code.skip)) (.seq (reg Tryd.f96 3) Code.ret)))
theorem body96 : Tryd.f96.body = some c96 := by kernel_rfl

noncomputable def b97_1 : Code := (.seq (.seq (reg Tryd.f97 4) (.cond (Operand.tmp 22) Code.skip (Code.exit 0))) (.seq (.block 1 (.seq (reg Tryd.f97 6) (.seq (reg Tryd.f97 7) (reg Tryd.f97 8)))) (reg Tryd.f97 5)))
noncomputable def b97_2 : Code := (.seq (reg Tryd.f97 11) (.seq (.cond (Operand.tmp 35) Code.skip (Code.exit 2)) (.seq (.block 3 (.seq (reg Tryd.f97 12) (reg Tryd.f97 13))) (reg Tryd.f97 14))))
noncomputable def c97 : Code := (.seq (reg Tryd.f97 0) (.seq (reg Tryd.f97 1) (.seq (reg Tryd.f97 2) (.seq (.seq (reg Tryd.f97 3) (.block 0 (.loop b97_1))) (.seq (reg Tryd.f97 9) (.seq (.seq (reg Tryd.f97 10) (.block 2 (.loop b97_2))) (.seq (reg Tryd.f97 15) Code.ret)))))))
theorem body97 : Tryd.f97.body = some c97 := by kernel_rfl

noncomputable def c98 : Code := (.seq (reg Tryd.f98 0) (.seq (.seq (reg Tryd.f98 1) (.cond (Operand.tmp 8) (.seq (reg Tryd.f98 2) Code.ret) Code.skip)) (.seq (reg Tryd.f98 3) Code.ret)))
theorem body98 : Tryd.f98.body = some c98 := by kernel_rfl

noncomputable def c99 : Code := (.seq (reg Tryd.f99 0) (.seq (reg Tryd.f99 1) (.seq (reg Tryd.f99 2) Code.ret)))
theorem body99 : Tryd.f99.body = some c99 := by kernel_rfl

noncomputable def c100 : Code := (.seq (reg Tryd.f100 0) (.seq (.seq (reg Tryd.f100 1) (.cond (Operand.tmp 4) (.seq (reg Tryd.f100 2) Code.ret) Code.skip)) (.seq (reg Tryd.f100 3) Code.ret)))
theorem body100 : Tryd.f100.body = some c100 := by kernel_rfl

noncomputable def c101 : Code := (.seq (reg Tryd.f101 0) (.seq (reg Tryd.f101 1) (.seq (reg Tryd.f101 2) Code.ret)))
theorem body101 : Tryd.f101.body = some c101 := by kernel_rfl

noncomputable def b102_1 : Code := (.seq (reg Tryd.f102 3) (.seq (.cond (Operand.tmp 12) Code.skip (Code.exit 0)) (.seq (.block 1 (.seq (reg Tryd.f102 4) (reg Tryd.f102 5))) (reg Tryd.f102 6))))
noncomputable def c102 : Code := (.seq (reg Tryd.f102 0) (.seq (reg Tryd.f102 1) (.seq (.seq (reg Tryd.f102 2) (.block 0 (.loop b102_1))) (.seq (reg Tryd.f102 7) Code.ret))))
theorem body102 : Tryd.f102.body = some c102 := by kernel_rfl

noncomputable def c103 : Code := (.seq (reg Tryd.f103 0) (.seq (reg Tryd.f103 1) Code.ret))
theorem body103 : Tryd.f103.body = some c103 := by kernel_rfl

noncomputable def c104 : Code := (.seq (reg Tryd.f104 0) (.seq (reg Tryd.f104 1) Code.ret))
theorem body104 : Tryd.f104.body = some c104 := by kernel_rfl

noncomputable def b105_1 : Code := (.seq (reg Tryd.f105 3) (.seq (.cond (Operand.tmp 10) Code.skip (Code.exit 0)) (.seq (.block 1 (.seq (reg Tryd.f105 4) (.seq (.seq (reg Tryd.f105 5) (.cond (Operand.tmp 24) (.seq (reg Tryd.f105 6) Code.ret) Code.skip)) (reg Tryd.f105 7)))) (reg Tryd.f105 8))))
noncomputable def c105 : Code := (.seq (reg Tryd.f105 0) (.seq (reg Tryd.f105 1) (.seq (.seq (reg Tryd.f105 2) (.block 0 (.loop b105_1))) (.seq (reg Tryd.f105 9) Code.ret))))
theorem body105 : Tryd.f105.body = some c105 := by kernel_rfl

noncomputable def c106 : Code := (.seq (reg Tryd.f106 0) (.seq (reg Tryd.f106 1) Code.ret))
theorem body106 : Tryd.f106.body = some c106 := by kernel_rfl

noncomputable def c107 : Code := (.seq (reg Tryd.f107 0) (.seq (.block 0 (.seq (reg Tryd.f107 1) (.cond (Operand.tmp 5) (.seq (reg Tryd.f107 2) Code.ret) (.seq (reg Tryd.f107 3) (.cond (Operand.tmp 13) (.seq (reg Tryd.f107 4) Code.ret) (.seq (reg Tryd.f107 5) (.cond (Operand.tmp 22) (.seq (reg Tryd.f107 6) Code.ret) Code.skip))))))) (.seq (reg Tryd.f107 7) Code.ret)))
theorem body107 : Tryd.f107.body = some c107 := by kernel_rfl

noncomputable def c108 : Code := (.seq (reg Tryd.f108 0) (.seq (reg Tryd.f108 1) Code.ret))
theorem body108 : Tryd.f108.body = some c108 := by kernel_rfl

noncomputable def c109 : Code := (.seq (reg Tryd.f109 0) (.seq (reg Tryd.f109 1) Code.ret))
theorem body109 : Tryd.f109.body = some c109 := by kernel_rfl

noncomputable def c110 : Code := (.seq (reg Tryd.f110 0) (.seq (reg Tryd.f110 1) Code.ret))
theorem body110 : Tryd.f110.body = some c110 := by kernel_rfl

noncomputable def b111_1 : Code := (.seq (.seq (reg Tryd.f111 2) (.cond (Operand.tmp 13) Code.skip (Code.exit 0))) (.block 1 (reg Tryd.f111 3)))
noncomputable def b111_2 : Code := (.seq (.seq (reg Tryd.f111 5) (.cond (Operand.tmp 18) Code.skip (Code.exit 2))) (.seq (.block 3 (reg Tryd.f111 7)) (reg Tryd.f111 6)))
noncomputable def c111 : Code := (.seq (reg Tryd.f111 0) (.seq (reg Tryd.f111 1) (.seq (.block 0 (.loop b111_1)) (.seq (.seq (reg Tryd.f111 4) (.block 2 (.loop b111_2))) (.seq (reg Tryd.f111 8) Code.ret)))))
theorem body111 : Tryd.f111.body = some c111 := by kernel_rfl

noncomputable def c112 : Code := (.seq (reg Tryd.f112 0) (.seq (reg Tryd.f112 1) Code.ret))
theorem body112 : Tryd.f112.body = some c112 := by kernel_rfl

noncomputable def b113_1 : Code := (.seq (.seq (reg Tryd.f113 4) (.cond (Operand.tmp 38) Code.skip (Code.exit 0))) (.seq (.block 1 (.seq (reg Tryd.f113 6) (.seq (reg Tryd.f113 7) (reg Tryd.f113 8)))) (reg Tryd.f113 5)))
noncomputable def c113 : Code := (.seq (reg Tryd.f113 0) (.seq (reg Tryd.f113 1) (.seq (reg Tryd.f113 2) (.seq (.seq (reg Tryd.f113 3) (.block 0 (.loop b113_1))) (.seq (reg Tryd.f113 9) Code.ret)))))
theorem body113 : Tryd.f113.body = some c113 := by kernel_rfl

noncomputable def b114_1 : Code := (.seq (reg Tryd.f114 4) (.seq (.cond (Operand.tmp 20) Code.skip (Code.exit 0)) (.seq (.block 1 (.seq (reg Tryd.f114 5) (reg Tryd.f114 6))) (reg Tryd.f114 7))))
noncomputable def b114_2 : Code := (.seq (reg Tryd.f114 10) (.seq (.cond (Operand.tmp 32) Code.skip (Code.exit 2)) (.seq (.block 3 (.seq (reg Tryd.f114 11) (reg Tryd.f114 12))) (reg Tryd.f114 13))))
noncomputable def c114 : Code := (.seq (reg Tryd.f114 0) (.seq (reg Tryd.f114 1) (.seq (reg Tryd.f114 2) (.seq (.seq (reg Tryd.f114 3) (.block 0 (.loop b114_1))) (.seq (reg Tryd.f114 8) (.seq (.seq (reg Tryd.f114 9) (.block 2 (.loop b114_2))) (.seq (reg Tryd.f114 14) Code.ret)))))))
theorem body114 : Tryd.f114.body = some c114 := by kernel_rfl

noncomputable def c115 : Code := (.seq (reg Tryd.f115 0) (.seq (reg Tryd.f115 1) (.seq (reg Tryd.f115 2) (.seq (reg Tryd.f115 3) Code.ret))))
theorem body115 : Tryd.f115.body = some c115 := by kernel_rfl

noncomputable def b116_1 : Code := (.seq (reg Tryd.f116 3) (.seq (.cond (Operand.tmp 11) Code.skip (Code.exit 0)) (.seq (.block 1 (.seq (reg Tryd.f116 4) (reg Tryd.f116 5))) (reg Tryd.f116 6))))
noncomputable def c116 : Code := (.seq (reg Tryd.f116 0) (.seq (reg Tryd.f116 1) (.seq (.seq (reg Tryd.f116 2) (.block 0 (.loop b116_1))) (.seq (reg Tryd.f116 7) Code.ret))))
theorem body116 : Tryd.f116.body = some c116 := by kernel_rfl

noncomputable def c117 : Code := (.seq (reg Tryd.f117 0) (.seq (reg Tryd.f117 1) Code.ret))
theorem body117 : Tryd.f117.body = some c117 := by kernel_rfl

noncomputable def c118 : Code := (.seq (reg Tryd.f118 0) (.seq (reg Tryd.f118 1) Code.ret))
theorem body118 : Tryd.f118.body = some c118 := by kernel_rfl

noncomputable def b119_1 : Code := (.seq (.seq (reg Tryd.f119 3) (.cond (Operand.tmp 9) Code.skip (Code.exit 0))) (.seq (.block 1 (reg Tryd.f119 5)) (reg Tryd.f119 4)))
noncomputable def b119_2 : Code := (.seq (.seq (reg Tryd.f119 7) (.cond (Operand.tmp 44) Code.skip (Code.exit 2))) (.seq (.block 3 (.seq (reg Tryd.f119 9) (.seq (reg Tryd.f119 10) (reg Tryd.f119 11)))) (reg Tryd.f119 8)))
noncomputable def c119 : Code := (.seq (reg Tryd.f119 0) (.seq (reg Tryd.f119 1) (.seq (.seq (reg Tryd.f119 2) (.block 0 (.loop b119_1))) (.seq (.seq (reg Tryd.f119 6) (.block 2 (.loop b119_2))) (.seq (reg Tryd.f119 12) Code.ret)))))
theorem body119 : Tryd.f119.body = some c119 := by kernel_rfl

noncomputable def c120 : Code := (.seq (reg Tryd.f120 0) (.seq (reg Tryd.f120 1) Code.ret))
theorem body120 : Tryd.f120.body = some c120 := by kernel_rfl

noncomputable def c121 : Code := (.seq (reg Tryd.f121 0) (.seq (reg Tryd.f121 1) Code.ret))
theorem body121 : Tryd.f121.body = some c121 := by kernel_rfl

noncomputable def b122_1 : Code := (.seq (reg Tryd.f122 3) (.seq (.cond (Operand.tmp 9) Code.skip (Code.exit 0)) (.seq (.block 1 (.seq (reg Tryd.f122 4) (reg Tryd.f122 5))) (reg Tryd.f122 6))))
noncomputable def c122 : Code := (.seq (reg Tryd.f122 0) (.seq (reg Tryd.f122 1) (.seq (.seq (reg Tryd.f122 2) (.block 0 (.loop b122_1))) (.seq (reg Tryd.f122 7) Code.ret))))
theorem body122 : Tryd.f122.body = some c122 := by kernel_rfl

noncomputable def b123_1 : Code := (.seq (reg Tryd.f123 5) (.seq (.cond (Operand.tmp 19) Code.skip (Code.exit 0)) (.seq (.block 1 (.seq (reg Tryd.f123 6) (reg Tryd.f123 7))) (reg Tryd.f123 8))))
noncomputable def c123 : Code := (.seq (reg Tryd.f123 0) (.seq (reg Tryd.f123 1) (.seq (reg Tryd.f123 2) (.seq (reg Tryd.f123 3) (.seq (.seq (reg Tryd.f123 4) (.block 0 (.loop b123_1))) (.seq (reg Tryd.f123 9) Code.ret))))))
theorem body123 : Tryd.f123.body = some c123 := by kernel_rfl

noncomputable def b124_1 : Code := (.seq (reg Tryd.f124 5) (.seq (.cond (Operand.tmp 36) Code.skip (Code.exit 0)) (.seq (.block 1 (.seq (reg Tryd.f124 6) (.seq (reg Tryd.f124 7) (.seq (reg Tryd.f124 8) (reg Tryd.f124 9))))) (reg Tryd.f124 10))))
noncomputable def c124 : Code := (.seq (reg Tryd.f124 0) (.seq (reg Tryd.f124 1) (.seq (reg Tryd.f124 2) (.seq (reg Tryd.f124 3) (.seq (.seq (reg Tryd.f124 4) (.block 0 (.loop b124_1))) (.seq (reg Tryd.f124 11) Code.ret))))))
theorem body124 : Tryd.f124.body = some c124 := by kernel_rfl

noncomputable def c125 : Code := (.seq (reg Tryd.f125 0) (.seq (reg Tryd.f125 1) (.seq (reg Tryd.f125 2) Code.ret)))
theorem body125 : Tryd.f125.body = some c125 := by kernel_rfl

noncomputable def b126_2 : Code := (.seq (reg Tryd.f126 6) (.seq (.cond (Operand.tmp 13) Code.skip (Code.exit 2)) (.seq (.block 3 (.seq (reg Tryd.f126 7) (reg Tryd.f126 8))) (reg Tryd.f126 9))))
noncomputable def b126_1 : Code := (.seq (reg Tryd.f126 3) (.seq (.cond (Operand.tmp 10) Code.skip (Code.exit 0)) (.seq (.block 1 (.seq (reg Tryd.f126 4) (.seq (reg Tryd.f126 5) (.block 2 (.loop b126_2))))) (reg Tryd.f126 10))))
noncomputable def b126_3 : Code := (.seq (.seq (reg Tryd.f126 12) (.cond (Operand.tmp 32) Code.skip (Code.exit 4))) (.seq (.block 5 (.seq (reg Tryd.f126 14) (.seq (reg Tryd.f126 15) (reg Tryd.f126 16)))) (reg Tryd.f126 13)))
noncomputable def c126 : Code := (.seq (reg Tryd.f126 0) (.seq (reg Tryd.f126 1) (.seq (.seq (reg Tryd.f126 2) (.block 0 (.loop b126_1))) (.seq (.seq (reg Tryd.f126 11) (.block 4 (.loop b126_3))) (.seq (reg Tryd.f126 17) Code.ret)))))
theorem body126 : Tryd.f126.body = some c126 := by kernel_rfl

noncomputable def c127 : Code := (.seq (reg Tryd.f127 0) (.seq (reg Tryd.f127 1) Code.ret))
theorem body127 : Tryd.f127.body = some c127 := by kernel_rfl

noncomputable def c148 : Code := (.seq (reg Tryd.f148 0) (reg Tryd.f148 1))
theorem body148 : Tryd.f148.body = some c148 := by kernel_rfl

end Go.Proofs.YtconfbgcjkjnkaaDoor
