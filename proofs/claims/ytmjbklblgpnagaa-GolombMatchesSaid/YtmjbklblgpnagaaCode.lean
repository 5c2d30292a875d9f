import Derived.Test.YtmjbklblgpnagaaTt
namespace Go.Proofs.Ytmjbklblgpnagaa
open Go.Av
set_option maxRecDepth 1000000
noncomputable def c3 : Code := (.seq (reg Try.f3 0) (.seq (.seq (reg Try.f3 1) (.cond (Operand.tmp 10) (.seq (reg Try.f3 2) Code.ret) Code.skip)) (.seq (.seq (reg Try.f3 3) (.cond (Operand.tmp 13) (.seq (reg Try.f3 4) Code.ret) Code.skip)) (.seq (reg Try.f3 5) (.seq (reg Try.f3 6) (.seq (reg Try.f3 7) Code.ret))))))
theorem body3 : Try.f3.body = some c3 := by kernel_rfl
noncomputable def c4 : Code := (.seq (reg Try.f4 0) (.seq (.seq (reg Try.f4 1) (.cond (Operand.tmp 14) (.seq (reg Try.f4 2) Code.ret) Code.skip)) (.seq (.seq (reg Try.f4 3) (.cond (Operand.tmp 17) (.seq (reg Try.f4 4) Code.ret) Code.skip)) (.seq (reg Try.f4 5) (.seq (reg Try.f4 6) (.seq (reg Try.f4 7) Code.ret))))))
theorem body4 : Try.f4.body = some c4 := by kernel_rfl
noncomputable def c5 : Code := (.seq (reg Try.f5 0) (.seq (.seq (reg Try.f5 1) (.cond (Operand.tmp 19) (.seq (reg Try.f5 2) Code.ret) Code.skip)) (.seq (.seq (reg Try.f5 3) (.cond (Operand.tmp 27) (.seq (reg Try.f5 4) Code.ret) Code.skip)) (.seq (reg Try.f5 5) (.seq (reg Try.f5 6) (.seq (reg Try.f5 7) (.seq (reg Try.f5 8) (.seq (reg Try.f5 9) Code.ret))))))))
theorem body5 : Try.f5.body = some c5 := by kernel_rfl
noncomputable def c6 : Code := (.seq (reg Try.f6 0) (.seq (.seq (reg Try.f6 1) (.cond (Operand.tmp 14) (.seq (reg Try.f6 2) Code.ret) Code.skip)) (.seq (.seq (reg Try.f6 3) (.cond (Operand.tmp 17) (.seq (reg Try.f6 4) Code.ret) Code.skip)) (.seq (reg Try.f6 5) (.seq (reg Try.f6 6) (.seq (reg Try.f6 7) Code.ret))))))
theorem body6 : Try.f6.body = some c6 := by kernel_rfl
noncomputable def c7 : Code := (.seq (reg Try.f7 0) (.seq (.seq (reg Try.f7 1) (.cond (Operand.tmp 10) (.seq (reg Try.f7 2) Code.ret) Code.skip)) (.seq (.seq (reg Try.f7 3) (.cond (Operand.tmp 14) (.seq (reg Try.f7 4) Code.ret) Code.skip)) (.seq (reg Try.f7 5) (.seq (reg Try.f7 6) (.seq (reg Try.f7 7) Code.ret))))))
theorem body7 : Try.f7.body = some c7 := by kernel_rfl
noncomputable def b8_1 : Code := (.seq (reg Try.f8 8) (.seq (.cond (Operand.tmp 33) Code.skip (Code.exit 0)) (.seq (.block 1 (.seq (reg Try.f8 9) (.seq (reg Try.f8 10) (.seq (.seq (reg Try.f8 11) (.cond (Operand.tmp 41) (reg Try.f8 12) Code.skip)) (reg Try.f8 13))))) (reg Try.f8 14))))
noncomputable def c8 : Code := (.seq (reg Try.f8 0) (.seq (.seq (reg Try.f8 1) (.cond (Operand.tmp 17) (.seq (reg Try.f8 2) Code.ret) Code.skip)) (.seq (.seq (reg Try.f8 3) (.cond (Operand.tmp 26) (.seq (reg Try.f8 4) Code.ret) Code.skip)) (.seq (reg Try.f8 5) (.seq (reg Try.f8 6) (.seq (.seq (reg Try.f8 7) (.block 0 (.loop b8_1))) (.seq (reg Try.f8 15) (.seq (reg Try.f8 16) (.seq (.seq (reg Try.f8 17) (.cond (Operand.tmp 77) (.seq (reg Try.f8 18) Code.ret) Code.skip)) (.seq (reg Try.f8 19) (.seq (.seq (reg Try.f8 20) (.cond (Operand.tmp 85) (.seq (reg Try.f8 21) Code.ret) Code.skip)) (.seq (reg Try.f8 22) (.seq (reg Try.f8 23) Code.ret)))))))))))))
theorem body8 : Try.f8.body = some c8 := by kernel_rfl
noncomputable def c9 : Code := (.seq (reg Try.f9 0) (.seq (.seq (reg Try.f9 1) (.cond (Operand.tmp 20) (.seq (reg Try.f9 2) Code.ret) Code.skip)) (.seq (.seq (reg Try.f9 3) (.cond (Operand.tmp 34) (.seq (reg Try.f9 4) Code.ret) Code.skip)) (.seq (reg Try.f9 5) (.seq (reg Try.f9 6) (.seq (.seq (reg Try.f9 7) (.cond (Operand.tmp 60) (.seq (reg Try.f9 8) Code.ret) Code.skip)) (.seq (reg Try.f9 9) (.seq (.seq (reg Try.f9 10) (.cond (Operand.tmp 70) (.seq (reg Try.f9 11) Code.ret) Code.skip)) (.seq (reg Try.f9 12) (.seq (reg Try.f9 13) (.seq (reg Try.f9 14) Code.ret)))))))))))
theorem body9 : Try.f9.body = some c9 := by kernel_rfl
noncomputable def b10_2 : Code := (.seq (reg Try.f10 13) (.seq (.cond (Operand.tmp 70) Code.skip (Code.exit 2)) (.seq (.block 3 (.seq (reg Try.f10 14) (.seq (reg Try.f10 15) (.seq (reg Try.f10 16) (.cond (Operand.tmp 87) (.seq (reg Try.f10 17) Code.ret) Code.skip))))) (reg Try.f10 18))))
noncomputable def b10_1 : Code := (.seq (reg Try.f10 10) (.seq (.cond (Operand.tmp 52) Code.skip (Code.exit 0)) (.seq (.block 1 (.seq (reg Try.f10 11) (.seq (reg Try.f10 12) (.block 2 (.loop b10_2))))) (reg Try.f10 19))))
noncomputable def c10 : Code := (.seq (reg Try.f10 0) (.seq (.seq (reg Try.f10 1) (.cond (Operand.tmp 21) (.seq (reg Try.f10 2) Code.ret) Code.skip)) (.seq (.seq (reg Try.f10 3) (.cond (Operand.tmp 29) (.seq (reg Try.f10 4) Code.ret) Code.skip)) (.seq (reg Try.f10 5) (.seq (reg Try.f10 6) (.seq (.seq (reg Try.f10 7) (.cond (Operand.tmp 46) (.seq (reg Try.f10 8) Code.ret) Code.skip)) (.seq (.seq (reg Try.f10 9) (.block 0 (.loop b10_1))) (.seq (reg Try.f10 20) Code.ret))))))))
theorem body10 : Try.f10.body = some c10 := by kernel_rfl
noncomputable def b11_1 : Code := (.seq (reg Try.f11 12) (.seq (.cond (Operand.tmp 62) Code.skip (Code.exit 0)) (.seq (.block 1 (.seq (reg Try.f11 13) (.seq (reg Try.f11 14) (.seq (.seq (reg Try.f11 15) (.cond (Operand.tmp 78) (.seq (reg Try.f11 16) Code.ret) Code.skip)) (reg Try.f11 17))))) (reg Try.f11 18))))
noncomputable def c11 : Code := (.seq (reg Try.f11 0) (.seq (.seq (reg Try.f11 1) (.cond (Operand.tmp 22) (.seq (reg Try.f11 2) Code.ret) Code.skip)) (.seq (.seq (reg Try.f11 3) (.cond (Operand.tmp 30) (.seq (reg Try.f11 4) Code.ret) Code.skip)) (.seq (reg Try.f11 5) (.seq (reg Try.f11 6) (.seq (.seq (reg Try.f11 7) (.cond (Operand.tmp 47) (.seq (reg Try.f11 8) Code.ret) Code.skip)) (.seq (reg Try.f11 9) (.seq (reg Try.f11 10) (.seq (.seq (reg Try.f11 11) (.block 0 (.loop b11_1))) (.seq (reg Try.f11 19) Code.ret))))))))))
theorem body11 : Try.f11.body = some c11 := by kernel_rfl
noncomputable def c12 : Code := (.seq (reg Try.f12 0) (.seq (reg Try.f12 1) (.seq (reg Try.f12 2) (.seq (reg Try.f12 3) Code.ret))))
theorem body12 : Try.f12.body = some c12 := by kernel_rfl
noncomputable def b13_1 : Code := (.seq (reg Try.f13 10) (.seq (.cond (Operand.tmp 30) Code.skip (Code.exit 0)) (.seq (.block 1 (.seq (reg Try.f13 11) (.seq (reg Try.f13 12) (.seq (.seq (reg Try.f13 13) (.cond (Operand.tmp 43) (.seq (reg Try.f13 14) Code.ret) Code.skip)) (reg Try.f13 15))))) (reg Try.f13 16))))
noncomputable def c13 : Code := (.seq (reg Try.f13 0) (.seq (.seq (reg Try.f13 1) (.cond (Operand.tmp 14) (.seq (reg Try.f13 2) Code.ret) Code.skip)) (.seq (.seq (reg Try.f13 3) (.cond (Operand.tmp 21) (.seq (reg Try.f13 4) Code.ret) Code.skip)) (.seq (.seq (reg Try.f13 5) (.cond (Operand.tmp 25) (.seq (reg Try.f13 6) Code.ret) Code.skip)) (.seq (reg Try.f13 7) (.seq (reg Try.f13 8) (.seq (.seq (reg Try.f13 9) (.block 0 (.loop b13_1))) (.seq (reg Try.f13 17) Code.ret))))))))
theorem body13 : Try.f13.body = some c13 := by kernel_rfl
noncomputable def b14_1 : Code := (.seq (.seq (reg Try.f14 6) (.cond (Operand.tmp 27) Code.skip (Code.exit 0))) (.seq (.block 1 (.seq (reg Try.f14 8) (.cond (Operand.tmp 39) (.seq (reg Try.f14 9) Code.ret) Code.skip))) (reg Try.f14 7)))
noncomputable def b14_2 : Code := (.seq (reg Try.f14 13) (.seq (.cond (Operand.tmp 44) Code.skip (Code.exit 2)) (.seq (.block 3 (.seq (reg Try.f14 14) (.seq (reg Try.f14 15) (.seq (.seq (reg Try.f14 16) (.cond (Operand.tmp 57) (.seq (reg Try.f14 17) Code.ret) Code.skip)) (reg Try.f14 18))))) (reg Try.f14 19))))
noncomputable def c14 : Code := (.seq (reg Try.f14 0) (.seq (.seq (reg Try.f14 1) (.cond (Operand.tmp 15) (.seq (reg Try.f14 2) Code.ret) Code.skip)) (.seq (.seq (reg Try.f14 3) (.cond (Operand.tmp 22) (.seq (reg Try.f14 4) Code.ret) Code.skip)) (.seq (.seq (reg Try.f14 5) (.block 0 (.loop b14_1))) (.seq (reg Try.f14 10) (.seq (reg Try.f14 11) (.seq (.seq (reg Try.f14 12) (.block 2 (.loop b14_2))) (.seq (reg Try.f14 20) Code.ret))))))))
theorem body14 : Try.f14.body = some c14 := by kernel_rfl
noncomputable def c15 : Code := (.seq (reg Try.f15 0) (.seq (reg Try.f15 1) Code.ret))
theorem body15 : Try.f15.body = some c15 := by kernel_rfl
noncomputable def b16_1 : Code := (.seq (reg Try.f16 4) (.seq (.cond (Operand.tmp 16) Code.skip (Code.exit 0)) (.seq (.block 1 (.seq (reg Try.f16 5) (.seq (reg Try.f16 6) (.cond (Operand.tmp 22) (.seq (reg Try.f16 7) Code.ret) Code.skip)))) (reg Try.f16 8))))
noncomputable def c16 : Code := (.seq (reg Try.f16 0) (.seq (.seq (reg Try.f16 1) (.cond (Operand.tmp 12) (.seq (reg Try.f16 2) Code.ret) Code.skip)) (.seq (.seq (reg Try.f16 3) (.block 0 (.loop b16_1))) (.seq (reg Try.f16 9) Code.ret))))
theorem body16 : Try.f16.body = some c16 := by kernel_rfl
noncomputable def b17_1 : Code := (.seq (reg Try.f17 8) (.seq (.cond (Operand.tmp 37) Code.skip (Code.exit 0)) (.seq (.block 1 (.seq (reg Try.f17 9) (.seq (reg Try.f17 10) (.cond (Operand.tmp 44) (.seq (reg Try.f17 11) (reg Try.f17 12)) Code.skip)))) (reg Try.f17 13))))
noncomputable def c17 : Code := (.seq (reg Try.f17 0) (.seq (.seq (reg Try.f17 1) (.cond (Operand.tmp 16) (.seq (reg Try.f17 2) Code.ret) Code.skip)) (.seq (.seq (reg Try.f17 3) (.cond (Operand.tmp 31) (.seq (reg Try.f17 4) Code.ret) Code.skip)) (.seq (reg Try.f17 5) (.seq (reg Try.f17 6) (.seq (.seq (reg Try.f17 7) (.block 0 (.loop b17_1))) (.seq (reg Try.f17 14) Code.ret)))))))
theorem body17 : Try.f17.body = some c17 := by kernel_rfl
noncomputable def b18_1 : Code := (.seq (reg Try.f18 8) (.seq (.cond (Operand.tmp 38) Code.skip (Code.exit 0)) (.seq (.block 1 (.seq (reg Try.f18 9) (reg Try.f18 10))) (reg Try.f18 11))))
noncomputable def c18 : Code := (.seq (reg Try.f18 0) (.seq (.seq (reg Try.f18 1) (.cond (Operand.tmp 16) (.seq (reg Try.f18 2) Code.ret) Code.skip)) (.seq (.seq (reg Try.f18 3) (.cond (Operand.tmp 31) (.seq (reg Try.f18 4) Code.ret) Code.skip)) (.seq (reg Try.f18 5) (.seq (reg Try.f18 6) (.seq (.seq (reg Try.f18 7) (.block 0 (.loop b18_1))) (.seq (reg Try.f18 12) Code.ret)))))))
theorem body18 : Try.f18.body = some c18 := by kernel_rfl
noncomputable def c19 : Code := (.seq (reg Try.f19 0) (.seq (.seq (reg Try.f19 1) (.cond (Operand.tmp 12) (.seq (reg Try.f19 2) Code.ret) Code.skip)) (.seq (.seq (reg Try.f19 3) (.cond (Operand.tmp 26) (.seq (reg Try.f19 4) Code.ret) Code.skip)) (.seq (reg Try.f19 5) Code.ret))))
theorem body19 : Try.f19.body = some c19 := by kernel_rfl
noncomputable def b20_1 : Code := (.seq (reg Try.f20 7) (.seq (.cond (Operand.tmp 36) Code.skip (Code.exit 0)) (.seq (.block 1 (.seq (reg Try.f20 8) (reg Try.f20 9))) (reg Try.f20 10))))
noncomputable def b20_2 : Code := (.seq (reg Try.f20 12) (.seq (.cond (Operand.tmp 52) Code.skip (Code.exit 2)) (.seq (.block 3 (.seq (reg Try.f20 13) (.seq (reg Try.f20 14) (.cond (Operand.tmp 67) (reg Try.f20 15) Code.skip)))) (reg Try.f20 16))))
noncomputable def c20 : Code := (.seq (reg Try.f20 0) (.seq (.seq (reg Try.f20 1) (.cond (Operand.tmp 18) (.seq (reg Try.f20 2) Code.ret) Code.skip)) (.seq (.seq (reg Try.f20 3) (.cond (Operand.tmp 32) (.seq (reg Try.f20 4) Code.ret) Code.skip)) (.seq (reg Try.f20 5) (.seq (.seq (reg Try.f20 6) (.block 0 (.loop b20_1))) (.seq (.seq (reg Try.f20 11) (.block 2 (.loop b20_2))) (.seq (reg Try.f20 17) Code.ret)))))))
theorem body20 : Try.f20.body = some c20 := by kernel_rfl
noncomputable def b21_1 : Code := (.seq (reg Try.f21 4) (.seq (.cond (Operand.tmp 14) Code.skip (Code.exit 0)) (.seq (.block 1 (.seq (reg Try.f21 5) (.seq (reg Try.f21 6) (.cond (Operand.tmp 24) (.seq (reg Try.f21 7) Code.ret) Code.skip)))) (reg Try.f21 8))))
noncomputable def c21 : Code := (.seq (reg Try.f21 0) (.seq (.seq (reg Try.f21 1) (.cond (Operand.tmp 10) (.seq (reg Try.f21 2) Code.ret) Code.skip)) (.seq (.seq (reg Try.f21 3) (.block 0 (.loop b21_1))) (.seq (reg Try.f21 9) Code.ret))))
theorem body21 : Try.f21.body = some c21 := by kernel_rfl
noncomputable def b22_1 : Code := (.seq (reg Try.f22 9) (.seq (.cond (Operand.tmp 50) Code.skip (Code.exit 0)) (.seq (.block 1 (.seq (reg Try.f22 10) (.seq (.seq (reg Try.f22 11) (.cond (Operand.tmp 60) (.seq (reg Try.f22 12) Code.ret) Code.skip)) (.seq (.seq (reg Try.f22 13) (.cond (Operand.tmp 66) (.seq (reg Try.f22 14) Code.ret) Code.skip)) (.seq (reg Try.f22 15) (reg Try.f22 16)))))) (reg Try.f22 17))))
noncomputable def c22 : Code := (.seq (reg Try.f22 0) (.seq (.seq (reg Try.f22 1) (.cond (Operand.tmp 25) (.seq (reg Try.f22 2) Code.ret) Code.skip)) (.seq (.seq (reg Try.f22 3) (.cond (Operand.tmp 36) (.seq (reg Try.f22 4) Code.ret) Code.skip)) (.seq (reg Try.f22 5) (.seq (reg Try.f22 6) (.seq (reg Try.f22 7) (.seq (.seq (reg Try.f22 8) (.block 0 (.loop b22_1))) (.seq (reg Try.f22 18) (.seq (.seq (reg Try.f22 19) (.cond (Operand.tmp 81) (.seq (reg Try.f22 20) Code.ret) Code.skip)) (.seq (reg Try.f22 21) (.seq (.seq (reg Try.f22 22) (.cond (Operand.tmp 91) (.seq (reg Try.f22 23) Code.ret) Code.skip)) (.seq (.seq (reg Try.f22 24) (.cond (Operand.tmp 94) (.seq (reg Try.f22 25) Code.ret) Code.skip)) (.seq (reg Try.f22 26) Code.ret)))))))))))))
theorem body22 : Try.f22.body = some c22 := by kernel_rfl
noncomputable def b23_1 : Code := (.seq (.seq (reg Try.f23 8) (.cond (Operand.tmp 47) Code.skip (Code.exit 0))) (.block 1 (.seq (reg Try.f23 9) (.seq (.seq (reg Try.f23 10) (.cond (Operand.tmp 57) (.seq (reg Try.f23 11) Code.ret) Code.skip)) (.seq (.seq (reg Try.f23 12) (.cond (Operand.tmp 63) (.seq (reg Try.f23 13) Code.ret) Code.skip)) (.seq (reg Try.f23 14) (reg Try.f23 15)))))))
noncomputable def c23 : Code := (.seq (reg Try.f23 0) (.seq (.seq (reg Try.f23 1) (.cond (Operand.tmp 24) (.seq (reg Try.f23 2) Code.ret) Code.skip)) (.seq (.seq (reg Try.f23 3) (.cond (Operand.tmp 35) (.seq (reg Try.f23 4) Code.ret) Code.skip)) (.seq (reg Try.f23 5) (.seq (reg Try.f23 6) (.seq (reg Try.f23 7) (.seq (.block 0 (.loop b23_1)) (.seq (.seq (reg Try.f23 16) (.cond (Operand.tmp 76) (.seq (reg Try.f23 17) Code.ret) Code.skip)) (.seq (.seq (reg Try.f23 18) (.seq (reg Try.f23 19) (.cond (Operand.tmp 89) (.seq (reg Try.f23 20) Code.ret) Code.skip))) (.seq (reg Try.f23 21) Code.ret))))))))))
theorem body23 : Try.f23.body = some c23 := by kernel_rfl
noncomputable def b24_2 : Code := (.seq (.seq (reg Try.f24 11) (.cond (Operand.tmp 56) Code.skip (Code.exit 2))) (.block 3 (reg Try.f24 12)))
noncomputable def b24_1 : Code := (.seq (reg Try.f24 9) (.seq (.cond (Operand.tmp 42) Code.skip (Code.exit 0)) (.seq (.block 1 (.seq (reg Try.f24 10) (.seq (.block 2 (.loop b24_2)) (.seq (reg Try.f24 13) (.cond (Operand.tmp 70) (.seq (reg Try.f24 14) Code.ret) Code.skip))))) (reg Try.f24 15))))
noncomputable def c24 : Code := (.seq (reg Try.f24 0) (.seq (reg Try.f24 1) (.seq (.seq (reg Try.f24 2) (.cond (Operand.tmp 25) (.seq (reg Try.f24 3) Code.ret) Code.skip)) (.seq (reg Try.f24 4) (.seq (.seq (reg Try.f24 5) (.cond (Operand.tmp 37) (.seq (reg Try.f24 6) Code.ret) Code.skip)) (.seq (reg Try.f24 7) (.seq (.seq (reg Try.f24 8) (.block 0 (.loop b24_1))) (.seq (reg Try.f24 16) Code.ret))))))))
theorem body24 : Try.f24.body = some c24 := by kernel_rfl
noncomputable def b25_2 : Code := (.seq (reg Try.f25 11) (.seq (.cond (Operand.tmp 49) Code.skip (Code.exit 2)) (.seq (.block 3 (.seq (reg Try.f25 12) (.seq (reg Try.f25 13) (.cond (Operand.tmp 54) (.seq (reg Try.f25 14) Code.ret) Code.skip)))) (reg Try.f25 15))))
noncomputable def b25_1 : Code := (.seq (reg Try.f25 8) (.seq (.cond (Operand.tmp 43) Code.skip (Code.exit 0)) (.seq (.block 1 (.seq (reg Try.f25 9) (.seq (reg Try.f25 10) (.block 2 (.loop b25_2))))) (reg Try.f25 16))))
noncomputable def c25 : Code := (.seq (reg Try.f25 0) (.seq (reg Try.f25 1) (.seq (.seq (reg Try.f25 2) (.cond (Operand.tmp 26) (.seq (reg Try.f25 3) Code.ret) Code.skip)) (.seq (reg Try.f25 4) (.seq (.seq (reg Try.f25 5) (.cond (Operand.tmp 38) (.seq (reg Try.f25 6) Code.ret) Code.skip)) (.seq (.seq (reg Try.f25 7) (.block 0 (.loop b25_1))) (.seq (reg Try.f25 17) Code.ret)))))))
theorem body25 : Try.f25.body = some c25 := by kernel_rfl
noncomputable def b26_1 : Code := (.seq (.seq (reg Try.f26 2) (.cond (Operand.tmp 8) Code.skip (Code.exit 0))) (.seq (.block 1 (.seq (reg Try.f26 4) (.cond (Operand.tmp 20) (.seq (reg Try.f26 5) Code.ret) Code.skip))) (reg Try.f26 3)))
noncomputable def c26 : Code := (.seq (reg Try.f26 0) (.seq (.seq (reg Try.f26 1) (.block 0 (.loop b26_1))) (.seq (reg Try.f26 6) Code.ret)))
theorem body26 : Try.f26.body = some c26 := by kernel_rfl
noncomputable def b27_1 : Code := (.seq (reg Try.f27 10) (.seq (.cond (Operand.tmp 42) Code.skip (Code.exit 0)) (.seq (.block 1 (reg Try.f27 11)) (reg Try.f27 12))))
noncomputable def c27 : Code := (.seq (reg Try.f27 0) (.seq (.seq (reg Try.f27 1) (.cond (Operand.tmp 12) (.seq (reg Try.f27 2) Code.ret) Code.skip)) (.seq (.seq (reg Try.f27 3) (.cond (Operand.tmp 19) (.seq (reg Try.f27 4) Code.ret) Code.skip)) (.seq (reg Try.f27 5) (.seq (.seq (reg Try.f27 6) (.cond (Operand.tmp 36) (.seq (reg Try.f27 7) Code.ret) Code.skip)) (.seq (reg Try.f27 8) (.seq (.seq (reg Try.f27 9) (.block 0 (.loop b27_1))) (.seq (reg Try.f27 13) (.seq (reg Try.f27 14) (.seq (reg Try.f27 15) Code.ret))))))))))
theorem body27 : Try.f27.body = some c27 := by kernel_rfl
noncomputable def b28_1 : Code := (.seq (.seq (reg Try.f28 9) (.cond (Operand.tmp 54) Code.skip (Code.exit 1))) (.seq (.block 2 (reg Try.f28 11)) (reg Try.f28 10)))
noncomputable def b28_2 : Code := (.seq (.seq (reg Try.f28 14) (.cond (Operand.tmp 64) Code.skip (Code.exit 3))) (.seq (.block 4 (reg Try.f28 16)) (reg Try.f28 15)))
noncomputable def c28 : Code := (.seq (reg Try.f28 0) (.seq (.block 0 (.seq (reg Try.f28 1) (.cond (Operand.tmp 11) (.seq (reg Try.f28 2) Code.ret) (.seq (reg Try.f28 3) (.cond (Operand.tmp 16) (.seq (reg Try.f28 4) Code.ret) (.seq (reg Try.f28 5) (.cond (Operand.tmp 24) (.seq (reg Try.f28 6) Code.ret) Code.skip))))))) (.seq (reg Try.f28 7) (.seq (.seq (reg Try.f28 8) (.block 1 (.loop b28_1))) (.seq (reg Try.f28 12) (.seq (.seq (reg Try.f28 13) (.block 3 (.loop b28_2))) (.seq (reg Try.f28 17) Code.ret)))))))
theorem body28 : Try.f28.body = some c28 := by kernel_rfl
noncomputable def c29 : Code := (.seq (reg Try.f29 0) (.seq (reg Try.f29 1) Code.ret))
theorem body29 : Try.f29.body = some c29 := by kernel_rfl
noncomputable def b30_1 : Code := (.seq (reg Try.f30 3) (.seq (.cond (Operand.tmp 15) Code.skip (Code.exit 0)) (.seq (.block 1 (.seq (reg Try.f30 4) (reg Try.f30 5))) (reg Try.f30 6))))
noncomputable def c30 : Code := (.seq (reg Try.f30 0) (.seq (reg Try.f30 1) (.seq (.seq (reg Try.f30 2) (.block 0 (.loop b30_1))) (.seq (reg Try.f30 7) (.seq (reg Try.f30 8) Code.ret)))))
theorem body30 : Try.f30.body = some c30 := by kernel_rfl
noncomputable def b31_2 : Code := (.seq (reg Try.f31 7) (.seq (.cond (Operand.tmp 21) Code.skip (Code.exit 2)) (.seq (.block 3 (.seq (reg Try.f31 8) (reg Try.f31 9))) (reg Try.f31 10))))
noncomputable def b31_1 : Code := (.seq (reg Try.f31 3) (.seq (.cond (Operand.tmp 12) Code.skip (Code.exit 0)) (.seq (.block 1 (.seq (reg Try.f31 4) (.seq (reg Try.f31 5) (.seq (.seq (reg Try.f31 6) (.block 2 (.loop b31_2))) (.seq (reg Try.f31 11) (.cond (Operand.tmp 32) (reg Try.f31 12) Code.skip)))))) (reg Try.f31 13))))
noncomputable def c31 : Code := (.seq (reg Try.f31 0) (.seq (reg Try.f31 1) (.seq (.seq (reg Try.f31 2) (.block 0 (.loop b31_1))) (.seq (reg Try.f31 14) Code.ret))))
theorem body31 : Try.f31.body = some c31 := by kernel_rfl
noncomputable def c32 : Code := (.seq (reg Try.f32 0) (.seq (reg Try.f32 1) Code.ret))
theorem body32 : Try.f32.body = some c32 := by kernel_rfl
noncomputable def b33_1 : Code := (.seq (.seq (reg Try.f33 5) (.cond (Operand.tmp 29) Code.skip (Code.exit 0))) (.block 1 (.seq (reg Try.f33 6) (.cond (Operand.tmp 36) (reg Try.f33 7) (reg Try.f33 8)))))
noncomputable def c33 : Code := (.seq (reg Try.f33 0) (.seq (.seq (reg Try.f33 1) (.cond (Operand.tmp 8) (.seq (reg Try.f33 2) Code.ret) Code.skip)) (.seq (reg Try.f33 3) (.seq (reg Try.f33 4) (.seq (.block 0 (.loop b33_1)) (.seq (reg Try.f33 9) Code.ret))))))
theorem body33 : Try.f33.body = some c33 := by kernel_rfl
noncomputable def b34_2 : Code := (.seq (.seq (reg Try.f34 9) (.cond (Operand.tmp 32) Code.skip (Code.exit 2))) (.seq (.block 3 (.seq (reg Try.f34 11) (.cond (Operand.tmp 44) (.seq (reg Try.f34 12) (reg Try.f34 13)) Code.skip))) (reg Try.f34 10)))
noncomputable def b34_1 : Code := (.seq (.seq (reg Try.f34 4) (.cond (Operand.tmp 13) Code.skip (Code.exit 0))) (.seq (.block 1 (.seq (reg Try.f34 6) (.cond (Operand.tmp 25) (.seq (reg Try.f34 7) (.seq (.seq (reg Try.f34 8) (.block 2 (.loop b34_2))) (.seq (reg Try.f34 14) (.seq (reg Try.f34 15) Code.ret)))) Code.skip))) (reg Try.f34 5)))
noncomputable def c34 : Code := (.seq (reg Try.f34 0) (.seq (.seq (reg Try.f34 1) (.cond (Operand.tmp 8) (.seq (reg Try.f34 2) Code.ret) Code.skip)) (.seq (.seq (reg Try.f34 3) (.block 0 (.loop b34_1))) (.seq (reg Try.f34 16) Code.ret))))
theorem body34 : Try.f34.body = some c34 := by kernel_rfl
noncomputable def b35_1 : Code := (.seq (.seq (reg Try.f35 6) (.cond (Operand.tmp 39) Code.skip (Code.exit 0))) (.block 1 (.seq (reg Try.f35 7) (.seq (reg Try.f35 8) (.cond (Operand.tmp 45) (.seq (reg Try.f35 9) Code.ret) Code.skip)))))
noncomputable def c35 : Code := (.seq (reg Try.f35 0) (.seq (.seq (reg Try.f35 1) (.cond (Operand.tmp 13) (.seq (reg Try.f35 2) Code.ret) Code.skip)) (.seq (.seq (reg Try.f35 3) (.cond (Operand.tmp 29) (.seq (reg Try.f35 4) Code.ret) Code.skip)) (.seq (reg Try.f35 5) (.seq (.block 0 (.loop b35_1)) (.seq (.seq (reg Try.f35 10) (.cond (Operand.tmp 52) (.seq (reg Try.f35 11) Code.ret) Code.skip)) (.seq (reg Try.f35 12) (.seq (reg Try.f35 13) Code.ret))))))))
theorem body35 : Try.f35.body = some c35 := by kernel_rfl
noncomputable def c36 : Code := (.seq (reg Try.f36 0) (.seq (.seq (reg Try.f36 1) (.cond (Operand.tmp 11) (.seq (reg Try.f36 2) Code.ret) Code.skip)) (.seq (.seq (reg Try.f36 3) (.cond (Operand.tmp 27) (.seq (reg Try.f36 4) Code.ret) Code.skip)) (.seq (.seq (reg Try.f36 5) (.cond (Operand.tmp 33) (.seq (reg Try.f36 6) Code.ret) Code.skip)) (.seq (reg Try.f36 7) Code.ret)))))
theorem body36 : Try.f36.body = some c36 := by kernel_rfl
noncomputable def b37_1 : Code := (.seq (.seq (reg Try.f37 6) (.cond (Operand.tmp 41) Code.skip (Code.exit 0))) (.block 1 (.seq (reg Try.f37 7) (.seq (reg Try.f37 8) (.cond (Operand.tmp 45) (.seq (reg Try.f37 9) Code.ret) Code.skip)))))
noncomputable def c37 : Code := (.seq (reg Try.f37 0) (.seq (.seq (reg Try.f37 1) (.cond (Operand.tmp 12) (.seq (reg Try.f37 2) Code.ret) Code.skip)) (.seq (.seq (reg Try.f37 3) (.cond (Operand.tmp 28) (.seq (reg Try.f37 4) Code.ret) Code.skip)) (.seq (reg Try.f37 5) (.seq (.block 0 (.loop b37_1)) (.seq (.seq (reg Try.f37 10) (.cond (Operand.tmp 54) (.seq (reg Try.f37 11) Code.ret) Code.skip)) (.seq (reg Try.f37 12) Code.ret)))))))
theorem body37 : Try.f37.body = some c37 := by kernel_rfl
noncomputable def c38 : Code := (.seq (reg Try.f38 0) (.seq (.block 0 (.seq (reg Try.f38 1) (.cond (Operand.tmp 9) (.seq (reg Try.f38 2) Code.ret) (.seq (reg Try.f38 3) (.cond (Operand.tmp 13) (.seq (reg Try.f38 4) Code.ret) (.seq (reg Try.f38 5) (.cond (Operand.tmp 30) (.seq (reg Try.f38 6) Code.ret) Code.skip))))))) (.seq (reg Try.f38 7) Code.ret)))
theorem body38 : Try.f38.body = some c38 := by kernel_rfl
noncomputable def c39 : Code := (.seq (reg Try.f39 0) (.seq (reg Try.f39 1) Code.ret))
theorem body39 : Try.f39.body = some c39 := by kernel_rfl
noncomputable def c40 : Code := (.seq (reg Try.f40 0) (.seq (.seq (reg Try.f40 1) (.cond (Operand.tmp 20) (.seq (reg Try.f40 2) Code.ret) Code.skip)) (.seq (reg Try.f40 3) Code.ret)))
theorem body40 : Try.f40.body = some c40 := by kernel_rfl
noncomputable def c41 : Code := (.seq (reg Try.f41 0) (.seq (reg Try.f41 1) (.seq (reg Try.f41 2) (.seq (reg Try.f41 3) Code.ret))))
theorem body41 : Try.f41.body = some c41 := by kernel_rfl
noncomputable def c42 : Code := (.seq (.seq (reg Try.f42 0) (.cond (Operand.tmp 10) (reg Try.f42 1) Code.skip)) (.seq (.seq (reg Try.f42 2) (.cond (Operand.tmp 22) (reg Try.f42 3) Code.skip)) (reg Try.f42 4)))
theorem body42 : Try.f42.body = some c42 := by kernel_rfl
noncomputable def b43_1 : Code := (.seq (reg Try.f43 1) (.seq (.cond (Operand.tmp 9) Code.skip (Code.exit 0)) (.seq (.block 1 (.seq (reg Try.f43 2) (reg Try.f43 3))) (reg Try.f43 4))))
noncomputable def c43 : Code := (.seq (reg Try.f43 0) (.block 0 (.loop b43_1)))
theorem body43 : Try.f43.body = some c43 := by kernel_rfl
noncomputable def b44_1 : Code := (.seq (.seq (reg Try.f44 4) (.cond (Operand.tmp 29) Code.skip (Code.exit 0))) (.seq (.block 1 (.seq (reg Try.f44 6) (.cond (Operand.tmp 34) (.seq (reg Try.f44 7) Code.ret) Code.skip))) (reg Try.f44 5)))
noncomputable def c44 : Code := (.seq (reg Try.f44 0) (.seq (.seq (reg Try.f44 1) (.cond (Operand.tmp 21) (.seq (reg Try.f44 2) Code.ret) Code.skip)) (.seq (.seq (reg Try.f44 3) (.block 0 (.loop b44_1))) (.seq (reg Try.f44 8) Code.ret))))
theorem body44 : Try.f44.body = some c44 := by kernel_rfl
noncomputable def b45_1 : Code := (.seq (reg Try.f45 3) (.seq (.cond (Operand.tmp 9) Code.skip (Code.exit 0)) (.seq (.block 1 (.seq (reg Try.f45 4) (reg Try.f45 5))) (reg Try.f45 6))))
noncomputable def c45 : Code := (.seq (reg Try.f45 0) (.seq (reg Try.f45 1) (.seq (.seq (reg Try.f45 2) (.block 0 (.loop b45_1))) (.seq (reg Try.f45 7) Code.ret))))
theorem body45 : Try.f45.body = some c45 := by kernel_rfl
noncomputable def c46 : Code := (.seq (reg Try.f46 0) (.seq (.seq (reg Try.f46 1) (.cond (Operand.tmp 8) (reg Try.f46 2) Code.skip)) (.seq (.seq (reg Try.f46 3) (.cond (Operand.tmp 14) (reg Try.f46 4) Code.skip)) (.seq (reg Try.f46 5) (.seq (reg Try.f46 6) Code.ret)))))
theorem body46 : Try.f46.body = some c46 := by kernel_rfl
noncomputable def c47 : Code := (.seq (reg Try.f47 0) (.seq (reg Try.f47 1) (.seq (reg Try.f47 2) Code.ret)))
theorem body47 : Try.f47.body = some c47 := by kernel_rfl
noncomputable def b48_1 : Code := (.seq (reg Try.f48 4) (.seq (.cond (Operand.tmp 26) Code.skip (Code.exit 0)) (.seq (.block 1 (.seq (reg Try.f48 5) (reg Try.f48 6))) (reg Try.f48 7))))
noncomputable def c48 : Code := (.seq (reg Try.f48 0) (.seq (reg Try.f48 1) (.seq (reg Try.f48 2) (.seq (.seq (reg Try.f48 3) (.block 0 (.loop b48_1))) (.seq (reg Try.f48 8) (.seq (reg Try.f48 9) (.seq (reg Try.f48 10) (.seq (reg Try.f48 11) Code.ret))))))))
theorem body48 : Try.f48.body = some c48 := by kernel_rfl
noncomputable def c49 : Code := (.seq (reg Try.f49 0) (reg Try.f49 1))
theorem body49 : Try.f49.body = some c49 := by kernel_rfl
noncomputable def c50 : Code := (.seq (reg Try.f50 0) (.seq (reg Try.f50 1) (.seq (reg Try.f50 2) Code.ret)))
theorem body50 : Try.f50.body = some c50 := by kernel_rfl
noncomputable def b51_1 : Code := (.seq (.seq (reg Try.f51 3) (.cond (Operand.tmp 24) Code.skip (Code.exit 0))) (.block 1 (reg Try.f51 4)))
noncomputable def c51 : Code := (.seq (reg Try.f51 0) (.seq (reg Try.f51 1) (.seq (reg Try.f51 2) (.seq (.block 0 (.loop b51_1)) (.seq (reg Try.f51 5) (.seq (reg Try.f51 6) (.seq (reg Try.f51 7) (.seq (reg Try.f51 8) Code.ret))))))))
theorem body51 : Try.f51.body = some c51 := by kernel_rfl
noncomputable def c52 : Code := (.seq (reg Try.f52 0) (.seq (reg Try.f52 1) Code.ret))
theorem body52 : Try.f52.body = some c52 := by kernel_rfl
noncomputable def b53_1 : Code := (.seq (reg Try.f53 3) (.seq (.cond (Operand.tmp 11) Code.skip (Code.exit 0)) (.seq (.block 1 (.seq (reg Try.f53 4) (.seq (reg Try.f53 5) (.seq (reg Try.f53 6) (.cond (Operand.tmp 19) (reg Try.f53 7) Code.skip))))) (reg Try.f53 8))))
noncomputable def c53 : Code := (.seq (reg Try.f53 0) (.seq (reg Try.f53 1) (.seq (.seq (reg Try.f53 2) (.block 0 (.loop b53_1))) (.seq (reg Try.f53 9) Code.ret))))
theorem body53 : Try.f53.body = some c53 := by kernel_rfl
noncomputable def c54 : Code := (.seq (reg Try.f54 0) (.seq (reg Try.f54 1) Code.ret))
theorem body54 : Try.f54.body = some c54 := by kernel_rfl
noncomputable def b55_1 : Code := (.seq (.seq (reg Try.f55 3) (.cond (Operand.tmp 14) Code.skip (Code.exit 0))) (.seq (.block 1 (.seq (reg Try.f55 5) (.seq (reg Try.f55 6) (.cond (Operand.tmp 21) (reg Try.f55 7) Code.skip)))) (reg Try.f55 4)))
noncomputable def c55 : Code := (.seq (reg Try.f55 0) (.seq (reg Try.f55 1) (.seq (.seq (reg Try.f55 2) (.block 0 (.loop b55_1))) (.seq (reg Try.f55 8) Code.ret))))
theorem body55 : Try.f55.body = some c55 := by kernel_rfl
noncomputable def c56 : Code := (.seq (reg Try.f56 0) (.seq (reg Try.f56 1) Code.ret))
theorem body56 : Try.f56.body = some c56 := by kernel_rfl
noncomputable def c57 : Code := (.seq (reg Try.f57 0) (.seq (reg Try.f57 1) (.seq (reg Try.f57 2) Code.ret)))
theorem body57 : Try.f57.body = some c57 := by kernel_rfl
noncomputable def c58 : Code := (.seq (reg Try.f58 0) (.seq (reg Try.f58 1) (.seq (reg Try.f58 2) (.seq (reg Try.f58 3) (.seq (reg Try.f58 4) (.seq (reg Try.f58 5) (.seq (reg Try.f58 6) (.seq (reg Try.f58 7) (.seq (reg Try.f58 8) (.seq (reg Try.f58 9) (.seq (reg Try.f58 10) (.seq (reg Try.f58 11) Code.ret))))))))))))
theorem body58 : Try.f58.body = some c58 := by kernel_rfl
noncomputable def c59 : Code := (.seq (reg Try.f59 0) (.seq (reg Try.f59 1) (.seq (reg Try.f59 2) (.seq (reg Try.f59 3) (.seq (reg Try.f59 4) Code.ret)))))
theorem body59 : Try.f59.body = some c59 := by kernel_rfl
noncomputable def b60_1 : Code := (.seq (reg Try.f60 3) (.seq (.cond (Operand.tmp 9) Code.skip (Code.exit 0)) (.seq (.block 1 (.seq (reg Try.f60 4) (reg Try.f60 5))) (reg Try.f60 6))))
noncomputable def c60 : Code := (.seq (reg Try.f60 0) (.seq (reg Try.f60 1) (.seq (.seq (reg Try.f60 2) (.block 0 (.loop b60_1))) (.seq (reg Try.f60 7) Code.ret))))
theorem body60 : Try.f60.body = some c60 := by kernel_rfl
noncomputable def b61_1 : Code := (.seq (reg Try.f61 2) (.seq (.cond (Operand.tmp 7) Code.skip (Code.exit 0)) (.seq (.block 1 (.seq (reg Try.f61 3) (.seq (reg Try.f61 4) (.seq (reg Try.f61 5) (.seq (reg Try.f61 6) (.seq (reg Try.f61 7) (.seq (reg Try.f61 8) (.seq (reg Try.f61 9) (.seq (reg Try.f61 10) (.seq (reg Try.f61 11) (.seq (reg Try.f61 12) (.seq (reg Try.f61 13) (.seq (reg Try.f61 14) (.seq (reg Try.f61 15) (reg Try.f61 16))))))))))))))) (reg Try.f61 17))))
noncomputable def c61 : Code := (.seq (reg Try.f61 0) (.seq (.seq (reg Try.f61 1) (.block 0 (.loop b61_1))) (.seq (reg Try.f61 18) Code.ret)))
theorem body61 : Try.f61.body = some c61 := by kernel_rfl
noncomputable def b62_1 : Code := (.block 1 (.seq (reg Try.f62 2) (.seq (.seq (reg Try.f62 3) (.cond (Operand.tmp 23) (.seq (reg Try.f62 4) Code.ret) Code.skip)) (.seq (.seq (reg Try.f62 5) (.cond (Operand.tmp 29) (.seq (reg Try.f62 6) Code.ret) Code.skip)) (.seq (.seq (reg Try.f62 7) (.cond (Operand.tmp 35) (.seq (reg Try.f62 8) (reg Try.f62 9)) Code.skip)) (.seq (reg Try.f62 10) (.seq (.seq (reg Try.f62 11) (.cond (Operand.tmp 50) (.seq (reg Try.f62 12) (.seq (reg Try.f62 13) (reg Try.f62 14))) Code.skip)) (.seq (.seq (reg Try.f62 15) (.cond (Operand.tmp 68) (.seq (reg Try.f62 16) (.cond (Operand.tmp 72) Code.ret Code.skip)) Code.skip)) (.seq (.seq (reg Try.f62 17) (.cond (Operand.tmp 87) (.seq (reg Try.f62 18) (.seq (reg Try.f62 19) (Code.exit 1))) Code.skip)) (.seq (reg Try.f62 20) (.seq (reg Try.f62 21) (.seq (reg Try.f62 22) (.seq (reg Try.f62 23) (.seq (reg Try.f62 24) (.cond (Operand.tmp 113) (.seq (reg Try.f62 25) (.seq (reg Try.f62 26) (reg Try.f62 27))) (.seq (reg Try.f62 28) (.seq (reg Try.f62 29) (reg Try.f62 30))))))))))))))))))
noncomputable def c62 : Code := (.seq (reg Try.f62 0) (.seq (reg Try.f62 1) (.block 0 (.loop b62_1))))
theorem body62 : Try.f62.body = some c62 := by kernel_rfl
noncomputable def c63 : Code := (.seq (reg Try.f63 0) (.seq (.cond (Operand.const (Value.bool false)) (.seq (reg Try.f63 1) Code.ret) Code.skip) (.seq (reg Try.f63 2) Code.ret)))
theorem body63 : Try.f63.body = some c63 := by kernel_rfl
noncomputable def c64 : Code := (.seq (reg Try.f64 0) (.seq (reg Try.f64 1) (.seq (reg Try.f64 2) (.seq (reg Try.f64 3) (.seq (reg Try.f64 4) Code.ret)))))
theorem body64 : Try.f64.body = some c64 := by kernel_rfl
noncomputable def b65_1 : Code := (.seq (reg Try.f65 3) (.seq (.cond (Operand.tmp 8) Code.skip (Code.exit 0)) (.seq (.block 1 (.seq (reg Try.f65 4) (reg Try.f65 5))) (reg Try.f65 6))))
noncomputable def c65 : Code := (.seq (reg Try.f65 0) (.seq (reg Try.f65 1) (.seq (.seq (reg Try.f65 2) (.block 0 (.loop b65_1))) (.seq (reg Try.f65 7) Code.ret))))
theorem body65 : Try.f65.body = some c65 := by kernel_rfl
noncomputable def c66 : Code := (.seq (reg Try.f66 0) (.seq (reg Try.f66 1) (.seq (reg Try.f66 2) (.seq (reg Try.f66 3) (.seq (reg Try.f66 4) (.seq (reg Try.f66 5) (.seq (reg Try.f66 6) (.seq (reg Try.f66 7) (.seq (reg Try.f66 8) (.seq (reg Try.f66 9) (.seq (reg Try.f66 10) (.seq (reg Try.f66 11) Code.ret))))))))))))
theorem body66 : Try.f66.body = some c66 := by kernel_rfl
noncomputable def c67 : Code := (.seq (reg Try.f67 0) (.seq (reg Try.f67 1) (.seq (reg Try.f67 2) Code.ret)))
theorem body67 : Try.f67.body = some c67 := by kernel_rfl
noncomputable def b68_2 : Code := (.seq (.seq (reg Try.f68 4) (.cond (Operand.tmp 30) Code.skip (Code.exit 2))) (.seq (.block 3 (reg Try.f68 6)) (reg Try.f68 5)))
noncomputable def b68_1 : Code := (.seq (.seq (reg Try.f68 1) (.cond (Operand.tmp 12) Code.skip (Code.exit 0))) (.seq (.block 1 (.seq (reg Try.f68 3) (.block 2 (.loop b68_2)))) (reg Try.f68 2)))
noncomputable def c68 : Code := (.seq (reg Try.f68 0) (.block 0 (.loop b68_1)))
theorem body68 : Try.f68.body = some c68 := by kernel_rfl
noncomputable def b69_1 : Code := (.seq (.seq (reg Try.f69 4) (.cond (Operand.tmp 19) Code.skip (Code.exit 0))) (.seq (.block 1 (reg Try.f69 6)) (reg Try.f69 5)))
noncomputable def b69_2 : Code := (.seq (.seq (reg Try.f69 8) (.cond (Operand.tmp 30) Code.skip (Code.exit 2))) (.seq (.block 3 (.seq (reg Try.f69 10) (reg Try.f69 11))) (reg Try.f69 9)))
noncomputable def c69 : Code := (.seq (reg Try.f69 0) (.seq (reg Try.f69 1) (.seq (reg Try.f69 2) (.seq (.seq (reg Try.f69 3) (.block 0 (.loop b69_1))) (.seq (reg Try.f69 7) (.block 2 (.loop b69_2)))))))
theorem body69 : Try.f69.body = some c69 := by kernel_rfl
noncomputable def b70_1 : Code := (.seq (.seq (reg Try.f70 5) (.cond (Operand.tmp 33) Code.skip (Code.exit 0))) (.seq (.block 1 (.seq (reg Try.f70 7) (.seq (.seq (reg Try.f70 8) (.cond (Operand.tmp 43) (reg Try.f70 9) Code.skip)) (reg Try.f70 10)))) (reg Try.f70 6)))
noncomputable def c70 : Code := (.seq (reg Try.f70 0) (.seq (reg Try.f70 1) (.cond (Operand.tmp 15) (.seq (reg Try.f70 2) (.seq (reg Try.f70 3) (.seq (reg Try.f70 4) (.block 0 (.loop b70_1))))) Code.skip)))
theorem body70 : Try.f70.body = some c70 := by kernel_rfl
noncomputable def c71 : Code := (.seq (reg Try.f71 0) (.seq (reg Try.f71 1) (.seq (reg Try.f71 2) (.seq (reg Try.f71 3) (.seq (reg Try.f71 4) (.seq (reg Try.f71 5) (.seq (.seq (reg Try.f71 6) (.cond (Operand.tmp 32) (.seq (.seq (reg Try.f71 7) (.cond (Operand.tmp 34) (.seq (reg Try.f71 8) (.seq (reg Try.f71 9) (reg Try.f71 10))) Code.skip)) (reg Try.f71 11)) Code.skip)) (.seq (reg Try.f71 12) (.block 0 (.seq (reg Try.f71 14) (.cond (Operand.tmp 51) (.seq (reg Try.f71 15) Code.ret) (.seq (reg Try.f71 16) (.cond (Operand.tmp 54) (.seq (reg Try.f71 17) Code.ret) (.seq (reg Try.f71 13) Code.ret))))))))))))))
theorem body71 : Try.f71.body = some c71 := by kernel_rfl
noncomputable def b72_1 : Code := (.seq (.seq (reg Try.f72 2) (.cond (Operand.tmp 13) Code.skip (Code.exit 0))) (.block 1 (.seq (reg Try.f72 3) (.seq (reg Try.f72 4) (reg Try.f72 5)))))
noncomputable def c72 : Code := (.seq (reg Try.f72 0) (.seq (reg Try.f72 1) (.block 0 (.loop b72_1))))
theorem body72 : Try.f72.body = some c72 := by kernel_rfl
noncomputable def b73_2 : Code := (.seq (.seq (reg Try.f73 5) (.cond (Operand.tmp 32) Code.skip (Code.exit 2))) (.block 3 (reg Try.f73 6)))
noncomputable def b73_3 : Code := (.seq (.seq (reg Try.f73 14) (.cond (Operand.tmp 65) Code.skip (Code.exit 4))) (.seq (.block 5 (.seq (.seq (reg Try.f73 16) (.cond (Operand.tmp 78) (Code.exit 4) Code.skip)) (reg Try.f73 17))) (reg Try.f73 15)))
noncomputable def b73_4 : Code := (.seq (.seq (reg Try.f73 20) (.cond (Operand.tmp 103) Code.skip (Code.exit 6))) (.seq (.block 7 (.seq (.seq (reg Try.f73 22) (.cond (Operand.tmp 116) (Code.exit 6) Code.skip)) (reg Try.f73 23))) (reg Try.f73 21)))
noncomputable def b73_1 : Code := (.seq (.seq (reg Try.f73 3) (.cond (Operand.tmp 14) Code.skip (Code.exit 0))) (.seq (.block 1 (.seq (.block 2 (.loop b73_2)) (.seq (.seq (reg Try.f73 7) (.cond (Operand.tmp 37) (.seq (reg Try.f73 8) Code.ret) Code.skip)) (.seq (.seq (reg Try.f73 9) (.cond (Operand.tmp 41) (.seq (reg Try.f73 10) Code.ret) Code.skip)) (.seq (reg Try.f73 11) (.seq (.seq (reg Try.f73 12) (.cond (Operand.tmp 61) (.seq (reg Try.f73 13) (.block 4 (.loop b73_3))) Code.skip)) (.seq (reg Try.f73 18) (.cond (Operand.tmp 98) (.seq (reg Try.f73 19) (.block 6 (.loop b73_4))) Code.skip)))))))) (reg Try.f73 4)))
noncomputable def c73 : Code := (.seq (reg Try.f73 0) (.seq (reg Try.f73 1) (.seq (.seq (reg Try.f73 2) (.block 0 (.loop b73_1))) (.seq (reg Try.f73 24) Code.ret))))
theorem body73 : Try.f73.body = some c73 := by kernel_rfl
noncomputable def b74_2 : Code := (.seq (.seq (reg Try.f74 3) (.cond (Operand.tmp 43) Code.skip (Code.exit 2))) (.block 3 (reg Try.f74 4)))
noncomputable def b74_3 : Code := (.seq (.seq (reg Try.f74 5) (.cond (Operand.tmp 59) Code.skip (Code.exit 4))) (.block 5 (reg Try.f74 6)))
noncomputable def b74_1 : Code := (.block 1 (.seq (.block 2 (.loop b74_2)) (.seq (.block 4 (.loop b74_3)) (.seq (.seq (reg Try.f74 7) (.cond (Operand.tmp 64) (Code.exit 0) Code.skip)) (.seq (reg Try.f74 8) (.seq (reg Try.f74 9) (reg Try.f74 10)))))))
noncomputable def c74 : Code := (.seq (reg Try.f74 0) (.seq (reg Try.f74 1) (.seq (reg Try.f74 2) (.seq (.block 0 (.loop b74_1)) (.seq (reg Try.f74 11) Code.ret)))))
theorem body74 : Try.f74.body = some c74 := by kernel_rfl
noncomputable def b75_1 : Code := (.seq (.seq (reg Try.f75 3) (.cond (Operand.tmp 43) Code.skip (Code.exit 0))) (.block 1 (reg Try.f75 4)))
noncomputable def b75_2 : Code := (.seq (.seq (reg Try.f75 5) (.cond (Operand.tmp 60) Code.skip (Code.exit 2))) (.block 3 (reg Try.f75 6)))
noncomputable def b75_4 : Code := (.seq (.seq (reg Try.f75 13) (.cond (Operand.tmp 112) Code.skip (Code.exit 6))) (.block 7 (reg Try.f75 14)))
noncomputable def b75_5 : Code := (.seq (.seq (reg Try.f75 15) (.cond (Operand.tmp 129) Code.skip (Code.exit 8))) (.block 9 (reg Try.f75 16)))
noncomputable def b75_3 : Code := (.block 5 (.seq (.block 6 (.loop b75_4)) (.seq (.block 8 (.loop b75_5)) (.seq (.seq (reg Try.f75 17) (.cond (Operand.tmp 134) (Code.exit 4) Code.skip)) (.seq (reg Try.f75 18) (.seq (reg Try.f75 19) (reg Try.f75 20)))))))
noncomputable def c75 : Code := (.seq (reg Try.f75 0) (.seq (reg Try.f75 1) (.seq (reg Try.f75 2) (.seq (.block 0 (.loop b75_1)) (.seq (.block 2 (.loop b75_2)) (.seq (.seq (reg Try.f75 7) (.cond (Operand.tmp 65) (.seq (reg Try.f75 8) (.seq (reg Try.f75 9) Code.ret)) Code.skip)) (.seq (reg Try.f75 10) (.seq (reg Try.f75 11) (.seq (reg Try.f75 12) (.seq (.block 4 (.loop b75_3)) (.seq (reg Try.f75 21) (.seq (reg Try.f75 22) Code.ret))))))))))))
theorem body75 : Try.f75.body = some c75 := by kernel_rfl
noncomputable def c76 : Code := (.seq (reg Try.f76 0) (.seq (.seq (reg Try.f76 1) (.cond (Operand.tmp 4) (.seq (reg Try.f76 2) (reg Try.f76 3)) Code.skip)) (.seq (.seq (reg Try.f76 4) (.cond (Operand.tmp 8) (.seq (reg Try.f76 5) (reg Try.f76 6)) Code.skip)) (.seq (reg Try.f76 7) Code.ret))))
theorem body76 : Try.f76.body = some c76 := by kernel_rfl
noncomputable def c77 : Code := (.seq (reg Try.f77 0) (.seq (.seq (reg Try.f77 1) (.cond (Operand.tmp 4) (.seq (reg Try.f77 2) (reg Try.f77 3)) Code.skip)) (.seq (.seq (reg Try.f77 4) (.cond (Operand.tmp 8) (.seq (reg Try.f77 5) (reg Try.f77 6)) Code.skip)) (.seq (.seq (reg Try.f77 7) (.cond (Operand.tmp 14) (.seq (reg Try.f77 8) (reg Try.f77 9)) Code.skip)) (.seq (reg Try.f77 10) Code.ret)))))
theorem body77 : Try.f77.body = some c77 := by kernel_rfl
noncomputable def b78_1 : Code := (.block 1 (.seq (reg Try.f78 1) (.seq (.seq (reg Try.f78 2) (.cond (Operand.tmp 16) (Code.exit 0) Code.skip)) (.seq (.seq (reg Try.f78 3) (.cond (Operand.tmp 36) (reg Try.f78 4) Code.skip)) (.seq (.seq (reg Try.f78 5) (.cond (Operand.tmp 52) Code.ret Code.skip)) (.seq (reg Try.f78 6) (reg Try.f78 7)))))))
noncomputable def c78 : Code := (.seq (reg Try.f78 0) (.block 0 (.loop b78_1)))
theorem body78 : Try.f78.body = some c78 := by kernel_rfl
noncomputable def c79 : Code := (.seq (reg Try.f79 0) (.seq (reg Try.f79 1) Code.ret))
theorem body79 : Try.f79.body = some c79 := by kernel_rfl
noncomputable def c80 : Code := (.seq (reg Try.f80 0) (.seq (reg Try.f80 1) (.seq (reg Try.f80 2) (.seq (reg Try.f80 3) (.seq (reg Try.f80 4) Code.ret)))))
theorem body80 : Try.f80.body = some c80 := by kernel_rfl
noncomputable def c81 : Code := (.seq (reg Try.f81 0) (.seq (reg Try.f81 1) Code.ret))
theorem body81 : Try.f81.body = some c81 := by kernel_rfl
noncomputable def c82 : Code := (.seq (reg Try.f82 0) (.seq (reg Try.f82 1) (.seq (reg Try.f82 2) (.seq (reg Try.f82 3) (.seq (reg Try.f82 4) Code.ret)))))
theorem body82 : Try.f82.body = some c82 := by kernel_rfl
noncomputable def c83 : Code := (.seq (reg Try.f83 0) (.seq (.seq (reg Try.f83 1) (.cond (Operand.tmp 18) (.seq (reg Try.f83 2) (.seq (reg Try.f83 3) Code.ret)) Code.skip)) (.seq (reg Try.f83 4) Code.ret)))
theorem body83 : Try.f83.body = some c83 := by kernel_rfl
end Go.Proofs.Ytmjbklblgpnagaa
