import Derived.Test.YtanhccemhpmnhaaTt
namespace Go.Proofs.Ytanhccemhpmnhaa
open Go.Av
set_option maxRecDepth 1000000

noncomputable def b3_1 : Code := (.seq (reg Try.f3 7) (.seq (.cond (Operand.tmp 44) Code.skip (Code.exit 0)) (.seq (.block 1 (.seq (reg Try.f3 8) (.seq (reg Try.f3 9) (.cond (Operand.tmp 57) (.seq (reg Try.f3 10) Code.ret) Code.skip)))) (reg Try.f3 11))))
noncomputable def c3 : Code := (.seq (reg Try.f3 0) (.seq (.seq (reg Try.f3 1) (.cond (Operand.tmp 15) (.seq (reg Try.f3 2) Code.ret) Code.skip)) (.seq (reg Try.f3 3) (.seq (reg Try.f3 4) (.seq (reg Try.f3 5) (.seq (.seq (reg Try.f3 6) (.block 0 (.loop b3_1))) (.seq (reg Try.f3 12) Code.ret)))))))
theorem body3 : Try.f3.body = some c3 := by kernel_rfl

noncomputable def c4 : Code := (.seq (reg Try.f4 0) (.seq (.seq (reg Try.f4 1) (.cond (Operand.tmp 11) (.seq (reg Try.f4 2) Code.ret) Code.skip)) (.seq (reg Try.f4 3) (.seq (reg Try.f4 4) (.seq (reg Try.f4 5) (.seq (reg Try.f4 6) (.seq (reg Try.f4 7) (.seq (.seq (reg Try.f4 8) (.block 0 (.seq (reg Try.f4 9) (.cond (Operand.tmp 34) (reg Try.f4 10) (.seq (reg Try.f4 11) (.cond (Operand.tmp 43) (reg Try.f4 12) (.seq (reg Try.f4 13) (.cond (Operand.tmp 49) (reg Try.f4 14) (.seq (reg Try.f4 15) (.cond (Operand.tmp 60) (reg Try.f4 16) (.seq (reg Try.f4 17) (.cond (Operand.tmp 66) (reg Try.f4 18) (.seq (reg Try.f4 19) (.cond (Operand.tmp 82) (reg Try.f4 20) (.seq (reg Try.f4 21) (.cond (Operand.tmp 93) (reg Try.f4 22) Code.skip)))))))))))))))) (.seq (reg Try.f4 23) Code.ret)))))))))
theorem body4 : Try.f4.body = some c4 := by kernel_rfl

noncomputable def b5_2 : Code := (.seq (reg Try.f5 17) (.seq (.cond (Operand.tmp 79) Code.skip (Code.exit 2)) (.seq (.block 3 (.seq (reg Try.f5 18) (.seq (reg Try.f5 19) (.cond (Operand.tmp 105) (reg Try.f5 20) Code.skip)))) (reg Try.f5 21))))
noncomputable def b5_1 : Code := (.seq (reg Try.f5 14) (.seq (.cond (Operand.tmp 74) Code.skip (Code.exit 0)) (.seq (.block 1 (.seq (reg Try.f5 15) (.seq (reg Try.f5 16) (.block 2 (.loop b5_2))))) (reg Try.f5 22))))
noncomputable def b5_3 : Code := (.seq (reg Try.f5 24) (.seq (.cond (Operand.tmp 115) Code.skip (Code.exit 4)) (.seq (.block 5 (.seq (reg Try.f5 25) (.seq (reg Try.f5 26) (.cond (Operand.tmp 128) (.seq (reg Try.f5 27) Code.ret) Code.skip)))) (reg Try.f5 28))))
noncomputable def c5 : Code := (.seq (reg Try.f5 0) (.seq (.seq (reg Try.f5 1) (.cond (Operand.tmp 24) (.seq (reg Try.f5 2) Code.ret) Code.skip)) (.seq (reg Try.f5 3) (.seq (reg Try.f5 4) (.seq (reg Try.f5 5) (.seq (reg Try.f5 6) (.seq (reg Try.f5 7) (.seq (.seq (reg Try.f5 8) (.cond (Operand.tmp 45) (.seq (reg Try.f5 9) Code.ret) Code.skip)) (.seq (.seq (reg Try.f5 10) (.cond (Operand.tmp 69) (.seq (reg Try.f5 11) Code.ret) Code.skip)) (.seq (reg Try.f5 12) (.seq (.seq (reg Try.f5 13) (.block 0 (.loop b5_1))) (.seq (.seq (reg Try.f5 23) (.block 4 (.loop b5_3))) (.seq (.seq (reg Try.f5 29) (.seq (reg Try.f5 30) (.cond (Operand.tmp 153) (.seq (reg Try.f5 31) Code.ret) Code.skip))) (.seq (reg Try.f5 32) (.seq (.block 6 (.seq (reg Try.f5 33) (.cond (Operand.tmp 160) (.seq (reg Try.f5 34) Code.ret) (.seq (reg Try.f5 35) (.cond (Operand.tmp 196) (.seq (reg Try.f5 36) Code.ret) Code.skip))))) (.seq (reg Try.f5 37) Code.ret))))))))))))))))
theorem body5 : Try.f5.body = some c5 := by kernel_rfl

noncomputable def c6 : Code := (.seq (reg Try.f6 0) (.seq (reg Try.f6 1) Code.ret))
theorem body6 : Try.f6.body = some c6 := by kernel_rfl

noncomputable def c7 : Code := (.seq (reg Try.f7 0) (.seq (reg Try.f7 1) Code.ret))
theorem body7 : Try.f7.body = some c7 := by kernel_rfl

noncomputable def b8_1 : Code := (.seq (.seq (reg Try.f8 3) (.cond (Operand.tmp 17) Code.skip (Code.exit 0))) (.seq (.block 1 (.seq (reg Try.f8 5) (.seq (.seq (reg Try.f8 6) (.cond (Operand.tmp 34) (reg Try.f8 7) Code.skip)) (reg Try.f8 8)))) (reg Try.f8 4)))
noncomputable def b8_2 : Code := (.seq (.seq (reg Try.f8 10) (.cond (Operand.tmp 50) Code.skip (Code.exit 2))) (.seq (.block 3 (reg Try.f8 12)) (reg Try.f8 11)))
noncomputable def c8 : Code := (.seq (reg Try.f8 0) (.seq (reg Try.f8 1) (.seq (.seq (reg Try.f8 2) (.block 0 (.loop b8_1))) (.seq (.seq (reg Try.f8 9) (.block 2 (.loop b8_2))) (.seq (reg Try.f8 13) Code.ret)))))
theorem body8 : Try.f8.body = some c8 := by kernel_rfl

noncomputable def b9_1 : Code := (.seq (.seq (reg Try.f9 3) (.cond (Operand.tmp 13) Code.skip (Code.exit 0))) (.seq (.block 1 (.seq (reg Try.f9 5) (reg Try.f9 6))) (reg Try.f9 4)))
noncomputable def c9 : Code := (.seq (reg Try.f9 0) (.seq (reg Try.f9 1) (.seq (.seq (reg Try.f9 2) (.block 0 (.loop b9_1))) (.seq (reg Try.f9 7) Code.ret))))
theorem body9 : Try.f9.body = some c9 := by kernel_rfl

noncomputable def c10 : Code := (.seq (reg Try.f10 0) (.seq (reg Try.f10 1) (.seq (.seq (reg Try.f10 2) (.cond (Operand.tmp 10) (reg Try.f10 3) Code.skip)) (.seq (reg Try.f10 4) Code.ret))))
theorem body10 : Try.f10.body = some c10 := by kernel_rfl

noncomputable def c11 : Code := (.seq (reg Try.f11 0) (.seq (.seq (reg Try.f11 1) (.cond (Operand.tmp 18) (.seq (reg Try.f11 2) Code.ret) Code.skip)) (.seq (reg Try.f11 3) Code.ret)))
theorem body11 : Try.f11.body = some c11 := by kernel_rfl

noncomputable def c12 : Code := (.seq (reg Try.f12 0) (.seq (.seq (reg Try.f12 1) (.cond (Operand.tmp 12) (.seq (reg Try.f12 2) Code.ret) Code.skip)) (.seq (reg Try.f12 3) Code.ret)))
theorem body12 : Try.f12.body = some c12 := by kernel_rfl

noncomputable def c13 : Code := (.seq (reg Try.f13 0) (.seq (reg Try.f13 1) Code.ret))
theorem body13 : Try.f13.body = some c13 := by kernel_rfl

noncomputable def c14 : Code := (.seq (reg Try.f14 0) (.seq (reg Try.f14 1) Code.ret))
theorem body14 : Try.f14.body = some c14 := by kernel_rfl

noncomputable def b15_1 : Code := (.seq (reg Try.f15 3) (.seq (.cond (Operand.tmp 17) Code.skip (Code.exit 0)) (.seq (.block 1 (.seq (reg Try.f15 4) (reg Try.f15 5))) (reg Try.f15 6))))
noncomputable def b15_2 : Code := (.seq (reg Try.f15 9) (.seq (.cond (Operand.tmp 30) Code.skip (Code.exit 2)) (.seq (.block 3 (.seq (reg Try.f15 10) (reg Try.f15 11))) (reg Try.f15 12))))
noncomputable def c15 : Code := (.seq (reg Try.f15 0) (.seq (reg Try.f15 1) (.seq (.seq (reg Try.f15 2) (.block 0 (.loop b15_1))) (.seq (reg Try.f15 7) (.seq (.seq (reg Try.f15 8) (.block 2 (.loop b15_2))) (.seq (reg Try.f15 13) Code.ret))))))
theorem body15 : Try.f15.body = some c15 := by kernel_rfl

noncomputable def b16_1 : Code := (.seq (.seq (reg Try.f16 3) (.cond (Operand.tmp 13) Code.skip (Code.exit 0))) (.seq (.block 1 (reg Try.f16 5)) (reg Try.f16 4)))
noncomputable def c16 : Code := (.seq (reg Try.f16 0) (.seq (reg Try.f16 1) (.seq (.seq (reg Try.f16 2) (.block 0 (.loop b16_1))) (.seq (reg Try.f16 6) Code.ret))))
theorem body16 : Try.f16.body = some c16 := by kernel_rfl

noncomputable def b17_1 : Code := (.seq (reg Try.f17 5) (.seq (.cond (Operand.tmp 18) Code.skip (Code.exit 0)) (.seq (.block 1 (.seq (reg Try.f17 6) (.seq (reg Try.f17 7) (.seq (reg Try.f17 8) (.seq (reg Try.f17 9) (reg Try.f17 10)))))) (reg Try.f17 11))))
noncomputable def c17 : Code := (.seq (reg Try.f17 0) (.seq (reg Try.f17 1) (.seq (reg Try.f17 2) (.seq (reg Try.f17 3) (.seq (.seq (reg Try.f17 4) (.block 0 (.loop b17_1))) (.seq (reg Try.f17 12) (.seq (reg Try.f17 13) (.seq (reg Try.f17 14) (.seq (.seq (reg Try.f17 15) (.block 2 (.seq (reg Try.f17 16) (.cond (Operand.tmp 73) (reg Try.f17 17) (.seq (reg Try.f17 18) (.cond (Operand.tmp 76) (.seq (reg Try.f17 19) (reg Try.f17 20)) Code.skip)))))) (.seq (reg Try.f17 21) Code.ret))))))))))
theorem body17 : Try.f17.body = some c17 := by kernel_rfl

noncomputable def c18 : Code := (.seq (reg Try.f18 0) (.seq (reg Try.f18 1) Code.ret))
theorem body18 : Try.f18.body = some c18 := by kernel_rfl

noncomputable def c19 : Code := (.seq (reg Try.f19 0) (.seq (reg Try.f19 1) Code.ret))
theorem body19 : Try.f19.body = some c19 := by kernel_rfl

noncomputable def b20_1 : Code := (.seq (reg Try.f20 4) (.seq (.cond (Operand.tmp 21) Code.skip (Code.exit 0)) (.seq (.block 1 (.seq (reg Try.f20 5) (.seq (reg Try.f20 6) (.cond (Operand.tmp 27) (.seq (reg Try.f20 7) Code.ret) Code.skip)))) (reg Try.f20 8))))
noncomputable def c20 : Code := (.seq (reg Try.f20 0) (.seq (.seq (reg Try.f20 1) (.cond (Operand.tmp 15) (.seq (reg Try.f20 2) Code.ret) Code.skip)) (.seq (.seq (reg Try.f20 3) (.block 0 (.loop b20_1))) (.seq (.seq (reg Try.f20 9) (.cond (Operand.tmp 40) (.seq (reg Try.f20 10) Code.ret) Code.skip)) (.seq (reg Try.f20 11) (.seq (reg Try.f20 12) Code.ret))))))
theorem body20 : Try.f20.body = some c20 := by kernel_rfl

noncomputable def b21_1 : Code := (.seq (.seq (reg Try.f21 4) (.cond (Operand.tmp 31) Code.skip (Code.exit 0))) (.seq (.block 1 (.seq (reg Try.f21 6) (.cond (Operand.tmp 42) (.seq (reg Try.f21 7) Code.ret) Code.skip))) (reg Try.f21 5)))
noncomputable def c21 : Code := (.seq (reg Try.f21 0) (.seq (.seq (reg Try.f21 1) (.cond (Operand.tmp 25) (.seq (reg Try.f21 2) Code.ret) Code.skip)) (.seq (.seq (reg Try.f21 3) (.block 0 (.loop b21_1))) (.seq (reg Try.f21 8) (.seq (reg Try.f21 9) Code.ret)))))
theorem body21 : Try.f21.body = some c21 := by kernel_rfl

noncomputable def b22_1 : Code := (.seq (.seq (reg Try.f22 3) (.cond (Operand.tmp 11) Code.skip (Code.exit 0))) (.seq (.block 1 (reg Try.f22 5)) (reg Try.f22 4)))
noncomputable def c22 : Code := (.seq (reg Try.f22 0) (.seq (reg Try.f22 1) (.seq (.seq (reg Try.f22 2) (.block 0 (.loop b22_1))) (.seq (reg Try.f22 6) Code.ret))))
theorem body22 : Try.f22.body = some c22 := by kernel_rfl

noncomputable def c23 : Code := (.seq (reg Try.f23 0) (.seq (.seq (reg Try.f23 1) (.cond (Operand.tmp 5) (.seq (reg Try.f23 2) Code.ret) Code.skip)) (.seq (reg Try.f23 3) Code.ret)))
theorem body23 : Try.f23.body = some c23 := by kernel_rfl

noncomputable def b24_1 : Code := (.seq (reg Try.f24 6) (.seq (.cond (Operand.tmp 44) Code.skip (Code.exit 0)) (.seq (.block 1 (.seq (reg Try.f24 7) (reg Try.f24 8))) (reg Try.f24 9))))
noncomputable def b24_2 : Code := (.seq (reg Try.f24 16) (.seq (.cond (Operand.tmp 80) Code.skip (Code.exit 2)) (.seq (.block 3 (.seq (reg Try.f24 17) (.seq (reg Try.f24 18) (.seq (reg Try.f24 19) (.seq (reg Try.f24 20) (.seq (reg Try.f24 21) (reg Try.f24 22))))))) (reg Try.f24 23))))
noncomputable def c24 : Code := (.seq (reg Try.f24 0) (.seq (.seq (reg Try.f24 1) (.seq (reg Try.f24 2) (.cond (Operand.tmp 36) (.seq (reg Try.f24 3) Code.ret) Code.skip))) (.seq (reg Try.f24 4) (.seq (.seq (reg Try.f24 5) (.block 0 (.loop b24_1))) (.seq (reg Try.f24 10) (.seq (.seq (reg Try.f24 11) (.cond (Operand.tmp 73) (.seq (reg Try.f24 12) Code.ret) Code.skip)) (.seq (reg Try.f24 13) (.seq (reg Try.f24 14) (.seq (.seq (reg Try.f24 15) (.block 2 (.loop b24_2))) (.seq (reg Try.f24 24) (.seq (.seq (reg Try.f24 25) (.cond (Operand.tmp 122) (.seq (reg Try.f24 26) Code.ret) Code.skip)) (.seq (.seq (reg Try.f24 27) (.seq (reg Try.f24 28) (.cond (Operand.tmp 127) (.seq (reg Try.f24 29) Code.ret) Code.skip))) (.seq (reg Try.f24 30) (.seq (.seq (reg Try.f24 31) (.cond (Operand.tmp 148) (.seq (reg Try.f24 32) (.seq (reg Try.f24 33) (.seq (reg Try.f24 34) (.seq (reg Try.f24 35) (.seq (reg Try.f24 36) (.cond (Operand.tmp 176) (.seq (reg Try.f24 37) Code.ret) Code.skip)))))) Code.skip)) (.seq (.seq (reg Try.f24 38) (.cond (Operand.tmp 180) (.seq (reg Try.f24 39) Code.ret) Code.skip)) (.seq (reg Try.f24 40) (.seq (reg Try.f24 41) Code.ret)))))))))))))))))
theorem body24 : Try.f24.body = some c24 := by kernel_rfl

noncomputable def c25 : Code := (.seq (reg Try.f25 0) (.seq (reg Try.f25 1) Code.ret))
theorem body25 : Try.f25.body = some c25 := by kernel_rfl

noncomputable def b26_1 : Code := (.seq (reg Try.f26 7) (.seq (.cond (Operand.tmp 27) Code.skip (Code.exit 0)) (.seq (.block 1 (.seq (reg Try.f26 8) (.seq (reg Try.f26 9) (.cond (Operand.tmp 40) (.seq (reg Try.f26 10) Code.ret) Code.skip)))) (reg Try.f26 11))))
noncomputable def b26_2 : Code := (.seq (reg Try.f26 14) (.seq (.cond (Operand.tmp 45) Code.skip (Code.exit 2)) (.seq (.block 3 (.seq (reg Try.f26 15) (.seq (.seq (reg Try.f26 16) (.cond (Operand.tmp 57) (.seq (reg Try.f26 17) Code.ret) Code.skip)) (reg Try.f26 18)))) (reg Try.f26 19))))
noncomputable def b26_3 : Code := (.seq (reg Try.f26 23) (.seq (.cond (Operand.tmp 70) Code.skip (Code.exit 4)) (.seq (.block 5 (.seq (reg Try.f26 24) (reg Try.f26 25))) (reg Try.f26 26))))
noncomputable def c26 : Code := (.seq (reg Try.f26 0) (.seq (.seq (reg Try.f26 1) (.seq (reg Try.f26 2) (.cond (Operand.tmp 16) (.seq (reg Try.f26 3) Code.ret) Code.skip))) (.seq (.seq (reg Try.f26 4) (.cond (Operand.tmp 23) (.seq (reg Try.f26 5) Code.ret) Code.skip)) (.seq (.seq (reg Try.f26 6) (.block 0 (.loop b26_1))) (.seq (reg Try.f26 12) (.seq (.seq (reg Try.f26 13) (.block 2 (.loop b26_2))) (.seq (.seq (reg Try.f26 20) (.cond (Operand.tmp 65) (.seq (reg Try.f26 21) Code.ret) Code.skip)) (.seq (.seq (reg Try.f26 22) (.block 4 (.loop b26_3))) (.seq (.seq (reg Try.f26 27) (.cond (Operand.tmp 79) (.seq (reg Try.f26 28) Code.ret) Code.skip)) (.seq (reg Try.f26 29) Code.ret))))))))))
theorem body26 : Try.f26.body = some c26 := by kernel_rfl

noncomputable def c27 : Code := (.seq (reg Try.f27 0) (.seq (.seq (reg Try.f27 1) (.cond (Operand.tmp 7) (.seq (reg Try.f27 2) Code.ret) Code.skip)) (.seq (reg Try.f27 3) (.seq (reg Try.f27 4) Code.ret))))
theorem body27 : Try.f27.body = some c27 := by kernel_rfl

noncomputable def c28 : Code := (.seq (reg Try.f28 0) (.seq (reg Try.f28 1) Code.ret))
theorem body28 : Try.f28.body = some c28 := by kernel_rfl

noncomputable def c29 : Code := (.seq (reg Try.f29 0) (.seq (reg Try.f29 1) Code.ret))
theorem body29 : Try.f29.body = some c29 := by kernel_rfl

noncomputable def c30 : Code := (.seq (reg Try.f30 0) (.seq (reg Try.f30 1) Code.ret))
theorem body30 : Try.f30.body = some c30 := by kernel_rfl

noncomputable def c31 : Code := (.seq (reg Try.f31 0) (.seq (.seq (reg Try.f31 1) (.cond (Operand.tmp 4) (.seq (reg Try.f31 2) Code.ret) Code.skip)) (.seq (reg Try.f31 3) Code.ret)))
theorem body31 : Try.f31.body = some c31 := by kernel_rfl

noncomputable def c32 : Code := (.seq (reg Try.f32 0) (.seq (.seq (reg Try.f32 1) (.cond (Operand.tmp 5) (.seq (reg Try.f32 2) Code.ret) Code.skip)) (.seq (reg Try.f32 3) Code.ret)))
theorem body32 : Try.f32.body = some c32 := by kernel_rfl

noncomputable def c33 : Code := (.seq (reg Try.f33 0) (.seq (.seq (reg Try.f33 1) (.cond (Operand.tmp 5) (.seq (reg Try.f33 2) Code.ret) Code.skip)) (.seq (reg Try.f33 3) Code.ret)))
theorem body33 : Try.f33.body = some c33 := by kernel_rfl

noncomputable def b34_1 : Code := (.seq (.seq (reg Try.f34 3) (.cond (Operand.tmp 9) Code.skip (Code.exit 0))) (.seq (.block 1 (reg Try.f34 5)) (reg Try.f34 4)))
noncomputable def c34 : Code := (.seq (reg Try.f34 0) (.seq (reg Try.f34 1) (.seq (.seq (reg Try.f34 2) (.block 0 (.loop b34_1))) (.seq (reg Try.f34 6) (.seq (reg Try.f34 7) Code.ret)))))
theorem body34 : Try.f34.body = some c34 := by kernel_rfl

noncomputable def b35_1 : Code := (.seq (reg Try.f35 9) (.seq (.cond (Operand.tmp 28) Code.skip (Code.exit 0)) (.seq (.block 1 (.seq (reg Try.f35 10) (.seq (.seq (reg Try.f35 11) (.cond (Operand.tmp 34) (.seq (reg Try.f35 12) Code.ret) Code.skip)) (reg Try.f35 13)))) (reg Try.f35 14))))
noncomputable def c35 : Code := (.seq (reg Try.f35 0) (.seq (.seq (reg Try.f35 1) (.cond (Operand.tmp 8) (.seq (reg Try.f35 2) Code.ret) Code.skip)) (.seq (.seq (reg Try.f35 3) (.cond (Operand.tmp 18) (.seq (reg Try.f35 4) Code.ret) Code.skip)) (.seq (.seq (reg Try.f35 5) (.cond (Operand.tmp 22) (.seq (reg Try.f35 6) Code.ret) Code.skip)) (.seq (reg Try.f35 7) (.seq (.seq (reg Try.f35 8) (.block 0 (.loop b35_1))) (.seq (.seq (reg Try.f35 15) (.cond (Operand.tmp 46) (.seq (reg Try.f35 16) Code.ret) Code.skip)) (.seq (reg Try.f35 17) Code.ret))))))))
theorem body35 : Try.f35.body = some c35 := by kernel_rfl

noncomputable def c36 : Code := (.seq (reg Try.f36 0) (.seq (reg Try.f36 1) Code.ret))
theorem body36 : Try.f36.body = some c36 := by kernel_rfl

noncomputable def b37_1 : Code := (.seq (reg Try.f37 7) (.seq (.cond (Operand.tmp 27) Code.skip (Code.exit 0)) (.seq (.block 1 (.seq (reg Try.f37 8) (.seq (reg Try.f37 9) (.cond (Operand.tmp 39) (.seq (reg Try.f37 10) Code.ret) Code.skip)))) (reg Try.f37 11))))
noncomputable def b37_2 : Code := (.seq (reg Try.f37 16) (.seq (.cond (Operand.tmp 52) Code.skip (Code.exit 2)) (.seq (.block 3 (.seq (reg Try.f37 17) (reg Try.f37 18))) (reg Try.f37 19))))
noncomputable def c37 : Code := (.seq (reg Try.f37 0) (.seq (.seq (reg Try.f37 1) (.seq (reg Try.f37 2) (.cond (Operand.tmp 16) (.seq (reg Try.f37 3) Code.ret) Code.skip))) (.seq (.seq (reg Try.f37 4) (.cond (Operand.tmp 23) (.seq (reg Try.f37 5) Code.ret) Code.skip)) (.seq (.seq (reg Try.f37 6) (.block 0 (.loop b37_1))) (.seq (reg Try.f37 12) (.seq (.seq (reg Try.f37 13) (.cond (Operand.tmp 47) (.seq (reg Try.f37 14) Code.ret) Code.skip)) (.seq (.seq (reg Try.f37 15) (.block 2 (.loop b37_2))) (.seq (.seq (reg Try.f37 20) (.cond (Operand.tmp 61) (.seq (reg Try.f37 21) Code.ret) Code.skip)) (.seq (reg Try.f37 22) Code.ret)))))))))
theorem body37 : Try.f37.body = some c37 := by kernel_rfl

noncomputable def b38_1 : Code := (.seq (reg Try.f38 7) (.seq (.cond (Operand.tmp 27) Code.skip (Code.exit 0)) (.seq (.block 1 (.seq (reg Try.f38 8) (.seq (.seq (reg Try.f38 9) (.cond (Operand.tmp 32) (.seq (reg Try.f38 10) Code.ret) Code.skip)) (reg Try.f38 11)))) (reg Try.f38 12))))
noncomputable def b38_3 : Code := (.seq (.seq (reg Try.f38 19) (.cond (Operand.tmp 48) Code.skip (Code.exit 4))) (.seq (.block 5 (.seq (reg Try.f38 21) (.cond (Operand.tmp 63) (.seq (reg Try.f38 22) Code.ret) Code.skip))) (reg Try.f38 20)))
noncomputable def b38_2 : Code := (.seq (reg Try.f38 16) (.seq (.cond (Operand.tmp 44) Code.skip (Code.exit 2)) (.seq (.block 3 (.seq (reg Try.f38 17) (.seq (reg Try.f38 18) (.block 4 (.loop b38_3))))) (reg Try.f38 23))))
noncomputable def b38_4 : Code := (.seq (reg Try.f38 25) (.seq (.cond (Operand.tmp 69) Code.skip (Code.exit 6)) (.seq (.block 7 (.seq (reg Try.f38 26) (.seq (reg Try.f38 27) (.cond (Operand.tmp 79) (.seq (reg Try.f38 28) Code.ret) Code.skip)))) (reg Try.f38 29))))
noncomputable def c38 : Code := (.seq (reg Try.f38 0) (.seq (.seq (reg Try.f38 1) (.cond (Operand.tmp 12) (.seq (reg Try.f38 2) Code.ret) Code.skip)) (.seq (.seq (reg Try.f38 3) (.cond (Operand.tmp 22) (.seq (reg Try.f38 4) Code.ret) Code.skip)) (.seq (reg Try.f38 5) (.seq (.seq (reg Try.f38 6) (.block 0 (.loop b38_1))) (.seq (.seq (reg Try.f38 13) (.cond (Operand.tmp 39) (.seq (reg Try.f38 14) Code.ret) Code.skip)) (.seq (.seq (reg Try.f38 15) (.block 2 (.loop b38_2))) (.seq (.seq (reg Try.f38 24) (.block 6 (.loop b38_4))) (.seq (reg Try.f38 30) Code.ret)))))))))
theorem body38 : Try.f38.body = some c38 := by kernel_rfl

noncomputable def c39 : Code := (.seq (reg Try.f39 0) (.seq (reg Try.f39 1) Code.ret))
theorem body39 : Try.f39.body = some c39 := by kernel_rfl

noncomputable def b40_1 : Code := (.seq (reg Try.f40 4) (.seq (.cond (Operand.tmp 27) Code.skip (Code.exit 0)) (.seq (.block 1 (.seq (reg Try.f40 5) (.seq (reg Try.f40 6) (.seq (reg Try.f40 7) (.cond (Operand.tmp 49) (.seq (reg Try.f40 8) Code.ret) Code.skip))))) (reg Try.f40 9))))
noncomputable def b40_2 : Code := (.seq (reg Try.f40 14) (.seq (.cond (Operand.tmp 60) Code.skip (Code.exit 2)) (.seq (.block 3 (.seq (reg Try.f40 15) (.seq (reg Try.f40 16) (.cond (Operand.tmp 66) (.seq (reg Try.f40 17) Code.ret) Code.skip)))) (reg Try.f40 18))))
noncomputable def b40_3 : Code := (.seq (reg Try.f40 21) (.seq (.cond (Operand.tmp 72) Code.skip (Code.exit 4)) (.seq (.block 5 (.seq (reg Try.f40 22) (.seq (.seq (reg Try.f40 23) (.cond (Operand.tmp 79) (.seq (reg Try.f40 24) Code.ret) Code.skip)) (reg Try.f40 25)))) (reg Try.f40 26))))
noncomputable def c40 : Code := (.seq (reg Try.f40 0) (.seq (.seq (reg Try.f40 1) (.cond (Operand.tmp 23) (.seq (reg Try.f40 2) Code.ret) Code.skip)) (.seq (.seq (reg Try.f40 3) (.block 0 (.loop b40_1))) (.seq (.seq (reg Try.f40 10) (.seq (reg Try.f40 11) (.cond (Operand.tmp 55) (.seq (reg Try.f40 12) Code.ret) Code.skip))) (.seq (.seq (reg Try.f40 13) (.block 2 (.loop b40_2))) (.seq (reg Try.f40 19) (.seq (.seq (reg Try.f40 20) (.block 4 (.loop b40_3))) (.seq (reg Try.f40 27) Code.ret))))))))
theorem body40 : Try.f40.body = some c40 := by kernel_rfl

noncomputable def c41 : Code := (.seq (reg Try.f41 0) (.seq (.seq (reg Try.f41 1) (.cond (Operand.tmp 4) (.seq (reg Try.f41 2) Code.ret) Code.skip)) (.seq (reg Try.f41 3) Code.ret)))
theorem body41 : Try.f41.body = some c41 := by kernel_rfl

noncomputable def b42_1 : Code := (.seq (reg Try.f42 4) (.seq (.cond (Operand.tmp 22) Code.skip (Code.exit 0)) (.seq (.block 1 (.seq (reg Try.f42 5) (.seq (reg Try.f42 6) (.seq (reg Try.f42 7) (.cond (Operand.tmp 35) (.seq (reg Try.f42 8) (reg Try.f42 9)) Code.skip))))) (reg Try.f42 10))))
noncomputable def b42_2 : Code := (.seq (reg Try.f42 16) (.seq (.cond (Operand.tmp 59) Code.skip (Code.exit 2)) (.seq (.block 3 (.seq (reg Try.f42 17) (reg Try.f42 18))) (reg Try.f42 19))))
noncomputable def c42 : Code := (.seq (reg Try.f42 0) (.seq (reg Try.f42 1) (.seq (reg Try.f42 2) (.seq (.seq (reg Try.f42 3) (.block 0 (.loop b42_1))) (.seq (reg Try.f42 11) (.seq (.seq (reg Try.f42 12) (.cond (Operand.tmp 53) (.seq (reg Try.f42 13) Code.ret) Code.skip)) (.seq (reg Try.f42 14) (.seq (.seq (reg Try.f42 15) (.block 2 (.loop b42_2))) (.seq (reg Try.f42 20) Code.ret)))))))))
theorem body42 : Try.f42.body = some c42 := by kernel_rfl

noncomputable def b43_1 : Code := (.seq (reg Try.f43 3) (.seq (.cond (Operand.tmp 9) Code.skip (Code.exit 0)) (.seq (.block 1 (.seq (reg Try.f43 4) (reg Try.f43 5))) (reg Try.f43 6))))
noncomputable def c43 : Code := (.seq (reg Try.f43 0) (.seq (reg Try.f43 1) (.seq (.seq (reg Try.f43 2) (.block 0 (.loop b43_1))) (.seq (reg Try.f43 7) Code.ret))))
theorem body43 : Try.f43.body = some c43 := by kernel_rfl

noncomputable def c44 : Code := (.seq (reg Try.f44 0) (.seq (reg Try.f44 1) Code.ret))
theorem body44 : Try.f44.body = some c44 := by kernel_rfl

noncomputable def c45 : Code := (.seq (reg Try.f45 0) (.seq (reg Try.f45 1) Code.ret))
theorem body45 : Try.f45.body = some c45 := by kernel_rfl

noncomputable def b46_1 : Code := (.seq (reg Try.f46 4) (.seq (.cond (Operand.tmp 23) Code.skip (Code.exit 0)) (.seq (.block 1 (.seq (reg Try.f46 5) (.seq (reg Try.f46 6) (.cond (Operand.tmp 34) (.seq (reg Try.f46 7) Code.ret) Code.skip)))) (reg Try.f46 8))))
noncomputable def b46_3 : Code := (.seq (reg Try.f46 15) (.seq (.cond (Operand.tmp 51) Code.skip (Code.exit 4)) (.seq (.block 5 (.seq (reg Try.f46 16) (.seq (reg Try.f46 17) (.cond (Operand.tmp 56) (.seq (reg Try.f46 18) Code.ret) Code.skip)))) (reg Try.f46 19))))
noncomputable def b46_2 : Code := (.seq (reg Try.f46 10) (.seq (.cond (Operand.tmp 40) Code.skip (Code.exit 2)) (.seq (.block 3 (.seq (reg Try.f46 11) (.seq (.seq (reg Try.f46 12) (.cond (Operand.tmp 46) (.seq (reg Try.f46 13) Code.ret) Code.skip)) (.seq (reg Try.f46 14) (.block 4 (.loop b46_3)))))) (reg Try.f46 20))))
noncomputable def c46 : Code := (.seq (reg Try.f46 0) (.seq (.seq (reg Try.f46 1) (.cond (Operand.tmp 18) (.seq (reg Try.f46 2) Code.ret) Code.skip)) (.seq (.seq (reg Try.f46 3) (.block 0 (.loop b46_1))) (.seq (.seq (reg Try.f46 9) (.block 2 (.loop b46_2))) (.seq (reg Try.f46 21) Code.ret)))))
theorem body46 : Try.f46.body = some c46 := by kernel_rfl

noncomputable def b47_1 : Code := (.seq (reg Try.f47 4) (.seq (.cond (Operand.tmp 28) Code.skip (Code.exit 0)) (.seq (.block 1 (.seq (reg Try.f47 5) (.seq (reg Try.f47 6) (reg Try.f47 7)))) (reg Try.f47 8))))
noncomputable def b47_2 : Code := (.seq (reg Try.f47 11) (.seq (.cond (Operand.tmp 53) Code.skip (Code.exit 2)) (.seq (.block 3 (.seq (reg Try.f47 12) (.seq (reg Try.f47 13) (reg Try.f47 14)))) (reg Try.f47 15))))
noncomputable def b47_4 : Code := (.seq (reg Try.f47 24) (.seq (.cond (Operand.tmp 94) Code.skip (Code.exit 6)) (.seq (.block 7 (.seq (reg Try.f47 25) (reg Try.f47 26))) (reg Try.f47 27))))
noncomputable def b47_3 : Code := (.seq (reg Try.f47 20) (.seq (.cond (Operand.tmp 80) Code.skip (Code.exit 4)) (.seq (.block 5 (.seq (reg Try.f47 21) (.seq (reg Try.f47 22) (.seq (reg Try.f47 23) (.block 6 (.loop b47_4)))))) (reg Try.f47 28))))
noncomputable def c47 : Code := (.seq (reg Try.f47 0) (.seq (reg Try.f47 1) (.seq (reg Try.f47 2) (.seq (.seq (reg Try.f47 3) (.block 0 (.loop b47_1))) (.seq (reg Try.f47 9) (.seq (.seq (reg Try.f47 10) (.block 2 (.loop b47_2))) (.seq (reg Try.f47 16) (.seq (.seq (reg Try.f47 17) (.cond (Operand.tmp 74) (.seq (reg Try.f47 18) Code.ret) Code.skip)) (.seq (.seq (reg Try.f47 19) (.block 4 (.loop b47_3))) (.seq (reg Try.f47 29) Code.ret))))))))))
theorem body47 : Try.f47.body = some c47 := by kernel_rfl

noncomputable def b48_1 : Code := (.seq (reg Try.f48 4) (.seq (.cond (Operand.tmp 23) Code.skip (Code.exit 0)) (.seq (.block 1 (.seq (reg Try.f48 5) (.seq (reg Try.f48 6) (.cond (Operand.tmp 34) (.seq (reg Try.f48 7) Code.ret) Code.skip)))) (reg Try.f48 8))))
noncomputable def b48_3 : Code := (.seq (reg Try.f48 15) (.seq (.cond (Operand.tmp 51) Code.skip (Code.exit 4)) (.seq (.block 5 (.seq (reg Try.f48 16) (.seq (reg Try.f48 17) (.cond (Operand.tmp 56) (.seq (reg Try.f48 18) Code.ret) Code.skip)))) (reg Try.f48 19))))
noncomputable def b48_2 : Code := (.seq (reg Try.f48 10) (.seq (.cond (Operand.tmp 40) Code.skip (Code.exit 2)) (.seq (.block 3 (.seq (reg Try.f48 11) (.seq (.seq (reg Try.f48 12) (.cond (Operand.tmp 46) (.seq (reg Try.f48 13) Code.ret) Code.skip)) (.seq (reg Try.f48 14) (.block 4 (.loop b48_3)))))) (reg Try.f48 20))))
noncomputable def c48 : Code := (.seq (reg Try.f48 0) (.seq (.seq (reg Try.f48 1) (.cond (Operand.tmp 18) (.seq (reg Try.f48 2) Code.ret) Code.skip)) (.seq (.seq (reg Try.f48 3) (.block 0 (.loop b48_1))) (.seq (.seq (reg Try.f48 9) (.block 2 (.loop b48_2))) (.seq (reg Try.f48 21) Code.ret)))))
theorem body48 : Try.f48.body = some c48 := by kernel_rfl

noncomputable def b49_1 : Code := (.seq (reg Try.f49 4) (.seq (.cond (Operand.tmp 27) Code.skip (Code.exit 0)) (.seq (.block 1 (.seq (reg Try.f49 5) (reg Try.f49 6))) (reg Try.f49 7))))
noncomputable def b49_2 : Code := (.seq (reg Try.f49 10) (.seq (.cond (Operand.tmp 49) Code.skip (Code.exit 2)) (.seq (.block 3 (.seq (reg Try.f49 11) (reg Try.f49 12))) (reg Try.f49 13))))
noncomputable def b49_4 : Code := (.seq (reg Try.f49 21) (.seq (.cond (Operand.tmp 80) Code.skip (Code.exit 6)) (.seq (.block 7 (.seq (reg Try.f49 22) (reg Try.f49 23))) (reg Try.f49 24))))
noncomputable def b49_3 : Code := (.seq (reg Try.f49 16) (.seq (.cond (Operand.tmp 65) Code.skip (Code.exit 4)) (.seq (.block 5 (.seq (reg Try.f49 17) (.seq (.seq (reg Try.f49 18) (.cond (Operand.tmp 69) (Code.exit 4) Code.skip)) (.seq (reg Try.f49 19) (.seq (reg Try.f49 20) (.block 6 (.loop b49_4))))))) (reg Try.f49 25))))
noncomputable def c49 : Code := (.seq (reg Try.f49 0) (.seq (reg Try.f49 1) (.seq (reg Try.f49 2) (.seq (.seq (reg Try.f49 3) (.block 0 (.loop b49_1))) (.seq (reg Try.f49 8) (.seq (.seq (reg Try.f49 9) (.block 2 (.loop b49_2))) (.seq (reg Try.f49 14) (.seq (.seq (reg Try.f49 15) (.block 4 (.loop b49_3))) (.seq (reg Try.f49 26) Code.ret)))))))))
theorem body49 : Try.f49.body = some c49 := by kernel_rfl

noncomputable def b50_1 : Code := (.seq (reg Try.f50 3) (.seq (.cond (Operand.tmp 9) Code.skip (Code.exit 0)) (.seq (.block 1 (.seq (reg Try.f50 4) (.seq (.seq (reg Try.f50 5) (.cond (Operand.tmp 16) (.seq (reg Try.f50 6) Code.ret) Code.skip)) (reg Try.f50 7)))) (reg Try.f50 8))))
noncomputable def c50 : Code := (.seq (reg Try.f50 0) (.seq (reg Try.f50 1) (.seq (.seq (reg Try.f50 2) (.block 0 (.loop b50_1))) (.seq (reg Try.f50 9) Code.ret))))
theorem body50 : Try.f50.body = some c50 := by kernel_rfl

noncomputable def c51 : Code := (.seq (reg Try.f51 0) (.seq (reg Try.f51 1) Code.ret))
theorem body51 : Try.f51.body = some c51 := by kernel_rfl

noncomputable def b52_1 : Code := (.seq (reg Try.f52 3) (.seq (.cond (Operand.tmp 10) Code.skip (Code.exit 0)) (.seq (.block 1 (.seq (reg Try.f52 4) (.seq (.seq (reg Try.f52 5) (.cond (Operand.tmp 24) (.seq (reg Try.f52 6) Code.ret) Code.skip)) (reg Try.f52 7)))) (reg Try.f52 8))))
noncomputable def c52 : Code := (.seq (reg Try.f52 0) (.seq (reg Try.f52 1) (.seq (.seq (reg Try.f52 2) (.block 0 (.loop b52_1))) (.seq (reg Try.f52 9) Code.ret))))
theorem body52 : Try.f52.body = some c52 := by kernel_rfl

noncomputable def c53 : Code := (.seq (reg Try.f53 0) (.seq (reg Try.f53 1) Code.ret))
theorem body53 : Try.f53.body = some c53 := by kernel_rfl

noncomputable def b54_1 : Code := (.seq (reg Try.f54 4) (.seq (.cond (Operand.tmp 16) Code.skip (Code.exit 0)) (.seq (.block 1 (.seq (reg Try.f54 5) (.seq (reg Try.f54 6) (.cond (Operand.tmp 21) (.seq (reg Try.f54 7) Code.ret) Code.skip)))) (reg Try.f54 8))))
noncomputable def b54_2 : Code := (.seq (reg Try.f54 13) (.seq (.cond (Operand.tmp 34) Code.skip (Code.exit 2)) (.seq (.block 3 (.seq (reg Try.f54 14) (.seq (.seq (reg Try.f54 15) (.cond (Operand.tmp 41) (.seq (reg Try.f54 16) Code.ret) Code.skip)) (reg Try.f54 17)))) (reg Try.f54 18))))
noncomputable def c54 : Code := (.seq (reg Try.f54 0) (.seq (.seq (reg Try.f54 1) (.cond (Operand.tmp 12) (.seq (reg Try.f54 2) Code.ret) Code.skip)) (.seq (.seq (reg Try.f54 3) (.block 0 (.loop b54_1))) (.seq (.seq (reg Try.f54 9) (.cond (Operand.tmp 30) (.seq (reg Try.f54 10) Code.ret) Code.skip)) (.seq (reg Try.f54 11) (.seq (.seq (reg Try.f54 12) (.block 2 (.loop b54_2))) (.seq (reg Try.f54 19) Code.ret)))))))
theorem body54 : Try.f54.body = some c54 := by kernel_rfl

noncomputable def c55 : Code := (.seq (reg Try.f55 0) (.seq (reg Try.f55 1) Code.ret))
theorem body55 : Try.f55.body = some c55 := by kernel_rfl

noncomputable def c56 : Code := (.seq (reg Try.f56 0) (.seq (.seq (reg Try.f56 1) (.seq (reg Try.f56 2) (.cond (Operand.tmp 14) (.seq (reg Try.f56 3) Code.ret) Code.skip))) (.seq (.seq (reg Try.f56 4) (.cond (Operand.tmp 20) (.seq (reg Try.f56 5) Code.ret) Code.skip)) (.seq (reg Try.f56 6) (.seq (reg Try.f56 7) (.seq (reg Try.f56 8) (.seq (reg Try.f56 9) (.seq (.seq (reg Try.f56 10) (.cond (Operand.tmp 36) (.seq (reg Try.f56 11) Code.ret) Code.skip)) (.seq (reg Try.f56 12) Code.ret)))))))))
theorem body56 : Try.f56.body = some c56 := by kernel_rfl

noncomputable def c57 : Code := (.seq (reg Try.f57 0) (.seq (reg Try.f57 1) Code.ret))
theorem body57 : Try.f57.body = some c57 := by kernel_rfl

noncomputable def c58 : Code := (.seq (reg Try.f58 0) (.seq (.block 0 (.seq (reg Try.f58 1) (.cond (Operand.tmp 5) (.seq (reg Try.f58 2) Code.ret) (.seq (reg Try.f58 3) (.cond (Operand.tmp 13) (.seq (reg Try.f58 4) Code.ret) (.seq (reg Try.f58 5) (.cond (Operand.tmp 22) (.seq (reg Try.f58 6) Code.ret) Code.skip))))))) (.seq (reg Try.f58 7) Code.ret)))
theorem body58 : Try.f58.body = some c58 := by kernel_rfl

noncomputable def c59 : Code := (.seq (reg Try.f59 0) (.seq (reg Try.f59 1) Code.ret))
theorem body59 : Try.f59.body = some c59 := by kernel_rfl

noncomputable def c60 : Code := (.seq (reg Try.f60 0) (.seq (reg Try.f60 1) Code.ret))
theorem body60 : Try.f60.body = some c60 := by kernel_rfl

noncomputable def c61 : Code := (.seq (reg Try.f61 0) (.seq (reg Try.f61 1) Code.ret))
theorem body61 : Try.f61.body = some c61 := by kernel_rfl

noncomputable def c62 : Code := (.seq (reg Try.f62 0) (.seq (reg Try.f62 1) Code.ret))
theorem body62 : Try.f62.body = some c62 := by kernel_rfl

noncomputable def c63 : Code := (.seq (reg Try.f63 0) (.seq (.block 0 (.seq (reg Try.f63 1) (.cond (Operand.tmp 5) (.seq (reg Try.f63 2) Code.ret) (.seq (reg Try.f63 3) (.cond (Operand.tmp 12) (.seq (reg Try.f63 4) Code.ret) (.seq (reg Try.f63 5) (.cond (Operand.tmp 21) (.seq (reg Try.f63 6) Code.ret) Code.skip))))))) (.seq (reg Try.f63 7) Code.ret)))
theorem body63 : Try.f63.body = some c63 := by kernel_rfl

noncomputable def c64 : Code := (.seq (reg Try.f64 0) (.seq (reg Try.f64 1) Code.ret))
theorem body64 : Try.f64.body = some c64 := by kernel_rfl

noncomputable def c65 : Code := (.seq (reg Try.f65 0) (.seq (reg Try.f65 1) Code.ret))
theorem body65 : Try.f65.body = some c65 := by kernel_rfl

noncomputable def c66 : Code := (.seq (reg Try.f66 0) (.seq (reg Try.f66 1) Code.ret))
theorem body66 : Try.f66.body = some c66 := by kernel_rfl

noncomputable def b67_1 : Code := (.seq (reg Try.f67 4) (.seq (.cond (Operand.tmp 13) Code.skip (Code.exit 0)) (.seq (.block 1 (.seq (reg Try.f67 5) (.seq (reg Try.f67 6) (.cond (Operand.tmp 21) (.seq (reg Try.f67 7) Code.ret) Code.skip)))) (reg Try.f67 8))))
noncomputable def c67 : Code := (.seq (reg Try.f67 0) (.seq (.seq (reg Try.f67 1) (.cond (Operand.tmp 9) (.seq (reg Try.f67 2) Code.ret) Code.skip)) (.seq (.seq (reg Try.f67 3) (.block 0 (.loop b67_1))) (.seq (.seq (reg Try.f67 9) (.cond (Operand.tmp 28) (.seq (reg Try.f67 10) Code.ret) Code.skip)) (.seq (reg Try.f67 11) Code.ret)))))
theorem body67 : Try.f67.body = some c67 := by kernel_rfl

noncomputable def b68_1 : Code := (.seq (reg Try.f68 3) (.seq (.cond (Operand.tmp 9) Code.skip (Code.exit 0)) (.seq (.block 1 (.seq (reg Try.f68 4) (reg Try.f68 5))) (reg Try.f68 6))))
noncomputable def c68 : Code := (.seq (reg Try.f68 0) (.seq (reg Try.f68 1) (.seq (.seq (reg Try.f68 2) (.block 0 (.loop b68_1))) (.seq (reg Try.f68 7) Code.ret))))
theorem body68 : Try.f68.body = some c68 := by kernel_rfl

noncomputable def c69 : Code := (.seq (.seq (reg Try.f69 0) (.cond (Operand.tmp 11) (.seq (.seq (reg Try.f69 1) (.cond (Operand.tmp 27) (reg Try.f69 2) Code.skip)) Code.ret) Code.skip)) (.seq (.seq (reg Try.f69 3) (.cond (Operand.tmp 44) Code.ret Code.skip)) (.seq (reg Try.f69 4) (.seq (reg Try.f69 5) (.seq (reg Try.f69 6) (reg Try.f69 7))))))
theorem body69 : Try.f69.body = some c69 := by kernel_rfl

noncomputable def c70 : Code := (.seq (.seq (reg Try.f70 0) (.cond (Operand.tmp 11) Code.ret Code.skip)) (.seq (.seq (reg Try.f70 1) (.cond (Operand.tmp 24) (.seq (reg Try.f70 2) Code.ret) Code.skip)) (.seq (reg Try.f70 3) (.seq (reg Try.f70 4) (reg Try.f70 5)))))
theorem body70 : Try.f70.body = some c70 := by kernel_rfl

noncomputable def c71 : Code := (.seq (reg Try.f71 0) (.seq (reg Try.f71 1) (.seq (reg Try.f71 2) (.seq (reg Try.f71 3) Code.ret))))
theorem body71 : Try.f71.body = some c71 := by kernel_rfl

noncomputable def b72_1 : Code := (.seq (reg Try.f72 3) (.seq (.cond (Operand.tmp 11) Code.skip (Code.exit 0)) (.seq (.block 1 (.seq (reg Try.f72 4) (reg Try.f72 5))) (reg Try.f72 6))))
noncomputable def c72 : Code := (.seq (reg Try.f72 0) (.seq (reg Try.f72 1) (.seq (.seq (reg Try.f72 2) (.block 0 (.loop b72_1))) (.seq (reg Try.f72 7) Code.ret))))
theorem body72 : Try.f72.body = some c72 := by kernel_rfl

noncomputable def c73 : Code := (.seq (reg Try.f73 0) (.seq (reg Try.f73 1) Code.ret))
theorem body73 : Try.f73.body = some c73 := by kernel_rfl

noncomputable def c74 : Code := (.seq (reg Try.f74 0) (.seq (reg Try.f74 1) Code.ret))
theorem body74 : Try.f74.body = some c74 := by kernel_rfl

noncomputable def c75 : Code := (.seq (reg Try.f75 0) (.seq (reg Try.f75 1) (.seq (reg Try.f75 2) Code.ret)))
theorem body75 : Try.f75.body = some c75 := by kernel_rfl

noncomputable def b76_1 : Code := (.seq (reg Try.f76 3) (.seq (.cond (Operand.tmp 12) Code.skip (Code.exit 0)) (.seq (.block 1 (.seq (reg Try.f76 4) (reg Try.f76 5))) (reg Try.f76 6))))
noncomputable def c76 : Code := (.seq (reg Try.f76 0) (.seq (reg Try.f76 1) (.seq (.seq (reg Try.f76 2) (.block 0 (.loop b76_1))) (.seq (reg Try.f76 7) Code.ret))))
theorem body76 : Try.f76.body = some c76 := by kernel_rfl

noncomputable def c77 : Code := (.seq (reg Try.f77 0) (.seq (reg Try.f77 1) Code.ret))
theorem body77 : Try.f77.body = some c77 := by kernel_rfl

noncomputable def c78 : Code := (.seq (reg Try.f78 0) (.seq (reg Try.f78 1) Code.ret))
theorem body78 : Try.f78.body = some c78 := by kernel_rfl

noncomputable def c79 : Code := (.seq (reg Try.f79 0) (.seq (.seq (reg Try.f79 1) (.cond (Operand.tmp 4) (.seq (reg Try.f79 2) Code.ret) Code.skip)) (.seq (reg Try.f79 3) Code.ret)))
theorem body79 : Try.f79.body = some c79 := by kernel_rfl

noncomputable def c80 : Code := (.seq (reg Try.f80 0) (.seq (reg Try.f80 1) Code.ret))
theorem body80 : Try.f80.body = some c80 := by kernel_rfl

end Go.Proofs.Ytanhccemhpmnhaa
