import Derived.Test.YtbjhgolpnjokbaaTt
namespace Go.Proofs.Ytbjhgolpnjokbaa
open Go.Av
set_option maxRecDepth 1000000
noncomputable def c3 : Code := (.seq (reg Try.f3 0) (.seq (.seq (reg Try.f3 1) (.cond (Operand.tmp 23) (.seq (reg Try.f3 2) Code.ret) Code.skip)) (.seq (reg Try.f3 3) (.seq (reg Try.f3 4) (.seq (reg Try.f3 5) (.seq (reg Try.f3 6) (.seq (reg Try.f3 7) (.seq (reg Try.f3 8) (.seq (.seq (reg Try.f3 9) (.cond (Operand.tmp 86) (.seq (reg Try.f3 10) Code.ret) Code.skip)) (.seq (.seq (reg Try.f3 11) (.cond (Operand.tmp 88) (.seq (reg Try.f3 12) Code.ret) Code.skip)) (.seq (reg Try.f3 13) (.seq (reg Try.f3 14) (.seq (reg Try.f3 15) (.seq (.seq (reg Try.f3 16) (.cond (Operand.tmp 108) (.seq (reg Try.f3 17) Code.ret) Code.skip)) (.seq (reg Try.f3 18) Code.ret)))))))))))))))
theorem body3 : Try.f3.body = some c3 := by kernel_rfl
noncomputable def c4 : Code := (.seq (reg Try.f4 0) (.seq (reg Try.f4 1) (.seq (reg Try.f4 2) (.seq (reg Try.f4 3) (.seq (reg Try.f4 4) Code.ret)))))
theorem body4 : Try.f4.body = some c4 := by kernel_rfl
noncomputable def c5 : Code := (.seq (reg Try.f5 0) (.seq (reg Try.f5 1) (.seq (reg Try.f5 2) (.seq (reg Try.f5 3) (.seq (reg Try.f5 4) Code.ret)))))
theorem body5 : Try.f5.body = some c5 := by kernel_rfl
noncomputable def c6 : Code := (.seq (reg Try.f6 0) (.seq (reg Try.f6 1) Code.ret))
theorem body6 : Try.f6.body = some c6 := by kernel_rfl
noncomputable def b7_2 : Code := (.seq (.seq (reg Try.f7 6) (.cond (Operand.tmp 16) Code.skip (Code.exit 2))) (.seq (.block 3 (.seq (reg Try.f7 8) (.cond (Operand.tmp 21) (reg Try.f7 9) Code.skip))) (reg Try.f7 7)))
noncomputable def b7_1 : Code := (.seq (reg Try.f7 3) (.seq (.cond (Operand.tmp 13) Code.skip (Code.exit 0)) (.seq (.block 1 (.seq (reg Try.f7 4) (.seq (reg Try.f7 5) (.block 2 (.loop b7_2))))) (reg Try.f7 10))))
noncomputable def c7 : Code := (.seq (reg Try.f7 0) (.seq (reg Try.f7 1) (.seq (.seq (reg Try.f7 2) (.block 0 (.loop b7_1))) (.seq (reg Try.f7 11) Code.ret))))
theorem body7 : Try.f7.body = some c7 := by kernel_rfl
noncomputable def b8_1 : Code := (.seq (.seq (reg Try.f8 7) (.cond (Operand.tmp 37) Code.skip (Code.exit 0))) (.block 1 (.seq (reg Try.f8 8) (.block 2 (.seq (reg Try.f8 10) (.cond (Operand.tmp 55) (reg Try.f8 11) (.seq (reg Try.f8 12) (.cond (Operand.tmp 66) (reg Try.f8 13) (.seq (reg Try.f8 14) (.cond (Operand.tmp 77) (.seq (reg Try.f8 15) Code.ret) (reg Try.f8 9)))))))))))
noncomputable def c8 : Code := (.seq (reg Try.f8 0) (.seq (.seq (reg Try.f8 1) (.cond (Operand.tmp 17) (.seq (reg Try.f8 2) Code.ret) Code.skip)) (.seq (.seq (reg Try.f8 3) (.cond (Operand.tmp 24) (.seq (reg Try.f8 4) Code.ret) Code.skip)) (.seq (reg Try.f8 5) (.seq (reg Try.f8 6) (.seq (.block 0 (.loop b8_1)) (.seq (reg Try.f8 16) (.seq (reg Try.f8 17) Code.ret))))))))
theorem body8 : Try.f8.body = some c8 := by kernel_rfl
noncomputable def b9_1 : Code := (.seq (.seq (reg Try.f9 4) (.cond (Operand.tmp 25) Code.skip (Code.exit 0))) (.seq (.block 1 (.seq (reg Try.f9 6) (.cond (Operand.tmp 38) (.seq (reg Try.f9 7) Code.ret) Code.skip))) (reg Try.f9 5)))
noncomputable def c9 : Code := (.seq (reg Try.f9 0) (.seq (.seq (reg Try.f9 1) (.cond (Operand.tmp 20) (.seq (reg Try.f9 2) Code.ret) Code.skip)) (.seq (.seq (reg Try.f9 3) (.block 0 (.loop b9_1))) (.seq (reg Try.f9 8) Code.ret))))
theorem body9 : Try.f9.body = some c9 := by kernel_rfl
noncomputable def b10_1 : Code := (.seq (reg Try.f10 4) (.seq (.cond (Operand.tmp 15) Code.skip (Code.exit 0)) (.seq (.block 1 (.seq (reg Try.f10 5) (.seq (.seq (reg Try.f10 6) (.cond (Operand.tmp 31) (.seq (reg Try.f10 7) Code.ret) Code.skip)) (.seq (.seq (reg Try.f10 8) (.seq (reg Try.f10 9) (.cond (Operand.tmp 40) (.seq (reg Try.f10 10) Code.ret) Code.skip))) (.seq (reg Try.f10 11) (.cond (Operand.tmp 53) (.seq (reg Try.f10 12) Code.ret) Code.skip)))))) (reg Try.f10 13))))
noncomputable def c10 : Code := (.seq (reg Try.f10 0) (.seq (.seq (reg Try.f10 1) (.cond (Operand.tmp 10) (.seq (reg Try.f10 2) Code.ret) Code.skip)) (.seq (.seq (reg Try.f10 3) (.block 0 (.loop b10_1))) (.seq (reg Try.f10 14) Code.ret))))
theorem body10 : Try.f10.body = some c10 := by kernel_rfl
noncomputable def b11_1 : Code := (.seq (reg Try.f11 3) (.seq (.cond (Operand.tmp 12) Code.skip (Code.exit 0)) (.seq (.block 1 (.seq (reg Try.f11 4) (reg Try.f11 5))) (reg Try.f11 6))))
noncomputable def c11 : Code := (.seq (reg Try.f11 0) (.seq (reg Try.f11 1) (.seq (.seq (reg Try.f11 2) (.block 0 (.loop b11_1))) (.seq (reg Try.f11 7) Code.ret))))
theorem body11 : Try.f11.body = some c11 := by kernel_rfl
noncomputable def c12 : Code := (.seq (reg Try.f12 0) (.seq (reg Try.f12 1) Code.ret))
theorem body12 : Try.f12.body = some c12 := by kernel_rfl
noncomputable def b13_1 : Code := (.seq (.seq (reg Try.f13 5) (.cond (Operand.tmp 24) Code.skip (Code.exit 0))) (.seq (.block 1 (reg Try.f13 7)) (reg Try.f13 6)))
noncomputable def b13_2 : Code := (.seq (reg Try.f13 14) (.seq (.cond (Operand.tmp 50) Code.skip (Code.exit 2)) (.seq (.block 3 (.seq (reg Try.f13 15) (.seq (.seq (reg Try.f13 16) (.cond (Operand.tmp 61) (.seq (reg Try.f13 17) Code.ret) Code.skip)) (reg Try.f13 18)))) (reg Try.f13 19))))
noncomputable def c13 : Code := (.seq (reg Try.f13 0) (.seq (.seq (reg Try.f13 1) (.seq (reg Try.f13 2) (.cond (Operand.tmp 20) (.seq (reg Try.f13 3) Code.ret) Code.skip))) (.seq (.seq (reg Try.f13 4) (.block 0 (.loop b13_1))) (.seq (reg Try.f13 8) (.seq (.seq (reg Try.f13 9) (.cond (Operand.tmp 41) (.seq (reg Try.f13 10) Code.ret) Code.skip)) (.seq (reg Try.f13 11) (.seq (reg Try.f13 12) (.seq (.seq (reg Try.f13 13) (.block 2 (.loop b13_2))) (.seq (.block 4 (.seq (reg Try.f13 20) (.cond (Operand.tmp 71) (.seq (reg Try.f13 21) Code.ret) (.seq (reg Try.f13 22) (.cond (Operand.tmp 84) (.seq (reg Try.f13 23) Code.ret) Code.skip))))) (.seq (reg Try.f13 24) Code.ret))))))))))
theorem body13 : Try.f13.body = some c13 := by kernel_rfl
noncomputable def c14 : Code := (.seq (reg Try.f14 0) (.seq (reg Try.f14 1) Code.ret))
theorem body14 : Try.f14.body = some c14 := by kernel_rfl
noncomputable def c15 : Code := (.seq (reg Try.f15 0) (.seq (reg Try.f15 1) Code.ret))
theorem body15 : Try.f15.body = some c15 := by kernel_rfl
noncomputable def c16 : Code := (.seq (reg Try.f16 0) (.seq (reg Try.f16 1) Code.ret))
theorem body16 : Try.f16.body = some c16 := by kernel_rfl
noncomputable def c17 : Code := (.seq (reg Try.f17 0) (.seq (reg Try.f17 1) Code.ret))
theorem body17 : Try.f17.body = some c17 := by kernel_rfl
noncomputable def b18_1 : Code := (.seq (reg Try.f18 5) (.seq (.cond (Operand.tmp 18) Code.skip (Code.exit 0)) (.seq (.block 1 (.seq (reg Try.f18 6) (.seq (reg Try.f18 7) (.seq (reg Try.f18 8) (.seq (reg Try.f18 9) (reg Try.f18 10)))))) (reg Try.f18 11))))
noncomputable def c18 : Code := (.seq (reg Try.f18 0) (.seq (reg Try.f18 1) (.seq (reg Try.f18 2) (.seq (reg Try.f18 3) (.seq (.seq (reg Try.f18 4) (.block 0 (.loop b18_1))) (.seq (reg Try.f18 12) (.seq (reg Try.f18 13) (.seq (reg Try.f18 14) (.seq (.seq (reg Try.f18 15) (.block 2 (.seq (reg Try.f18 16) (.cond (Operand.tmp 73) (reg Try.f18 17) (.seq (reg Try.f18 18) (.cond (Operand.tmp 76) (.seq (reg Try.f18 19) (reg Try.f18 20)) Code.skip)))))) (.seq (reg Try.f18 21) Code.ret))))))))))
theorem body18 : Try.f18.body = some c18 := by kernel_rfl
noncomputable def c19 : Code := (.seq (reg Try.f19 0) (.seq (.seq (reg Try.f19 1) (.cond (Operand.tmp 7) (.seq (reg Try.f19 2) Code.ret) Code.skip)) (.seq (reg Try.f19 3) (.seq (reg Try.f19 4) Code.ret))))
theorem body19 : Try.f19.body = some c19 := by kernel_rfl
noncomputable def c20 : Code := (.seq (reg Try.f20 0) (.seq (reg Try.f20 1) Code.ret))
theorem body20 : Try.f20.body = some c20 := by kernel_rfl
noncomputable def c21 : Code := (.seq (reg Try.f21 0) (.seq (reg Try.f21 1) (.seq (reg Try.f21 2) (.seq (reg Try.f21 3) Code.ret))))
theorem body21 : Try.f21.body = some c21 := by kernel_rfl
noncomputable def c22 : Code := (.seq (reg Try.f22 0) (.seq (reg Try.f22 1) Code.ret))
theorem body22 : Try.f22.body = some c22 := by kernel_rfl
noncomputable def b23_1 : Code := (.seq (reg Try.f23 3) (.seq (.cond (Operand.tmp 17) Code.skip (Code.exit 0)) (.seq (.block 1 (.seq (reg Try.f23 4) (reg Try.f23 5))) (reg Try.f23 6))))
noncomputable def c23 : Code := (.seq (reg Try.f23 0) (.seq (reg Try.f23 1) (.seq (.seq (reg Try.f23 2) (.block 0 (.loop b23_1))) (.seq (reg Try.f23 7) Code.ret))))
theorem body23 : Try.f23.body = some c23 := by kernel_rfl
noncomputable def b24_1 : Code := (.seq (.seq (reg Try.f24 4) (.cond (Operand.tmp 39) Code.skip (Code.exit 0))) (.seq (.block 1 (.seq (reg Try.f24 6) (.cond (Operand.tmp 53) (.seq (reg Try.f24 7) Code.ret) Code.skip))) (reg Try.f24 5)))
noncomputable def c24 : Code := (.seq (reg Try.f24 0) (.seq (.seq (reg Try.f24 1) (.cond (Operand.tmp 34) (.seq (reg Try.f24 2) Code.ret) Code.skip)) (.seq (.seq (reg Try.f24 3) (.block 0 (.loop b24_1))) (.seq (reg Try.f24 8) Code.ret))))
theorem body24 : Try.f24.body = some c24 := by kernel_rfl
noncomputable def b25_1 : Code := (.seq (reg Try.f25 4) (.seq (.cond (Operand.tmp 21) Code.skip (Code.exit 0)) (.seq (.block 1 (.seq (reg Try.f25 5) (.seq (reg Try.f25 6) (.cond (Operand.tmp 27) (.seq (reg Try.f25 7) Code.ret) Code.skip)))) (reg Try.f25 8))))
noncomputable def c25 : Code := (.seq (reg Try.f25 0) (.seq (.seq (reg Try.f25 1) (.cond (Operand.tmp 15) (.seq (reg Try.f25 2) Code.ret) Code.skip)) (.seq (.seq (reg Try.f25 3) (.block 0 (.loop b25_1))) (.seq (.seq (reg Try.f25 9) (.cond (Operand.tmp 40) (.seq (reg Try.f25 10) Code.ret) Code.skip)) (.seq (reg Try.f25 11) (.seq (reg Try.f25 12) Code.ret))))))
theorem body25 : Try.f25.body = some c25 := by kernel_rfl
noncomputable def c26 : Code := (.seq (reg Try.f26 0) (.seq (.seq (reg Try.f26 1) (.cond (Operand.tmp 7) (.seq (reg Try.f26 2) Code.ret) Code.skip)) (.seq (reg Try.f26 3) (.seq (.seq (reg Try.f26 4) (.cond (Operand.tmp 29) (.seq (reg Try.f26 5) Code.ret) Code.skip)) (.seq (reg Try.f26 6) Code.ret)))))
theorem body26 : Try.f26.body = some c26 := by kernel_rfl
noncomputable def c27 : Code := (.seq (reg Try.f27 0) (.seq (reg Try.f27 1) Code.ret))
theorem body27 : Try.f27.body = some c27 := by kernel_rfl
noncomputable def c28 : Code := (.seq (reg Try.f28 0) (.seq (reg Try.f28 1) (.seq (reg Try.f28 2) Code.ret)))
theorem body28 : Try.f28.body = some c28 := by kernel_rfl
noncomputable def b29_1 : Code := (.seq (reg Try.f29 2) (.seq (.cond (Operand.tmp 13) Code.skip (Code.exit 0)) (.seq (.block 1 (.seq (reg Try.f29 3) (.seq (reg Try.f29 4) (.seq (reg Try.f29 5) (.cond (Operand.tmp 19) (.seq (reg Try.f29 6) Code.ret) Code.skip))))) (reg Try.f29 7))))
noncomputable def b29_2 : Code := (.seq (reg Try.f29 10) (.seq (.cond (Operand.tmp 25) Code.skip (Code.exit 2)) (.seq (.block 3 (.seq (reg Try.f29 11) (.seq (reg Try.f29 12) (.seq (reg Try.f29 13) (.cond (Operand.tmp 34) (.seq (reg Try.f29 14) Code.ret) Code.skip))))) (reg Try.f29 15))))
noncomputable def c29 : Code := (.seq (reg Try.f29 0) (.seq (.seq (reg Try.f29 1) (.block 0 (.loop b29_1))) (.seq (reg Try.f29 8) (.seq (.seq (reg Try.f29 9) (.block 2 (.loop b29_2))) (.seq (reg Try.f29 16) Code.ret)))))
theorem body29 : Try.f29.body = some c29 := by kernel_rfl
noncomputable def b30_1 : Code := (.seq (.seq (reg Try.f30 4) (.cond (Operand.tmp 13) Code.skip (Code.exit 0))) (.block 1 (.seq (reg Try.f30 5) (.seq (.seq (reg Try.f30 6) (.cond (Operand.tmp 21) (.seq (reg Try.f30 7) Code.ret) Code.skip)) (reg Try.f30 8)))))
noncomputable def c30 : Code := (.seq (reg Try.f30 0) (.seq (.seq (reg Try.f30 1) (.cond (Operand.tmp 10) (.seq (reg Try.f30 2) Code.ret) Code.skip)) (.seq (reg Try.f30 3) (.seq (.block 0 (.loop b30_1)) (.seq (reg Try.f30 9) Code.ret)))))
theorem body30 : Try.f30.body = some c30 := by kernel_rfl
noncomputable def c31 : Code := (.seq (reg Try.f31 0) (.seq (.seq (reg Try.f31 1) (.cond (Operand.tmp 14) (.seq (reg Try.f31 2) Code.ret) Code.skip)) (.seq (reg Try.f31 3) (.seq (.seq (reg Try.f31 4) (.cond (Operand.tmp 24) (.seq (reg Try.f31 5) Code.ret) Code.skip)) (.seq (.seq (reg Try.f31 6) (.seq (reg Try.f31 7) (.cond (Operand.tmp 33) (.seq (reg Try.f31 8) Code.ret) Code.skip))) (.seq (.seq (reg Try.f31 9) (.cond (Operand.tmp 53) (.seq (reg Try.f31 10) Code.ret) Code.skip)) (.seq (reg Try.f31 11) Code.ret)))))))
theorem body31 : Try.f31.body = some c31 := by kernel_rfl
noncomputable def b32_1 : Code := (.seq (reg Try.f32 3) (.seq (.cond (Operand.tmp 9) Code.skip (Code.exit 0)) (.seq (.block 1 (.seq (reg Try.f32 4) (.seq (reg Try.f32 5) (reg Try.f32 6)))) (reg Try.f32 7))))
noncomputable def c32 : Code := (.seq (reg Try.f32 0) (.seq (reg Try.f32 1) (.seq (.seq (reg Try.f32 2) (.block 0 (.loop b32_1))) (.seq (reg Try.f32 8) Code.ret))))
theorem body32 : Try.f32.body = some c32 := by kernel_rfl
noncomputable def b33_1 : Code := (.seq (reg Try.f33 3) (.seq (.cond (Operand.tmp 9) Code.skip (Code.exit 0)) (.seq (.block 1 (.seq (reg Try.f33 4) (reg Try.f33 5))) (reg Try.f33 6))))
noncomputable def c33 : Code := (.seq (reg Try.f33 0) (.seq (reg Try.f33 1) (.seq (.seq (reg Try.f33 2) (.block 0 (.loop b33_1))) (.seq (reg Try.f33 7) Code.ret))))
theorem body33 : Try.f33.body = some c33 := by kernel_rfl
noncomputable def c34 : Code := (.seq (reg Try.f34 0) (.seq (reg Try.f34 1) Code.ret))
theorem body34 : Try.f34.body = some c34 := by kernel_rfl
noncomputable def b35_1 : Code := (.seq (.seq (reg Try.f35 2) (.cond (Operand.tmp 5) Code.skip (Code.exit 0))) (.seq (.block 1 (reg Try.f35 4)) (reg Try.f35 3)))
noncomputable def c35 : Code := (.seq (reg Try.f35 0) (.seq (reg Try.f35 1) (.seq (.block 0 (.loop b35_1)) (.seq (reg Try.f35 5) Code.ret))))
theorem body35 : Try.f35.body = some c35 := by kernel_rfl
noncomputable def c36 : Code := (.seq (reg Try.f36 0) (.seq (reg Try.f36 1) Code.ret))
theorem body36 : Try.f36.body = some c36 := by kernel_rfl
noncomputable def c37 : Code := (.seq (reg Try.f37 0) (.seq (reg Try.f37 1) (.seq (.seq (reg Try.f37 2) (.cond (Operand.tmp 10) (reg Try.f37 3) Code.skip)) (.seq (reg Try.f37 4) Code.ret))))
theorem body37 : Try.f37.body = some c37 := by kernel_rfl
noncomputable def c38 : Code := (.seq (reg Try.f38 0) (.seq (reg Try.f38 1) Code.ret))
theorem body38 : Try.f38.body = some c38 := by kernel_rfl
noncomputable def b39_1 : Code := (.seq (reg Try.f39 4) (.seq (.cond (Operand.tmp 18) Code.skip (Code.exit 0)) (.seq (.block 1 (.seq (reg Try.f39 5) (.seq (reg Try.f39 6) (.seq (reg Try.f39 7) (.cond (Operand.tmp 30) (.seq (reg Try.f39 8) Code.ret) Code.skip))))) (reg Try.f39 9))))
noncomputable def c39 : Code := (.seq (reg Try.f39 0) (.seq (.seq (reg Try.f39 1) (.cond (Operand.tmp 14) (.seq (reg Try.f39 2) Code.ret) Code.skip)) (.seq (.seq (reg Try.f39 3) (.block 0 (.loop b39_1))) (.seq (reg Try.f39 10) Code.ret))))
theorem body39 : Try.f39.body = some c39 := by kernel_rfl
noncomputable def c40 : Code := (.seq (reg Try.f40 0) (.seq (reg Try.f40 1) Code.ret))
theorem body40 : Try.f40.body = some c40 := by kernel_rfl
noncomputable def c41 : Code := (.seq (reg Try.f41 0) (.seq (reg Try.f41 1) Code.ret))
theorem body41 : Try.f41.body = some c41 := by kernel_rfl
noncomputable def c42 : Code := (.seq (reg Try.f42 0) (.seq (reg Try.f42 1) Code.ret))
theorem body42 : Try.f42.body = some c42 := by kernel_rfl
noncomputable def b43_1 : Code := (.seq (reg Try.f43 4) (.seq (.cond (Operand.tmp 18) Code.skip (Code.exit 0)) (.seq (.block 1 (.seq (reg Try.f43 5) (.seq (reg Try.f43 6) (.seq (reg Try.f43 7) (.cond (Operand.tmp 30) (.seq (reg Try.f43 8) Code.ret) Code.skip))))) (reg Try.f43 9))))
noncomputable def c43 : Code := (.seq (reg Try.f43 0) (.seq (.seq (reg Try.f43 1) (.cond (Operand.tmp 14) (.seq (reg Try.f43 2) Code.ret) Code.skip)) (.seq (.seq (reg Try.f43 3) (.block 0 (.loop b43_1))) (.seq (reg Try.f43 10) Code.ret))))
theorem body43 : Try.f43.body = some c43 := by kernel_rfl
noncomputable def b44_1 : Code := (.seq (reg Try.f44 4) (.seq (.cond (Operand.tmp 18) Code.skip (Code.exit 0)) (.seq (.block 1 (.seq (reg Try.f44 5) (.seq (reg Try.f44 6) (.seq (reg Try.f44 7) (.cond (Operand.tmp 30) (.seq (reg Try.f44 8) Code.ret) Code.skip))))) (reg Try.f44 9))))
noncomputable def c44 : Code := (.seq (reg Try.f44 0) (.seq (.seq (reg Try.f44 1) (.cond (Operand.tmp 14) (.seq (reg Try.f44 2) Code.ret) Code.skip)) (.seq (.seq (reg Try.f44 3) (.block 0 (.loop b44_1))) (.seq (reg Try.f44 10) Code.ret))))
theorem body44 : Try.f44.body = some c44 := by kernel_rfl
noncomputable def b45_1 : Code := (.seq (reg Try.f45 4) (.seq (.cond (Operand.tmp 18) Code.skip (Code.exit 0)) (.seq (.block 1 (.seq (reg Try.f45 5) (.seq (reg Try.f45 6) (.seq (reg Try.f45 7) (.cond (Operand.tmp 30) (.seq (reg Try.f45 8) Code.ret) Code.skip))))) (reg Try.f45 9))))
noncomputable def c45 : Code := (.seq (reg Try.f45 0) (.seq (.seq (reg Try.f45 1) (.cond (Operand.tmp 14) (.seq (reg Try.f45 2) Code.ret) Code.skip)) (.seq (.seq (reg Try.f45 3) (.block 0 (.loop b45_1))) (.seq (reg Try.f45 10) Code.ret))))
theorem body45 : Try.f45.body = some c45 := by kernel_rfl
noncomputable def b46_1 : Code := (.seq (reg Try.f46 3) (.seq (.cond (Operand.tmp 9) Code.skip (Code.exit 0)) (.seq (.block 1 (.seq (reg Try.f46 4) (.seq (reg Try.f46 5) (.cond (Operand.tmp 14) (.seq (reg Try.f46 6) Code.ret) Code.skip)))) (reg Try.f46 7))))
noncomputable def c46 : Code := (.seq (reg Try.f46 0) (.seq (reg Try.f46 1) (.seq (.seq (reg Try.f46 2) (.block 0 (.loop b46_1))) (.seq (reg Try.f46 8) Code.ret))))
theorem body46 : Try.f46.body = some c46 := by kernel_rfl
noncomputable def c47 : Code := (.seq (reg Try.f47 0) (.seq (reg Try.f47 1) (.seq (reg Try.f47 2) (.seq (.seq (reg Try.f47 3) (.cond (Operand.tmp 11) (.seq (.seq (reg Try.f47 4) (.cond (Operand.tmp 12) (.seq (reg Try.f47 5) Code.ret) Code.skip)) (.seq (reg Try.f47 6) Code.ret)) Code.skip)) (.seq (.seq (reg Try.f47 7) (.cond (Operand.tmp 13) (.seq (reg Try.f47 8) Code.ret) Code.skip)) (.seq (.seq (reg Try.f47 9) (.cond (Operand.tmp 16) (.seq (reg Try.f47 10) Code.ret) Code.skip)) (.seq (.seq (reg Try.f47 11) (.cond (Operand.tmp 19) (.seq (reg Try.f47 12) Code.ret) Code.skip)) (.seq (reg Try.f47 13) Code.ret))))))))
theorem body47 : Try.f47.body = some c47 := by kernel_rfl
noncomputable def b48_1 : Code := (.seq (.seq (reg Try.f48 2) (.cond (Operand.tmp 7) Code.skip (Code.exit 0))) (.seq (.block 1 (.seq (.seq (reg Try.f48 4) (.cond (Operand.tmp 16) (.seq (reg Try.f48 5) Code.ret) Code.skip)) (.seq (reg Try.f48 6) (.cond (Operand.tmp 23) (.seq (reg Try.f48 7) Code.ret) Code.skip)))) (reg Try.f48 3)))
noncomputable def c48 : Code := (.seq (reg Try.f48 0) (.seq (.seq (reg Try.f48 1) (.block 0 (.loop b48_1))) (.seq (reg Try.f48 8) Code.ret)))
theorem body48 : Try.f48.body = some c48 := by kernel_rfl
noncomputable def b49_1 : Code := (.seq (reg Try.f49 3) (.seq (.cond (Operand.tmp 19) Code.skip (Code.exit 0)) (.seq (.block 1 (.seq (reg Try.f49 4) (reg Try.f49 5))) (reg Try.f49 6))))
noncomputable def b49_2 : Code := (.seq (reg Try.f49 8) (.seq (.cond (Operand.tmp 36) Code.skip (Code.exit 2)) (.seq (.block 3 (.seq (reg Try.f49 9) (reg Try.f49 10))) (reg Try.f49 11))))
noncomputable def c49 : Code := (.seq (reg Try.f49 0) (.seq (reg Try.f49 1) (.seq (.seq (reg Try.f49 2) (.block 0 (.loop b49_1))) (.seq (.seq (reg Try.f49 7) (.block 2 (.loop b49_2))) (.seq (reg Try.f49 12) Code.ret)))))
theorem body49 : Try.f49.body = some c49 := by kernel_rfl
noncomputable def c50 : Code := (.seq (reg Try.f50 0) (.seq (.seq (reg Try.f50 1) (.cond (Operand.tmp 4) (.seq (reg Try.f50 2) Code.ret) Code.skip)) (.seq (reg Try.f50 3) Code.ret)))
theorem body50 : Try.f50.body = some c50 := by kernel_rfl
noncomputable def c51 : Code := (.seq (reg Try.f51 0) (.seq (.seq (reg Try.f51 1) (.cond (Operand.tmp 4) (.seq (reg Try.f51 2) Code.ret) Code.skip)) (.seq (reg Try.f51 3) Code.ret)))
theorem body51 : Try.f51.body = some c51 := by kernel_rfl
noncomputable def b52_2 : Code := (.seq (reg Try.f52 10) (.seq (.cond (Operand.tmp 81) Code.skip (Code.exit 2)) (.seq (.block 3 (.seq (reg Try.f52 11) (.seq (reg Try.f52 12) (.cond (Operand.tmp 94) (.seq (reg Try.f52 13) Code.ret) Code.skip)))) (reg Try.f52 14))))
noncomputable def b52_1 : Code := (.seq (reg Try.f52 4) (.seq (.cond (Operand.tmp 44) Code.skip (Code.exit 0)) (.seq (.block 1 (.seq (reg Try.f52 5) (.seq (reg Try.f52 6) (.seq (.seq (reg Try.f52 7) (.cond (Operand.tmp 76) (.seq (reg Try.f52 8) Code.ret) Code.skip)) (.seq (reg Try.f52 9) (.block 2 (.loop b52_2))))))) (reg Try.f52 15))))
noncomputable def b52_3 : Code := (.seq (reg Try.f52 17) (.seq (.cond (Operand.tmp 101) Code.skip (Code.exit 4)) (.seq (.block 5 (.seq (reg Try.f52 18) (.seq (reg Try.f52 19) (.cond (Operand.tmp 114) (.seq (reg Try.f52 20) Code.ret) Code.skip)))) (reg Try.f52 21))))
noncomputable def c52 : Code := (.seq (reg Try.f52 0) (.seq (.seq (reg Try.f52 1) (.cond (Operand.tmp 39) (.seq (reg Try.f52 2) Code.ret) Code.skip)) (.seq (.seq (reg Try.f52 3) (.block 0 (.loop b52_1))) (.seq (.seq (reg Try.f52 16) (.block 4 (.loop b52_3))) (.seq (reg Try.f52 22) Code.ret)))))
theorem body52 : Try.f52.body = some c52 := by kernel_rfl
noncomputable def c53 : Code := (.seq (reg Try.f53 0) (.seq (reg Try.f53 1) Code.ret))
theorem body53 : Try.f53.body = some c53 := by kernel_rfl
noncomputable def b54_1 : Code := (.seq (reg Try.f54 9) (.seq (.cond (Operand.tmp 28) Code.skip (Code.exit 0)) (.seq (.block 1 (.seq (reg Try.f54 10) (.seq (.seq (reg Try.f54 11) (.cond (Operand.tmp 34) (.seq (reg Try.f54 12) Code.ret) Code.skip)) (reg Try.f54 13)))) (reg Try.f54 14))))
noncomputable def c54 : Code := (.seq (reg Try.f54 0) (.seq (.seq (reg Try.f54 1) (.cond (Operand.tmp 8) (.seq (reg Try.f54 2) Code.ret) Code.skip)) (.seq (.seq (reg Try.f54 3) (.cond (Operand.tmp 18) (.seq (reg Try.f54 4) Code.ret) Code.skip)) (.seq (.seq (reg Try.f54 5) (.cond (Operand.tmp 22) (.seq (reg Try.f54 6) Code.ret) Code.skip)) (.seq (reg Try.f54 7) (.seq (.seq (reg Try.f54 8) (.block 0 (.loop b54_1))) (.seq (.seq (reg Try.f54 15) (.cond (Operand.tmp 46) (.seq (reg Try.f54 16) Code.ret) Code.skip)) (.seq (reg Try.f54 17) Code.ret))))))))
theorem body54 : Try.f54.body = some c54 := by kernel_rfl
noncomputable def c55 : Code := (.seq (reg Try.f55 0) (.seq (reg Try.f55 1) Code.ret))
theorem body55 : Try.f55.body = some c55 := by kernel_rfl
noncomputable def b56_1 : Code := (.seq (reg Try.f56 7) (.seq (.cond (Operand.tmp 27) Code.skip (Code.exit 0)) (.seq (.block 1 (.seq (reg Try.f56 8) (.seq (reg Try.f56 9) (.cond (Operand.tmp 39) (.seq (reg Try.f56 10) Code.ret) Code.skip)))) (reg Try.f56 11))))
noncomputable def b56_2 : Code := (.seq (reg Try.f56 16) (.seq (.cond (Operand.tmp 52) Code.skip (Code.exit 2)) (.seq (.block 3 (.seq (reg Try.f56 17) (reg Try.f56 18))) (reg Try.f56 19))))
noncomputable def c56 : Code := (.seq (reg Try.f56 0) (.seq (.seq (reg Try.f56 1) (.seq (reg Try.f56 2) (.cond (Operand.tmp 16) (.seq (reg Try.f56 3) Code.ret) Code.skip))) (.seq (.seq (reg Try.f56 4) (.cond (Operand.tmp 23) (.seq (reg Try.f56 5) Code.ret) Code.skip)) (.seq (.seq (reg Try.f56 6) (.block 0 (.loop b56_1))) (.seq (reg Try.f56 12) (.seq (.seq (reg Try.f56 13) (.cond (Operand.tmp 47) (.seq (reg Try.f56 14) Code.ret) Code.skip)) (.seq (.seq (reg Try.f56 15) (.block 2 (.loop b56_2))) (.seq (.seq (reg Try.f56 20) (.cond (Operand.tmp 61) (.seq (reg Try.f56 21) Code.ret) Code.skip)) (.seq (reg Try.f56 22) Code.ret)))))))))
theorem body56 : Try.f56.body = some c56 := by kernel_rfl
noncomputable def c57 : Code := (.seq (reg Try.f57 0) (.seq (reg Try.f57 1) Code.ret))
theorem body57 : Try.f57.body = some c57 := by kernel_rfl
noncomputable def b58_1 : Code := (.seq (reg Try.f58 3) (.seq (.cond (Operand.tmp 9) Code.skip (Code.exit 0)) (.seq (.block 1 (.seq (reg Try.f58 4) (reg Try.f58 5))) (reg Try.f58 6))))
noncomputable def c58 : Code := (.seq (reg Try.f58 0) (.seq (reg Try.f58 1) (.seq (.seq (reg Try.f58 2) (.block 0 (.loop b58_1))) (.seq (reg Try.f58 7) Code.ret))))
theorem body58 : Try.f58.body = some c58 := by kernel_rfl
noncomputable def b59_1 : Code := (.seq (reg Try.f59 3) (.seq (.cond (Operand.tmp 6) Code.skip (Code.exit 0)) (.seq (.block 1 (.seq (reg Try.f59 4) (reg Try.f59 5))) (reg Try.f59 6))))
noncomputable def c59 : Code := (.seq (reg Try.f59 0) (.seq (reg Try.f59 1) (.seq (.seq (reg Try.f59 2) (.block 0 (.loop b59_1))) (.seq (reg Try.f59 7) Code.ret))))
theorem body59 : Try.f59.body = some c59 := by kernel_rfl
noncomputable def b60_1 : Code := (.seq (reg Try.f60 3) (.seq (.cond (Operand.tmp 7) Code.skip (Code.exit 0)) (.seq (.block 1 (.seq (reg Try.f60 4) (.seq (reg Try.f60 5) (reg Try.f60 6)))) (reg Try.f60 7))))
noncomputable def c60 : Code := (.seq (reg Try.f60 0) (.seq (reg Try.f60 1) (.seq (.seq (reg Try.f60 2) (.block 0 (.loop b60_1))) (.seq (reg Try.f60 8) Code.ret))))
theorem body60 : Try.f60.body = some c60 := by kernel_rfl
noncomputable def c61 : Code := (.seq (reg Try.f61 0) (.seq (.block 0 (.seq (reg Try.f61 1) (.cond (Operand.tmp 3) (.seq (reg Try.f61 2) Code.ret) (.seq (.seq (reg Try.f61 3) (.cond (Operand.tmp 12) Code.skip (reg Try.f61 4))) (.cond (Operand.tmp 12) (.seq (reg Try.f61 5) Code.ret) (.seq (reg Try.f61 6) (.cond (Operand.tmp 35) (.seq (reg Try.f61 7) Code.ret) (.seq (reg Try.f61 8) (.cond (Operand.tmp 40) (.seq (reg Try.f61 9) Code.ret) Code.skip))))))))) (.seq (reg Try.f61 10) Code.ret)))
theorem body61 : Try.f61.body = some c61 := by kernel_rfl
noncomputable def c62 : Code := (.seq (reg Try.f62 0) (.seq (.seq (reg Try.f62 1) (.block 0 (.seq (reg Try.f62 2) (.cond (Operand.tmp 5) (.seq (reg Try.f62 3) Code.ret) (.seq (reg Try.f62 4) (.cond (Operand.tmp 16) (.seq (reg Try.f62 5) Code.ret) Code.skip)))))) (.seq (reg Try.f62 6) Code.ret)))
theorem body62 : Try.f62.body = some c62 := by kernel_rfl
noncomputable def c63 : Code := (.seq (reg Try.f63 0) (.seq (reg Try.f63 1) (.seq (.seq (reg Try.f63 2) (.cond (Operand.tmp 15) (.seq (reg Try.f63 3) Code.ret) Code.skip)) (.seq (reg Try.f63 4) (.seq (.seq (reg Try.f63 5) (.block 0 (.seq (reg Try.f63 6) (.cond (Operand.tmp 21) (.seq (.seq (reg Try.f63 7) (.cond (Operand.tmp 35) (.seq (reg Try.f63 8) Code.ret) Code.skip)) (.seq (reg Try.f63 9) (reg Try.f63 10))) (.seq (reg Try.f63 11) (.cond (Operand.tmp 51) (.seq (.seq (reg Try.f63 12) (.cond (Operand.tmp 55) (.seq (reg Try.f63 13) Code.ret) Code.skip)) (.seq (reg Try.f63 14) (.seq (reg Try.f63 15) (.cond (Operand.tmp 74) (.seq (reg Try.f63 16) Code.ret) Code.skip)))) Code.skip)))))) (.seq (reg Try.f63 17) Code.ret))))))
theorem body63 : Try.f63.body = some c63 := by kernel_rfl
noncomputable def b64_1 : Code := (.seq (reg Try.f64 5) (.seq (.cond (Operand.tmp 27) Code.skip (Code.exit 0)) (.seq (.block 1 (.seq (reg Try.f64 6) (reg Try.f64 7))) (reg Try.f64 8))))
noncomputable def c64 : Code := (.seq (reg Try.f64 0) (.seq (.seq (reg Try.f64 1) (.cond (Operand.tmp 23) (.seq (reg Try.f64 2) Code.ret) Code.skip)) (.seq (reg Try.f64 3) (.seq (.seq (reg Try.f64 4) (.block 0 (.loop b64_1))) (.seq (reg Try.f64 9) Code.ret)))))
theorem body64 : Try.f64.body = some c64 := by kernel_rfl
noncomputable def c65 : Code := (.seq (reg Try.f65 0) (.seq (reg Try.f65 1) (.seq (reg Try.f65 2) Code.ret)))
theorem body65 : Try.f65.body = some c65 := by kernel_rfl
noncomputable def c66 : Code := (.seq (reg Try.f66 0) (.seq (reg Try.f66 1) Code.ret))
theorem body66 : Try.f66.body = some c66 := by kernel_rfl
noncomputable def c67 : Code := (.seq (reg Try.f67 0) (.seq (.seq (reg Try.f67 1) (.cond (Operand.tmp 4) (.seq (reg Try.f67 2) Code.ret) Code.skip)) (.seq (reg Try.f67 3) Code.ret)))
theorem body67 : Try.f67.body = some c67 := by kernel_rfl
noncomputable def c68 : Code := (.seq (reg Try.f68 0) (.seq (.seq (reg Try.f68 1) (.cond (Operand.tmp 4) (.seq (reg Try.f68 2) Code.ret) Code.skip)) (.seq (reg Try.f68 3) Code.ret)))
theorem body68 : Try.f68.body = some c68 := by kernel_rfl
noncomputable def b69_1 : Code := (.seq (reg Try.f69 3) (.seq (.cond (Operand.tmp 10) Code.skip (Code.exit 0)) (.seq (.block 1 (.seq (reg Try.f69 4) (reg Try.f69 5))) (reg Try.f69 6))))
noncomputable def c69 : Code := (.seq (reg Try.f69 0) (.seq (reg Try.f69 1) (.seq (.seq (reg Try.f69 2) (.block 0 (.loop b69_1))) (.seq (reg Try.f69 7) Code.ret))))
theorem body69 : Try.f69.body = some c69 := by kernel_rfl
noncomputable def c70 : Code := (.seq (reg Try.f70 0) (.seq (reg Try.f70 1) Code.ret))
theorem body70 : Try.f70.body = some c70 := by kernel_rfl
noncomputable def c71 : Code := (.seq (reg Try.f71 0) (.seq (reg Try.f71 1) Code.ret))
theorem body71 : Try.f71.body = some c71 := by kernel_rfl
noncomputable def b72_1 : Code := (.seq (reg Try.f72 4) (.seq (.cond (Operand.tmp 23) Code.skip (Code.exit 0)) (.seq (.block 1 (.seq (reg Try.f72 5) (.seq (reg Try.f72 6) (.cond (Operand.tmp 34) (.seq (reg Try.f72 7) Code.ret) Code.skip)))) (reg Try.f72 8))))
noncomputable def b72_3 : Code := (.seq (reg Try.f72 15) (.seq (.cond (Operand.tmp 51) Code.skip (Code.exit 4)) (.seq (.block 5 (.seq (reg Try.f72 16) (.seq (reg Try.f72 17) (.cond (Operand.tmp 56) (.seq (reg Try.f72 18) Code.ret) Code.skip)))) (reg Try.f72 19))))
noncomputable def b72_2 : Code := (.seq (reg Try.f72 10) (.seq (.cond (Operand.tmp 40) Code.skip (Code.exit 2)) (.seq (.block 3 (.seq (reg Try.f72 11) (.seq (.seq (reg Try.f72 12) (.cond (Operand.tmp 46) (.seq (reg Try.f72 13) Code.ret) Code.skip)) (.seq (reg Try.f72 14) (.block 4 (.loop b72_3)))))) (reg Try.f72 20))))
noncomputable def c72 : Code := (.seq (reg Try.f72 0) (.seq (.seq (reg Try.f72 1) (.cond (Operand.tmp 18) (.seq (reg Try.f72 2) Code.ret) Code.skip)) (.seq (.seq (reg Try.f72 3) (.block 0 (.loop b72_1))) (.seq (.seq (reg Try.f72 9) (.block 2 (.loop b72_2))) (.seq (reg Try.f72 21) Code.ret)))))
theorem body72 : Try.f72.body = some c72 := by kernel_rfl
noncomputable def b73_1 : Code := (.seq (reg Try.f73 3) (.seq (.cond (Operand.tmp 9) Code.skip (Code.exit 0)) (.seq (.block 1 (.seq (reg Try.f73 4) (.seq (.seq (reg Try.f73 5) (.cond (Operand.tmp 16) (.seq (reg Try.f73 6) Code.ret) Code.skip)) (reg Try.f73 7)))) (reg Try.f73 8))))
noncomputable def c73 : Code := (.seq (reg Try.f73 0) (.seq (reg Try.f73 1) (.seq (.seq (reg Try.f73 2) (.block 0 (.loop b73_1))) (.seq (reg Try.f73 9) Code.ret))))
theorem body73 : Try.f73.body = some c73 := by kernel_rfl
noncomputable def c74 : Code := (.seq (reg Try.f74 0) (.seq (reg Try.f74 1) Code.ret))
theorem body74 : Try.f74.body = some c74 := by kernel_rfl
noncomputable def b75_1 : Code := (.seq (reg Try.f75 3) (.seq (.cond (Operand.tmp 10) Code.skip (Code.exit 0)) (.seq (.block 1 (.seq (reg Try.f75 4) (.seq (.seq (reg Try.f75 5) (.cond (Operand.tmp 24) (.seq (reg Try.f75 6) Code.ret) Code.skip)) (reg Try.f75 7)))) (reg Try.f75 8))))
noncomputable def c75 : Code := (.seq (reg Try.f75 0) (.seq (reg Try.f75 1) (.seq (.seq (reg Try.f75 2) (.block 0 (.loop b75_1))) (.seq (reg Try.f75 9) Code.ret))))
theorem body75 : Try.f75.body = some c75 := by kernel_rfl
noncomputable def c76 : Code := (.seq (reg Try.f76 0) (.seq (reg Try.f76 1) Code.ret))
theorem body76 : Try.f76.body = some c76 := by kernel_rfl
noncomputable def c77 : Code := (.seq (reg Try.f77 0) (.seq (reg Try.f77 1) Code.ret))
theorem body77 : Try.f77.body = some c77 := by kernel_rfl
noncomputable def b78_1 : Code := (.seq (reg Try.f78 3) (.seq (.cond (Operand.tmp 9) Code.skip (Code.exit 0)) (.seq (.block 1 (.seq (reg Try.f78 4) (reg Try.f78 5))) (reg Try.f78 6))))
noncomputable def c78 : Code := (.seq (reg Try.f78 0) (.seq (reg Try.f78 1) (.seq (.seq (reg Try.f78 2) (.block 0 (.loop b78_1))) (.seq (reg Try.f78 7) Code.ret))))
theorem body78 : Try.f78.body = some c78 := by kernel_rfl
noncomputable def c79 : Code := (.seq (reg Try.f79 0) (.seq (reg Try.f79 1) Code.ret))
theorem body79 : Try.f79.body = some c79 := by kernel_rfl
noncomputable def c80 : Code := (.seq (reg Try.f80 0) (.seq (.seq (reg Try.f80 1) (.cond (Operand.tmp 4) (.seq (reg Try.f80 2) Code.ret) Code.skip)) (.seq (reg Try.f80 3) Code.ret)))
theorem body80 : Try.f80.body = some c80 := by kernel_rfl
noncomputable def b81_1 : Code := (.seq (reg Try.f81 4) (.seq (.cond (Operand.tmp 28) Code.skip (Code.exit 0)) (.seq (.block 1 (.seq (reg Try.f81 5) (.seq (reg Try.f81 6) (reg Try.f81 7)))) (reg Try.f81 8))))
noncomputable def b81_2 : Code := (.seq (reg Try.f81 11) (.seq (.cond (Operand.tmp 53) Code.skip (Code.exit 2)) (.seq (.block 3 (.seq (reg Try.f81 12) (.seq (reg Try.f81 13) (reg Try.f81 14)))) (reg Try.f81 15))))
noncomputable def b81_4 : Code := (.seq (reg Try.f81 24) (.seq (.cond (Operand.tmp 94) Code.skip (Code.exit 6)) (.seq (.block 7 (.seq (reg Try.f81 25) (reg Try.f81 26))) (reg Try.f81 27))))
noncomputable def b81_3 : Code := (.seq (reg Try.f81 20) (.seq (.cond (Operand.tmp 80) Code.skip (Code.exit 4)) (.seq (.block 5 (.seq (reg Try.f81 21) (.seq (reg Try.f81 22) (.seq (reg Try.f81 23) (.block 6 (.loop b81_4)))))) (reg Try.f81 28))))
noncomputable def c81 : Code := (.seq (reg Try.f81 0) (.seq (reg Try.f81 1) (.seq (reg Try.f81 2) (.seq (.seq (reg Try.f81 3) (.block 0 (.loop b81_1))) (.seq (reg Try.f81 9) (.seq (.seq (reg Try.f81 10) (.block 2 (.loop b81_2))) (.seq (reg Try.f81 16) (.seq (.seq (reg Try.f81 17) (.cond (Operand.tmp 74) (.seq (reg Try.f81 18) Code.ret) Code.skip)) (.seq (.seq (reg Try.f81 19) (.block 4 (.loop b81_3))) (.seq (reg Try.f81 29) Code.ret))))))))))
theorem body81 : Try.f81.body = some c81 := by kernel_rfl
noncomputable def c82 : Code := (.seq (reg Try.f82 0) (.seq (reg Try.f82 1) Code.ret))
theorem body82 : Try.f82.body = some c82 := by kernel_rfl
noncomputable def c83 : Code := (.seq (reg Try.f83 0) (.seq (.block 0 (.seq (reg Try.f83 1) (.cond (Operand.tmp 5) (.seq (reg Try.f83 2) Code.ret) (.seq (reg Try.f83 3) (.cond (Operand.tmp 13) (.seq (reg Try.f83 4) Code.ret) (.seq (reg Try.f83 5) (.cond (Operand.tmp 22) (.seq (reg Try.f83 6) Code.ret) Code.skip))))))) (.seq (reg Try.f83 7) Code.ret)))
theorem body83 : Try.f83.body = some c83 := by kernel_rfl
noncomputable def c84 : Code := (.seq (reg Try.f84 0) (.seq (reg Try.f84 1) Code.ret))
theorem body84 : Try.f84.body = some c84 := by kernel_rfl
noncomputable def c85 : Code := (.seq (reg Try.f85 0) (.seq (reg Try.f85 1) Code.ret))
theorem body85 : Try.f85.body = some c85 := by kernel_rfl
noncomputable def c86 : Code := (.seq (reg Try.f86 0) (.seq (reg Try.f86 1) Code.ret))
theorem body86 : Try.f86.body = some c86 := by kernel_rfl
noncomputable def c87 : Code := (.seq (reg Try.f87 0) (.seq (reg Try.f87 1) (.seq (reg Try.f87 2) (.seq (reg Try.f87 3) Code.ret))))
theorem body87 : Try.f87.body = some c87 := by kernel_rfl
noncomputable def b88_1 : Code := (.seq (reg Try.f88 3) (.seq (.cond (Operand.tmp 11) Code.skip (Code.exit 0)) (.seq (.block 1 (.seq (reg Try.f88 4) (reg Try.f88 5))) (reg Try.f88 6))))
noncomputable def c88 : Code := (.seq (reg Try.f88 0) (.seq (reg Try.f88 1) (.seq (.seq (reg Try.f88 2) (.block 0 (.loop b88_1))) (.seq (reg Try.f88 7) Code.ret))))
theorem body88 : Try.f88.body = some c88 := by kernel_rfl
noncomputable def c89 : Code := (.seq (reg Try.f89 0) (.seq (reg Try.f89 1) Code.ret))
theorem body89 : Try.f89.body = some c89 := by kernel_rfl
noncomputable def c90 : Code := (.seq (reg Try.f90 0) (.seq (reg Try.f90 1) Code.ret))
theorem body90 : Try.f90.body = some c90 := by kernel_rfl
end Go.Proofs.Ytbjhgolpnjokbaa
