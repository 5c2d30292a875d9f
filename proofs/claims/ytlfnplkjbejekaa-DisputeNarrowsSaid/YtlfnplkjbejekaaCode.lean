import Derived.Test.YtlfnplkjbejekaaTt
import Derived.Test.YtlfnplkjbejekaaAbP3
namespace Go.Proofs.Ytlfnplkjbejekaa
open Go.Ab
set_option maxRecDepth 1000000

noncomputable def c7 : Code := (.seq (reg Try.f7 0) (.seq (reg Try.f7 1) (.seq (reg Try.f7 2) (.seq (reg Try.f7 3) (.seq (reg Try.f7 4) (.seq (reg Try.f7 5) (.seq (reg Try.f7 6) (.seq (reg Try.f7 7) Code.ret))))))))
theorem body7 : Try.f7.body = some c7 := by kernel_rfl
theorem okc7 : codeOk tt c7 = true := by kernel_rfl

noncomputable def c8 : Code := (.seq (reg Try.f8 0) (.seq (reg Try.f8 1) Code.ret))
theorem body8 : Try.f8.body = some c8 := by kernel_rfl
theorem okc8 : codeOk tt c8 = true := by kernel_rfl

noncomputable def c9 : Code := (.seq (reg Try.f9 0) (.seq (.seq (reg Try.f9 1) (.cond (Operand.tmp 17) (.seq (reg Try.f9 2) Code.ret) Code.skip)) (.seq (.seq (reg Try.f9 3) (.cond (Operand.tmp 22) (.seq (reg Try.f9 4) Code.ret) Code.skip)) (.seq (reg Try.f9 5) Code.ret))))
theorem body9 : Try.f9.body = some c9 := by kernel_rfl
theorem okc9 : codeOk tt c9 = true := by kernel_rfl

noncomputable def c10 : Code := (.seq (reg Try.f10 0) (.seq (.seq (reg Try.f10 1) (.cond (Operand.tmp 17) (.seq (reg Try.f10 2) Code.ret) Code.skip)) (.seq (.seq (reg Try.f10 3) (.cond (Operand.tmp 22) (.seq (reg Try.f10 4) Code.ret) Code.skip)) (.seq (reg Try.f10 5) Code.ret))))
theorem body10 : Try.f10.body = some c10 := by kernel_rfl
theorem okc10 : codeOk tt c10 = true := by kernel_rfl

noncomputable def b11_1 : Code := (.seq (reg Try.f11 4) (.seq (.cond (Operand.tmp 38) Code.skip (Code.exit 0)) (.seq (.block 1 (.seq (reg Try.f11 5) (.seq (reg Try.f11 6) (.cond (Operand.tmp 50) (.seq (reg Try.f11 7) Code.ret) Code.skip)))) (reg Try.f11 8))))
noncomputable def c11 : Code := (.seq (reg Try.f11 0) (.seq (.seq (reg Try.f11 1) (.cond (Operand.tmp 33) (.seq (reg Try.f11 2) Code.ret) Code.skip)) (.seq (.seq (reg Try.f11 3) (.block 0 (.loop b11_1))) (.seq (reg Try.f11 9) Code.ret))))
theorem body11 : Try.f11.body = some c11 := by kernel_rfl
theorem okc11 : codeOk tt c11 = true := by kernel_rfl

noncomputable def c12 : Code := (.seq (reg Try.f12 0) (.seq (.seq (reg Try.f12 1) (.cond (Operand.tmp 6) (.seq (reg Try.f12 2) Code.ret) Code.skip)) (.seq (.seq (reg Try.f12 3) (.cond (Operand.tmp 12) (.seq (reg Try.f12 4) Code.ret) Code.skip)) (.seq (reg Try.f12 5) Code.ret))))
theorem body12 : Try.f12.body = some c12 := by kernel_rfl
theorem okc12 : codeOk tt c12 = true := by kernel_rfl

noncomputable def c13 : Code := (.seq (reg Try.f13 0) (.seq (.block 0 (.seq (reg Try.f13 1) (.cond (Operand.tmp 4) (.seq (reg Try.f13 2) Code.ret) (.seq (reg Try.f13 3) (.cond (Operand.tmp 8) (.seq (reg Try.f13 4) Code.ret) Code.skip))))) (.seq (reg Try.f13 5) Code.ret)))
theorem body13 : Try.f13.body = some c13 := by kernel_rfl
theorem okc13 : codeOk tt c13 = true := by kernel_rfl

noncomputable def c14 : Code := (.seq (reg Try.f14 0) (.seq (reg Try.f14 1) Code.ret))
theorem body14 : Try.f14.body = some c14 := by kernel_rfl
theorem okc14 : codeOk tt c14 = true := by kernel_rfl

noncomputable def c15 : Code := (.seq (reg Try.f15 0) (.seq (reg Try.f15 1) Code.ret))
theorem body15 : Try.f15.body = some c15 := by kernel_rfl
theorem okc15 : codeOk tt c15 = true := by kernel_rfl

noncomputable def c16 : Code := (.seq (reg Try.f16 0) (.seq (.seq (reg Try.f16 1) (.cond (Operand.tmp 7) (.seq (reg Try.f16 2) Code.ret) Code.skip)) (.seq (reg Try.f16 3) Code.ret)))
theorem body16 : Try.f16.body = some c16 := by kernel_rfl
theorem okc16 : codeOk tt c16 = true := by kernel_rfl

noncomputable def b17_1 : Code := (.seq (.seq (reg Try.f17 5) (.cond (Operand.tmp 34) Code.skip (Code.exit 0))) (.block 1 (reg Try.f17 6)))
noncomputable def c17 : Code := (.seq (reg Try.f17 0) (.seq (.seq (reg Try.f17 1) (.cond (Operand.tmp 21) (.seq (reg Try.f17 2) Code.ret) Code.skip)) (.seq (reg Try.f17 3) (.seq (.seq (reg Try.f17 4) (.block 0 (.loop b17_1))) (.seq (reg Try.f17 7) Code.ret)))))
theorem body17 : Try.f17.body = some c17 := by kernel_rfl
theorem okc17 : codeOk tt c17 = true := by kernel_rfl

noncomputable def b18_2 : Code := (.seq (.seq (reg Try.f18 12) (.cond (Operand.tmp 51) Code.skip (Code.exit 2))) (.block 3 (reg Try.f18 13)))
noncomputable def b18_1 : Code := (.seq (reg Try.f18 10) (.seq (.cond (Operand.tmp 35) Code.skip (Code.exit 0)) (.seq (.block 1 (.seq (reg Try.f18 11) (.seq (.block 2 (.loop b18_2)) (.seq (reg Try.f18 14) (.cond (Operand.tmp 67) (.seq (reg Try.f18 15) (reg Try.f18 16)) (reg Try.f18 17)))))) (reg Try.f18 18))))
noncomputable def c18 : Code := (.seq (reg Try.f18 0) (.seq (.seq (reg Try.f18 1) (.cond (Operand.tmp 22) (.seq (reg Try.f18 2) Code.ret) Code.skip)) (.seq (reg Try.f18 3) (.seq (.seq (reg Try.f18 4) (.cond (Operand.tmp 29) (.seq (reg Try.f18 5) Code.ret) Code.skip)) (.seq (reg Try.f18 6) (.seq (reg Try.f18 7) (.seq (reg Try.f18 8) (.seq (.seq (reg Try.f18 9) (.block 0 (.loop b18_1))) (.seq (.seq (reg Try.f18 19) (.cond (Operand.tmp 87) (.seq (reg Try.f18 20) Code.ret) Code.skip)) (.seq (.seq (reg Try.f18 21) (.cond (Operand.tmp 90) (reg Try.f18 22) (reg Try.f18 23))) (.seq (reg Try.f18 24) Code.ret)))))))))))
theorem body18 : Try.f18.body = some c18 := by kernel_rfl
theorem okc18 : codeOk tt c18 = true := by kernel_rfl

noncomputable def b19_1 : Code := (.seq (reg Try.f19 9) (.seq (.cond (Operand.tmp 35) Code.skip (Code.exit 0)) (.seq (.block 1 (.seq (reg Try.f19 10) (.seq (reg Try.f19 11) (.seq (reg Try.f19 12) (.cond (Operand.tmp 43) (reg Try.f19 13) (reg Try.f19 14)))))) (reg Try.f19 15))))
noncomputable def c19 : Code := (.seq (reg Try.f19 0) (.seq (.seq (reg Try.f19 1) (.cond (Operand.tmp 22) (.seq (reg Try.f19 2) Code.ret) Code.skip)) (.seq (reg Try.f19 3) (.seq (.seq (reg Try.f19 4) (.cond (Operand.tmp 29) (.seq (reg Try.f19 5) Code.ret) Code.skip)) (.seq (reg Try.f19 6) (.seq (reg Try.f19 7) (.seq (.seq (reg Try.f19 8) (.block 0 (.loop b19_1))) (.seq (.seq (reg Try.f19 16) (.cond (Operand.tmp 63) (.seq (reg Try.f19 17) Code.ret) Code.skip)) (.seq (.seq (reg Try.f19 18) (.cond (Operand.tmp 66) (.seq (reg Try.f19 19) Code.ret) Code.skip)) (.seq (reg Try.f19 20) Code.ret))))))))))
theorem body19 : Try.f19.body = some c19 := by kernel_rfl
theorem okc19 : codeOk tt c19 = true := by kernel_rfl

noncomputable def b20_1 : Code := (.seq (reg Try.f20 4) (.seq (.cond (Operand.tmp 14) Code.skip (Code.exit 0)) (.seq (.block 1 (.seq (reg Try.f20 5) (.seq (reg Try.f20 6) (.cond (Operand.tmp 24) (.seq (reg Try.f20 7) Code.ret) Code.skip)))) (reg Try.f20 8))))
noncomputable def c20 : Code := (.seq (reg Try.f20 0) (.seq (.seq (reg Try.f20 1) (.cond (Operand.tmp 10) (.seq (reg Try.f20 2) Code.ret) Code.skip)) (.seq (.seq (reg Try.f20 3) (.block 0 (.loop b20_1))) (.seq (reg Try.f20 9) Code.ret))))
theorem body20 : Try.f20.body = some c20 := by kernel_rfl
theorem okc20 : codeOk tt c20 = true := by kernel_rfl

noncomputable def b21_1 : Code := (.seq (reg Try.f21 8) (.seq (.cond (Operand.tmp 26) Code.skip (Code.exit 0)) (.seq (.block 1 (.seq (reg Try.f21 9) (.seq (reg Try.f21 10) (.cond (Operand.tmp 32) (reg Try.f21 11) (reg Try.f21 12))))) (reg Try.f21 13))))
noncomputable def c21 : Code := (.seq (reg Try.f21 0) (.seq (.seq (reg Try.f21 1) (.cond (Operand.tmp 13) (.seq (reg Try.f21 2) Code.ret) Code.skip)) (.seq (.seq (reg Try.f21 3) (.cond (Operand.tmp 20) (.seq (reg Try.f21 4) Code.ret) Code.skip)) (.seq (reg Try.f21 5) (.seq (reg Try.f21 6) (.seq (.seq (reg Try.f21 7) (.block 0 (.loop b21_1))) (.seq (.seq (reg Try.f21 14) (.cond (Operand.tmp 45) (.seq (reg Try.f21 15) Code.ret) Code.skip)) (.seq (reg Try.f21 16) (.seq (reg Try.f21 17) Code.ret)))))))))
theorem body21 : Try.f21.body = some c21 := by kernel_rfl
theorem okc21 : codeOk tt c21 = true := by kernel_rfl

noncomputable def b22_1 : Code := (.seq (reg Try.f22 9) (.seq (.cond (Operand.tmp 28) Code.skip (Code.exit 0)) (.seq (.block 1 (.seq (reg Try.f22 10) (.seq (reg Try.f22 11) (.cond (Operand.tmp 34) (reg Try.f22 12) (reg Try.f22 13))))) (reg Try.f22 14))))
noncomputable def c22 : Code := (.seq (reg Try.f22 0) (.seq (.seq (reg Try.f22 1) (.cond (Operand.tmp 13) (.seq (reg Try.f22 2) Code.ret) Code.skip)) (.seq (.seq (reg Try.f22 3) (.cond (Operand.tmp 20) (.seq (reg Try.f22 4) Code.ret) Code.skip)) (.seq (reg Try.f22 5) (.seq (reg Try.f22 6) (.seq (reg Try.f22 7) (.seq (.seq (reg Try.f22 8) (.block 0 (.loop b22_1))) (.seq (.seq (reg Try.f22 15) (.cond (Operand.tmp 50) (.seq (reg Try.f22 16) Code.ret) Code.skip)) (.seq (reg Try.f22 17) Code.ret)))))))))
theorem body22 : Try.f22.body = some c22 := by kernel_rfl
theorem okc22 : codeOk tt c22 = true := by kernel_rfl

noncomputable def b23_1 : Code := (.seq (reg Try.f23 3) (.seq (.cond (Operand.tmp 9) Code.skip (Code.exit 0)) (.seq (.block 1 (.seq (reg Try.f23 4) (.seq (.seq (reg Try.f23 5) (.cond (Operand.tmp 15) (.seq (reg Try.f23 6) Code.ret) Code.skip)) (reg Try.f23 7)))) (reg Try.f23 8))))
noncomputable def c23 : Code := (.seq (reg Try.f23 0) (.seq (reg Try.f23 1) (.seq (.seq (reg Try.f23 2) (.block 0 (.loop b23_1))) (.seq (reg Try.f23 9) Code.ret))))
theorem body23 : Try.f23.body = some c23 := by kernel_rfl
theorem okc23 : codeOk tt c23 = true := by kernel_rfl

noncomputable def c24 : Code := (.seq (reg Try.f24 0) (.seq (reg Try.f24 1) Code.ret))
theorem body24 : Try.f24.body = some c24 := by kernel_rfl
theorem okc24 : codeOk tt c24 = true := by kernel_rfl

noncomputable def c25 : Code := (.seq (reg Try.f25 0) (.seq (.seq (reg Try.f25 1) (.cond (Operand.tmp 4) (.seq (reg Try.f25 2) Code.ret) Code.skip)) (.seq (reg Try.f25 3) Code.ret)))
theorem body25 : Try.f25.body = some c25 := by kernel_rfl
theorem okc25 : codeOk tt c25 = true := by kernel_rfl

noncomputable def b26_1 : Code := (.seq (reg Try.f26 4) (.seq (.cond (Operand.tmp 10) Code.skip (Code.exit 0)) (.seq (.block 1 (.seq (reg Try.f26 5) (.seq (reg Try.f26 6) (.cond (Operand.tmp 35) (.seq (reg Try.f26 7) Code.ret) Code.skip)))) (reg Try.f26 8))))
noncomputable def c26 : Code := (.seq (reg Try.f26 0) (.seq (.seq (reg Try.f26 1) (.cond (Operand.tmp 6) (.seq (reg Try.f26 2) Code.ret) Code.skip)) (.seq (.seq (reg Try.f26 3) (.block 0 (.loop b26_1))) (.seq (reg Try.f26 9) Code.ret))))
theorem body26 : Try.f26.body = some c26 := by kernel_rfl
theorem okc26 : codeOk tt c26 = true := by kernel_rfl

noncomputable def c27 : Code := (.seq (reg Try.f27 0) (.seq (reg Try.f27 1) Code.ret))
theorem body27 : Try.f27.body = some c27 := by kernel_rfl
theorem okc27 : codeOk tt c27 = true := by kernel_rfl

noncomputable def c28 : Code := (.seq (reg Try.f28 0) (.seq (reg Try.f28 1) Code.ret))
theorem body28 : Try.f28.body = some c28 := by kernel_rfl
theorem okc28 : codeOk tt c28 = true := by kernel_rfl

noncomputable def c29 : Code := (.seq (reg Try.f29 0) (.seq (reg Try.f29 1) Code.ret))
theorem body29 : Try.f29.body = some c29 := by kernel_rfl
theorem okc29 : codeOk tt c29 = true := by kernel_rfl

noncomputable def c30 : Code := (.seq (reg Try.f30 0) (.seq (reg Try.f30 1) Code.ret))
theorem body30 : Try.f30.body = some c30 := by kernel_rfl
theorem okc30 : codeOk tt c30 = true := by kernel_rfl

noncomputable def b31_1 : Code := (.seq (reg Try.f31 2) (.seq (.cond (Operand.tmp 8) Code.skip (Code.exit 0)) (.seq (.block 1 (.seq (reg Try.f31 3) (.seq (reg Try.f31 4) (.cond (Operand.tmp 17) (.seq (reg Try.f31 5) Code.ret) Code.skip)))) (reg Try.f31 6))))
noncomputable def c31 : Code := (.seq (reg Try.f31 0) (.seq (.seq (reg Try.f31 1) (.block 0 (.loop b31_1))) (.seq (reg Try.f31 7) Code.ret)))
theorem body31 : Try.f31.body = some c31 := by kernel_rfl
theorem okc31 : codeOk tt c31 = true := by kernel_rfl

noncomputable def b32_1 : Code := (.seq (reg Try.f32 2) (.seq (.cond (Operand.tmp 7) Code.skip (Code.exit 0)) (.seq (.block 1 (.seq (reg Try.f32 3) (.seq (reg Try.f32 4) (.cond (Operand.tmp 18) (.seq (reg Try.f32 5) Code.ret) Code.skip)))) (reg Try.f32 6))))
noncomputable def c32 : Code := (.seq (reg Try.f32 0) (.seq (.seq (reg Try.f32 1) (.block 0 (.loop b32_1))) (.seq (reg Try.f32 7) Code.ret)))
theorem body32 : Try.f32.body = some c32 := by kernel_rfl
theorem okc32 : codeOk tt c32 = true := by kernel_rfl

noncomputable def c33 : Code := (.seq (reg Try.f33 0) (.seq (.seq (reg Try.f33 1) (.cond (Operand.tmp 4) (.seq (reg Try.f33 2) (reg Try.f33 3)) Code.skip)) (.seq (.seq (reg Try.f33 4) (.cond (Operand.tmp 8) (.seq (reg Try.f33 5) (reg Try.f33 6)) Code.skip)) (.seq (.seq (reg Try.f33 7) (.cond (Operand.tmp 14) (.seq (reg Try.f33 8) (reg Try.f33 9)) Code.skip)) (.seq (reg Try.f33 10) Code.ret)))))
theorem body33 : Try.f33.body = some c33 := by kernel_rfl
theorem okc33 : codeOk tt c33 = true := by kernel_rfl

noncomputable def b34_1 : Code := (.seq (reg Try.f34 2) (.seq (.cond (Operand.tmp 9) Code.skip (Code.exit 0)) (.seq (.block 1 (.seq (reg Try.f34 3) (.seq (reg Try.f34 4) (.cond (Operand.tmp 17) (.seq (reg Try.f34 5) Code.ret) Code.skip)))) (reg Try.f34 6))))
noncomputable def c34 : Code := (.seq (reg Try.f34 0) (.seq (.seq (reg Try.f34 1) (.block 0 (.loop b34_1))) (.seq (reg Try.f34 7) Code.ret)))
theorem body34 : Try.f34.body = some c34 := by kernel_rfl
theorem okc34 : codeOk tt c34 = true := by kernel_rfl

noncomputable def b3_1 : Code := (.seq (reg Try.f3 10) (.seq (.cond (Operand.tmp 62) Code.skip (Code.exit 0)) (.seq (.block 1 (.seq (reg Try.f3 11) (.seq (reg Try.f3 12) (.seq (reg Try.f3 13) (.seq (reg Try.f3 14) (.cond (Operand.tmp 89) (.seq (reg Try.f3 15) Code.ret) Code.skip)))))) (reg Try.f3 16))))
noncomputable def c3 : Code := (.seq (reg Try.f3 0) (.seq (.seq (reg Try.f3 1) (.cond (Operand.tmp 22) (.seq (reg Try.f3 2) Code.ret) Code.skip)) (.seq (.seq (reg Try.f3 3) (.cond (Operand.tmp 31) (.seq (reg Try.f3 4) Code.ret) Code.skip)) (.seq (reg Try.f3 5) (.seq (reg Try.f3 6) (.seq (.seq (reg Try.f3 7) (.cond (Operand.tmp 56) (.seq (reg Try.f3 8) Code.ret) Code.skip)) (.seq (.seq (reg Try.f3 9) (.block 0 (.loop b3_1))) (.seq (reg Try.f3 17) Code.ret))))))))
theorem body3 : Try.f3.body = some c3 := by kernel_rfl
theorem okc3 : codeOk tt c3 = true := by kernel_rfl

noncomputable def c4 : Code := (.seq (reg Try.f4 0) (.seq (.seq (reg Try.f4 1) (.cond (Operand.tmp 12) (.seq (reg Try.f4 2) Code.ret) Code.skip)) (.seq (.seq (reg Try.f4 3) (.cond (Operand.tmp 21) (.seq (reg Try.f4 4) Code.ret) Code.skip)) (.seq (reg Try.f4 5) (.seq (reg Try.f4 6) (.seq (reg Try.f4 7) Code.ret))))))
theorem body4 : Try.f4.body = some c4 := by kernel_rfl
theorem okc4 : codeOk tt c4 = true := by kernel_rfl

noncomputable def c5 : Code := (.seq (reg Try.f5 0) (.seq (.seq (reg Try.f5 1) (.cond (Operand.tmp 11) (.seq (reg Try.f5 2) Code.ret) Code.skip)) (.seq (.seq (reg Try.f5 3) (.cond (Operand.tmp 20) (.seq (reg Try.f5 4) Code.ret) Code.skip)) (.seq (reg Try.f5 5) (.seq (reg Try.f5 6) (.seq (.seq (reg Try.f5 7) (.cond (Operand.tmp 34) (.seq (reg Try.f5 8) Code.ret) Code.skip)) (.seq (.seq (reg Try.f5 9) (.cond (Operand.tmp 87) (.seq (reg Try.f5 10) Code.ret) Code.skip)) (.seq (.seq (reg Try.f5 11) (.cond (Operand.tmp 96) (.seq (reg Try.f5 12) Code.ret) Code.skip)) (.seq (reg Try.f5 13) Code.ret)))))))))
theorem body5 : Try.f5.body = some c5 := by kernel_rfl
theorem okc5 : codeOk tt c5 = true := by kernel_rfl

noncomputable def c6 : Code := (.seq (reg Try.f6 0) (.seq (.seq (reg Try.f6 1) (.cond (Operand.tmp 14) (.seq (reg Try.f6 2) Code.ret) Code.skip)) (.seq (.seq (reg Try.f6 3) (.cond (Operand.tmp 18) (.seq (reg Try.f6 4) Code.ret) Code.skip)) (.seq (.seq (reg Try.f6 5) (.cond (Operand.tmp 27) (reg Try.f6 6) Code.skip)) (.seq (reg Try.f6 7) (.seq (reg Try.f6 8) (.seq (reg Try.f6 9) Code.ret)))))))
theorem body6 : Try.f6.body = some c6 := by kernel_rfl
theorem okc6 : codeOk tt c6 = true := by kernel_rfl

end Go.Proofs.Ytlfnplkjbejekaa
