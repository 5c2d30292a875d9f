import Derived.Test.YtjdoijdjeapekaaDoorTt
namespace Go.Proofs.YtjdoijdjeapekaaDoor
open Go.Av
set_option maxRecDepth 1000000

noncomputable def b3_1 : Code:=(.seq (reg Tryd.f3 10) (.seq (.cond (Operand.tmp 71) Code.skip (Code.exit 0)) (.seq (.block 1 (.seq (reg Tryd.f3 11) (.seq (reg Tryd.f3 12) (.seq (reg Tryd.f3 13) (.seq (reg Tryd.f3 14) (.cond (Operand.tmp 100) (.seq (reg Tryd.f3 15) Code.ret) Code.skip)))))) (reg Tryd.f3 16))))
noncomputable def c3 : Code:=(.seq (reg Tryd.f3 0) (.seq (.seq (reg Tryd.f3 1) (.cond (Operand.tmp 17) (.seq (reg Tryd.f3 2) Code.ret) Code.skip)) (.seq (reg Tryd.f3 3) (.seq (reg Tryd.f3 4) (.seq (.seq (reg Tryd.f3 5) (.cond (Operand.tmp 36) (.seq (reg Tryd.f3 6) (reg Tryd.f3 7)) Code.skip)) (.seq (reg Tryd.f3 8) (.seq (.seq (reg Tryd.f3 9) (.block 0 (.loop b3_1))) (.seq (reg Tryd.f3 17) Code.ret))))))))
theorem body3 : Tryd.f3.body = some c3:=by kernel_rfl

noncomputable def b4_1 : Code:=(.seq (.seq (reg Tryd.f4 6) (.cond (Operand.tmp 20) Code.skip (Code.exit 0))) (.seq (.block 1 (.seq (reg Tryd.f4 8) (.seq (.seq (reg Tryd.f4 9) (.cond (Operand.tmp 35) (.seq (reg Tryd.f4 10) Code.ret) Code.skip)) (.seq (.seq (reg Tryd.f4 11) (.cond (Operand.tmp 82) (.seq (reg Tryd.f4 12) Code.ret) Code.skip)) (reg Tryd.f4 13))))) (reg Tryd.f4 7)))
noncomputable def c4 : Code:=(.seq (reg Tryd.f4 0) (.seq (.seq (reg Tryd.f4 1) (.cond (Operand.tmp 11) (.seq (reg Tryd.f4 2) Code.ret) Code.skip)) (.seq (reg Tryd.f4 3) (.seq (reg Tryd.f4 4) (.seq (.seq (reg Tryd.f4 5) (.block 0 (.loop b4_1))) (.seq (reg Tryd.f4 14) Code.ret))))))
theorem body4 : Tryd.f4.body = some c4:=by kernel_rfl

noncomputable def c5 : Code:=(.seq (reg Tryd.f5 0) (.seq (reg Tryd.f5 1) (.seq (reg Tryd.f5 2) (.seq (reg Tryd.f5 3) (.seq (reg Tryd.f5 4) Code.ret)))))
theorem body5 : Tryd.f5.body = some c5:=by kernel_rfl

noncomputable def c6 : Code:=(.seq (reg Tryd.f6 0) (.seq (reg Tryd.f6 1) Code.ret))
theorem body6 : Tryd.f6.body = some c6:=by kernel_rfl

noncomputable def b7_1 : Code:=(.seq (reg Tryd.f7 5) (.seq (.cond (Operand.tmp 18) Code.skip (Code.exit 0)) (.seq (.block 1 (.seq (reg Tryd.f7 6) (.seq (reg Tryd.f7 7) (.seq (reg Tryd.f7 8) (.seq (reg Tryd.f7 9) (reg Tryd.f7 10)))))) (reg Tryd.f7 11))))
noncomputable def c7 : Code:=(.seq (reg Tryd.f7 0) (.seq (reg Tryd.f7 1) (.seq (reg Tryd.f7 2) (.seq (reg Tryd.f7 3) (.seq (.seq (reg Tryd.f7 4) (.block 0 (.loop b7_1))) (.seq (reg Tryd.f7 12) (.seq (reg Tryd.f7 13) (.seq (reg Tryd.f7 14) (.seq (.seq (reg Tryd.f7 15) (.block 2 (.seq (reg Tryd.f7 16) (.cond (Operand.tmp 73) (reg Tryd.f7 17) (.seq (reg Tryd.f7 18) (.cond (Operand.tmp 76) (.seq (reg Tryd.f7 19) (reg Tryd.f7 20)) Code.skip)))))) (.seq (reg Tryd.f7 21) Code.ret))))))))))
theorem body7 : Tryd.f7.body = some c7:=by kernel_rfl

noncomputable def c8 : Code:=(.seq (reg Tryd.f8 0) (.seq (reg Tryd.f8 1) Code.ret))
theorem body8 : Tryd.f8.body = some c8:=by kernel_rfl

noncomputable def c9 : Code:=(.seq (reg Tryd.f9 0) (.seq (.seq (reg Tryd.f9 1) (.cond (Operand.tmp 7) (.seq (reg Tryd.f9 2) Code.ret) Code.skip)) (.seq (reg Tryd.f9 3) (.seq (reg Tryd.f9 4) Code.ret))))
theorem body9 : Tryd.f9.body = some c9:=by kernel_rfl

noncomputable def c10 : Code:=(.seq (reg Tryd.f10 0) (.seq (.seq (reg Tryd.f10 1) (.cond (Operand.tmp 5) (.seq (reg Tryd.f10 2) Code.ret) Code.skip)) (.seq (reg Tryd.f10 3) Code.ret)))
theorem body10 : Tryd.f10.body = some c10:=by kernel_rfl

noncomputable def c11 : Code:=(.seq (reg Tryd.f11 0) (.seq (reg Tryd.f11 1) (.seq (.seq (reg Tryd.f11 2) (.cond (Operand.tmp 10) (reg Tryd.f11 3) Code.skip)) (.seq (reg Tryd.f11 4) Code.ret))))
theorem body11 : Tryd.f11.body = some c11:=by kernel_rfl

noncomputable def c12 : Code:=(.seq (reg Tryd.f12 0) (.seq (.block 0 (.seq (reg Tryd.f12 1) (.cond (Operand.tmp 11) (.seq (reg Tryd.f12 2) Code.ret) (.seq (reg Tryd.f12 3) (.cond (Operand.tmp 16) (.seq (reg Tryd.f12 4) Code.ret) (.seq (reg Tryd.f12 5) (.cond (Operand.tmp 35) (.seq (reg Tryd.f12 6) Code.ret) (.seq (reg Tryd.f12 7) (.cond (Operand.tmp 41) (.seq (reg Tryd.f12 8) Code.ret) Code.skip))))))))) (.seq (reg Tryd.f12 9) (.seq (reg Tryd.f12 10) (.seq (reg Tryd.f12 11) (.seq (reg Tryd.f12 12) (.seq (.block 1 (.seq (reg Tryd.f12 16) (.cond (Operand.tmp 90) (.seq (reg Tryd.f12 17) (reg Tryd.f12 18)) (.seq (reg Tryd.f12 19) (.cond (Operand.tmp 108) (.seq (reg Tryd.f12 20) Code.ret) (.seq (reg Tryd.f12 13) (.seq (reg Tryd.f12 14) (reg Tryd.f12 15)))))))) (.seq (.seq (reg Tryd.f12 21) (.cond (Operand.tmp 125) (.seq (reg Tryd.f12 22) Code.ret) Code.skip)) (.seq (reg Tryd.f12 23) Code.ret)))))))))
theorem body12 : Tryd.f12.body = some c12:=by kernel_rfl

noncomputable def c13 : Code:=(.seq (reg Tryd.f13 0) (.seq (.block 0 (.seq (reg Tryd.f13 1) (.cond (Operand.tmp 11) (.seq (reg Tryd.f13 2) Code.ret) (.seq (reg Tryd.f13 3) (.cond (Operand.tmp 16) (.seq (reg Tryd.f13 4) Code.ret) (.seq (reg Tryd.f13 5) (.cond (Operand.tmp 35) (.seq (reg Tryd.f13 6) Code.ret) (.seq (reg Tryd.f13 7) (.cond (Operand.tmp 41) (.seq (reg Tryd.f13 8) Code.ret) Code.skip))))))))) (.seq (reg Tryd.f13 9) (.seq (reg Tryd.f13 10) (.seq (reg Tryd.f13 11) (.seq (reg Tryd.f13 12) (.seq (reg Tryd.f13 13) (.seq (.block 1 (.seq (reg Tryd.f13 16) (.cond (Operand.tmp 103) (.seq (reg Tryd.f13 17) (reg Tryd.f13 18)) (.seq (reg Tryd.f13 19) (.cond (Operand.tmp 126) (.seq (reg Tryd.f13 20) Code.ret) (.seq (reg Tryd.f13 14) (reg Tryd.f13 15))))))) (.seq (.seq (reg Tryd.f13 21) (.cond (Operand.tmp 144) (.seq (reg Tryd.f13 22) Code.ret) Code.skip)) (.seq (reg Tryd.f13 23) Code.ret))))))))))
theorem body13 : Tryd.f13.body = some c13:=by kernel_rfl

noncomputable def b14_1 : Code:=(.seq (.seq (reg Tryd.f14 4) (.cond (Operand.tmp 39) Code.skip (Code.exit 0))) (.seq (.block 1 (.seq (reg Tryd.f14 6) (.cond (Operand.tmp 53) (.seq (reg Tryd.f14 7) Code.ret) Code.skip))) (reg Tryd.f14 5)))
noncomputable def c14 : Code:=(.seq (reg Tryd.f14 0) (.seq (.seq (reg Tryd.f14 1) (.cond (Operand.tmp 34) (.seq (reg Tryd.f14 2) Code.ret) Code.skip)) (.seq (.seq (reg Tryd.f14 3) (.block 0 (.loop b14_1))) (.seq (reg Tryd.f14 8) Code.ret))))
theorem body14 : Tryd.f14.body = some c14:=by kernel_rfl

noncomputable def b15_1 : Code:=(.seq (.seq (reg Tryd.f15 4) (.cond (Operand.tmp 31) Code.skip (Code.exit 0))) (.seq (.block 1 (.seq (reg Tryd.f15 6) (.cond (Operand.tmp 42) (.seq (reg Tryd.f15 7) Code.ret) Code.skip))) (reg Tryd.f15 5)))
noncomputable def c15 : Code:=(.seq (reg Tryd.f15 0) (.seq (.seq (reg Tryd.f15 1) (.cond (Operand.tmp 25) (.seq (reg Tryd.f15 2) Code.ret) Code.skip)) (.seq (.seq (reg Tryd.f15 3) (.block 0 (.loop b15_1))) (.seq (reg Tryd.f15 8) (.seq (reg Tryd.f15 9) Code.ret)))))
theorem body15 : Tryd.f15.body = some c15:=by kernel_rfl

noncomputable def c16 : Code:=(.seq (reg Tryd.f16 0) (.seq (reg Tryd.f16 1) Code.ret))
theorem body16 : Tryd.f16.body = some c16:=by kernel_rfl

noncomputable def c17 : Code:=(.seq (reg Tryd.f17 0) (.seq (reg Tryd.f17 1) Code.ret))
theorem body17 : Tryd.f17.body = some c17:=by kernel_rfl

noncomputable def c18 : Code:=(.seq (reg Tryd.f18 0) (.seq (reg Tryd.f18 1) Code.ret))
theorem body18 : Tryd.f18.body = some c18:=by kernel_rfl

noncomputable def c19 : Code:=(.seq (reg Tryd.f19 0) (.seq (.seq (reg Tryd.f19 1) (.seq (reg Tryd.f19 2) (.cond (Operand.tmp 13) (.seq (reg Tryd.f19 3) Code.ret) Code.skip))) (.seq (reg Tryd.f19 4) (.seq (reg Tryd.f19 5) (.seq (.block 0 (.seq (reg Tryd.f19 6) (.cond (Operand.tmp 17) (.seq (reg Tryd.f19 7) Code.ret) (.seq (reg Tryd.f19 8) (.cond (Operand.tmp 20) (.seq (reg Tryd.f19 9) Code.ret) (.seq (reg Tryd.f19 10) (.cond (Operand.tmp 28) (.seq (reg Tryd.f19 11) Code.ret) (.seq (reg Tryd.f19 12) (.cond (Operand.tmp 32) (.seq (reg Tryd.f19 13) Code.ret) (.seq (reg Tryd.f19 14) (.cond (Operand.tmp 35) (.seq (reg Tryd.f19 15) Code.ret) (.seq (reg Tryd.f19 16) (.cond (Operand.tmp 39) (.seq (reg Tryd.f19 17) Code.ret) Code.skip))))))))))))) (.seq (reg Tryd.f19 18) Code.ret))))))
theorem body19 : Tryd.f19.body = some c19:=by kernel_rfl

noncomputable def c20 : Code:=(.seq (reg Tryd.f20 0) (.seq (reg Tryd.f20 1) Code.ret))
theorem body20 : Tryd.f20.body = some c20:=by kernel_rfl

noncomputable def b21_1 : Code:=(.seq (reg Tryd.f21 4) (.seq (.cond (Operand.tmp 23) Code.skip (Code.exit 0)) (.seq (.block 1 (.seq (reg Tryd.f21 5) (.seq (reg Tryd.f21 6) (.cond (Operand.tmp 34) (.seq (reg Tryd.f21 7) Code.ret) Code.skip)))) (reg Tryd.f21 8))))
noncomputable def b21_3 : Code:=(.seq (reg Tryd.f21 15) (.seq (.cond (Operand.tmp 51) Code.skip (Code.exit 4)) (.seq (.block 5 (.seq (reg Tryd.f21 16) (.seq (reg Tryd.f21 17) (.cond (Operand.tmp 56) (.seq (reg Tryd.f21 18) Code.ret) Code.skip)))) (reg Tryd.f21 19))))
noncomputable def b21_2 : Code:=(.seq (reg Tryd.f21 10) (.seq (.cond (Operand.tmp 40) Code.skip (Code.exit 2)) (.seq (.block 3 (.seq (reg Tryd.f21 11) (.seq (.seq (reg Tryd.f21 12) (.cond (Operand.tmp 46) (.seq (reg Tryd.f21 13) Code.ret) Code.skip)) (.seq (reg Tryd.f21 14) (.block 4 (.loop b21_3)))))) (reg Tryd.f21 20))))
noncomputable def c21 : Code:=(.seq (reg Tryd.f21 0) (.seq (.seq (reg Tryd.f21 1) (.cond (Operand.tmp 18) (.seq (reg Tryd.f21 2) Code.ret) Code.skip)) (.seq (.seq (reg Tryd.f21 3) (.block 0 (.loop b21_1))) (.seq (.seq (reg Tryd.f21 9) (.block 2 (.loop b21_2))) (.seq (reg Tryd.f21 21) Code.ret)))))
theorem body21 : Tryd.f21.body = some c21:=by kernel_rfl

noncomputable def b22_1 : Code:=(.seq (reg Tryd.f22 4) (.seq (.cond (Operand.tmp 27) Code.skip (Code.exit 0)) (.seq (.block 1 (.seq (reg Tryd.f22 5) (reg Tryd.f22 6))) (reg Tryd.f22 7))))
noncomputable def b22_2 : Code:=(.seq (reg Tryd.f22 10) (.seq (.cond (Operand.tmp 49) Code.skip (Code.exit 2)) (.seq (.block 3 (.seq (reg Tryd.f22 11) (reg Tryd.f22 12))) (reg Tryd.f22 13))))
noncomputable def b22_4 : Code:=(.seq (reg Tryd.f22 21) (.seq (.cond (Operand.tmp 80) Code.skip (Code.exit 6)) (.seq (.block 7 (.seq (reg Tryd.f22 22) (reg Tryd.f22 23))) (reg Tryd.f22 24))))
noncomputable def b22_3 : Code:=(.seq (reg Tryd.f22 16) (.seq (.cond (Operand.tmp 65) Code.skip (Code.exit 4)) (.seq (.block 5 (.seq (reg Tryd.f22 17) (.seq (.seq (reg Tryd.f22 18) (.cond (Operand.tmp 69) (Code.exit 4) Code.skip)) (.seq (reg Tryd.f22 19) (.seq (reg Tryd.f22 20) (.block 6 (.loop b22_4))))))) (reg Tryd.f22 25))))
noncomputable def c22 : Code:=(.seq (reg Tryd.f22 0) (.seq (reg Tryd.f22 1) (.seq (reg Tryd.f22 2) (.seq (.seq (reg Tryd.f22 3) (.block 0 (.loop b22_1))) (.seq (reg Tryd.f22 8) (.seq (.seq (reg Tryd.f22 9) (.block 2 (.loop b22_2))) (.seq (reg Tryd.f22 14) (.seq (.seq (reg Tryd.f22 15) (.block 4 (.loop b22_3))) (.seq (reg Tryd.f22 26) Code.ret)))))))))
theorem body22 : Tryd.f22.body = some c22:=by kernel_rfl

noncomputable def b23_1 : Code:=(.seq (reg Tryd.f23 4) (.seq (.cond (Operand.tmp 21) Code.skip (Code.exit 0)) (.seq (.block 1 (.seq (reg Tryd.f23 5) (.seq (reg Tryd.f23 6) (.cond (Operand.tmp 27) (.seq (reg Tryd.f23 7) Code.ret) Code.skip)))) (reg Tryd.f23 8))))
noncomputable def c23 : Code:=(.seq (reg Tryd.f23 0) (.seq (.seq (reg Tryd.f23 1) (.cond (Operand.tmp 15) (.seq (reg Tryd.f23 2) Code.ret) Code.skip)) (.seq (.seq (reg Tryd.f23 3) (.block 0 (.loop b23_1))) (.seq (.seq (reg Tryd.f23 9) (.cond (Operand.tmp 40) (.seq (reg Tryd.f23 10) Code.ret) Code.skip)) (.seq (reg Tryd.f23 11) (.seq (reg Tryd.f23 12) Code.ret))))))
theorem body23 : Tryd.f23.body = some c23:=by kernel_rfl

noncomputable def c24 : Code:=(.seq (reg Tryd.f24 0) (.seq (.seq (reg Tryd.f24 1) (.cond (Operand.tmp 5) (.seq (reg Tryd.f24 2) Code.ret) Code.skip)) (.seq (reg Tryd.f24 3) Code.ret)))
theorem body24 : Tryd.f24.body = some c24:=by kernel_rfl

noncomputable def c25 : Code:=(.seq (reg Tryd.f25 0) (.seq (.seq (reg Tryd.f25 1) (.cond (Operand.tmp 18) (.seq (reg Tryd.f25 2) Code.ret) Code.skip)) (.seq (reg Tryd.f25 3) Code.ret)))
theorem body25 : Tryd.f25.body = some c25:=by kernel_rfl

noncomputable def b26_1 : Code:=(.seq (reg Tryd.f26 3) (.seq (.cond (Operand.tmp 17) Code.skip (Code.exit 0)) (.seq (.block 1 (.seq (reg Tryd.f26 4) (reg Tryd.f26 5))) (reg Tryd.f26 6))))
noncomputable def c26 : Code:=(.seq (reg Tryd.f26 0) (.seq (reg Tryd.f26 1) (.seq (.seq (reg Tryd.f26 2) (.block 0 (.loop b26_1))) (.seq (reg Tryd.f26 7) Code.ret))))
theorem body26 : Tryd.f26.body = some c26:=by kernel_rfl

noncomputable def c27 : Code:=(.seq (reg Tryd.f27 0) (.seq (reg Tryd.f27 1) (.seq (.seq (reg Tryd.f27 2) (.cond (Operand.tmp 16) (.seq (reg Tryd.f27 3) Code.ret) Code.skip)) (.seq (reg Tryd.f27 4) (.seq (reg Tryd.f27 5) (.seq (reg Tryd.f27 6) (.seq (reg Tryd.f27 7) Code.ret)))))))
theorem body27 : Tryd.f27.body = some c27:=by kernel_rfl

noncomputable def b28_1 : Code:=(.seq (.seq (reg Tryd.f28 2) (.cond (Operand.tmp 8) Code.skip (Code.exit 0))) (.seq (.block 1 (.seq (reg Tryd.f28 4) (.cond (Operand.tmp 17) (.seq (reg Tryd.f28 5) Code.ret) Code.skip))) (reg Tryd.f28 3)))
noncomputable def c28 : Code:=(.seq (reg Tryd.f28 0) (.seq (.seq (reg Tryd.f28 1) (.block 0 (.loop b28_1))) (.seq (reg Tryd.f28 6) Code.ret)))
theorem body28 : Tryd.f28.body = some c28:=by kernel_rfl

noncomputable def c29 : Code:=(.seq (reg Tryd.f29 0) (.seq (.seq (reg Tryd.f29 1) (.cond (Operand.tmp 12) (.seq (reg Tryd.f29 2) Code.ret) Code.skip)) (.seq (reg Tryd.f29 3) Code.ret)))
theorem body29 : Tryd.f29.body = some c29:=by kernel_rfl

noncomputable def c30 : Code:=(.seq (reg Tryd.f30 0) (.seq (reg Tryd.f30 1) Code.ret))
theorem body30 : Tryd.f30.body = some c30:=by kernel_rfl

noncomputable def b31_2 : Code:=(.seq (reg Tryd.f31 10) (.seq (.cond (Operand.tmp 81) Code.skip (Code.exit 2)) (.seq (.block 3 (.seq (reg Tryd.f31 11) (.seq (reg Tryd.f31 12) (.cond (Operand.tmp 94) (.seq (reg Tryd.f31 13) Code.ret) Code.skip)))) (reg Tryd.f31 14))))
noncomputable def b31_1 : Code:=(.seq (reg Tryd.f31 4) (.seq (.cond (Operand.tmp 44) Code.skip (Code.exit 0)) (.seq (.block 1 (.seq (reg Tryd.f31 5) (.seq (reg Tryd.f31 6) (.seq (.seq (reg Tryd.f31 7) (.cond (Operand.tmp 76) (.seq (reg Tryd.f31 8) Code.ret) Code.skip)) (.seq (reg Tryd.f31 9) (.block 2 (.loop b31_2))))))) (reg Tryd.f31 15))))
noncomputable def b31_3 : Code:=(.seq (reg Tryd.f31 17) (.seq (.cond (Operand.tmp 101) Code.skip (Code.exit 4)) (.seq (.block 5 (.seq (reg Tryd.f31 18) (.seq (reg Tryd.f31 19) (.cond (Operand.tmp 114) (.seq (reg Tryd.f31 20) Code.ret) Code.skip)))) (reg Tryd.f31 21))))
noncomputable def c31 : Code:=(.seq (reg Tryd.f31 0) (.seq (.seq (reg Tryd.f31 1) (.cond (Operand.tmp 39) (.seq (reg Tryd.f31 2) Code.ret) Code.skip)) (.seq (.seq (reg Tryd.f31 3) (.block 0 (.loop b31_1))) (.seq (.seq (reg Tryd.f31 16) (.block 4 (.loop b31_3))) (.seq (reg Tryd.f31 22) Code.ret)))))
theorem body31 : Tryd.f31.body = some c31:=by kernel_rfl

noncomputable def c32 : Code:=(.seq (reg Tryd.f32 0) (.seq (reg Tryd.f32 1) Code.ret))
theorem body32 : Tryd.f32.body = some c32:=by kernel_rfl

noncomputable def b33_1 : Code:=(.seq (reg Tryd.f33 7) (.seq (.cond (Operand.tmp 27) Code.skip (Code.exit 0)) (.seq (.block 1 (.seq (reg Tryd.f33 8) (.seq (.seq (reg Tryd.f33 9) (.cond (Operand.tmp 32) (.seq (reg Tryd.f33 10) Code.ret) Code.skip)) (reg Tryd.f33 11)))) (reg Tryd.f33 12))))
noncomputable def b33_3 : Code:=(.seq (.seq (reg Tryd.f33 19) (.cond (Operand.tmp 48) Code.skip (Code.exit 4))) (.seq (.block 5 (.seq (reg Tryd.f33 21) (.cond (Operand.tmp 63) (.seq (reg Tryd.f33 22) Code.ret) Code.skip))) (reg Tryd.f33 20)))
noncomputable def b33_2 : Code:=(.seq (reg Tryd.f33 16) (.seq (.cond (Operand.tmp 44) Code.skip (Code.exit 2)) (.seq (.block 3 (.seq (reg Tryd.f33 17) (.seq (reg Tryd.f33 18) (.block 4 (.loop b33_3))))) (reg Tryd.f33 23))))
noncomputable def b33_4 : Code:=(.seq (reg Tryd.f33 25) (.seq (.cond (Operand.tmp 69) Code.skip (Code.exit 6)) (.seq (.block 7 (.seq (reg Tryd.f33 26) (.seq (reg Tryd.f33 27) (.cond (Operand.tmp 79) (.seq (reg Tryd.f33 28) Code.ret) Code.skip)))) (reg Tryd.f33 29))))
noncomputable def c33 : Code:=(.seq (reg Tryd.f33 0) (.seq (.seq (reg Tryd.f33 1) (.cond (Operand.tmp 12) (.seq (reg Tryd.f33 2) Code.ret) Code.skip)) (.seq (.seq (reg Tryd.f33 3) (.cond (Operand.tmp 22) (.seq (reg Tryd.f33 4) Code.ret) Code.skip)) (.seq (reg Tryd.f33 5) (.seq (.seq (reg Tryd.f33 6) (.block 0 (.loop b33_1))) (.seq (.seq (reg Tryd.f33 13) (.cond (Operand.tmp 39) (.seq (reg Tryd.f33 14) Code.ret) Code.skip)) (.seq (.seq (reg Tryd.f33 15) (.block 2 (.loop b33_2))) (.seq (.seq (reg Tryd.f33 24) (.block 6 (.loop b33_4))) (.seq (reg Tryd.f33 30) Code.ret)))))))))
theorem body33 : Tryd.f33.body = some c33:=by kernel_rfl

noncomputable def c34 : Code:=(.seq (reg Tryd.f34 0) (.seq (reg Tryd.f34 1) Code.ret))
theorem body34 : Tryd.f34.body = some c34:=by kernel_rfl

noncomputable def c35 : Code:=(.seq (reg Tryd.f35 0) (.seq (reg Tryd.f35 1) Code.ret))
theorem body35 : Tryd.f35.body = some c35:=by kernel_rfl

noncomputable def b36_1 : Code:=(.seq (reg Tryd.f36 7) (.seq (.cond (Operand.tmp 27) Code.skip (Code.exit 0)) (.seq (.block 1 (.seq (reg Tryd.f36 8) (.seq (reg Tryd.f36 9) (.cond (Operand.tmp 40) (.seq (reg Tryd.f36 10) Code.ret) Code.skip)))) (reg Tryd.f36 11))))
noncomputable def b36_2 : Code:=(.seq (reg Tryd.f36 14) (.seq (.cond (Operand.tmp 45) Code.skip (Code.exit 2)) (.seq (.block 3 (.seq (reg Tryd.f36 15) (.seq (.seq (reg Tryd.f36 16) (.cond (Operand.tmp 57) (.seq (reg Tryd.f36 17) Code.ret) Code.skip)) (reg Tryd.f36 18)))) (reg Tryd.f36 19))))
noncomputable def b36_3 : Code:=(.seq (reg Tryd.f36 23) (.seq (.cond (Operand.tmp 70) Code.skip (Code.exit 4)) (.seq (.block 5 (.seq (reg Tryd.f36 24) (reg Tryd.f36 25))) (reg Tryd.f36 26))))
noncomputable def c36 : Code:=(.seq (reg Tryd.f36 0) (.seq (.seq (reg Tryd.f36 1) (.seq (reg Tryd.f36 2) (.cond (Operand.tmp 16) (.seq (reg Tryd.f36 3) Code.ret) Code.skip))) (.seq (.seq (reg Tryd.f36 4) (.cond (Operand.tmp 23) (.seq (reg Tryd.f36 5) Code.ret) Code.skip)) (.seq (.seq (reg Tryd.f36 6) (.block 0 (.loop b36_1))) (.seq (reg Tryd.f36 12) (.seq (.seq (reg Tryd.f36 13) (.block 2 (.loop b36_2))) (.seq (.seq (reg Tryd.f36 20) (.cond (Operand.tmp 65) (.seq (reg Tryd.f36 21) Code.ret) Code.skip)) (.seq (.seq (reg Tryd.f36 22) (.block 4 (.loop b36_3))) (.seq (.seq (reg Tryd.f36 27) (.cond (Operand.tmp 79) (.seq (reg Tryd.f36 28) Code.ret) Code.skip)) (.seq (reg Tryd.f36 29) Code.ret))))))))))
theorem body36 : Tryd.f36.body = some c36:=by kernel_rfl

noncomputable def c37 : Code:=(.seq (reg Tryd.f37 0) (.seq (reg Tryd.f37 1) Code.ret))
theorem body37 : Tryd.f37.body = some c37:=by kernel_rfl

noncomputable def c38 : Code:=(.seq (reg Tryd.f38 0) (.seq (reg Tryd.f38 1) Code.ret))
theorem body38 : Tryd.f38.body = some c38:=by kernel_rfl

noncomputable def c39 : Code:=(.seq (reg Tryd.f39 0) (.seq (reg Tryd.f39 1) Code.ret))
theorem body39 : Tryd.f39.body = some c39:=by kernel_rfl

noncomputable def c40 : Code:=(.seq (reg Tryd.f40 0) (.seq (reg Tryd.f40 1) Code.ret))
theorem body40 : Tryd.f40.body = some c40:=by kernel_rfl

noncomputable def c41 : Code:=(.seq (reg Tryd.f41 0) (.seq (reg Tryd.f41 1) Code.ret))
theorem body41 : Tryd.f41.body = some c41:=by kernel_rfl

noncomputable def b42_1 : Code:=(.seq (reg Tryd.f42 9) (.seq (.cond (Operand.tmp 28) Code.skip (Code.exit 0)) (.seq (.block 1 (.seq (reg Tryd.f42 10) (.seq (.seq (reg Tryd.f42 11) (.cond (Operand.tmp 34) (.seq (reg Tryd.f42 12) Code.ret) Code.skip)) (reg Tryd.f42 13)))) (reg Tryd.f42 14))))
noncomputable def c42 : Code:=(.seq (reg Tryd.f42 0) (.seq (.seq (reg Tryd.f42 1) (.cond (Operand.tmp 8) (.seq (reg Tryd.f42 2) Code.ret) Code.skip)) (.seq (.seq (reg Tryd.f42 3) (.cond (Operand.tmp 18) (.seq (reg Tryd.f42 4) Code.ret) Code.skip)) (.seq (.seq (reg Tryd.f42 5) (.cond (Operand.tmp 22) (.seq (reg Tryd.f42 6) Code.ret) Code.skip)) (.seq (reg Tryd.f42 7) (.seq (.seq (reg Tryd.f42 8) (.block 0 (.loop b42_1))) (.seq (.seq (reg Tryd.f42 15) (.cond (Operand.tmp 46) (.seq (reg Tryd.f42 16) Code.ret) Code.skip)) (.seq (reg Tryd.f42 17) Code.ret))))))))
theorem body42 : Tryd.f42.body = some c42:=by kernel_rfl

noncomputable def c43 : Code:=(.seq (reg Tryd.f43 0) (.seq (reg Tryd.f43 1) Code.ret))
theorem body43 : Tryd.f43.body = some c43:=by kernel_rfl

noncomputable def c44 : Code:=(.seq (reg Tryd.f44 0) (.seq (reg Tryd.f44 1) Code.ret))
theorem body44 : Tryd.f44.body = some c44:=by kernel_rfl

noncomputable def c45 : Code:=(.seq (reg Tryd.f45 0) (.seq (reg Tryd.f45 1) (.seq (reg Tryd.f45 2) Code.ret)))
theorem body45 : Tryd.f45.body = some c45:=by kernel_rfl

noncomputable def c46 : Code:=(.seq (reg Tryd.f46 0) (.seq (reg Tryd.f46 1) Code.ret))
theorem body46 : Tryd.f46.body = some c46:=by kernel_rfl

noncomputable def c47 : Code:=(.seq (reg Tryd.f47 0) (.seq (reg Tryd.f47 1) Code.ret))
theorem body47 : Tryd.f47.body = some c47:=by kernel_rfl

noncomputable def c48 : Code:=(.seq (reg Tryd.f48 0) (.seq (reg Tryd.f48 1) Code.ret))
theorem body48 : Tryd.f48.body = some c48:=by kernel_rfl

noncomputable def c49 : Code:=(.seq (reg Tryd.f49 0) (.seq (reg Tryd.f49 1) Code.ret))
theorem body49 : Tryd.f49.body = some c49:=by kernel_rfl

noncomputable def c50 : Code:=(.seq (reg Tryd.f50 0) (.seq (reg Tryd.f50 1) Code.ret))
theorem body50 : Tryd.f50.body = some c50:=by kernel_rfl

noncomputable def c51 : Code:=(.seq (reg Tryd.f51 0) (.seq (reg Tryd.f51 1) Code.ret))
theorem body51 : Tryd.f51.body = some c51:=by kernel_rfl

noncomputable def c52 : Code:=(.seq (reg Tryd.f52 0) (.seq (reg Tryd.f52 1) Code.ret))
theorem body52 : Tryd.f52.body = some c52:=by kernel_rfl

noncomputable def b53_1 : Code:=(.seq (reg Tryd.f53 4) (.seq (.cond (Operand.tmp 21) Code.skip (Code.exit 0)) (.seq (.block 1 (.seq (reg Tryd.f53 5) (.seq (.seq (reg Tryd.f53 6) (.cond (Operand.tmp 27) (.seq (reg Tryd.f53 7) Code.ret) Code.skip)) (reg Tryd.f53 8)))) (reg Tryd.f53 9))))
noncomputable def c53 : Code:=(.seq (reg Tryd.f53 0) (.seq (reg Tryd.f53 1) (.seq (reg Tryd.f53 2) (.seq (.seq (reg Tryd.f53 3) (.block 0 (.loop b53_1))) (.seq (.seq (reg Tryd.f53 10) (.cond (Operand.tmp 34) (.seq (reg Tryd.f53 11) Code.ret) Code.skip)) (.seq (reg Tryd.f53 12) (.seq (reg Tryd.f53 13) Code.ret)))))))
theorem body53 : Tryd.f53.body = some c53:=by kernel_rfl

noncomputable def c54 : Code:=(.seq (reg Tryd.f54 0) (.seq (reg Tryd.f54 1) Code.ret))
theorem body54 : Tryd.f54.body = some c54:=by kernel_rfl

noncomputable def c55 : Code:=(.seq (reg Tryd.f55 0) (.seq (.block 0 (.seq (reg Tryd.f55 1) (.cond (Operand.tmp 5) (.seq (reg Tryd.f55 2) Code.ret) (.seq (reg Tryd.f55 3) (.cond (Operand.tmp 12) (.seq (reg Tryd.f55 4) Code.ret) (.seq (reg Tryd.f55 5) (.cond (Operand.tmp 21) (.seq (reg Tryd.f55 6) Code.ret) Code.skip))))))) (.seq (reg Tryd.f55 7) Code.ret)))
theorem body55 : Tryd.f55.body = some c55:=by kernel_rfl

noncomputable def c56 : Code:=(.seq (reg Tryd.f56 0) (.seq (reg Tryd.f56 1) Code.ret))
theorem body56 : Tryd.f56.body = some c56:=by kernel_rfl

noncomputable def c57 : Code:=(.seq (reg Tryd.f57 0) (.seq (reg Tryd.f57 1) Code.ret))
theorem body57 : Tryd.f57.body = some c57:=by kernel_rfl

noncomputable def c58 : Code:=(.seq (reg Tryd.f58 0) (.seq (reg Tryd.f58 1) Code.ret))
theorem body58 : Tryd.f58.body = some c58:=by kernel_rfl

noncomputable def b59_1 : Code:=(.seq (reg Tryd.f59 7) (.seq (.cond (Operand.tmp 27) Code.skip (Code.exit 0)) (.seq (.block 1 (.seq (reg Tryd.f59 8) (.seq (reg Tryd.f59 9) (.cond (Operand.tmp 39) (.seq (reg Tryd.f59 10) Code.ret) Code.skip)))) (reg Tryd.f59 11))))
noncomputable def b59_2 : Code:=(.seq (reg Tryd.f59 16) (.seq (.cond (Operand.tmp 52) Code.skip (Code.exit 2)) (.seq (.block 3 (.seq (reg Tryd.f59 17) (reg Tryd.f59 18))) (reg Tryd.f59 19))))
noncomputable def c59 : Code:=(.seq (reg Tryd.f59 0) (.seq (.seq (reg Tryd.f59 1) (.seq (reg Tryd.f59 2) (.cond (Operand.tmp 16) (.seq (reg Tryd.f59 3) Code.ret) Code.skip))) (.seq (.seq (reg Tryd.f59 4) (.cond (Operand.tmp 23) (.seq (reg Tryd.f59 5) Code.ret) Code.skip)) (.seq (.seq (reg Tryd.f59 6) (.block 0 (.loop b59_1))) (.seq (reg Tryd.f59 12) (.seq (.seq (reg Tryd.f59 13) (.cond (Operand.tmp 47) (.seq (reg Tryd.f59 14) Code.ret) Code.skip)) (.seq (.seq (reg Tryd.f59 15) (.block 2 (.loop b59_2))) (.seq (.seq (reg Tryd.f59 20) (.cond (Operand.tmp 61) (.seq (reg Tryd.f59 21) Code.ret) Code.skip)) (.seq (reg Tryd.f59 22) Code.ret)))))))))
theorem body59 : Tryd.f59.body = some c59:=by kernel_rfl

noncomputable def b60_1 : Code:=(.seq (reg Tryd.f60 4) (.seq (.cond (Operand.tmp 23) Code.skip (Code.exit 0)) (.seq (.block 1 (.seq (reg Tryd.f60 5) (.seq (reg Tryd.f60 6) (.cond (Operand.tmp 34) (.seq (reg Tryd.f60 7) Code.ret) Code.skip)))) (reg Tryd.f60 8))))
noncomputable def b60_3 : Code:=(.seq (reg Tryd.f60 15) (.seq (.cond (Operand.tmp 51) Code.skip (Code.exit 4)) (.seq (.block 5 (.seq (reg Tryd.f60 16) (.seq (reg Tryd.f60 17) (.cond (Operand.tmp 56) (.seq (reg Tryd.f60 18) Code.ret) Code.skip)))) (reg Tryd.f60 19))))
noncomputable def b60_2 : Code:=(.seq (reg Tryd.f60 10) (.seq (.cond (Operand.tmp 40) Code.skip (Code.exit 2)) (.seq (.block 3 (.seq (reg Tryd.f60 11) (.seq (.seq (reg Tryd.f60 12) (.cond (Operand.tmp 46) (.seq (reg Tryd.f60 13) Code.ret) Code.skip)) (.seq (reg Tryd.f60 14) (.block 4 (.loop b60_3)))))) (reg Tryd.f60 20))))
noncomputable def c60 : Code:=(.seq (reg Tryd.f60 0) (.seq (.seq (reg Tryd.f60 1) (.cond (Operand.tmp 18) (.seq (reg Tryd.f60 2) Code.ret) Code.skip)) (.seq (.seq (reg Tryd.f60 3) (.block 0 (.loop b60_1))) (.seq (.seq (reg Tryd.f60 9) (.block 2 (.loop b60_2))) (.seq (reg Tryd.f60 21) Code.ret)))))
theorem body60 : Tryd.f60.body = some c60:=by kernel_rfl

noncomputable def b61_1 : Code:=(.seq (reg Tryd.f61 4) (.seq (.cond (Operand.tmp 28) Code.skip (Code.exit 0)) (.seq (.block 1 (.seq (reg Tryd.f61 5) (.seq (reg Tryd.f61 6) (reg Tryd.f61 7)))) (reg Tryd.f61 8))))
noncomputable def b61_2 : Code:=(.seq (reg Tryd.f61 11) (.seq (.cond (Operand.tmp 53) Code.skip (Code.exit 2)) (.seq (.block 3 (.seq (reg Tryd.f61 12) (.seq (reg Tryd.f61 13) (reg Tryd.f61 14)))) (reg Tryd.f61 15))))
noncomputable def b61_4 : Code:=(.seq (reg Tryd.f61 24) (.seq (.cond (Operand.tmp 94) Code.skip (Code.exit 6)) (.seq (.block 7 (.seq (reg Tryd.f61 25) (reg Tryd.f61 26))) (reg Tryd.f61 27))))
noncomputable def b61_3 : Code:=(.seq (reg Tryd.f61 20) (.seq (.cond (Operand.tmp 80) Code.skip (Code.exit 4)) (.seq (.block 5 (.seq (reg Tryd.f61 21) (.seq (reg Tryd.f61 22) (.seq (reg Tryd.f61 23) (.block 6 (.loop b61_4)))))) (reg Tryd.f61 28))))
noncomputable def c61 : Code:=(.seq (reg Tryd.f61 0) (.seq (reg Tryd.f61 1) (.seq (reg Tryd.f61 2) (.seq (.seq (reg Tryd.f61 3) (.block 0 (.loop b61_1))) (.seq (reg Tryd.f61 9) (.seq (.seq (reg Tryd.f61 10) (.block 2 (.loop b61_2))) (.seq (reg Tryd.f61 16) (.seq (.seq (reg Tryd.f61 17) (.cond (Operand.tmp 74) (.seq (reg Tryd.f61 18) Code.ret) Code.skip)) (.seq (.seq (reg Tryd.f61 19) (.block 4 (.loop b61_3))) (.seq (reg Tryd.f61 29) Code.ret))))))))))
theorem body61 : Tryd.f61.body = some c61:=by kernel_rfl

noncomputable def b62_1 : Code:=(.seq (reg Tryd.f62 3) (.seq (.cond (Operand.tmp 19) Code.skip (Code.exit 0)) (.seq (.block 1 (.seq (reg Tryd.f62 4) (reg Tryd.f62 5))) (reg Tryd.f62 6))))
noncomputable def b62_2 : Code:=(.seq (reg Tryd.f62 8) (.seq (.cond (Operand.tmp 36) Code.skip (Code.exit 2)) (.seq (.block 3 (.seq (reg Tryd.f62 9) (reg Tryd.f62 10))) (reg Tryd.f62 11))))
noncomputable def c62 : Code:=(.seq (reg Tryd.f62 0) (.seq (reg Tryd.f62 1) (.seq (.seq (reg Tryd.f62 2) (.block 0 (.loop b62_1))) (.seq (.seq (reg Tryd.f62 7) (.block 2 (.loop b62_2))) (.seq (reg Tryd.f62 12) Code.ret)))))
theorem body62 : Tryd.f62.body = some c62:=by kernel_rfl

noncomputable def c63 : Code:=(.seq (reg Tryd.f63 0) (.seq (.seq (reg Tryd.f63 1) (.cond (Operand.tmp 4) (.seq (reg Tryd.f63 2) Code.ret) Code.skip)) (.seq (reg Tryd.f63 3) Code.ret)))
theorem body63 : Tryd.f63.body = some c63:=by kernel_rfl

noncomputable def c64 : Code:=(.seq (reg Tryd.f64 0) (.seq (.seq (reg Tryd.f64 1) (.cond (Operand.tmp 4) (.seq (reg Tryd.f64 2) Code.ret) Code.skip)) (.seq (reg Tryd.f64 3) Code.ret)))
theorem body64 : Tryd.f64.body = some c64:=by kernel_rfl

noncomputable def c65 : Code:=(.seq (reg Tryd.f65 0) (.seq (reg Tryd.f65 1) Code.ret))
theorem body65 : Tryd.f65.body = some c65:=by kernel_rfl

noncomputable def b66_1 : Code:=(.seq (reg Tryd.f66 2) (.seq (.cond (Operand.tmp 9) Code.skip (Code.exit 0)) (.seq (.block 1 (.seq (reg Tryd.f66 3) (.seq (reg Tryd.f66 4) (.cond (Operand.tmp 16) (.seq (reg Tryd.f66 5) Code.ret) Code.skip)))) (reg Tryd.f66 6))))
noncomputable def c66 : Code:=(.seq (reg Tryd.f66 0) (.seq (.seq (reg Tryd.f66 1) (.block 0 (.loop b66_1))) (.seq (reg Tryd.f66 7) Code.ret)))
theorem body66 : Tryd.f66.body = some c66:=by kernel_rfl

noncomputable def b67_1 : Code:=(.seq (reg Tryd.f67 3) (.seq (.cond (Operand.tmp 9) Code.skip (Code.exit 0)) (.seq (.block 1 (.seq (reg Tryd.f67 4) (.seq (.seq (reg Tryd.f67 5) (.cond (Operand.tmp 16) (.seq (reg Tryd.f67 6) Code.ret) Code.skip)) (reg Tryd.f67 7)))) (reg Tryd.f67 8))))
noncomputable def c67 : Code:=(.seq (reg Tryd.f67 0) (.seq (reg Tryd.f67 1) (.seq (.seq (reg Tryd.f67 2) (.block 0 (.loop b67_1))) (.seq (reg Tryd.f67 9) Code.ret))))
theorem body67 : Tryd.f67.body = some c67:=by kernel_rfl

noncomputable def b68_1 : Code:=(.seq (reg Tryd.f68 2) (.seq (.cond (Operand.tmp 9) Code.skip (Code.exit 0)) (.seq (.block 1 (.seq (reg Tryd.f68 3) (.seq (reg Tryd.f68 4) (.cond (Operand.tmp 16) (.seq (reg Tryd.f68 5) Code.ret) Code.skip)))) (reg Tryd.f68 6))))
noncomputable def c68 : Code:=(.seq (reg Tryd.f68 0) (.seq (.seq (reg Tryd.f68 1) (.block 0 (.loop b68_1))) (.seq (reg Tryd.f68 7) Code.ret)))
theorem body68 : Tryd.f68.body = some c68:=by kernel_rfl

noncomputable def c69 : Code:=(.seq (reg Tryd.f69 0) (.seq (reg Tryd.f69 1) (.seq (.seq (reg Tryd.f69 2) (.cond (Operand.tmp 14) (.seq (reg Tryd.f69 3) Code.ret) Code.skip)) (.seq (reg Tryd.f69 4) Code.ret))))
theorem body69 : Tryd.f69.body = some c69:=by kernel_rfl

noncomputable def c70 : Code:=(.seq (reg Tryd.f70 0) (.seq (reg Tryd.f70 1) Code.ret))
theorem body70 : Tryd.f70.body = some c70:=by kernel_rfl

noncomputable def c71 : Code:=(.seq (reg Tryd.f71 0) (.seq (.seq (reg Tryd.f71 1) (.cond (Operand.tmp 18) (.seq (reg Tryd.f71 2) Code.ret) Code.skip)) (.seq (reg Tryd.f71 3) Code.ret)))
theorem body71 : Tryd.f71.body = some c71:=by kernel_rfl

noncomputable def c72 : Code:=(.seq (reg Tryd.f72 0) (.seq (reg Tryd.f72 1) Code.ret))
theorem body72 : Tryd.f72.body = some c72:=by kernel_rfl

noncomputable def c73 : Code:=(.seq (reg Tryd.f73 0) (.seq (reg Tryd.f73 1) Code.ret))
theorem body73 : Tryd.f73.body = some c73:=by kernel_rfl

noncomputable def c74 : Code:=(.seq (reg Tryd.f74 0) (.seq (reg Tryd.f74 1) (.seq (reg Tryd.f74 2) Code.ret)))
theorem body74 : Tryd.f74.body = some c74:=by kernel_rfl

noncomputable def b75_1 : Code:=(.seq (reg Tryd.f75 3) (.seq (.cond (Operand.tmp 12) Code.skip (Code.exit 0)) (.seq (.block 1 (.seq (reg Tryd.f75 4) (reg Tryd.f75 5))) (reg Tryd.f75 6))))
noncomputable def c75 : Code:=(.seq (reg Tryd.f75 0) (.seq (reg Tryd.f75 1) (.seq (.seq (reg Tryd.f75 2) (.block 0 (.loop b75_1))) (.seq (reg Tryd.f75 7) Code.ret))))
theorem body75 : Tryd.f75.body = some c75:=by kernel_rfl

noncomputable def c76 : Code:=(.seq (reg Tryd.f76 0) (.seq (reg Tryd.f76 1) Code.ret))
theorem body76 : Tryd.f76.body = some c76:=by kernel_rfl

noncomputable def c77 : Code:=(.seq (reg Tryd.f77 0) (.seq (reg Tryd.f77 1) Code.ret))
theorem body77 : Tryd.f77.body = some c77:=by kernel_rfl

noncomputable def b78_1 : Code:=(.seq (reg Tryd.f78 3) (.seq (.cond (Operand.tmp 10) Code.skip (Code.exit 0)) (.seq (.block 1 (.seq (reg Tryd.f78 4) (.seq (.seq (reg Tryd.f78 5) (.cond (Operand.tmp 24) (.seq (reg Tryd.f78 6) Code.ret) Code.skip)) (reg Tryd.f78 7)))) (reg Tryd.f78 8))))
noncomputable def c78 : Code:=(.seq (reg Tryd.f78 0) (.seq (reg Tryd.f78 1) (.seq (.seq (reg Tryd.f78 2) (.block 0 (.loop b78_1))) (.seq (reg Tryd.f78 9) Code.ret))))
theorem body78 : Tryd.f78.body = some c78:=by kernel_rfl

noncomputable def c79 : Code:=(.seq (reg Tryd.f79 0) (.seq (reg Tryd.f79 1) Code.ret))
theorem body79 : Tryd.f79.body = some c79:=by kernel_rfl

noncomputable def c80 : Code:=(.seq (reg Tryd.f80 0) (.seq (.block 0 (.seq (reg Tryd.f80 1) (.cond (Operand.tmp 5) (.seq (reg Tryd.f80 2) Code.ret) (.seq (reg Tryd.f80 3) (.cond (Operand.tmp 13) (.seq (reg Tryd.f80 4) Code.ret) (.seq (reg Tryd.f80 5) (.cond (Operand.tmp 22) (.seq (reg Tryd.f80 6) Code.ret) Code.skip))))))) (.seq (reg Tryd.f80 7) Code.ret)))
theorem body80 : Tryd.f80.body = some c80:=by kernel_rfl

noncomputable def c81 : Code:=(.seq (reg Tryd.f81 0) (.seq (reg Tryd.f81 1) Code.ret))
theorem body81 : Tryd.f81.body = some c81:=by kernel_rfl

noncomputable def c82 : Code:=(.seq (reg Tryd.f82 0) (.seq (reg Tryd.f82 1) Code.ret))
theorem body82 : Tryd.f82.body = some c82:=by kernel_rfl

noncomputable def c83 : Code:=(.seq (reg Tryd.f83 0) (.seq (reg Tryd.f83 1) Code.ret))
theorem body83 : Tryd.f83.body = some c83:=by kernel_rfl

noncomputable def c84 : Code:=(.seq (reg Tryd.f84 0) (.seq (.seq (reg Tryd.f84 1) (.cond (Operand.tmp 4) (.seq (reg Tryd.f84 2) Code.ret) Code.skip)) (.seq (reg Tryd.f84 3) Code.ret)))
theorem body84 : Tryd.f84.body = some c84:=by kernel_rfl

noncomputable def c85 : Code:=(.seq (reg Tryd.f85 0) (.seq (.seq (reg Tryd.f85 1) (.cond (Operand.tmp 4) (.seq (reg Tryd.f85 2) Code.ret) Code.skip)) (.seq (reg Tryd.f85 3) Code.ret)))
theorem body85 : Tryd.f85.body = some c85:=by kernel_rfl

noncomputable def b86_1 : Code:=(.seq (reg Tryd.f86 3) (.seq (.cond (Operand.tmp 10) Code.skip (Code.exit 0)) (.seq (.block 1 (.seq (reg Tryd.f86 4) (reg Tryd.f86 5))) (reg Tryd.f86 6))))
noncomputable def c86 : Code:=(.seq (reg Tryd.f86 0) (.seq (reg Tryd.f86 1) (.seq (.seq (reg Tryd.f86 2) (.block 0 (.loop b86_1))) (.seq (reg Tryd.f86 7) Code.ret))))
theorem body86 : Tryd.f86.body = some c86:=by kernel_rfl

noncomputable def c87 : Code:=(.seq (reg Tryd.f87 0) (.seq (.seq (reg Tryd.f87 1) (.cond (Operand.tmp 8) (.seq (reg Tryd.f87 2) Code.ret) Code.skip)) (.seq (reg Tryd.f87 3) Code.ret)))
theorem body87 : Tryd.f87.body = some c87:=by kernel_rfl

noncomputable def c88 : Code:=(.seq (reg Tryd.f88 0) (.seq (reg Tryd.f88 1) (.seq (reg Tryd.f88 2) Code.ret)))
theorem body88 : Tryd.f88.body = some c88:=by kernel_rfl

noncomputable def c89 : Code:=(.seq (reg Tryd.f89 0) (.seq (reg Tryd.f89 1) (.seq (reg Tryd.f89 2) (.seq (reg Tryd.f89 3) Code.ret))))
theorem body89 : Tryd.f89.body = some c89:=by kernel_rfl

noncomputable def b90_1 : Code:=(.seq (reg Tryd.f90 3) (.seq (.cond (Operand.tmp 11) Code.skip (Code.exit 0)) (.seq (.block 1 (.seq (reg Tryd.f90 4) (reg Tryd.f90 5))) (reg Tryd.f90 6))))
noncomputable def c90 : Code:=(.seq (reg Tryd.f90 0) (.seq (reg Tryd.f90 1) (.seq (.seq (reg Tryd.f90 2) (.block 0 (.loop b90_1))) (.seq (reg Tryd.f90 7) Code.ret))))
theorem body90 : Tryd.f90.body = some c90:=by kernel_rfl

noncomputable def c91 : Code:=(.seq (reg Tryd.f91 0) (.seq (reg Tryd.f91 1) Code.ret))
theorem body91 : Tryd.f91.body = some c91:=by kernel_rfl

noncomputable def c92 : Code:=(.seq (reg Tryd.f92 0) (.seq (reg Tryd.f92 1) Code.ret))
theorem body92 : Tryd.f92.body = some c92:=by kernel_rfl

noncomputable def c93 : Code:=(.seq (reg Tryd.f93 0) (.seq (.seq (reg Tryd.f93 1) (.cond (Operand.tmp 4) (.seq (reg Tryd.f93 2) Code.ret) Code.skip)) (.seq (reg Tryd.f93 3) Code.ret)))
theorem body93 : Tryd.f93.body = some c93:=by kernel_rfl

noncomputable def b94_1 : Code:=(.seq (reg Tryd.f94 4) (.seq (.cond (Operand.tmp 20) Code.skip (Code.exit 0)) (.seq (.block 1 (.seq (reg Tryd.f94 5) (reg Tryd.f94 6))) (reg Tryd.f94 7))))
noncomputable def b94_2 : Code:=(.seq (reg Tryd.f94 10) (.seq (.cond (Operand.tmp 32) Code.skip (Code.exit 2)) (.seq (.block 3 (.seq (reg Tryd.f94 11) (reg Tryd.f94 12))) (reg Tryd.f94 13))))
noncomputable def c94 : Code:=(.seq (reg Tryd.f94 0) (.seq (reg Tryd.f94 1) (.seq (reg Tryd.f94 2) (.seq (.seq (reg Tryd.f94 3) (.block 0 (.loop b94_1))) (.seq (reg Tryd.f94 8) (.seq (.seq (reg Tryd.f94 9) (.block 2 (.loop b94_2))) (.seq (reg Tryd.f94 14) Code.ret)))))))
theorem body94 : Tryd.f94.body = some c94:=by kernel_rfl

noncomputable def b95_1 : Code:=(.seq (reg Tryd.f95 3) (.seq (.cond (Operand.tmp 9) Code.skip (Code.exit 0)) (.seq (.block 1 (.seq (reg Tryd.f95 4) (reg Tryd.f95 5))) (reg Tryd.f95 6))))
noncomputable def c95 : Code:=(.seq (reg Tryd.f95 0) (.seq (reg Tryd.f95 1) (.seq (.seq (reg Tryd.f95 2) (.block 0 (.loop b95_1))) (.seq (reg Tryd.f95 7) Code.ret))))
theorem body95 : Tryd.f95.body = some c95:=by kernel_rfl

noncomputable def b96_1 : Code:=(.seq (reg Tryd.f96 5) (.seq (.cond (Operand.tmp 19) Code.skip (Code.exit 0)) (.seq (.block 1 (.seq (reg Tryd.f96 6) (reg Tryd.f96 7))) (reg Tryd.f96 8))))
noncomputable def c96 : Code:=(.seq (reg Tryd.f96 0) (.seq (reg Tryd.f96 1) (.seq (reg Tryd.f96 2) (.seq (reg Tryd.f96 3) (.seq (.seq (reg Tryd.f96 4) (.block 0 (.loop b96_1))) (.seq (reg Tryd.f96 9) Code.ret))))))
theorem body96 : Tryd.f96.body = some c96:=by kernel_rfl

noncomputable def b97_1 : Code:=(.seq (reg Tryd.f97 5) (.seq (.cond (Operand.tmp 36) Code.skip (Code.exit 0)) (.seq (.block 1 (.seq (reg Tryd.f97 6) (.seq (reg Tryd.f97 7) (.seq (reg Tryd.f97 8) (reg Tryd.f97 9))))) (reg Tryd.f97 10))))
noncomputable def c97 : Code:=(.seq (reg Tryd.f97 0) (.seq (reg Tryd.f97 1) (.seq (reg Tryd.f97 2) (.seq (reg Tryd.f97 3) (.seq (.seq (reg Tryd.f97 4) (.block 0 (.loop b97_1))) (.seq (reg Tryd.f97 11) Code.ret))))))
theorem body97 : Tryd.f97.body = some c97:=by kernel_rfl

noncomputable def b98_2 : Code:=(.seq (reg Tryd.f98 6) (.seq (.cond (Operand.tmp 13) Code.skip (Code.exit 2)) (.seq (.block 3 (.seq (reg Tryd.f98 7) (reg Tryd.f98 8))) (reg Tryd.f98 9))))
noncomputable def b98_1 : Code:=(.seq (reg Tryd.f98 3) (.seq (.cond (Operand.tmp 10) Code.skip (Code.exit 0)) (.seq (.block 1 (.seq (reg Tryd.f98 4) (.seq (reg Tryd.f98 5) (.block 2 (.loop b98_2))))) (reg Tryd.f98 10))))
noncomputable def b98_3 : Code:=(.seq (.seq (reg Tryd.f98 12) (.cond (Operand.tmp 32) Code.skip (Code.exit 4))) (.seq (.block 5 (.seq (reg Tryd.f98 14) (.seq (reg Tryd.f98 15) (reg Tryd.f98 16)))) (reg Tryd.f98 13)))
noncomputable def c98 : Code:=(.seq (reg Tryd.f98 0) (.seq (reg Tryd.f98 1) (.seq (.seq (reg Tryd.f98 2) (.block 0 (.loop b98_1))) (.seq (.seq (reg Tryd.f98 11) (.block 4 (.loop b98_3))) (.seq (reg Tryd.f98 17) Code.ret)))))
theorem body98 : Tryd.f98.body = some c98:=by kernel_rfl

noncomputable def c99 : Code:=(.seq (reg Tryd.f99 0) (.seq (reg Tryd.f99 1) Code.ret))
theorem body99 : Tryd.f99.body = some c99:=by kernel_rfl

noncomputable def c100 : Code:=(.seq (reg Tryd.f100 0) (.seq (reg Tryd.f100 1) (.seq (reg Tryd.f100 2) Code.ret)))
theorem body100 : Tryd.f100.body = some c100:=by kernel_rfl

noncomputable def c121 : Code:=(.seq (reg Tryd.f121 0) (reg Tryd.f121 1))
theorem body121 : Tryd.f121.body = some c121:=by kernel_rfl

end Go.Proofs.YtjdoijdjeapekaaDoor
