import Derived.Test.YtjdoijdjeapekaaGreatDoorTt
namespace Go.Proofs.YtjdoijdjeapekaaGreatDoor
open Go.Av
set_option maxRecDepth 1000000

noncomputable def b3_3 : Code:=(.seq (reg Tryz.f3 19) (.seq (.cond (Operand.tmp 105) Code.skip (Code.exit 4)) (.seq (.block 5 (.seq (reg Tryz.f3 20) (.seq (reg Tryz.f3 21) (.cond (Operand.tmp 115) (.seq (reg Tryz.f3 22) Code.ret) Code.skip)))) (reg Tryz.f3 23))))
noncomputable def b3_2 : Code:=(.seq (reg Tryz.f3 12) (.seq (.cond (Operand.tmp 65) Code.skip (Code.exit 2)) (.seq (.block 3 (.seq (reg Tryz.f3 13) (.seq (reg Tryz.f3 14) (.seq (reg Tryz.f3 15) (.seq (.seq (reg Tryz.f3 16) (.cond (Operand.tmp 101) (.seq (reg Tryz.f3 17) Code.ret) Code.skip)) (.seq (reg Tryz.f3 18) (.block 4 (.loop b3_3)))))))) (reg Tryz.f3 24))))
noncomputable def b3_1 : Code:=(.seq (reg Tryz.f3 9) (.seq (.cond (Operand.tmp 56) Code.skip (Code.exit 0)) (.seq (.block 1 (.seq (reg Tryz.f3 10) (.seq (reg Tryz.f3 11) (.block 2 (.loop b3_2))))) (reg Tryz.f3 25))))
noncomputable def c3 : Code:=(.seq (reg Tryz.f3 0) (.seq (.seq (reg Tryz.f3 1) (.cond (Operand.tmp 30) (.seq (reg Tryz.f3 2) Code.ret) Code.skip)) (.seq (reg Tryz.f3 3) (.seq (reg Tryz.f3 4) (.seq (reg Tryz.f3 5) (.seq (.seq (reg Tryz.f3 6) (.cond (Operand.tmp 39) (reg Tryz.f3 7) Code.skip)) (.seq (.seq (reg Tryz.f3 8) (.block 0 (.loop b3_1))) (.seq (reg Tryz.f3 26) (.seq (reg Tryz.f3 27) (.seq (reg Tryz.f3 28) (.seq (reg Tryz.f3 29) (.seq (reg Tryz.f3 30) Code.ret))))))))))))
theorem body3 : Tryz.f3.body = some c3:=by kernel_rfl

noncomputable def c4 : Code:=(.seq (reg Tryz.f4 0) (.seq (reg Tryz.f4 1) (.seq (reg Tryz.f4 2) (.seq (reg Tryz.f4 3) (.seq (reg Tryz.f4 4) Code.ret)))))
theorem body4 : Tryz.f4.body = some c4:=by kernel_rfl

noncomputable def c5 : Code:=(.seq (reg Tryz.f5 0) (.seq (reg Tryz.f5 1) Code.ret))
theorem body5 : Tryz.f5.body = some c5:=by kernel_rfl

noncomputable def b6_3 : Code:=(.seq (reg Tryz.f6 11) (.seq (.cond (Operand.tmp 37) Code.skip (Code.exit 4)) (.seq (.block 5 (.seq (reg Tryz.f6 12) (reg Tryz.f6 13))) (reg Tryz.f6 14))))
noncomputable def b6_5 : Code:=(.seq (reg Tryz.f6 19) (.seq (.cond (Operand.tmp 67) Code.skip (Code.exit 8)) (.seq (.block 9 (.seq (reg Tryz.f6 20) (reg Tryz.f6 21))) (reg Tryz.f6 22))))
noncomputable def b6_4 : Code:=(.seq (reg Tryz.f6 16) (.seq (.cond (Operand.tmp 59) Code.skip (Code.exit 6)) (.seq (.block 7 (.seq (reg Tryz.f6 17) (.seq (reg Tryz.f6 18) (.block 8 (.loop b6_5))))) (reg Tryz.f6 23))))
noncomputable def b6_2 : Code:=(.seq (reg Tryz.f6 8) (.seq (.cond (Operand.tmp 29) Code.skip (Code.exit 2)) (.seq (.block 3 (.seq (reg Tryz.f6 9) (.seq (.seq (reg Tryz.f6 10) (.block 4 (.loop b6_3))) (.seq (reg Tryz.f6 15) (.block 6 (.loop b6_4)))))) (reg Tryz.f6 24))))
noncomputable def b6_1 : Code:=(.seq (.seq (reg Tryz.f6 3) (.cond (Operand.tmp 20) Code.skip (Code.exit 0))) (.seq (.block 1 (.seq (reg Tryz.f6 5) (.seq (reg Tryz.f6 6) (.seq (.seq (reg Tryz.f6 7) (.block 2 (.loop b6_2))) (.seq (reg Tryz.f6 25) (.cond (Operand.tmp 86) (reg Tryz.f6 26) Code.skip)))))) (reg Tryz.f6 4)))
noncomputable def c6 : Code:=(.seq (reg Tryz.f6 0) (.seq (reg Tryz.f6 1) (.seq (.seq (reg Tryz.f6 2) (.block 0 (.loop b6_1))) (.seq (reg Tryz.f6 27) Code.ret))))
theorem body6 : Tryz.f6.body = some c6:=by kernel_rfl

noncomputable def b7_1 : Code:=(.seq (.seq (reg Tryz.f7 3) (.cond (Operand.tmp 17) Code.skip (Code.exit 0))) (.seq (.block 1 (.seq (reg Tryz.f7 5) (.seq (.seq (reg Tryz.f7 6) (.cond (Operand.tmp 34) (reg Tryz.f7 7) Code.skip)) (reg Tryz.f7 8)))) (reg Tryz.f7 4)))
noncomputable def b7_2 : Code:=(.seq (.seq (reg Tryz.f7 10) (.cond (Operand.tmp 50) Code.skip (Code.exit 2))) (.seq (.block 3 (reg Tryz.f7 12)) (reg Tryz.f7 11)))
noncomputable def c7 : Code:=(.seq (reg Tryz.f7 0) (.seq (reg Tryz.f7 1) (.seq (.seq (reg Tryz.f7 2) (.block 0 (.loop b7_1))) (.seq (.seq (reg Tryz.f7 9) (.block 2 (.loop b7_2))) (.seq (reg Tryz.f7 13) Code.ret)))))
theorem body7 : Tryz.f7.body = some c7:=by kernel_rfl

noncomputable def c8 : Code:=(.seq (reg Tryz.f8 0) (.seq (reg Tryz.f8 1) (.seq (.seq (reg Tryz.f8 2) (.cond (Operand.tmp 11) (reg Tryz.f8 3) Code.skip)) (.seq (.seq (reg Tryz.f8 4) (.cond (Operand.tmp 26) (reg Tryz.f8 5) Code.skip)) (.seq (reg Tryz.f8 6) Code.ret)))))
theorem body8 : Tryz.f8.body = some c8:=by kernel_rfl

noncomputable def c9 : Code:=(.seq (reg Tryz.f9 0) (.seq (.seq (reg Tryz.f9 1) (.cond (Operand.tmp 7) (.seq (reg Tryz.f9 2) Code.ret) Code.skip)) (.seq (reg Tryz.f9 3) (.seq (reg Tryz.f9 4) Code.ret))))
theorem body9 : Tryz.f9.body = some c9:=by kernel_rfl

noncomputable def c10 : Code:=(.seq (reg Tryz.f10 0) (.seq (reg Tryz.f10 1) (.seq (.seq (reg Tryz.f10 2) (.cond (Operand.tmp 10) (reg Tryz.f10 3) Code.skip)) (.seq (reg Tryz.f10 4) Code.ret))))
theorem body10 : Tryz.f10.body = some c10:=by kernel_rfl

noncomputable def b11_1 : Code:=(.seq (reg Tryz.f11 8) (.seq (.cond (Operand.tmp 32) Code.skip (Code.exit 0)) (.seq (.block 1 (.seq (reg Tryz.f11 9) (.seq (reg Tryz.f11 10) (.cond (Operand.tmp 38) (reg Tryz.f11 11) (reg Tryz.f11 12))))) (reg Tryz.f11 13))))
noncomputable def b11_2 : Code:=(.seq (reg Tryz.f11 19) (.seq (.cond (Operand.tmp 63) Code.skip (Code.exit 2)) (.seq (.block 3 (.seq (reg Tryz.f11 20) (reg Tryz.f11 21))) (reg Tryz.f11 22))))
noncomputable def b11_3 : Code:=(.seq (.seq (reg Tryz.f11 24) (.cond (Operand.tmp 88) Code.skip (Code.exit 4))) (.block 5 (.seq (reg Tryz.f11 25) (.seq (reg Tryz.f11 26) (reg Tryz.f11 27)))))
noncomputable def c11 : Code:=(.seq (reg Tryz.f11 0) (.seq (.seq (reg Tryz.f11 1) (.cond (Operand.tmp 23) (.seq (reg Tryz.f11 2) Code.ret) Code.skip)) (.seq (reg Tryz.f11 3) (.seq (.seq (reg Tryz.f11 4) (.cond (Operand.tmp 28) (.seq (reg Tryz.f11 5) Code.ret) Code.skip)) (.seq (reg Tryz.f11 6) (.seq (.seq (reg Tryz.f11 7) (.block 0 (.loop b11_1))) (.seq (.seq (reg Tryz.f11 14) (.seq (reg Tryz.f11 15) (.cond (Operand.tmp 58) (.seq (reg Tryz.f11 16) Code.ret) Code.skip))) (.seq (reg Tryz.f11 17) (.seq (.seq (reg Tryz.f11 18) (.block 2 (.loop b11_2))) (.seq (reg Tryz.f11 23) (.seq (.block 4 (.loop b11_3)) (.seq (reg Tryz.f11 28) Code.ret))))))))))))
theorem body11 : Tryz.f11.body = some c11:=by kernel_rfl

noncomputable def b12_1 : Code:=(.seq (.seq (reg Tryz.f12 5) (.cond (Operand.tmp 25) Code.skip (Code.exit 0))) (.seq (.block 1 (.seq (.seq (reg Tryz.f12 7) (.cond (Operand.tmp 36) (.seq (reg Tryz.f12 8) Code.ret) Code.skip)) (.seq (reg Tryz.f12 9) (.cond (Operand.tmp 43) (reg Tryz.f12 10) (reg Tryz.f12 11))))) (reg Tryz.f12 6)))
noncomputable def b12_2 : Code:=(.seq (.seq (reg Tryz.f12 17) (.cond (Operand.tmp 68) Code.skip (Code.exit 2))) (.seq (.block 3 (reg Tryz.f12 19)) (reg Tryz.f12 18)))
noncomputable def b12_4 : Code:=(.seq (.seq (reg Tryz.f12 24) (.cond (Operand.tmp 98) Code.skip (Code.exit 6))) (.seq (.block 7 (.seq (reg Tryz.f12 26) (.cond (Operand.tmp 111) (reg Tryz.f12 27) Code.skip))) (reg Tryz.f12 25)))
noncomputable def b12_3 : Code:=(.seq (.seq (reg Tryz.f12 21) (.cond (Operand.tmp 94) Code.skip (Code.exit 4))) (.block 5 (.seq (reg Tryz.f12 22) (.seq (.seq (reg Tryz.f12 23) (.block 6 (.loop b12_4))) (.seq (reg Tryz.f12 28) (reg Tryz.f12 29))))))
noncomputable def c12 : Code:=(.seq (reg Tryz.f12 0) (.seq (.seq (reg Tryz.f12 1) (.cond (Operand.tmp 21) (.seq (reg Tryz.f12 2) Code.ret) Code.skip)) (.seq (reg Tryz.f12 3) (.seq (.seq (reg Tryz.f12 4) (.block 0 (.loop b12_1))) (.seq (.seq (reg Tryz.f12 12) (.seq (reg Tryz.f12 13) (.cond (Operand.tmp 63) (.seq (reg Tryz.f12 14) Code.ret) Code.skip))) (.seq (reg Tryz.f12 15) (.seq (.seq (reg Tryz.f12 16) (.block 2 (.loop b12_2))) (.seq (reg Tryz.f12 20) (.seq (.block 4 (.loop b12_3)) (.seq (reg Tryz.f12 30) Code.ret))))))))))
theorem body12 : Tryz.f12.body = some c12:=by kernel_rfl

noncomputable def b13_1 : Code:=(.seq (.seq (reg Tryz.f13 4) (.cond (Operand.tmp 14) Code.skip (Code.exit 0))) (.seq (.block 1 (.seq (reg Tryz.f13 6) (.cond (Operand.tmp 41) (.seq (reg Tryz.f13 7) Code.ret) Code.skip))) (reg Tryz.f13 5)))
noncomputable def c13 : Code:=(.seq (reg Tryz.f13 0) (.seq (.seq (reg Tryz.f13 1) (.cond (Operand.tmp 10) (.seq (reg Tryz.f13 2) Code.ret) Code.skip)) (.seq (.seq (reg Tryz.f13 3) (.block 0 (.loop b13_1))) (.seq (reg Tryz.f13 8) Code.ret))))
theorem body13 : Tryz.f13.body = some c13:=by kernel_rfl

noncomputable def b14_1 : Code:=(.seq (reg Tryz.f14 3) (.seq (.cond (Operand.tmp 17) Code.skip (Code.exit 0)) (.seq (.block 1 (.seq (reg Tryz.f14 4) (reg Tryz.f14 5))) (reg Tryz.f14 6))))
noncomputable def b14_2 : Code:=(.seq (reg Tryz.f14 9) (.seq (.cond (Operand.tmp 27) Code.skip (Code.exit 2)) (.seq (.block 3 (.seq (reg Tryz.f14 10) (.seq (reg Tryz.f14 11) (.seq (reg Tryz.f14 12) (.cond (Operand.tmp 43) (reg Tryz.f14 13) Code.skip))))) (reg Tryz.f14 14))))
noncomputable def c14 : Code:=(.seq (reg Tryz.f14 0) (.seq (reg Tryz.f14 1) (.seq (.seq (reg Tryz.f14 2) (.block 0 (.loop b14_1))) (.seq (reg Tryz.f14 7) (.seq (.seq (reg Tryz.f14 8) (.block 2 (.loop b14_2))) (.seq (reg Tryz.f14 15) Code.ret))))))
theorem body14 : Tryz.f14.body = some c14:=by kernel_rfl

noncomputable def b15_2 : Code:=(.seq (.seq (reg Tryz.f15 7) (.cond (Operand.tmp 19) Code.skip (Code.exit 2))) (.seq (.block 3 (reg Tryz.f15 9)) (reg Tryz.f15 8)))
noncomputable def b15_1 : Code:=(.seq (.seq (reg Tryz.f15 3) (.cond (Operand.tmp 12) Code.skip (Code.exit 0))) (.seq (.block 1 (.seq (reg Tryz.f15 5) (.seq (.seq (reg Tryz.f15 6) (.block 2 (.loop b15_2))) (.seq (reg Tryz.f15 10) (.cond (Operand.tmp 52) (reg Tryz.f15 11) Code.skip))))) (reg Tryz.f15 4)))
noncomputable def c15 : Code:=(.seq (reg Tryz.f15 0) (.seq (reg Tryz.f15 1) (.seq (.seq (reg Tryz.f15 2) (.block 0 (.loop b15_1))) (.seq (reg Tryz.f15 12) Code.ret))))
theorem body15 : Tryz.f15.body = some c15:=by kernel_rfl

noncomputable def c16 : Code:=(.seq (reg Tryz.f16 0) (.seq (reg Tryz.f16 1) Code.ret))
theorem body16 : Tryz.f16.body = some c16:=by kernel_rfl

noncomputable def c17 : Code:=(.seq (reg Tryz.f17 0) (.seq (reg Tryz.f17 1) Code.ret))
theorem body17 : Tryz.f17.body = some c17:=by kernel_rfl

noncomputable def c18 : Code:=(.seq (reg Tryz.f18 0) (.seq (.seq (reg Tryz.f18 1) (.seq (reg Tryz.f18 2) (.cond (Operand.tmp 13) (.seq (reg Tryz.f18 3) Code.ret) Code.skip))) (.seq (reg Tryz.f18 4) (.seq (reg Tryz.f18 5) (.seq (.block 0 (.seq (reg Tryz.f18 6) (.cond (Operand.tmp 17) (.seq (reg Tryz.f18 7) Code.ret) (.seq (reg Tryz.f18 8) (.cond (Operand.tmp 20) (.seq (reg Tryz.f18 9) Code.ret) (.seq (reg Tryz.f18 10) (.cond (Operand.tmp 28) (.seq (reg Tryz.f18 11) Code.ret) (.seq (reg Tryz.f18 12) (.cond (Operand.tmp 32) (.seq (reg Tryz.f18 13) Code.ret) (.seq (reg Tryz.f18 14) (.cond (Operand.tmp 35) (.seq (reg Tryz.f18 15) Code.ret) (.seq (reg Tryz.f18 16) (.cond (Operand.tmp 39) (.seq (reg Tryz.f18 17) Code.ret) Code.skip))))))))))))) (.seq (reg Tryz.f18 18) Code.ret))))))
theorem body18 : Tryz.f18.body = some c18:=by kernel_rfl

noncomputable def c19 : Code:=(.seq (reg Tryz.f19 0) (.seq (reg Tryz.f19 1) Code.ret))
theorem body19 : Tryz.f19.body = some c19:=by kernel_rfl

noncomputable def c20 : Code:=(.seq (reg Tryz.f20 0) (.seq (reg Tryz.f20 1) Code.ret))
theorem body20 : Tryz.f20.body = some c20:=by kernel_rfl

noncomputable def c21 : Code:=(.seq (reg Tryz.f21 0) (.seq (reg Tryz.f21 1) Code.ret))
theorem body21 : Tryz.f21.body = some c21:=by kernel_rfl

noncomputable def c22 : Code:=(.seq (reg Tryz.f22 0) (.seq (.seq (reg Tryz.f22 1) (.cond (Operand.tmp 5) (.seq (reg Tryz.f22 2) Code.ret) Code.skip)) (.seq (reg Tryz.f22 3) Code.ret)))
theorem body22 : Tryz.f22.body = some c22:=by kernel_rfl

noncomputable def c23 : Code:=(.seq (reg Tryz.f23 0) (.seq (reg Tryz.f23 1) Code.ret))
theorem body23 : Tryz.f23.body = some c23:=by kernel_rfl

noncomputable def b24_2 : Code:=(.seq (reg Tryz.f24 8) (.seq (.cond (Operand.tmp 35) Code.skip (Code.exit 2)) (.seq (.block 3 (.seq (reg Tryz.f24 9) (.seq (.seq (reg Tryz.f24 10) (.cond (Operand.tmp 41) (.seq (reg Tryz.f24 11) Code.ret) Code.skip)) (reg Tryz.f24 12)))) (reg Tryz.f24 13))))
noncomputable def b24_1 : Code:=(.seq (reg Tryz.f24 3) (.seq (.cond (Operand.tmp 12) Code.skip (Code.exit 0)) (.seq (.block 1 (.seq (reg Tryz.f24 4) (.seq (.seq (reg Tryz.f24 5) (.cond (Operand.tmp 29) (.seq (reg Tryz.f24 6) Code.ret) Code.skip)) (.seq (reg Tryz.f24 7) (.block 2 (.loop b24_2)))))) (reg Tryz.f24 14))))
noncomputable def c24 : Code:=(.seq (reg Tryz.f24 0) (.seq (reg Tryz.f24 1) (.seq (.seq (reg Tryz.f24 2) (.block 0 (.loop b24_1))) (.seq (reg Tryz.f24 15) Code.ret))))
theorem body24 : Tryz.f24.body = some c24:=by kernel_rfl

noncomputable def c25 : Code:=(.seq (reg Tryz.f25 0) (.seq (reg Tryz.f25 1) Code.ret))
theorem body25 : Tryz.f25.body = some c25:=by kernel_rfl

noncomputable def c26 : Code:=(.seq (reg Tryz.f26 0) (.seq (reg Tryz.f26 1) Code.ret))
theorem body26 : Tryz.f26.body = some c26:=by kernel_rfl

noncomputable def c27 : Code:=(.seq (reg Tryz.f27 0) (.seq (reg Tryz.f27 1) Code.ret))
theorem body27 : Tryz.f27.body = some c27:=by kernel_rfl

noncomputable def b28_1 : Code:=(.seq (reg Tryz.f28 3) (.seq (.cond (Operand.tmp 19) Code.skip (Code.exit 0)) (.seq (.block 1 (.seq (reg Tryz.f28 4) (reg Tryz.f28 5))) (reg Tryz.f28 6))))
noncomputable def b28_2 : Code:=(.seq (reg Tryz.f28 8) (.seq (.cond (Operand.tmp 36) Code.skip (Code.exit 2)) (.seq (.block 3 (.seq (reg Tryz.f28 9) (reg Tryz.f28 10))) (reg Tryz.f28 11))))
noncomputable def c28 : Code:=(.seq (reg Tryz.f28 0) (.seq (reg Tryz.f28 1) (.seq (.seq (reg Tryz.f28 2) (.block 0 (.loop b28_1))) (.seq (.seq (reg Tryz.f28 7) (.block 2 (.loop b28_2))) (.seq (reg Tryz.f28 12) Code.ret)))))
theorem body28 : Tryz.f28.body = some c28:=by kernel_rfl

noncomputable def b29_1 : Code:=(.seq (reg Tryz.f29 3) (.seq (.cond (Operand.tmp 15) Code.skip (Code.exit 0)) (.seq (.block 1 (.seq (reg Tryz.f29 4) (.seq (reg Tryz.f29 5) (.seq (reg Tryz.f29 6) (.cond (Operand.tmp 23) (reg Tryz.f29 7) Code.skip))))) (reg Tryz.f29 8))))
noncomputable def c29 : Code:=(.seq (reg Tryz.f29 0) (.seq (reg Tryz.f29 1) (.seq (.seq (reg Tryz.f29 2) (.block 0 (.loop b29_1))) (.seq (reg Tryz.f29 9) Code.ret))))
theorem body29 : Tryz.f29.body = some c29:=by kernel_rfl

noncomputable def c30 : Code:=(.seq (reg Tryz.f30 0) (.seq (reg Tryz.f30 1) (.seq (.seq (reg Tryz.f30 2) (.cond (Operand.tmp 16) (.seq (reg Tryz.f30 3) Code.ret) Code.skip)) (.seq (reg Tryz.f30 4) (.seq (reg Tryz.f30 5) (.seq (reg Tryz.f30 6) (.seq (reg Tryz.f30 7) Code.ret)))))))
theorem body30 : Tryz.f30.body = some c30:=by kernel_rfl

noncomputable def b31_2 : Code:=(.seq (.seq (reg Tryz.f31 7) (.cond (Operand.tmp 37) Code.skip (Code.exit 2))) (.seq (.block 3 (.seq (reg Tryz.f31 9) (.cond (Operand.tmp 50) (.seq (reg Tryz.f31 10) Code.ret) Code.skip))) (reg Tryz.f31 8)))
noncomputable def b31_1 : Code:=(.seq (.seq (reg Tryz.f31 2) (.cond (Operand.tmp 8) Code.skip (Code.exit 0))) (.seq (.block 1 (.seq (.seq (reg Tryz.f31 4) (.cond (Operand.tmp 34) (.seq (reg Tryz.f31 5) Code.ret) Code.skip)) (.seq (reg Tryz.f31 6) (.block 2 (.loop b31_2))))) (reg Tryz.f31 3)))
noncomputable def c31 : Code:=(.seq (reg Tryz.f31 0) (.seq (.seq (reg Tryz.f31 1) (.block 0 (.loop b31_1))) (.seq (reg Tryz.f31 11) Code.ret)))
theorem body31 : Tryz.f31.body = some c31:=by kernel_rfl

noncomputable def b32_2 : Code:=(.seq (.seq (reg Tryz.f32 5) (.cond (Operand.tmp 18) Code.skip (Code.exit 2))) (.seq (.block 3 (.seq (reg Tryz.f32 7) (.cond (Operand.tmp 33) (.seq (reg Tryz.f32 8) Code.ret) Code.skip))) (reg Tryz.f32 6)))
noncomputable def b32_1 : Code:=(.seq (.seq (reg Tryz.f32 2) (.cond (Operand.tmp 11) Code.skip (Code.exit 0))) (.seq (.block 1 (.seq (reg Tryz.f32 4) (.block 2 (.loop b32_2)))) (reg Tryz.f32 3)))
noncomputable def c32 : Code:=(.seq (reg Tryz.f32 0) (.seq (.seq (reg Tryz.f32 1) (.block 0 (.loop b32_1))) (.seq (reg Tryz.f32 9) Code.ret)))
theorem body32 : Tryz.f32.body = some c32:=by kernel_rfl

noncomputable def b33_1 : Code:=(.seq (.seq (reg Tryz.f33 9) (.cond (Operand.tmp 27) Code.skip (Code.exit 0))) (.seq (.block 1 (.seq (reg Tryz.f33 11) (.cond (Operand.tmp 36) (.seq (reg Tryz.f33 12) Code.ret) Code.skip))) (reg Tryz.f33 10)))
noncomputable def b33_2 : Code:=(.seq (.seq (reg Tryz.f33 14) (.cond (Operand.tmp 40) Code.skip (Code.exit 2))) (.seq (.block 3 (.seq (reg Tryz.f33 16) (.cond (Operand.tmp 50) (.seq (reg Tryz.f33 17) Code.ret) Code.skip))) (reg Tryz.f33 15)))
noncomputable def b33_3 : Code:=(.seq (.seq (reg Tryz.f33 19) (.cond (Operand.tmp 54) Code.skip (Code.exit 4))) (.seq (.block 5 (.seq (reg Tryz.f33 21) (.cond (Operand.tmp 63) (.seq (reg Tryz.f33 22) Code.ret) Code.skip))) (reg Tryz.f33 20)))
noncomputable def b33_4 : Code:=(.seq (.seq (reg Tryz.f33 24) (.cond (Operand.tmp 67) Code.skip (Code.exit 6))) (.seq (.block 7 (.seq (reg Tryz.f33 26) (.cond (Operand.tmp 76) (.seq (reg Tryz.f33 27) Code.ret) Code.skip))) (reg Tryz.f33 25)))
noncomputable def b33_5 : Code:=(.seq (.seq (reg Tryz.f33 30) (.cond (Operand.tmp 85) Code.skip (Code.exit 8))) (.seq (.block 9 (.seq (.seq (reg Tryz.f33 32) (.cond (Operand.tmp 104) (.seq (reg Tryz.f33 33) Code.ret) Code.skip)) (.seq (reg Tryz.f33 34) (.cond (Operand.tmp 106) (reg Tryz.f33 35) Code.skip)))) (reg Tryz.f33 31)))
noncomputable def c33 : Code:=(.seq (reg Tryz.f33 0) (.seq (.seq (reg Tryz.f33 1) (.seq (reg Tryz.f33 2) (.cond (Operand.tmp 17) (.seq (reg Tryz.f33 3) Code.ret) Code.skip))) (.seq (.seq (reg Tryz.f33 4) (.cond (Operand.tmp 20) (.seq (reg Tryz.f33 5) Code.ret) Code.skip)) (.seq (.seq (reg Tryz.f33 6) (.cond (Operand.tmp 23) (.seq (reg Tryz.f33 7) Code.ret) Code.skip)) (.seq (.seq (reg Tryz.f33 8) (.block 0 (.loop b33_1))) (.seq (.seq (reg Tryz.f33 13) (.block 2 (.loop b33_2))) (.seq (.seq (reg Tryz.f33 18) (.block 4 (.loop b33_3))) (.seq (.seq (reg Tryz.f33 23) (.block 6 (.loop b33_4))) (.seq (reg Tryz.f33 28) (.seq (.seq (reg Tryz.f33 29) (.block 8 (.loop b33_5))) (.seq (.seq (reg Tryz.f33 36) (.cond (Operand.tmp 115) (.seq (reg Tryz.f33 37) Code.ret) Code.skip)) (.seq (reg Tryz.f33 38) Code.ret))))))))))))
theorem body33 : Tryz.f33.body = some c33:=by kernel_rfl

noncomputable def c34 : Code:=(.seq (reg Tryz.f34 0) (.seq (reg Tryz.f34 1) Code.ret))
theorem body34 : Tryz.f34.body = some c34:=by kernel_rfl

noncomputable def b35_2 : Code:=(.seq (reg Tryz.f35 10) (.seq (.cond (Operand.tmp 81) Code.skip (Code.exit 2)) (.seq (.block 3 (.seq (reg Tryz.f35 11) (.seq (reg Tryz.f35 12) (.cond (Operand.tmp 94) (.seq (reg Tryz.f35 13) Code.ret) Code.skip)))) (reg Tryz.f35 14))))
noncomputable def b35_1 : Code:=(.seq (reg Tryz.f35 4) (.seq (.cond (Operand.tmp 44) Code.skip (Code.exit 0)) (.seq (.block 1 (.seq (reg Tryz.f35 5) (.seq (reg Tryz.f35 6) (.seq (.seq (reg Tryz.f35 7) (.cond (Operand.tmp 76) (.seq (reg Tryz.f35 8) Code.ret) Code.skip)) (.seq (reg Tryz.f35 9) (.block 2 (.loop b35_2))))))) (reg Tryz.f35 15))))
noncomputable def b35_3 : Code:=(.seq (reg Tryz.f35 17) (.seq (.cond (Operand.tmp 101) Code.skip (Code.exit 4)) (.seq (.block 5 (.seq (reg Tryz.f35 18) (.seq (reg Tryz.f35 19) (.cond (Operand.tmp 114) (.seq (reg Tryz.f35 20) Code.ret) Code.skip)))) (reg Tryz.f35 21))))
noncomputable def c35 : Code:=(.seq (reg Tryz.f35 0) (.seq (.seq (reg Tryz.f35 1) (.cond (Operand.tmp 39) (.seq (reg Tryz.f35 2) Code.ret) Code.skip)) (.seq (.seq (reg Tryz.f35 3) (.block 0 (.loop b35_1))) (.seq (.seq (reg Tryz.f35 16) (.block 4 (.loop b35_3))) (.seq (reg Tryz.f35 22) Code.ret)))))
theorem body35 : Tryz.f35.body = some c35:=by kernel_rfl

noncomputable def c36 : Code:=(.seq (reg Tryz.f36 0) (.seq (reg Tryz.f36 1) Code.ret))
theorem body36 : Tryz.f36.body = some c36:=by kernel_rfl

noncomputable def c37 : Code:=(.seq (reg Tryz.f37 0) (.seq (reg Tryz.f37 1) Code.ret))
theorem body37 : Tryz.f37.body = some c37:=by kernel_rfl

noncomputable def c38 : Code:=(.seq (reg Tryz.f38 0) (.seq (reg Tryz.f38 1) Code.ret))
theorem body38 : Tryz.f38.body = some c38:=by kernel_rfl

noncomputable def c39 : Code:=(.seq (reg Tryz.f39 0) (.seq (reg Tryz.f39 1) Code.ret))
theorem body39 : Tryz.f39.body = some c39:=by kernel_rfl

noncomputable def c40 : Code:=(.seq (reg Tryz.f40 0) (.seq (reg Tryz.f40 1) Code.ret))
theorem body40 : Tryz.f40.body = some c40:=by kernel_rfl

noncomputable def c41 : Code:=(.seq (reg Tryz.f41 0) (.seq (reg Tryz.f41 1) Code.ret))
theorem body41 : Tryz.f41.body = some c41:=by kernel_rfl

noncomputable def b42_1 : Code:=(.seq (reg Tryz.f42 9) (.seq (.cond (Operand.tmp 28) Code.skip (Code.exit 0)) (.seq (.block 1 (.seq (reg Tryz.f42 10) (.seq (.seq (reg Tryz.f42 11) (.cond (Operand.tmp 34) (.seq (reg Tryz.f42 12) Code.ret) Code.skip)) (reg Tryz.f42 13)))) (reg Tryz.f42 14))))
noncomputable def c42 : Code:=(.seq (reg Tryz.f42 0) (.seq (.seq (reg Tryz.f42 1) (.cond (Operand.tmp 8) (.seq (reg Tryz.f42 2) Code.ret) Code.skip)) (.seq (.seq (reg Tryz.f42 3) (.cond (Operand.tmp 18) (.seq (reg Tryz.f42 4) Code.ret) Code.skip)) (.seq (.seq (reg Tryz.f42 5) (.cond (Operand.tmp 22) (.seq (reg Tryz.f42 6) Code.ret) Code.skip)) (.seq (reg Tryz.f42 7) (.seq (.seq (reg Tryz.f42 8) (.block 0 (.loop b42_1))) (.seq (.seq (reg Tryz.f42 15) (.cond (Operand.tmp 46) (.seq (reg Tryz.f42 16) Code.ret) Code.skip)) (.seq (reg Tryz.f42 17) Code.ret))))))))
theorem body42 : Tryz.f42.body = some c42:=by kernel_rfl

noncomputable def c43 : Code:=(.seq (reg Tryz.f43 0) (.seq (reg Tryz.f43 1) Code.ret))
theorem body43 : Tryz.f43.body = some c43:=by kernel_rfl

noncomputable def c44 : Code:=(.seq (reg Tryz.f44 0) (.seq (reg Tryz.f44 1) (.seq (reg Tryz.f44 2) Code.ret)))
theorem body44 : Tryz.f44.body = some c44:=by kernel_rfl

noncomputable def c45 : Code:=(.seq (reg Tryz.f45 0) (.seq (reg Tryz.f45 1) Code.ret))
theorem body45 : Tryz.f45.body = some c45:=by kernel_rfl

noncomputable def c46 : Code:=(.seq (reg Tryz.f46 0) (.seq (reg Tryz.f46 1) Code.ret))
theorem body46 : Tryz.f46.body = some c46:=by kernel_rfl

noncomputable def c47 : Code:=(.seq (reg Tryz.f47 0) (.seq (reg Tryz.f47 1) Code.ret))
theorem body47 : Tryz.f47.body = some c47:=by kernel_rfl

noncomputable def c48 : Code:=(.seq (reg Tryz.f48 0) (.seq (reg Tryz.f48 1) Code.ret))
theorem body48 : Tryz.f48.body = some c48:=by kernel_rfl

noncomputable def c49 : Code:=(.seq (reg Tryz.f49 0) (.seq (reg Tryz.f49 1) Code.ret))
theorem body49 : Tryz.f49.body = some c49:=by kernel_rfl

noncomputable def c50 : Code:=(.seq (reg Tryz.f50 0) (.seq (reg Tryz.f50 1) Code.ret))
theorem body50 : Tryz.f50.body = some c50:=by kernel_rfl

noncomputable def b51_1 : Code:=(.seq (reg Tryz.f51 4) (.seq (.cond (Operand.tmp 21) Code.skip (Code.exit 0)) (.seq (.block 1 (.seq (reg Tryz.f51 5) (.seq (.seq (reg Tryz.f51 6) (.cond (Operand.tmp 27) (.seq (reg Tryz.f51 7) Code.ret) Code.skip)) (reg Tryz.f51 8)))) (reg Tryz.f51 9))))
noncomputable def c51 : Code:=(.seq (reg Tryz.f51 0) (.seq (reg Tryz.f51 1) (.seq (reg Tryz.f51 2) (.seq (.seq (reg Tryz.f51 3) (.block 0 (.loop b51_1))) (.seq (.seq (reg Tryz.f51 10) (.cond (Operand.tmp 34) (.seq (reg Tryz.f51 11) Code.ret) Code.skip)) (.seq (reg Tryz.f51 12) (.seq (reg Tryz.f51 13) Code.ret)))))))
theorem body51 : Tryz.f51.body = some c51:=by kernel_rfl

noncomputable def b52_1 : Code:=(.seq (reg Tryz.f52 4) (.seq (.cond (Operand.tmp 23) Code.skip (Code.exit 0)) (.seq (.block 1 (.seq (reg Tryz.f52 5) (.seq (reg Tryz.f52 6) (.cond (Operand.tmp 34) (.seq (reg Tryz.f52 7) Code.ret) Code.skip)))) (reg Tryz.f52 8))))
noncomputable def b52_3 : Code:=(.seq (reg Tryz.f52 15) (.seq (.cond (Operand.tmp 51) Code.skip (Code.exit 4)) (.seq (.block 5 (.seq (reg Tryz.f52 16) (.seq (reg Tryz.f52 17) (.cond (Operand.tmp 56) (.seq (reg Tryz.f52 18) Code.ret) Code.skip)))) (reg Tryz.f52 19))))
noncomputable def b52_2 : Code:=(.seq (reg Tryz.f52 10) (.seq (.cond (Operand.tmp 40) Code.skip (Code.exit 2)) (.seq (.block 3 (.seq (reg Tryz.f52 11) (.seq (.seq (reg Tryz.f52 12) (.cond (Operand.tmp 46) (.seq (reg Tryz.f52 13) Code.ret) Code.skip)) (.seq (reg Tryz.f52 14) (.block 4 (.loop b52_3)))))) (reg Tryz.f52 20))))
noncomputable def c52 : Code:=(.seq (reg Tryz.f52 0) (.seq (.seq (reg Tryz.f52 1) (.cond (Operand.tmp 18) (.seq (reg Tryz.f52 2) Code.ret) Code.skip)) (.seq (.seq (reg Tryz.f52 3) (.block 0 (.loop b52_1))) (.seq (.seq (reg Tryz.f52 9) (.block 2 (.loop b52_2))) (.seq (reg Tryz.f52 21) Code.ret)))))
theorem body52 : Tryz.f52.body = some c52:=by kernel_rfl

noncomputable def c53 : Code:=(.seq (reg Tryz.f53 0) (.seq (reg Tryz.f53 1) (.seq (reg Tryz.f53 2) Code.ret)))
theorem body53 : Tryz.f53.body = some c53:=by kernel_rfl

noncomputable def b54_1 : Code:=(.seq (reg Tryz.f54 4) (.seq (.cond (Operand.tmp 27) Code.skip (Code.exit 0)) (.seq (.block 1 (.seq (reg Tryz.f54 5) (reg Tryz.f54 6))) (reg Tryz.f54 7))))
noncomputable def b54_2 : Code:=(.seq (reg Tryz.f54 10) (.seq (.cond (Operand.tmp 49) Code.skip (Code.exit 2)) (.seq (.block 3 (.seq (reg Tryz.f54 11) (reg Tryz.f54 12))) (reg Tryz.f54 13))))
noncomputable def b54_4 : Code:=(.seq (reg Tryz.f54 21) (.seq (.cond (Operand.tmp 80) Code.skip (Code.exit 6)) (.seq (.block 7 (.seq (reg Tryz.f54 22) (reg Tryz.f54 23))) (reg Tryz.f54 24))))
noncomputable def b54_3 : Code:=(.seq (reg Tryz.f54 16) (.seq (.cond (Operand.tmp 65) Code.skip (Code.exit 4)) (.seq (.block 5 (.seq (reg Tryz.f54 17) (.seq (.seq (reg Tryz.f54 18) (.cond (Operand.tmp 69) (Code.exit 4) Code.skip)) (.seq (reg Tryz.f54 19) (.seq (reg Tryz.f54 20) (.block 6 (.loop b54_4))))))) (reg Tryz.f54 25))))
noncomputable def c54 : Code:=(.seq (reg Tryz.f54 0) (.seq (reg Tryz.f54 1) (.seq (reg Tryz.f54 2) (.seq (.seq (reg Tryz.f54 3) (.block 0 (.loop b54_1))) (.seq (reg Tryz.f54 8) (.seq (.seq (reg Tryz.f54 9) (.block 2 (.loop b54_2))) (.seq (reg Tryz.f54 14) (.seq (.seq (reg Tryz.f54 15) (.block 4 (.loop b54_3))) (.seq (reg Tryz.f54 26) Code.ret)))))))))
theorem body54 : Tryz.f54.body = some c54:=by kernel_rfl

noncomputable def c55 : Code:=(.seq (reg Tryz.f55 0) (.seq (reg Tryz.f55 1) (.seq (.seq (reg Tryz.f55 2) (.cond (Operand.tmp 14) (.seq (reg Tryz.f55 3) Code.ret) Code.skip)) (.seq (reg Tryz.f55 4) Code.ret))))
theorem body55 : Tryz.f55.body = some c55:=by kernel_rfl

noncomputable def b56_1 : Code:=(.seq (reg Tryz.f56 2) (.seq (.cond (Operand.tmp 9) Code.skip (Code.exit 0)) (.seq (.block 1 (.seq (reg Tryz.f56 3) (.seq (reg Tryz.f56 4) (.cond (Operand.tmp 16) (.seq (reg Tryz.f56 5) Code.ret) Code.skip)))) (reg Tryz.f56 6))))
noncomputable def c56 : Code:=(.seq (reg Tryz.f56 0) (.seq (.seq (reg Tryz.f56 1) (.block 0 (.loop b56_1))) (.seq (reg Tryz.f56 7) Code.ret)))
theorem body56 : Tryz.f56.body = some c56:=by kernel_rfl

noncomputable def c57 : Code:=(.seq (reg Tryz.f57 0) (.seq (.seq (reg Tryz.f57 1) (.cond (Operand.tmp 4) (.seq (reg Tryz.f57 2) Code.ret) Code.skip)) (.seq (reg Tryz.f57 3) Code.ret)))
theorem body57 : Tryz.f57.body = some c57:=by kernel_rfl

noncomputable def c58 : Code:=(.seq (reg Tryz.f58 0) (.seq (.seq (reg Tryz.f58 1) (.cond (Operand.tmp 4) (.seq (reg Tryz.f58 2) Code.ret) Code.skip)) (.seq (reg Tryz.f58 3) Code.ret)))
theorem body58 : Tryz.f58.body = some c58:=by kernel_rfl

noncomputable def b59_1 : Code:=(.seq (reg Tryz.f59 3) (.seq (.cond (Operand.tmp 10) Code.skip (Code.exit 0)) (.seq (.block 1 (.seq (reg Tryz.f59 4) (reg Tryz.f59 5))) (reg Tryz.f59 6))))
noncomputable def c59 : Code:=(.seq (reg Tryz.f59 0) (.seq (reg Tryz.f59 1) (.seq (.seq (reg Tryz.f59 2) (.block 0 (.loop b59_1))) (.seq (reg Tryz.f59 7) Code.ret))))
theorem body59 : Tryz.f59.body = some c59:=by kernel_rfl

noncomputable def c60 : Code:=(.seq (reg Tryz.f60 0) (.seq (.seq (reg Tryz.f60 1) (.cond (Operand.tmp 4) (.seq (reg Tryz.f60 2) Code.ret) Code.skip)) (.seq (reg Tryz.f60 3) Code.ret)))
theorem body60 : Tryz.f60.body = some c60:=by kernel_rfl

noncomputable def c61 : Code:=(.seq (reg Tryz.f61 0) (.seq (reg Tryz.f61 1) Code.ret))
theorem body61 : Tryz.f61.body = some c61:=by kernel_rfl

noncomputable def b62_1 : Code:=(.seq (reg Tryz.f62 7) (.seq (.cond (Operand.tmp 27) Code.skip (Code.exit 0)) (.seq (.block 1 (.seq (reg Tryz.f62 8) (.seq (.seq (reg Tryz.f62 9) (.cond (Operand.tmp 32) (.seq (reg Tryz.f62 10) Code.ret) Code.skip)) (reg Tryz.f62 11)))) (reg Tryz.f62 12))))
noncomputable def b62_3 : Code:=(.seq (.seq (reg Tryz.f62 19) (.cond (Operand.tmp 48) Code.skip (Code.exit 4))) (.seq (.block 5 (.seq (reg Tryz.f62 21) (.cond (Operand.tmp 63) (.seq (reg Tryz.f62 22) Code.ret) Code.skip))) (reg Tryz.f62 20)))
noncomputable def b62_2 : Code:=(.seq (reg Tryz.f62 16) (.seq (.cond (Operand.tmp 44) Code.skip (Code.exit 2)) (.seq (.block 3 (.seq (reg Tryz.f62 17) (.seq (reg Tryz.f62 18) (.block 4 (.loop b62_3))))) (reg Tryz.f62 23))))
noncomputable def b62_4 : Code:=(.seq (reg Tryz.f62 25) (.seq (.cond (Operand.tmp 69) Code.skip (Code.exit 6)) (.seq (.block 7 (.seq (reg Tryz.f62 26) (.seq (reg Tryz.f62 27) (.cond (Operand.tmp 79) (.seq (reg Tryz.f62 28) Code.ret) Code.skip)))) (reg Tryz.f62 29))))
noncomputable def c62 : Code:=(.seq (reg Tryz.f62 0) (.seq (.seq (reg Tryz.f62 1) (.cond (Operand.tmp 12) (.seq (reg Tryz.f62 2) Code.ret) Code.skip)) (.seq (.seq (reg Tryz.f62 3) (.cond (Operand.tmp 22) (.seq (reg Tryz.f62 4) Code.ret) Code.skip)) (.seq (reg Tryz.f62 5) (.seq (.seq (reg Tryz.f62 6) (.block 0 (.loop b62_1))) (.seq (.seq (reg Tryz.f62 13) (.cond (Operand.tmp 39) (.seq (reg Tryz.f62 14) Code.ret) Code.skip)) (.seq (.seq (reg Tryz.f62 15) (.block 2 (.loop b62_2))) (.seq (.seq (reg Tryz.f62 24) (.block 6 (.loop b62_4))) (.seq (reg Tryz.f62 30) Code.ret)))))))))
theorem body62 : Tryz.f62.body = some c62:=by kernel_rfl

noncomputable def c63 : Code:=(.seq (reg Tryz.f63 0) (.seq (reg Tryz.f63 1) Code.ret))
theorem body63 : Tryz.f63.body = some c63:=by kernel_rfl

noncomputable def c64 : Code:=(.seq (reg Tryz.f64 0) (.seq (reg Tryz.f64 1) Code.ret))
theorem body64 : Tryz.f64.body = some c64:=by kernel_rfl

noncomputable def b65_1 : Code:=(.seq (.seq (reg Tryz.f65 2) (.cond (Operand.tmp 8) Code.skip (Code.exit 0))) (.seq (.block 1 (.seq (reg Tryz.f65 4) (.cond (Operand.tmp 17) (.seq (reg Tryz.f65 5) Code.ret) Code.skip))) (reg Tryz.f65 3)))
noncomputable def c65 : Code:=(.seq (reg Tryz.f65 0) (.seq (.seq (reg Tryz.f65 1) (.block 0 (.loop b65_1))) (.seq (reg Tryz.f65 6) Code.ret)))
theorem body65 : Tryz.f65.body = some c65:=by kernel_rfl

noncomputable def b66_1 : Code:=(.seq (.seq (reg Tryz.f66 3) (.cond (Operand.tmp 13) Code.skip (Code.exit 0))) (.seq (.block 1 (.seq (reg Tryz.f66 5) (.cond (Operand.tmp 24) (.seq (reg Tryz.f66 6) Code.ret) Code.skip))) (reg Tryz.f66 4)))
noncomputable def c66 : Code:=(.seq (reg Tryz.f66 0) (.seq (reg Tryz.f66 1) (.seq (.seq (reg Tryz.f66 2) (.block 0 (.loop b66_1))) (.seq (reg Tryz.f66 7) Code.ret))))
theorem body66 : Tryz.f66.body = some c66:=by kernel_rfl

noncomputable def c67 : Code:=(.seq (reg Tryz.f67 0) (.seq (.seq (reg Tryz.f67 1) (.cond (Operand.tmp 12) (.seq (reg Tryz.f67 2) Code.ret) Code.skip)) (.seq (reg Tryz.f67 3) Code.ret)))
theorem body67 : Tryz.f67.body = some c67:=by kernel_rfl

noncomputable def c68 : Code:=(.seq (reg Tryz.f68 0) (.seq (.seq (reg Tryz.f68 1) (.cond (Operand.tmp 5) (.seq (reg Tryz.f68 2) Code.ret) Code.skip)) (.seq (reg Tryz.f68 3) Code.ret)))
theorem body68 : Tryz.f68.body = some c68:=by kernel_rfl

noncomputable def c69 : Code:=(.seq (reg Tryz.f69 0) (.seq (.seq (reg Tryz.f69 1) (.cond (Operand.tmp 15) (.seq (reg Tryz.f69 2) Code.ret) Code.skip)) (.seq (reg Tryz.f69 3) Code.ret)))
theorem body69 : Tryz.f69.body = some c69:=by kernel_rfl

noncomputable def c70 : Code:=(.seq (reg Tryz.f70 0) (.seq (reg Tryz.f70 1) Code.ret))
theorem body70 : Tryz.f70.body = some c70:=by kernel_rfl

noncomputable def c71 : Code:=(.seq (reg Tryz.f71 0) (.seq (reg Tryz.f71 1) Code.ret))
theorem body71 : Tryz.f71.body = some c71:=by kernel_rfl

noncomputable def b72_1 : Code:=(.seq (reg Tryz.f72 2) (.seq (.cond (Operand.tmp 9) Code.skip (Code.exit 0)) (.seq (.block 1 (.seq (reg Tryz.f72 3) (.seq (reg Tryz.f72 4) (.cond (Operand.tmp 16) (.seq (reg Tryz.f72 5) Code.ret) Code.skip)))) (reg Tryz.f72 6))))
noncomputable def c72 : Code:=(.seq (reg Tryz.f72 0) (.seq (.seq (reg Tryz.f72 1) (.block 0 (.loop b72_1))) (.seq (reg Tryz.f72 7) Code.ret)))
theorem body72 : Tryz.f72.body = some c72:=by kernel_rfl

noncomputable def b73_1 : Code:=(.seq (reg Tryz.f73 2) (.seq (.cond (Operand.tmp 9) Code.skip (Code.exit 0)) (.seq (.block 1 (.seq (reg Tryz.f73 3) (.seq (reg Tryz.f73 4) (.cond (Operand.tmp 16) (.seq (reg Tryz.f73 5) Code.ret) Code.skip)))) (reg Tryz.f73 6))))
noncomputable def c73 : Code:=(.seq (reg Tryz.f73 0) (.seq (.seq (reg Tryz.f73 1) (.block 0 (.loop b73_1))) (.seq (reg Tryz.f73 7) Code.ret)))
theorem body73 : Tryz.f73.body = some c73:=by kernel_rfl

noncomputable def b74_1 : Code:=(.seq (reg Tryz.f74 4) (.seq (.cond (Operand.tmp 23) Code.skip (Code.exit 0)) (.seq (.block 1 (.seq (reg Tryz.f74 5) (.seq (reg Tryz.f74 6) (.cond (Operand.tmp 34) (.seq (reg Tryz.f74 7) Code.ret) Code.skip)))) (reg Tryz.f74 8))))
noncomputable def b74_3 : Code:=(.seq (reg Tryz.f74 15) (.seq (.cond (Operand.tmp 51) Code.skip (Code.exit 4)) (.seq (.block 5 (.seq (reg Tryz.f74 16) (.seq (reg Tryz.f74 17) (.cond (Operand.tmp 56) (.seq (reg Tryz.f74 18) Code.ret) Code.skip)))) (reg Tryz.f74 19))))
noncomputable def b74_2 : Code:=(.seq (reg Tryz.f74 10) (.seq (.cond (Operand.tmp 40) Code.skip (Code.exit 2)) (.seq (.block 3 (.seq (reg Tryz.f74 11) (.seq (.seq (reg Tryz.f74 12) (.cond (Operand.tmp 46) (.seq (reg Tryz.f74 13) Code.ret) Code.skip)) (.seq (reg Tryz.f74 14) (.block 4 (.loop b74_3)))))) (reg Tryz.f74 20))))
noncomputable def c74 : Code:=(.seq (reg Tryz.f74 0) (.seq (.seq (reg Tryz.f74 1) (.cond (Operand.tmp 18) (.seq (reg Tryz.f74 2) Code.ret) Code.skip)) (.seq (.seq (reg Tryz.f74 3) (.block 0 (.loop b74_1))) (.seq (.seq (reg Tryz.f74 9) (.block 2 (.loop b74_2))) (.seq (reg Tryz.f74 21) Code.ret)))))
theorem body74 : Tryz.f74.body = some c74:=by kernel_rfl

noncomputable def b75_1 : Code:=(.seq (reg Tryz.f75 3) (.seq (.cond (Operand.tmp 9) Code.skip (Code.exit 0)) (.seq (.block 1 (.seq (reg Tryz.f75 4) (.seq (.seq (reg Tryz.f75 5) (.cond (Operand.tmp 16) (.seq (reg Tryz.f75 6) Code.ret) Code.skip)) (reg Tryz.f75 7)))) (reg Tryz.f75 8))))
noncomputable def c75 : Code:=(.seq (reg Tryz.f75 0) (.seq (reg Tryz.f75 1) (.seq (.seq (reg Tryz.f75 2) (.block 0 (.loop b75_1))) (.seq (reg Tryz.f75 9) Code.ret))))
theorem body75 : Tryz.f75.body = some c75:=by kernel_rfl

noncomputable def c76 : Code:=(.seq (reg Tryz.f76 0) (.seq (reg Tryz.f76 1) Code.ret))
theorem body76 : Tryz.f76.body = some c76:=by kernel_rfl

noncomputable def c77 : Code:=(.seq (reg Tryz.f77 0) (.seq (.seq (reg Tryz.f77 1) (.cond (Operand.tmp 5) (.seq (reg Tryz.f77 2) Code.ret) Code.skip)) (.seq (reg Tryz.f77 3) Code.ret)))
theorem body77 : Tryz.f77.body = some c77:=by kernel_rfl

noncomputable def c78 : Code:=(.seq (reg Tryz.f78 0) (.seq (.seq (reg Tryz.f78 1) (.cond (Operand.tmp 18) (.seq (reg Tryz.f78 2) Code.ret) Code.skip)) (.seq (reg Tryz.f78 3) Code.ret)))
theorem body78 : Tryz.f78.body = some c78:=by kernel_rfl

noncomputable def c79 : Code:=(.seq (reg Tryz.f79 0) (.seq (.seq (reg Tryz.f79 1) (.cond (Operand.tmp 18) (.seq (reg Tryz.f79 2) Code.ret) Code.skip)) (.seq (reg Tryz.f79 3) Code.ret)))
theorem body79 : Tryz.f79.body = some c79:=by kernel_rfl

noncomputable def c80 : Code:=(.seq (reg Tryz.f80 0) (.seq (reg Tryz.f80 1) Code.ret))
theorem body80 : Tryz.f80.body = some c80:=by kernel_rfl

noncomputable def b81_1 : Code:=(.seq (.seq (reg Tryz.f81 4) (.cond (Operand.tmp 22) Code.skip (Code.exit 0))) (.seq (.block 1 (.seq (reg Tryz.f81 6) (.seq (reg Tryz.f81 7) (reg Tryz.f81 8)))) (reg Tryz.f81 5)))
noncomputable def b81_2 : Code:=(.seq (reg Tryz.f81 11) (.seq (.cond (Operand.tmp 35) Code.skip (Code.exit 2)) (.seq (.block 3 (.seq (reg Tryz.f81 12) (reg Tryz.f81 13))) (reg Tryz.f81 14))))
noncomputable def c81 : Code:=(.seq (reg Tryz.f81 0) (.seq (reg Tryz.f81 1) (.seq (reg Tryz.f81 2) (.seq (.seq (reg Tryz.f81 3) (.block 0 (.loop b81_1))) (.seq (reg Tryz.f81 9) (.seq (.seq (reg Tryz.f81 10) (.block 2 (.loop b81_2))) (.seq (reg Tryz.f81 15) Code.ret)))))))
theorem body81 : Tryz.f81.body = some c81:=by kernel_rfl

noncomputable def c82 : Code:=(.seq (reg Tryz.f82 0) (.seq (reg Tryz.f82 1) Code.ret))
theorem body82 : Tryz.f82.body = some c82:=by kernel_rfl

noncomputable def c83 : Code:=(.seq (reg Tryz.f83 0) (.seq (.block 0 (.seq (reg Tryz.f83 1) (.cond (Operand.tmp 5) (.seq (reg Tryz.f83 2) Code.ret) (.seq (reg Tryz.f83 3) (.cond (Operand.tmp 12) (.seq (reg Tryz.f83 4) Code.ret) (.seq (reg Tryz.f83 5) (.cond (Operand.tmp 21) (.seq (reg Tryz.f83 6) Code.ret) Code.skip))))))) (.seq (reg Tryz.f83 7) Code.ret)))
theorem body83 : Tryz.f83.body = some c83:=by kernel_rfl

noncomputable def c84 : Code:=(.seq (reg Tryz.f84 0) (.seq (reg Tryz.f84 1) Code.ret))
theorem body84 : Tryz.f84.body = some c84:=by kernel_rfl

noncomputable def c85 : Code:=(.seq (reg Tryz.f85 0) (.seq (reg Tryz.f85 1) Code.ret))
theorem body85 : Tryz.f85.body = some c85:=by kernel_rfl

noncomputable def c86 : Code:=(.seq (reg Tryz.f86 0) (.seq (reg Tryz.f86 1) Code.ret))
theorem body86 : Tryz.f86.body = some c86:=by kernel_rfl

noncomputable def c87 : Code:=(.seq (reg Tryz.f87 0) (.seq (.seq (reg Tryz.f87 1) (.cond (Operand.tmp 8) (.seq (reg Tryz.f87 2) Code.ret) Code.skip)) (.seq (reg Tryz.f87 3) Code.ret)))
theorem body87 : Tryz.f87.body = some c87:=by kernel_rfl

noncomputable def c88 : Code:=(.seq (reg Tryz.f88 0) (.seq (reg Tryz.f88 1) (.seq (reg Tryz.f88 2) Code.ret)))
theorem body88 : Tryz.f88.body = some c88:=by kernel_rfl

noncomputable def c89 : Code:=(.seq (reg Tryz.f89 0) (.seq (.seq (reg Tryz.f89 1) (.cond (Operand.tmp 4) (.seq (reg Tryz.f89 2) Code.ret) Code.skip)) (.seq (reg Tryz.f89 3) Code.ret)))
theorem body89 : Tryz.f89.body = some c89:=by kernel_rfl

noncomputable def c90 : Code:=(.seq (reg Tryz.f90 0) (.seq (reg Tryz.f90 1) Code.ret))
theorem body90 : Tryz.f90.body = some c90:=by kernel_rfl

noncomputable def c91 : Code:=(.seq (reg Tryz.f91 0) (.seq (reg Tryz.f91 1) Code.ret))
theorem body91 : Tryz.f91.body = some c91:=by kernel_rfl

noncomputable def c92 : Code:=(.seq (reg Tryz.f92 0) (.seq (reg Tryz.f92 1) Code.ret))
theorem body92 : Tryz.f92.body = some c92:=by kernel_rfl

noncomputable def b93_1 : Code:=(.seq (reg Tryz.f93 4) (.seq (.cond (Operand.tmp 28) Code.skip (Code.exit 0)) (.seq (.block 1 (.seq (reg Tryz.f93 5) (.seq (reg Tryz.f93 6) (reg Tryz.f93 7)))) (reg Tryz.f93 8))))
noncomputable def b93_2 : Code:=(.seq (reg Tryz.f93 11) (.seq (.cond (Operand.tmp 53) Code.skip (Code.exit 2)) (.seq (.block 3 (.seq (reg Tryz.f93 12) (.seq (reg Tryz.f93 13) (reg Tryz.f93 14)))) (reg Tryz.f93 15))))
noncomputable def b93_4 : Code:=(.seq (reg Tryz.f93 24) (.seq (.cond (Operand.tmp 94) Code.skip (Code.exit 6)) (.seq (.block 7 (.seq (reg Tryz.f93 25) (reg Tryz.f93 26))) (reg Tryz.f93 27))))
noncomputable def b93_3 : Code:=(.seq (reg Tryz.f93 20) (.seq (.cond (Operand.tmp 80) Code.skip (Code.exit 4)) (.seq (.block 5 (.seq (reg Tryz.f93 21) (.seq (reg Tryz.f93 22) (.seq (reg Tryz.f93 23) (.block 6 (.loop b93_4)))))) (reg Tryz.f93 28))))
noncomputable def c93 : Code:=(.seq (reg Tryz.f93 0) (.seq (reg Tryz.f93 1) (.seq (reg Tryz.f93 2) (.seq (.seq (reg Tryz.f93 3) (.block 0 (.loop b93_1))) (.seq (reg Tryz.f93 9) (.seq (.seq (reg Tryz.f93 10) (.block 2 (.loop b93_2))) (.seq (reg Tryz.f93 16) (.seq (.seq (reg Tryz.f93 17) (.cond (Operand.tmp 74) (.seq (reg Tryz.f93 18) Code.ret) Code.skip)) (.seq (.seq (reg Tryz.f93 19) (.block 4 (.loop b93_3))) (.seq (reg Tryz.f93 29) Code.ret))))))))))
theorem body93 : Tryz.f93.body = some c93:=by kernel_rfl

noncomputable def b94_1 : Code:=(.seq (.seq (reg Tryz.f94 2) (.cond (Operand.tmp 13) Code.skip (Code.exit 0))) (.block 1 (reg Tryz.f94 3)))
noncomputable def b94_2 : Code:=(.seq (.seq (reg Tryz.f94 5) (.cond (Operand.tmp 18) Code.skip (Code.exit 2))) (.seq (.block 3 (reg Tryz.f94 7)) (reg Tryz.f94 6)))
noncomputable def c94 : Code:=(.seq (reg Tryz.f94 0) (.seq (reg Tryz.f94 1) (.seq (.block 0 (.loop b94_1)) (.seq (.seq (reg Tryz.f94 4) (.block 2 (.loop b94_2))) (.seq (reg Tryz.f94 8) Code.ret)))))
theorem body94 : Tryz.f94.body = some c94:=by kernel_rfl

noncomputable def c95 : Code:=(.seq (reg Tryz.f95 0) (.seq (reg Tryz.f95 1) Code.ret))
theorem body95 : Tryz.f95.body = some c95:=by kernel_rfl

noncomputable def b96_1 : Code:=(.seq (.seq (reg Tryz.f96 4) (.cond (Operand.tmp 38) Code.skip (Code.exit 0))) (.seq (.block 1 (.seq (reg Tryz.f96 6) (.seq (reg Tryz.f96 7) (reg Tryz.f96 8)))) (reg Tryz.f96 5)))
noncomputable def c96 : Code:=(.seq (reg Tryz.f96 0) (.seq (reg Tryz.f96 1) (.seq (reg Tryz.f96 2) (.seq (.seq (reg Tryz.f96 3) (.block 0 (.loop b96_1))) (.seq (reg Tryz.f96 9) Code.ret)))))
theorem body96 : Tryz.f96.body = some c96:=by kernel_rfl

noncomputable def c97 : Code:=(.seq (reg Tryz.f97 0) (.seq (reg Tryz.f97 1) (.seq (reg Tryz.f97 2) Code.ret)))
theorem body97 : Tryz.f97.body = some c97:=by kernel_rfl

noncomputable def b98_1 : Code:=(.seq (reg Tryz.f98 3) (.seq (.cond (Operand.tmp 12) Code.skip (Code.exit 0)) (.seq (.block 1 (.seq (reg Tryz.f98 4) (reg Tryz.f98 5))) (reg Tryz.f98 6))))
noncomputable def c98 : Code:=(.seq (reg Tryz.f98 0) (.seq (reg Tryz.f98 1) (.seq (.seq (reg Tryz.f98 2) (.block 0 (.loop b98_1))) (.seq (reg Tryz.f98 7) Code.ret))))
theorem body98 : Tryz.f98.body = some c98:=by kernel_rfl

noncomputable def c99 : Code:=(.seq (reg Tryz.f99 0) (.seq (reg Tryz.f99 1) Code.ret))
theorem body99 : Tryz.f99.body = some c99:=by kernel_rfl

noncomputable def c100 : Code:=(.seq (reg Tryz.f100 0) (.seq (reg Tryz.f100 1) Code.ret))
theorem body100 : Tryz.f100.body = some c100:=by kernel_rfl

noncomputable def b101_1 : Code:=(.seq (reg Tryz.f101 4) (.seq (.cond (Operand.tmp 20) Code.skip (Code.exit 0)) (.seq (.block 1 (.seq (reg Tryz.f101 5) (reg Tryz.f101 6))) (reg Tryz.f101 7))))
noncomputable def b101_2 : Code:=(.seq (reg Tryz.f101 10) (.seq (.cond (Operand.tmp 32) Code.skip (Code.exit 2)) (.seq (.block 3 (.seq (reg Tryz.f101 11) (reg Tryz.f101 12))) (reg Tryz.f101 13))))
noncomputable def c101 : Code:=(.seq (reg Tryz.f101 0) (.seq (reg Tryz.f101 1) (.seq (reg Tryz.f101 2) (.seq (.seq (reg Tryz.f101 3) (.block 0 (.loop b101_1))) (.seq (reg Tryz.f101 8) (.seq (.seq (reg Tryz.f101 9) (.block 2 (.loop b101_2))) (.seq (reg Tryz.f101 14) Code.ret)))))))
theorem body101 : Tryz.f101.body = some c101:=by kernel_rfl

noncomputable def c102 : Code:=(.seq (reg Tryz.f102 0) (.seq (reg Tryz.f102 1) Code.ret))
theorem body102 : Tryz.f102.body = some c102:=by kernel_rfl

noncomputable def c103 : Code:=(.seq (reg Tryz.f103 0) (.seq (.block 0 (.seq (reg Tryz.f103 1) (.cond (Operand.tmp 5) (.seq (reg Tryz.f103 2) Code.ret) (.seq (reg Tryz.f103 3) (.cond (Operand.tmp 13) (.seq (reg Tryz.f103 4) Code.ret) (.seq (reg Tryz.f103 5) (.cond (Operand.tmp 22) (.seq (reg Tryz.f103 6) Code.ret) Code.skip))))))) (.seq (reg Tryz.f103 7) Code.ret)))
theorem body103 : Tryz.f103.body = some c103:=by kernel_rfl

noncomputable def c104 : Code:=(.seq (reg Tryz.f104 0) (.seq (reg Tryz.f104 1) Code.ret))
theorem body104 : Tryz.f104.body = some c104:=by kernel_rfl

noncomputable def c105 : Code:=(.seq (reg Tryz.f105 0) (.seq (reg Tryz.f105 1) Code.ret))
theorem body105 : Tryz.f105.body = some c105:=by kernel_rfl

noncomputable def c106 : Code:=(.seq (reg Tryz.f106 0) (.seq (reg Tryz.f106 1) Code.ret))
theorem body106 : Tryz.f106.body = some c106:=by kernel_rfl

noncomputable def b107_1 : Code:=(.seq (.seq (reg Tryz.f107 3) (.cond (Operand.tmp 9) Code.skip (Code.exit 0))) (.seq (.block 1 (reg Tryz.f107 5)) (reg Tryz.f107 4)))
noncomputable def b107_2 : Code:=(.seq (.seq (reg Tryz.f107 7) (.cond (Operand.tmp 44) Code.skip (Code.exit 2))) (.seq (.block 3 (.seq (reg Tryz.f107 9) (.seq (reg Tryz.f107 10) (reg Tryz.f107 11)))) (reg Tryz.f107 8)))
noncomputable def c107 : Code:=(.seq (reg Tryz.f107 0) (.seq (reg Tryz.f107 1) (.seq (.seq (reg Tryz.f107 2) (.block 0 (.loop b107_1))) (.seq (.seq (reg Tryz.f107 6) (.block 2 (.loop b107_2))) (.seq (reg Tryz.f107 12) Code.ret)))))
theorem body107 : Tryz.f107.body = some c107:=by kernel_rfl

noncomputable def c108 : Code:=(.seq (reg Tryz.f108 0) (.seq (reg Tryz.f108 1) Code.ret))
theorem body108 : Tryz.f108.body = some c108:=by kernel_rfl

noncomputable def c109 : Code:=(.seq (reg Tryz.f109 0) (.seq (reg Tryz.f109 1) Code.ret))
theorem body109 : Tryz.f109.body = some c109:=by kernel_rfl

noncomputable def b110_1 : Code:=(.seq (reg Tryz.f110 3) (.seq (.cond (Operand.tmp 9) Code.skip (Code.exit 0)) (.seq (.block 1 (.seq (reg Tryz.f110 4) (reg Tryz.f110 5))) (reg Tryz.f110 6))))
noncomputable def c110 : Code:=(.seq (reg Tryz.f110 0) (.seq (reg Tryz.f110 1) (.seq (.seq (reg Tryz.f110 2) (.block 0 (.loop b110_1))) (.seq (reg Tryz.f110 7) Code.ret))))
theorem body110 : Tryz.f110.body = some c110:=by kernel_rfl

noncomputable def b111_1 : Code:=(.seq (reg Tryz.f111 5) (.seq (.cond (Operand.tmp 19) Code.skip (Code.exit 0)) (.seq (.block 1 (.seq (reg Tryz.f111 6) (reg Tryz.f111 7))) (reg Tryz.f111 8))))
noncomputable def c111 : Code:=(.seq (reg Tryz.f111 0) (.seq (reg Tryz.f111 1) (.seq (reg Tryz.f111 2) (.seq (reg Tryz.f111 3) (.seq (.seq (reg Tryz.f111 4) (.block 0 (.loop b111_1))) (.seq (reg Tryz.f111 9) Code.ret))))))
theorem body111 : Tryz.f111.body = some c111:=by kernel_rfl

noncomputable def b112_1 : Code:=(.seq (reg Tryz.f112 5) (.seq (.cond (Operand.tmp 36) Code.skip (Code.exit 0)) (.seq (.block 1 (.seq (reg Tryz.f112 6) (.seq (reg Tryz.f112 7) (.seq (reg Tryz.f112 8) (reg Tryz.f112 9))))) (reg Tryz.f112 10))))
noncomputable def c112 : Code:=(.seq (reg Tryz.f112 0) (.seq (reg Tryz.f112 1) (.seq (reg Tryz.f112 2) (.seq (reg Tryz.f112 3) (.seq (.seq (reg Tryz.f112 4) (.block 0 (.loop b112_1))) (.seq (reg Tryz.f112 11) Code.ret))))))
theorem body112 : Tryz.f112.body = some c112:=by kernel_rfl

noncomputable def c113 : Code:=(.seq (reg Tryz.f113 0) (.seq (reg Tryz.f113 1) (.seq (reg Tryz.f113 2) (.seq (reg Tryz.f113 3) Code.ret))))
theorem body113 : Tryz.f113.body = some c113:=by kernel_rfl

noncomputable def b114_1 : Code:=(.seq (reg Tryz.f114 3) (.seq (.cond (Operand.tmp 11) Code.skip (Code.exit 0)) (.seq (.block 1 (.seq (reg Tryz.f114 4) (reg Tryz.f114 5))) (reg Tryz.f114 6))))
noncomputable def c114 : Code:=(.seq (reg Tryz.f114 0) (.seq (reg Tryz.f114 1) (.seq (.seq (reg Tryz.f114 2) (.block 0 (.loop b114_1))) (.seq (reg Tryz.f114 7) Code.ret))))
theorem body114 : Tryz.f114.body = some c114:=by kernel_rfl

noncomputable def c115 : Code:=(.seq (reg Tryz.f115 0) (.seq (reg Tryz.f115 1) Code.ret))
theorem body115 : Tryz.f115.body = some c115:=by kernel_rfl

noncomputable def c116 : Code:=(.seq (reg Tryz.f116 0) (.seq (reg Tryz.f116 1) Code.ret))
theorem body116 : Tryz.f116.body = some c116:=by kernel_rfl

noncomputable def c117 : Code:=(.seq (reg Tryz.f117 0) (.seq (reg Tryz.f117 1) (.seq (reg Tryz.f117 2) Code.ret)))
theorem body117 : Tryz.f117.body = some c117:=by kernel_rfl

noncomputable def b118_2 : Code:=(.seq (reg Tryz.f118 6) (.seq (.cond (Operand.tmp 13) Code.skip (Code.exit 2)) (.seq (.block 3 (.seq (reg Tryz.f118 7) (reg Tryz.f118 8))) (reg Tryz.f118 9))))
noncomputable def b118_1 : Code:=(.seq (reg Tryz.f118 3) (.seq (.cond (Operand.tmp 10) Code.skip (Code.exit 0)) (.seq (.block 1 (.seq (reg Tryz.f118 4) (.seq (reg Tryz.f118 5) (.block 2 (.loop b118_2))))) (reg Tryz.f118 10))))
noncomputable def b118_3 : Code:=(.seq (.seq (reg Tryz.f118 12) (.cond (Operand.tmp 32) Code.skip (Code.exit 4))) (.seq (.block 5 (.seq (reg Tryz.f118 14) (.seq (reg Tryz.f118 15) (reg Tryz.f118 16)))) (reg Tryz.f118 13)))
noncomputable def c118 : Code:=(.seq (reg Tryz.f118 0) (.seq (reg Tryz.f118 1) (.seq (.seq (reg Tryz.f118 2) (.block 0 (.loop b118_1))) (.seq (.seq (reg Tryz.f118 11) (.block 4 (.loop b118_3))) (.seq (reg Tryz.f118 17) Code.ret)))))
theorem body118 : Tryz.f118.body = some c118:=by kernel_rfl

noncomputable def c119 : Code:=(.seq (reg Tryz.f119 0) (.seq (reg Tryz.f119 1) Code.ret))
theorem body119 : Tryz.f119.body = some c119:=by kernel_rfl

noncomputable def c140 : Code:=(.seq (reg Tryz.f140 0) (reg Tryz.f140 1))
theorem body140 : Tryz.f140.body = some c140:=by kernel_rfl

end Go.Proofs.YtjdoijdjeapekaaGreatDoor
