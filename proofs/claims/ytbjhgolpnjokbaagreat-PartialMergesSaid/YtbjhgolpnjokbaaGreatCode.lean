import Derived.Test.YtbjhgolpnjokbaaGreatTt
namespace Go.Proofs.YtbjhgolpnjokbaaGreat
open Go.Av
set_option maxRecDepth 1000000
noncomputable def c3 : Code:=(.seq (reg Tryz.f3 0) (.seq (.seq (reg Tryz.f3 1) (.cond (Operand.tmp 14) (.seq (reg Tryz.f3 2) Code.ret) Code.skip)) (.seq (reg Tryz.f3 3) (.seq (reg Tryz.f3 4) (.seq (reg Tryz.f3 5) (.seq (reg Tryz.f3 6) (.seq (reg Tryz.f3 7) Code.ret)))))))
theorem body3 : Tryz.f3.body = some c3:=by kernel_rfl
noncomputable def b4_1 : Code:=(.seq (reg Tryz.f4 6) (.seq (.cond (Operand.tmp 42) Code.skip (Code.exit 0)) (.seq (.block 1 (.seq (reg Tryz.f4 7) (.seq (reg Tryz.f4 8) (.seq (reg Tryz.f4 9) (.seq (reg Tryz.f4 10) (.cond (Operand.tmp 65) (.seq (reg Tryz.f4 11) Code.ret) Code.skip)))))) (reg Tryz.f4 12))))
noncomputable def c4 : Code:=(.seq (reg Tryz.f4 0) (.seq (.seq (reg Tryz.f4 1) (.cond (Operand.tmp 18) (.seq (reg Tryz.f4 2) Code.ret) Code.skip)) (.seq (reg Tryz.f4 3) (.seq (reg Tryz.f4 4) (.seq (.seq (reg Tryz.f4 5) (.block 0 (.loop b4_1))) (.seq (reg Tryz.f4 13) Code.ret))))))
theorem body4 : Tryz.f4.body = some c4:=by kernel_rfl
noncomputable def c5 : Code:=(.seq (reg Tryz.f5 0) (.seq (reg Tryz.f5 1) (.seq (reg Tryz.f5 2) (.seq (reg Tryz.f5 3) (.seq (reg Tryz.f5 4) Code.ret)))))
theorem body5 : Tryz.f5.body = some c5:=by kernel_rfl
noncomputable def c6 : Code:=(.seq (reg Tryz.f6 0) (.seq (reg Tryz.f6 1) (.seq (reg Tryz.f6 2) (.seq (reg Tryz.f6 3) (.seq (reg Tryz.f6 4) Code.ret)))))
theorem body6 : Tryz.f6.body = some c6:=by kernel_rfl
noncomputable def c7 : Code:=(.seq (reg Tryz.f7 0) (.seq (reg Tryz.f7 1) Code.ret))
theorem body7 : Tryz.f7.body = some c7:=by kernel_rfl
noncomputable def c8 : Code:=(.seq (reg Tryz.f8 0) (.seq (reg Tryz.f8 1) (.seq (.seq (reg Tryz.f8 2) (.cond (Operand.tmp 16) (.seq (reg Tryz.f8 3) (.seq (reg Tryz.f8 4) (.block 0 (.seq (reg Tryz.f8 5) (.cond (Operand.tmp 27) (reg Tryz.f8 6) (.seq (reg Tryz.f8 7) (.cond (Operand.tmp 35) (reg Tryz.f8 8) (.seq (reg Tryz.f8 9) (.cond (Operand.tmp 43) (reg Tryz.f8 10) (.seq (reg Tryz.f8 11) (.cond (Operand.tmp 52) (reg Tryz.f8 12) (.seq (reg Tryz.f8 13) (.cond (Operand.tmp 62) (reg Tryz.f8 14) Code.skip))))))))))))) Code.skip)) (.seq (.seq (reg Tryz.f8 15) (.cond (Operand.tmp 71) (reg Tryz.f8 16) Code.skip)) (.seq (reg Tryz.f8 17) Code.ret)))))
theorem body8 : Tryz.f8.body = some c8:=by kernel_rfl
noncomputable def c9 : Code:=(.seq (reg Tryz.f9 0) (.seq (.seq (reg Tryz.f9 1) (.cond (Operand.tmp 6) (.seq (reg Tryz.f9 2) Code.ret) Code.skip)) (.seq (reg Tryz.f9 3) Code.ret)))
theorem body9 : Tryz.f9.body = some c9:=by kernel_rfl
noncomputable def c10 : Code:=(.seq (reg Tryz.f10 0) (.seq (.seq (reg Tryz.f10 1) (.cond (Operand.tmp 6) (.seq (reg Tryz.f10 2) Code.ret) Code.skip)) (.seq (reg Tryz.f10 3) Code.ret)))
theorem body10 : Tryz.f10.body = some c10:=by kernel_rfl
noncomputable def b11_1 : Code:=(.seq (reg Tryz.f11 4) (.seq (.cond (Operand.tmp 15) Code.skip (Code.exit 0)) (.seq (.block 1 (.seq (reg Tryz.f11 5) (.seq (.seq (reg Tryz.f11 6) (.cond (Operand.tmp 31) (.seq (reg Tryz.f11 7) Code.ret) Code.skip)) (.seq (.seq (reg Tryz.f11 8) (.seq (reg Tryz.f11 9) (.cond (Operand.tmp 40) (.seq (reg Tryz.f11 10) Code.ret) Code.skip))) (.seq (reg Tryz.f11 11) (.cond (Operand.tmp 53) (.seq (reg Tryz.f11 12) Code.ret) Code.skip)))))) (reg Tryz.f11 13))))
noncomputable def c11 : Code:=(.seq (reg Tryz.f11 0) (.seq (.seq (reg Tryz.f11 1) (.cond (Operand.tmp 10) (.seq (reg Tryz.f11 2) Code.ret) Code.skip)) (.seq (.seq (reg Tryz.f11 3) (.block 0 (.loop b11_1))) (.seq (reg Tryz.f11 14) Code.ret))))
theorem body11 : Tryz.f11.body = some c11:=by kernel_rfl
noncomputable def b12_1 : Code:=(.seq (.seq (reg Tryz.f12 4) (.cond (Operand.tmp 13) Code.skip (Code.exit 0))) (.seq (.block 1 (.seq (reg Tryz.f12 6) (.seq (reg Tryz.f12 7) (.cond (Operand.tmp 64) (.seq (reg Tryz.f12 8) Code.ret) Code.skip)))) (reg Tryz.f12 5)))
noncomputable def c12 : Code:=(.seq (reg Tryz.f12 0) (.seq (.seq (reg Tryz.f12 1) (.cond (Operand.tmp 8) (.seq (reg Tryz.f12 2) Code.ret) Code.skip)) (.seq (.seq (reg Tryz.f12 3) (.block 0 (.loop b12_1))) (.seq (reg Tryz.f12 9) Code.ret))))
theorem body12 : Tryz.f12.body = some c12:=by kernel_rfl
noncomputable def b13_1 : Code:=(.seq (.seq (reg Tryz.f13 4) (.cond (Operand.tmp 25) Code.skip (Code.exit 0))) (.seq (.block 1 (.seq (reg Tryz.f13 6) (.cond (Operand.tmp 38) (.seq (reg Tryz.f13 7) Code.ret) Code.skip))) (reg Tryz.f13 5)))
noncomputable def c13 : Code:=(.seq (reg Tryz.f13 0) (.seq (.seq (reg Tryz.f13 1) (.cond (Operand.tmp 20) (.seq (reg Tryz.f13 2) Code.ret) Code.skip)) (.seq (.seq (reg Tryz.f13 3) (.block 0 (.loop b13_1))) (.seq (reg Tryz.f13 8) Code.ret))))
theorem body13 : Tryz.f13.body = some c13:=by kernel_rfl
noncomputable def b14_2 : Code:=(.seq (.seq (reg Tryz.f14 6) (.cond (Operand.tmp 16) Code.skip (Code.exit 2))) (.seq (.block 3 (.seq (reg Tryz.f14 8) (.cond (Operand.tmp 21) (reg Tryz.f14 9) Code.skip))) (reg Tryz.f14 7)))
noncomputable def b14_1 : Code:=(.seq (reg Tryz.f14 3) (.seq (.cond (Operand.tmp 13) Code.skip (Code.exit 0)) (.seq (.block 1 (.seq (reg Tryz.f14 4) (.seq (reg Tryz.f14 5) (.block 2 (.loop b14_2))))) (reg Tryz.f14 10))))
noncomputable def c14 : Code:=(.seq (reg Tryz.f14 0) (.seq (reg Tryz.f14 1) (.seq (.seq (reg Tryz.f14 2) (.block 0 (.loop b14_1))) (.seq (reg Tryz.f14 11) Code.ret))))
theorem body14 : Tryz.f14.body = some c14:=by kernel_rfl
noncomputable def b15_1 : Code:=(.seq (.seq (reg Tryz.f15 7) (.cond (Operand.tmp 37) Code.skip (Code.exit 0))) (.block 1 (.seq (reg Tryz.f15 8) (.block 2 (.seq (reg Tryz.f15 10) (.cond (Operand.tmp 55) (reg Tryz.f15 11) (.seq (reg Tryz.f15 12) (.cond (Operand.tmp 66) (reg Tryz.f15 13) (.seq (reg Tryz.f15 14) (.cond (Operand.tmp 77) (.seq (reg Tryz.f15 15) Code.ret) (reg Tryz.f15 9)))))))))))
noncomputable def c15 : Code:=(.seq (reg Tryz.f15 0) (.seq (.seq (reg Tryz.f15 1) (.cond (Operand.tmp 17) (.seq (reg Tryz.f15 2) Code.ret) Code.skip)) (.seq (.seq (reg Tryz.f15 3) (.cond (Operand.tmp 24) (.seq (reg Tryz.f15 4) Code.ret) Code.skip)) (.seq (reg Tryz.f15 5) (.seq (reg Tryz.f15 6) (.seq (.block 0 (.loop b15_1)) (.seq (reg Tryz.f15 16) (.seq (reg Tryz.f15 17) Code.ret))))))))
theorem body15 : Tryz.f15.body = some c15:=by kernel_rfl
noncomputable def b16_1 : Code:=(.seq (.seq (reg Tryz.f16 7) (.cond (Operand.tmp 36) Code.skip (Code.exit 0))) (.seq (.block 1 (.seq (reg Tryz.f16 9) (.seq (reg Tryz.f16 10) (.cond (Operand.tmp 55) (reg Tryz.f16 11) (.seq (reg Tryz.f16 12) (.cond (Operand.tmp 75) (.seq (reg Tryz.f16 13) Code.ret) Code.skip)))))) (reg Tryz.f16 8)))
noncomputable def c16 : Code:=(.seq (reg Tryz.f16 0) (.seq (.seq (reg Tryz.f16 1) (.cond (Operand.tmp 16) (.seq (reg Tryz.f16 2) Code.ret) Code.skip)) (.seq (.seq (reg Tryz.f16 3) (.cond (Operand.tmp 23) (.seq (reg Tryz.f16 4) Code.ret) Code.skip)) (.seq (reg Tryz.f16 5) (.seq (.seq (reg Tryz.f16 6) (.block 0 (.loop b16_1))) (.seq (reg Tryz.f16 14) Code.ret))))))
theorem body16 : Tryz.f16.body = some c16:=by kernel_rfl
noncomputable def b17_1 : Code:=(.seq (reg Tryz.f17 3) (.seq (.cond (Operand.tmp 12) Code.skip (Code.exit 0)) (.seq (.block 1 (.seq (reg Tryz.f17 4) (reg Tryz.f17 5))) (reg Tryz.f17 6))))
noncomputable def c17 : Code:=(.seq (reg Tryz.f17 0) (.seq (reg Tryz.f17 1) (.seq (.seq (reg Tryz.f17 2) (.block 0 (.loop b17_1))) (.seq (reg Tryz.f17 7) Code.ret))))
theorem body17 : Tryz.f17.body = some c17:=by kernel_rfl
noncomputable def c18 : Code:=(.seq (reg Tryz.f18 0) (.seq (reg Tryz.f18 1) Code.ret))
theorem body18 : Tryz.f18.body = some c18:=by kernel_rfl
noncomputable def b19_1 : Code:=(.seq (.seq (reg Tryz.f19 5) (.cond (Operand.tmp 24) Code.skip (Code.exit 0))) (.seq (.block 1 (reg Tryz.f19 7)) (reg Tryz.f19 6)))
noncomputable def b19_2 : Code:=(.seq (reg Tryz.f19 14) (.seq (.cond (Operand.tmp 50) Code.skip (Code.exit 2)) (.seq (.block 3 (.seq (reg Tryz.f19 15) (.seq (.seq (reg Tryz.f19 16) (.cond (Operand.tmp 61) (.seq (reg Tryz.f19 17) Code.ret) Code.skip)) (reg Tryz.f19 18)))) (reg Tryz.f19 19))))
noncomputable def c19 : Code:=(.seq (reg Tryz.f19 0) (.seq (.seq (reg Tryz.f19 1) (.seq (reg Tryz.f19 2) (.cond (Operand.tmp 20) (.seq (reg Tryz.f19 3) Code.ret) Code.skip))) (.seq (.seq (reg Tryz.f19 4) (.block 0 (.loop b19_1))) (.seq (reg Tryz.f19 8) (.seq (.seq (reg Tryz.f19 9) (.cond (Operand.tmp 41) (.seq (reg Tryz.f19 10) Code.ret) Code.skip)) (.seq (reg Tryz.f19 11) (.seq (reg Tryz.f19 12) (.seq (.seq (reg Tryz.f19 13) (.block 2 (.loop b19_2))) (.seq (.block 4 (.seq (reg Tryz.f19 20) (.cond (Operand.tmp 71) (.seq (reg Tryz.f19 21) Code.ret) (.seq (reg Tryz.f19 22) (.cond (Operand.tmp 84) (.seq (reg Tryz.f19 23) Code.ret) Code.skip))))) (.seq (reg Tryz.f19 24) Code.ret))))))))))
theorem body19 : Tryz.f19.body = some c19:=by kernel_rfl
noncomputable def c20 : Code:=(.seq (reg Tryz.f20 0) (.seq (reg Tryz.f20 1) Code.ret))
theorem body20 : Tryz.f20.body = some c20:=by kernel_rfl
noncomputable def c21 : Code:=(.seq (reg Tryz.f21 0) (.seq (reg Tryz.f21 1) Code.ret))
theorem body21 : Tryz.f21.body = some c21:=by kernel_rfl
noncomputable def c22 : Code:=(.seq (reg Tryz.f22 0) (.seq (reg Tryz.f22 1) Code.ret))
theorem body22 : Tryz.f22.body = some c22:=by kernel_rfl
noncomputable def c23 : Code:=(.seq (reg Tryz.f23 0) (.seq (reg Tryz.f23 1) Code.ret))
theorem body23 : Tryz.f23.body = some c23:=by kernel_rfl
noncomputable def b24_1 : Code:=(.seq (reg Tryz.f24 5) (.seq (.cond (Operand.tmp 18) Code.skip (Code.exit 0)) (.seq (.block 1 (.seq (reg Tryz.f24 6) (.seq (reg Tryz.f24 7) (.seq (reg Tryz.f24 8) (.seq (reg Tryz.f24 9) (reg Tryz.f24 10)))))) (reg Tryz.f24 11))))
noncomputable def c24 : Code:=(.seq (reg Tryz.f24 0) (.seq (reg Tryz.f24 1) (.seq (reg Tryz.f24 2) (.seq (reg Tryz.f24 3) (.seq (.seq (reg Tryz.f24 4) (.block 0 (.loop b24_1))) (.seq (reg Tryz.f24 12) (.seq (reg Tryz.f24 13) (.seq (reg Tryz.f24 14) (.seq (.seq (reg Tryz.f24 15) (.block 2 (.seq (reg Tryz.f24 16) (.cond (Operand.tmp 73) (reg Tryz.f24 17) (.seq (reg Tryz.f24 18) (.cond (Operand.tmp 76) (.seq (reg Tryz.f24 19) (reg Tryz.f24 20)) Code.skip)))))) (.seq (reg Tryz.f24 21) Code.ret))))))))))
theorem body24 : Tryz.f24.body = some c24:=by kernel_rfl
noncomputable def c25 : Code:=(.seq (reg Tryz.f25 0) (.seq (.seq (reg Tryz.f25 1) (.cond (Operand.tmp 7) (.seq (reg Tryz.f25 2) Code.ret) Code.skip)) (.seq (reg Tryz.f25 3) (.seq (reg Tryz.f25 4) Code.ret))))
theorem body25 : Tryz.f25.body = some c25:=by kernel_rfl
noncomputable def c26 : Code:=(.seq (reg Tryz.f26 0) (.seq (reg Tryz.f26 1) (.seq (.seq (reg Tryz.f26 2) (.cond (Operand.tmp 10) (reg Tryz.f26 3) Code.skip)) (.seq (reg Tryz.f26 4) Code.ret))))
theorem body26 : Tryz.f26.body = some c26:=by kernel_rfl
noncomputable def c27 : Code:=(.seq (reg Tryz.f27 0) (.seq (reg Tryz.f27 1) Code.ret))
theorem body27 : Tryz.f27.body = some c27:=by kernel_rfl
noncomputable def b28_1 : Code:=(.seq (reg Tryz.f28 4) (.seq (.cond (Operand.tmp 21) Code.skip (Code.exit 0)) (.seq (.block 1 (.seq (reg Tryz.f28 5) (.seq (reg Tryz.f28 6) (.cond (Operand.tmp 27) (.seq (reg Tryz.f28 7) Code.ret) Code.skip)))) (reg Tryz.f28 8))))
noncomputable def c28 : Code:=(.seq (reg Tryz.f28 0) (.seq (.seq (reg Tryz.f28 1) (.cond (Operand.tmp 15) (.seq (reg Tryz.f28 2) Code.ret) Code.skip)) (.seq (.seq (reg Tryz.f28 3) (.block 0 (.loop b28_1))) (.seq (.seq (reg Tryz.f28 9) (.cond (Operand.tmp 40) (.seq (reg Tryz.f28 10) Code.ret) Code.skip)) (.seq (reg Tryz.f28 11) (.seq (reg Tryz.f28 12) Code.ret))))))
theorem body28 : Tryz.f28.body = some c28:=by kernel_rfl
noncomputable def b29_1 : Code:=(.seq (reg Tryz.f29 3) (.seq (.cond (Operand.tmp 17) Code.skip (Code.exit 0)) (.seq (.block 1 (.seq (reg Tryz.f29 4) (reg Tryz.f29 5))) (reg Tryz.f29 6))))
noncomputable def c29 : Code:=(.seq (reg Tryz.f29 0) (.seq (reg Tryz.f29 1) (.seq (.seq (reg Tryz.f29 2) (.block 0 (.loop b29_1))) (.seq (reg Tryz.f29 7) Code.ret))))
theorem body29 : Tryz.f29.body = some c29:=by kernel_rfl
noncomputable def b30_1 : Code:=(.seq (.seq (reg Tryz.f30 4) (.cond (Operand.tmp 31) Code.skip (Code.exit 0))) (.seq (.block 1 (.seq (reg Tryz.f30 6) (.cond (Operand.tmp 42) (.seq (reg Tryz.f30 7) Code.ret) Code.skip))) (reg Tryz.f30 5)))
noncomputable def c30 : Code:=(.seq (reg Tryz.f30 0) (.seq (.seq (reg Tryz.f30 1) (.cond (Operand.tmp 25) (.seq (reg Tryz.f30 2) Code.ret) Code.skip)) (.seq (.seq (reg Tryz.f30 3) (.block 0 (.loop b30_1))) (.seq (reg Tryz.f30 8) (.seq (reg Tryz.f30 9) Code.ret)))))
theorem body30 : Tryz.f30.body = some c30:=by kernel_rfl
noncomputable def c31 : Code:=(.seq (reg Tryz.f31 0) (.seq (.seq (reg Tryz.f31 1) (.cond (Operand.tmp 7) (.seq (reg Tryz.f31 2) Code.ret) Code.skip)) (.seq (reg Tryz.f31 3) (.seq (.seq (reg Tryz.f31 4) (.cond (Operand.tmp 29) (.seq (reg Tryz.f31 5) Code.ret) Code.skip)) (.seq (reg Tryz.f31 6) Code.ret)))))
theorem body31 : Tryz.f31.body = some c31:=by kernel_rfl
noncomputable def c32 : Code:=(.seq (reg Tryz.f32 0) (.seq (reg Tryz.f32 1) Code.ret))
theorem body32 : Tryz.f32.body = some c32:=by kernel_rfl
noncomputable def c33 : Code:=(.seq (reg Tryz.f33 0) (.seq (reg Tryz.f33 1) Code.ret))
theorem body33 : Tryz.f33.body = some c33:=by kernel_rfl
noncomputable def b34_1 : Code:=(.seq (.seq (reg Tryz.f34 2) (.cond (Operand.tmp 7) Code.skip (Code.exit 0))) (.seq (.block 1 (.seq (.seq (reg Tryz.f34 4) (.cond (Operand.tmp 16) (.seq (reg Tryz.f34 5) Code.ret) Code.skip)) (.seq (reg Tryz.f34 6) (.cond (Operand.tmp 23) (.seq (reg Tryz.f34 7) Code.ret) Code.skip)))) (reg Tryz.f34 3)))
noncomputable def c34 : Code:=(.seq (reg Tryz.f34 0) (.seq (.seq (reg Tryz.f34 1) (.block 0 (.loop b34_1))) (.seq (reg Tryz.f34 8) Code.ret)))
theorem body34 : Tryz.f34.body = some c34:=by kernel_rfl
noncomputable def c35 : Code:=(.seq (reg Tryz.f35 0) (.seq (reg Tryz.f35 1) Code.ret))
theorem body35 : Tryz.f35.body = some c35:=by kernel_rfl
noncomputable def c36 : Code:=(.seq (reg Tryz.f36 0) (.seq (reg Tryz.f36 1) Code.ret))
theorem body36 : Tryz.f36.body = some c36:=by kernel_rfl
noncomputable def b37_1 : Code:=(.seq (.seq (reg Tryz.f37 4) (.cond (Operand.tmp 39) Code.skip (Code.exit 0))) (.seq (.block 1 (.seq (reg Tryz.f37 6) (.cond (Operand.tmp 53) (.seq (reg Tryz.f37 7) Code.ret) Code.skip))) (reg Tryz.f37 5)))
noncomputable def c37 : Code:=(.seq (reg Tryz.f37 0) (.seq (.seq (reg Tryz.f37 1) (.cond (Operand.tmp 34) (.seq (reg Tryz.f37 2) Code.ret) Code.skip)) (.seq (.seq (reg Tryz.f37 3) (.block 0 (.loop b37_1))) (.seq (reg Tryz.f37 8) Code.ret))))
theorem body37 : Tryz.f37.body = some c37:=by kernel_rfl
noncomputable def c38 : Code:=(.seq (reg Tryz.f38 0) (.seq (reg Tryz.f38 1) Code.ret))
theorem body38 : Tryz.f38.body = some c38:=by kernel_rfl
noncomputable def c39 : Code:=(.seq (reg Tryz.f39 0) (.seq (reg Tryz.f39 1) (.seq (reg Tryz.f39 2) (.seq (reg Tryz.f39 3) Code.ret))))
theorem body39 : Tryz.f39.body = some c39:=by kernel_rfl
noncomputable def b40_1 : Code:=(.seq (.seq (reg Tryz.f40 2) (.cond (Operand.tmp 11) Code.skip (Code.exit 0))) (.seq (.block 1 (.seq (reg Tryz.f40 4) (.cond (Operand.tmp 29) (.seq (reg Tryz.f40 5) Code.ret) Code.skip))) (reg Tryz.f40 3)))
noncomputable def c40 : Code:=(.seq (reg Tryz.f40 0) (.seq (.seq (reg Tryz.f40 1) (.block 0 (.loop b40_1))) (.seq (reg Tryz.f40 6) Code.ret)))
theorem body40 : Tryz.f40.body = some c40:=by kernel_rfl
noncomputable def b41_1 : Code:=(.seq (.seq (reg Tryz.f41 2) (.cond (Operand.tmp 17) Code.skip (Code.exit 0))) (.block 1 (reg Tryz.f41 3)))
noncomputable def c41 : Code:=(.seq (reg Tryz.f41 0) (.seq (reg Tryz.f41 1) (.seq (.block 0 (.loop b41_1)) (.seq (reg Tryz.f41 4) Code.ret))))
theorem body41 : Tryz.f41.body = some c41:=by kernel_rfl
noncomputable def c42 : Code:=(.seq (reg Tryz.f42 0) (.seq (reg Tryz.f42 1) (.seq (reg Tryz.f42 2) Code.ret)))
theorem body42 : Tryz.f42.body = some c42:=by kernel_rfl
noncomputable def b43_1 : Code:=(.seq (reg Tryz.f43 2) (.seq (.cond (Operand.tmp 13) Code.skip (Code.exit 0)) (.seq (.block 1 (.seq (reg Tryz.f43 3) (.seq (reg Tryz.f43 4) (.seq (reg Tryz.f43 5) (.cond (Operand.tmp 19) (.seq (reg Tryz.f43 6) Code.ret) Code.skip))))) (reg Tryz.f43 7))))
noncomputable def b43_2 : Code:=(.seq (reg Tryz.f43 10) (.seq (.cond (Operand.tmp 25) Code.skip (Code.exit 2)) (.seq (.block 3 (.seq (reg Tryz.f43 11) (.seq (reg Tryz.f43 12) (.seq (reg Tryz.f43 13) (.cond (Operand.tmp 34) (.seq (reg Tryz.f43 14) Code.ret) Code.skip))))) (reg Tryz.f43 15))))
noncomputable def c43 : Code:=(.seq (reg Tryz.f43 0) (.seq (.seq (reg Tryz.f43 1) (.block 0 (.loop b43_1))) (.seq (reg Tryz.f43 8) (.seq (.seq (reg Tryz.f43 9) (.block 2 (.loop b43_2))) (.seq (reg Tryz.f43 16) Code.ret)))))
theorem body43 : Tryz.f43.body = some c43:=by kernel_rfl
noncomputable def b44_1 : Code:=(.seq (.seq (reg Tryz.f44 4) (.cond (Operand.tmp 13) Code.skip (Code.exit 0))) (.block 1 (.seq (reg Tryz.f44 5) (.seq (.seq (reg Tryz.f44 6) (.cond (Operand.tmp 21) (.seq (reg Tryz.f44 7) Code.ret) Code.skip)) (reg Tryz.f44 8)))))
noncomputable def c44 : Code:=(.seq (reg Tryz.f44 0) (.seq (.seq (reg Tryz.f44 1) (.cond (Operand.tmp 10) (.seq (reg Tryz.f44 2) Code.ret) Code.skip)) (.seq (reg Tryz.f44 3) (.seq (.block 0 (.loop b44_1)) (.seq (reg Tryz.f44 9) Code.ret)))))
theorem body44 : Tryz.f44.body = some c44:=by kernel_rfl
noncomputable def c45 : Code:=(.seq (reg Tryz.f45 0) (.seq (.seq (reg Tryz.f45 1) (.cond (Operand.tmp 14) (.seq (reg Tryz.f45 2) Code.ret) Code.skip)) (.seq (reg Tryz.f45 3) (.seq (.seq (reg Tryz.f45 4) (.cond (Operand.tmp 24) (.seq (reg Tryz.f45 5) Code.ret) Code.skip)) (.seq (.seq (reg Tryz.f45 6) (.seq (reg Tryz.f45 7) (.cond (Operand.tmp 33) (.seq (reg Tryz.f45 8) Code.ret) Code.skip))) (.seq (.seq (reg Tryz.f45 9) (.cond (Operand.tmp 53) (.seq (reg Tryz.f45 10) Code.ret) Code.skip)) (.seq (reg Tryz.f45 11) Code.ret)))))))
theorem body45 : Tryz.f45.body = some c45:=by kernel_rfl
noncomputable def b46_1 : Code:=(.seq (reg Tryz.f46 3) (.seq (.cond (Operand.tmp 9) Code.skip (Code.exit 0)) (.seq (.block 1 (.seq (reg Tryz.f46 4) (.seq (reg Tryz.f46 5) (reg Tryz.f46 6)))) (reg Tryz.f46 7))))
noncomputable def c46 : Code:=(.seq (reg Tryz.f46 0) (.seq (reg Tryz.f46 1) (.seq (.seq (reg Tryz.f46 2) (.block 0 (.loop b46_1))) (.seq (reg Tryz.f46 8) Code.ret))))
theorem body46 : Tryz.f46.body = some c46:=by kernel_rfl
noncomputable def b47_1 : Code:=(.seq (reg Tryz.f47 3) (.seq (.cond (Operand.tmp 9) Code.skip (Code.exit 0)) (.seq (.block 1 (.seq (reg Tryz.f47 4) (reg Tryz.f47 5))) (reg Tryz.f47 6))))
noncomputable def c47 : Code:=(.seq (reg Tryz.f47 0) (.seq (reg Tryz.f47 1) (.seq (.seq (reg Tryz.f47 2) (.block 0 (.loop b47_1))) (.seq (reg Tryz.f47 7) Code.ret))))
theorem body47 : Tryz.f47.body = some c47:=by kernel_rfl
noncomputable def c48 : Code:=(.seq (reg Tryz.f48 0) (.seq (reg Tryz.f48 1) Code.ret))
theorem body48 : Tryz.f48.body = some c48:=by kernel_rfl
noncomputable def b49_1 : Code:=(.seq (.seq (reg Tryz.f49 2) (.cond (Operand.tmp 5) Code.skip (Code.exit 0))) (.seq (.block 1 (reg Tryz.f49 4)) (reg Tryz.f49 3)))
noncomputable def c49 : Code:=(.seq (reg Tryz.f49 0) (.seq (reg Tryz.f49 1) (.seq (.block 0 (.loop b49_1)) (.seq (reg Tryz.f49 5) Code.ret))))
theorem body49 : Tryz.f49.body = some c49:=by kernel_rfl
noncomputable def c50 : Code:=(.seq (reg Tryz.f50 0) (.seq (reg Tryz.f50 1) Code.ret))
theorem body50 : Tryz.f50.body = some c50:=by kernel_rfl
noncomputable def b51_1 : Code:=(.seq (reg Tryz.f51 9) (.seq (.cond (Operand.tmp 28) Code.skip (Code.exit 0)) (.seq (.block 1 (.seq (reg Tryz.f51 10) (.seq (.seq (reg Tryz.f51 11) (.cond (Operand.tmp 34) (.seq (reg Tryz.f51 12) Code.ret) Code.skip)) (reg Tryz.f51 13)))) (reg Tryz.f51 14))))
noncomputable def c51 : Code:=(.seq (reg Tryz.f51 0) (.seq (.seq (reg Tryz.f51 1) (.cond (Operand.tmp 8) (.seq (reg Tryz.f51 2) Code.ret) Code.skip)) (.seq (.seq (reg Tryz.f51 3) (.cond (Operand.tmp 18) (.seq (reg Tryz.f51 4) Code.ret) Code.skip)) (.seq (.seq (reg Tryz.f51 5) (.cond (Operand.tmp 22) (.seq (reg Tryz.f51 6) Code.ret) Code.skip)) (.seq (reg Tryz.f51 7) (.seq (.seq (reg Tryz.f51 8) (.block 0 (.loop b51_1))) (.seq (.seq (reg Tryz.f51 15) (.cond (Operand.tmp 46) (.seq (reg Tryz.f51 16) Code.ret) Code.skip)) (.seq (reg Tryz.f51 17) Code.ret))))))))
theorem body51 : Tryz.f51.body = some c51:=by kernel_rfl
noncomputable def c52 : Code:=(.seq (reg Tryz.f52 0) (.seq (reg Tryz.f52 1) Code.ret))
theorem body52 : Tryz.f52.body = some c52:=by kernel_rfl
noncomputable def b53_1 : Code:=(.seq (reg Tryz.f53 7) (.seq (.cond (Operand.tmp 27) Code.skip (Code.exit 0)) (.seq (.block 1 (.seq (reg Tryz.f53 8) (.seq (reg Tryz.f53 9) (.cond (Operand.tmp 39) (.seq (reg Tryz.f53 10) Code.ret) Code.skip)))) (reg Tryz.f53 11))))
noncomputable def b53_2 : Code:=(.seq (reg Tryz.f53 16) (.seq (.cond (Operand.tmp 52) Code.skip (Code.exit 2)) (.seq (.block 3 (.seq (reg Tryz.f53 17) (reg Tryz.f53 18))) (reg Tryz.f53 19))))
noncomputable def c53 : Code:=(.seq (reg Tryz.f53 0) (.seq (.seq (reg Tryz.f53 1) (.seq (reg Tryz.f53 2) (.cond (Operand.tmp 16) (.seq (reg Tryz.f53 3) Code.ret) Code.skip))) (.seq (.seq (reg Tryz.f53 4) (.cond (Operand.tmp 23) (.seq (reg Tryz.f53 5) Code.ret) Code.skip)) (.seq (.seq (reg Tryz.f53 6) (.block 0 (.loop b53_1))) (.seq (reg Tryz.f53 12) (.seq (.seq (reg Tryz.f53 13) (.cond (Operand.tmp 47) (.seq (reg Tryz.f53 14) Code.ret) Code.skip)) (.seq (.seq (reg Tryz.f53 15) (.block 2 (.loop b53_2))) (.seq (.seq (reg Tryz.f53 20) (.cond (Operand.tmp 61) (.seq (reg Tryz.f53 21) Code.ret) Code.skip)) (.seq (reg Tryz.f53 22) Code.ret)))))))))
theorem body53 : Tryz.f53.body = some c53:=by kernel_rfl
noncomputable def b54_1 : Code:=(.seq (reg Tryz.f54 3) (.seq (.cond (Operand.tmp 19) Code.skip (Code.exit 0)) (.seq (.block 1 (.seq (reg Tryz.f54 4) (reg Tryz.f54 5))) (reg Tryz.f54 6))))
noncomputable def b54_2 : Code:=(.seq (reg Tryz.f54 8) (.seq (.cond (Operand.tmp 36) Code.skip (Code.exit 2)) (.seq (.block 3 (.seq (reg Tryz.f54 9) (reg Tryz.f54 10))) (reg Tryz.f54 11))))
noncomputable def c54 : Code:=(.seq (reg Tryz.f54 0) (.seq (reg Tryz.f54 1) (.seq (.seq (reg Tryz.f54 2) (.block 0 (.loop b54_1))) (.seq (.seq (reg Tryz.f54 7) (.block 2 (.loop b54_2))) (.seq (reg Tryz.f54 12) Code.ret)))))
theorem body54 : Tryz.f54.body = some c54:=by kernel_rfl
noncomputable def c55 : Code:=(.seq (reg Tryz.f55 0) (.seq (.seq (reg Tryz.f55 1) (.cond (Operand.tmp 4) (.seq (reg Tryz.f55 2) Code.ret) Code.skip)) (.seq (reg Tryz.f55 3) Code.ret)))
theorem body55 : Tryz.f55.body = some c55:=by kernel_rfl
noncomputable def c56 : Code:=(.seq (reg Tryz.f56 0) (.seq (.seq (reg Tryz.f56 1) (.cond (Operand.tmp 4) (.seq (reg Tryz.f56 2) Code.ret) Code.skip)) (.seq (reg Tryz.f56 3) Code.ret)))
theorem body56 : Tryz.f56.body = some c56:=by kernel_rfl
noncomputable def b57_1 : Code:=(.seq (reg Tryz.f57 7) (.seq (.cond (Operand.tmp 27) Code.skip (Code.exit 0)) (.seq (.block 1 (.seq (reg Tryz.f57 8) (.seq (.seq (reg Tryz.f57 9) (.cond (Operand.tmp 32) (.seq (reg Tryz.f57 10) Code.ret) Code.skip)) (reg Tryz.f57 11)))) (reg Tryz.f57 12))))
noncomputable def b57_3 : Code:=(.seq (.seq (reg Tryz.f57 19) (.cond (Operand.tmp 48) Code.skip (Code.exit 4))) (.seq (.block 5 (.seq (reg Tryz.f57 21) (.cond (Operand.tmp 63) (.seq (reg Tryz.f57 22) Code.ret) Code.skip))) (reg Tryz.f57 20)))
noncomputable def b57_2 : Code:=(.seq (reg Tryz.f57 16) (.seq (.cond (Operand.tmp 44) Code.skip (Code.exit 2)) (.seq (.block 3 (.seq (reg Tryz.f57 17) (.seq (reg Tryz.f57 18) (.block 4 (.loop b57_3))))) (reg Tryz.f57 23))))
noncomputable def b57_4 : Code:=(.seq (reg Tryz.f57 25) (.seq (.cond (Operand.tmp 69) Code.skip (Code.exit 6)) (.seq (.block 7 (.seq (reg Tryz.f57 26) (.seq (reg Tryz.f57 27) (.cond (Operand.tmp 79) (.seq (reg Tryz.f57 28) Code.ret) Code.skip)))) (reg Tryz.f57 29))))
noncomputable def c57 : Code:=(.seq (reg Tryz.f57 0) (.seq (.seq (reg Tryz.f57 1) (.cond (Operand.tmp 12) (.seq (reg Tryz.f57 2) Code.ret) Code.skip)) (.seq (.seq (reg Tryz.f57 3) (.cond (Operand.tmp 22) (.seq (reg Tryz.f57 4) Code.ret) Code.skip)) (.seq (reg Tryz.f57 5) (.seq (.seq (reg Tryz.f57 6) (.block 0 (.loop b57_1))) (.seq (.seq (reg Tryz.f57 13) (.cond (Operand.tmp 39) (.seq (reg Tryz.f57 14) Code.ret) Code.skip)) (.seq (.seq (reg Tryz.f57 15) (.block 2 (.loop b57_2))) (.seq (.seq (reg Tryz.f57 24) (.block 6 (.loop b57_4))) (.seq (reg Tryz.f57 30) Code.ret)))))))))
theorem body57 : Tryz.f57.body = some c57:=by kernel_rfl
noncomputable def c58 : Code:=(.seq (reg Tryz.f58 0) (.seq (reg Tryz.f58 1) Code.ret))
theorem body58 : Tryz.f58.body = some c58:=by kernel_rfl
noncomputable def c59 : Code:=(.seq (reg Tryz.f59 0) (.seq (reg Tryz.f59 1) Code.ret))
theorem body59 : Tryz.f59.body = some c59:=by kernel_rfl
noncomputable def b60_1 : Code:=(.seq (reg Tryz.f60 7) (.seq (.cond (Operand.tmp 27) Code.skip (Code.exit 0)) (.seq (.block 1 (.seq (reg Tryz.f60 8) (.seq (reg Tryz.f60 9) (.cond (Operand.tmp 40) (.seq (reg Tryz.f60 10) Code.ret) Code.skip)))) (reg Tryz.f60 11))))
noncomputable def b60_2 : Code:=(.seq (reg Tryz.f60 14) (.seq (.cond (Operand.tmp 45) Code.skip (Code.exit 2)) (.seq (.block 3 (.seq (reg Tryz.f60 15) (.seq (.seq (reg Tryz.f60 16) (.cond (Operand.tmp 57) (.seq (reg Tryz.f60 17) Code.ret) Code.skip)) (reg Tryz.f60 18)))) (reg Tryz.f60 19))))
noncomputable def b60_3 : Code:=(.seq (reg Tryz.f60 23) (.seq (.cond (Operand.tmp 70) Code.skip (Code.exit 4)) (.seq (.block 5 (.seq (reg Tryz.f60 24) (reg Tryz.f60 25))) (reg Tryz.f60 26))))
noncomputable def c60 : Code:=(.seq (reg Tryz.f60 0) (.seq (.seq (reg Tryz.f60 1) (.seq (reg Tryz.f60 2) (.cond (Operand.tmp 16) (.seq (reg Tryz.f60 3) Code.ret) Code.skip))) (.seq (.seq (reg Tryz.f60 4) (.cond (Operand.tmp 23) (.seq (reg Tryz.f60 5) Code.ret) Code.skip)) (.seq (.seq (reg Tryz.f60 6) (.block 0 (.loop b60_1))) (.seq (reg Tryz.f60 12) (.seq (.seq (reg Tryz.f60 13) (.block 2 (.loop b60_2))) (.seq (.seq (reg Tryz.f60 20) (.cond (Operand.tmp 65) (.seq (reg Tryz.f60 21) Code.ret) Code.skip)) (.seq (.seq (reg Tryz.f60 22) (.block 4 (.loop b60_3))) (.seq (.seq (reg Tryz.f60 27) (.cond (Operand.tmp 79) (.seq (reg Tryz.f60 28) Code.ret) Code.skip)) (.seq (reg Tryz.f60 29) Code.ret))))))))))
theorem body60 : Tryz.f60.body = some c60:=by kernel_rfl
noncomputable def c61 : Code:=(.seq (reg Tryz.f61 0) (.seq (reg Tryz.f61 1) Code.ret))
theorem body61 : Tryz.f61.body = some c61:=by kernel_rfl
noncomputable def b62_1 : Code:=(.seq (reg Tryz.f62 3) (.seq (.cond (Operand.tmp 9) Code.skip (Code.exit 0)) (.seq (.block 1 (.seq (reg Tryz.f62 4) (reg Tryz.f62 5))) (reg Tryz.f62 6))))
noncomputable def c62 : Code:=(.seq (reg Tryz.f62 0) (.seq (reg Tryz.f62 1) (.seq (.seq (reg Tryz.f62 2) (.block 0 (.loop b62_1))) (.seq (reg Tryz.f62 7) Code.ret))))
theorem body62 : Tryz.f62.body = some c62:=by kernel_rfl
noncomputable def b63_1 : Code:=(.seq (reg Tryz.f63 3) (.seq (.cond (Operand.tmp 6) Code.skip (Code.exit 0)) (.seq (.block 1 (.seq (reg Tryz.f63 4) (reg Tryz.f63 5))) (reg Tryz.f63 6))))
noncomputable def c63 : Code:=(.seq (reg Tryz.f63 0) (.seq (reg Tryz.f63 1) (.seq (.seq (reg Tryz.f63 2) (.block 0 (.loop b63_1))) (.seq (reg Tryz.f63 7) Code.ret))))
theorem body63 : Tryz.f63.body = some c63:=by kernel_rfl
noncomputable def b64_1 : Code:=(.seq (reg Tryz.f64 3) (.seq (.cond (Operand.tmp 9) Code.skip (Code.exit 0)) (.seq (.block 1 (.seq (reg Tryz.f64 4) (.seq (reg Tryz.f64 5) (.cond (Operand.tmp 14) (.seq (reg Tryz.f64 6) Code.ret) Code.skip)))) (reg Tryz.f64 7))))
noncomputable def c64 : Code:=(.seq (reg Tryz.f64 0) (.seq (reg Tryz.f64 1) (.seq (.seq (reg Tryz.f64 2) (.block 0 (.loop b64_1))) (.seq (reg Tryz.f64 8) Code.ret))))
theorem body64 : Tryz.f64.body = some c64:=by kernel_rfl
noncomputable def c65 : Code:=(.seq (reg Tryz.f65 0) (.seq (reg Tryz.f65 1) (.seq (reg Tryz.f65 2) (.seq (.seq (reg Tryz.f65 3) (.cond (Operand.tmp 11) (.seq (.seq (reg Tryz.f65 4) (.cond (Operand.tmp 12) (.seq (reg Tryz.f65 5) Code.ret) Code.skip)) (.seq (reg Tryz.f65 6) Code.ret)) Code.skip)) (.seq (.seq (reg Tryz.f65 7) (.cond (Operand.tmp 13) (.seq (reg Tryz.f65 8) Code.ret) Code.skip)) (.seq (.seq (reg Tryz.f65 9) (.cond (Operand.tmp 16) (.seq (reg Tryz.f65 10) Code.ret) Code.skip)) (.seq (.seq (reg Tryz.f65 11) (.cond (Operand.tmp 19) (.seq (reg Tryz.f65 12) Code.ret) Code.skip)) (.seq (reg Tryz.f65 13) Code.ret))))))))
theorem body65 : Tryz.f65.body = some c65:=by kernel_rfl
noncomputable def b66_1 : Code:=(.seq (.seq (reg Tryz.f66 2) (.cond (Operand.tmp 7) Code.skip (Code.exit 0))) (.seq (.block 1 (.seq (.seq (reg Tryz.f66 4) (.cond (Operand.tmp 16) (.seq (reg Tryz.f66 5) Code.ret) Code.skip)) (.seq (reg Tryz.f66 6) (.cond (Operand.tmp 23) (.seq (reg Tryz.f66 7) Code.ret) Code.skip)))) (reg Tryz.f66 3)))
noncomputable def c66 : Code:=(.seq (reg Tryz.f66 0) (.seq (.seq (reg Tryz.f66 1) (.block 0 (.loop b66_1))) (.seq (reg Tryz.f66 8) Code.ret)))
theorem body66 : Tryz.f66.body = some c66:=by kernel_rfl
noncomputable def b67_1 : Code:=(.seq (.seq (reg Tryz.f67 7) (.cond (Operand.tmp 16) Code.skip (Code.exit 0))) (.seq (.block 1 (.seq (reg Tryz.f67 9) (.cond (Operand.tmp 23) (reg Tryz.f67 10) Code.skip))) (reg Tryz.f67 8)))
noncomputable def c67 : Code:=(.seq (reg Tryz.f67 0) (.seq (.seq (reg Tryz.f67 1) (.cond (Operand.tmp 8) (.seq (reg Tryz.f67 2) Code.ret) Code.skip)) (.seq (.seq (reg Tryz.f67 3) (.cond (Operand.tmp 11) (.seq (reg Tryz.f67 4) Code.ret) Code.skip)) (.seq (reg Tryz.f67 5) (.seq (.seq (reg Tryz.f67 6) (.block 0 (.loop b67_1))) (.seq (reg Tryz.f67 11) Code.ret))))))
theorem body67 : Tryz.f67.body = some c67:=by kernel_rfl
noncomputable def c68 : Code:=(.seq (reg Tryz.f68 0) (.seq (reg Tryz.f68 1) (.seq (reg Tryz.f68 2) Code.ret)))
theorem body68 : Tryz.f68.body = some c68:=by kernel_rfl
noncomputable def b69_2 : Code:=(.seq (reg Tryz.f69 10) (.seq (.cond (Operand.tmp 81) Code.skip (Code.exit 2)) (.seq (.block 3 (.seq (reg Tryz.f69 11) (.seq (reg Tryz.f69 12) (.cond (Operand.tmp 94) (.seq (reg Tryz.f69 13) Code.ret) Code.skip)))) (reg Tryz.f69 14))))
noncomputable def b69_1 : Code:=(.seq (reg Tryz.f69 4) (.seq (.cond (Operand.tmp 44) Code.skip (Code.exit 0)) (.seq (.block 1 (.seq (reg Tryz.f69 5) (.seq (reg Tryz.f69 6) (.seq (.seq (reg Tryz.f69 7) (.cond (Operand.tmp 76) (.seq (reg Tryz.f69 8) Code.ret) Code.skip)) (.seq (reg Tryz.f69 9) (.block 2 (.loop b69_2))))))) (reg Tryz.f69 15))))
noncomputable def b69_3 : Code:=(.seq (reg Tryz.f69 17) (.seq (.cond (Operand.tmp 101) Code.skip (Code.exit 4)) (.seq (.block 5 (.seq (reg Tryz.f69 18) (.seq (reg Tryz.f69 19) (.cond (Operand.tmp 114) (.seq (reg Tryz.f69 20) Code.ret) Code.skip)))) (reg Tryz.f69 21))))
noncomputable def c69 : Code:=(.seq (reg Tryz.f69 0) (.seq (.seq (reg Tryz.f69 1) (.cond (Operand.tmp 39) (.seq (reg Tryz.f69 2) Code.ret) Code.skip)) (.seq (.seq (reg Tryz.f69 3) (.block 0 (.loop b69_1))) (.seq (.seq (reg Tryz.f69 16) (.block 4 (.loop b69_3))) (.seq (reg Tryz.f69 22) Code.ret)))))
theorem body69 : Tryz.f69.body = some c69:=by kernel_rfl
noncomputable def c70 : Code:=(.seq (reg Tryz.f70 0) (.seq (reg Tryz.f70 1) Code.ret))
theorem body70 : Tryz.f70.body = some c70:=by kernel_rfl
noncomputable def c71 : Code:=(.seq (reg Tryz.f71 0) (.seq (reg Tryz.f71 1) Code.ret))
theorem body71 : Tryz.f71.body = some c71:=by kernel_rfl
noncomputable def b72_1 : Code:=(.seq (reg Tryz.f72 4) (.seq (.cond (Operand.tmp 18) Code.skip (Code.exit 0)) (.seq (.block 1 (.seq (reg Tryz.f72 5) (.seq (reg Tryz.f72 6) (.seq (reg Tryz.f72 7) (.cond (Operand.tmp 30) (.seq (reg Tryz.f72 8) Code.ret) Code.skip))))) (reg Tryz.f72 9))))
noncomputable def c72 : Code:=(.seq (reg Tryz.f72 0) (.seq (.seq (reg Tryz.f72 1) (.cond (Operand.tmp 14) (.seq (reg Tryz.f72 2) Code.ret) Code.skip)) (.seq (.seq (reg Tryz.f72 3) (.block 0 (.loop b72_1))) (.seq (reg Tryz.f72 10) Code.ret))))
theorem body72 : Tryz.f72.body = some c72:=by kernel_rfl
noncomputable def c73 : Code:=(.seq (reg Tryz.f73 0) (.seq (reg Tryz.f73 1) Code.ret))
theorem body73 : Tryz.f73.body = some c73:=by kernel_rfl
noncomputable def c74 : Code:=(.seq (reg Tryz.f74 0) (.seq (reg Tryz.f74 1) Code.ret))
theorem body74 : Tryz.f74.body = some c74:=by kernel_rfl
noncomputable def c75 : Code:=(.seq (reg Tryz.f75 0) (.seq (reg Tryz.f75 1) Code.ret))
theorem body75 : Tryz.f75.body = some c75:=by kernel_rfl
noncomputable def b76_1 : Code:=(.seq (reg Tryz.f76 4) (.seq (.cond (Operand.tmp 18) Code.skip (Code.exit 0)) (.seq (.block 1 (.seq (reg Tryz.f76 5) (.seq (reg Tryz.f76 6) (.seq (reg Tryz.f76 7) (.cond (Operand.tmp 30) (.seq (reg Tryz.f76 8) Code.ret) Code.skip))))) (reg Tryz.f76 9))))
noncomputable def c76 : Code:=(.seq (reg Tryz.f76 0) (.seq (.seq (reg Tryz.f76 1) (.cond (Operand.tmp 14) (.seq (reg Tryz.f76 2) Code.ret) Code.skip)) (.seq (.seq (reg Tryz.f76 3) (.block 0 (.loop b76_1))) (.seq (reg Tryz.f76 10) Code.ret))))
theorem body76 : Tryz.f76.body = some c76:=by kernel_rfl
noncomputable def b77_1 : Code:=(.seq (reg Tryz.f77 4) (.seq (.cond (Operand.tmp 18) Code.skip (Code.exit 0)) (.seq (.block 1 (.seq (reg Tryz.f77 5) (.seq (reg Tryz.f77 6) (.seq (reg Tryz.f77 7) (.cond (Operand.tmp 30) (.seq (reg Tryz.f77 8) Code.ret) Code.skip))))) (reg Tryz.f77 9))))
noncomputable def c77 : Code:=(.seq (reg Tryz.f77 0) (.seq (.seq (reg Tryz.f77 1) (.cond (Operand.tmp 14) (.seq (reg Tryz.f77 2) Code.ret) Code.skip)) (.seq (.seq (reg Tryz.f77 3) (.block 0 (.loop b77_1))) (.seq (reg Tryz.f77 10) Code.ret))))
theorem body77 : Tryz.f77.body = some c77:=by kernel_rfl
noncomputable def b78_1 : Code:=(.seq (reg Tryz.f78 4) (.seq (.cond (Operand.tmp 18) Code.skip (Code.exit 0)) (.seq (.block 1 (.seq (reg Tryz.f78 5) (.seq (reg Tryz.f78 6) (.seq (reg Tryz.f78 7) (.cond (Operand.tmp 30) (.seq (reg Tryz.f78 8) Code.ret) Code.skip))))) (reg Tryz.f78 9))))
noncomputable def c78 : Code:=(.seq (reg Tryz.f78 0) (.seq (.seq (reg Tryz.f78 1) (.cond (Operand.tmp 14) (.seq (reg Tryz.f78 2) Code.ret) Code.skip)) (.seq (.seq (reg Tryz.f78 3) (.block 0 (.loop b78_1))) (.seq (reg Tryz.f78 10) Code.ret))))
theorem body78 : Tryz.f78.body = some c78:=by kernel_rfl
noncomputable def b79_1 : Code:=(.seq (reg Tryz.f79 3) (.seq (.cond (Operand.tmp 7) Code.skip (Code.exit 0)) (.seq (.block 1 (.seq (reg Tryz.f79 4) (.seq (reg Tryz.f79 5) (reg Tryz.f79 6)))) (reg Tryz.f79 7))))
noncomputable def c79 : Code:=(.seq (reg Tryz.f79 0) (.seq (reg Tryz.f79 1) (.seq (.seq (reg Tryz.f79 2) (.block 0 (.loop b79_1))) (.seq (reg Tryz.f79 8) Code.ret))))
theorem body79 : Tryz.f79.body = some c79:=by kernel_rfl
noncomputable def c80 : Code:=(.seq (reg Tryz.f80 0) (.seq (.block 0 (.seq (reg Tryz.f80 1) (.cond (Operand.tmp 3) (.seq (reg Tryz.f80 2) Code.ret) (.seq (.seq (reg Tryz.f80 3) (.cond (Operand.tmp 12) Code.skip (reg Tryz.f80 4))) (.cond (Operand.tmp 12) (.seq (reg Tryz.f80 5) Code.ret) (.seq (reg Tryz.f80 6) (.cond (Operand.tmp 35) (.seq (reg Tryz.f80 7) Code.ret) (.seq (reg Tryz.f80 8) (.cond (Operand.tmp 40) (.seq (reg Tryz.f80 9) Code.ret) Code.skip))))))))) (.seq (reg Tryz.f80 10) Code.ret)))
theorem body80 : Tryz.f80.body = some c80:=by kernel_rfl
noncomputable def c81 : Code:=(.seq (reg Tryz.f81 0) (.seq (.seq (reg Tryz.f81 1) (.block 0 (.seq (reg Tryz.f81 2) (.cond (Operand.tmp 5) (.seq (reg Tryz.f81 3) Code.ret) (.seq (reg Tryz.f81 4) (.cond (Operand.tmp 16) (.seq (reg Tryz.f81 5) Code.ret) Code.skip)))))) (.seq (reg Tryz.f81 6) Code.ret)))
theorem body81 : Tryz.f81.body = some c81:=by kernel_rfl
noncomputable def c82 : Code:=(.seq (reg Tryz.f82 0) (.seq (reg Tryz.f82 1) (.seq (.seq (reg Tryz.f82 2) (.cond (Operand.tmp 15) (.seq (reg Tryz.f82 3) Code.ret) Code.skip)) (.seq (reg Tryz.f82 4) (.seq (.seq (reg Tryz.f82 5) (.block 0 (.seq (reg Tryz.f82 6) (.cond (Operand.tmp 21) (.seq (.seq (reg Tryz.f82 7) (.cond (Operand.tmp 35) (.seq (reg Tryz.f82 8) Code.ret) Code.skip)) (.seq (reg Tryz.f82 9) (reg Tryz.f82 10))) (.seq (reg Tryz.f82 11) (.cond (Operand.tmp 51) (.seq (.seq (reg Tryz.f82 12) (.cond (Operand.tmp 55) (.seq (reg Tryz.f82 13) Code.ret) Code.skip)) (.seq (reg Tryz.f82 14) (.seq (reg Tryz.f82 15) (.cond (Operand.tmp 74) (.seq (reg Tryz.f82 16) Code.ret) Code.skip)))) Code.skip)))))) (.seq (reg Tryz.f82 17) Code.ret))))))
theorem body82 : Tryz.f82.body = some c82:=by kernel_rfl
noncomputable def b83_1 : Code:=(.seq (reg Tryz.f83 5) (.seq (.cond (Operand.tmp 27) Code.skip (Code.exit 0)) (.seq (.block 1 (.seq (reg Tryz.f83 6) (reg Tryz.f83 7))) (reg Tryz.f83 8))))
noncomputable def c83 : Code:=(.seq (reg Tryz.f83 0) (.seq (.seq (reg Tryz.f83 1) (.cond (Operand.tmp 23) (.seq (reg Tryz.f83 2) Code.ret) Code.skip)) (.seq (reg Tryz.f83 3) (.seq (.seq (reg Tryz.f83 4) (.block 0 (.loop b83_1))) (.seq (reg Tryz.f83 9) Code.ret)))))
theorem body83 : Tryz.f83.body = some c83:=by kernel_rfl
noncomputable def c84 : Code:=(.seq (reg Tryz.f84 0) (.seq (reg Tryz.f84 1) (.seq (reg Tryz.f84 2) Code.ret)))
theorem body84 : Tryz.f84.body = some c84:=by kernel_rfl
noncomputable def b85_1 : Code:=(.seq (reg Tryz.f85 4) (.seq (.cond (Operand.tmp 23) Code.skip (Code.exit 0)) (.seq (.block 1 (.seq (reg Tryz.f85 5) (.seq (reg Tryz.f85 6) (.cond (Operand.tmp 34) (.seq (reg Tryz.f85 7) Code.ret) Code.skip)))) (reg Tryz.f85 8))))
noncomputable def b85_3 : Code:=(.seq (reg Tryz.f85 15) (.seq (.cond (Operand.tmp 51) Code.skip (Code.exit 4)) (.seq (.block 5 (.seq (reg Tryz.f85 16) (.seq (reg Tryz.f85 17) (.cond (Operand.tmp 56) (.seq (reg Tryz.f85 18) Code.ret) Code.skip)))) (reg Tryz.f85 19))))
noncomputable def b85_2 : Code:=(.seq (reg Tryz.f85 10) (.seq (.cond (Operand.tmp 40) Code.skip (Code.exit 2)) (.seq (.block 3 (.seq (reg Tryz.f85 11) (.seq (.seq (reg Tryz.f85 12) (.cond (Operand.tmp 46) (.seq (reg Tryz.f85 13) Code.ret) Code.skip)) (.seq (reg Tryz.f85 14) (.block 4 (.loop b85_3)))))) (reg Tryz.f85 20))))
noncomputable def c85 : Code:=(.seq (reg Tryz.f85 0) (.seq (.seq (reg Tryz.f85 1) (.cond (Operand.tmp 18) (.seq (reg Tryz.f85 2) Code.ret) Code.skip)) (.seq (.seq (reg Tryz.f85 3) (.block 0 (.loop b85_1))) (.seq (.seq (reg Tryz.f85 9) (.block 2 (.loop b85_2))) (.seq (reg Tryz.f85 21) Code.ret)))))
theorem body85 : Tryz.f85.body = some c85:=by kernel_rfl
noncomputable def b86_1 : Code:=(.seq (reg Tryz.f86 3) (.seq (.cond (Operand.tmp 9) Code.skip (Code.exit 0)) (.seq (.block 1 (.seq (reg Tryz.f86 4) (.seq (.seq (reg Tryz.f86 5) (.cond (Operand.tmp 16) (.seq (reg Tryz.f86 6) Code.ret) Code.skip)) (reg Tryz.f86 7)))) (reg Tryz.f86 8))))
noncomputable def c86 : Code:=(.seq (reg Tryz.f86 0) (.seq (reg Tryz.f86 1) (.seq (.seq (reg Tryz.f86 2) (.block 0 (.loop b86_1))) (.seq (reg Tryz.f86 9) Code.ret))))
theorem body86 : Tryz.f86.body = some c86:=by kernel_rfl
noncomputable def c87 : Code:=(.seq (reg Tryz.f87 0) (.seq (reg Tryz.f87 1) Code.ret))
theorem body87 : Tryz.f87.body = some c87:=by kernel_rfl
noncomputable def b88_1 : Code:=(.seq (reg Tryz.f88 3) (.seq (.cond (Operand.tmp 10) Code.skip (Code.exit 0)) (.seq (.block 1 (.seq (reg Tryz.f88 4) (.seq (.seq (reg Tryz.f88 5) (.cond (Operand.tmp 24) (.seq (reg Tryz.f88 6) Code.ret) Code.skip)) (reg Tryz.f88 7)))) (reg Tryz.f88 8))))
noncomputable def c88 : Code:=(.seq (reg Tryz.f88 0) (.seq (reg Tryz.f88 1) (.seq (.seq (reg Tryz.f88 2) (.block 0 (.loop b88_1))) (.seq (reg Tryz.f88 9) Code.ret))))
theorem body88 : Tryz.f88.body = some c88:=by kernel_rfl
noncomputable def c89 : Code:=(.seq (reg Tryz.f89 0) (.seq (.seq (reg Tryz.f89 1) (.cond (Operand.tmp 4) (.seq (reg Tryz.f89 2) Code.ret) Code.skip)) (.seq (reg Tryz.f89 3) Code.ret)))
theorem body89 : Tryz.f89.body = some c89:=by kernel_rfl
noncomputable def c90 : Code:=(.seq (reg Tryz.f90 0) (.seq (.seq (reg Tryz.f90 1) (.cond (Operand.tmp 4) (.seq (reg Tryz.f90 2) Code.ret) Code.skip)) (.seq (reg Tryz.f90 3) Code.ret)))
theorem body90 : Tryz.f90.body = some c90:=by kernel_rfl
noncomputable def b91_1 : Code:=(.seq (reg Tryz.f91 3) (.seq (.cond (Operand.tmp 10) Code.skip (Code.exit 0)) (.seq (.block 1 (.seq (reg Tryz.f91 4) (reg Tryz.f91 5))) (reg Tryz.f91 6))))
noncomputable def c91 : Code:=(.seq (reg Tryz.f91 0) (.seq (reg Tryz.f91 1) (.seq (.seq (reg Tryz.f91 2) (.block 0 (.loop b91_1))) (.seq (reg Tryz.f91 7) Code.ret))))
theorem body91 : Tryz.f91.body = some c91:=by kernel_rfl
noncomputable def b92_1 : Code:=(.seq (reg Tryz.f92 4) (.seq (.cond (Operand.tmp 23) Code.skip (Code.exit 0)) (.seq (.block 1 (.seq (reg Tryz.f92 5) (.seq (reg Tryz.f92 6) (.cond (Operand.tmp 34) (.seq (reg Tryz.f92 7) Code.ret) Code.skip)))) (reg Tryz.f92 8))))
noncomputable def b92_3 : Code:=(.seq (reg Tryz.f92 15) (.seq (.cond (Operand.tmp 51) Code.skip (Code.exit 4)) (.seq (.block 5 (.seq (reg Tryz.f92 16) (.seq (reg Tryz.f92 17) (.cond (Operand.tmp 56) (.seq (reg Tryz.f92 18) Code.ret) Code.skip)))) (reg Tryz.f92 19))))
noncomputable def b92_2 : Code:=(.seq (reg Tryz.f92 10) (.seq (.cond (Operand.tmp 40) Code.skip (Code.exit 2)) (.seq (.block 3 (.seq (reg Tryz.f92 11) (.seq (.seq (reg Tryz.f92 12) (.cond (Operand.tmp 46) (.seq (reg Tryz.f92 13) Code.ret) Code.skip)) (.seq (reg Tryz.f92 14) (.block 4 (.loop b92_3)))))) (reg Tryz.f92 20))))
noncomputable def c92 : Code:=(.seq (reg Tryz.f92 0) (.seq (.seq (reg Tryz.f92 1) (.cond (Operand.tmp 18) (.seq (reg Tryz.f92 2) Code.ret) Code.skip)) (.seq (.seq (reg Tryz.f92 3) (.block 0 (.loop b92_1))) (.seq (.seq (reg Tryz.f92 9) (.block 2 (.loop b92_2))) (.seq (reg Tryz.f92 21) Code.ret)))))
theorem body92 : Tryz.f92.body = some c92:=by kernel_rfl
noncomputable def c93 : Code:=(.seq (reg Tryz.f93 0) (.seq (reg Tryz.f93 1) Code.ret))
theorem body93 : Tryz.f93.body = some c93:=by kernel_rfl
noncomputable def c94 : Code:=(.seq (reg Tryz.f94 0) (.seq (reg Tryz.f94 1) Code.ret))
theorem body94 : Tryz.f94.body = some c94:=by kernel_rfl
noncomputable def c95 : Code:=(.seq (reg Tryz.f95 0) (.seq (reg Tryz.f95 1) Code.ret))
theorem body95 : Tryz.f95.body = some c95:=by kernel_rfl
noncomputable def c96 : Code:=(.seq (reg Tryz.f96 0) (.seq (reg Tryz.f96 1) Code.ret))
theorem body96 : Tryz.f96.body = some c96:=by kernel_rfl
noncomputable def b97_1 : Code:=(.seq (reg Tryz.f97 4) (.seq (.cond (Operand.tmp 10) Code.skip (Code.exit 0)) (.seq (.block 1 (.seq (reg Tryz.f97 5) (reg Tryz.f97 6))) (reg Tryz.f97 7))))
noncomputable def c97 : Code:=(.seq (reg Tryz.f97 0) (.seq (reg Tryz.f97 1) (.seq (reg Tryz.f97 2) (.seq (.seq (reg Tryz.f97 3) (.block 0 (.loop b97_1))) (.seq (reg Tryz.f97 8) Code.ret)))))
theorem body97 : Tryz.f97.body = some c97:=by kernel_rfl
noncomputable def c98 : Code:=(.seq (reg Tryz.f98 0) (.seq (reg Tryz.f98 1) Code.ret))
theorem body98 : Tryz.f98.body = some c98:=by kernel_rfl
noncomputable def c99 : Code:=(.seq (reg Tryz.f99 0) (.seq (reg Tryz.f99 1) Code.ret))
theorem body99 : Tryz.f99.body = some c99:=by kernel_rfl
noncomputable def c100 : Code:=(.seq (reg Tryz.f100 0) (.seq (reg Tryz.f100 1) Code.ret))
theorem body100 : Tryz.f100.body = some c100:=by kernel_rfl
noncomputable def b101_1 : Code:=(.seq (reg Tryz.f101 3) (.seq (.cond (Operand.tmp 9) Code.skip (Code.exit 0)) (.seq (.block 1 (.seq (reg Tryz.f101 4) (reg Tryz.f101 5))) (reg Tryz.f101 6))))
noncomputable def c101 : Code:=(.seq (reg Tryz.f101 0) (.seq (reg Tryz.f101 1) (.seq (.seq (reg Tryz.f101 2) (.block 0 (.loop b101_1))) (.seq (reg Tryz.f101 7) Code.ret))))
theorem body101 : Tryz.f101.body = some c101:=by kernel_rfl
noncomputable def c102 : Code:=(.seq (reg Tryz.f102 0) (.seq (reg Tryz.f102 1) Code.ret))
theorem body102 : Tryz.f102.body = some c102:=by kernel_rfl
noncomputable def b103_1 : Code:=(.seq (reg Tryz.f103 4) (.seq (.cond (Operand.tmp 28) Code.skip (Code.exit 0)) (.seq (.block 1 (.seq (reg Tryz.f103 5) (.seq (reg Tryz.f103 6) (reg Tryz.f103 7)))) (reg Tryz.f103 8))))
noncomputable def b103_2 : Code:=(.seq (reg Tryz.f103 11) (.seq (.cond (Operand.tmp 53) Code.skip (Code.exit 2)) (.seq (.block 3 (.seq (reg Tryz.f103 12) (.seq (reg Tryz.f103 13) (reg Tryz.f103 14)))) (reg Tryz.f103 15))))
noncomputable def b103_4 : Code:=(.seq (reg Tryz.f103 24) (.seq (.cond (Operand.tmp 94) Code.skip (Code.exit 6)) (.seq (.block 7 (.seq (reg Tryz.f103 25) (reg Tryz.f103 26))) (reg Tryz.f103 27))))
noncomputable def b103_3 : Code:=(.seq (reg Tryz.f103 20) (.seq (.cond (Operand.tmp 80) Code.skip (Code.exit 4)) (.seq (.block 5 (.seq (reg Tryz.f103 21) (.seq (reg Tryz.f103 22) (.seq (reg Tryz.f103 23) (.block 6 (.loop b103_4)))))) (reg Tryz.f103 28))))
noncomputable def c103 : Code:=(.seq (reg Tryz.f103 0) (.seq (reg Tryz.f103 1) (.seq (reg Tryz.f103 2) (.seq (.seq (reg Tryz.f103 3) (.block 0 (.loop b103_1))) (.seq (reg Tryz.f103 9) (.seq (.seq (reg Tryz.f103 10) (.block 2 (.loop b103_2))) (.seq (reg Tryz.f103 16) (.seq (.seq (reg Tryz.f103 17) (.cond (Operand.tmp 74) (.seq (reg Tryz.f103 18) Code.ret) Code.skip)) (.seq (.seq (reg Tryz.f103 19) (.block 4 (.loop b103_3))) (.seq (reg Tryz.f103 29) Code.ret))))))))))
theorem body103 : Tryz.f103.body = some c103:=by kernel_rfl
noncomputable def c104 : Code:=(.seq (reg Tryz.f104 0) (.seq (.seq (reg Tryz.f104 1) (.cond (Operand.tmp 4) (.seq (reg Tryz.f104 2) Code.ret) Code.skip)) (.seq (reg Tryz.f104 3) Code.ret)))
theorem body104 : Tryz.f104.body = some c104:=by kernel_rfl
noncomputable def b105_1 : Code:=(.seq (reg Tryz.f105 4) (.seq (.cond (Operand.tmp 27) Code.skip (Code.exit 0)) (.seq (.block 1 (.seq (reg Tryz.f105 5) (reg Tryz.f105 6))) (reg Tryz.f105 7))))
noncomputable def b105_2 : Code:=(.seq (reg Tryz.f105 10) (.seq (.cond (Operand.tmp 49) Code.skip (Code.exit 2)) (.seq (.block 3 (.seq (reg Tryz.f105 11) (reg Tryz.f105 12))) (reg Tryz.f105 13))))
noncomputable def b105_4 : Code:=(.seq (reg Tryz.f105 21) (.seq (.cond (Operand.tmp 80) Code.skip (Code.exit 6)) (.seq (.block 7 (.seq (reg Tryz.f105 22) (reg Tryz.f105 23))) (reg Tryz.f105 24))))
noncomputable def b105_3 : Code:=(.seq (reg Tryz.f105 16) (.seq (.cond (Operand.tmp 65) Code.skip (Code.exit 4)) (.seq (.block 5 (.seq (reg Tryz.f105 17) (.seq (.seq (reg Tryz.f105 18) (.cond (Operand.tmp 69) (Code.exit 4) Code.skip)) (.seq (reg Tryz.f105 19) (.seq (reg Tryz.f105 20) (.block 6 (.loop b105_4))))))) (reg Tryz.f105 25))))
noncomputable def c105 : Code:=(.seq (reg Tryz.f105 0) (.seq (reg Tryz.f105 1) (.seq (reg Tryz.f105 2) (.seq (.seq (reg Tryz.f105 3) (.block 0 (.loop b105_1))) (.seq (reg Tryz.f105 8) (.seq (.seq (reg Tryz.f105 9) (.block 2 (.loop b105_2))) (.seq (reg Tryz.f105 14) (.seq (.seq (reg Tryz.f105 15) (.block 4 (.loop b105_3))) (.seq (reg Tryz.f105 26) Code.ret)))))))))
theorem body105 : Tryz.f105.body = some c105:=by kernel_rfl
noncomputable def c107 : Code:=(.seq (reg Tryz.f107 0) (.seq (reg Tryz.f107 1) Code.ret))
theorem body107 : Tryz.f107.body = some c107:=by kernel_rfl
noncomputable def c108 : Code:=(.seq (reg Tryz.f108 0) (.seq (.block 0 (.seq (reg Tryz.f108 1) (.cond (Operand.tmp 5) (.seq (reg Tryz.f108 2) Code.ret) (.seq (reg Tryz.f108 3) (.cond (Operand.tmp 13) (.seq (reg Tryz.f108 4) Code.ret) (.seq (reg Tryz.f108 5) (.cond (Operand.tmp 22) (.seq (reg Tryz.f108 6) Code.ret) Code.skip))))))) (.seq (reg Tryz.f108 7) Code.ret)))
theorem body108 : Tryz.f108.body = some c108:=by kernel_rfl
noncomputable def c109 : Code:=(.seq (reg Tryz.f109 0) (.seq (reg Tryz.f109 1) Code.ret))
theorem body109 : Tryz.f109.body = some c109:=by kernel_rfl
noncomputable def c110 : Code:=(.seq (reg Tryz.f110 0) (.seq (reg Tryz.f110 1) Code.ret))
theorem body110 : Tryz.f110.body = some c110:=by kernel_rfl
noncomputable def c111 : Code:=(.seq (reg Tryz.f111 0) (.seq (reg Tryz.f111 1) Code.ret))
theorem body111 : Tryz.f111.body = some c111:=by kernel_rfl
noncomputable def c112 : Code:=(.seq (reg Tryz.f112 0) (.seq (reg Tryz.f112 1) Code.ret))
theorem body112 : Tryz.f112.body = some c112:=by kernel_rfl
noncomputable def c113 : Code:=(.seq (reg Tryz.f113 0) (.seq (.block 0 (.seq (reg Tryz.f113 1) (.cond (Operand.tmp 5) (.seq (reg Tryz.f113 2) Code.ret) (.seq (reg Tryz.f113 3) (.cond (Operand.tmp 12) (.seq (reg Tryz.f113 4) Code.ret) (.seq (reg Tryz.f113 5) (.cond (Operand.tmp 21) (.seq (reg Tryz.f113 6) Code.ret) Code.skip))))))) (.seq (reg Tryz.f113 7) Code.ret)))
theorem body113 : Tryz.f113.body = some c113:=by kernel_rfl
noncomputable def c114 : Code:=(.seq (reg Tryz.f114 0) (.seq (reg Tryz.f114 1) Code.ret))
theorem body114 : Tryz.f114.body = some c114:=by kernel_rfl
noncomputable def c115 : Code:=(.seq (reg Tryz.f115 0) (.seq (reg Tryz.f115 1) Code.ret))
theorem body115 : Tryz.f115.body = some c115:=by kernel_rfl
noncomputable def c116 : Code:=(.seq (reg Tryz.f116 0) (.seq (reg Tryz.f116 1) Code.ret))
theorem body116 : Tryz.f116.body = some c116:=by kernel_rfl
noncomputable def c117 : Code:=(.seq (reg Tryz.f117 0) (.seq (reg Tryz.f117 1) (.seq (reg Tryz.f117 2) (.seq (reg Tryz.f117 3) Code.ret))))
theorem body117 : Tryz.f117.body = some c117:=by kernel_rfl
noncomputable def b118_1 : Code:=(.seq (reg Tryz.f118 3) (.seq (.cond (Operand.tmp 11) Code.skip (Code.exit 0)) (.seq (.block 1 (.seq (reg Tryz.f118 4) (reg Tryz.f118 5))) (reg Tryz.f118 6))))
noncomputable def c118 : Code:=(.seq (reg Tryz.f118 0) (.seq (reg Tryz.f118 1) (.seq (.seq (reg Tryz.f118 2) (.block 0 (.loop b118_1))) (.seq (reg Tryz.f118 7) Code.ret))))
theorem body118 : Tryz.f118.body = some c118:=by kernel_rfl
noncomputable def c119 : Code:=(.seq (reg Tryz.f119 0) (.seq (reg Tryz.f119 1) Code.ret))
theorem body119 : Tryz.f119.body = some c119:=by kernel_rfl
noncomputable def c120 : Code:=(.seq (reg Tryz.f120 0) (.seq (reg Tryz.f120 1) Code.ret))
theorem body120 : Tryz.f120.body = some c120:=by kernel_rfl
noncomputable def b121_1 : Code:=(.seq (reg Tryz.f121 3) (.seq (.cond (Operand.tmp 12) Code.skip (Code.exit 0)) (.seq (.block 1 (.seq (reg Tryz.f121 4) (reg Tryz.f121 5))) (reg Tryz.f121 6))))
noncomputable def c121 : Code:=(.seq (reg Tryz.f121 0) (.seq (reg Tryz.f121 1) (.seq (.seq (reg Tryz.f121 2) (.block 0 (.loop b121_1))) (.seq (reg Tryz.f121 7) Code.ret))))
theorem body121 : Tryz.f121.body = some c121:=by kernel_rfl
noncomputable def c122 : Code:=(.seq (reg Tryz.f122 0) (.seq (reg Tryz.f122 1) Code.ret))
theorem body122 : Tryz.f122.body = some c122:=by kernel_rfl
noncomputable def c123 : Code:=(.seq (reg Tryz.f123 0) (.seq (reg Tryz.f123 1) Code.ret))
theorem body123 : Tryz.f123.body = some c123:=by kernel_rfl
end Go.Proofs.YtbjhgolpnjokbaaGreat
