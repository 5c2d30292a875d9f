import Derived.Test.YthpkpciceodioaaGreatDoorTt
namespace Go.Proofs.YthpkpciceodioaaGreatDoor
open Go.Av
set_option maxRecDepth 1000000

noncomputable def c3 : Code:=(.seq (reg Tryz.f3 0) (.seq (.seq (reg Tryz.f3 1) (.cond (Operand.tmp 8) (.seq (reg Tryz.f3 2) Code.ret) Code.skip)) (.seq (.seq (reg Tryz.f3 3) (.cond (Operand.tmp 11) (.seq (reg Tryz.f3 4) Code.ret) Code.skip)) (.seq (reg Tryz.f3 5) (.seq (reg Tryz.f3 6) (.seq (reg Tryz.f3 7) Code.ret))))))
theorem body3 : Tryz.f3.body = some c3:=by kernel_rfl

noncomputable def c4 : Code:=(.seq (reg Tryz.f4 0) (.seq (.seq (reg Tryz.f4 1) (.cond (Operand.tmp 12) (.seq (reg Tryz.f4 2) Code.ret) Code.skip)) (.seq (.seq (reg Tryz.f4 3) (.cond (Operand.tmp 21) (.seq (reg Tryz.f4 4) Code.ret) Code.skip)) (.seq (reg Tryz.f4 5) (.seq (reg Tryz.f4 6) (.seq (reg Tryz.f4 7) Code.ret))))))
theorem body4 : Tryz.f4.body = some c4:=by kernel_rfl

noncomputable def b5_3 : Code:=(.seq (reg Tryz.f5 15) (.seq (.cond (Operand.tmp 56) Code.skip (Code.exit 4)) (.seq (.block 5 (.seq (reg Tryz.f5 16) (.seq (reg Tryz.f5 17) (.seq (reg Tryz.f5 18) (.cond (Operand.tmp 73) (.seq (reg Tryz.f5 19) Code.ret) Code.skip))))) (reg Tryz.f5 20))))
noncomputable def b5_4 : Code:=(.seq (reg Tryz.f5 22) (.seq (.cond (Operand.tmp 79) Code.skip (Code.exit 6)) (.seq (.block 7 (.seq (reg Tryz.f5 23) (.seq (reg Tryz.f5 24) (.seq (reg Tryz.f5 25) (.cond (Operand.tmp 101) (.seq (reg Tryz.f5 26) Code.ret) Code.skip))))) (reg Tryz.f5 27))))
noncomputable def b5_2 : Code:=(.seq (reg Tryz.f5 12) (.seq (.cond (Operand.tmp 48) Code.skip (Code.exit 2)) (.seq (.block 3 (.seq (reg Tryz.f5 13) (.seq (.seq (reg Tryz.f5 14) (.block 4 (.loop b5_3))) (.seq (reg Tryz.f5 21) (.block 6 (.loop b5_4)))))) (reg Tryz.f5 28))))
noncomputable def b5_1 : Code:=(.seq (reg Tryz.f5 5) (.seq (.cond (Operand.tmp 31) Code.skip (Code.exit 0)) (.seq (.block 1 (.seq (reg Tryz.f5 6) (.seq (reg Tryz.f5 7) (.seq (.seq (reg Tryz.f5 8) (.cond (Operand.tmp 40) (.seq (reg Tryz.f5 9) Code.ret) Code.skip)) (.seq (reg Tryz.f5 10) (.seq (reg Tryz.f5 11) (.block 2 (.loop b5_2)))))))) (reg Tryz.f5 29))))
noncomputable def c5 : Code:=(.seq (reg Tryz.f5 0) (.seq (.seq (reg Tryz.f5 1) (.cond (Operand.tmp 22) (.seq (reg Tryz.f5 2) Code.ret) Code.skip)) (.seq (reg Tryz.f5 3) (.seq (.seq (reg Tryz.f5 4) (.block 0 (.loop b5_1))) (.seq (reg Tryz.f5 30) Code.ret)))))
theorem body5 : Tryz.f5.body = some c5:=by kernel_rfl

noncomputable def b6_4 : Code:=(.seq (reg Tryz.f6 20) (.seq (.cond (Operand.tmp 73) Code.skip (Code.exit 6)) (.seq (.block 7 (.seq (reg Tryz.f6 21) (.seq (reg Tryz.f6 22) (.cond (Operand.tmp 88) (.seq (reg Tryz.f6 23) Code.ret) Code.skip)))) (reg Tryz.f6 24))))
noncomputable def b6_3 : Code:=(.seq (reg Tryz.f6 17) (.seq (.cond (Operand.tmp 66) Code.skip (Code.exit 4)) (.seq (.block 5 (.seq (reg Tryz.f6 18) (.seq (reg Tryz.f6 19) (.block 6 (.loop b6_4))))) (reg Tryz.f6 25))))
noncomputable def b6_2 : Code:=(.seq (reg Tryz.f6 11) (.seq (.cond (Operand.tmp 47) Code.skip (Code.exit 2)) (.seq (.block 3 (.seq (reg Tryz.f6 12) (.seq (reg Tryz.f6 13) (.seq (.seq (reg Tryz.f6 14) (.cond (Operand.tmp 61) (.seq (reg Tryz.f6 15) Code.ret) Code.skip)) (.seq (reg Tryz.f6 16) (.block 4 (.loop b6_3))))))) (reg Tryz.f6 26))))
noncomputable def b6_1 : Code:=(.seq (reg Tryz.f6 7) (.seq (.cond (Operand.tmp 33) Code.skip (Code.exit 0)) (.seq (.block 1 (.seq (reg Tryz.f6 8) (.seq (reg Tryz.f6 9) (.seq (reg Tryz.f6 10) (.block 2 (.loop b6_2)))))) (reg Tryz.f6 27))))
noncomputable def c6 : Code:=(.seq (reg Tryz.f6 0) (.seq (.seq (reg Tryz.f6 1) (.cond (Operand.tmp 21) (.seq (reg Tryz.f6 2) Code.ret) Code.skip)) (.seq (.seq (reg Tryz.f6 3) (.cond (Operand.tmp 24) (.seq (reg Tryz.f6 4) Code.ret) Code.skip)) (.seq (reg Tryz.f6 5) (.seq (.seq (reg Tryz.f6 6) (.block 0 (.loop b6_1))) (.seq (reg Tryz.f6 28) Code.ret))))))
theorem body6 : Tryz.f6.body = some c6:=by kernel_rfl

noncomputable def c7 : Code:=(.seq (reg Tryz.f7 0) (.seq (.seq (reg Tryz.f7 1) (.cond (Operand.tmp 14) (.seq (reg Tryz.f7 2) Code.ret) Code.skip)) (.seq (.seq (reg Tryz.f7 3) (.cond (Operand.tmp 23) (.seq (reg Tryz.f7 4) Code.ret) Code.skip)) (.seq (.seq (reg Tryz.f7 5) (.seq (reg Tryz.f7 6) (.cond (Operand.tmp 30) (.seq (reg Tryz.f7 7) (.seq (reg Tryz.f7 8) (.cond (Operand.tmp 43) (.seq (reg Tryz.f7 9) Code.ret) Code.skip))) Code.skip))) (.seq (reg Tryz.f7 10) (.seq (.seq (reg Tryz.f7 11) (.cond (Operand.tmp 50) (.seq (reg Tryz.f7 12) Code.ret) Code.skip)) (.seq (reg Tryz.f7 13) (.seq (reg Tryz.f7 14) Code.ret))))))))
theorem body7 : Tryz.f7.body = some c7:=by kernel_rfl

noncomputable def c8 : Code:=(.seq (reg Tryz.f8 0) (.seq (.seq (reg Tryz.f8 1) (.cond (Operand.tmp 18) (.seq (reg Tryz.f8 2) Code.ret) Code.skip)) (.seq (.seq (reg Tryz.f8 3) (.cond (Operand.tmp 27) (.seq (reg Tryz.f8 4) Code.ret) Code.skip)) (.seq (reg Tryz.f8 5) (.seq (reg Tryz.f8 6) (.seq (reg Tryz.f8 7) (.seq (reg Tryz.f8 8) (.seq (reg Tryz.f8 9) Code.ret))))))))
theorem body8 : Tryz.f8.body = some c8:=by kernel_rfl

noncomputable def c9 : Code:=(.seq (reg Tryz.f9 0) (.seq (reg Tryz.f9 1) (.seq (reg Tryz.f9 2) (.seq (reg Tryz.f9 3) (.seq (reg Tryz.f9 4) Code.ret)))))
theorem body9 : Tryz.f9.body = some c9:=by kernel_rfl

noncomputable def b10_1 : Code:=(.seq (reg Tryz.f10 4) (.seq (.cond (Operand.tmp 13) Code.skip (Code.exit 0)) (.seq (.block 1 (.seq (reg Tryz.f10 5) (.seq (reg Tryz.f10 6) (.cond (Operand.tmp 18) (.seq (reg Tryz.f10 7) Code.ret) Code.skip)))) (reg Tryz.f10 8))))
noncomputable def c10 : Code:=(.seq (reg Tryz.f10 0) (.seq (.seq (reg Tryz.f10 1) (.cond (Operand.tmp 8) (.seq (reg Tryz.f10 2) Code.ret) Code.skip)) (.seq (.seq (reg Tryz.f10 3) (.block 0 (.loop b10_1))) (.seq (reg Tryz.f10 9) Code.ret))))
theorem body10 : Tryz.f10.body = some c10:=by kernel_rfl

noncomputable def c11 : Code:=(.seq (reg Tryz.f11 0) (.seq (.seq (reg Tryz.f11 1) (.seq (reg Tryz.f11 2) (.cond (Operand.tmp 13) (.seq (reg Tryz.f11 3) Code.ret) Code.skip))) (.seq (reg Tryz.f11 4) (.seq (reg Tryz.f11 5) Code.ret))))
theorem body11 : Tryz.f11.body = some c11:=by kernel_rfl

noncomputable def c12 : Code:=(.seq (reg Tryz.f12 0) (.seq (.seq (reg Tryz.f12 1) (.cond (Operand.tmp 6) (.seq (reg Tryz.f12 2) Code.ret) Code.skip)) (.seq (reg Tryz.f12 3) Code.ret)))
theorem body12 : Tryz.f12.body = some c12:=by kernel_rfl

noncomputable def b13_1 : Code:=(.seq (reg Tryz.f13 4) (.seq (.cond (Operand.tmp 14) Code.skip (Code.exit 0)) (.seq (.block 1 (.seq (reg Tryz.f13 5) (.seq (reg Tryz.f13 6) (.cond (Operand.tmp 25) (.seq (reg Tryz.f13 7) Code.ret) Code.skip)))) (reg Tryz.f13 8))))
noncomputable def c13 : Code:=(.seq (reg Tryz.f13 0) (.seq (.seq (reg Tryz.f13 1) (.cond (Operand.tmp 10) (.seq (reg Tryz.f13 2) Code.ret) Code.skip)) (.seq (.seq (reg Tryz.f13 3) (.block 0 (.loop b13_1))) (.seq (reg Tryz.f13 9) Code.ret))))
theorem body13 : Tryz.f13.body = some c13:=by kernel_rfl

noncomputable def b14_2 : Code:=(.seq (reg Tryz.f14 6) (.seq (.cond (Operand.tmp 21) Code.skip (Code.exit 2)) (.seq (.block 3 (.seq (reg Tryz.f14 7) (.seq (reg Tryz.f14 8) (.cond (Operand.tmp 27) (reg Tryz.f14 9) Code.skip)))) (reg Tryz.f14 10))))
noncomputable def b14_3 : Code:=(.seq (reg Tryz.f14 13) (.seq (.cond (Operand.tmp 41) Code.skip (Code.exit 4)) (.seq (.block 5 (.seq (reg Tryz.f14 14) (reg Tryz.f14 15))) (reg Tryz.f14 16))))
noncomputable def b14_1 : Code:=(.seq (reg Tryz.f14 3) (.seq (.cond (Operand.tmp 14) Code.skip (Code.exit 0)) (.seq (.block 1 (.seq (reg Tryz.f14 4) (.seq (.seq (reg Tryz.f14 5) (.block 2 (.loop b14_2))) (.seq (.seq (reg Tryz.f14 11) (.cond (Operand.tmp 36) (Code.exit 1) Code.skip)) (.seq (reg Tryz.f14 12) (.block 4 (.loop b14_3))))))) (reg Tryz.f14 17))))
noncomputable def c14 : Code:=(.seq (reg Tryz.f14 0) (.seq (reg Tryz.f14 1) (.seq (.seq (reg Tryz.f14 2) (.block 0 (.loop b14_1))) (.seq (reg Tryz.f14 18) Code.ret))))
theorem body14 : Tryz.f14.body = some c14:=by kernel_rfl

noncomputable def b15_2 : Code:=(.seq (reg Tryz.f15 6) (.seq (.cond (Operand.tmp 21) Code.skip (Code.exit 2)) (.seq (.block 3 (.seq (reg Tryz.f15 7) (.seq (reg Tryz.f15 8) (.cond (Operand.tmp 27) (reg Tryz.f15 9) Code.skip)))) (reg Tryz.f15 10))))
noncomputable def b15_3 : Code:=(.seq (reg Tryz.f15 13) (.seq (.cond (Operand.tmp 42) Code.skip (Code.exit 4)) (.seq (.block 5 (.seq (reg Tryz.f15 14) (reg Tryz.f15 15))) (reg Tryz.f15 16))))
noncomputable def b15_1 : Code:=(.seq (reg Tryz.f15 3) (.seq (.cond (Operand.tmp 14) Code.skip (Code.exit 0)) (.seq (.block 1 (.seq (reg Tryz.f15 4) (.seq (.seq (reg Tryz.f15 5) (.block 2 (.loop b15_2))) (.seq (.seq (reg Tryz.f15 11) (.cond (Operand.tmp 37) (Code.exit 1) Code.skip)) (.seq (reg Tryz.f15 12) (.block 4 (.loop b15_3))))))) (reg Tryz.f15 17))))
noncomputable def c15 : Code:=(.seq (reg Tryz.f15 0) (.seq (reg Tryz.f15 1) (.seq (.seq (reg Tryz.f15 2) (.block 0 (.loop b15_1))) (.seq (reg Tryz.f15 18) Code.ret))))
theorem body15 : Tryz.f15.body = some c15:=by kernel_rfl

noncomputable def c16 : Code:=(.seq (reg Tryz.f16 0) (.seq (reg Tryz.f16 1) Code.ret))
theorem body16 : Tryz.f16.body = some c16:=by kernel_rfl

noncomputable def b17_1 : Code:=(.seq (reg Tryz.f17 4) (.seq (.cond (Operand.tmp 16) Code.skip (Code.exit 0)) (.seq (.block 1 (.seq (reg Tryz.f17 5) (.seq (reg Tryz.f17 6) (.cond (Operand.tmp 22) (.seq (reg Tryz.f17 7) Code.ret) Code.skip)))) (reg Tryz.f17 8))))
noncomputable def c17 : Code:=(.seq (reg Tryz.f17 0) (.seq (.seq (reg Tryz.f17 1) (.cond (Operand.tmp 12) (.seq (reg Tryz.f17 2) Code.ret) Code.skip)) (.seq (.seq (reg Tryz.f17 3) (.block 0 (.loop b17_1))) (.seq (reg Tryz.f17 9) Code.ret))))
theorem body17 : Tryz.f17.body = some c17:=by kernel_rfl

noncomputable def b18_1 : Code:=(.seq (reg Tryz.f18 3) (.seq (.cond (Operand.tmp 14) Code.skip (Code.exit 0)) (.seq (.block 1 (.seq (reg Tryz.f18 4) (.seq (reg Tryz.f18 5) (.cond (Operand.tmp 19) (reg Tryz.f18 6) Code.skip)))) (reg Tryz.f18 7))))
noncomputable def c18 : Code:=(.seq (reg Tryz.f18 0) (.seq (reg Tryz.f18 1) (.seq (.seq (reg Tryz.f18 2) (.block 0 (.loop b18_1))) (.seq (reg Tryz.f18 8) Code.ret))))
theorem body18 : Tryz.f18.body = some c18:=by kernel_rfl

noncomputable def b19_1 : Code:=(.seq (reg Tryz.f19 3) (.seq (.cond (Operand.tmp 14) Code.skip (Code.exit 0)) (.seq (.block 1 (.seq (reg Tryz.f19 4) (.seq (reg Tryz.f19 5) (.cond (Operand.tmp 19) (reg Tryz.f19 6) Code.skip)))) (reg Tryz.f19 7))))
noncomputable def c19 : Code:=(.seq (reg Tryz.f19 0) (.seq (reg Tryz.f19 1) (.seq (.seq (reg Tryz.f19 2) (.block 0 (.loop b19_1))) (.seq (reg Tryz.f19 8) Code.ret))))
theorem body19 : Tryz.f19.body = some c19:=by kernel_rfl

noncomputable def c20 : Code:=(.seq (reg Tryz.f20 0) (.seq (reg Tryz.f20 1) Code.ret))
theorem body20 : Tryz.f20.body = some c20:=by kernel_rfl

noncomputable def c21 : Code:=(.seq (reg Tryz.f21 0) (.seq (reg Tryz.f21 1) Code.ret))
theorem body21 : Tryz.f21.body = some c21:=by kernel_rfl

noncomputable def c22 : Code:=(.seq (reg Tryz.f22 0) (.seq (reg Tryz.f22 1) Code.ret))
theorem body22 : Tryz.f22.body = some c22:=by kernel_rfl

noncomputable def c23 : Code:=(.seq (reg Tryz.f23 0) (.seq (reg Tryz.f23 1) Code.ret))
theorem body23 : Tryz.f23.body = some c23:=by kernel_rfl

noncomputable def c24 : Code:=(.seq (reg Tryz.f24 0) (.seq (reg Tryz.f24 1) Code.ret))
theorem body24 : Tryz.f24.body = some c24:=by kernel_rfl

noncomputable def c25 : Code:=(.seq (reg Tryz.f25 0) (.seq (reg Tryz.f25 1) Code.ret))
theorem body25 : Tryz.f25.body = some c25:=by kernel_rfl

noncomputable def c26 : Code:=(.seq (reg Tryz.f26 0) (.seq (.seq (reg Tryz.f26 1) (.cond (Operand.tmp 17) (.seq (reg Tryz.f26 2) Code.ret) Code.skip)) (.seq (reg Tryz.f26 3) Code.ret)))
theorem body26 : Tryz.f26.body = some c26:=by kernel_rfl

noncomputable def c27 : Code:=(.seq (reg Tryz.f27 0) (.seq (reg Tryz.f27 1) (.seq (.seq (reg Tryz.f27 2) (.cond (Operand.tmp 16) (.seq (reg Tryz.f27 3) Code.ret) Code.skip)) (.seq (reg Tryz.f27 4) (.seq (.seq (reg Tryz.f27 5) (.cond (Operand.tmp 27) (.seq (reg Tryz.f27 6) Code.ret) Code.skip)) (.seq (.seq (reg Tryz.f27 7) (.seq (reg Tryz.f27 8) (.cond (Operand.tmp 34) (.seq (reg Tryz.f27 9) Code.ret) Code.skip))) (.seq (reg Tryz.f27 10) Code.ret)))))))
theorem body27 : Tryz.f27.body = some c27:=by kernel_rfl

noncomputable def c28 : Code:=(.seq (reg Tryz.f28 0) (.seq (.seq (reg Tryz.f28 1) (.cond (Operand.tmp 17) (.seq (reg Tryz.f28 2) Code.ret) Code.skip)) (.seq (reg Tryz.f28 3) Code.ret)))
theorem body28 : Tryz.f28.body = some c28:=by kernel_rfl

noncomputable def c29 : Code:=(.seq (reg Tryz.f29 0) (.seq (reg Tryz.f29 1) (.seq (.seq (reg Tryz.f29 2) (.cond (Operand.tmp 15) (.seq (reg Tryz.f29 3) Code.ret) Code.skip)) (.seq (reg Tryz.f29 4) (.seq (.seq (reg Tryz.f29 5) (.cond (Operand.tmp 26) (reg Tryz.f29 6) Code.skip)) (.seq (.seq (reg Tryz.f29 7) (.cond (Operand.tmp 31) (.seq (reg Tryz.f29 8) Code.ret) Code.skip)) (.seq (reg Tryz.f29 9) Code.ret)))))))
theorem body29 : Tryz.f29.body = some c29:=by kernel_rfl

noncomputable def c30 : Code:=(.seq (reg Tryz.f30 0) (.seq (reg Tryz.f30 1) (.seq (.seq (reg Tryz.f30 2) (.cond (Operand.tmp 11) (.seq (reg Tryz.f30 3) Code.ret) Code.skip)) (.seq (reg Tryz.f30 4) Code.ret))))
theorem body30 : Tryz.f30.body = some c30:=by kernel_rfl

noncomputable def c31 : Code:=(.seq (reg Tryz.f31 0) (.seq (reg Tryz.f31 1) (.seq (.seq (reg Tryz.f31 2) (.cond (Operand.tmp 11) (.seq (reg Tryz.f31 3) Code.ret) Code.skip)) (.seq (reg Tryz.f31 4) Code.ret))))
theorem body31 : Tryz.f31.body = some c31:=by kernel_rfl

noncomputable def c32 : Code:=(.seq (reg Tryz.f32 0) (.seq (reg Tryz.f32 1) Code.ret))
theorem body32 : Tryz.f32.body = some c32:=by kernel_rfl

noncomputable def c33 : Code:=(.seq (reg Tryz.f33 0) (.seq (reg Tryz.f33 1) Code.ret))
theorem body33 : Tryz.f33.body = some c33:=by kernel_rfl

noncomputable def b34_1 : Code:=(.seq (reg Tryz.f34 4) (.seq (.cond (Operand.tmp 21) Code.skip (Code.exit 0)) (.seq (.block 1 (.seq (reg Tryz.f34 5) (.seq (reg Tryz.f34 6) (.cond (Operand.tmp 27) (.seq (reg Tryz.f34 7) Code.ret) Code.skip)))) (reg Tryz.f34 8))))
noncomputable def b34_2 : Code:=(.seq (reg Tryz.f34 10) (.seq (.cond (Operand.tmp 33) Code.skip (Code.exit 2)) (.seq (.block 3 (.seq (reg Tryz.f34 11) (.seq (reg Tryz.f34 12) (.cond (Operand.tmp 39) (.seq (reg Tryz.f34 13) Code.ret) Code.skip)))) (reg Tryz.f34 14))))
noncomputable def c34 : Code:=(.seq (reg Tryz.f34 0) (.seq (.seq (reg Tryz.f34 1) (.cond (Operand.tmp 16) (.seq (reg Tryz.f34 2) Code.ret) Code.skip)) (.seq (.seq (reg Tryz.f34 3) (.block 0 (.loop b34_1))) (.seq (.seq (reg Tryz.f34 9) (.block 2 (.loop b34_2))) (.seq (reg Tryz.f34 15) Code.ret)))))
theorem body34 : Tryz.f34.body = some c34:=by kernel_rfl

noncomputable def b35_1 : Code:=(.seq (reg Tryz.f35 5) (.seq (.cond (Operand.tmp 25) Code.skip (Code.exit 0)) (.seq (.block 1 (.seq (reg Tryz.f35 6) (.seq (reg Tryz.f35 7) (.seq (.seq (reg Tryz.f35 8) (.cond (Operand.tmp 34) (.seq (reg Tryz.f35 9) Code.ret) Code.skip)) (reg Tryz.f35 10))))) (reg Tryz.f35 11))))
noncomputable def c35 : Code:=(.seq (reg Tryz.f35 0) (.seq (.seq (reg Tryz.f35 1) (.cond (Operand.tmp 12) (.seq (reg Tryz.f35 2) Code.ret) Code.skip)) (.seq (reg Tryz.f35 3) (.seq (.seq (reg Tryz.f35 4) (.block 0 (.loop b35_1))) (.seq (.seq (reg Tryz.f35 12) (.cond (Operand.tmp 41) (.seq (reg Tryz.f35 13) Code.ret) Code.skip)) (.seq (reg Tryz.f35 14) Code.ret))))))
theorem body35 : Tryz.f35.body = some c35:=by kernel_rfl

noncomputable def c36 : Code:=(.seq (reg Tryz.f36 0) (.seq (reg Tryz.f36 1) Code.ret))
theorem body36 : Tryz.f36.body = some c36:=by kernel_rfl

noncomputable def c37 : Code:=(.seq (reg Tryz.f37 0) (.seq (reg Tryz.f37 1) Code.ret))
theorem body37 : Tryz.f37.body = some c37:=by kernel_rfl

noncomputable def b38_1 : Code:=(.seq (reg Tryz.f38 8) (.seq (.cond (Operand.tmp 37) Code.skip (Code.exit 0)) (.seq (.block 1 (.seq (reg Tryz.f38 9) (.seq (reg Tryz.f38 10) (.cond (Operand.tmp 44) (.seq (reg Tryz.f38 11) (reg Tryz.f38 12)) Code.skip)))) (reg Tryz.f38 13))))
noncomputable def c38 : Code:=(.seq (reg Tryz.f38 0) (.seq (.seq (reg Tryz.f38 1) (.cond (Operand.tmp 16) (.seq (reg Tryz.f38 2) Code.ret) Code.skip)) (.seq (.seq (reg Tryz.f38 3) (.cond (Operand.tmp 31) (.seq (reg Tryz.f38 4) Code.ret) Code.skip)) (.seq (reg Tryz.f38 5) (.seq (reg Tryz.f38 6) (.seq (.seq (reg Tryz.f38 7) (.block 0 (.loop b38_1))) (.seq (reg Tryz.f38 14) Code.ret)))))))
theorem body38 : Tryz.f38.body = some c38:=by kernel_rfl

noncomputable def b39_1 : Code:=(.seq (reg Tryz.f39 4) (.seq (.cond (Operand.tmp 13) Code.skip (Code.exit 0)) (.seq (.block 1 (.seq (reg Tryz.f39 5) (.seq (reg Tryz.f39 6) (.cond (Operand.tmp 18) (.seq (reg Tryz.f39 7) Code.ret) Code.skip)))) (reg Tryz.f39 8))))
noncomputable def c39 : Code:=(.seq (reg Tryz.f39 0) (.seq (.seq (reg Tryz.f39 1) (.cond (Operand.tmp 8) (.seq (reg Tryz.f39 2) Code.ret) Code.skip)) (.seq (.seq (reg Tryz.f39 3) (.block 0 (.loop b39_1))) (.seq (reg Tryz.f39 9) Code.ret))))
theorem body39 : Tryz.f39.body = some c39:=by kernel_rfl

noncomputable def b40_1 : Code:=(.seq (reg Tryz.f40 8) (.seq (.cond (Operand.tmp 38) Code.skip (Code.exit 0)) (.seq (.block 1 (.seq (reg Tryz.f40 9) (reg Tryz.f40 10))) (reg Tryz.f40 11))))
noncomputable def c40 : Code:=(.seq (reg Tryz.f40 0) (.seq (.seq (reg Tryz.f40 1) (.cond (Operand.tmp 16) (.seq (reg Tryz.f40 2) Code.ret) Code.skip)) (.seq (.seq (reg Tryz.f40 3) (.cond (Operand.tmp 31) (.seq (reg Tryz.f40 4) Code.ret) Code.skip)) (.seq (reg Tryz.f40 5) (.seq (reg Tryz.f40 6) (.seq (.seq (reg Tryz.f40 7) (.block 0 (.loop b40_1))) (.seq (reg Tryz.f40 12) Code.ret)))))))
theorem body40 : Tryz.f40.body = some c40:=by kernel_rfl

noncomputable def c41 : Code:=(.seq (reg Tryz.f41 0) (.seq (reg Tryz.f41 1) Code.ret))
theorem body41 : Tryz.f41.body = some c41:=by kernel_rfl

noncomputable def c42 : Code:=(.seq (reg Tryz.f42 0) (.seq (.seq (reg Tryz.f42 1) (.cond (Operand.tmp 4) (.seq (reg Tryz.f42 2) Code.ret) Code.skip)) (.seq (reg Tryz.f42 3) Code.ret)))
theorem body42 : Tryz.f42.body = some c42:=by kernel_rfl

noncomputable def c43 : Code:=(.seq (reg Tryz.f43 0) (.seq (reg Tryz.f43 1) Code.ret))
theorem body43 : Tryz.f43.body = some c43:=by kernel_rfl

noncomputable def c44 : Code:=(.seq (reg Tryz.f44 0) (.seq (reg Tryz.f44 1) Code.ret))
theorem body44 : Tryz.f44.body = some c44:=by kernel_rfl

noncomputable def b45_1 : Code:=(.seq (reg Tryz.f45 3) (.seq (.cond (Operand.tmp 9) Code.skip (Code.exit 0)) (.seq (.block 1 (.seq (reg Tryz.f45 4) (reg Tryz.f45 5))) (reg Tryz.f45 6))))
noncomputable def c45 : Code:=(.seq (reg Tryz.f45 0) (.seq (reg Tryz.f45 1) (.seq (.seq (reg Tryz.f45 2) (.block 0 (.loop b45_1))) (.seq (reg Tryz.f45 7) Code.ret))))
theorem body45 : Tryz.f45.body = some c45:=by kernel_rfl

noncomputable def c46 : Code:=(.seq (reg Tryz.f46 0) (.seq (reg Tryz.f46 1) Code.ret))
theorem body46 : Tryz.f46.body = some c46:=by kernel_rfl

noncomputable def b47_2 : Code:=(.seq (.seq (reg Tryz.f47 11) (.cond (Operand.tmp 56) Code.skip (Code.exit 2))) (.block 3 (reg Tryz.f47 12)))
noncomputable def b47_1 : Code:=(.seq (reg Tryz.f47 9) (.seq (.cond (Operand.tmp 42) Code.skip (Code.exit 0)) (.seq (.block 1 (.seq (reg Tryz.f47 10) (.seq (.block 2 (.loop b47_2)) (.seq (reg Tryz.f47 13) (.cond (Operand.tmp 70) (.seq (reg Tryz.f47 14) Code.ret) Code.skip))))) (reg Tryz.f47 15))))
noncomputable def c47 : Code:=(.seq (reg Tryz.f47 0) (.seq (reg Tryz.f47 1) (.seq (.seq (reg Tryz.f47 2) (.cond (Operand.tmp 25) (.seq (reg Tryz.f47 3) Code.ret) Code.skip)) (.seq (reg Tryz.f47 4) (.seq (.seq (reg Tryz.f47 5) (.cond (Operand.tmp 37) (.seq (reg Tryz.f47 6) Code.ret) Code.skip)) (.seq (reg Tryz.f47 7) (.seq (.seq (reg Tryz.f47 8) (.block 0 (.loop b47_1))) (.seq (reg Tryz.f47 16) Code.ret))))))))
theorem body47 : Tryz.f47.body = some c47:=by kernel_rfl

noncomputable def b48_2 : Code:=(.seq (reg Tryz.f48 11) (.seq (.cond (Operand.tmp 49) Code.skip (Code.exit 2)) (.seq (.block 3 (.seq (reg Tryz.f48 12) (.seq (reg Tryz.f48 13) (.cond (Operand.tmp 54) (.seq (reg Tryz.f48 14) Code.ret) Code.skip)))) (reg Tryz.f48 15))))
noncomputable def b48_1 : Code:=(.seq (reg Tryz.f48 8) (.seq (.cond (Operand.tmp 43) Code.skip (Code.exit 0)) (.seq (.block 1 (.seq (reg Tryz.f48 9) (.seq (reg Tryz.f48 10) (.block 2 (.loop b48_2))))) (reg Tryz.f48 16))))
noncomputable def c48 : Code:=(.seq (reg Tryz.f48 0) (.seq (reg Tryz.f48 1) (.seq (.seq (reg Tryz.f48 2) (.cond (Operand.tmp 26) (.seq (reg Tryz.f48 3) Code.ret) Code.skip)) (.seq (reg Tryz.f48 4) (.seq (.seq (reg Tryz.f48 5) (.cond (Operand.tmp 38) (.seq (reg Tryz.f48 6) Code.ret) Code.skip)) (.seq (.seq (reg Tryz.f48 7) (.block 0 (.loop b48_1))) (.seq (reg Tryz.f48 17) Code.ret)))))))
theorem body48 : Tryz.f48.body = some c48:=by kernel_rfl

noncomputable def b49_1 : Code:=(.seq (reg Tryz.f49 4) (.seq (.cond (Operand.tmp 32) Code.skip (Code.exit 0)) (.seq (.block 1 (.seq (reg Tryz.f49 5) (.seq (reg Tryz.f49 6) (.seq (reg Tryz.f49 7) (.seq (reg Tryz.f49 8) (.seq (.seq (reg Tryz.f49 9) (.cond (Operand.tmp 76) (Code.exit 1) Code.skip)) (.seq (reg Tryz.f49 10) (.seq (reg Tryz.f49 11) (reg Tryz.f49 12))))))))) (reg Tryz.f49 13))))
noncomputable def c49 : Code:=(.seq (reg Tryz.f49 0) (.seq (reg Tryz.f49 1) (.seq (reg Tryz.f49 2) (.seq (.seq (reg Tryz.f49 3) (.block 0 (.loop b49_1))) (.seq (reg Tryz.f49 14) Code.ret)))))
theorem body49 : Tryz.f49.body = some c49:=by kernel_rfl

noncomputable def c50 : Code:=(.seq (reg Tryz.f50 0) (.seq (reg Tryz.f50 1) (.seq (reg Tryz.f50 2) (.seq (reg Tryz.f50 3) (.seq (reg Tryz.f50 4) Code.ret)))))
theorem body50 : Tryz.f50.body = some c50:=by kernel_rfl

noncomputable def c51 : Code:=(.seq (reg Tryz.f51 0) (.seq (reg Tryz.f51 1) (.seq (reg Tryz.f51 2) Code.ret)))
theorem body51 : Tryz.f51.body = some c51:=by kernel_rfl

noncomputable def b52_1 : Code:=(.seq (reg Tryz.f52 4) (.seq (.cond (Operand.tmp 25) Code.skip (Code.exit 0)) (.seq (.block 1 (.seq (reg Tryz.f52 5) (reg Tryz.f52 6))) (reg Tryz.f52 7))))
noncomputable def c52 : Code:=(.seq (reg Tryz.f52 0) (.seq (reg Tryz.f52 1) (.seq (reg Tryz.f52 2) (.seq (.seq (reg Tryz.f52 3) (.block 0 (.loop b52_1))) (.seq (reg Tryz.f52 8) Code.ret)))))
theorem body52 : Tryz.f52.body = some c52:=by kernel_rfl

noncomputable def c53 : Code:=(.seq (reg Tryz.f53 0) (.seq (reg Tryz.f53 1) Code.ret))
theorem body53 : Tryz.f53.body = some c53:=by kernel_rfl

noncomputable def c54 : Code:=(.seq (reg Tryz.f54 0) (.seq (reg Tryz.f54 1) Code.ret))
theorem body54 : Tryz.f54.body = some c54:=by kernel_rfl

noncomputable def c55 : Code:=(.seq (reg Tryz.f55 0) (.seq (reg Tryz.f55 1) Code.ret))
theorem body55 : Tryz.f55.body = some c55:=by kernel_rfl

noncomputable def c56 : Code:=(.seq (reg Tryz.f56 0) (.seq (.block 0 (.seq (reg Tryz.f56 1) (.cond (Operand.tmp 5) (.seq (reg Tryz.f56 2) Code.ret) (.seq (reg Tryz.f56 3) (.cond (Operand.tmp 13) (.seq (reg Tryz.f56 4) Code.ret) (.seq (reg Tryz.f56 5) (.cond (Operand.tmp 22) (.seq (reg Tryz.f56 6) Code.ret) Code.skip))))))) (.seq (reg Tryz.f56 7) Code.ret)))
theorem body56 : Tryz.f56.body = some c56:=by kernel_rfl

noncomputable def c57 : Code:=(.seq (reg Tryz.f57 0) (.seq (reg Tryz.f57 1) (.seq (.seq (reg Tryz.f57 2) (.cond (Operand.tmp 24) (.seq (reg Tryz.f57 3) Code.ret) Code.skip)) (.seq (reg Tryz.f57 4) (.seq (.seq (reg Tryz.f57 5) (.block 0 (.seq (reg Tryz.f57 6) (.cond (Operand.tmp 29) (.seq (reg Tryz.f57 7) (.seq (reg Tryz.f57 8) (reg Tryz.f57 9))) (.seq (reg Tryz.f57 10) (.cond (Operand.tmp 40) (.seq (reg Tryz.f57 11) (.seq (reg Tryz.f57 12) (reg Tryz.f57 13))) (.seq (reg Tryz.f57 14) (.cond (Operand.tmp 51) (.seq (reg Tryz.f57 15) (reg Tryz.f57 16)) Code.skip)))))))) (.seq (.block 1 (.seq (reg Tryz.f57 17) (.cond (Operand.tmp 60) (.seq (reg Tryz.f57 18) Code.ret) (.seq (reg Tryz.f57 19) (.cond (Operand.tmp 64) (.seq (reg Tryz.f57 20) Code.ret) (.seq (reg Tryz.f57 21) (.cond (Operand.tmp 68) (.seq (reg Tryz.f57 22) Code.ret) Code.skip))))))) (.seq (reg Tryz.f57 23) Code.ret)))))))
theorem body57 : Tryz.f57.body = some c57:=by kernel_rfl

noncomputable def c58 : Code:=(.seq (reg Tryz.f58 0) (.seq (.seq (reg Tryz.f58 1) (.cond (Operand.tmp 14) (.seq (reg Tryz.f58 2) Code.ret) Code.skip)) (.seq (reg Tryz.f58 3) (.seq (.seq (reg Tryz.f58 4) (.cond (Operand.tmp 25) (.seq (reg Tryz.f58 5) Code.ret) Code.skip)) (.seq (.seq (reg Tryz.f58 6) (.cond (Operand.tmp 33) (.seq (reg Tryz.f58 7) Code.ret) Code.skip)) (.seq (reg Tryz.f58 8) (.seq (reg Tryz.f58 9) Code.ret)))))))
theorem body58 : Tryz.f58.body = some c58:=by kernel_rfl

noncomputable def c59 : Code:=(.seq (reg Tryz.f59 0) (.seq (.block 0 (.seq (reg Tryz.f59 1) (.cond (Operand.tmp 5) (.seq (reg Tryz.f59 2) Code.ret) (.seq (reg Tryz.f59 3) (.cond (Operand.tmp 14) (.seq (reg Tryz.f59 4) Code.ret) Code.skip))))) (.seq (reg Tryz.f59 5) Code.ret)))
theorem body59 : Tryz.f59.body = some c59:=by kernel_rfl

noncomputable def c60 : Code:=(.seq (reg Tryz.f60 0) (.seq (reg Tryz.f60 1) Code.ret))
theorem body60 : Tryz.f60.body = some c60:=by kernel_rfl

noncomputable def c61 : Code:=(.seq (reg Tryz.f61 0) (.seq (.block 0 (.seq (reg Tryz.f61 1) (.cond (Operand.tmp 5) (.seq (reg Tryz.f61 2) Code.ret) (.seq (reg Tryz.f61 3) (.cond (Operand.tmp 12) (.seq (reg Tryz.f61 4) Code.ret) (.seq (reg Tryz.f61 5) (.cond (Operand.tmp 21) (.seq (reg Tryz.f61 6) Code.ret) Code.skip))))))) (.seq (reg Tryz.f61 7) Code.ret)))
theorem body61 : Tryz.f61.body = some c61:=by kernel_rfl

noncomputable def c62 : Code:=(.seq (reg Tryz.f62 0) (.seq (reg Tryz.f62 1) (.seq (.seq (reg Tryz.f62 2) (.cond (Operand.tmp 22) (.seq (reg Tryz.f62 3) Code.ret) Code.skip)) (.seq (reg Tryz.f62 4) (.seq (.seq (reg Tryz.f62 5) (.cond (Operand.tmp 26) (.seq (reg Tryz.f62 6) (.seq (reg Tryz.f62 7) (.seq (.seq (reg Tryz.f62 8) (.cond (Operand.tmp 39) (.seq (reg Tryz.f62 9) Code.ret) Code.skip)) (.seq (reg Tryz.f62 10) (.cond (Operand.tmp 62) (.seq (reg Tryz.f62 11) Code.ret) Code.skip))))) Code.skip)) (.seq (.seq (reg Tryz.f62 12) (.cond (Operand.tmp 65) (.seq (reg Tryz.f62 13) Code.ret) Code.skip)) (.seq (reg Tryz.f62 14) Code.ret)))))))
theorem body62 : Tryz.f62.body = some c62:=by kernel_rfl

noncomputable def c63 : Code:=(.seq (reg Tryz.f63 0) (.seq (.seq (reg Tryz.f63 1) (.cond (Operand.tmp 13) (.seq (reg Tryz.f63 2) Code.ret) Code.skip)) (.seq (reg Tryz.f63 3) (.seq (.seq (reg Tryz.f63 4) (.cond (Operand.tmp 24) (.seq (reg Tryz.f63 5) Code.ret) Code.skip)) (.seq (.seq (reg Tryz.f63 6) (.cond (Operand.tmp 32) (.seq (reg Tryz.f63 7) Code.ret) Code.skip)) (.seq (reg Tryz.f63 8) Code.ret))))))
theorem body63 : Tryz.f63.body = some c63:=by kernel_rfl

noncomputable def c64 : Code:=(.seq (reg Tryz.f64 0) (.seq (.block 0 (.seq (reg Tryz.f64 1) (.cond (Operand.tmp 5) (.seq (reg Tryz.f64 2) Code.ret) (.seq (reg Tryz.f64 3) (.cond (Operand.tmp 14) (.seq (reg Tryz.f64 4) Code.ret) Code.skip))))) (.seq (reg Tryz.f64 5) Code.ret)))
theorem body64 : Tryz.f64.body = some c64:=by kernel_rfl

noncomputable def c65 : Code:=(.seq (reg Tryz.f65 0) (.seq (reg Tryz.f65 1) (.seq (reg Tryz.f65 2) Code.ret)))
theorem body65 : Tryz.f65.body = some c65:=by kernel_rfl

noncomputable def b66_1 : Code:=(.seq (reg Tryz.f66 3) (.seq (.cond (Operand.tmp 12) Code.skip (Code.exit 0)) (.seq (.block 1 (.seq (reg Tryz.f66 4) (.seq (reg Tryz.f66 5) (.seq (reg Tryz.f66 6) (.cond (Operand.tmp 20) (reg Tryz.f66 7) Code.skip))))) (reg Tryz.f66 8))))
noncomputable def b66_2 : Code:=(.seq (reg Tryz.f66 11) (.seq (.cond (Operand.tmp 28) Code.skip (Code.exit 2)) (.seq (.block 3 (.seq (reg Tryz.f66 12) (reg Tryz.f66 13))) (reg Tryz.f66 14))))
noncomputable def c66 : Code:=(.seq (reg Tryz.f66 0) (.seq (reg Tryz.f66 1) (.seq (.seq (reg Tryz.f66 2) (.block 0 (.loop b66_1))) (.seq (reg Tryz.f66 9) (.seq (.seq (reg Tryz.f66 10) (.block 2 (.loop b66_2))) (.seq (reg Tryz.f66 15) Code.ret))))))
theorem body66 : Tryz.f66.body = some c66:=by kernel_rfl

noncomputable def c67 : Code:=(.seq (reg Tryz.f67 0) (.seq (reg Tryz.f67 1) (.seq (reg Tryz.f67 2) (.seq (reg Tryz.f67 3) (.seq (reg Tryz.f67 4) (.seq (reg Tryz.f67 5) (.seq (reg Tryz.f67 6) Code.ret)))))))
theorem body67 : Tryz.f67.body = some c67:=by kernel_rfl

noncomputable def c68 : Code:=(.seq (reg Tryz.f68 0) (.seq (.seq (reg Tryz.f68 1) (.cond (Operand.tmp 8) (.seq (reg Tryz.f68 2) Code.ret) Code.skip)) (.seq (reg Tryz.f68 3) Code.ret)))
theorem body68 : Tryz.f68.body = some c68:=by kernel_rfl

noncomputable def b69_1 : Code:=(.seq (reg Tryz.f69 3) (.seq (.cond (Operand.tmp 9) Code.skip (Code.exit 0)) (.seq (.block 1 (.seq (reg Tryz.f69 4) (reg Tryz.f69 5))) (reg Tryz.f69 6))))
noncomputable def c69 : Code:=(.seq (reg Tryz.f69 0) (.seq (reg Tryz.f69 1) (.seq (.seq (reg Tryz.f69 2) (.block 0 (.loop b69_1))) (.seq (reg Tryz.f69 7) Code.ret))))
theorem body69 : Tryz.f69.body = some c69:=by kernel_rfl

noncomputable def b70_1 : Code:=(.seq (reg Tryz.f70 10) (.seq (.cond (Operand.tmp 30) Code.skip (Code.exit 0)) (.seq (.block 1 (.seq (reg Tryz.f70 11) (.seq (reg Tryz.f70 12) (.seq (.seq (reg Tryz.f70 13) (.cond (Operand.tmp 43) (.seq (reg Tryz.f70 14) Code.ret) Code.skip)) (reg Tryz.f70 15))))) (reg Tryz.f70 16))))
noncomputable def c70 : Code:=(.seq (reg Tryz.f70 0) (.seq (.seq (reg Tryz.f70 1) (.cond (Operand.tmp 14) (.seq (reg Tryz.f70 2) Code.ret) Code.skip)) (.seq (.seq (reg Tryz.f70 3) (.cond (Operand.tmp 21) (.seq (reg Tryz.f70 4) Code.ret) Code.skip)) (.seq (.seq (reg Tryz.f70 5) (.cond (Operand.tmp 25) (.seq (reg Tryz.f70 6) Code.ret) Code.skip)) (.seq (reg Tryz.f70 7) (.seq (reg Tryz.f70 8) (.seq (.seq (reg Tryz.f70 9) (.block 0 (.loop b70_1))) (.seq (reg Tryz.f70 17) Code.ret))))))))
theorem body70 : Tryz.f70.body = some c70:=by kernel_rfl

noncomputable def b71_1 : Code:=(.seq (reg Tryz.f71 3) (.seq (.cond (Operand.tmp 15) Code.skip (Code.exit 0)) (.seq (.block 1 (.seq (reg Tryz.f71 4) (reg Tryz.f71 5))) (reg Tryz.f71 6))))
noncomputable def c71 : Code:=(.seq (reg Tryz.f71 0) (.seq (reg Tryz.f71 1) (.seq (.seq (reg Tryz.f71 2) (.block 0 (.loop b71_1))) (.seq (reg Tryz.f71 7) (.seq (reg Tryz.f71 8) Code.ret)))))
theorem body71 : Tryz.f71.body = some c71:=by kernel_rfl

noncomputable def b72_1 : Code:=(.seq (reg Tryz.f72 4) (.seq (.cond (Operand.tmp 23) Code.skip (Code.exit 0)) (.seq (.block 1 (.seq (reg Tryz.f72 5) (.seq (reg Tryz.f72 6) (.cond (Operand.tmp 34) (.seq (reg Tryz.f72 7) Code.ret) Code.skip)))) (reg Tryz.f72 8))))
noncomputable def b72_3 : Code:=(.seq (reg Tryz.f72 15) (.seq (.cond (Operand.tmp 51) Code.skip (Code.exit 4)) (.seq (.block 5 (.seq (reg Tryz.f72 16) (.seq (reg Tryz.f72 17) (.cond (Operand.tmp 56) (.seq (reg Tryz.f72 18) Code.ret) Code.skip)))) (reg Tryz.f72 19))))
noncomputable def b72_2 : Code:=(.seq (reg Tryz.f72 10) (.seq (.cond (Operand.tmp 40) Code.skip (Code.exit 2)) (.seq (.block 3 (.seq (reg Tryz.f72 11) (.seq (.seq (reg Tryz.f72 12) (.cond (Operand.tmp 46) (.seq (reg Tryz.f72 13) Code.ret) Code.skip)) (.seq (reg Tryz.f72 14) (.block 4 (.loop b72_3)))))) (reg Tryz.f72 20))))
noncomputable def c72 : Code:=(.seq (reg Tryz.f72 0) (.seq (.seq (reg Tryz.f72 1) (.cond (Operand.tmp 18) (.seq (reg Tryz.f72 2) Code.ret) Code.skip)) (.seq (.seq (reg Tryz.f72 3) (.block 0 (.loop b72_1))) (.seq (.seq (reg Tryz.f72 9) (.block 2 (.loop b72_2))) (.seq (reg Tryz.f72 21) Code.ret)))))
theorem body72 : Tryz.f72.body = some c72:=by kernel_rfl

noncomputable def b73_1 : Code:=(.seq (reg Tryz.f73 3) (.seq (.cond (Operand.tmp 20) Code.skip (Code.exit 0)) (.seq (.block 1 (.seq (reg Tryz.f73 4) (.seq (reg Tryz.f73 5) (reg Tryz.f73 6)))) (reg Tryz.f73 7))))
noncomputable def c73 : Code:=(.seq (reg Tryz.f73 0) (.seq (reg Tryz.f73 1) (.seq (.seq (reg Tryz.f73 2) (.block 0 (.loop b73_1))) (.seq (reg Tryz.f73 8) Code.ret))))
theorem body73 : Tryz.f73.body = some c73:=by kernel_rfl

noncomputable def b74_2 : Code:=(.seq (reg Tryz.f74 7) (.seq (.cond (Operand.tmp 21) Code.skip (Code.exit 2)) (.seq (.block 3 (.seq (reg Tryz.f74 8) (reg Tryz.f74 9))) (reg Tryz.f74 10))))
noncomputable def b74_1 : Code:=(.seq (reg Tryz.f74 3) (.seq (.cond (Operand.tmp 12) Code.skip (Code.exit 0)) (.seq (.block 1 (.seq (reg Tryz.f74 4) (.seq (reg Tryz.f74 5) (.seq (.seq (reg Tryz.f74 6) (.block 2 (.loop b74_2))) (.seq (reg Tryz.f74 11) (.cond (Operand.tmp 32) (reg Tryz.f74 12) Code.skip)))))) (reg Tryz.f74 13))))
noncomputable def c74 : Code:=(.seq (reg Tryz.f74 0) (.seq (reg Tryz.f74 1) (.seq (.seq (reg Tryz.f74 2) (.block 0 (.loop b74_1))) (.seq (reg Tryz.f74 14) Code.ret))))
theorem body74 : Tryz.f74.body = some c74:=by kernel_rfl

noncomputable def c75 : Code:=(.seq (reg Tryz.f75 0) (.seq (reg Tryz.f75 1) Code.ret))
theorem body75 : Tryz.f75.body = some c75:=by kernel_rfl

noncomputable def b76_1 : Code:=(.seq (.seq (reg Tryz.f76 6) (.cond (Operand.tmp 27) Code.skip (Code.exit 0))) (.seq (.block 1 (.seq (reg Tryz.f76 8) (.cond (Operand.tmp 39) (.seq (reg Tryz.f76 9) Code.ret) Code.skip))) (reg Tryz.f76 7)))
noncomputable def b76_2 : Code:=(.seq (reg Tryz.f76 13) (.seq (.cond (Operand.tmp 44) Code.skip (Code.exit 2)) (.seq (.block 3 (.seq (reg Tryz.f76 14) (.seq (reg Tryz.f76 15) (.seq (.seq (reg Tryz.f76 16) (.cond (Operand.tmp 57) (.seq (reg Tryz.f76 17) Code.ret) Code.skip)) (reg Tryz.f76 18))))) (reg Tryz.f76 19))))
noncomputable def c76 : Code:=(.seq (reg Tryz.f76 0) (.seq (.seq (reg Tryz.f76 1) (.cond (Operand.tmp 15) (.seq (reg Tryz.f76 2) Code.ret) Code.skip)) (.seq (.seq (reg Tryz.f76 3) (.cond (Operand.tmp 22) (.seq (reg Tryz.f76 4) Code.ret) Code.skip)) (.seq (.seq (reg Tryz.f76 5) (.block 0 (.loop b76_1))) (.seq (reg Tryz.f76 10) (.seq (reg Tryz.f76 11) (.seq (.seq (reg Tryz.f76 12) (.block 2 (.loop b76_2))) (.seq (reg Tryz.f76 20) Code.ret))))))))
theorem body76 : Tryz.f76.body = some c76:=by kernel_rfl

noncomputable def b77_1 : Code:=(.seq (.seq (reg Tryz.f77 5) (.cond (Operand.tmp 29) Code.skip (Code.exit 0))) (.block 1 (.seq (reg Tryz.f77 6) (.cond (Operand.tmp 36) (reg Tryz.f77 7) (reg Tryz.f77 8)))))
noncomputable def c77 : Code:=(.seq (reg Tryz.f77 0) (.seq (.seq (reg Tryz.f77 1) (.cond (Operand.tmp 8) (.seq (reg Tryz.f77 2) Code.ret) Code.skip)) (.seq (reg Tryz.f77 3) (.seq (reg Tryz.f77 4) (.seq (.block 0 (.loop b77_1)) (.seq (reg Tryz.f77 9) Code.ret))))))
theorem body77 : Tryz.f77.body = some c77:=by kernel_rfl

noncomputable def b78_1 : Code:=(.seq (reg Tryz.f78 3) (.seq (.cond (Operand.tmp 8) Code.skip (Code.exit 0)) (.seq (.block 1 (.seq (reg Tryz.f78 4) (reg Tryz.f78 5))) (reg Tryz.f78 6))))
noncomputable def c78 : Code:=(.seq (reg Tryz.f78 0) (.seq (reg Tryz.f78 1) (.seq (.seq (reg Tryz.f78 2) (.block 0 (.loop b78_1))) (.seq (reg Tryz.f78 7) Code.ret))))
theorem body78 : Tryz.f78.body = some c78:=by kernel_rfl

noncomputable def c79 : Code:=(.seq (reg Tryz.f79 0) (.seq (reg Tryz.f79 1) Code.ret))
theorem body79 : Tryz.f79.body = some c79:=by kernel_rfl

noncomputable def c80 : Code:=(.seq (reg Tryz.f80 0) (.seq (reg Tryz.f80 1) Code.ret))
theorem body80 : Tryz.f80.body = some c80:=by kernel_rfl

noncomputable def c81 : Code:=(.seq (reg Tryz.f81 0) (.seq (reg Tryz.f81 1) Code.ret))
theorem body81 : Tryz.f81.body = some c81:=by kernel_rfl

noncomputable def c82 : Code:=(.seq (reg Tryz.f82 0) (.seq (reg Tryz.f82 1) (.seq (reg Tryz.f82 2) Code.ret)))
theorem body82 : Tryz.f82.body = some c82:=by kernel_rfl

noncomputable def c83 : Code:=(.seq (reg Tryz.f83 0) (.seq (reg Tryz.f83 1) Code.ret))
theorem body83 : Tryz.f83.body = some c83:=by kernel_rfl

noncomputable def b84_1 : Code:=(.seq (reg Tryz.f84 9) (.seq (.cond (Operand.tmp 50) Code.skip (Code.exit 0)) (.seq (.block 1 (.seq (reg Tryz.f84 10) (.seq (.seq (reg Tryz.f84 11) (.cond (Operand.tmp 60) (.seq (reg Tryz.f84 12) Code.ret) Code.skip)) (.seq (.seq (reg Tryz.f84 13) (.cond (Operand.tmp 66) (.seq (reg Tryz.f84 14) Code.ret) Code.skip)) (.seq (reg Tryz.f84 15) (reg Tryz.f84 16)))))) (reg Tryz.f84 17))))
noncomputable def c84 : Code:=(.seq (reg Tryz.f84 0) (.seq (.seq (reg Tryz.f84 1) (.cond (Operand.tmp 25) (.seq (reg Tryz.f84 2) Code.ret) Code.skip)) (.seq (.seq (reg Tryz.f84 3) (.cond (Operand.tmp 36) (.seq (reg Tryz.f84 4) Code.ret) Code.skip)) (.seq (reg Tryz.f84 5) (.seq (reg Tryz.f84 6) (.seq (reg Tryz.f84 7) (.seq (.seq (reg Tryz.f84 8) (.block 0 (.loop b84_1))) (.seq (reg Tryz.f84 18) (.seq (.seq (reg Tryz.f84 19) (.cond (Operand.tmp 81) (.seq (reg Tryz.f84 20) Code.ret) Code.skip)) (.seq (reg Tryz.f84 21) (.seq (.seq (reg Tryz.f84 22) (.cond (Operand.tmp 91) (.seq (reg Tryz.f84 23) Code.ret) Code.skip)) (.seq (.seq (reg Tryz.f84 24) (.cond (Operand.tmp 94) (.seq (reg Tryz.f84 25) Code.ret) Code.skip)) (.seq (reg Tryz.f84 26) Code.ret)))))))))))))
theorem body84 : Tryz.f84.body = some c84:=by kernel_rfl

noncomputable def c85 : Code:=(.seq (reg Tryz.f85 0) (.seq (.seq (reg Tryz.f85 1) (.cond (Operand.tmp 12) (.seq (reg Tryz.f85 2) Code.ret) Code.skip)) (.seq (.seq (reg Tryz.f85 3) (.cond (Operand.tmp 26) (.seq (reg Tryz.f85 4) Code.ret) Code.skip)) (.seq (reg Tryz.f85 5) Code.ret))))
theorem body85 : Tryz.f85.body = some c85:=by kernel_rfl

noncomputable def b86_1 : Code:=(.seq (.seq (reg Tryz.f86 8) (.cond (Operand.tmp 47) Code.skip (Code.exit 0))) (.block 1 (.seq (reg Tryz.f86 9) (.seq (.seq (reg Tryz.f86 10) (.cond (Operand.tmp 57) (.seq (reg Tryz.f86 11) Code.ret) Code.skip)) (.seq (.seq (reg Tryz.f86 12) (.cond (Operand.tmp 63) (.seq (reg Tryz.f86 13) Code.ret) Code.skip)) (.seq (reg Tryz.f86 14) (reg Tryz.f86 15)))))))
noncomputable def c86 : Code:=(.seq (reg Tryz.f86 0) (.seq (.seq (reg Tryz.f86 1) (.cond (Operand.tmp 24) (.seq (reg Tryz.f86 2) Code.ret) Code.skip)) (.seq (.seq (reg Tryz.f86 3) (.cond (Operand.tmp 35) (.seq (reg Tryz.f86 4) Code.ret) Code.skip)) (.seq (reg Tryz.f86 5) (.seq (reg Tryz.f86 6) (.seq (reg Tryz.f86 7) (.seq (.block 0 (.loop b86_1)) (.seq (.seq (reg Tryz.f86 16) (.cond (Operand.tmp 76) (.seq (reg Tryz.f86 17) Code.ret) Code.skip)) (.seq (.seq (reg Tryz.f86 18) (.seq (reg Tryz.f86 19) (.cond (Operand.tmp 89) (.seq (reg Tryz.f86 20) Code.ret) Code.skip))) (.seq (reg Tryz.f86 21) Code.ret))))))))))
theorem body86 : Tryz.f86.body = some c86:=by kernel_rfl

noncomputable def b87_1 : Code:=(.seq (reg Tryz.f87 7) (.seq (.cond (Operand.tmp 36) Code.skip (Code.exit 0)) (.seq (.block 1 (.seq (reg Tryz.f87 8) (reg Tryz.f87 9))) (reg Tryz.f87 10))))
noncomputable def b87_2 : Code:=(.seq (reg Tryz.f87 12) (.seq (.cond (Operand.tmp 52) Code.skip (Code.exit 2)) (.seq (.block 3 (.seq (reg Tryz.f87 13) (.seq (reg Tryz.f87 14) (.cond (Operand.tmp 67) (reg Tryz.f87 15) Code.skip)))) (reg Tryz.f87 16))))
noncomputable def c87 : Code:=(.seq (reg Tryz.f87 0) (.seq (.seq (reg Tryz.f87 1) (.cond (Operand.tmp 18) (.seq (reg Tryz.f87 2) Code.ret) Code.skip)) (.seq (.seq (reg Tryz.f87 3) (.cond (Operand.tmp 32) (.seq (reg Tryz.f87 4) Code.ret) Code.skip)) (.seq (reg Tryz.f87 5) (.seq (.seq (reg Tryz.f87 6) (.block 0 (.loop b87_1))) (.seq (.seq (reg Tryz.f87 11) (.block 2 (.loop b87_2))) (.seq (reg Tryz.f87 17) Code.ret)))))))
theorem body87 : Tryz.f87.body = some c87:=by kernel_rfl

noncomputable def c88 : Code:=(.seq (reg Tryz.f88 0) (.seq (reg Tryz.f88 1) (.seq (reg Tryz.f88 2) (.seq (reg Tryz.f88 3) (.seq (reg Tryz.f88 4) Code.ret)))))
theorem body88 : Tryz.f88.body = some c88:=by kernel_rfl

noncomputable def b89_2 : Code:=(.seq (reg Tryz.f89 17) (.seq (.cond (Operand.tmp 86) Code.skip (Code.exit 2)) (.seq (.block 3 (.seq (reg Tryz.f89 18) (reg Tryz.f89 19))) (reg Tryz.f89 20))))
noncomputable def b89_1 : Code:=(.seq (reg Tryz.f89 7) (.seq (.cond (Operand.tmp 49) Code.skip (Code.exit 0)) (.seq (.block 1 (.seq (reg Tryz.f89 8) (.seq (.seq (reg Tryz.f89 9) (.cond (Operand.tmp 54) (.seq (reg Tryz.f89 10) (.seq (.seq (reg Tryz.f89 11) (.cond (Operand.tmp 66) (.seq (reg Tryz.f89 12) Code.ret) Code.skip)) (.seq (reg Tryz.f89 13) (.seq (.seq (reg Tryz.f89 14) (.cond (Operand.tmp 79) (.seq (reg Tryz.f89 15) Code.ret) Code.skip)) (.seq (.seq (reg Tryz.f89 16) (.block 2 (.loop b89_2))) (reg Tryz.f89 21)))))) Code.skip)) (.seq (reg Tryz.f89 22) (.seq (.seq (reg Tryz.f89 23) (.cond (Operand.tmp 117) (.seq (reg Tryz.f89 24) Code.ret) Code.skip)) (reg Tryz.f89 25)))))) (reg Tryz.f89 26))))
noncomputable def c89 : Code:=(.seq (reg Tryz.f89 0) (.seq (.seq (reg Tryz.f89 1) (.seq (reg Tryz.f89 2) (.cond (Operand.tmp 27) (.seq (reg Tryz.f89 3) Code.ret) Code.skip))) (.seq (reg Tryz.f89 4) (.seq (reg Tryz.f89 5) (.seq (.seq (reg Tryz.f89 6) (.block 0 (.loop b89_1))) (.seq (.block 4 (.seq (reg Tryz.f89 27) (.cond (Operand.tmp 124) (.seq (reg Tryz.f89 28) Code.ret) (.seq (reg Tryz.f89 29) (.cond (Operand.tmp 137) (.seq (reg Tryz.f89 30) Code.ret) (.seq (reg Tryz.f89 31) (.cond (Operand.tmp 144) (.seq (reg Tryz.f89 32) Code.ret) Code.skip))))))) (.seq (reg Tryz.f89 33) Code.ret)))))))
theorem body89 : Tryz.f89.body = some c89:=by kernel_rfl

noncomputable def b90_1 : Code:=(.seq (reg Tryz.f90 20) (.seq (.cond (Operand.tmp 77) Code.skip (Code.exit 1)) (.seq (.block 2 (.seq (reg Tryz.f90 21) (.seq (reg Tryz.f90 22) (.cond (Operand.tmp 91) (.seq (reg Tryz.f90 23) Code.ret) Code.skip)))) (reg Tryz.f90 24))))
noncomputable def c90 : Code:=(.seq (reg Tryz.f90 0) (.seq (reg Tryz.f90 1) (.seq (.seq (reg Tryz.f90 2) (.cond (Operand.tmp 22) (.seq (reg Tryz.f90 3) Code.ret) Code.skip)) (.seq (.seq (reg Tryz.f90 4) (.cond (Operand.tmp 28) (.seq (reg Tryz.f90 5) Code.ret) Code.skip)) (.seq (.seq (reg Tryz.f90 6) (.cond (Operand.tmp 33) (.seq (reg Tryz.f90 7) Code.ret) Code.skip)) (.seq (reg Tryz.f90 8) (.seq (.seq (reg Tryz.f90 9) (.cond (Operand.tmp 41) (.seq (reg Tryz.f90 10) Code.ret) Code.skip)) (.seq (.block 0 (.seq (reg Tryz.f90 11) (.cond (Operand.tmp 43) (.seq (reg Tryz.f90 12) Code.ret) (.seq (reg Tryz.f90 13) (.cond (Operand.tmp 48) (.seq (reg Tryz.f90 14) Code.ret) (.seq (reg Tryz.f90 15) (.cond (Operand.tmp 55) (.seq (reg Tryz.f90 16) Code.ret) (.seq (reg Tryz.f90 17) (.cond (Operand.tmp 62) (.seq (reg Tryz.f90 18) Code.ret) Code.skip))))))))) (.seq (.seq (reg Tryz.f90 19) (.block 1 (.loop b90_1))) (.seq (reg Tryz.f90 25) Code.ret))))))))))
theorem body90 : Tryz.f90.body = some c90:=by kernel_rfl

noncomputable def c91 : Code:=(.seq (reg Tryz.f91 0) (.seq (.seq (reg Tryz.f91 1) (.cond (Operand.tmp 12) (.seq (reg Tryz.f91 2) Code.ret) Code.skip)) (.seq (.seq (reg Tryz.f91 3) (.cond (Operand.tmp 16) (.seq (reg Tryz.f91 4) Code.ret) Code.skip)) (.seq (reg Tryz.f91 5) (.seq (.seq (reg Tryz.f91 6) (.cond (Operand.tmp 33) (reg Tryz.f91 7) Code.skip)) (.seq (reg Tryz.f91 8) (.seq (.seq (reg Tryz.f91 9) (.cond (Operand.tmp 48) (reg Tryz.f91 10) Code.skip)) (.seq (reg Tryz.f91 11) Code.ret))))))))
theorem body91 : Tryz.f91.body = some c91:=by kernel_rfl

noncomputable def c92 : Code:=(.seq (reg Tryz.f92 0) (.seq (reg Tryz.f92 1) Code.ret))
theorem body92 : Tryz.f92.body = some c92:=by kernel_rfl

noncomputable def c93 : Code:=(.seq (reg Tryz.f93 0) (.seq (.seq (reg Tryz.f93 1) (.cond (Operand.tmp 6) (.seq (reg Tryz.f93 2) Code.ret) Code.skip)) (.seq (reg Tryz.f93 3) Code.ret)))
theorem body93 : Tryz.f93.body = some c93:=by kernel_rfl

noncomputable def c94 : Code:=(.seq (reg Tryz.f94 0) (.seq (.seq (reg Tryz.f94 1) (.cond (Operand.tmp 7) (.seq (reg Tryz.f94 2) Code.ret) Code.skip)) (.seq (reg Tryz.f94 3) (.seq (reg Tryz.f94 4) Code.ret))))
theorem body94 : Tryz.f94.body = some c94:=by kernel_rfl

noncomputable def b95_1 : Code:=(.seq (.seq (reg Tryz.f95 4) (.cond (Operand.tmp 22) Code.skip (Code.exit 0))) (.seq (.block 1 (.seq (reg Tryz.f95 6) (.seq (reg Tryz.f95 7) (reg Tryz.f95 8)))) (reg Tryz.f95 5)))
noncomputable def b95_2 : Code:=(.seq (reg Tryz.f95 11) (.seq (.cond (Operand.tmp 35) Code.skip (Code.exit 2)) (.seq (.block 3 (.seq (reg Tryz.f95 12) (reg Tryz.f95 13))) (reg Tryz.f95 14))))
noncomputable def c95 : Code:=(.seq (reg Tryz.f95 0) (.seq (reg Tryz.f95 1) (.seq (reg Tryz.f95 2) (.seq (.seq (reg Tryz.f95 3) (.block 0 (.loop b95_1))) (.seq (reg Tryz.f95 9) (.seq (.seq (reg Tryz.f95 10) (.block 2 (.loop b95_2))) (.seq (reg Tryz.f95 15) Code.ret)))))))
theorem body95 : Tryz.f95.body = some c95:=by kernel_rfl

noncomputable def b96_1 : Code:=(.seq (reg Tryz.f96 3) (.seq (.cond (Operand.tmp 12) Code.skip (Code.exit 0)) (.seq (.block 1 (.seq (reg Tryz.f96 4) (reg Tryz.f96 5))) (reg Tryz.f96 6))))
noncomputable def c96 : Code:=(.seq (reg Tryz.f96 0) (.seq (reg Tryz.f96 1) (.seq (.seq (reg Tryz.f96 2) (.block 0 (.loop b96_1))) (.seq (reg Tryz.f96 7) Code.ret))))
theorem body96 : Tryz.f96.body = some c96:=by kernel_rfl

noncomputable def c97 : Code:=(.seq (reg Tryz.f97 0) (.seq (reg Tryz.f97 1) (.seq (reg Tryz.f97 2) (.seq (reg Tryz.f97 3) Code.ret))))
theorem body97 : Tryz.f97.body = some c97:=by kernel_rfl

noncomputable def c98 : Code:=(.seq (reg Tryz.f98 0) (.seq (reg Tryz.f98 1) Code.ret))
theorem body98 : Tryz.f98.body = some c98:=by kernel_rfl

noncomputable def c99 : Code:=(.seq (reg Tryz.f99 0) (.seq (reg Tryz.f99 1) Code.ret))
theorem body99 : Tryz.f99.body = some c99:=by kernel_rfl

noncomputable def c100 : Code:=(.seq (reg Tryz.f100 0) (.seq (reg Tryz.f100 1) Code.ret))
theorem body100 : Tryz.f100.body = some c100:=by kernel_rfl

noncomputable def c101 : Code:=(.seq (reg Tryz.f101 0) (.seq (reg Tryz.f101 1) Code.ret))
theorem body101 : Tryz.f101.body = some c101:=by kernel_rfl

noncomputable def c102 : Code:=(.seq (reg Tryz.f102 0) (.seq (reg Tryz.f102 1) Code.ret))
theorem body102 : Tryz.f102.body = some c102:=by kernel_rfl

noncomputable def c103 : Code:=(.seq (reg Tryz.f103 0) (.seq (reg Tryz.f103 1) Code.ret))
theorem body103 : Tryz.f103.body = some c103:=by kernel_rfl

noncomputable def b104_1 : Code:=(.seq (.seq (reg Tryz.f104 7) (.cond (Operand.tmp 28) Code.skip (Code.exit 0))) (.seq (.block 1 (reg Tryz.f104 9)) (reg Tryz.f104 8)))
noncomputable def c104 : Code:=(.seq (reg Tryz.f104 0) (.seq (.seq (reg Tryz.f104 1) (.cond (Operand.tmp 18) (.seq (reg Tryz.f104 2) Code.ret) Code.skip)) (.seq (.seq (reg Tryz.f104 3) (.cond (Operand.tmp 24) (.seq (reg Tryz.f104 4) Code.ret) Code.skip)) (.seq (reg Tryz.f104 5) (.seq (.seq (reg Tryz.f104 6) (.block 0 (.loop b104_1))) (.seq (reg Tryz.f104 10) Code.ret))))))
theorem body104 : Tryz.f104.body = some c104:=by kernel_rfl

noncomputable def b105_1 : Code:=(.seq (reg Tryz.f105 4) (.seq (.cond (Operand.tmp 20) Code.skip (Code.exit 0)) (.seq (.block 1 (.seq (reg Tryz.f105 5) (reg Tryz.f105 6))) (reg Tryz.f105 7))))
noncomputable def b105_2 : Code:=(.seq (reg Tryz.f105 10) (.seq (.cond (Operand.tmp 32) Code.skip (Code.exit 2)) (.seq (.block 3 (.seq (reg Tryz.f105 11) (reg Tryz.f105 12))) (reg Tryz.f105 13))))
noncomputable def c105 : Code:=(.seq (reg Tryz.f105 0) (.seq (reg Tryz.f105 1) (.seq (reg Tryz.f105 2) (.seq (.seq (reg Tryz.f105 3) (.block 0 (.loop b105_1))) (.seq (reg Tryz.f105 8) (.seq (.seq (reg Tryz.f105 9) (.block 2 (.loop b105_2))) (.seq (reg Tryz.f105 14) Code.ret)))))))
theorem body105 : Tryz.f105.body = some c105:=by kernel_rfl

noncomputable def c106 : Code:=(.seq (reg Tryz.f106 0) (.seq (.seq (reg Tryz.f106 1) (.cond (Operand.tmp 6) (reg Tryz.f106 2) Code.skip)) (.seq (.seq (reg Tryz.f106 3) (.seq (reg Tryz.f106 4) (.cond (Operand.tmp 16) (reg Tryz.f106 5) Code.skip))) (.seq (reg Tryz.f106 6) Code.ret))))
theorem body106 : Tryz.f106.body = some c106:=by kernel_rfl

noncomputable def b107_1 : Code:=(.seq (reg Tryz.f107 4) (.seq (.cond (Operand.tmp 23) Code.skip (Code.exit 0)) (.seq (.block 1 (.seq (reg Tryz.f107 5) (.seq (reg Tryz.f107 6) (.cond (Operand.tmp 34) (.seq (reg Tryz.f107 7) Code.ret) Code.skip)))) (reg Tryz.f107 8))))
noncomputable def b107_3 : Code:=(.seq (reg Tryz.f107 15) (.seq (.cond (Operand.tmp 51) Code.skip (Code.exit 4)) (.seq (.block 5 (.seq (reg Tryz.f107 16) (.seq (reg Tryz.f107 17) (.cond (Operand.tmp 56) (.seq (reg Tryz.f107 18) Code.ret) Code.skip)))) (reg Tryz.f107 19))))
noncomputable def b107_2 : Code:=(.seq (reg Tryz.f107 10) (.seq (.cond (Operand.tmp 40) Code.skip (Code.exit 2)) (.seq (.block 3 (.seq (reg Tryz.f107 11) (.seq (.seq (reg Tryz.f107 12) (.cond (Operand.tmp 46) (.seq (reg Tryz.f107 13) Code.ret) Code.skip)) (.seq (reg Tryz.f107 14) (.block 4 (.loop b107_3)))))) (reg Tryz.f107 20))))
noncomputable def c107 : Code:=(.seq (reg Tryz.f107 0) (.seq (.seq (reg Tryz.f107 1) (.cond (Operand.tmp 18) (.seq (reg Tryz.f107 2) Code.ret) Code.skip)) (.seq (.seq (reg Tryz.f107 3) (.block 0 (.loop b107_1))) (.seq (.seq (reg Tryz.f107 9) (.block 2 (.loop b107_2))) (.seq (reg Tryz.f107 21) Code.ret)))))
theorem body107 : Tryz.f107.body = some c107:=by kernel_rfl

noncomputable def b108_1 : Code:=(.seq (reg Tryz.f108 4) (.seq (.cond (Operand.tmp 28) Code.skip (Code.exit 0)) (.seq (.block 1 (.seq (reg Tryz.f108 5) (.seq (reg Tryz.f108 6) (reg Tryz.f108 7)))) (reg Tryz.f108 8))))
noncomputable def b108_2 : Code:=(.seq (reg Tryz.f108 11) (.seq (.cond (Operand.tmp 53) Code.skip (Code.exit 2)) (.seq (.block 3 (.seq (reg Tryz.f108 12) (.seq (reg Tryz.f108 13) (reg Tryz.f108 14)))) (reg Tryz.f108 15))))
noncomputable def b108_4 : Code:=(.seq (reg Tryz.f108 24) (.seq (.cond (Operand.tmp 94) Code.skip (Code.exit 6)) (.seq (.block 7 (.seq (reg Tryz.f108 25) (reg Tryz.f108 26))) (reg Tryz.f108 27))))
noncomputable def b108_3 : Code:=(.seq (reg Tryz.f108 20) (.seq (.cond (Operand.tmp 80) Code.skip (Code.exit 4)) (.seq (.block 5 (.seq (reg Tryz.f108 21) (.seq (reg Tryz.f108 22) (.seq (reg Tryz.f108 23) (.block 6 (.loop b108_4)))))) (reg Tryz.f108 28))))
noncomputable def c108 : Code:=(.seq (reg Tryz.f108 0) (.seq (reg Tryz.f108 1) (.seq (reg Tryz.f108 2) (.seq (.seq (reg Tryz.f108 3) (.block 0 (.loop b108_1))) (.seq (reg Tryz.f108 9) (.seq (.seq (reg Tryz.f108 10) (.block 2 (.loop b108_2))) (.seq (reg Tryz.f108 16) (.seq (.seq (reg Tryz.f108 17) (.cond (Operand.tmp 74) (.seq (reg Tryz.f108 18) Code.ret) Code.skip)) (.seq (.seq (reg Tryz.f108 19) (.block 4 (.loop b108_3))) (.seq (reg Tryz.f108 29) Code.ret))))))))))
theorem body108 : Tryz.f108.body = some c108:=by kernel_rfl

noncomputable def b109_1 : Code:=(.seq (.seq (reg Tryz.f109 2) (.cond (Operand.tmp 8) Code.skip (Code.exit 0))) (.seq (.block 1 (.seq (reg Tryz.f109 4) (.cond (Operand.tmp 20) (.seq (reg Tryz.f109 5) Code.ret) Code.skip))) (reg Tryz.f109 3)))
noncomputable def c109 : Code:=(.seq (reg Tryz.f109 0) (.seq (.seq (reg Tryz.f109 1) (.block 0 (.loop b109_1))) (.seq (reg Tryz.f109 6) Code.ret)))
theorem body109 : Tryz.f109.body = some c109:=by kernel_rfl

noncomputable def b110_1 : Code:=(.seq (reg Tryz.f110 10) (.seq (.cond (Operand.tmp 42) Code.skip (Code.exit 0)) (.seq (.block 1 (reg Tryz.f110 11)) (reg Tryz.f110 12))))
noncomputable def c110 : Code:=(.seq (reg Tryz.f110 0) (.seq (.seq (reg Tryz.f110 1) (.cond (Operand.tmp 12) (.seq (reg Tryz.f110 2) Code.ret) Code.skip)) (.seq (.seq (reg Tryz.f110 3) (.cond (Operand.tmp 19) (.seq (reg Tryz.f110 4) Code.ret) Code.skip)) (.seq (reg Tryz.f110 5) (.seq (.seq (reg Tryz.f110 6) (.cond (Operand.tmp 36) (.seq (reg Tryz.f110 7) Code.ret) Code.skip)) (.seq (reg Tryz.f110 8) (.seq (.seq (reg Tryz.f110 9) (.block 0 (.loop b110_1))) (.seq (reg Tryz.f110 13) (.seq (reg Tryz.f110 14) (.seq (reg Tryz.f110 15) Code.ret))))))))))
theorem body110 : Tryz.f110.body = some c110:=by kernel_rfl

noncomputable def c111 : Code:=(.seq (reg Tryz.f111 0) (.seq (reg Tryz.f111 1) (.seq (reg Tryz.f111 2) Code.ret)))
theorem body111 : Tryz.f111.body = some c111:=by kernel_rfl

noncomputable def b112_1 : Code:=(.seq (reg Tryz.f112 4) (.seq (.cond (Operand.tmp 26) Code.skip (Code.exit 0)) (.seq (.block 1 (.seq (reg Tryz.f112 5) (reg Tryz.f112 6))) (reg Tryz.f112 7))))
noncomputable def c112 : Code:=(.seq (reg Tryz.f112 0) (.seq (reg Tryz.f112 1) (.seq (reg Tryz.f112 2) (.seq (.seq (reg Tryz.f112 3) (.block 0 (.loop b112_1))) (.seq (reg Tryz.f112 8) (.seq (reg Tryz.f112 9) (.seq (reg Tryz.f112 10) (.seq (reg Tryz.f112 11) Code.ret))))))))
theorem body112 : Tryz.f112.body = some c112:=by kernel_rfl

noncomputable def c113 : Code:=(.seq (reg Tryz.f113 0) (reg Tryz.f113 1))
theorem body113 : Tryz.f113.body = some c113:=by kernel_rfl

noncomputable def b114_1 : Code:=(.seq (reg Tryz.f114 4) (.seq (.cond (Operand.tmp 27) Code.skip (Code.exit 0)) (.seq (.block 1 (.seq (reg Tryz.f114 5) (reg Tryz.f114 6))) (reg Tryz.f114 7))))
noncomputable def b114_2 : Code:=(.seq (reg Tryz.f114 10) (.seq (.cond (Operand.tmp 49) Code.skip (Code.exit 2)) (.seq (.block 3 (.seq (reg Tryz.f114 11) (reg Tryz.f114 12))) (reg Tryz.f114 13))))
noncomputable def b114_4 : Code:=(.seq (reg Tryz.f114 21) (.seq (.cond (Operand.tmp 80) Code.skip (Code.exit 6)) (.seq (.block 7 (.seq (reg Tryz.f114 22) (reg Tryz.f114 23))) (reg Tryz.f114 24))))
noncomputable def b114_3 : Code:=(.seq (reg Tryz.f114 16) (.seq (.cond (Operand.tmp 65) Code.skip (Code.exit 4)) (.seq (.block 5 (.seq (reg Tryz.f114 17) (.seq (.seq (reg Tryz.f114 18) (.cond (Operand.tmp 69) (Code.exit 4) Code.skip)) (.seq (reg Tryz.f114 19) (.seq (reg Tryz.f114 20) (.block 6 (.loop b114_4))))))) (reg Tryz.f114 25))))
noncomputable def c114 : Code:=(.seq (reg Tryz.f114 0) (.seq (reg Tryz.f114 1) (.seq (reg Tryz.f114 2) (.seq (.seq (reg Tryz.f114 3) (.block 0 (.loop b114_1))) (.seq (reg Tryz.f114 8) (.seq (.seq (reg Tryz.f114 9) (.block 2 (.loop b114_2))) (.seq (reg Tryz.f114 14) (.seq (.seq (reg Tryz.f114 15) (.block 4 (.loop b114_3))) (.seq (reg Tryz.f114 26) Code.ret)))))))))
theorem body114 : Tryz.f114.body = some c114:=by kernel_rfl

noncomputable def c115 : Code:=(.seq (reg Tryz.f115 0) (.seq (.seq (reg Tryz.f115 1) (.cond (Operand.tmp 8) (.seq (reg Tryz.f115 2) Code.ret) Code.skip)) (.seq (reg Tryz.f115 3) Code.ret)))
theorem body115 : Tryz.f115.body = some c115:=by kernel_rfl

noncomputable def c116 : Code:=(.seq (reg Tryz.f116 0) (.seq (reg Tryz.f116 1) (.seq (reg Tryz.f116 2) Code.ret)))
theorem body116 : Tryz.f116.body = some c116:=by kernel_rfl

noncomputable def b117_1 : Code:=(.seq (.seq (reg Tryz.f117 3) (.cond (Operand.tmp 24) Code.skip (Code.exit 0))) (.block 1 (reg Tryz.f117 4)))
noncomputable def c117 : Code:=(.seq (reg Tryz.f117 0) (.seq (reg Tryz.f117 1) (.seq (reg Tryz.f117 2) (.seq (.block 0 (.loop b117_1)) (.seq (reg Tryz.f117 5) (.seq (reg Tryz.f117 6) (.seq (reg Tryz.f117 7) (.seq (reg Tryz.f117 8) Code.ret))))))))
theorem body117 : Tryz.f117.body = some c117:=by kernel_rfl

noncomputable def b118_1 : Code:=(.seq (.seq (reg Tryz.f118 9) (.cond (Operand.tmp 54) Code.skip (Code.exit 1))) (.seq (.block 2 (reg Tryz.f118 11)) (reg Tryz.f118 10)))
noncomputable def b118_2 : Code:=(.seq (.seq (reg Tryz.f118 14) (.cond (Operand.tmp 64) Code.skip (Code.exit 3))) (.seq (.block 4 (reg Tryz.f118 16)) (reg Tryz.f118 15)))
noncomputable def c118 : Code:=(.seq (reg Tryz.f118 0) (.seq (.block 0 (.seq (reg Tryz.f118 1) (.cond (Operand.tmp 11) (.seq (reg Tryz.f118 2) Code.ret) (.seq (reg Tryz.f118 3) (.cond (Operand.tmp 16) (.seq (reg Tryz.f118 4) Code.ret) (.seq (reg Tryz.f118 5) (.cond (Operand.tmp 24) (.seq (reg Tryz.f118 6) Code.ret) Code.skip))))))) (.seq (reg Tryz.f118 7) (.seq (.seq (reg Tryz.f118 8) (.block 1 (.loop b118_1))) (.seq (reg Tryz.f118 12) (.seq (.seq (reg Tryz.f118 13) (.block 3 (.loop b118_2))) (.seq (reg Tryz.f118 17) Code.ret)))))))
theorem body118 : Tryz.f118.body = some c118:=by kernel_rfl

noncomputable def b119_1 : Code:=(.seq (reg Tryz.f119 3) (.seq (.cond (Operand.tmp 11) Code.skip (Code.exit 0)) (.seq (.block 1 (.seq (reg Tryz.f119 4) (reg Tryz.f119 5))) (reg Tryz.f119 6))))
noncomputable def c119 : Code:=(.seq (reg Tryz.f119 0) (.seq (reg Tryz.f119 1) (.seq (.seq (reg Tryz.f119 2) (.block 0 (.loop b119_1))) (.seq (reg Tryz.f119 7) Code.ret))))
theorem body119 : Tryz.f119.body = some c119:=by kernel_rfl

noncomputable def b120_1 : Code:=(.seq (.seq (reg Tryz.f120 6) (.cond (Operand.tmp 39) Code.skip (Code.exit 0))) (.block 1 (.seq (reg Tryz.f120 7) (.seq (reg Tryz.f120 8) (.cond (Operand.tmp 45) (.seq (reg Tryz.f120 9) Code.ret) Code.skip)))))
noncomputable def c120 : Code:=(.seq (reg Tryz.f120 0) (.seq (.seq (reg Tryz.f120 1) (.cond (Operand.tmp 13) (.seq (reg Tryz.f120 2) Code.ret) Code.skip)) (.seq (.seq (reg Tryz.f120 3) (.cond (Operand.tmp 29) (.seq (reg Tryz.f120 4) Code.ret) Code.skip)) (.seq (reg Tryz.f120 5) (.seq (.block 0 (.loop b120_1)) (.seq (.seq (reg Tryz.f120 10) (.cond (Operand.tmp 52) (.seq (reg Tryz.f120 11) Code.ret) Code.skip)) (.seq (reg Tryz.f120 12) (.seq (reg Tryz.f120 13) Code.ret))))))))
theorem body120 : Tryz.f120.body = some c120:=by kernel_rfl

noncomputable def c121 : Code:=(.seq (reg Tryz.f121 0) (.seq (.seq (reg Tryz.f121 1) (.cond (Operand.tmp 11) (.seq (reg Tryz.f121 2) Code.ret) Code.skip)) (.seq (.seq (reg Tryz.f121 3) (.cond (Operand.tmp 27) (.seq (reg Tryz.f121 4) Code.ret) Code.skip)) (.seq (.seq (reg Tryz.f121 5) (.cond (Operand.tmp 33) (.seq (reg Tryz.f121 6) Code.ret) Code.skip)) (.seq (reg Tryz.f121 7) Code.ret)))))
theorem body121 : Tryz.f121.body = some c121:=by kernel_rfl

noncomputable def b122_2 : Code:=(.seq (.seq (reg Tryz.f122 9) (.cond (Operand.tmp 32) Code.skip (Code.exit 2))) (.seq (.block 3 (.seq (reg Tryz.f122 11) (.cond (Operand.tmp 44) (.seq (reg Tryz.f122 12) (reg Tryz.f122 13)) Code.skip))) (reg Tryz.f122 10)))
noncomputable def b122_1 : Code:=(.seq (.seq (reg Tryz.f122 4) (.cond (Operand.tmp 13) Code.skip (Code.exit 0))) (.seq (.block 1 (.seq (reg Tryz.f122 6) (.cond (Operand.tmp 25) (.seq (reg Tryz.f122 7) (.seq (.seq (reg Tryz.f122 8) (.block 2 (.loop b122_2))) (.seq (reg Tryz.f122 14) (.seq (reg Tryz.f122 15) Code.ret)))) Code.skip))) (reg Tryz.f122 5)))
noncomputable def c122 : Code:=(.seq (reg Tryz.f122 0) (.seq (.seq (reg Tryz.f122 1) (.cond (Operand.tmp 8) (.seq (reg Tryz.f122 2) Code.ret) Code.skip)) (.seq (.seq (reg Tryz.f122 3) (.block 0 (.loop b122_1))) (.seq (reg Tryz.f122 16) Code.ret))))
theorem body122 : Tryz.f122.body = some c122:=by kernel_rfl

noncomputable def b123_1 : Code:=(.seq (.seq (reg Tryz.f123 6) (.cond (Operand.tmp 41) Code.skip (Code.exit 0))) (.block 1 (.seq (reg Tryz.f123 7) (.seq (reg Tryz.f123 8) (.cond (Operand.tmp 45) (.seq (reg Tryz.f123 9) Code.ret) Code.skip)))))
noncomputable def c123 : Code:=(.seq (reg Tryz.f123 0) (.seq (.seq (reg Tryz.f123 1) (.cond (Operand.tmp 12) (.seq (reg Tryz.f123 2) Code.ret) Code.skip)) (.seq (.seq (reg Tryz.f123 3) (.cond (Operand.tmp 28) (.seq (reg Tryz.f123 4) Code.ret) Code.skip)) (.seq (reg Tryz.f123 5) (.seq (.block 0 (.loop b123_1)) (.seq (.seq (reg Tryz.f123 10) (.cond (Operand.tmp 54) (.seq (reg Tryz.f123 11) Code.ret) Code.skip)) (.seq (reg Tryz.f123 12) Code.ret)))))))
theorem body123 : Tryz.f123.body = some c123:=by kernel_rfl

noncomputable def c124 : Code:=(.seq (reg Tryz.f124 0) (.seq (.block 0 (.seq (reg Tryz.f124 1) (.cond (Operand.tmp 9) (.seq (reg Tryz.f124 2) Code.ret) (.seq (reg Tryz.f124 3) (.cond (Operand.tmp 13) (.seq (reg Tryz.f124 4) Code.ret) (.seq (reg Tryz.f124 5) (.cond (Operand.tmp 30) (.seq (reg Tryz.f124 6) Code.ret) Code.skip))))))) (.seq (reg Tryz.f124 7) Code.ret)))
theorem body124 : Tryz.f124.body = some c124:=by kernel_rfl

noncomputable def b125_3 : Code:=(.seq (reg Tryz.f125 19) (.seq (.cond (Operand.tmp 94) Code.skip (Code.exit 4)) (.seq (.block 5 (.seq (reg Tryz.f125 20) (reg Tryz.f125 21))) (reg Tryz.f125 22))))
noncomputable def b125_2 : Code:=(.seq (.seq (reg Tryz.f125 9) (.cond (Operand.tmp 34) Code.skip (Code.exit 2))) (.seq (.block 3 (.seq (reg Tryz.f125 11) (.seq (reg Tryz.f125 12) (.seq (.seq (reg Tryz.f125 13) (.cond (Operand.tmp 63) (Code.exit 3) Code.skip)) (.seq (reg Tryz.f125 14) (.seq (reg Tryz.f125 15) (.seq (reg Tryz.f125 16) (.seq (reg Tryz.f125 17) (.seq (.seq (reg Tryz.f125 18) (.block 4 (.loop b125_3))) (Code.exit 2)))))))))) (reg Tryz.f125 10)))
noncomputable def b125_1 : Code:=(.seq (.seq (reg Tryz.f125 5) (.cond (Operand.tmp 27) Code.skip (Code.exit 0))) (.seq (.block 1 (.seq (reg Tryz.f125 7) (.seq (reg Tryz.f125 8) (.block 2 (.loop b125_2))))) (reg Tryz.f125 6)))
noncomputable def c125 : Code:=(.seq (reg Tryz.f125 0) (.seq (reg Tryz.f125 1) (.seq (reg Tryz.f125 2) (.seq (reg Tryz.f125 3) (.seq (.seq (reg Tryz.f125 4) (.block 0 (.loop b125_1))) (.seq (reg Tryz.f125 23) Code.ret))))))
theorem body125 : Tryz.f125.body = some c125:=by kernel_rfl

noncomputable def c126 : Code:=(.seq (reg Tryz.f126 0) (.seq (reg Tryz.f126 1) Code.ret))
theorem body126 : Tryz.f126.body = some c126:=by kernel_rfl

noncomputable def b127_1 : Code:=(.seq (.seq (reg Tryz.f127 5) (.cond (Operand.tmp 25) Code.skip (Code.exit 0))) (.seq (.block 1 (reg Tryz.f127 7)) (reg Tryz.f127 6)))
noncomputable def c127 : Code:=(.seq (reg Tryz.f127 0) (.seq (.seq (reg Tryz.f127 1) (.cond (Operand.tmp 13) (.seq (reg Tryz.f127 2) Code.ret) Code.skip)) (.seq (reg Tryz.f127 3) (.seq (.seq (reg Tryz.f127 4) (.block 0 (.loop b127_1))) (.seq (reg Tryz.f127 8) Code.ret)))))
theorem body127 : Tryz.f127.body = some c127:=by kernel_rfl

noncomputable def b128_1 : Code:=(.seq (.seq (reg Tryz.f128 4) (.cond (Operand.tmp 34) Code.skip (Code.exit 0))) (.seq (.block 1 (.seq (reg Tryz.f128 6) (.cond (Operand.tmp 42) (.seq (reg Tryz.f128 7) Code.ret) Code.skip))) (reg Tryz.f128 5)))
noncomputable def c128 : Code:=(.seq (reg Tryz.f128 0) (.seq (reg Tryz.f128 1) (.seq (reg Tryz.f128 2) (.seq (.seq (reg Tryz.f128 3) (.block 0 (.loop b128_1))) (.seq (reg Tryz.f128 8) Code.ret)))))
theorem body128 : Tryz.f128.body = some c128:=by kernel_rfl

noncomputable def b129_1 : Code:=(.seq (reg Tryz.f129 3) (.seq (.cond (Operand.tmp 9) Code.skip (Code.exit 0)) (.seq (.block 1 (.seq (reg Tryz.f129 4) (reg Tryz.f129 5))) (reg Tryz.f129 6))))
noncomputable def c129 : Code:=(.seq (reg Tryz.f129 0) (.seq (reg Tryz.f129 1) (.seq (.seq (reg Tryz.f129 2) (.block 0 (.loop b129_1))) (.seq (reg Tryz.f129 7) Code.ret))))
theorem body129 : Tryz.f129.body = some c129:=by kernel_rfl

noncomputable def c130 : Code:=(.seq (reg Tryz.f130 0) (.seq (reg Tryz.f130 1) Code.ret))
theorem body130 : Tryz.f130.body = some c130:=by kernel_rfl

noncomputable def c131 : Code:=(.seq (reg Tryz.f131 0) (.seq (.block 0 (.seq (reg Tryz.f131 1) (.cond (Operand.tmp 8) (.seq (reg Tryz.f131 2) Code.ret) (.seq (reg Tryz.f131 3) (.cond (Operand.tmp 17) (.seq (reg Tryz.f131 4) Code.ret) (.seq (reg Tryz.f131 5) (.cond (Operand.tmp 21) (.seq (reg Tryz.f131 6) Code.ret) Code.skip))))))) (.seq (.seq (reg Tryz.f131 7) (.seq (reg Tryz.f131 8) (.cond (Operand.tmp 31) (.seq (reg Tryz.f131 9) Code.ret) Code.skip))) (.seq (.seq (reg Tryz.f131 10) (.cond (Operand.tmp 45) (.seq (reg Tryz.f131 11) Code.ret) Code.skip)) (.seq (.seq (reg Tryz.f131 12) (.cond (Operand.tmp 54) (.seq (reg Tryz.f131 13) Code.ret) Code.skip)) (.seq (reg Tryz.f131 14) Code.ret))))))
theorem body131 : Tryz.f131.body = some c131:=by kernel_rfl

noncomputable def b132_1 : Code:=(.seq (reg Tryz.f132 3) (.seq (.cond (Operand.tmp 20) Code.skip (Code.exit 0)) (.seq (.block 1 (.seq (reg Tryz.f132 4) (.seq (reg Tryz.f132 5) (.seq (.seq (reg Tryz.f132 6) (.cond (Operand.tmp 28) (.seq (reg Tryz.f132 7) Code.ret) Code.skip)) (reg Tryz.f132 8))))) (reg Tryz.f132 9))))
noncomputable def b132_2 : Code:=(.seq (reg Tryz.f132 11) (.seq (.cond (Operand.tmp 41) Code.skip (Code.exit 2)) (.seq (.block 3 (.seq (reg Tryz.f132 12) (.seq (reg Tryz.f132 13) (.cond (Operand.tmp 54) (.seq (reg Tryz.f132 14) Code.ret) Code.skip)))) (reg Tryz.f132 15))))
noncomputable def c132 : Code:=(.seq (reg Tryz.f132 0) (.seq (reg Tryz.f132 1) (.seq (.seq (reg Tryz.f132 2) (.block 0 (.loop b132_1))) (.seq (.seq (reg Tryz.f132 10) (.block 2 (.loop b132_2))) (.seq (reg Tryz.f132 16) Code.ret)))))
theorem body132 : Tryz.f132.body = some c132:=by kernel_rfl

noncomputable def b133_1 : Code:=(.seq (reg Tryz.f133 9) (.seq (.cond (Operand.tmp 30) Code.skip (Code.exit 0)) (.seq (.block 1 (.seq (reg Tryz.f133 10) (.seq (reg Tryz.f133 11) (.seq (reg Tryz.f133 12) (.cond (Operand.tmp 41) (.seq (reg Tryz.f133 13) Code.ret) Code.skip))))) (reg Tryz.f133 14))))
noncomputable def c133 : Code:=(.seq (reg Tryz.f133 0) (.seq (.seq (reg Tryz.f133 1) (.cond (Operand.tmp 13) (.seq (reg Tryz.f133 2) Code.ret) Code.skip)) (.seq (reg Tryz.f133 3) (.seq (.seq (reg Tryz.f133 4) (.cond (Operand.tmp 21) (.seq (reg Tryz.f133 5) Code.ret) Code.skip)) (.seq (.seq (reg Tryz.f133 6) (.cond (Operand.tmp 26) (.seq (reg Tryz.f133 7) Code.ret) Code.skip)) (.seq (.seq (reg Tryz.f133 8) (.block 0 (.loop b133_1))) (.seq (reg Tryz.f133 15) Code.ret)))))))
theorem body133 : Tryz.f133.body = some c133:=by kernel_rfl

noncomputable def c134 : Code:=(.seq (reg Tryz.f134 0) (.seq (reg Tryz.f134 1) Code.ret))
theorem body134 : Tryz.f134.body = some c134:=by kernel_rfl

noncomputable def b135_1 : Code:=(.seq (reg Tryz.f135 2) (.seq (.cond (Operand.tmp 9) Code.skip (Code.exit 0)) (.seq (.block 1 (.seq (reg Tryz.f135 3) (.seq (reg Tryz.f135 4) (.cond (Operand.tmp 17) (.seq (reg Tryz.f135 5) Code.ret) Code.skip)))) (reg Tryz.f135 6))))
noncomputable def c135 : Code:=(.seq (reg Tryz.f135 0) (.seq (.seq (reg Tryz.f135 1) (.block 0 (.loop b135_1))) (.seq (reg Tryz.f135 7) Code.ret)))
theorem body135 : Tryz.f135.body = some c135:=by kernel_rfl

noncomputable def b136_1 : Code:=(.seq (reg Tryz.f136 2) (.seq (.cond (Operand.tmp 17) Code.skip (Code.exit 0)) (.seq (.block 1 (.seq (reg Tryz.f136 3) (.seq (reg Tryz.f136 4) (.cond (Operand.tmp 24) (.seq (reg Tryz.f136 5) Code.ret) Code.skip)))) (reg Tryz.f136 6))))
noncomputable def b136_2 : Code:=(.seq (reg Tryz.f136 8) (.seq (.cond (Operand.tmp 31) Code.skip (Code.exit 2)) (.seq (.block 3 (.seq (reg Tryz.f136 9) (reg Tryz.f136 10))) (reg Tryz.f136 11))))
noncomputable def c136 : Code:=(.seq (reg Tryz.f136 0) (.seq (.seq (reg Tryz.f136 1) (.block 0 (.loop b136_1))) (.seq (.seq (reg Tryz.f136 7) (.block 2 (.loop b136_2))) (.seq (reg Tryz.f136 12) Code.ret))))
theorem body136 : Tryz.f136.body = some c136:=by kernel_rfl

noncomputable def b137_1 : Code:=(.seq (reg Tryz.f137 3) (.seq (.cond (Operand.tmp 9) Code.skip (Code.exit 0)) (.seq (.block 1 (.seq (reg Tryz.f137 4) (reg Tryz.f137 5))) (reg Tryz.f137 6))))
noncomputable def c137 : Code:=(.seq (reg Tryz.f137 0) (.seq (reg Tryz.f137 1) (.seq (.seq (reg Tryz.f137 2) (.block 0 (.loop b137_1))) (.seq (reg Tryz.f137 7) Code.ret))))
theorem body137 : Tryz.f137.body = some c137:=by kernel_rfl

noncomputable def b138_1 : Code:=(.seq (reg Tryz.f138 4) (.seq (.cond (Operand.tmp 15) Code.skip (Code.exit 0)) (.seq (.block 1 (.seq (reg Tryz.f138 5) (reg Tryz.f138 6))) (reg Tryz.f138 7))))
noncomputable def c138 : Code:=(.seq (reg Tryz.f138 0) (.seq (reg Tryz.f138 1) (.seq (reg Tryz.f138 2) (.seq (.seq (reg Tryz.f138 3) (.block 0 (.loop b138_1))) (.seq (reg Tryz.f138 8) Code.ret)))))
theorem body138 : Tryz.f138.body = some c138:=by kernel_rfl

noncomputable def c139 : Code:=(.seq (reg Tryz.f139 0) (.seq (.seq (reg Tryz.f139 1) (.cond (Operand.tmp 30) (.seq (reg Tryz.f139 2) Code.ret) Code.skip)) (.seq (.seq (reg Tryz.f139 3) (.cond (Operand.tmp 37) (.seq (reg Tryz.f139 4) Code.ret) Code.skip)) (.seq (reg Tryz.f139 5) Code.ret))))
theorem body139 : Tryz.f139.body = some c139:=by kernel_rfl

noncomputable def c140 : Code:=(.seq (reg Tryz.f140 0) (.seq (reg Tryz.f140 1) (.seq (reg Tryz.f140 2) Code.ret)))
theorem body140 : Tryz.f140.body = some c140:=by kernel_rfl

noncomputable def b141_2 : Code:=(.seq (.seq (reg Tryz.f141 6) (.cond (Operand.tmp 24) Code.skip (Code.exit 2))) (.block 3 (reg Tryz.f141 7)))
noncomputable def b141_1 : Code:=(.seq (reg Tryz.f141 3) (.seq (.cond (Operand.tmp 10) Code.skip (Code.exit 0)) (.seq (.block 1 (.seq (reg Tryz.f141 4) (.seq (reg Tryz.f141 5) (.seq (.block 2 (.loop b141_2)) (reg Tryz.f141 8))))) (reg Tryz.f141 9))))
noncomputable def c141 : Code:=(.seq (reg Tryz.f141 0) (.seq (reg Tryz.f141 1) (.seq (.seq (reg Tryz.f141 2) (.block 0 (.loop b141_1))) (.seq (.seq (reg Tryz.f141 10) (.cond (Operand.tmp 41) (.seq (reg Tryz.f141 11) Code.ret) Code.skip)) (.seq (reg Tryz.f141 12) Code.ret)))))
theorem body141 : Tryz.f141.body = some c141:=by kernel_rfl

noncomputable def c142 : Code:=(.seq (reg Tryz.f142 0) (.seq (reg Tryz.f142 1) Code.ret))
theorem body142 : Tryz.f142.body = some c142:=by kernel_rfl

noncomputable def b143_1 : Code:=(.seq (.seq (reg Tryz.f143 7) (.cond (Operand.tmp 16) Code.skip (Code.exit 0))) (.seq (.block 1 (.seq (reg Tryz.f143 9) (.cond (Operand.tmp 23) (reg Tryz.f143 10) Code.skip))) (reg Tryz.f143 8)))
noncomputable def c143 : Code:=(.seq (reg Tryz.f143 0) (.seq (.seq (reg Tryz.f143 1) (.cond (Operand.tmp 8) (.seq (reg Tryz.f143 2) Code.ret) Code.skip)) (.seq (.seq (reg Tryz.f143 3) (.cond (Operand.tmp 11) (.seq (reg Tryz.f143 4) Code.ret) Code.skip)) (.seq (reg Tryz.f143 5) (.seq (.seq (reg Tryz.f143 6) (.block 0 (.loop b143_1))) (.seq (reg Tryz.f143 11) Code.ret))))))
theorem body143 : Tryz.f143.body = some c143:=by kernel_rfl

noncomputable def c144 : Code:=(.seq (reg Tryz.f144 0) (.seq (reg Tryz.f144 1) Code.ret))
theorem body144 : Tryz.f144.body = some c144:=by kernel_rfl

noncomputable def b145_1 : Code:=(.seq (reg Tryz.f145 6) (.seq (.cond (Operand.tmp 62) Code.skip (Code.exit 0)) (.seq (.block 1 (.seq (reg Tryz.f145 7) (.seq (reg Tryz.f145 8) (.cond (Operand.tmp 89) (.seq (reg Tryz.f145 9) Code.ret) Code.skip)))) (reg Tryz.f145 10))))
noncomputable def c145 : Code:=(.seq (reg Tryz.f145 0) (.seq (.seq (reg Tryz.f145 1) (.cond (Operand.tmp 29) (.seq (reg Tryz.f145 2) Code.ret) Code.skip)) (.seq (.seq (reg Tryz.f145 3) (.cond (Operand.tmp 57) (.seq (reg Tryz.f145 4) Code.ret) Code.skip)) (.seq (.seq (reg Tryz.f145 5) (.block 0 (.loop b145_1))) (.seq (reg Tryz.f145 11) (.seq (reg Tryz.f145 12) Code.ret))))))
theorem body145 : Tryz.f145.body = some c145:=by kernel_rfl

noncomputable def b146_1 : Code:=(.seq (.seq (reg Tryz.f146 2) (.cond (Operand.tmp 13) Code.skip (Code.exit 0))) (.block 1 (reg Tryz.f146 3)))
noncomputable def b146_2 : Code:=(.seq (.seq (reg Tryz.f146 5) (.cond (Operand.tmp 18) Code.skip (Code.exit 2))) (.seq (.block 3 (reg Tryz.f146 7)) (reg Tryz.f146 6)))
noncomputable def c146 : Code:=(.seq (reg Tryz.f146 0) (.seq (reg Tryz.f146 1) (.seq (.block 0 (.loop b146_1)) (.seq (.seq (reg Tryz.f146 4) (.block 2 (.loop b146_2))) (.seq (reg Tryz.f146 8) Code.ret)))))
theorem body146 : Tryz.f146.body = some c146:=by kernel_rfl

noncomputable def c147 : Code:=(.seq (reg Tryz.f147 0) (.seq (reg Tryz.f147 1) Code.ret))
theorem body147 : Tryz.f147.body = some c147:=by kernel_rfl

noncomputable def b148_1 : Code:=(.seq (.seq (reg Tryz.f148 4) (.cond (Operand.tmp 38) Code.skip (Code.exit 0))) (.seq (.block 1 (.seq (reg Tryz.f148 6) (.seq (reg Tryz.f148 7) (reg Tryz.f148 8)))) (reg Tryz.f148 5)))
noncomputable def c148 : Code:=(.seq (reg Tryz.f148 0) (.seq (reg Tryz.f148 1) (.seq (reg Tryz.f148 2) (.seq (.seq (reg Tryz.f148 3) (.block 0 (.loop b148_1))) (.seq (reg Tryz.f148 9) Code.ret)))))
theorem body148 : Tryz.f148.body = some c148:=by kernel_rfl

noncomputable def b149_1 : Code:=(.seq (reg Tryz.f149 6) (.seq (.cond (Operand.tmp 21) Code.skip (Code.exit 0)) (.seq (.block 1 (.seq (reg Tryz.f149 7) (reg Tryz.f149 8))) (reg Tryz.f149 9))))
noncomputable def c149 : Code:=(.seq (reg Tryz.f149 0) (.seq (.seq (reg Tryz.f149 1) (.seq (reg Tryz.f149 2) (.cond (Operand.tmp 17) (.seq (reg Tryz.f149 3) Code.ret) Code.skip))) (.seq (reg Tryz.f149 4) (.seq (.seq (reg Tryz.f149 5) (.block 0 (.loop b149_1))) (.seq (reg Tryz.f149 10) Code.ret)))))
theorem body149 : Tryz.f149.body = some c149:=by kernel_rfl

noncomputable def b150_1 : Code:=(.seq (reg Tryz.f150 6) (.seq (.cond (Operand.tmp 21) Code.skip (Code.exit 0)) (.seq (.block 1 (.seq (reg Tryz.f150 7) (reg Tryz.f150 8))) (reg Tryz.f150 9))))
noncomputable def c150 : Code:=(.seq (reg Tryz.f150 0) (.seq (.seq (reg Tryz.f150 1) (.seq (reg Tryz.f150 2) (.cond (Operand.tmp 17) (.seq (reg Tryz.f150 3) Code.ret) Code.skip))) (.seq (reg Tryz.f150 4) (.seq (.seq (reg Tryz.f150 5) (.block 0 (.loop b150_1))) (.seq (reg Tryz.f150 10) Code.ret)))))
theorem body150 : Tryz.f150.body = some c150:=by kernel_rfl

noncomputable def b151_1 : Code:=(.seq (reg Tryz.f151 6) (.seq (.cond (Operand.tmp 21) Code.skip (Code.exit 0)) (.seq (.block 1 (.seq (reg Tryz.f151 7) (reg Tryz.f151 8))) (reg Tryz.f151 9))))
noncomputable def c151 : Code:=(.seq (reg Tryz.f151 0) (.seq (.seq (reg Tryz.f151 1) (.seq (reg Tryz.f151 2) (.cond (Operand.tmp 17) (.seq (reg Tryz.f151 3) Code.ret) Code.skip))) (.seq (reg Tryz.f151 4) (.seq (.seq (reg Tryz.f151 5) (.block 0 (.loop b151_1))) (.seq (reg Tryz.f151 10) Code.ret)))))
theorem body151 : Tryz.f151.body = some c151:=by kernel_rfl

noncomputable def b152_1 : Code:=(.seq (reg Tryz.f152 6) (.seq (.cond (Operand.tmp 21) Code.skip (Code.exit 0)) (.seq (.block 1 (.seq (reg Tryz.f152 7) (reg Tryz.f152 8))) (reg Tryz.f152 9))))
noncomputable def c152 : Code:=(.seq (reg Tryz.f152 0) (.seq (.seq (reg Tryz.f152 1) (.seq (reg Tryz.f152 2) (.cond (Operand.tmp 17) (.seq (reg Tryz.f152 3) Code.ret) Code.skip))) (.seq (reg Tryz.f152 4) (.seq (.seq (reg Tryz.f152 5) (.block 0 (.loop b152_1))) (.seq (reg Tryz.f152 10) Code.ret)))))
theorem body152 : Tryz.f152.body = some c152:=by kernel_rfl

noncomputable def b153_1 : Code:=(.seq (reg Tryz.f153 3) (.seq (.cond (Operand.tmp 9) Code.skip (Code.exit 0)) (.seq (.block 1 (.seq (reg Tryz.f153 4) (reg Tryz.f153 5))) (reg Tryz.f153 6))))
noncomputable def c153 : Code:=(.seq (reg Tryz.f153 0) (.seq (reg Tryz.f153 1) (.seq (.seq (reg Tryz.f153 2) (.block 0 (.loop b153_1))) (.seq (reg Tryz.f153 7) Code.ret))))
theorem body153 : Tryz.f153.body = some c153:=by kernel_rfl

noncomputable def b154_1 : Code:=(.seq (reg Tryz.f154 5) (.seq (.cond (Operand.tmp 19) Code.skip (Code.exit 0)) (.seq (.block 1 (.seq (reg Tryz.f154 6) (reg Tryz.f154 7))) (reg Tryz.f154 8))))
noncomputable def c154 : Code:=(.seq (reg Tryz.f154 0) (.seq (reg Tryz.f154 1) (.seq (reg Tryz.f154 2) (.seq (reg Tryz.f154 3) (.seq (.seq (reg Tryz.f154 4) (.block 0 (.loop b154_1))) (.seq (reg Tryz.f154 9) Code.ret))))))
theorem body154 : Tryz.f154.body = some c154:=by kernel_rfl

noncomputable def b155_1 : Code:=(.seq (reg Tryz.f155 5) (.seq (.cond (Operand.tmp 36) Code.skip (Code.exit 0)) (.seq (.block 1 (.seq (reg Tryz.f155 6) (.seq (reg Tryz.f155 7) (.seq (reg Tryz.f155 8) (reg Tryz.f155 9))))) (reg Tryz.f155 10))))
noncomputable def c155 : Code:=(.seq (reg Tryz.f155 0) (.seq (reg Tryz.f155 1) (.seq (reg Tryz.f155 2) (.seq (reg Tryz.f155 3) (.seq (.seq (reg Tryz.f155 4) (.block 0 (.loop b155_1))) (.seq (reg Tryz.f155 11) Code.ret))))))
theorem body155 : Tryz.f155.body = some c155:=by kernel_rfl

noncomputable def c156 : Code:=(.seq (reg Tryz.f156 0) (.seq (reg Tryz.f156 1) Code.ret))
theorem body156 : Tryz.f156.body = some c156:=by kernel_rfl

noncomputable def c157 : Code:=(.seq (reg Tryz.f157 0) (.seq (.seq (reg Tryz.f157 1) (.cond (Operand.tmp 20) (.seq (reg Tryz.f157 2) Code.ret) Code.skip)) (.seq (reg Tryz.f157 3) Code.ret)))
theorem body157 : Tryz.f157.body = some c157:=by kernel_rfl

noncomputable def c158 : Code:=(.seq (reg Tryz.f158 0) (.seq (reg Tryz.f158 1) (.seq (reg Tryz.f158 2) (.seq (reg Tryz.f158 3) Code.ret))))
theorem body158 : Tryz.f158.body = some c158:=by kernel_rfl

noncomputable def c159 : Code:=(.seq (.seq (reg Tryz.f159 0) (.cond (Operand.tmp 10) (reg Tryz.f159 1) Code.skip)) (.seq (.seq (reg Tryz.f159 2) (.cond (Operand.tmp 22) (reg Tryz.f159 3) Code.skip)) (reg Tryz.f159 4)))
theorem body159 : Tryz.f159.body = some c159:=by kernel_rfl

noncomputable def b160_1 : Code:=(.seq (reg Tryz.f160 1) (.seq (.cond (Operand.tmp 9) Code.skip (Code.exit 0)) (.seq (.block 1 (.seq (reg Tryz.f160 2) (reg Tryz.f160 3))) (reg Tryz.f160 4))))
noncomputable def c160 : Code:=(.seq (reg Tryz.f160 0) (.block 0 (.loop b160_1)))
theorem body160 : Tryz.f160.body = some c160:=by kernel_rfl

noncomputable def c161 : Code:=(.seq (reg Tryz.f161 0) (.seq (reg Tryz.f161 1) (.seq (reg Tryz.f161 2) (.seq (reg Tryz.f161 3) (.seq (reg Tryz.f161 4) (.seq (reg Tryz.f161 5) (.seq (reg Tryz.f161 6) (.seq (reg Tryz.f161 7) (.seq (reg Tryz.f161 8) (.seq (reg Tryz.f161 9) (.seq (reg Tryz.f161 10) (.seq (reg Tryz.f161 11) Code.ret))))))))))))
theorem body161 : Tryz.f161.body = some c161:=by kernel_rfl

noncomputable def c162 : Code:=(.seq (reg Tryz.f162 0) (.seq (reg Tryz.f162 1) (.seq (reg Tryz.f162 2) (.seq (reg Tryz.f162 3) (.seq (reg Tryz.f162 4) Code.ret)))))
theorem body162 : Tryz.f162.body = some c162:=by kernel_rfl

noncomputable def b163_1 : Code:=(.seq (reg Tryz.f163 2) (.seq (.cond (Operand.tmp 7) Code.skip (Code.exit 0)) (.seq (.block 1 (.seq (reg Tryz.f163 3) (.seq (reg Tryz.f163 4) (.seq (reg Tryz.f163 5) (.seq (reg Tryz.f163 6) (.seq (reg Tryz.f163 7) (.seq (reg Tryz.f163 8) (.seq (reg Tryz.f163 9) (.seq (reg Tryz.f163 10) (.seq (reg Tryz.f163 11) (.seq (reg Tryz.f163 12) (.seq (reg Tryz.f163 13) (.seq (reg Tryz.f163 14) (.seq (reg Tryz.f163 15) (reg Tryz.f163 16))))))))))))))) (reg Tryz.f163 17))))
noncomputable def c163 : Code:=(.seq (reg Tryz.f163 0) (.seq (.seq (reg Tryz.f163 1) (.block 0 (.loop b163_1))) (.seq (reg Tryz.f163 18) Code.ret)))
theorem body163 : Tryz.f163.body = some c163:=by kernel_rfl

noncomputable def b164_1 : Code:=(.block 1 (.seq (reg Tryz.f164 2) (.seq (.seq (reg Tryz.f164 3) (.cond (Operand.tmp 23) (.seq (reg Tryz.f164 4) Code.ret) Code.skip)) (.seq (.seq (reg Tryz.f164 5) (.cond (Operand.tmp 29) (.seq (reg Tryz.f164 6) Code.ret) Code.skip)) (.seq (.seq (reg Tryz.f164 7) (.cond (Operand.tmp 35) (.seq (reg Tryz.f164 8) (reg Tryz.f164 9)) Code.skip)) (.seq (reg Tryz.f164 10) (.seq (.seq (reg Tryz.f164 11) (.cond (Operand.tmp 50) (.seq (reg Tryz.f164 12) (.seq (reg Tryz.f164 13) (reg Tryz.f164 14))) Code.skip)) (.seq (.seq (reg Tryz.f164 15) (.cond (Operand.tmp 68) (.seq (reg Tryz.f164 16) (.cond (Operand.tmp 72) Code.ret Code.skip)) Code.skip)) (.seq (.seq (reg Tryz.f164 17) (.cond (Operand.tmp 87) (.seq (reg Tryz.f164 18) (.seq (reg Tryz.f164 19) (Code.exit 1))) Code.skip)) (.seq (reg Tryz.f164 20) (.seq (reg Tryz.f164 21) (.seq (reg Tryz.f164 22) (.seq (reg Tryz.f164 23) (.seq (reg Tryz.f164 24) (.cond (Operand.tmp 113) (.seq (reg Tryz.f164 25) (.seq (reg Tryz.f164 26) (reg Tryz.f164 27))) (.seq (reg Tryz.f164 28) (.seq (reg Tryz.f164 29) (reg Tryz.f164 30))))))))))))))))))
noncomputable def c164 : Code:=(.seq (reg Tryz.f164 0) (.seq (reg Tryz.f164 1) (.block 0 (.loop b164_1))))
theorem body164 : Tryz.f164.body = some c164:=by kernel_rfl

noncomputable def c165 : Code:=(.seq (reg Tryz.f165 0) (.seq (.cond (Operand.const (Value.bool false)) (.seq (reg Tryz.f165 1) Code.ret) Code.skip) (.seq (reg Tryz.f165 2) Code.ret)))
theorem body165 : Tryz.f165.body = some c165:=by kernel_rfl

noncomputable def c166 : Code:=(.seq (reg Tryz.f166 0) (.seq (reg Tryz.f166 1) Code.ret))
theorem body166 : Tryz.f166.body = some c166:=by kernel_rfl

noncomputable def c167 : Code:=(.seq (reg Tryz.f167 0) (.seq (reg Tryz.f167 1) (.seq (reg Tryz.f167 2) (.seq (reg Tryz.f167 3) (.seq (reg Tryz.f167 4) Code.ret)))))
theorem body167 : Tryz.f167.body = some c167:=by kernel_rfl

noncomputable def c168 : Code:=(.seq (reg Tryz.f168 0) (.seq (reg Tryz.f168 1) (.seq (reg Tryz.f168 2) (.seq (reg Tryz.f168 3) (.seq (reg Tryz.f168 4) (.seq (reg Tryz.f168 5) (.seq (reg Tryz.f168 6) (.seq (reg Tryz.f168 7) (.seq (reg Tryz.f168 8) (.seq (reg Tryz.f168 9) (.seq (reg Tryz.f168 10) (.seq (reg Tryz.f168 11) Code.ret))))))))))))
theorem body168 : Tryz.f168.body = some c168:=by kernel_rfl

noncomputable def b169_1 : Code:=(.seq (.seq (reg Tryz.f169 4) (.cond (Operand.tmp 29) Code.skip (Code.exit 0))) (.seq (.block 1 (.seq (reg Tryz.f169 6) (.cond (Operand.tmp 34) (.seq (reg Tryz.f169 7) Code.ret) Code.skip))) (reg Tryz.f169 5)))
noncomputable def c169 : Code:=(.seq (reg Tryz.f169 0) (.seq (.seq (reg Tryz.f169 1) (.cond (Operand.tmp 21) (.seq (reg Tryz.f169 2) Code.ret) Code.skip)) (.seq (.seq (reg Tryz.f169 3) (.block 0 (.loop b169_1))) (.seq (reg Tryz.f169 8) Code.ret))))
theorem body169 : Tryz.f169.body = some c169:=by kernel_rfl

noncomputable def c170 : Code:=(.seq (reg Tryz.f170 0) (.seq (.seq (reg Tryz.f170 1) (.cond (Operand.tmp 8) (reg Tryz.f170 2) Code.skip)) (.seq (.seq (reg Tryz.f170 3) (.cond (Operand.tmp 14) (reg Tryz.f170 4) Code.skip)) (.seq (reg Tryz.f170 5) (.seq (reg Tryz.f170 6) Code.ret)))))
theorem body170 : Tryz.f170.body = some c170:=by kernel_rfl

noncomputable def c171 : Code:=(.seq (reg Tryz.f171 0) (.seq (reg Tryz.f171 1) Code.ret))
theorem body171 : Tryz.f171.body = some c171:=by kernel_rfl

noncomputable def b172_1 : Code:=(.seq (reg Tryz.f172 3) (.seq (.cond (Operand.tmp 11) Code.skip (Code.exit 0)) (.seq (.block 1 (.seq (reg Tryz.f172 4) (.seq (reg Tryz.f172 5) (.seq (reg Tryz.f172 6) (.cond (Operand.tmp 19) (reg Tryz.f172 7) Code.skip))))) (reg Tryz.f172 8))))
noncomputable def c172 : Code:=(.seq (reg Tryz.f172 0) (.seq (reg Tryz.f172 1) (.seq (.seq (reg Tryz.f172 2) (.block 0 (.loop b172_1))) (.seq (reg Tryz.f172 9) Code.ret))))
theorem body172 : Tryz.f172.body = some c172:=by kernel_rfl

noncomputable def c173 : Code:=(.seq (reg Tryz.f173 0) (.seq (reg Tryz.f173 1) Code.ret))
theorem body173 : Tryz.f173.body = some c173:=by kernel_rfl

noncomputable def b174_1 : Code:=(.seq (.seq (reg Tryz.f174 3) (.cond (Operand.tmp 14) Code.skip (Code.exit 0))) (.seq (.block 1 (.seq (reg Tryz.f174 5) (.seq (reg Tryz.f174 6) (.cond (Operand.tmp 21) (reg Tryz.f174 7) Code.skip)))) (reg Tryz.f174 4)))
noncomputable def c174 : Code:=(.seq (reg Tryz.f174 0) (.seq (reg Tryz.f174 1) (.seq (.seq (reg Tryz.f174 2) (.block 0 (.loop b174_1))) (.seq (reg Tryz.f174 8) Code.ret))))
theorem body174 : Tryz.f174.body = some c174:=by kernel_rfl

noncomputable def c175 : Code:=(.seq (reg Tryz.f175 0) (.seq (reg Tryz.f175 1) (.seq (reg Tryz.f175 2) (.seq (reg Tryz.f175 3) (.seq (reg Tryz.f175 4) (.seq (.seq (reg Tryz.f175 5) (.cond (Operand.tmp 36) (.seq (reg Tryz.f175 6) (reg Tryz.f175 7)) Code.skip)) (.seq (reg Tryz.f175 8) (.seq (reg Tryz.f175 9) Code.ret))))))))
theorem body175 : Tryz.f175.body = some c175:=by kernel_rfl

noncomputable def c176 : Code:=(.seq (reg Tryz.f176 0) (.seq (.seq (reg Tryz.f176 1) (.cond (Operand.tmp 5) (.seq (reg Tryz.f176 2) Code.ret) Code.skip)) (.seq (reg Tryz.f176 3) Code.ret)))
theorem body176 : Tryz.f176.body = some c176:=by kernel_rfl

noncomputable def c177 : Code:=(.seq (reg Tryz.f177 0) (.seq (reg Tryz.f177 1) Code.ret))
theorem body177 : Tryz.f177.body = some c177:=by kernel_rfl

noncomputable def c178 : Code:=(.seq (reg Tryz.f178 0) (.seq (.seq (reg Tryz.f178 1) (.cond (Operand.tmp 5) (.seq (reg Tryz.f178 2) Code.ret) Code.skip)) (.seq (reg Tryz.f178 3) Code.ret)))
theorem body178 : Tryz.f178.body = some c178:=by kernel_rfl

noncomputable def c179 : Code:=(.seq (reg Tryz.f179 0) (.seq (.seq (reg Tryz.f179 1) (.cond (Operand.tmp 11) (.seq (reg Tryz.f179 2) Code.ret) Code.skip)) (.seq (reg Tryz.f179 3) (.seq (reg Tryz.f179 4) Code.ret))))
theorem body179 : Tryz.f179.body = some c179:=by kernel_rfl

noncomputable def b180_1 : Code:=(.seq (reg Tryz.f180 5) (.seq (.cond (Operand.tmp 24) Code.skip (Code.exit 0)) (.seq (.block 1 (.seq (reg Tryz.f180 6) (.seq (.seq (reg Tryz.f180 7) (.cond (Operand.tmp 54) (.seq (reg Tryz.f180 8) Code.ret) Code.skip)) (.seq (.seq (reg Tryz.f180 9) (.cond (Operand.tmp 71) (.seq (reg Tryz.f180 10) Code.ret) Code.skip)) (.seq (reg Tryz.f180 11) (.seq (reg Tryz.f180 12) (.cond (Operand.tmp 78) (.seq (reg Tryz.f180 13) Code.ret) Code.skip))))))) (reg Tryz.f180 14))))
noncomputable def c180 : Code:=(.seq (reg Tryz.f180 0) (.seq (.seq (reg Tryz.f180 1) (.cond (Operand.tmp 19) (.seq (reg Tryz.f180 2) Code.ret) Code.skip)) (.seq (reg Tryz.f180 3) (.seq (.seq (reg Tryz.f180 4) (.block 0 (.loop b180_1))) (.seq (reg Tryz.f180 15) Code.ret)))))
theorem body180 : Tryz.f180.body = some c180:=by kernel_rfl

noncomputable def b181_1 : Code:=(.seq (reg Tryz.f181 6) (.seq (.cond (Operand.tmp 23) Code.skip (Code.exit 0)) (.seq (.block 1 (.seq (reg Tryz.f181 7) (.seq (reg Tryz.f181 8) (.cond (Operand.tmp 31) (.seq (reg Tryz.f181 9) Code.ret) Code.skip)))) (reg Tryz.f181 10))))
noncomputable def b181_2 : Code:=(.seq (reg Tryz.f181 13) (.seq (.cond (Operand.tmp 37) Code.skip (Code.exit 2)) (.seq (.block 3 (.seq (reg Tryz.f181 14) (.seq (reg Tryz.f181 15) (.seq (reg Tryz.f181 16) (.cond (Operand.tmp 43) (.seq (reg Tryz.f181 17) Code.ret) Code.skip))))) (reg Tryz.f181 18))))
noncomputable def b181_3 : Code:=(.seq (reg Tryz.f181 20) (.seq (.cond (Operand.tmp 50) Code.skip (Code.exit 4)) (.seq (.block 5 (.seq (reg Tryz.f181 21) (.seq (reg Tryz.f181 22) (.seq (.seq (reg Tryz.f181 23) (.cond (Operand.tmp 58) (.seq (reg Tryz.f181 24) Code.ret) Code.skip)) (reg Tryz.f181 25))))) (reg Tryz.f181 26))))
noncomputable def c181 : Code:=(.seq (reg Tryz.f181 0) (.seq (.seq (reg Tryz.f181 1) (.cond (Operand.tmp 14) (.seq (reg Tryz.f181 2) Code.ret) Code.skip)) (.seq (.seq (reg Tryz.f181 3) (.cond (Operand.tmp 18) (.seq (reg Tryz.f181 4) Code.ret) Code.skip)) (.seq (.seq (reg Tryz.f181 5) (.block 0 (.loop b181_1))) (.seq (reg Tryz.f181 11) (.seq (.seq (reg Tryz.f181 12) (.block 2 (.loop b181_2))) (.seq (.seq (reg Tryz.f181 19) (.block 4 (.loop b181_3))) (.seq (.block 6 (.seq (reg Tryz.f181 27) (.cond (Operand.tmp 64) (.seq (reg Tryz.f181 28) Code.ret) (.seq (reg Tryz.f181 29) (.cond (Operand.tmp 68) (.seq (reg Tryz.f181 30) Code.ret) (.seq (reg Tryz.f181 31) (.cond (Operand.tmp 71) (.seq (reg Tryz.f181 32) Code.ret) Code.skip))))))) (.seq (reg Tryz.f181 33) Code.ret)))))))))
theorem body181 : Tryz.f181.body = some c181:=by kernel_rfl

noncomputable def b182_1 : Code:=(.seq (reg Tryz.f182 4) (.seq (.cond (Operand.tmp 16) Code.skip (Code.exit 0)) (.seq (.block 1 (.seq (reg Tryz.f182 5) (.seq (reg Tryz.f182 6) (.cond (Operand.tmp 21) (.seq (reg Tryz.f182 7) Code.ret) Code.skip)))) (reg Tryz.f182 8))))
noncomputable def c182 : Code:=(.seq (reg Tryz.f182 0) (.seq (.seq (reg Tryz.f182 1) (.cond (Operand.tmp 11) (.seq (reg Tryz.f182 2) Code.ret) Code.skip)) (.seq (.seq (reg Tryz.f182 3) (.block 0 (.loop b182_1))) (.seq (reg Tryz.f182 9) Code.ret))))
theorem body182 : Tryz.f182.body = some c182:=by kernel_rfl

noncomputable def c183 : Code:=(.seq (reg Tryz.f183 0) (.seq (reg Tryz.f183 1) (.seq (reg Tryz.f183 2) Code.ret)))
theorem body183 : Tryz.f183.body = some c183:=by kernel_rfl

noncomputable def b184_1 : Code:=(.seq (reg Tryz.f184 7) (.seq (.cond (Operand.tmp 27) Code.skip (Code.exit 0)) (.seq (.block 1 (.seq (reg Tryz.f184 8) (.seq (reg Tryz.f184 9) (.cond (Operand.tmp 40) (.seq (reg Tryz.f184 10) Code.ret) Code.skip)))) (reg Tryz.f184 11))))
noncomputable def b184_2 : Code:=(.seq (reg Tryz.f184 14) (.seq (.cond (Operand.tmp 45) Code.skip (Code.exit 2)) (.seq (.block 3 (.seq (reg Tryz.f184 15) (.seq (.seq (reg Tryz.f184 16) (.cond (Operand.tmp 57) (.seq (reg Tryz.f184 17) Code.ret) Code.skip)) (reg Tryz.f184 18)))) (reg Tryz.f184 19))))
noncomputable def b184_3 : Code:=(.seq (reg Tryz.f184 23) (.seq (.cond (Operand.tmp 70) Code.skip (Code.exit 4)) (.seq (.block 5 (.seq (reg Tryz.f184 24) (reg Tryz.f184 25))) (reg Tryz.f184 26))))
noncomputable def c184 : Code:=(.seq (reg Tryz.f184 0) (.seq (.seq (reg Tryz.f184 1) (.seq (reg Tryz.f184 2) (.cond (Operand.tmp 16) (.seq (reg Tryz.f184 3) Code.ret) Code.skip))) (.seq (.seq (reg Tryz.f184 4) (.cond (Operand.tmp 23) (.seq (reg Tryz.f184 5) Code.ret) Code.skip)) (.seq (.seq (reg Tryz.f184 6) (.block 0 (.loop b184_1))) (.seq (reg Tryz.f184 12) (.seq (.seq (reg Tryz.f184 13) (.block 2 (.loop b184_2))) (.seq (.seq (reg Tryz.f184 20) (.cond (Operand.tmp 65) (.seq (reg Tryz.f184 21) Code.ret) Code.skip)) (.seq (.seq (reg Tryz.f184 22) (.block 4 (.loop b184_3))) (.seq (.seq (reg Tryz.f184 27) (.cond (Operand.tmp 79) (.seq (reg Tryz.f184 28) Code.ret) Code.skip)) (.seq (reg Tryz.f184 29) Code.ret))))))))))
theorem body184 : Tryz.f184.body = some c184:=by kernel_rfl

noncomputable def c185 : Code:=(.seq (reg Tryz.f185 0) (.seq (reg Tryz.f185 1) (.seq (.seq (reg Tryz.f185 2) (.cond (Operand.tmp 20) (.seq (reg Tryz.f185 3) Code.ret) Code.skip)) (.seq (.seq (reg Tryz.f185 4) (.cond (Operand.tmp 30) (.seq (reg Tryz.f185 5) Code.ret) Code.skip)) (.seq (.seq (reg Tryz.f185 6) (.cond (Operand.tmp 43) (.seq (reg Tryz.f185 7) Code.ret) Code.skip)) (.seq (reg Tryz.f185 8) Code.ret))))))
theorem body185 : Tryz.f185.body = some c185:=by kernel_rfl

noncomputable def b186_1 : Code:=(.seq (reg Tryz.f186 3) (.seq (.cond (Operand.tmp 10) Code.skip (Code.exit 0)) (.seq (.block 1 (.seq (reg Tryz.f186 4) (.seq (reg Tryz.f186 5) (.cond (Operand.tmp 20) (reg Tryz.f186 6) Code.skip)))) (reg Tryz.f186 7))))
noncomputable def c186 : Code:=(.seq (reg Tryz.f186 0) (.seq (reg Tryz.f186 1) (.seq (.seq (reg Tryz.f186 2) (.block 0 (.loop b186_1))) (.seq (reg Tryz.f186 8) Code.ret))))
theorem body186 : Tryz.f186.body = some c186:=by kernel_rfl

noncomputable def c187 : Code:=(.seq (reg Tryz.f187 0) (.seq (.seq (reg Tryz.f187 1) (.cond (Operand.tmp 21) (.seq (reg Tryz.f187 2) Code.ret) Code.skip)) (.seq (reg Tryz.f187 3) (.seq (.seq (reg Tryz.f187 4) (.cond (Operand.tmp 28) (.seq (reg Tryz.f187 5) Code.ret) Code.skip)) (.seq (reg Tryz.f187 6) (.seq (.seq (reg Tryz.f187 7) (.cond (Operand.tmp 39) (reg Tryz.f187 8) Code.skip)) (.seq (reg Tryz.f187 9) (.seq (reg Tryz.f187 10) (.seq (reg Tryz.f187 11) (.seq (.seq (reg Tryz.f187 12) (.cond (Operand.tmp 75) (reg Tryz.f187 13) Code.skip)) (.seq (.seq (reg Tryz.f187 14) (.cond (Operand.tmp 79) (reg Tryz.f187 15) Code.skip)) (.seq (reg Tryz.f187 16) Code.ret))))))))))))
theorem body187 : Tryz.f187.body = some c187:=by kernel_rfl

noncomputable def c188 : Code:=(.seq (reg Tryz.f188 0) (.seq (reg Tryz.f188 1) (.seq (.seq (reg Tryz.f188 2) (.cond (Operand.tmp 16) (.seq (reg Tryz.f188 3) Code.ret) Code.skip)) (.seq (reg Tryz.f188 4) (.seq (.seq (reg Tryz.f188 5) (.cond (Operand.tmp 20) (reg Tryz.f188 6) (.seq (.seq (reg Tryz.f188 7) (.cond (Operand.tmp 37) (.seq (reg Tryz.f188 8) Code.ret) Code.skip)) (reg Tryz.f188 9)))) (.seq (.seq (reg Tryz.f188 10) (.cond (Operand.tmp 45) (.seq (reg Tryz.f188 11) Code.ret) Code.skip)) (.seq (reg Tryz.f188 12) Code.ret)))))))
theorem body188 : Tryz.f188.body = some c188:=by kernel_rfl

noncomputable def b189_1 : Code:=(.seq (.seq (reg Tryz.f189 2) (.cond (Operand.tmp 7) Code.skip (Code.exit 0))) (.seq (.block 1 (.seq (.seq (reg Tryz.f189 4) (.cond (Operand.tmp 16) (.seq (reg Tryz.f189 5) Code.ret) Code.skip)) (.seq (reg Tryz.f189 6) (.cond (Operand.tmp 23) (.seq (reg Tryz.f189 7) Code.ret) Code.skip)))) (reg Tryz.f189 3)))
noncomputable def c189 : Code:=(.seq (reg Tryz.f189 0) (.seq (.seq (reg Tryz.f189 1) (.block 0 (.loop b189_1))) (.seq (reg Tryz.f189 8) Code.ret)))
theorem body189 : Tryz.f189.body = some c189:=by kernel_rfl

noncomputable def b190_1 : Code:=(.seq (reg Tryz.f190 3) (.seq (.cond (Operand.tmp 7) Code.skip (Code.exit 0)) (.seq (.block 1 (.seq (reg Tryz.f190 4) (.seq (reg Tryz.f190 5) (reg Tryz.f190 6)))) (reg Tryz.f190 7))))
noncomputable def c190 : Code:=(.seq (reg Tryz.f190 0) (.seq (reg Tryz.f190 1) (.seq (.seq (reg Tryz.f190 2) (.block 0 (.loop b190_1))) (.seq (reg Tryz.f190 8) Code.ret))))
theorem body190 : Tryz.f190.body = some c190:=by kernel_rfl

noncomputable def c191 : Code:=(.seq (reg Tryz.f191 0) (.seq (reg Tryz.f191 1) Code.ret))
theorem body191 : Tryz.f191.body = some c191:=by kernel_rfl

noncomputable def c192 : Code:=(.seq (reg Tryz.f192 0) (.seq (reg Tryz.f192 1) Code.ret))
theorem body192 : Tryz.f192.body = some c192:=by kernel_rfl

noncomputable def b193_1 : Code:=(.seq (.seq (reg Tryz.f193 3) (.cond (Operand.tmp 9) Code.skip (Code.exit 0))) (.seq (.block 1 (reg Tryz.f193 5)) (reg Tryz.f193 4)))
noncomputable def b193_2 : Code:=(.seq (.seq (reg Tryz.f193 7) (.cond (Operand.tmp 44) Code.skip (Code.exit 2))) (.seq (.block 3 (.seq (reg Tryz.f193 9) (.seq (reg Tryz.f193 10) (reg Tryz.f193 11)))) (reg Tryz.f193 8)))
noncomputable def c193 : Code:=(.seq (reg Tryz.f193 0) (.seq (reg Tryz.f193 1) (.seq (.seq (reg Tryz.f193 2) (.block 0 (.loop b193_1))) (.seq (.seq (reg Tryz.f193 6) (.block 2 (.loop b193_2))) (.seq (reg Tryz.f193 12) Code.ret)))))
theorem body193 : Tryz.f193.body = some c193:=by kernel_rfl

noncomputable def c194 : Code:=(.seq (reg Tryz.f194 0) (.seq (reg Tryz.f194 1) Code.ret))
theorem body194 : Tryz.f194.body = some c194:=by kernel_rfl

noncomputable def c195 : Code:=(.seq (reg Tryz.f195 0) (.seq (reg Tryz.f195 1) Code.ret))
theorem body195 : Tryz.f195.body = some c195:=by kernel_rfl

noncomputable def c196 : Code:=(.seq (reg Tryz.f196 0) (.seq (.seq (reg Tryz.f196 1) (.cond (Operand.tmp 14) (.seq (reg Tryz.f196 2) Code.ret) Code.skip)) (.seq (.seq (reg Tryz.f196 3) (.cond (Operand.tmp 20) (.seq (reg Tryz.f196 4) Code.ret) Code.skip)) (.seq (reg Tryz.f196 5) Code.ret))))
theorem body196 : Tryz.f196.body = some c196:=by kernel_rfl

noncomputable def b197_2 : Code:=(.seq (reg Tryz.f197 6) (.seq (.cond (Operand.tmp 13) Code.skip (Code.exit 2)) (.seq (.block 3 (.seq (reg Tryz.f197 7) (reg Tryz.f197 8))) (reg Tryz.f197 9))))
noncomputable def b197_1 : Code:=(.seq (reg Tryz.f197 3) (.seq (.cond (Operand.tmp 10) Code.skip (Code.exit 0)) (.seq (.block 1 (.seq (reg Tryz.f197 4) (.seq (reg Tryz.f197 5) (.block 2 (.loop b197_2))))) (reg Tryz.f197 10))))
noncomputable def b197_3 : Code:=(.seq (.seq (reg Tryz.f197 12) (.cond (Operand.tmp 32) Code.skip (Code.exit 4))) (.seq (.block 5 (.seq (reg Tryz.f197 14) (.seq (reg Tryz.f197 15) (reg Tryz.f197 16)))) (reg Tryz.f197 13)))
noncomputable def c197 : Code:=(.seq (reg Tryz.f197 0) (.seq (reg Tryz.f197 1) (.seq (.seq (reg Tryz.f197 2) (.block 0 (.loop b197_1))) (.seq (.seq (reg Tryz.f197 11) (.block 4 (.loop b197_3))) (.seq (reg Tryz.f197 17) Code.ret)))))
theorem body197 : Tryz.f197.body = some c197:=by kernel_rfl

noncomputable def c198 : Code:=(.seq (reg Tryz.f198 0) (.seq (reg Tryz.f198 1) Code.ret))
theorem body198 : Tryz.f198.body = some c198:=by kernel_rfl

noncomputable def c199 : Code:=(.seq (reg Tryz.f199 0) (.seq (reg Tryz.f199 1) Code.ret))
theorem body199 : Tryz.f199.body = some c199:=by kernel_rfl

noncomputable def c200 : Code:=(.seq (reg Tryz.f200 0) (.seq (reg Tryz.f200 1) (.seq (reg Tryz.f200 2) Code.ret)))
theorem body200 : Tryz.f200.body = some c200:=by kernel_rfl

noncomputable def b201_2 : Code:=(.seq (.seq (reg Tryz.f201 4) (.cond (Operand.tmp 30) Code.skip (Code.exit 2))) (.seq (.block 3 (reg Tryz.f201 6)) (reg Tryz.f201 5)))
noncomputable def b201_1 : Code:=(.seq (.seq (reg Tryz.f201 1) (.cond (Operand.tmp 12) Code.skip (Code.exit 0))) (.seq (.block 1 (.seq (reg Tryz.f201 3) (.block 2 (.loop b201_2)))) (reg Tryz.f201 2)))
noncomputable def c201 : Code:=(.seq (reg Tryz.f201 0) (.block 0 (.loop b201_1)))
theorem body201 : Tryz.f201.body = some c201:=by kernel_rfl

noncomputable def b202_1 : Code:=(.seq (.seq (reg Tryz.f202 4) (.cond (Operand.tmp 19) Code.skip (Code.exit 0))) (.seq (.block 1 (reg Tryz.f202 6)) (reg Tryz.f202 5)))
noncomputable def b202_2 : Code:=(.seq (.seq (reg Tryz.f202 8) (.cond (Operand.tmp 30) Code.skip (Code.exit 2))) (.seq (.block 3 (.seq (reg Tryz.f202 10) (reg Tryz.f202 11))) (reg Tryz.f202 9)))
noncomputable def c202 : Code:=(.seq (reg Tryz.f202 0) (.seq (reg Tryz.f202 1) (.seq (reg Tryz.f202 2) (.seq (.seq (reg Tryz.f202 3) (.block 0 (.loop b202_1))) (.seq (reg Tryz.f202 7) (.block 2 (.loop b202_2)))))))
theorem body202 : Tryz.f202.body = some c202:=by kernel_rfl

noncomputable def b203_1 : Code:=(.seq (.seq (reg Tryz.f203 5) (.cond (Operand.tmp 33) Code.skip (Code.exit 0))) (.seq (.block 1 (.seq (reg Tryz.f203 7) (.seq (.seq (reg Tryz.f203 8) (.cond (Operand.tmp 43) (reg Tryz.f203 9) Code.skip)) (reg Tryz.f203 10)))) (reg Tryz.f203 6)))
noncomputable def c203 : Code:=(.seq (reg Tryz.f203 0) (.seq (reg Tryz.f203 1) (.cond (Operand.tmp 15) (.seq (reg Tryz.f203 2) (.seq (reg Tryz.f203 3) (.seq (reg Tryz.f203 4) (.block 0 (.loop b203_1))))) Code.skip)))
theorem body203 : Tryz.f203.body = some c203:=by kernel_rfl

noncomputable def c204 : Code:=(.seq (reg Tryz.f204 0) (.seq (reg Tryz.f204 1) (.seq (reg Tryz.f204 2) (.seq (reg Tryz.f204 3) (.seq (reg Tryz.f204 4) (.seq (reg Tryz.f204 5) (.seq (.seq (reg Tryz.f204 6) (.cond (Operand.tmp 32) (.seq (.seq (reg Tryz.f204 7) (.cond (Operand.tmp 34) (.seq (reg Tryz.f204 8) (.seq (reg Tryz.f204 9) (reg Tryz.f204 10))) Code.skip)) (reg Tryz.f204 11)) Code.skip)) (.seq (reg Tryz.f204 12) (.block 0 (.seq (reg Tryz.f204 14) (.cond (Operand.tmp 51) (.seq (reg Tryz.f204 15) Code.ret) (.seq (reg Tryz.f204 16) (.cond (Operand.tmp 54) (.seq (reg Tryz.f204 17) Code.ret) (.seq (reg Tryz.f204 13) Code.ret))))))))))))))
theorem body204 : Tryz.f204.body = some c204:=by kernel_rfl

noncomputable def b205_1 : Code:=(.seq (.seq (reg Tryz.f205 2) (.cond (Operand.tmp 13) Code.skip (Code.exit 0))) (.block 1 (.seq (reg Tryz.f205 3) (.seq (reg Tryz.f205 4) (reg Tryz.f205 5)))))
noncomputable def c205 : Code:=(.seq (reg Tryz.f205 0) (.seq (reg Tryz.f205 1) (.block 0 (.loop b205_1))))
theorem body205 : Tryz.f205.body = some c205:=by kernel_rfl

noncomputable def b206_2 : Code:=(.seq (.seq (reg Tryz.f206 5) (.cond (Operand.tmp 32) Code.skip (Code.exit 2))) (.block 3 (reg Tryz.f206 6)))
noncomputable def b206_3 : Code:=(.seq (.seq (reg Tryz.f206 14) (.cond (Operand.tmp 65) Code.skip (Code.exit 4))) (.seq (.block 5 (.seq (.seq (reg Tryz.f206 16) (.cond (Operand.tmp 78) (Code.exit 4) Code.skip)) (reg Tryz.f206 17))) (reg Tryz.f206 15)))
noncomputable def b206_4 : Code:=(.seq (.seq (reg Tryz.f206 20) (.cond (Operand.tmp 103) Code.skip (Code.exit 6))) (.seq (.block 7 (.seq (.seq (reg Tryz.f206 22) (.cond (Operand.tmp 116) (Code.exit 6) Code.skip)) (reg Tryz.f206 23))) (reg Tryz.f206 21)))
noncomputable def b206_1 : Code:=(.seq (.seq (reg Tryz.f206 3) (.cond (Operand.tmp 14) Code.skip (Code.exit 0))) (.seq (.block 1 (.seq (.block 2 (.loop b206_2)) (.seq (.seq (reg Tryz.f206 7) (.cond (Operand.tmp 37) (.seq (reg Tryz.f206 8) Code.ret) Code.skip)) (.seq (.seq (reg Tryz.f206 9) (.cond (Operand.tmp 41) (.seq (reg Tryz.f206 10) Code.ret) Code.skip)) (.seq (reg Tryz.f206 11) (.seq (.seq (reg Tryz.f206 12) (.cond (Operand.tmp 61) (.seq (reg Tryz.f206 13) (.block 4 (.loop b206_3))) Code.skip)) (.seq (reg Tryz.f206 18) (.cond (Operand.tmp 98) (.seq (reg Tryz.f206 19) (.block 6 (.loop b206_4))) Code.skip)))))))) (reg Tryz.f206 4)))
noncomputable def c206 : Code:=(.seq (reg Tryz.f206 0) (.seq (reg Tryz.f206 1) (.seq (.seq (reg Tryz.f206 2) (.block 0 (.loop b206_1))) (.seq (reg Tryz.f206 24) Code.ret))))
theorem body206 : Tryz.f206.body = some c206:=by kernel_rfl

noncomputable def b207_2 : Code:=(.seq (.seq (reg Tryz.f207 3) (.cond (Operand.tmp 43) Code.skip (Code.exit 2))) (.block 3 (reg Tryz.f207 4)))
noncomputable def b207_3 : Code:=(.seq (.seq (reg Tryz.f207 5) (.cond (Operand.tmp 59) Code.skip (Code.exit 4))) (.block 5 (reg Tryz.f207 6)))
noncomputable def b207_1 : Code:=(.block 1 (.seq (.block 2 (.loop b207_2)) (.seq (.block 4 (.loop b207_3)) (.seq (.seq (reg Tryz.f207 7) (.cond (Operand.tmp 64) (Code.exit 0) Code.skip)) (.seq (reg Tryz.f207 8) (.seq (reg Tryz.f207 9) (reg Tryz.f207 10)))))))
noncomputable def c207 : Code:=(.seq (reg Tryz.f207 0) (.seq (reg Tryz.f207 1) (.seq (reg Tryz.f207 2) (.seq (.block 0 (.loop b207_1)) (.seq (reg Tryz.f207 11) Code.ret)))))
theorem body207 : Tryz.f207.body = some c207:=by kernel_rfl

noncomputable def b208_1 : Code:=(.seq (.seq (reg Tryz.f208 3) (.cond (Operand.tmp 43) Code.skip (Code.exit 0))) (.block 1 (reg Tryz.f208 4)))
noncomputable def b208_2 : Code:=(.seq (.seq (reg Tryz.f208 5) (.cond (Operand.tmp 60) Code.skip (Code.exit 2))) (.block 3 (reg Tryz.f208 6)))
noncomputable def b208_4 : Code:=(.seq (.seq (reg Tryz.f208 13) (.cond (Operand.tmp 112) Code.skip (Code.exit 6))) (.block 7 (reg Tryz.f208 14)))
noncomputable def b208_5 : Code:=(.seq (.seq (reg Tryz.f208 15) (.cond (Operand.tmp 129) Code.skip (Code.exit 8))) (.block 9 (reg Tryz.f208 16)))
noncomputable def b208_3 : Code:=(.block 5 (.seq (.block 6 (.loop b208_4)) (.seq (.block 8 (.loop b208_5)) (.seq (.seq (reg Tryz.f208 17) (.cond (Operand.tmp 134) (Code.exit 4) Code.skip)) (.seq (reg Tryz.f208 18) (.seq (reg Tryz.f208 19) (reg Tryz.f208 20)))))))
noncomputable def c208 : Code:=(.seq (reg Tryz.f208 0) (.seq (reg Tryz.f208 1) (.seq (reg Tryz.f208 2) (.seq (.block 0 (.loop b208_1)) (.seq (.block 2 (.loop b208_2)) (.seq (.seq (reg Tryz.f208 7) (.cond (Operand.tmp 65) (.seq (reg Tryz.f208 8) (.seq (reg Tryz.f208 9) Code.ret)) Code.skip)) (.seq (reg Tryz.f208 10) (.seq (reg Tryz.f208 11) (.seq (reg Tryz.f208 12) (.seq (.block 4 (.loop b208_3)) (.seq (reg Tryz.f208 21) (.seq (reg Tryz.f208 22) Code.ret))))))))))))
theorem body208 : Tryz.f208.body = some c208:=by kernel_rfl

noncomputable def c209 : Code:=(.seq (reg Tryz.f209 0) (.seq (.seq (reg Tryz.f209 1) (.cond (Operand.tmp 4) (.seq (reg Tryz.f209 2) (reg Tryz.f209 3)) Code.skip)) (.seq (.seq (reg Tryz.f209 4) (.cond (Operand.tmp 8) (.seq (reg Tryz.f209 5) (reg Tryz.f209 6)) Code.skip)) (.seq (reg Tryz.f209 7) Code.ret))))
theorem body209 : Tryz.f209.body = some c209:=by kernel_rfl

noncomputable def c210 : Code:=(.seq (reg Tryz.f210 0) (.seq (.seq (reg Tryz.f210 1) (.cond (Operand.tmp 4) (.seq (reg Tryz.f210 2) (reg Tryz.f210 3)) Code.skip)) (.seq (.seq (reg Tryz.f210 4) (.cond (Operand.tmp 8) (.seq (reg Tryz.f210 5) (reg Tryz.f210 6)) Code.skip)) (.seq (.seq (reg Tryz.f210 7) (.cond (Operand.tmp 14) (.seq (reg Tryz.f210 8) (reg Tryz.f210 9)) Code.skip)) (.seq (reg Tryz.f210 10) Code.ret)))))
theorem body210 : Tryz.f210.body = some c210:=by kernel_rfl

noncomputable def c211 : Code:=(.seq (reg Tryz.f211 0) (.seq (reg Tryz.f211 1) Code.ret))
theorem body211 : Tryz.f211.body = some c211:=by kernel_rfl

noncomputable def c212 : Code:=(.seq (reg Tryz.f212 0) (.seq (.seq (reg Tryz.f212 1) (.cond (Operand.tmp 5) (.seq (reg Tryz.f212 2) Code.ret) Code.skip)) (.seq (reg Tryz.f212 3) Code.ret)))
theorem body212 : Tryz.f212.body = some c212:=by kernel_rfl

noncomputable def b213_2 : Code:=(.seq (.seq (reg Tryz.f213 5) (.cond (Operand.tmp 14) Code.skip (Code.exit 2))) (.seq (.block 3 (.seq (reg Tryz.f213 7) (.cond (Operand.tmp 21) (reg Tryz.f213 8) (reg Tryz.f213 9)))) (reg Tryz.f213 6)))
noncomputable def b213_1 : Code:=(.seq (.seq (reg Tryz.f213 2) (.cond (Operand.tmp 10) Code.skip (Code.exit 0))) (.block 1 (.seq (reg Tryz.f213 3) (.seq (.seq (reg Tryz.f213 4) (.block 2 (.loop b213_2))) (reg Tryz.f213 10)))))
noncomputable def c213 : Code:=(.seq (reg Tryz.f213 0) (.seq (reg Tryz.f213 1) (.seq (.block 0 (.loop b213_1)) (.seq (reg Tryz.f213 11) Code.ret))))
theorem body213 : Tryz.f213.body = some c213:=by kernel_rfl

noncomputable def b214_1 : Code:=(.seq (reg Tryz.f214 2) (.seq (.cond (Operand.tmp 7) Code.skip (Code.exit 0)) (.seq (.block 1 (.seq (reg Tryz.f214 3) (.seq (.seq (reg Tryz.f214 4) (.cond (Operand.tmp 17) (.seq (reg Tryz.f214 5) Code.ret) Code.skip)) (.seq (reg Tryz.f214 6) (.cond (Operand.tmp 26) (.seq (reg Tryz.f214 7) Code.ret) Code.skip))))) (reg Tryz.f214 8))))
noncomputable def c214 : Code:=(.seq (reg Tryz.f214 0) (.seq (.seq (reg Tryz.f214 1) (.block 0 (.loop b214_1))) (.seq (.block 2 (.seq (reg Tryz.f214 9) (.cond (Operand.tmp 28) (.seq (reg Tryz.f214 10) Code.ret) (.seq (reg Tryz.f214 11) (.cond (Operand.tmp 34) (.seq (reg Tryz.f214 12) Code.ret) Code.skip))))) (.seq (reg Tryz.f214 13) Code.ret))))
theorem body214 : Tryz.f214.body = some c214:=by kernel_rfl

noncomputable def b215_1 : Code:=(.seq (reg Tryz.f215 7) (.seq (.cond (Operand.tmp 27) Code.skip (Code.exit 0)) (.seq (.block 1 (.seq (reg Tryz.f215 8) (.seq (.seq (reg Tryz.f215 9) (.cond (Operand.tmp 32) (.seq (reg Tryz.f215 10) Code.ret) Code.skip)) (reg Tryz.f215 11)))) (reg Tryz.f215 12))))
noncomputable def b215_3 : Code:=(.seq (.seq (reg Tryz.f215 19) (.cond (Operand.tmp 48) Code.skip (Code.exit 4))) (.seq (.block 5 (.seq (reg Tryz.f215 21) (.cond (Operand.tmp 63) (.seq (reg Tryz.f215 22) Code.ret) Code.skip))) (reg Tryz.f215 20)))
noncomputable def b215_2 : Code:=(.seq (reg Tryz.f215 16) (.seq (.cond (Operand.tmp 44) Code.skip (Code.exit 2)) (.seq (.block 3 (.seq (reg Tryz.f215 17) (.seq (reg Tryz.f215 18) (.block 4 (.loop b215_3))))) (reg Tryz.f215 23))))
noncomputable def b215_4 : Code:=(.seq (reg Tryz.f215 25) (.seq (.cond (Operand.tmp 69) Code.skip (Code.exit 6)) (.seq (.block 7 (.seq (reg Tryz.f215 26) (.seq (reg Tryz.f215 27) (.cond (Operand.tmp 79) (.seq (reg Tryz.f215 28) Code.ret) Code.skip)))) (reg Tryz.f215 29))))
noncomputable def c215 : Code:=(.seq (reg Tryz.f215 0) (.seq (.seq (reg Tryz.f215 1) (.cond (Operand.tmp 12) (.seq (reg Tryz.f215 2) Code.ret) Code.skip)) (.seq (.seq (reg Tryz.f215 3) (.cond (Operand.tmp 22) (.seq (reg Tryz.f215 4) Code.ret) Code.skip)) (.seq (reg Tryz.f215 5) (.seq (.seq (reg Tryz.f215 6) (.block 0 (.loop b215_1))) (.seq (.seq (reg Tryz.f215 13) (.cond (Operand.tmp 39) (.seq (reg Tryz.f215 14) Code.ret) Code.skip)) (.seq (.seq (reg Tryz.f215 15) (.block 2 (.loop b215_2))) (.seq (.seq (reg Tryz.f215 24) (.block 6 (.loop b215_4))) (.seq (reg Tryz.f215 30) Code.ret)))))))))
theorem body215 : Tryz.f215.body = some c215:=by kernel_rfl

noncomputable def b216_1 : Code:=(.seq (reg Tryz.f216 2) (.seq (.cond (Operand.tmp 9) Code.skip (Code.exit 0)) (.seq (.block 1 (.seq (reg Tryz.f216 3) (.seq (reg Tryz.f216 4) (.cond (Operand.tmp 16) (.seq (reg Tryz.f216 5) Code.ret) Code.skip)))) (reg Tryz.f216 6))))
noncomputable def c216 : Code:=(.seq (reg Tryz.f216 0) (.seq (.seq (reg Tryz.f216 1) (.block 0 (.loop b216_1))) (.seq (reg Tryz.f216 7) Code.ret)))
theorem body216 : Tryz.f216.body = some c216:=by kernel_rfl

noncomputable def b217_2 : Code:=(.seq (reg Tryz.f217 5) (.seq (.cond (Operand.tmp 21) Code.skip (Code.exit 2)) (.seq (.block 3 (.seq (reg Tryz.f217 6) (.seq (reg Tryz.f217 7) (.cond (Operand.tmp 30) (.seq (reg Tryz.f217 8) Code.ret) Code.skip)))) (reg Tryz.f217 9))))
noncomputable def b217_1 : Code:=(.seq (reg Tryz.f217 2) (.seq (.cond (Operand.tmp 13) Code.skip (Code.exit 0)) (.seq (.block 1 (.seq (reg Tryz.f217 3) (.seq (reg Tryz.f217 4) (.block 2 (.loop b217_2))))) (reg Tryz.f217 10))))
noncomputable def c217 : Code:=(.seq (reg Tryz.f217 0) (.seq (.seq (reg Tryz.f217 1) (.block 0 (.loop b217_1))) (.seq (reg Tryz.f217 11) Code.ret)))
theorem body217 : Tryz.f217.body = some c217:=by kernel_rfl

noncomputable def b218_3 : Code:=(.seq (reg Tryz.f218 9) (.seq (.cond (Operand.tmp 27) Code.skip (Code.exit 4)) (.seq (.block 5 (.seq (reg Tryz.f218 10) (.seq (reg Tryz.f218 11) (.cond (Operand.tmp 33) (.seq (reg Tryz.f218 12) Code.ret) Code.skip)))) (reg Tryz.f218 13))))
noncomputable def b218_2 : Code:=(.seq (reg Tryz.f218 6) (.seq (.cond (Operand.tmp 21) Code.skip (Code.exit 2)) (.seq (.block 3 (.seq (reg Tryz.f218 7) (.seq (.seq (reg Tryz.f218 8) (.block 4 (.loop b218_3))) (reg Tryz.f218 14)))) (reg Tryz.f218 15))))
noncomputable def b218_1 : Code:=(.seq (reg Tryz.f218 3) (.seq (.cond (Operand.tmp 14) Code.skip (Code.exit 0)) (.seq (.block 1 (.seq (reg Tryz.f218 4) (.seq (reg Tryz.f218 5) (.block 2 (.loop b218_2))))) (reg Tryz.f218 16))))
noncomputable def c218 : Code:=(.seq (reg Tryz.f218 0) (.seq (reg Tryz.f218 1) (.seq (.seq (reg Tryz.f218 2) (.block 0 (.loop b218_1))) (.seq (reg Tryz.f218 17) Code.ret))))
theorem body218 : Tryz.f218.body = some c218:=by kernel_rfl

noncomputable def b219_1 : Code:=(.seq (reg Tryz.f219 7) (.seq (.cond (Operand.tmp 45) Code.skip (Code.exit 0)) (.seq (.block 1 (.seq (reg Tryz.f219 8) (.seq (reg Tryz.f219 9) (reg Tryz.f219 10)))) (reg Tryz.f219 11))))
noncomputable def b219_2 : Code:=(.seq (reg Tryz.f219 13) (.seq (.cond (Operand.tmp 62) Code.skip (Code.exit 2)) (.seq (.block 3 (.seq (reg Tryz.f219 14) (reg Tryz.f219 15))) (reg Tryz.f219 16))))
noncomputable def c219 : Code:=(.seq (reg Tryz.f219 0) (.seq (.seq (reg Tryz.f219 1) (.cond (Operand.tmp 29) (.seq (reg Tryz.f219 2) Code.ret) Code.skip)) (.seq (.seq (reg Tryz.f219 3) (.cond (Operand.tmp 39) (.seq (reg Tryz.f219 4) Code.ret) Code.skip)) (.seq (reg Tryz.f219 5) (.seq (.seq (reg Tryz.f219 6) (.block 0 (.loop b219_1))) (.seq (.seq (reg Tryz.f219 12) (.block 2 (.loop b219_2))) (.seq (reg Tryz.f219 17) (.seq (reg Tryz.f219 18) (.seq (reg Tryz.f219 19) (.seq (reg Tryz.f219 20) (.seq (reg Tryz.f219 21) (.seq (reg Tryz.f219 22) (.seq (reg Tryz.f219 23) Code.ret)))))))))))))
theorem body219 : Tryz.f219.body = some c219:=by kernel_rfl

noncomputable def c220 : Code:=(.seq (reg Tryz.f220 0) (.seq (reg Tryz.f220 1) (.seq (.block 0 (.seq (reg Tryz.f220 2) (.cond (Operand.tmp 18) (.seq (reg Tryz.f220 3) Code.ret) (.seq (reg Tryz.f220 4) (.cond (Operand.tmp 22) (.seq (reg Tryz.f220 5) Code.ret) (.seq (reg Tryz.f220 6) (.cond (Operand.tmp 26) (.seq (reg Tryz.f220 7) Code.ret) Code.skip))))))) (.seq (reg Tryz.f220 8) Code.ret))))
theorem body220 : Tryz.f220.body = some c220:=by kernel_rfl

noncomputable def b221_2 : Code:=(.seq (reg Tryz.f221 7) (.seq (.cond (Operand.tmp 19) Code.skip (Code.exit 2)) (.seq (.block 3 (.seq (reg Tryz.f221 8) (.seq (reg Tryz.f221 9) (.seq (reg Tryz.f221 10) (.seq (reg Tryz.f221 11) (reg Tryz.f221 12)))))) (reg Tryz.f221 13))))
noncomputable def b221_1 : Code:=(.seq (reg Tryz.f221 3) (.seq (.cond (Operand.tmp 16) Code.skip (Code.exit 0)) (.seq (.block 1 (.seq (reg Tryz.f221 4) (.seq (reg Tryz.f221 5) (.seq (.seq (reg Tryz.f221 6) (.block 2 (.loop b221_2))) (reg Tryz.f221 14))))) (reg Tryz.f221 15))))
noncomputable def c221 : Code:=(.seq (reg Tryz.f221 0) (.seq (reg Tryz.f221 1) (.seq (.seq (reg Tryz.f221 2) (.block 0 (.loop b221_1))) (.seq (reg Tryz.f221 16) (.seq (reg Tryz.f221 17) (.seq (reg Tryz.f221 18) Code.ret))))))
theorem body221 : Tryz.f221.body = some c221:=by kernel_rfl

noncomputable def c222 : Code:=(.seq (reg Tryz.f222 0) (.seq (reg Tryz.f222 1) Code.ret))
theorem body222 : Tryz.f222.body = some c222:=by kernel_rfl

noncomputable def b223_1 : Code:=(.seq (.seq (reg Tryz.f223 5) (.cond (Operand.tmp 19) Code.skip (Code.exit 0))) (.seq (.block 1 (.seq (reg Tryz.f223 7) (.seq (reg Tryz.f223 8) (.seq (.seq (reg Tryz.f223 9) (.cond (Operand.tmp 32) (reg Tryz.f223 10) Code.skip)) (.seq (reg Tryz.f223 11) (.cond (Operand.tmp 43) (.seq (reg Tryz.f223 12) (reg Tryz.f223 13)) Code.skip)))))) (reg Tryz.f223 6)))
noncomputable def c223 : Code:=(.seq (reg Tryz.f223 0) (.seq (.seq (reg Tryz.f223 1) (.cond (Operand.tmp 14) (.seq (reg Tryz.f223 2) Code.ret) Code.skip)) (.seq (reg Tryz.f223 3) (.seq (.seq (reg Tryz.f223 4) (.block 0 (.loop b223_1))) (.seq (reg Tryz.f223 14) Code.ret)))))
theorem body223 : Tryz.f223.body = some c223:=by kernel_rfl

noncomputable def b224_1 : Code:=(.seq (.block 1 (.seq (reg Tryz.f224 5) (.seq (.seq (reg Tryz.f224 6) (.cond (Operand.tmp 11) (.seq (reg Tryz.f224 7) (.seq (reg Tryz.f224 8) (.cond (Operand.tmp 24) (Code.exit 1) Code.skip))) (reg Tryz.f224 9))) (.seq (reg Tryz.f224 10) (.cond (Operand.tmp 32) (.seq (reg Tryz.f224 11) Code.ret) Code.skip))))) (reg Tryz.f224 4))
noncomputable def c224 : Code:=(.seq (reg Tryz.f224 0) (.seq (.seq (reg Tryz.f224 1) (.cond (Operand.tmp 6) (.seq (reg Tryz.f224 2) Code.ret) Code.skip)) (.seq (reg Tryz.f224 3) (.block 0 (.loop b224_1)))))
theorem body224 : Tryz.f224.body = some c224:=by kernel_rfl

noncomputable def b225_1 : Code:=(.seq (.seq (reg Tryz.f225 2) (.cond (Operand.tmp 5) Code.skip (Code.exit 0))) (.seq (.block 1 (.seq (reg Tryz.f225 4) (.cond (Operand.tmp 10) (.seq (reg Tryz.f225 5) Code.ret) Code.skip))) (reg Tryz.f225 3)))
noncomputable def c225 : Code:=(.seq (reg Tryz.f225 0) (.seq (.seq (reg Tryz.f225 1) (.block 0 (.loop b225_1))) (.seq (reg Tryz.f225 6) Code.ret)))
theorem body225 : Tryz.f225.body = some c225:=by kernel_rfl

noncomputable def b226_1 : Code:=(.seq (.seq (reg Tryz.f226 3) (.cond (Operand.tmp 9) Code.skip (Code.exit 0))) (.seq (.block 1 (reg Tryz.f226 5)) (reg Tryz.f226 4)))
noncomputable def c226 : Code:=(.seq (reg Tryz.f226 0) (.seq (.seq (reg Tryz.f226 1) (.cond (Operand.tmp 6) (.seq (reg Tryz.f226 2) Code.ret) Code.skip)) (.seq (.block 0 (.loop b226_1)) (.seq (reg Tryz.f226 6) Code.ret))))
theorem body226 : Tryz.f226.body = some c226:=by kernel_rfl

noncomputable def c227 : Code:=(.seq (reg Tryz.f227 0) (.seq (reg Tryz.f227 1) (.seq (reg Tryz.f227 2) Code.ret)))
theorem body227 : Tryz.f227.body = some c227:=by kernel_rfl

noncomputable def b228_1 : Code:=(.block 1 (.seq (reg Tryz.f228 1) (.seq (.seq (reg Tryz.f228 2) (.cond (Operand.tmp 16) (Code.exit 0) Code.skip)) (.seq (.seq (reg Tryz.f228 3) (.cond (Operand.tmp 36) (reg Tryz.f228 4) Code.skip)) (.seq (.seq (reg Tryz.f228 5) (.cond (Operand.tmp 52) Code.ret Code.skip)) (.seq (reg Tryz.f228 6) (reg Tryz.f228 7)))))))
noncomputable def c228 : Code:=(.seq (reg Tryz.f228 0) (.block 0 (.loop b228_1)))
theorem body228 : Tryz.f228.body = some c228:=by kernel_rfl

noncomputable def c229 : Code:=(.seq (reg Tryz.f229 0) (.seq (reg Tryz.f229 1) Code.ret))
theorem body229 : Tryz.f229.body = some c229:=by kernel_rfl

noncomputable def c230 : Code:=(.seq (reg Tryz.f230 0) (.seq (reg Tryz.f230 1) (.seq (reg Tryz.f230 2) (.seq (reg Tryz.f230 3) (.seq (reg Tryz.f230 4) Code.ret)))))
theorem body230 : Tryz.f230.body = some c230:=by kernel_rfl

noncomputable def c231 : Code:=(.seq (reg Tryz.f231 0) (.seq (reg Tryz.f231 1) Code.ret))
theorem body231 : Tryz.f231.body = some c231:=by kernel_rfl

noncomputable def c232 : Code:=(.seq (reg Tryz.f232 0) (.seq (reg Tryz.f232 1) (.seq (reg Tryz.f232 2) (.seq (reg Tryz.f232 3) (.seq (reg Tryz.f232 4) Code.ret)))))
theorem body232 : Tryz.f232.body = some c232:=by kernel_rfl

noncomputable def c233 : Code:=(.seq (reg Tryz.f233 0) (.seq (reg Tryz.f233 1) Code.ret))
theorem body233 : Tryz.f233.body = some c233:=by kernel_rfl

noncomputable def c234 : Code:=(.seq (reg Tryz.f234 0) (.seq (reg Tryz.f234 1) (.seq (reg Tryz.f234 2) Code.ret)))
theorem body234 : Tryz.f234.body = some c234:=by kernel_rfl

noncomputable def b235_1 : Code:=(.seq (reg Tryz.f235 12) (.seq (.cond (Operand.tmp 36) Code.skip (Code.exit 0)) (.seq (.block 1 (.seq (reg Tryz.f235 13) (.seq (reg Tryz.f235 14) (.seq (.seq (reg Tryz.f235 15) (.cond (Operand.tmp 48) (reg Tryz.f235 16) Code.skip)) (.seq (.seq (reg Tryz.f235 17) (.cond (Operand.tmp 56) (.seq (.seq (reg Tryz.f235 18) (.seq (reg Tryz.f235 19) (.cond (Operand.tmp 62) (.seq (reg Tryz.f235 20) Code.ret) Code.skip))) (.seq (reg Tryz.f235 21) (.cond (Operand.tmp 67) (.seq (reg Tryz.f235 22) Code.ret) Code.skip))) Code.skip)) (.block 2 (.seq (reg Tryz.f235 23) (.cond (Operand.tmp 68) (.seq (reg Tryz.f235 24) (.seq (.seq (reg Tryz.f235 25) (.cond (Operand.tmp 74) (.seq (reg Tryz.f235 26) (reg Tryz.f235 27)) Code.skip)) (reg Tryz.f235 28))) (.seq (reg Tryz.f235 29) (.cond (Operand.tmp 92) (reg Tryz.f235 30) (.seq (reg Tryz.f235 31) (.cond (Operand.tmp 110) (reg Tryz.f235 32) (.seq (reg Tryz.f235 33) (.cond (Operand.tmp 119) (.seq (reg Tryz.f235 34) (.seq (reg Tryz.f235 35) (.cond (Operand.tmp 129) (.seq (reg Tryz.f235 36) Code.ret) Code.skip))) Code.skip)))))))))))))) (reg Tryz.f235 37))))
noncomputable def c235 : Code:=(.seq (reg Tryz.f235 0) (.seq (reg Tryz.f235 1) (.seq (.seq (reg Tryz.f235 2) (.cond (Operand.tmp 24) (.seq (reg Tryz.f235 3) Code.ret) Code.skip)) (.seq (.seq (reg Tryz.f235 4) (.cond (Operand.tmp 28) (.seq (reg Tryz.f235 5) Code.ret) Code.skip)) (.seq (.seq (reg Tryz.f235 6) (.cond (Operand.tmp 30) (.seq (reg Tryz.f235 7) Code.ret) Code.skip)) (.seq (reg Tryz.f235 8) (.seq (reg Tryz.f235 9) (.seq (reg Tryz.f235 10) (.seq (.seq (reg Tryz.f235 11) (.block 0 (.loop b235_1))) (.seq (reg Tryz.f235 38) Code.ret))))))))))
theorem body235 : Tryz.f235.body = some c235:=by kernel_rfl

noncomputable def b236_1 : Code:=(.seq (reg Tryz.f236 2) (.seq (.cond (Operand.tmp 8) Code.skip (Code.exit 0)) (.seq (.block 1 (.seq (reg Tryz.f236 3) (.seq (reg Tryz.f236 4) (.cond (Operand.tmp 12) (.seq (reg Tryz.f236 5) Code.ret) Code.skip)))) (reg Tryz.f236 6))))
noncomputable def c236 : Code:=(.seq (reg Tryz.f236 0) (.seq (.seq (reg Tryz.f236 1) (.block 0 (.loop b236_1))) (.seq (reg Tryz.f236 7) Code.ret)))
theorem body236 : Tryz.f236.body = some c236:=by kernel_rfl

noncomputable def b238_1 : Code:=(.seq (reg Tryz.f238 4) (.seq (.cond (Operand.tmp 10) Code.skip (Code.exit 0)) (.seq (.block 1 (.seq (reg Tryz.f238 5) (reg Tryz.f238 6))) (reg Tryz.f238 7))))
noncomputable def c238 : Code:=(.seq (reg Tryz.f238 0) (.seq (reg Tryz.f238 1) (.seq (reg Tryz.f238 2) (.seq (.seq (reg Tryz.f238 3) (.block 0 (.loop b238_1))) (.seq (reg Tryz.f238 8) Code.ret)))))
theorem body238 : Tryz.f238.body = some c238:=by kernel_rfl

noncomputable def b239_1 : Code:=(.seq (reg Tryz.f239 4) (.seq (.cond (Operand.tmp 10) Code.skip (Code.exit 0)) (.seq (.block 1 (.seq (reg Tryz.f239 5) (reg Tryz.f239 6))) (reg Tryz.f239 7))))
noncomputable def c239 : Code:=(.seq (reg Tryz.f239 0) (.seq (reg Tryz.f239 1) (.seq (reg Tryz.f239 2) (.seq (.seq (reg Tryz.f239 3) (.block 0 (.loop b239_1))) (.seq (reg Tryz.f239 8) Code.ret)))))
theorem body239 : Tryz.f239.body = some c239:=by kernel_rfl

noncomputable def c240 : Code:=(.seq (reg Tryz.f240 0) (.seq (.seq (reg Tryz.f240 1) (.cond (Operand.tmp 18) (.seq (reg Tryz.f240 2) (.seq (reg Tryz.f240 3) Code.ret)) Code.skip)) (.seq (reg Tryz.f240 4) Code.ret)))
theorem body240 : Tryz.f240.body = some c240:=by kernel_rfl

noncomputable def b241_1 : Code:=(.seq (.seq (reg Tryz.f241 4) (.cond (Operand.tmp 13) Code.skip (Code.exit 0))) (.block 1 (.seq (reg Tryz.f241 5) (.seq (.seq (reg Tryz.f241 6) (.cond (Operand.tmp 21) (.seq (reg Tryz.f241 7) Code.ret) Code.skip)) (reg Tryz.f241 8)))))
noncomputable def c241 : Code:=(.seq (reg Tryz.f241 0) (.seq (.seq (reg Tryz.f241 1) (.cond (Operand.tmp 10) (.seq (reg Tryz.f241 2) Code.ret) Code.skip)) (.seq (reg Tryz.f241 3) (.seq (.block 0 (.loop b241_1)) (.seq (reg Tryz.f241 9) Code.ret)))))
theorem body241 : Tryz.f241.body = some c241:=by kernel_rfl

noncomputable def b242_1 : Code:=(.seq (reg Tryz.f242 3) (.seq (.cond (Operand.tmp 9) Code.skip (Code.exit 0)) (.seq (.block 1 (.seq (reg Tryz.f242 4) (.seq (reg Tryz.f242 5) (.block 2 (.seq (reg Tryz.f242 6) (.cond (Operand.tmp 14) (reg Tryz.f242 7) (.seq (reg Tryz.f242 8) (.cond (Operand.tmp 19) (.seq (.seq (reg Tryz.f242 9) (.cond (Operand.tmp 31) (.seq (reg Tryz.f242 10) Code.ret) Code.skip)) (reg Tryz.f242 11)) (.seq (reg Tryz.f242 12) (.cond (Operand.tmp 37) (.seq (.seq (reg Tryz.f242 13) (.cond (Operand.tmp 41) (.seq (reg Tryz.f242 14) Code.ret) Code.skip)) (reg Tryz.f242 15)) Code.skip)))))))))) (reg Tryz.f242 16))))
noncomputable def c242 : Code:=(.seq (reg Tryz.f242 0) (.seq (reg Tryz.f242 1) (.seq (.seq (reg Tryz.f242 2) (.block 0 (.loop b242_1))) (.seq (reg Tryz.f242 17) Code.ret))))
theorem body242 : Tryz.f242.body = some c242:=by kernel_rfl

noncomputable def b243_1 : Code:=(.seq (reg Tryz.f243 4) (.seq (.cond (Operand.tmp 11) Code.skip (Code.exit 0)) (.seq (.block 1 (.seq (reg Tryz.f243 5) (.seq (reg Tryz.f243 6) (.cond (Operand.tmp 16) (.seq (reg Tryz.f243 7) Code.ret) Code.skip)))) (reg Tryz.f243 8))))
noncomputable def c243 : Code:=(.seq (reg Tryz.f243 0) (.seq (.seq (reg Tryz.f243 1) (.cond (Operand.tmp 7) (.seq (reg Tryz.f243 2) Code.ret) Code.skip)) (.seq (.seq (reg Tryz.f243 3) (.block 0 (.loop b243_1))) (.seq (reg Tryz.f243 9) Code.ret))))
theorem body243 : Tryz.f243.body = some c243:=by kernel_rfl

noncomputable def b244_1 : Code:=(.seq (reg Tryz.f244 3) (.seq (.cond (Operand.tmp 12) Code.skip (Code.exit 0)) (.seq (.block 1 (.seq (reg Tryz.f244 4) (reg Tryz.f244 5))) (reg Tryz.f244 6))))
noncomputable def c244 : Code:=(.seq (reg Tryz.f244 0) (.seq (reg Tryz.f244 1) (.seq (.seq (reg Tryz.f244 2) (.block 0 (.loop b244_1))) (.seq (reg Tryz.f244 7) Code.ret))))
theorem body244 : Tryz.f244.body = some c244:=by kernel_rfl

noncomputable def c245 : Code:=(.seq (reg Tryz.f245 0) (.seq (reg Tryz.f245 1) Code.ret))
theorem body245 : Tryz.f245.body = some c245:=by kernel_rfl

noncomputable def c246 : Code:=(.seq (reg Tryz.f246 0) (.seq (.seq (reg Tryz.f246 1) (.block 0 (.seq (reg Tryz.f246 2) (.cond (Operand.tmp 5) (.seq (reg Tryz.f246 3) Code.ret) (.seq (reg Tryz.f246 4) (.cond (Operand.tmp 7) (.seq (reg Tryz.f246 5) Code.ret) (.seq (reg Tryz.f246 6) (.cond (Operand.tmp 9) (.seq (reg Tryz.f246 7) Code.ret) Code.skip)))))))) (.seq (reg Tryz.f246 8) Code.ret)))
theorem body246 : Tryz.f246.body = some c246:=by kernel_rfl

noncomputable def c247 : Code:=(.seq (reg Tryz.f247 0) (.seq (.seq (reg Tryz.f247 1) (.block 0 (.seq (.seq (reg Tryz.f247 2) (.cond (Operand.tmp 5) Code.skip (.seq (reg Tryz.f247 3) (.cond (Operand.tmp 5) Code.skip (.seq (reg Tryz.f247 4) (.cond (Operand.tmp 5) Code.skip (.seq (reg Tryz.f247 5) (.cond (Operand.tmp 5) Code.skip (.seq (reg Tryz.f247 6) (.cond (Operand.tmp 5) Code.skip (.seq (reg Tryz.f247 7) (.cond (Operand.tmp 5) Code.skip (.seq (reg Tryz.f247 8) (.cond (Operand.tmp 5) Code.skip (.seq (reg Tryz.f247 9) (.cond (Operand.tmp 5) Code.skip (reg Tryz.f247 10))))))))))))))))) (.cond (Operand.tmp 5) (.seq (reg Tryz.f247 11) Code.ret) (.seq (.seq (reg Tryz.f247 12) (.cond (Operand.tmp 15) Code.skip (.seq (reg Tryz.f247 13) (.cond (Operand.tmp 15) Code.skip (reg Tryz.f247 14))))) (.cond (Operand.tmp 15) (.seq (reg Tryz.f247 15) Code.ret) (.seq (reg Tryz.f247 16) (.cond (Operand.tmp 19) (.seq (reg Tryz.f247 17) Code.ret) Code.skip)))))))) (.seq (reg Tryz.f247 18) Code.ret)))
theorem body247 : Tryz.f247.body = some c247:=by kernel_rfl

noncomputable def c248 : Code:=(.seq (reg Tryz.f248 0) (.seq (reg Tryz.f248 1) (.seq (.seq (reg Tryz.f248 2) (.block 0 (.seq (reg Tryz.f248 3) (.cond (Operand.tmp 19) (.seq (reg Tryz.f248 4) Code.ret) (.seq (reg Tryz.f248 5) (.cond (Operand.tmp 29) (.seq (reg Tryz.f248 6) Code.ret) (.seq (reg Tryz.f248 7) (.cond (Operand.tmp 40) (.seq (reg Tryz.f248 8) Code.ret) (.seq (reg Tryz.f248 9) (.cond (Operand.tmp 46) (.seq (reg Tryz.f248 10) Code.ret) (.seq (reg Tryz.f248 11) (.cond (Operand.tmp 66) (.seq (reg Tryz.f248 12) Code.ret) (.seq (reg Tryz.f248 13) (.cond (Operand.tmp 88) (.seq (reg Tryz.f248 14) Code.ret) (.seq (reg Tryz.f248 15) (.cond (Operand.tmp 106) (.seq (.seq (reg Tryz.f248 16) (.cond (Operand.tmp 114) (.seq (reg Tryz.f248 17) Code.ret) Code.skip)) (.seq (reg Tryz.f248 18) Code.ret)) (.seq (reg Tryz.f248 19) (.cond (Operand.tmp 119) (.seq (reg Tryz.f248 20) (.seq (reg Tryz.f248 21) Code.ret)) (.seq (reg Tryz.f248 22) (.cond (Operand.tmp 136) (.seq (reg Tryz.f248 23) Code.ret) (.seq (reg Tryz.f248 24) (.cond (Operand.tmp 150) (.seq (reg Tryz.f248 25) (.seq (reg Tryz.f248 26) Code.ret)) (.seq (reg Tryz.f248 27) (.cond (Operand.tmp 179) (.seq (reg Tryz.f248 28) (.seq (reg Tryz.f248 29) (.seq (reg Tryz.f248 30) Code.ret))) (.seq (reg Tryz.f248 31) (.cond (Operand.tmp 205) (.seq (reg Tryz.f248 32) Code.ret) (.seq (reg Tryz.f248 33) (.cond (Operand.tmp 216) (.seq (reg Tryz.f248 34) Code.ret) Code.skip)))))))))))))))))))))))))))) (.seq (reg Tryz.f248 35) Code.ret))))
theorem body248 : Tryz.f248.body = some c248:=by kernel_rfl

noncomputable def c250 : Code:=(.seq (reg Tryz.f250 0) (.seq (reg Tryz.f250 1) (.seq (.seq (reg Tryz.f250 2) (.cond (Operand.tmp 19) (.seq (reg Tryz.f250 3) Code.ret) Code.skip)) (.seq (reg Tryz.f250 4) (.seq (.seq (reg Tryz.f250 5) (.block 0 (.seq (reg Tryz.f250 6) (.cond (Operand.tmp 25) (.seq (.seq (reg Tryz.f250 7) (.cond (Operand.tmp 39) (.seq (reg Tryz.f250 8) Code.ret) Code.skip)) (.seq (reg Tryz.f250 9) (reg Tryz.f250 10))) (.seq (reg Tryz.f250 11) (.cond (Operand.tmp 55) (.seq (.seq (reg Tryz.f250 12) (.cond (Operand.tmp 59) (.seq (reg Tryz.f250 13) Code.ret) Code.skip)) (reg Tryz.f250 14)) Code.skip)))))) (.seq (reg Tryz.f250 15) Code.ret))))))
theorem body250 : Tryz.f250.body = some c250:=by kernel_rfl

noncomputable def c251 : Code:=(.seq (reg Tryz.f251 0) (.seq (.seq (reg Tryz.f251 1) (.cond (Operand.tmp 8) (.seq (reg Tryz.f251 2) Code.ret) Code.skip)) (.seq (reg Tryz.f251 3) Code.ret)))
theorem body251 : Tryz.f251.body = some c251:=by kernel_rfl

noncomputable def c252 : Code:=(.seq (reg Tryz.f252 0) (.seq (.seq (reg Tryz.f252 1) (.cond (Operand.tmp 3) (.seq (reg Tryz.f252 2) Code.ret) Code.skip)) (.seq (reg Tryz.f252 3) Code.ret)))
theorem body252 : Tryz.f252.body = some c252:=by kernel_rfl

noncomputable def b253_1 : Code:=(.seq (.seq (reg Tryz.f253 2) (.cond (Operand.tmp 5) Code.skip (Code.exit 0))) (.seq (.block 1 (reg Tryz.f253 4)) (reg Tryz.f253 3)))
noncomputable def c253 : Code:=(.seq (reg Tryz.f253 0) (.seq (reg Tryz.f253 1) (.seq (.block 0 (.loop b253_1)) (.seq (reg Tryz.f253 5) Code.ret))))
theorem body253 : Tryz.f253.body = some c253:=by kernel_rfl

noncomputable def c254 : Code:=(.seq (reg Tryz.f254 0) (.seq (reg Tryz.f254 1) (.seq (.seq (reg Tryz.f254 2) (.cond (Operand.tmp 14) (.seq (reg Tryz.f254 3) Code.ret) Code.skip)) (.seq (reg Tryz.f254 4) (.seq (reg Tryz.f254 5) (.seq (.seq (reg Tryz.f254 6) (.cond (Operand.tmp 22) (.seq (reg Tryz.f254 7) Code.ret) Code.skip)) (.seq (.seq (reg Tryz.f254 8) (.cond (Operand.tmp 25) (.seq (reg Tryz.f254 9) Code.ret) Code.skip)) (.seq (reg Tryz.f254 10) (.seq (.seq (reg Tryz.f254 11) (.cond (Operand.tmp 39) (.seq (reg Tryz.f254 12) Code.ret) Code.skip)) (.seq (reg Tryz.f254 13) Code.ret))))))))))
theorem body254 : Tryz.f254.body = some c254:=by kernel_rfl

noncomputable def b255_1 : Code:=(.seq (.seq (reg Tryz.f255 3) (.cond (Operand.tmp 15) Code.skip (Code.exit 0))) (.seq (.block 1 (.seq (reg Tryz.f255 5) (.seq (.seq (reg Tryz.f255 6) (.cond (Operand.tmp 35) (.seq (reg Tryz.f255 7) Code.ret) Code.skip)) (.seq (reg Tryz.f255 8) (.cond (Operand.tmp 37) (reg Tryz.f255 9) Code.skip))))) (reg Tryz.f255 4)))
noncomputable def c255 : Code:=(.seq (reg Tryz.f255 0) (.seq (reg Tryz.f255 1) (.seq (.seq (reg Tryz.f255 2) (.block 0 (.loop b255_1))) (.seq (reg Tryz.f255 10) Code.ret))))
theorem body255 : Tryz.f255.body = some c255:=by kernel_rfl

noncomputable def c256 : Code:=(.seq (reg Tryz.f256 0) (.seq (reg Tryz.f256 1) (.seq (.seq (reg Tryz.f256 2) (.cond (Operand.tmp 13) (.seq (reg Tryz.f256 3) Code.ret) Code.skip)) (.seq (.seq (reg Tryz.f256 4) (.cond (Operand.tmp 18) (.seq (reg Tryz.f256 5) Code.ret) Code.skip)) (.seq (reg Tryz.f256 6) Code.ret)))))
theorem body256 : Tryz.f256.body = some c256:=by kernel_rfl

noncomputable def c257 : Code:=(.seq (reg Tryz.f257 0) (.seq (.block 0 (.seq (reg Tryz.f257 1) (.cond (Operand.tmp 3) (.seq (reg Tryz.f257 2) Code.ret) (.seq (.seq (reg Tryz.f257 3) (.cond (Operand.tmp 12) Code.skip (reg Tryz.f257 4))) (.cond (Operand.tmp 12) (.seq (reg Tryz.f257 5) Code.ret) (.seq (reg Tryz.f257 6) (.cond (Operand.tmp 35) (.seq (reg Tryz.f257 7) Code.ret) (.seq (reg Tryz.f257 8) (.cond (Operand.tmp 40) (.seq (reg Tryz.f257 9) Code.ret) Code.skip))))))))) (.seq (reg Tryz.f257 10) Code.ret)))
theorem body257 : Tryz.f257.body = some c257:=by kernel_rfl

noncomputable def c258 : Code:=(.seq (reg Tryz.f258 0) (.seq (reg Tryz.f258 1) Code.ret))
theorem body258 : Tryz.f258.body = some c258:=by kernel_rfl

noncomputable def c259 : Code:=(.seq (reg Tryz.f259 0) (.seq (.seq (reg Tryz.f259 1) (.cond (Operand.tmp 9) (.seq (reg Tryz.f259 2) Code.ret) Code.skip)) (.seq (reg Tryz.f259 3) (.seq (reg Tryz.f259 4) (.seq (reg Tryz.f259 5) (.seq (reg Tryz.f259 6) (.seq (.seq (reg Tryz.f259 7) (.cond (Operand.tmp 33) (.seq (reg Tryz.f259 8) Code.ret) Code.skip)) (.seq (reg Tryz.f259 9) Code.ret))))))))
theorem body259 : Tryz.f259.body = some c259:=by kernel_rfl

noncomputable def c260 : Code:=(.seq (reg Tryz.f260 0) (.seq (.seq (reg Tryz.f260 1) (.cond (Operand.tmp 24) (.seq (reg Tryz.f260 2) Code.ret) Code.skip)) (.seq (reg Tryz.f260 3) (.seq (reg Tryz.f260 4) (.seq (reg Tryz.f260 5) Code.ret)))))
theorem body260 : Tryz.f260.body = some c260:=by kernel_rfl

noncomputable def b261_1 : Code:=(.seq (reg Tryz.f261 5) (.seq (.cond (Operand.tmp 26) Code.skip (Code.exit 0)) (.seq (.block 1 (.seq (reg Tryz.f261 6) (reg Tryz.f261 7))) (reg Tryz.f261 8))))
noncomputable def c261 : Code:=(.seq (reg Tryz.f261 0) (.seq (.seq (reg Tryz.f261 1) (.cond (Operand.tmp 22) (.seq (reg Tryz.f261 2) Code.ret) Code.skip)) (.seq (reg Tryz.f261 3) (.seq (.seq (reg Tryz.f261 4) (.block 0 (.loop b261_1))) (.seq (reg Tryz.f261 9) Code.ret)))))
theorem body261 : Tryz.f261.body = some c261:=by kernel_rfl

noncomputable def c262 : Code:=(.seq (reg Tryz.f262 0) (.seq (reg Tryz.f262 1) Code.ret))
theorem body262 : Tryz.f262.body = some c262:=by kernel_rfl

noncomputable def c263 : Code:=(.seq (reg Tryz.f263 0) (.seq (reg Tryz.f263 1) Code.ret))
theorem body263 : Tryz.f263.body = some c263:=by kernel_rfl

noncomputable def c264 : Code:=(.seq (reg Tryz.f264 0) (.seq (reg Tryz.f264 1) Code.ret))
theorem body264 : Tryz.f264.body = some c264:=by kernel_rfl

noncomputable def c265 : Code:=(.seq (reg Tryz.f265 0) (.seq (reg Tryz.f265 1) Code.ret))
theorem body265 : Tryz.f265.body = some c265:=by kernel_rfl

noncomputable def c266 : Code:=(.seq (reg Tryz.f266 0) (.seq (reg Tryz.f266 1) Code.ret))
theorem body266 : Tryz.f266.body = some c266:=by kernel_rfl

noncomputable def c267 : Code:=(.seq (reg Tryz.f267 0) (.seq (reg Tryz.f267 1) Code.ret))
theorem body267 : Tryz.f267.body = some c267:=by kernel_rfl

noncomputable def c268 : Code:=(.seq (reg Tryz.f268 0) (.seq (reg Tryz.f268 1) Code.ret))
theorem body268 : Tryz.f268.body = some c268:=by kernel_rfl

noncomputable def c269 : Code:=(.seq (reg Tryz.f269 0) (.seq (reg Tryz.f269 1) (.seq (reg Tryz.f269 2) Code.ret)))
theorem body269 : Tryz.f269.body = some c269:=by kernel_rfl

noncomputable def c270 : Code:=(.seq (reg Tryz.f270 0) (.seq (reg Tryz.f270 1) Code.ret))
theorem body270 : Tryz.f270.body = some c270:=by kernel_rfl

noncomputable def c271 : Code:=(.seq (reg Tryz.f271 0) (.seq (.seq (reg Tryz.f271 1) (.cond (Operand.tmp 13) (.seq (reg Tryz.f271 2) Code.ret) Code.skip)) (.seq (reg Tryz.f271 3) (.seq (reg Tryz.f271 4) (.seq (reg Tryz.f271 5) Code.ret)))))
theorem body271 : Tryz.f271.body = some c271:=by kernel_rfl

noncomputable def b272_1 : Code:=(.seq (.seq (reg Tryz.f272 5) (.cond (Operand.tmp 19) Code.skip (Code.exit 0))) (.seq (.block 1 (.seq (reg Tryz.f272 7) (.seq (reg Tryz.f272 8) (.cond (Operand.tmp 28) (reg Tryz.f272 9) Code.skip)))) (reg Tryz.f272 6)))
noncomputable def c272 : Code:=(.seq (reg Tryz.f272 0) (.seq (.seq (reg Tryz.f272 1) (.cond (Operand.tmp 10) (.seq (reg Tryz.f272 2) Code.ret) Code.skip)) (.seq (reg Tryz.f272 3) (.seq (.seq (reg Tryz.f272 4) (.block 0 (.loop b272_1))) (.seq (reg Tryz.f272 10) Code.ret)))))
theorem body272 : Tryz.f272.body = some c272:=by kernel_rfl

noncomputable def c273 : Code:=(.seq (reg Tryz.f273 0) (.seq (reg Tryz.f273 1) Code.ret))
theorem body273 : Tryz.f273.body = some c273:=by kernel_rfl

noncomputable def c274 : Code:=(.seq (reg Tryz.f274 0) (.seq (reg Tryz.f274 1) (.seq (reg Tryz.f274 2) Code.ret)))
theorem body274 : Tryz.f274.body = some c274:=by kernel_rfl

noncomputable def c275 : Code:=(.seq (reg Tryz.f275 0) (.seq (reg Tryz.f275 1) (.seq (reg Tryz.f275 2) Code.ret)))
theorem body275 : Tryz.f275.body = some c275:=by kernel_rfl

noncomputable def c276 : Code:=(.seq (reg Tryz.f276 0) (.seq (reg Tryz.f276 1) Code.ret))
theorem body276 : Tryz.f276.body = some c276:=by kernel_rfl

noncomputable def b277_1 : Code:=(.seq (reg Tryz.f277 3) (.seq (.cond (Operand.tmp 7) Code.skip (Code.exit 0)) (.seq (.block 1 (.seq (reg Tryz.f277 4) (.seq (reg Tryz.f277 5) (reg Tryz.f277 6)))) (reg Tryz.f277 7))))
noncomputable def c277 : Code:=(.seq (reg Tryz.f277 0) (.seq (reg Tryz.f277 1) (.seq (.seq (reg Tryz.f277 2) (.block 0 (.loop b277_1))) (.seq (reg Tryz.f277 8) Code.ret))))
theorem body277 : Tryz.f277.body = some c277:=by kernel_rfl

noncomputable def c278 : Code:=(.seq (reg Tryz.f278 0) (.seq (.seq (reg Tryz.f278 1) (.cond (Operand.tmp 10) (.seq (reg Tryz.f278 2) Code.ret) Code.skip)) (.seq (reg Tryz.f278 3) (.seq (reg Tryz.f278 4) (.seq (.seq (reg Tryz.f278 5) (.cond (Operand.tmp 30) (reg Tryz.f278 6) Code.skip)) (.seq (reg Tryz.f278 7) Code.ret))))))
theorem body278 : Tryz.f278.body = some c278:=by kernel_rfl

noncomputable def c299 : Code:=(.seq (reg Tryz.f299 0) (reg Tryz.f299 1))
theorem body299 : Tryz.f299.body = some c299:=by kernel_rfl

end Go.Proofs.YthpkpciceodioaaGreatDoor
