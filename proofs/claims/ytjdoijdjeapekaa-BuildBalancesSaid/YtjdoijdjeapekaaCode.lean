import Derived.Test.YtjdoijdjeapekaaTt
namespace Go.Proofs.Ytjdoijdjeapekaa
open Go.Av
set_option maxRecDepth 1000000

noncomputable def b3_2 : Code:=(.seq (reg Try.f3 17) (.seq (.cond (.tmp 79) .skip (.exit 2)) (.seq (.block 3 (.seq (reg Try.f3 18) (.seq (reg Try.f3 19) (.cond (.tmp 105) (reg Try.f3 20) .skip)))) (reg Try.f3 21))))
noncomputable def b3_1 : Code:=(.seq (reg Try.f3 14) (.seq (.cond (.tmp 74) .skip (.exit 0)) (.seq (.block 1 (.seq (reg Try.f3 15) (.seq (reg Try.f3 16) (.block 2 (.loop b3_2))))) (reg Try.f3 22))))
noncomputable def b3_3 : Code:=(.seq (reg Try.f3 24) (.seq (.cond (.tmp 115) .skip (.exit 4)) (.seq (.block 5 (.seq (reg Try.f3 25) (.seq (reg Try.f3 26) (.cond (.tmp 128) (.seq (reg Try.f3 27) .ret) .skip)))) (reg Try.f3 28))))
noncomputable def c3 : Code:=(.seq (reg Try.f3 0) (.seq (.seq (reg Try.f3 1) (.cond (.tmp 24) (.seq (reg Try.f3 2) .ret) .skip)) (.seq (reg Try.f3 3) (.seq (reg Try.f3 4) (.seq (reg Try.f3 5) (.seq (reg Try.f3 6) (.seq (reg Try.f3 7) (.seq (.seq (reg Try.f3 8) (.cond (.tmp 45) (.seq (reg Try.f3 9) .ret) .skip)) (.seq (.seq (reg Try.f3 10) (.cond (.tmp 69) (.seq (reg Try.f3 11) .ret) .skip)) (.seq (reg Try.f3 12) (.seq (.seq (reg Try.f3 13) (.block 0 (.loop b3_1))) (.seq (.seq (reg Try.f3 23) (.block 4 (.loop b3_3))) (.seq (.seq (reg Try.f3 29) (.seq (reg Try.f3 30) (.cond (.tmp 153) (.seq (reg Try.f3 31) .ret) .skip))) (.seq (reg Try.f3 32) (.seq (.block 6 (.seq (reg Try.f3 33) (.cond (.tmp 160) (.seq (reg Try.f3 34) .ret) (.seq (reg Try.f3 35) (.cond (.tmp 196) (.seq (reg Try.f3 36) .ret) .skip))))) (.seq (reg Try.f3 37) .ret))))))))))))))))
theorem body3 : Try.f3.body = some c3:=by kernel_rfl

noncomputable def c4 : Code:=(.seq (reg Try.f4 0) (.seq (reg Try.f4 1) .ret))
theorem body4 : Try.f4.body = some c4:=by kernel_rfl

noncomputable def c5 : Code:=(.seq (reg Try.f5 0) (.seq (reg Try.f5 1) .ret))
theorem body5 : Try.f5.body = some c5:=by kernel_rfl

noncomputable def b6_1 : Code:=(.seq (.seq (reg Try.f6 3) (.cond (.tmp 13) .skip (.exit 0))) (.seq (.block 1 (.seq (reg Try.f6 5) (reg Try.f6 6))) (reg Try.f6 4)))
noncomputable def c6 : Code:=(.seq (reg Try.f6 0) (.seq (reg Try.f6 1) (.seq (.seq (reg Try.f6 2) (.block 0 (.loop b6_1))) (.seq (reg Try.f6 7) .ret))))
theorem body6 : Try.f6.body = some c6:=by kernel_rfl

noncomputable def b7_1 : Code:=(.seq (.seq (reg Try.f7 3) (.cond (.tmp 11) .skip (.exit 0))) (.seq (.block 1 (reg Try.f7 5)) (reg Try.f7 4)))
noncomputable def c7 : Code:=(.seq (reg Try.f7 0) (.seq (reg Try.f7 1) (.seq (.seq (reg Try.f7 2) (.block 0 (.loop b7_1))) (.seq (reg Try.f7 6) .ret))))
theorem body7 : Try.f7.body = some c7:=by kernel_rfl

noncomputable def c8 : Code:=(.seq (reg Try.f8 0) (.seq (reg Try.f8 1) (.seq (.seq (reg Try.f8 2) (.cond (.tmp 10) (reg Try.f8 3) .skip)) (.seq (reg Try.f8 4) .ret))))
theorem body8 : Try.f8.body = some c8:=by kernel_rfl

noncomputable def c9 : Code:=(.seq (reg Try.f9 0) (.seq (.seq (reg Try.f9 1) (.cond (.tmp 5) (.seq (reg Try.f9 2) .ret) .skip)) (.seq (reg Try.f9 3) .ret)))
theorem body9 : Try.f9.body = some c9:=by kernel_rfl

noncomputable def b10_1 : Code:=(.seq (reg Try.f10 6) (.seq (.cond (.tmp 44) .skip (.exit 0)) (.seq (.block 1 (.seq (reg Try.f10 7) (reg Try.f10 8))) (reg Try.f10 9))))
noncomputable def b10_2 : Code:=(.seq (reg Try.f10 16) (.seq (.cond (.tmp 80) .skip (.exit 2)) (.seq (.block 3 (.seq (reg Try.f10 17) (.seq (reg Try.f10 18) (.seq (reg Try.f10 19) (.seq (reg Try.f10 20) (.seq (reg Try.f10 21) (reg Try.f10 22))))))) (reg Try.f10 23))))
noncomputable def c10 : Code:=(.seq (reg Try.f10 0) (.seq (.seq (reg Try.f10 1) (.seq (reg Try.f10 2) (.cond (.tmp 36) (.seq (reg Try.f10 3) .ret) .skip))) (.seq (reg Try.f10 4) (.seq (.seq (reg Try.f10 5) (.block 0 (.loop b10_1))) (.seq (reg Try.f10 10) (.seq (.seq (reg Try.f10 11) (.cond (.tmp 73) (.seq (reg Try.f10 12) .ret) .skip)) (.seq (reg Try.f10 13) (.seq (reg Try.f10 14) (.seq (.seq (reg Try.f10 15) (.block 2 (.loop b10_2))) (.seq (reg Try.f10 24) (.seq (.seq (reg Try.f10 25) (.cond (.tmp 122) (.seq (reg Try.f10 26) .ret) .skip)) (.seq (.seq (reg Try.f10 27) (.seq (reg Try.f10 28) (.cond (.tmp 127) (.seq (reg Try.f10 29) .ret) .skip))) (.seq (reg Try.f10 30) (.seq (.seq (reg Try.f10 31) (.cond (.tmp 148) (.seq (reg Try.f10 32) (.seq (reg Try.f10 33) (.seq (reg Try.f10 34) (.seq (reg Try.f10 35) (.seq (reg Try.f10 36) (.cond (.tmp 176) (.seq (reg Try.f10 37) .ret) .skip)))))) .skip)) (.seq (.seq (reg Try.f10 38) (.cond (.tmp 180) (.seq (reg Try.f10 39) .ret) .skip)) (.seq (reg Try.f10 40) (.seq (reg Try.f10 41) .ret)))))))))))))))))
theorem body10 : Try.f10.body = some c10:=by kernel_rfl

noncomputable def b11_1 : Code:=(.seq (reg Try.f11 4) (.seq (.cond (.tmp 21) .skip (.exit 0)) (.seq (.block 1 (.seq (reg Try.f11 5) (.seq (reg Try.f11 6) (.cond (.tmp 27) (.seq (reg Try.f11 7) .ret) .skip)))) (reg Try.f11 8))))
noncomputable def c11 : Code:=(.seq (reg Try.f11 0) (.seq (.seq (reg Try.f11 1) (.cond (.tmp 15) (.seq (reg Try.f11 2) .ret) .skip)) (.seq (.seq (reg Try.f11 3) (.block 0 (.loop b11_1))) (.seq (.seq (reg Try.f11 9) (.cond (.tmp 40) (.seq (reg Try.f11 10) .ret) .skip)) (.seq (reg Try.f11 11) (.seq (reg Try.f11 12) .ret))))))
theorem body11 : Try.f11.body = some c11:=by kernel_rfl

noncomputable def c12 : Code:=(.seq (reg Try.f12 0) (.seq (reg Try.f12 1) .ret))
theorem body12 : Try.f12.body = some c12:=by kernel_rfl

noncomputable def b13_1 : Code:=(.seq (reg Try.f13 7) (.seq (.cond (.tmp 27) .skip (.exit 0)) (.seq (.block 1 (.seq (reg Try.f13 8) (.seq (reg Try.f13 9) (.cond (.tmp 40) (.seq (reg Try.f13 10) .ret) .skip)))) (reg Try.f13 11))))
noncomputable def b13_2 : Code:=(.seq (reg Try.f13 14) (.seq (.cond (.tmp 45) .skip (.exit 2)) (.seq (.block 3 (.seq (reg Try.f13 15) (.seq (.seq (reg Try.f13 16) (.cond (.tmp 57) (.seq (reg Try.f13 17) .ret) .skip)) (reg Try.f13 18)))) (reg Try.f13 19))))
noncomputable def b13_3 : Code:=(.seq (reg Try.f13 23) (.seq (.cond (.tmp 70) .skip (.exit 4)) (.seq (.block 5 (.seq (reg Try.f13 24) (reg Try.f13 25))) (reg Try.f13 26))))
noncomputable def c13 : Code:=(.seq (reg Try.f13 0) (.seq (.seq (reg Try.f13 1) (.seq (reg Try.f13 2) (.cond (.tmp 16) (.seq (reg Try.f13 3) .ret) .skip))) (.seq (.seq (reg Try.f13 4) (.cond (.tmp 23) (.seq (reg Try.f13 5) .ret) .skip)) (.seq (.seq (reg Try.f13 6) (.block 0 (.loop b13_1))) (.seq (reg Try.f13 12) (.seq (.seq (reg Try.f13 13) (.block 2 (.loop b13_2))) (.seq (.seq (reg Try.f13 20) (.cond (.tmp 65) (.seq (reg Try.f13 21) .ret) .skip)) (.seq (.seq (reg Try.f13 22) (.block 4 (.loop b13_3))) (.seq (.seq (reg Try.f13 27) (.cond (.tmp 79) (.seq (reg Try.f13 28) .ret) .skip)) (.seq (reg Try.f13 29) .ret))))))))))
theorem body13 : Try.f13.body = some c13:=by kernel_rfl

noncomputable def c14 : Code:=(.seq (reg Try.f14 0) (.seq (.seq (reg Try.f14 1) (.cond (.tmp 18) (.seq (reg Try.f14 2) .ret) .skip)) (.seq (reg Try.f14 3) .ret)))
theorem body14 : Try.f14.body = some c14:=by kernel_rfl

noncomputable def b15_1 : Code:=(.seq (reg Try.f15 3) (.seq (.cond (.tmp 17) .skip (.exit 0)) (.seq (.block 1 (.seq (reg Try.f15 4) (reg Try.f15 5))) (reg Try.f15 6))))
noncomputable def b15_2 : Code:=(.seq (reg Try.f15 9) (.seq (.cond (.tmp 30) .skip (.exit 2)) (.seq (.block 3 (.seq (reg Try.f15 10) (reg Try.f15 11))) (reg Try.f15 12))))
noncomputable def c15 : Code:=(.seq (reg Try.f15 0) (.seq (reg Try.f15 1) (.seq (.seq (reg Try.f15 2) (.block 0 (.loop b15_1))) (.seq (reg Try.f15 7) (.seq (.seq (reg Try.f15 8) (.block 2 (.loop b15_2))) (.seq (reg Try.f15 13) .ret))))))
theorem body15 : Try.f15.body = some c15:=by kernel_rfl

noncomputable def c16 : Code:=(.seq (reg Try.f16 0) (.seq (reg Try.f16 1) .ret))
theorem body16 : Try.f16.body = some c16:=by kernel_rfl

noncomputable def c17 : Code:=(.seq (reg Try.f17 0) (.seq (.seq (reg Try.f17 1) (.cond (.tmp 7) (.seq (reg Try.f17 2) .ret) .skip)) (.seq (reg Try.f17 3) (.seq (reg Try.f17 4) .ret))))
theorem body17 : Try.f17.body = some c17:=by kernel_rfl

noncomputable def c18 : Code:=(.seq (reg Try.f18 0) (.seq (reg Try.f18 1) .ret))
theorem body18 : Try.f18.body = some c18:=by kernel_rfl

noncomputable def c19 : Code:=(.seq (reg Try.f19 0) (.seq (reg Try.f19 1) .ret))
theorem body19 : Try.f19.body = some c19:=by kernel_rfl

noncomputable def b20_1 : Code:=(.seq (reg Try.f20 4) (.seq (.cond (.tmp 27) .skip (.exit 0)) (.seq (.block 1 (.seq (reg Try.f20 5) (.seq (reg Try.f20 6) (.seq (reg Try.f20 7) (.cond (.tmp 49) (.seq (reg Try.f20 8) .ret) .skip))))) (reg Try.f20 9))))
noncomputable def b20_2 : Code:=(.seq (reg Try.f20 14) (.seq (.cond (.tmp 60) .skip (.exit 2)) (.seq (.block 3 (.seq (reg Try.f20 15) (.seq (reg Try.f20 16) (.cond (.tmp 66) (.seq (reg Try.f20 17) .ret) .skip)))) (reg Try.f20 18))))
noncomputable def b20_3 : Code:=(.seq (reg Try.f20 21) (.seq (.cond (.tmp 72) .skip (.exit 4)) (.seq (.block 5 (.seq (reg Try.f20 22) (.seq (.seq (reg Try.f20 23) (.cond (.tmp 79) (.seq (reg Try.f20 24) .ret) .skip)) (reg Try.f20 25)))) (reg Try.f20 26))))
noncomputable def c20 : Code:=(.seq (reg Try.f20 0) (.seq (.seq (reg Try.f20 1) (.cond (.tmp 23) (.seq (reg Try.f20 2) .ret) .skip)) (.seq (.seq (reg Try.f20 3) (.block 0 (.loop b20_1))) (.seq (.seq (reg Try.f20 10) (.seq (reg Try.f20 11) (.cond (.tmp 55) (.seq (reg Try.f20 12) .ret) .skip))) (.seq (.seq (reg Try.f20 13) (.block 2 (.loop b20_2))) (.seq (reg Try.f20 19) (.seq (.seq (reg Try.f20 20) (.block 4 (.loop b20_3))) (.seq (reg Try.f20 27) .ret))))))))
theorem body20 : Try.f20.body = some c20:=by kernel_rfl

noncomputable def c21 : Code:=(.seq (reg Try.f21 0) (.seq (.seq (reg Try.f21 1) (.cond (.tmp 4) (.seq (reg Try.f21 2) .ret) .skip)) (.seq (reg Try.f21 3) .ret)))
theorem body21 : Try.f21.body = some c21:=by kernel_rfl

noncomputable def b22_1 : Code:=(.seq (reg Try.f22 4) (.seq (.cond (.tmp 22) .skip (.exit 0)) (.seq (.block 1 (.seq (reg Try.f22 5) (.seq (reg Try.f22 6) (.seq (reg Try.f22 7) (.cond (.tmp 35) (.seq (reg Try.f22 8) (reg Try.f22 9)) .skip))))) (reg Try.f22 10))))
noncomputable def b22_2 : Code:=(.seq (reg Try.f22 16) (.seq (.cond (.tmp 59) .skip (.exit 2)) (.seq (.block 3 (.seq (reg Try.f22 17) (reg Try.f22 18))) (reg Try.f22 19))))
noncomputable def c22 : Code:=(.seq (reg Try.f22 0) (.seq (reg Try.f22 1) (.seq (reg Try.f22 2) (.seq (.seq (reg Try.f22 3) (.block 0 (.loop b22_1))) (.seq (reg Try.f22 11) (.seq (.seq (reg Try.f22 12) (.cond (.tmp 53) (.seq (reg Try.f22 13) .ret) .skip)) (.seq (reg Try.f22 14) (.seq (.seq (reg Try.f22 15) (.block 2 (.loop b22_2))) (.seq (reg Try.f22 20) .ret)))))))))
theorem body22 : Try.f22.body = some c22:=by kernel_rfl

noncomputable def b23_1 : Code:=(.seq (reg Try.f23 3) (.seq (.cond (.tmp 9) .skip (.exit 0)) (.seq (.block 1 (.seq (reg Try.f23 4) (reg Try.f23 5))) (reg Try.f23 6))))
noncomputable def c23 : Code:=(.seq (reg Try.f23 0) (.seq (reg Try.f23 1) (.seq (.seq (reg Try.f23 2) (.block 0 (.loop b23_1))) (.seq (reg Try.f23 7) .ret))))
theorem body23 : Try.f23.body = some c23:=by kernel_rfl

noncomputable def c24 : Code:=(.seq (reg Try.f24 0) (.seq (.seq (reg Try.f24 1) (.cond (.tmp 5) (.seq (reg Try.f24 2) .ret) .skip)) (.seq (reg Try.f24 3) .ret)))
theorem body24 : Try.f24.body = some c24:=by kernel_rfl

noncomputable def b25_1 : Code:=(.seq (reg Try.f25 9) (.seq (.cond (.tmp 28) .skip (.exit 0)) (.seq (.block 1 (.seq (reg Try.f25 10) (.seq (.seq (reg Try.f25 11) (.cond (.tmp 34) (.seq (reg Try.f25 12) .ret) .skip)) (reg Try.f25 13)))) (reg Try.f25 14))))
noncomputable def c25 : Code:=(.seq (reg Try.f25 0) (.seq (.seq (reg Try.f25 1) (.cond (.tmp 8) (.seq (reg Try.f25 2) .ret) .skip)) (.seq (.seq (reg Try.f25 3) (.cond (.tmp 18) (.seq (reg Try.f25 4) .ret) .skip)) (.seq (.seq (reg Try.f25 5) (.cond (.tmp 22) (.seq (reg Try.f25 6) .ret) .skip)) (.seq (reg Try.f25 7) (.seq (.seq (reg Try.f25 8) (.block 0 (.loop b25_1))) (.seq (.seq (reg Try.f25 15) (.cond (.tmp 46) (.seq (reg Try.f25 16) .ret) .skip)) (.seq (reg Try.f25 17) .ret))))))))
theorem body25 : Try.f25.body = some c25:=by kernel_rfl

noncomputable def c26 : Code:=(.seq (reg Try.f26 0) (.seq (reg Try.f26 1) .ret))
theorem body26 : Try.f26.body = some c26:=by kernel_rfl

noncomputable def b27_1 : Code:=(.seq (reg Try.f27 7) (.seq (.cond (.tmp 27) .skip (.exit 0)) (.seq (.block 1 (.seq (reg Try.f27 8) (.seq (reg Try.f27 9) (.cond (.tmp 39) (.seq (reg Try.f27 10) .ret) .skip)))) (reg Try.f27 11))))
noncomputable def b27_2 : Code:=(.seq (reg Try.f27 16) (.seq (.cond (.tmp 52) .skip (.exit 2)) (.seq (.block 3 (.seq (reg Try.f27 17) (reg Try.f27 18))) (reg Try.f27 19))))
noncomputable def c27 : Code:=(.seq (reg Try.f27 0) (.seq (.seq (reg Try.f27 1) (.seq (reg Try.f27 2) (.cond (.tmp 16) (.seq (reg Try.f27 3) .ret) .skip))) (.seq (.seq (reg Try.f27 4) (.cond (.tmp 23) (.seq (reg Try.f27 5) .ret) .skip)) (.seq (.seq (reg Try.f27 6) (.block 0 (.loop b27_1))) (.seq (reg Try.f27 12) (.seq (.seq (reg Try.f27 13) (.cond (.tmp 47) (.seq (reg Try.f27 14) .ret) .skip)) (.seq (.seq (reg Try.f27 15) (.block 2 (.loop b27_2))) (.seq (.seq (reg Try.f27 20) (.cond (.tmp 61) (.seq (reg Try.f27 21) .ret) .skip)) (.seq (reg Try.f27 22) .ret)))))))))
theorem body27 : Try.f27.body = some c27:=by kernel_rfl

noncomputable def c28 : Code:=(.seq (reg Try.f28 0) (.seq (reg Try.f28 1) .ret))
theorem body28 : Try.f28.body = some c28:=by kernel_rfl

noncomputable def b29_1 : Code:=(.seq (reg Try.f29 7) (.seq (.cond (.tmp 27) .skip (.exit 0)) (.seq (.block 1 (.seq (reg Try.f29 8) (.seq (.seq (reg Try.f29 9) (.cond (.tmp 32) (.seq (reg Try.f29 10) .ret) .skip)) (reg Try.f29 11)))) (reg Try.f29 12))))
noncomputable def b29_3 : Code:=(.seq (.seq (reg Try.f29 19) (.cond (.tmp 48) .skip (.exit 4))) (.seq (.block 5 (.seq (reg Try.f29 21) (.cond (.tmp 63) (.seq (reg Try.f29 22) .ret) .skip))) (reg Try.f29 20)))
noncomputable def b29_2 : Code:=(.seq (reg Try.f29 16) (.seq (.cond (.tmp 44) .skip (.exit 2)) (.seq (.block 3 (.seq (reg Try.f29 17) (.seq (reg Try.f29 18) (.block 4 (.loop b29_3))))) (reg Try.f29 23))))
noncomputable def b29_4 : Code:=(.seq (reg Try.f29 25) (.seq (.cond (.tmp 69) .skip (.exit 6)) (.seq (.block 7 (.seq (reg Try.f29 26) (.seq (reg Try.f29 27) (.cond (.tmp 79) (.seq (reg Try.f29 28) .ret) .skip)))) (reg Try.f29 29))))
noncomputable def c29 : Code:=(.seq (reg Try.f29 0) (.seq (.seq (reg Try.f29 1) (.cond (.tmp 12) (.seq (reg Try.f29 2) .ret) .skip)) (.seq (.seq (reg Try.f29 3) (.cond (.tmp 22) (.seq (reg Try.f29 4) .ret) .skip)) (.seq (reg Try.f29 5) (.seq (.seq (reg Try.f29 6) (.block 0 (.loop b29_1))) (.seq (.seq (reg Try.f29 13) (.cond (.tmp 39) (.seq (reg Try.f29 14) .ret) .skip)) (.seq (.seq (reg Try.f29 15) (.block 2 (.loop b29_2))) (.seq (.seq (reg Try.f29 24) (.block 6 (.loop b29_4))) (.seq (reg Try.f29 30) .ret)))))))))
theorem body29 : Try.f29.body = some c29:=by kernel_rfl

noncomputable def c30 : Code:=(.seq (reg Try.f30 0) (.seq (.seq (reg Try.f30 1) (.cond (.tmp 4) (.seq (reg Try.f30 2) .ret) .skip)) (.seq (reg Try.f30 3) .ret)))
theorem body30 : Try.f30.body = some c30:=by kernel_rfl

noncomputable def c31 : Code:=(.seq (reg Try.f31 0) (.seq (reg Try.f31 1) .ret))
theorem body31 : Try.f31.body = some c31:=by kernel_rfl

noncomputable def b32_1 : Code:=(.seq (reg Try.f32 4) (.seq (.cond (.tmp 16) .skip (.exit 0)) (.seq (.block 1 (.seq (reg Try.f32 5) (.seq (reg Try.f32 6) (.cond (.tmp 21) (.seq (reg Try.f32 7) .ret) .skip)))) (reg Try.f32 8))))
noncomputable def b32_2 : Code:=(.seq (reg Try.f32 13) (.seq (.cond (.tmp 34) .skip (.exit 2)) (.seq (.block 3 (.seq (reg Try.f32 14) (.seq (.seq (reg Try.f32 15) (.cond (.tmp 41) (.seq (reg Try.f32 16) .ret) .skip)) (reg Try.f32 17)))) (reg Try.f32 18))))
noncomputable def c32 : Code:=(.seq (reg Try.f32 0) (.seq (.seq (reg Try.f32 1) (.cond (.tmp 12) (.seq (reg Try.f32 2) .ret) .skip)) (.seq (.seq (reg Try.f32 3) (.block 0 (.loop b32_1))) (.seq (.seq (reg Try.f32 9) (.cond (.tmp 30) (.seq (reg Try.f32 10) .ret) .skip)) (.seq (reg Try.f32 11) (.seq (.seq (reg Try.f32 12) (.block 2 (.loop b32_2))) (.seq (reg Try.f32 19) .ret)))))))
theorem body32 : Try.f32.body = some c32:=by kernel_rfl

noncomputable def c33 : Code:=(.seq (reg Try.f33 0) (.seq (reg Try.f33 1) .ret))
theorem body33 : Try.f33.body = some c33:=by kernel_rfl

noncomputable def c34 : Code:=(.seq (reg Try.f34 0) (.seq (.seq (reg Try.f34 1) (.seq (reg Try.f34 2) (.cond (.tmp 14) (.seq (reg Try.f34 3) .ret) .skip))) (.seq (.seq (reg Try.f34 4) (.cond (.tmp 20) (.seq (reg Try.f34 5) .ret) .skip)) (.seq (reg Try.f34 6) (.seq (reg Try.f34 7) (.seq (reg Try.f34 8) (.seq (reg Try.f34 9) (.seq (.seq (reg Try.f34 10) (.cond (.tmp 36) (.seq (reg Try.f34 11) .ret) .skip)) (.seq (reg Try.f34 12) .ret)))))))))
theorem body34 : Try.f34.body = some c34:=by kernel_rfl

noncomputable def b35_1 : Code:=(.seq (reg Try.f35 4) (.seq (.cond (.tmp 23) .skip (.exit 0)) (.seq (.block 1 (.seq (reg Try.f35 5) (.seq (reg Try.f35 6) (.cond (.tmp 34) (.seq (reg Try.f35 7) .ret) .skip)))) (reg Try.f35 8))))
noncomputable def b35_3 : Code:=(.seq (reg Try.f35 15) (.seq (.cond (.tmp 51) .skip (.exit 4)) (.seq (.block 5 (.seq (reg Try.f35 16) (.seq (reg Try.f35 17) (.cond (.tmp 56) (.seq (reg Try.f35 18) .ret) .skip)))) (reg Try.f35 19))))
noncomputable def b35_2 : Code:=(.seq (reg Try.f35 10) (.seq (.cond (.tmp 40) .skip (.exit 2)) (.seq (.block 3 (.seq (reg Try.f35 11) (.seq (.seq (reg Try.f35 12) (.cond (.tmp 46) (.seq (reg Try.f35 13) .ret) .skip)) (.seq (reg Try.f35 14) (.block 4 (.loop b35_3)))))) (reg Try.f35 20))))
noncomputable def c35 : Code:=(.seq (reg Try.f35 0) (.seq (.seq (reg Try.f35 1) (.cond (.tmp 18) (.seq (reg Try.f35 2) .ret) .skip)) (.seq (.seq (reg Try.f35 3) (.block 0 (.loop b35_1))) (.seq (.seq (reg Try.f35 9) (.block 2 (.loop b35_2))) (.seq (reg Try.f35 21) .ret)))))
theorem body35 : Try.f35.body = some c35:=by kernel_rfl

noncomputable def b36_1 : Code:=(.seq (reg Try.f36 4) (.seq (.cond (.tmp 28) .skip (.exit 0)) (.seq (.block 1 (.seq (reg Try.f36 5) (.seq (reg Try.f36 6) (reg Try.f36 7)))) (reg Try.f36 8))))
noncomputable def b36_2 : Code:=(.seq (reg Try.f36 11) (.seq (.cond (.tmp 53) .skip (.exit 2)) (.seq (.block 3 (.seq (reg Try.f36 12) (.seq (reg Try.f36 13) (reg Try.f36 14)))) (reg Try.f36 15))))
noncomputable def b36_4 : Code:=(.seq (reg Try.f36 24) (.seq (.cond (.tmp 94) .skip (.exit 6)) (.seq (.block 7 (.seq (reg Try.f36 25) (reg Try.f36 26))) (reg Try.f36 27))))
noncomputable def b36_3 : Code:=(.seq (reg Try.f36 20) (.seq (.cond (.tmp 80) .skip (.exit 4)) (.seq (.block 5 (.seq (reg Try.f36 21) (.seq (reg Try.f36 22) (.seq (reg Try.f36 23) (.block 6 (.loop b36_4)))))) (reg Try.f36 28))))
noncomputable def c36 : Code:=(.seq (reg Try.f36 0) (.seq (reg Try.f36 1) (.seq (reg Try.f36 2) (.seq (.seq (reg Try.f36 3) (.block 0 (.loop b36_1))) (.seq (reg Try.f36 9) (.seq (.seq (reg Try.f36 10) (.block 2 (.loop b36_2))) (.seq (reg Try.f36 16) (.seq (.seq (reg Try.f36 17) (.cond (.tmp 74) (.seq (reg Try.f36 18) .ret) .skip)) (.seq (.seq (reg Try.f36 19) (.block 4 (.loop b36_3))) (.seq (reg Try.f36 29) .ret))))))))))
theorem body36 : Try.f36.body = some c36:=by kernel_rfl

noncomputable def b37_1 : Code:=(.seq (reg Try.f37 3) (.seq (.cond (.tmp 9) .skip (.exit 0)) (.seq (.block 1 (.seq (reg Try.f37 4) (.seq (.seq (reg Try.f37 5) (.cond (.tmp 16) (.seq (reg Try.f37 6) .ret) .skip)) (reg Try.f37 7)))) (reg Try.f37 8))))
noncomputable def c37 : Code:=(.seq (reg Try.f37 0) (.seq (reg Try.f37 1) (.seq (.seq (reg Try.f37 2) (.block 0 (.loop b37_1))) (.seq (reg Try.f37 9) .ret))))
theorem body37 : Try.f37.body = some c37:=by kernel_rfl

noncomputable def c38 : Code:=(.seq (reg Try.f38 0) (.seq (reg Try.f38 1) .ret))
theorem body38 : Try.f38.body = some c38:=by kernel_rfl

noncomputable def b39_1 : Code:=(.seq (reg Try.f39 3) (.seq (.cond (.tmp 10) .skip (.exit 0)) (.seq (.block 1 (.seq (reg Try.f39 4) (.seq (.seq (reg Try.f39 5) (.cond (.tmp 24) (.seq (reg Try.f39 6) .ret) .skip)) (reg Try.f39 7)))) (reg Try.f39 8))))
noncomputable def c39 : Code:=(.seq (reg Try.f39 0) (.seq (reg Try.f39 1) (.seq (.seq (reg Try.f39 2) (.block 0 (.loop b39_1))) (.seq (reg Try.f39 9) .ret))))
theorem body39 : Try.f39.body = some c39:=by kernel_rfl

noncomputable def b40_1 : Code:=(.seq (reg Try.f40 4) (.seq (.cond (.tmp 23) .skip (.exit 0)) (.seq (.block 1 (.seq (reg Try.f40 5) (.seq (reg Try.f40 6) (.cond (.tmp 34) (.seq (reg Try.f40 7) .ret) .skip)))) (reg Try.f40 8))))
noncomputable def b40_3 : Code:=(.seq (reg Try.f40 15) (.seq (.cond (.tmp 51) .skip (.exit 4)) (.seq (.block 5 (.seq (reg Try.f40 16) (.seq (reg Try.f40 17) (.cond (.tmp 56) (.seq (reg Try.f40 18) .ret) .skip)))) (reg Try.f40 19))))
noncomputable def b40_2 : Code:=(.seq (reg Try.f40 10) (.seq (.cond (.tmp 40) .skip (.exit 2)) (.seq (.block 3 (.seq (reg Try.f40 11) (.seq (.seq (reg Try.f40 12) (.cond (.tmp 46) (.seq (reg Try.f40 13) .ret) .skip)) (.seq (reg Try.f40 14) (.block 4 (.loop b40_3)))))) (reg Try.f40 20))))
noncomputable def c40 : Code:=(.seq (reg Try.f40 0) (.seq (.seq (reg Try.f40 1) (.cond (.tmp 18) (.seq (reg Try.f40 2) .ret) .skip)) (.seq (.seq (reg Try.f40 3) (.block 0 (.loop b40_1))) (.seq (.seq (reg Try.f40 9) (.block 2 (.loop b40_2))) (.seq (reg Try.f40 21) .ret)))))
theorem body40 : Try.f40.body = some c40:=by kernel_rfl

noncomputable def c41 : Code:=(.seq (reg Try.f41 0) (.seq (reg Try.f41 1) .ret))
theorem body41 : Try.f41.body = some c41:=by kernel_rfl

noncomputable def c42 : Code:=(.seq (reg Try.f42 0) (.seq (reg Try.f42 1) .ret))
theorem body42 : Try.f42.body = some c42:=by kernel_rfl

noncomputable def b43_1 : Code:=(.seq (reg Try.f43 4) (.seq (.cond (.tmp 13) .skip (.exit 0)) (.seq (.block 1 (.seq (reg Try.f43 5) (.seq (reg Try.f43 6) (.cond (.tmp 21) (.seq (reg Try.f43 7) .ret) .skip)))) (reg Try.f43 8))))
noncomputable def c43 : Code:=(.seq (reg Try.f43 0) (.seq (.seq (reg Try.f43 1) (.cond (.tmp 9) (.seq (reg Try.f43 2) .ret) .skip)) (.seq (.seq (reg Try.f43 3) (.block 0 (.loop b43_1))) (.seq (.seq (reg Try.f43 9) (.cond (.tmp 28) (.seq (reg Try.f43 10) .ret) .skip)) (.seq (reg Try.f43 11) .ret)))))
theorem body43 : Try.f43.body = some c43:=by kernel_rfl

noncomputable def b44_1 : Code:=(.seq (reg Try.f44 3) (.seq (.cond (.tmp 9) .skip (.exit 0)) (.seq (.block 1 (.seq (reg Try.f44 4) (reg Try.f44 5))) (reg Try.f44 6))))
noncomputable def c44 : Code:=(.seq (reg Try.f44 0) (.seq (reg Try.f44 1) (.seq (.seq (reg Try.f44 2) (.block 0 (.loop b44_1))) (.seq (reg Try.f44 7) .ret))))
theorem body44 : Try.f44.body = some c44:=by kernel_rfl

noncomputable def c45 : Code:=(.seq (.seq (reg Try.f45 0) (.cond (.tmp 11) (.seq (.seq (reg Try.f45 1) (.cond (.tmp 27) (reg Try.f45 2) .skip)) .ret) .skip)) (.seq (.seq (reg Try.f45 3) (.cond (.tmp 44) .ret .skip)) (.seq (reg Try.f45 4) (.seq (reg Try.f45 5) (.seq (reg Try.f45 6) (reg Try.f45 7))))))
theorem body45 : Try.f45.body = some c45:=by kernel_rfl

noncomputable def c46 : Code:=(.seq (.seq (reg Try.f46 0) (.cond (.tmp 11) .ret .skip)) (.seq (.seq (reg Try.f46 1) (.cond (.tmp 24) (.seq (reg Try.f46 2) .ret) .skip)) (.seq (reg Try.f46 3) (.seq (reg Try.f46 4) (reg Try.f46 5)))))
theorem body46 : Try.f46.body = some c46:=by kernel_rfl

noncomputable def c47 : Code:=(.seq (reg Try.f47 0) (.seq (reg Try.f47 1) .ret))
theorem body47 : Try.f47.body = some c47:=by kernel_rfl

noncomputable def c48 : Code:=(.seq (reg Try.f48 0) (.seq (.block 0 (.seq (reg Try.f48 1) (.cond (.tmp 5) (.seq (reg Try.f48 2) .ret) (.seq (reg Try.f48 3) (.cond (.tmp 13) (.seq (reg Try.f48 4) .ret) (.seq (reg Try.f48 5) (.cond (.tmp 22) (.seq (reg Try.f48 6) .ret) .skip))))))) (.seq (reg Try.f48 7) .ret)))
theorem body48 : Try.f48.body = some c48:=by kernel_rfl

noncomputable def c49 : Code:=(.seq (reg Try.f49 0) (.seq (reg Try.f49 1) .ret))
theorem body49 : Try.f49.body = some c49:=by kernel_rfl

noncomputable def c50 : Code:=(.seq (reg Try.f50 0) (.seq (reg Try.f50 1) .ret))
theorem body50 : Try.f50.body = some c50:=by kernel_rfl

noncomputable def c51 : Code:=(.seq (reg Try.f51 0) (.seq (reg Try.f51 1) .ret))
theorem body51 : Try.f51.body = some c51:=by kernel_rfl

noncomputable def b52_1 : Code:=(.seq (reg Try.f52 4) (.seq (.cond (.tmp 27) .skip (.exit 0)) (.seq (.block 1 (.seq (reg Try.f52 5) (reg Try.f52 6))) (reg Try.f52 7))))
noncomputable def b52_2 : Code:=(.seq (reg Try.f52 10) (.seq (.cond (.tmp 49) .skip (.exit 2)) (.seq (.block 3 (.seq (reg Try.f52 11) (reg Try.f52 12))) (reg Try.f52 13))))
noncomputable def b52_4 : Code:=(.seq (reg Try.f52 21) (.seq (.cond (.tmp 80) .skip (.exit 6)) (.seq (.block 7 (.seq (reg Try.f52 22) (reg Try.f52 23))) (reg Try.f52 24))))
noncomputable def b52_3 : Code:=(.seq (reg Try.f52 16) (.seq (.cond (.tmp 65) .skip (.exit 4)) (.seq (.block 5 (.seq (reg Try.f52 17) (.seq (.seq (reg Try.f52 18) (.cond (.tmp 69) (.exit 4) .skip)) (.seq (reg Try.f52 19) (.seq (reg Try.f52 20) (.block 6 (.loop b52_4))))))) (reg Try.f52 25))))
noncomputable def c52 : Code:=(.seq (reg Try.f52 0) (.seq (reg Try.f52 1) (.seq (reg Try.f52 2) (.seq (.seq (reg Try.f52 3) (.block 0 (.loop b52_1))) (.seq (reg Try.f52 8) (.seq (.seq (reg Try.f52 9) (.block 2 (.loop b52_2))) (.seq (reg Try.f52 14) (.seq (.seq (reg Try.f52 15) (.block 4 (.loop b52_3))) (.seq (reg Try.f52 26) .ret)))))))))
theorem body52 : Try.f52.body = some c52:=by kernel_rfl

noncomputable def c53 : Code:=(.seq (reg Try.f53 0) (.seq (.seq (reg Try.f53 1) (.cond (.tmp 4) (.seq (reg Try.f53 2) .ret) .skip)) (.seq (reg Try.f53 3) .ret)))
theorem body53 : Try.f53.body = some c53:=by kernel_rfl

noncomputable def c54 : Code:=(.seq (reg Try.f54 0) (.seq (reg Try.f54 1) .ret))
theorem body54 : Try.f54.body = some c54:=by kernel_rfl

noncomputable def c55 : Code:=(.seq (reg Try.f55 0) (.seq (reg Try.f55 1) (.seq (reg Try.f55 2) (.seq (reg Try.f55 3) .ret))))
theorem body55 : Try.f55.body = some c55:=by kernel_rfl

noncomputable def b56_1 : Code:=(.seq (reg Try.f56 3) (.seq (.cond (.tmp 11) .skip (.exit 0)) (.seq (.block 1 (.seq (reg Try.f56 4) (reg Try.f56 5))) (reg Try.f56 6))))
noncomputable def c56 : Code:=(.seq (reg Try.f56 0) (.seq (reg Try.f56 1) (.seq (.seq (reg Try.f56 2) (.block 0 (.loop b56_1))) (.seq (reg Try.f56 7) .ret))))
theorem body56 : Try.f56.body = some c56:=by kernel_rfl

noncomputable def c57 : Code:=(.seq (reg Try.f57 0) (.seq (reg Try.f57 1) .ret))
theorem body57 : Try.f57.body = some c57:=by kernel_rfl

noncomputable def c58 : Code:=(.seq (reg Try.f58 0) (.seq (reg Try.f58 1) .ret))
theorem body58 : Try.f58.body = some c58:=by kernel_rfl

noncomputable def c59 : Code:=(.seq (reg Try.f59 0) (.seq (reg Try.f59 1) .ret))
theorem body59 : Try.f59.body = some c59:=by kernel_rfl

noncomputable def c60 : Code:=(.seq (reg Try.f60 0) (.seq (.block 0 (.seq (reg Try.f60 1) (.cond (.tmp 5) (.seq (reg Try.f60 2) .ret) (.seq (reg Try.f60 3) (.cond (.tmp 12) (.seq (reg Try.f60 4) .ret) (.seq (reg Try.f60 5) (.cond (.tmp 21) (.seq (reg Try.f60 6) .ret) .skip))))))) (.seq (reg Try.f60 7) .ret)))
theorem body60 : Try.f60.body = some c60:=by kernel_rfl

noncomputable def c61 : Code:=(.seq (reg Try.f61 0) (.seq (reg Try.f61 1) .ret))
theorem body61 : Try.f61.body = some c61:=by kernel_rfl

noncomputable def c62 : Code:=(.seq (reg Try.f62 0) (.seq (reg Try.f62 1) .ret))
theorem body62 : Try.f62.body = some c62:=by kernel_rfl

noncomputable def c63 : Code:=(.seq (reg Try.f63 0) (.seq (reg Try.f63 1) .ret))
theorem body63 : Try.f63.body = some c63:=by kernel_rfl

noncomputable def c64 : Code:=(.seq (reg Try.f64 0) (.seq (reg Try.f64 1) (.seq (reg Try.f64 2) .ret)))
theorem body64 : Try.f64.body = some c64:=by kernel_rfl

noncomputable def b65_1 : Code:=(.seq (reg Try.f65 3) (.seq (.cond (.tmp 12) .skip (.exit 0)) (.seq (.block 1 (.seq (reg Try.f65 4) (reg Try.f65 5))) (reg Try.f65 6))))
noncomputable def c65 : Code:=(.seq (reg Try.f65 0) (.seq (reg Try.f65 1) (.seq (.seq (reg Try.f65 2) (.block 0 (.loop b65_1))) (.seq (reg Try.f65 7) .ret))))
theorem body65 : Try.f65.body = some c65:=by kernel_rfl

noncomputable def c66 : Code:=(.seq (reg Try.f66 0) (.seq (reg Try.f66 1) .ret))
theorem body66 : Try.f66.body = some c66:=by kernel_rfl

noncomputable def c67 : Code:=(.seq (reg Try.f67 0) (.seq (reg Try.f67 1) .ret))
theorem body67 : Try.f67.body = some c67:=by kernel_rfl

end Go.Proofs.Ytjdoijdjeapekaa
