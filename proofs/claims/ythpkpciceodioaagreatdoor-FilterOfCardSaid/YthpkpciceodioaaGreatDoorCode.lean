import Derived.Test.YthpkpciceodioaaGreatDoorTt
namespace Go.Proofs.YthpkpciceodioaaGreatDoor
open Go.Av
set_option maxRecDepth 1000000
noncomputable def c3:Code:=(.seq (reg Tryz.f3 0) (.seq (.seq (reg Tryz.f3 1) (.cond (.tmp 8) (.seq (reg Tryz.f3 2) .ret) .skip)) (.seq (.seq (reg Tryz.f3 3) (.cond (.tmp 11) (.seq (reg Tryz.f3 4) .ret) .skip)) (.seq (reg Tryz.f3 5) (.seq (reg Tryz.f3 6) (.seq (reg Tryz.f3 7) .ret))))))
theorem body3:Tryz.f3.body=some c3:=by kernel_rfl
noncomputable def c4:Code:=(.seq (reg Tryz.f4 0) (.seq (.seq (reg Tryz.f4 1) (.cond (.tmp 12) (.seq (reg Tryz.f4 2) .ret) .skip)) (.seq (.seq (reg Tryz.f4 3) (.cond (.tmp 21) (.seq (reg Tryz.f4 4) .ret) .skip)) (.seq (reg Tryz.f4 5) (.seq (reg Tryz.f4 6) (.seq (reg Tryz.f4 7) .ret))))))
noncomputable def b5_3:Code:=(.seq (reg Tryz.f5 15) (.seq (.cond (.tmp 56) .skip (.exit 4)) (.seq (.block 5 (.seq (reg Tryz.f5 16) (.seq (reg Tryz.f5 17) (.seq (reg Tryz.f5 18) (.cond (.tmp 73) (.seq (reg Tryz.f5 19) .ret) .skip))))) (reg Tryz.f5 20))))
noncomputable def b5_4:Code:=(.seq (reg Tryz.f5 22) (.seq (.cond (.tmp 79) .skip (.exit 6)) (.seq (.block 7 (.seq (reg Tryz.f5 23) (.seq (reg Tryz.f5 24) (.seq (reg Tryz.f5 25) (.cond (.tmp 101) (.seq (reg Tryz.f5 26) .ret) .skip))))) (reg Tryz.f5 27))))
noncomputable def b5_2:Code:=(.seq (reg Tryz.f5 12) (.seq (.cond (.tmp 48) .skip (.exit 2)) (.seq (.block 3 (.seq (reg Tryz.f5 13) (.seq (.seq (reg Tryz.f5 14) (.block 4 (.loop b5_3))) (.seq (reg Tryz.f5 21) (.block 6 (.loop b5_4)))))) (reg Tryz.f5 28))))
noncomputable def b5_1:Code:=(.seq (reg Tryz.f5 5) (.seq (.cond (.tmp 31) .skip (.exit 0)) (.seq (.block 1 (.seq (reg Tryz.f5 6) (.seq (reg Tryz.f5 7) (.seq (.seq (reg Tryz.f5 8) (.cond (.tmp 40) (.seq (reg Tryz.f5 9) .ret) .skip)) (.seq (reg Tryz.f5 10) (.seq (reg Tryz.f5 11) (.block 2 (.loop b5_2)))))))) (reg Tryz.f5 29))))
noncomputable def c5:Code:=(.seq (reg Tryz.f5 0) (.seq (.seq (reg Tryz.f5 1) (.cond (.tmp 22) (.seq (reg Tryz.f5 2) .ret) .skip)) (.seq (reg Tryz.f5 3) (.seq (.seq (reg Tryz.f5 4) (.block 0 (.loop b5_1))) (.seq (reg Tryz.f5 30) .ret)))))
noncomputable def b6_4:Code:=(.seq (reg Tryz.f6 20) (.seq (.cond (.tmp 73) .skip (.exit 6)) (.seq (.block 7 (.seq (reg Tryz.f6 21) (.seq (reg Tryz.f6 22) (.cond (.tmp 88) (.seq (reg Tryz.f6 23) .ret) .skip)))) (reg Tryz.f6 24))))
noncomputable def b6_3:Code:=(.seq (reg Tryz.f6 17) (.seq (.cond (.tmp 66) .skip (.exit 4)) (.seq (.block 5 (.seq (reg Tryz.f6 18) (.seq (reg Tryz.f6 19) (.block 6 (.loop b6_4))))) (reg Tryz.f6 25))))
noncomputable def b6_2:Code:=(.seq (reg Tryz.f6 11) (.seq (.cond (.tmp 47) .skip (.exit 2)) (.seq (.block 3 (.seq (reg Tryz.f6 12) (.seq (reg Tryz.f6 13) (.seq (.seq (reg Tryz.f6 14) (.cond (.tmp 61) (.seq (reg Tryz.f6 15) .ret) .skip)) (.seq (reg Tryz.f6 16) (.block 4 (.loop b6_3))))))) (reg Tryz.f6 26))))
noncomputable def b6_1:Code:=(.seq (reg Tryz.f6 7) (.seq (.cond (.tmp 33) .skip (.exit 0)) (.seq (.block 1 (.seq (reg Tryz.f6 8) (.seq (reg Tryz.f6 9) (.seq (reg Tryz.f6 10) (.block 2 (.loop b6_2)))))) (reg Tryz.f6 27))))
noncomputable def c6:Code:=(.seq (reg Tryz.f6 0) (.seq (.seq (reg Tryz.f6 1) (.cond (.tmp 21) (.seq (reg Tryz.f6 2) .ret) .skip)) (.seq (.seq (reg Tryz.f6 3) (.cond (.tmp 24) (.seq (reg Tryz.f6 4) .ret) .skip)) (.seq (reg Tryz.f6 5) (.seq (.seq (reg Tryz.f6 6) (.block 0 (.loop b6_1))) (.seq (reg Tryz.f6 28) .ret))))))
noncomputable def c7:Code:=(.seq (reg Tryz.f7 0) (.seq (.seq (reg Tryz.f7 1) (.cond (.tmp 14) (.seq (reg Tryz.f7 2) .ret) .skip)) (.seq (.seq (reg Tryz.f7 3) (.cond (.tmp 23) (.seq (reg Tryz.f7 4) .ret) .skip)) (.seq (.seq (reg Tryz.f7 5) (.seq (reg Tryz.f7 6) (.cond (.tmp 30) (.seq (reg Tryz.f7 7) (.seq (reg Tryz.f7 8) (.cond (.tmp 43) (.seq (reg Tryz.f7 9) .ret) .skip))) .skip))) (.seq (reg Tryz.f7 10) (.seq (.seq (reg Tryz.f7 11) (.cond (.tmp 50) (.seq (reg Tryz.f7 12) .ret) .skip)) (.seq (reg Tryz.f7 13) (.seq (reg Tryz.f7 14) .ret))))))))
noncomputable def c8:Code:=(.seq (reg Tryz.f8 0) (.seq (.seq (reg Tryz.f8 1) (.cond (.tmp 18) (.seq (reg Tryz.f8 2) .ret) .skip)) (.seq (.seq (reg Tryz.f8 3) (.cond (.tmp 27) (.seq (reg Tryz.f8 4) .ret) .skip)) (.seq (reg Tryz.f8 5) (.seq (reg Tryz.f8 6) (.seq (reg Tryz.f8 7) (.seq (reg Tryz.f8 8) (.seq (reg Tryz.f8 9) .ret))))))))
noncomputable def c9:Code:=(.seq (reg Tryz.f9 0) (.seq (reg Tryz.f9 1) (.seq (reg Tryz.f9 2) (.seq (reg Tryz.f9 3) (.seq (reg Tryz.f9 4) .ret)))))
noncomputable def b10_1:Code:=(.seq (reg Tryz.f10 4) (.seq (.cond (.tmp 13) .skip (.exit 0)) (.seq (.block 1 (.seq (reg Tryz.f10 5) (.seq (reg Tryz.f10 6) (.cond (.tmp 18) (.seq (reg Tryz.f10 7) .ret) .skip)))) (reg Tryz.f10 8))))
noncomputable def c10:Code:=(.seq (reg Tryz.f10 0) (.seq (.seq (reg Tryz.f10 1) (.cond (.tmp 8) (.seq (reg Tryz.f10 2) .ret) .skip)) (.seq (.seq (reg Tryz.f10 3) (.block 0 (.loop b10_1))) (.seq (reg Tryz.f10 9) .ret))))
theorem body10:Tryz.f10.body=some c10:=by kernel_rfl
noncomputable def c11:Code:=(.seq (reg Tryz.f11 0) (.seq (.seq (reg Tryz.f11 1) (.seq (reg Tryz.f11 2) (.cond (.tmp 13) (.seq (reg Tryz.f11 3) .ret) .skip))) (.seq (reg Tryz.f11 4) (.seq (reg Tryz.f11 5) .ret))))
theorem body11:Tryz.f11.body=some c11:=by kernel_rfl
noncomputable def c12:Code:=(.seq (reg Tryz.f12 0) (.seq (.seq (reg Tryz.f12 1) (.cond (.tmp 6) (.seq (reg Tryz.f12 2) .ret) .skip)) (.seq (reg Tryz.f12 3) .ret)))
theorem body12:Tryz.f12.body=some c12:=by kernel_rfl
noncomputable def b13_1:Code:=(.seq (reg Tryz.f13 4) (.seq (.cond (.tmp 14) .skip (.exit 0)) (.seq (.block 1 (.seq (reg Tryz.f13 5) (.seq (reg Tryz.f13 6) (.cond (.tmp 25) (.seq (reg Tryz.f13 7) .ret) .skip)))) (reg Tryz.f13 8))))
noncomputable def c13:Code:=(.seq (reg Tryz.f13 0) (.seq (.seq (reg Tryz.f13 1) (.cond (.tmp 10) (.seq (reg Tryz.f13 2) .ret) .skip)) (.seq (.seq (reg Tryz.f13 3) (.block 0 (.loop b13_1))) (.seq (reg Tryz.f13 9) .ret))))
theorem body13:Tryz.f13.body=some c13:=by kernel_rfl
noncomputable def b14_2:Code:=(.seq (reg Tryz.f14 6) (.seq (.cond (.tmp 21) .skip (.exit 2)) (.seq (.block 3 (.seq (reg Tryz.f14 7) (.seq (reg Tryz.f14 8) (.cond (.tmp 27) (reg Tryz.f14 9) .skip)))) (reg Tryz.f14 10))))
noncomputable def b14_3:Code:=(.seq (reg Tryz.f14 13) (.seq (.cond (.tmp 41) .skip (.exit 4)) (.seq (.block 5 (.seq (reg Tryz.f14 14) (reg Tryz.f14 15))) (reg Tryz.f14 16))))
noncomputable def b14_1:Code:=(.seq (reg Tryz.f14 3) (.seq (.cond (.tmp 14) .skip (.exit 0)) (.seq (.block 1 (.seq (reg Tryz.f14 4) (.seq (.seq (reg Tryz.f14 5) (.block 2 (.loop b14_2))) (.seq (.seq (reg Tryz.f14 11) (.cond (.tmp 36) (.exit 1) .skip)) (.seq (reg Tryz.f14 12) (.block 4 (.loop b14_3))))))) (reg Tryz.f14 17))))
noncomputable def c14:Code:=(.seq (reg Tryz.f14 0) (.seq (reg Tryz.f14 1) (.seq (.seq (reg Tryz.f14 2) (.block 0 (.loop b14_1))) (.seq (reg Tryz.f14 18) .ret))))
theorem body14:Tryz.f14.body=some c14:=by kernel_rfl
noncomputable def b15_2:Code:=(.seq (reg Tryz.f15 6) (.seq (.cond (.tmp 21) .skip (.exit 2)) (.seq (.block 3 (.seq (reg Tryz.f15 7) (.seq (reg Tryz.f15 8) (.cond (.tmp 27) (reg Tryz.f15 9) .skip)))) (reg Tryz.f15 10))))
noncomputable def b15_3:Code:=(.seq (reg Tryz.f15 13) (.seq (.cond (.tmp 42) .skip (.exit 4)) (.seq (.block 5 (.seq (reg Tryz.f15 14) (reg Tryz.f15 15))) (reg Tryz.f15 16))))
noncomputable def b15_1:Code:=(.seq (reg Tryz.f15 3) (.seq (.cond (.tmp 14) .skip (.exit 0)) (.seq (.block 1 (.seq (reg Tryz.f15 4) (.seq (.seq (reg Tryz.f15 5) (.block 2 (.loop b15_2))) (.seq (.seq (reg Tryz.f15 11) (.cond (.tmp 37) (.exit 1) .skip)) (.seq (reg Tryz.f15 12) (.block 4 (.loop b15_3))))))) (reg Tryz.f15 17))))
noncomputable def c15:Code:=(.seq (reg Tryz.f15 0) (.seq (reg Tryz.f15 1) (.seq (.seq (reg Tryz.f15 2) (.block 0 (.loop b15_1))) (.seq (reg Tryz.f15 18) .ret))))
theorem body15:Tryz.f15.body=some c15:=by kernel_rfl
noncomputable def c16:Code:=(.seq (reg Tryz.f16 0) (.seq (reg Tryz.f16 1) .ret))
theorem body16:Tryz.f16.body=some c16:=by kernel_rfl
noncomputable def b17_1:Code:=(.seq (reg Tryz.f17 4) (.seq (.cond (.tmp 16) .skip (.exit 0)) (.seq (.block 1 (.seq (reg Tryz.f17 5) (.seq (reg Tryz.f17 6) (.cond (.tmp 22) (.seq (reg Tryz.f17 7) .ret) .skip)))) (reg Tryz.f17 8))))
noncomputable def c17:Code:=(.seq (reg Tryz.f17 0) (.seq (.seq (reg Tryz.f17 1) (.cond (.tmp 12) (.seq (reg Tryz.f17 2) .ret) .skip)) (.seq (.seq (reg Tryz.f17 3) (.block 0 (.loop b17_1))) (.seq (reg Tryz.f17 9) .ret))))
theorem body17:Tryz.f17.body=some c17:=by kernel_rfl
noncomputable def b18_1:Code:=(.seq (reg Tryz.f18 3) (.seq (.cond (.tmp 14) .skip (.exit 0)) (.seq (.block 1 (.seq (reg Tryz.f18 4) (.seq (reg Tryz.f18 5) (.cond (.tmp 19) (reg Tryz.f18 6) .skip)))) (reg Tryz.f18 7))))
noncomputable def c18:Code:=(.seq (reg Tryz.f18 0) (.seq (reg Tryz.f18 1) (.seq (.seq (reg Tryz.f18 2) (.block 0 (.loop b18_1))) (.seq (reg Tryz.f18 8) .ret))))
noncomputable def b19_1:Code:=(.seq (reg Tryz.f19 3) (.seq (.cond (.tmp 14) .skip (.exit 0)) (.seq (.block 1 (.seq (reg Tryz.f19 4) (.seq (reg Tryz.f19 5) (.cond (.tmp 19) (reg Tryz.f19 6) .skip)))) (reg Tryz.f19 7))))
noncomputable def c19:Code:=(.seq (reg Tryz.f19 0) (.seq (reg Tryz.f19 1) (.seq (.seq (reg Tryz.f19 2) (.block 0 (.loop b19_1))) (.seq (reg Tryz.f19 8) .ret))))
noncomputable def c20:Code:=(.seq (reg Tryz.f20 0) (.seq (reg Tryz.f20 1) .ret))
noncomputable def c21:Code:=(.seq (reg Tryz.f21 0) (.seq (reg Tryz.f21 1) .ret))
noncomputable def c22:Code:=(.seq (reg Tryz.f22 0) (.seq (reg Tryz.f22 1) .ret))
theorem body22:Tryz.f22.body=some c22:=by kernel_rfl
noncomputable def c23:Code:=(.seq (reg Tryz.f23 0) (.seq (reg Tryz.f23 1) .ret))
theorem body23:Tryz.f23.body=some c23:=by kernel_rfl
noncomputable def c24:Code:=(.seq (reg Tryz.f24 0) (.seq (reg Tryz.f24 1) .ret))
noncomputable def c25:Code:=(.seq (reg Tryz.f25 0) (.seq (reg Tryz.f25 1) .ret))
theorem body25:Tryz.f25.body=some c25:=by kernel_rfl
noncomputable def c26:Code:=(.seq (reg Tryz.f26 0) (.seq (.seq (reg Tryz.f26 1) (.cond (.tmp 17) (.seq (reg Tryz.f26 2) .ret) .skip)) (.seq (reg Tryz.f26 3) .ret)))
noncomputable def c27:Code:=(.seq (reg Tryz.f27 0) (.seq (reg Tryz.f27 1) (.seq (.seq (reg Tryz.f27 2) (.cond (.tmp 16) (.seq (reg Tryz.f27 3) .ret) .skip)) (.seq (reg Tryz.f27 4) (.seq (.seq (reg Tryz.f27 5) (.cond (.tmp 27) (.seq (reg Tryz.f27 6) .ret) .skip)) (.seq (.seq (reg Tryz.f27 7) (.seq (reg Tryz.f27 8) (.cond (.tmp 34) (.seq (reg Tryz.f27 9) .ret) .skip))) (.seq (reg Tryz.f27 10) .ret)))))))
noncomputable def c28:Code:=(.seq (reg Tryz.f28 0) (.seq (.seq (reg Tryz.f28 1) (.cond (.tmp 17) (.seq (reg Tryz.f28 2) .ret) .skip)) (.seq (reg Tryz.f28 3) .ret)))
noncomputable def c29:Code:=(.seq (reg Tryz.f29 0) (.seq (reg Tryz.f29 1) (.seq (.seq (reg Tryz.f29 2) (.cond (.tmp 15) (.seq (reg Tryz.f29 3) .ret) .skip)) (.seq (reg Tryz.f29 4) (.seq (.seq (reg Tryz.f29 5) (.cond (.tmp 26) (reg Tryz.f29 6) .skip)) (.seq (.seq (reg Tryz.f29 7) (.cond (.tmp 31) (.seq (reg Tryz.f29 8) .ret) .skip)) (.seq (reg Tryz.f29 9) .ret)))))))
noncomputable def c30:Code:=(.seq (reg Tryz.f30 0) (.seq (reg Tryz.f30 1) (.seq (.seq (reg Tryz.f30 2) (.cond (.tmp 11) (.seq (reg Tryz.f30 3) .ret) .skip)) (.seq (reg Tryz.f30 4) .ret))))
noncomputable def c32:Code:=(.seq (reg Tryz.f32 0) (.seq (reg Tryz.f32 1) .ret))
noncomputable def c33:Code:=(.seq (reg Tryz.f33 0) (.seq (reg Tryz.f33 1) .ret))
noncomputable def b34_1:Code:=(.seq (reg Tryz.f34 4) (.seq (.cond (.tmp 21) .skip (.exit 0)) (.seq (.block 1 (.seq (reg Tryz.f34 5) (.seq (reg Tryz.f34 6) (.cond (.tmp 27) (.seq (reg Tryz.f34 7) .ret) .skip)))) (reg Tryz.f34 8))))
noncomputable def b34_2:Code:=(.seq (reg Tryz.f34 10) (.seq (.cond (.tmp 33) .skip (.exit 2)) (.seq (.block 3 (.seq (reg Tryz.f34 11) (.seq (reg Tryz.f34 12) (.cond (.tmp 39) (.seq (reg Tryz.f34 13) .ret) .skip)))) (reg Tryz.f34 14))))
noncomputable def c34:Code:=(.seq (reg Tryz.f34 0) (.seq (.seq (reg Tryz.f34 1) (.cond (.tmp 16) (.seq (reg Tryz.f34 2) .ret) .skip)) (.seq (.seq (reg Tryz.f34 3) (.block 0 (.loop b34_1))) (.seq (.seq (reg Tryz.f34 9) (.block 2 (.loop b34_2))) (.seq (reg Tryz.f34 15) .ret)))))
theorem body34:Tryz.f34.body=some c34:=by kernel_rfl
noncomputable def b35_1:Code:=(.seq (reg Tryz.f35 5) (.seq (.cond (.tmp 25) .skip (.exit 0)) (.seq (.block 1 (.seq (reg Tryz.f35 6) (.seq (reg Tryz.f35 7) (.seq (.seq (reg Tryz.f35 8) (.cond (.tmp 34) (.seq (reg Tryz.f35 9) .ret) .skip)) (reg Tryz.f35 10))))) (reg Tryz.f35 11))))
noncomputable def c35:Code:=(.seq (reg Tryz.f35 0) (.seq (.seq (reg Tryz.f35 1) (.cond (.tmp 12) (.seq (reg Tryz.f35 2) .ret) .skip)) (.seq (reg Tryz.f35 3) (.seq (.seq (reg Tryz.f35 4) (.block 0 (.loop b35_1))) (.seq (.seq (reg Tryz.f35 12) (.cond (.tmp 41) (.seq (reg Tryz.f35 13) .ret) .skip)) (.seq (reg Tryz.f35 14) .ret))))))
theorem body35:Tryz.f35.body=some c35:=by kernel_rfl
noncomputable def c36:Code:=(.seq (reg Tryz.f36 0) (.seq (reg Tryz.f36 1) .ret))
theorem body36:Tryz.f36.body=some c36:=by kernel_rfl
noncomputable def c37:Code:=(.seq (reg Tryz.f37 0) (.seq (reg Tryz.f37 1) .ret))
theorem body37:Tryz.f37.body=some c37:=by kernel_rfl
noncomputable def b38_1:Code:=(.seq (reg Tryz.f38 8) (.seq (.cond (.tmp 37) .skip (.exit 0)) (.seq (.block 1 (.seq (reg Tryz.f38 9) (.seq (reg Tryz.f38 10) (.cond (.tmp 44) (.seq (reg Tryz.f38 11) (reg Tryz.f38 12)) .skip)))) (reg Tryz.f38 13))))
noncomputable def c38:Code:=(.seq (reg Tryz.f38 0) (.seq (.seq (reg Tryz.f38 1) (.cond (.tmp 16) (.seq (reg Tryz.f38 2) .ret) .skip)) (.seq (.seq (reg Tryz.f38 3) (.cond (.tmp 31) (.seq (reg Tryz.f38 4) .ret) .skip)) (.seq (reg Tryz.f38 5) (.seq (reg Tryz.f38 6) (.seq (.seq (reg Tryz.f38 7) (.block 0 (.loop b38_1))) (.seq (reg Tryz.f38 14) .ret)))))))
theorem body38:Tryz.f38.body=some c38:=by kernel_rfl
noncomputable def b39_1:Code:=(.seq (reg Tryz.f39 4) (.seq (.cond (.tmp 13) .skip (.exit 0)) (.seq (.block 1 (.seq (reg Tryz.f39 5) (.seq (reg Tryz.f39 6) (.cond (.tmp 18) (.seq (reg Tryz.f39 7) .ret) .skip)))) (reg Tryz.f39 8))))
noncomputable def c39:Code:=(.seq (reg Tryz.f39 0) (.seq (.seq (reg Tryz.f39 1) (.cond (.tmp 8) (.seq (reg Tryz.f39 2) .ret) .skip)) (.seq (.seq (reg Tryz.f39 3) (.block 0 (.loop b39_1))) (.seq (reg Tryz.f39 9) .ret))))
theorem body39:Tryz.f39.body=some c39:=by kernel_rfl
noncomputable def b40_1:Code:=(.seq (reg Tryz.f40 8) (.seq (.cond (.tmp 38) .skip (.exit 0)) (.seq (.block 1 (.seq (reg Tryz.f40 9) (reg Tryz.f40 10))) (reg Tryz.f40 11))))
noncomputable def c40:Code:=(.seq (reg Tryz.f40 0) (.seq (.seq (reg Tryz.f40 1) (.cond (.tmp 16) (.seq (reg Tryz.f40 2) .ret) .skip)) (.seq (.seq (reg Tryz.f40 3) (.cond (.tmp 31) (.seq (reg Tryz.f40 4) .ret) .skip)) (.seq (reg Tryz.f40 5) (.seq (reg Tryz.f40 6) (.seq (.seq (reg Tryz.f40 7) (.block 0 (.loop b40_1))) (.seq (reg Tryz.f40 12) .ret)))))))
theorem body40:Tryz.f40.body=some c40:=by kernel_rfl
noncomputable def c41:Code:=(.seq (reg Tryz.f41 0) (.seq (reg Tryz.f41 1) .ret))
theorem body41:Tryz.f41.body=some c41:=by kernel_rfl
noncomputable def c42:Code:=(.seq (reg Tryz.f42 0) (.seq (.seq (reg Tryz.f42 1) (.cond (.tmp 4) (.seq (reg Tryz.f42 2) .ret) .skip)) (.seq (reg Tryz.f42 3) .ret)))
theorem body42:Tryz.f42.body=some c42:=by kernel_rfl
noncomputable def c43:Code:=(.seq (reg Tryz.f43 0) (.seq (reg Tryz.f43 1) .ret))
theorem body43:Tryz.f43.body=some c43:=by kernel_rfl
noncomputable def c44:Code:=(.seq (reg Tryz.f44 0) (.seq (reg Tryz.f44 1) .ret))
theorem body44:Tryz.f44.body=some c44:=by kernel_rfl
noncomputable def b45_1:Code:=(.seq (reg Tryz.f45 3) (.seq (.cond (.tmp 9) .skip (.exit 0)) (.seq (.block 1 (.seq (reg Tryz.f45 4) (reg Tryz.f45 5))) (reg Tryz.f45 6))))
noncomputable def c45:Code:=(.seq (reg Tryz.f45 0) (.seq (reg Tryz.f45 1) (.seq (.seq (reg Tryz.f45 2) (.block 0 (.loop b45_1))) (.seq (reg Tryz.f45 7) .ret))))
theorem body45:Tryz.f45.body=some c45:=by kernel_rfl
noncomputable def c46:Code:=(.seq (reg Tryz.f46 0) (.seq (reg Tryz.f46 1) .ret))
theorem body46:Tryz.f46.body=some c46:=by kernel_rfl
noncomputable def b47_2:Code:=(.seq (.seq (reg Tryz.f47 11) (.cond (.tmp 56) .skip (.exit 2))) (.block 3 (reg Tryz.f47 12)))
noncomputable def b47_1:Code:=(.seq (reg Tryz.f47 9) (.seq (.cond (.tmp 42) .skip (.exit 0)) (.seq (.block 1 (.seq (reg Tryz.f47 10) (.seq (.block 2 (.loop b47_2)) (.seq (reg Tryz.f47 13) (.cond (.tmp 70) (.seq (reg Tryz.f47 14) .ret) .skip))))) (reg Tryz.f47 15))))
noncomputable def c47:Code:=(.seq (reg Tryz.f47 0) (.seq (reg Tryz.f47 1) (.seq (.seq (reg Tryz.f47 2) (.cond (.tmp 25) (.seq (reg Tryz.f47 3) .ret) .skip)) (.seq (reg Tryz.f47 4) (.seq (.seq (reg Tryz.f47 5) (.cond (.tmp 37) (.seq (reg Tryz.f47 6) .ret) .skip)) (.seq (reg Tryz.f47 7) (.seq (.seq (reg Tryz.f47 8) (.block 0 (.loop b47_1))) (.seq (reg Tryz.f47 16) .ret))))))))
noncomputable def b49_1:Code:=(.seq (reg Tryz.f49 4) (.seq (.cond (.tmp 32) .skip (.exit 0)) (.seq (.block 1 (.seq (reg Tryz.f49 5) (.seq (reg Tryz.f49 6) (.seq (reg Tryz.f49 7) (.seq (reg Tryz.f49 8) (.seq (.seq (reg Tryz.f49 9) (.cond (.tmp 76) (.exit 1) .skip)) (.seq (reg Tryz.f49 10) (.seq (reg Tryz.f49 11) (reg Tryz.f49 12))))))))) (reg Tryz.f49 13))))
noncomputable def c49:Code:=(.seq (reg Tryz.f49 0) (.seq (reg Tryz.f49 1) (.seq (reg Tryz.f49 2) (.seq (.seq (reg Tryz.f49 3) (.block 0 (.loop b49_1))) (.seq (reg Tryz.f49 14) .ret)))))
noncomputable def c51:Code:=(.seq (reg Tryz.f51 0) (.seq (reg Tryz.f51 1) (.seq (reg Tryz.f51 2) .ret)))
theorem body51:Tryz.f51.body=some c51:=by kernel_rfl
noncomputable def b52_1:Code:=(.seq (reg Tryz.f52 4) (.seq (.cond (.tmp 25) .skip (.exit 0)) (.seq (.block 1 (.seq (reg Tryz.f52 5) (reg Tryz.f52 6))) (reg Tryz.f52 7))))
noncomputable def c52:Code:=(.seq (reg Tryz.f52 0) (.seq (reg Tryz.f52 1) (.seq (reg Tryz.f52 2) (.seq (.seq (reg Tryz.f52 3) (.block 0 (.loop b52_1))) (.seq (reg Tryz.f52 8) .ret)))))
theorem body52:Tryz.f52.body=some c52:=by kernel_rfl
noncomputable def c53:Code:=(.seq (reg Tryz.f53 0) (.seq (reg Tryz.f53 1) .ret))
theorem body53:Tryz.f53.body=some c53:=by kernel_rfl
noncomputable def c54:Code:=(.seq (reg Tryz.f54 0) (.seq (reg Tryz.f54 1) .ret))
theorem body54:Tryz.f54.body=some c54:=by kernel_rfl
noncomputable def c55:Code:=(.seq (reg Tryz.f55 0) (.seq (reg Tryz.f55 1) .ret))
theorem body55:Tryz.f55.body=some c55:=by kernel_rfl
noncomputable def c56:Code:=(.seq (reg Tryz.f56 0) (.seq (.block 0 (.seq (reg Tryz.f56 1) (.cond (.tmp 5) (.seq (reg Tryz.f56 2) .ret) (.seq (reg Tryz.f56 3) (.cond (.tmp 13) (.seq (reg Tryz.f56 4) .ret) (.seq (reg Tryz.f56 5) (.cond (.tmp 22) (.seq (reg Tryz.f56 6) .ret) .skip))))))) (.seq (reg Tryz.f56 7) .ret)))
theorem body56:Tryz.f56.body=some c56:=by kernel_rfl
noncomputable def c59:Code:=(.seq (reg Tryz.f59 0) (.seq (.block 0 (.seq (reg Tryz.f59 1) (.cond (.tmp 5) (.seq (reg Tryz.f59 2) .ret) (.seq (reg Tryz.f59 3) (.cond (.tmp 14) (.seq (reg Tryz.f59 4) .ret) .skip))))) (.seq (reg Tryz.f59 5) .ret)))
noncomputable def c60:Code:=(.seq (reg Tryz.f60 0) (.seq (reg Tryz.f60 1) .ret))
theorem body60:Tryz.f60.body=some c60:=by kernel_rfl
noncomputable def c61:Code:=(.seq (reg Tryz.f61 0) (.seq (.block 0 (.seq (reg Tryz.f61 1) (.cond (.tmp 5) (.seq (reg Tryz.f61 2) .ret) (.seq (reg Tryz.f61 3) (.cond (.tmp 12) (.seq (reg Tryz.f61 4) .ret) (.seq (reg Tryz.f61 5) (.cond (.tmp 21) (.seq (reg Tryz.f61 6) .ret) .skip))))))) (.seq (reg Tryz.f61 7) .ret)))
theorem body61:Tryz.f61.body=some c61:=by kernel_rfl
noncomputable def c62:Code:=(.seq (reg Tryz.f62 0) (.seq (reg Tryz.f62 1) (.seq (.seq (reg Tryz.f62 2) (.cond (.tmp 22) (.seq (reg Tryz.f62 3) .ret) .skip)) (.seq (reg Tryz.f62 4) (.seq (.seq (reg Tryz.f62 5) (.cond (.tmp 26) (.seq (reg Tryz.f62 6) (.seq (reg Tryz.f62 7) (.seq (.seq (reg Tryz.f62 8) (.cond (.tmp 39) (.seq (reg Tryz.f62 9) .ret) .skip)) (.seq (reg Tryz.f62 10) (.cond (.tmp 62) (.seq (reg Tryz.f62 11) .ret) .skip))))) .skip)) (.seq (.seq (reg Tryz.f62 12) (.cond (.tmp 65) (.seq (reg Tryz.f62 13) .ret) .skip)) (.seq (reg Tryz.f62 14) .ret)))))))
noncomputable def c64:Code:=(.seq (reg Tryz.f64 0) (.seq (.block 0 (.seq (reg Tryz.f64 1) (.cond (.tmp 5) (.seq (reg Tryz.f64 2) .ret) (.seq (reg Tryz.f64 3) (.cond (.tmp 14) (.seq (reg Tryz.f64 4) .ret) .skip))))) (.seq (reg Tryz.f64 5) .ret)))
noncomputable def c65:Code:=(.seq (reg Tryz.f65 0) (.seq (reg Tryz.f65 1) (.seq (reg Tryz.f65 2) .ret)))
theorem body65:Tryz.f65.body=some c65:=by kernel_rfl
noncomputable def c67:Code:=(.seq (reg Tryz.f67 0) (.seq (reg Tryz.f67 1) (.seq (reg Tryz.f67 2) (.seq (reg Tryz.f67 3) (.seq (reg Tryz.f67 4) (.seq (reg Tryz.f67 5) (.seq (reg Tryz.f67 6) .ret)))))))
theorem body67:Tryz.f67.body=some c67:=by kernel_rfl
noncomputable def c68:Code:=(.seq (reg Tryz.f68 0) (.seq (.seq (reg Tryz.f68 1) (.cond (.tmp 8) (.seq (reg Tryz.f68 2) .ret) .skip)) (.seq (reg Tryz.f68 3) .ret)))
theorem body68:Tryz.f68.body=some c68:=by kernel_rfl
noncomputable def b69_1:Code:=(.seq (reg Tryz.f69 3) (.seq (.cond (.tmp 9) .skip (.exit 0)) (.seq (.block 1 (.seq (reg Tryz.f69 4) (reg Tryz.f69 5))) (reg Tryz.f69 6))))
noncomputable def c69:Code:=(.seq (reg Tryz.f69 0) (.seq (reg Tryz.f69 1) (.seq (.seq (reg Tryz.f69 2) (.block 0 (.loop b69_1))) (.seq (reg Tryz.f69 7) .ret))))
theorem body69:Tryz.f69.body=some c69:=by kernel_rfl
noncomputable def b70_1:Code:=(.seq (reg Tryz.f70 10) (.seq (.cond (.tmp 30) .skip (.exit 0)) (.seq (.block 1 (.seq (reg Tryz.f70 11) (.seq (reg Tryz.f70 12) (.seq (.seq (reg Tryz.f70 13) (.cond (.tmp 43) (.seq (reg Tryz.f70 14) .ret) .skip)) (reg Tryz.f70 15))))) (reg Tryz.f70 16))))
noncomputable def c70:Code:=(.seq (reg Tryz.f70 0) (.seq (.seq (reg Tryz.f70 1) (.cond (.tmp 14) (.seq (reg Tryz.f70 2) .ret) .skip)) (.seq (.seq (reg Tryz.f70 3) (.cond (.tmp 21) (.seq (reg Tryz.f70 4) .ret) .skip)) (.seq (.seq (reg Tryz.f70 5) (.cond (.tmp 25) (.seq (reg Tryz.f70 6) .ret) .skip)) (.seq (reg Tryz.f70 7) (.seq (reg Tryz.f70 8) (.seq (.seq (reg Tryz.f70 9) (.block 0 (.loop b70_1))) (.seq (reg Tryz.f70 17) .ret))))))))
theorem body70:Tryz.f70.body=some c70:=by kernel_rfl
noncomputable def b71_1:Code:=(.seq (reg Tryz.f71 3) (.seq (.cond (.tmp 15) .skip (.exit 0)) (.seq (.block 1 (.seq (reg Tryz.f71 4) (reg Tryz.f71 5))) (reg Tryz.f71 6))))
noncomputable def c71:Code:=(.seq (reg Tryz.f71 0) (.seq (reg Tryz.f71 1) (.seq (.seq (reg Tryz.f71 2) (.block 0 (.loop b71_1))) (.seq (reg Tryz.f71 7) (.seq (reg Tryz.f71 8) .ret)))))
theorem body71:Tryz.f71.body=some c71:=by kernel_rfl
noncomputable def b72_1:Code:=(.seq (reg Tryz.f72 4) (.seq (.cond (.tmp 23) .skip (.exit 0)) (.seq (.block 1 (.seq (reg Tryz.f72 5) (.seq (reg Tryz.f72 6) (.cond (.tmp 34) (.seq (reg Tryz.f72 7) .ret) .skip)))) (reg Tryz.f72 8))))
noncomputable def b72_3:Code:=(.seq (reg Tryz.f72 15) (.seq (.cond (.tmp 51) .skip (.exit 4)) (.seq (.block 5 (.seq (reg Tryz.f72 16) (.seq (reg Tryz.f72 17) (.cond (.tmp 56) (.seq (reg Tryz.f72 18) .ret) .skip)))) (reg Tryz.f72 19))))
noncomputable def b72_2:Code:=(.seq (reg Tryz.f72 10) (.seq (.cond (.tmp 40) .skip (.exit 2)) (.seq (.block 3 (.seq (reg Tryz.f72 11) (.seq (.seq (reg Tryz.f72 12) (.cond (.tmp 46) (.seq (reg Tryz.f72 13) .ret) .skip)) (.seq (reg Tryz.f72 14) (.block 4 (.loop b72_3)))))) (reg Tryz.f72 20))))
noncomputable def c72:Code:=(.seq (reg Tryz.f72 0) (.seq (.seq (reg Tryz.f72 1) (.cond (.tmp 18) (.seq (reg Tryz.f72 2) .ret) .skip)) (.seq (.seq (reg Tryz.f72 3) (.block 0 (.loop b72_1))) (.seq (.seq (reg Tryz.f72 9) (.block 2 (.loop b72_2))) (.seq (reg Tryz.f72 21) .ret)))))
theorem body72:Tryz.f72.body=some c72:=by kernel_rfl
noncomputable def b73_1:Code:=(.seq (reg Tryz.f73 3) (.seq (.cond (.tmp 20) .skip (.exit 0)) (.seq (.block 1 (.seq (reg Tryz.f73 4) (.seq (reg Tryz.f73 5) (reg Tryz.f73 6)))) (reg Tryz.f73 7))))
noncomputable def c73:Code:=(.seq (reg Tryz.f73 0) (.seq (reg Tryz.f73 1) (.seq (.seq (reg Tryz.f73 2) (.block 0 (.loop b73_1))) (.seq (reg Tryz.f73 8) .ret))))
theorem body73:Tryz.f73.body=some c73:=by kernel_rfl
noncomputable def b74_2:Code:=(.seq (reg Tryz.f74 7) (.seq (.cond (.tmp 21) .skip (.exit 2)) (.seq (.block 3 (.seq (reg Tryz.f74 8) (reg Tryz.f74 9))) (reg Tryz.f74 10))))
noncomputable def b74_1:Code:=(.seq (reg Tryz.f74 3) (.seq (.cond (.tmp 12) .skip (.exit 0)) (.seq (.block 1 (.seq (reg Tryz.f74 4) (.seq (reg Tryz.f74 5) (.seq (.seq (reg Tryz.f74 6) (.block 2 (.loop b74_2))) (.seq (reg Tryz.f74 11) (.cond (.tmp 32) (reg Tryz.f74 12) .skip)))))) (reg Tryz.f74 13))))
noncomputable def c74:Code:=(.seq (reg Tryz.f74 0) (.seq (reg Tryz.f74 1) (.seq (.seq (reg Tryz.f74 2) (.block 0 (.loop b74_1))) (.seq (reg Tryz.f74 14) .ret))))
theorem body74:Tryz.f74.body=some c74:=by kernel_rfl
noncomputable def c75:Code:=(.seq (reg Tryz.f75 0) (.seq (reg Tryz.f75 1) .ret))
theorem body75:Tryz.f75.body=some c75:=by kernel_rfl
noncomputable def b76_1:Code:=(.seq (.seq (reg Tryz.f76 6) (.cond (.tmp 27) .skip (.exit 0))) (.seq (.block 1 (.seq (reg Tryz.f76 8) (.cond (.tmp 39) (.seq (reg Tryz.f76 9) .ret) .skip))) (reg Tryz.f76 7)))
noncomputable def b76_2:Code:=(.seq (reg Tryz.f76 13) (.seq (.cond (.tmp 44) .skip (.exit 2)) (.seq (.block 3 (.seq (reg Tryz.f76 14) (.seq (reg Tryz.f76 15) (.seq (.seq (reg Tryz.f76 16) (.cond (.tmp 57) (.seq (reg Tryz.f76 17) .ret) .skip)) (reg Tryz.f76 18))))) (reg Tryz.f76 19))))
noncomputable def c76:Code:=(.seq (reg Tryz.f76 0) (.seq (.seq (reg Tryz.f76 1) (.cond (.tmp 15) (.seq (reg Tryz.f76 2) .ret) .skip)) (.seq (.seq (reg Tryz.f76 3) (.cond (.tmp 22) (.seq (reg Tryz.f76 4) .ret) .skip)) (.seq (.seq (reg Tryz.f76 5) (.block 0 (.loop b76_1))) (.seq (reg Tryz.f76 10) (.seq (reg Tryz.f76 11) (.seq (.seq (reg Tryz.f76 12) (.block 2 (.loop b76_2))) (.seq (reg Tryz.f76 20) .ret))))))))
theorem body76:Tryz.f76.body=some c76:=by kernel_rfl
noncomputable def b77_1:Code:=(.seq (.seq (reg Tryz.f77 5) (.cond (.tmp 29) .skip (.exit 0))) (.block 1 (.seq (reg Tryz.f77 6) (.cond (.tmp 36) (reg Tryz.f77 7) (reg Tryz.f77 8)))))
noncomputable def c77:Code:=(.seq (reg Tryz.f77 0) (.seq (.seq (reg Tryz.f77 1) (.cond (.tmp 8) (.seq (reg Tryz.f77 2) .ret) .skip)) (.seq (reg Tryz.f77 3) (.seq (reg Tryz.f77 4) (.seq (.block 0 (.loop b77_1)) (.seq (reg Tryz.f77 9) .ret))))))
theorem body77:Tryz.f77.body=some c77:=by kernel_rfl
noncomputable def b78_1:Code:=(.seq (reg Tryz.f78 3) (.seq (.cond (.tmp 8) .skip (.exit 0)) (.seq (.block 1 (.seq (reg Tryz.f78 4) (reg Tryz.f78 5))) (reg Tryz.f78 6))))
noncomputable def c78:Code:=(.seq (reg Tryz.f78 0) (.seq (reg Tryz.f78 1) (.seq (.seq (reg Tryz.f78 2) (.block 0 (.loop b78_1))) (.seq (reg Tryz.f78 7) .ret))))
theorem body78:Tryz.f78.body=some c78:=by kernel_rfl
noncomputable def c79:Code:=(.seq (reg Tryz.f79 0) (.seq (reg Tryz.f79 1) .ret))
theorem body79:Tryz.f79.body=some c79:=by kernel_rfl
noncomputable def c80:Code:=(.seq (reg Tryz.f80 0) (.seq (reg Tryz.f80 1) .ret))
theorem body80:Tryz.f80.body=some c80:=by kernel_rfl
noncomputable def c81:Code:=(.seq (reg Tryz.f81 0) (.seq (reg Tryz.f81 1) .ret))
theorem body81:Tryz.f81.body=some c81:=by kernel_rfl
noncomputable def c82:Code:=(.seq (reg Tryz.f82 0) (.seq (reg Tryz.f82 1) (.seq (reg Tryz.f82 2) .ret)))
theorem body82:Tryz.f82.body=some c82:=by kernel_rfl
noncomputable def c83:Code:=(.seq (reg Tryz.f83 0) (.seq (reg Tryz.f83 1) .ret))
theorem body83:Tryz.f83.body=some c83:=by kernel_rfl
noncomputable def b95_1:Code:=(.seq (.seq (reg Tryz.f95 4) (.cond (.tmp 22) .skip (.exit 0))) (.seq (.block 1 (.seq (reg Tryz.f95 6) (.seq (reg Tryz.f95 7) (reg Tryz.f95 8)))) (reg Tryz.f95 5)))
noncomputable def b95_2:Code:=(.seq (reg Tryz.f95 11) (.seq (.cond (.tmp 35) .skip (.exit 2)) (.seq (.block 3 (.seq (reg Tryz.f95 12) (reg Tryz.f95 13))) (reg Tryz.f95 14))))
noncomputable def c95:Code:=(.seq (reg Tryz.f95 0) (.seq (reg Tryz.f95 1) (.seq (reg Tryz.f95 2) (.seq (.seq (reg Tryz.f95 3) (.block 0 (.loop b95_1))) (.seq (reg Tryz.f95 9) (.seq (.seq (reg Tryz.f95 10) (.block 2 (.loop b95_2))) (.seq (reg Tryz.f95 15) .ret)))))))
theorem body95:Tryz.f95.body=some c95:=by kernel_rfl
noncomputable def b96_1:Code:=(.seq (reg Tryz.f96 3) (.seq (.cond (.tmp 12) .skip (.exit 0)) (.seq (.block 1 (.seq (reg Tryz.f96 4) (reg Tryz.f96 5))) (reg Tryz.f96 6))))
noncomputable def c96:Code:=(.seq (reg Tryz.f96 0) (.seq (reg Tryz.f96 1) (.seq (.seq (reg Tryz.f96 2) (.block 0 (.loop b96_1))) (.seq (reg Tryz.f96 7) .ret))))
theorem body96:Tryz.f96.body=some c96:=by kernel_rfl
noncomputable def c97:Code:=(.seq (reg Tryz.f97 0) (.seq (reg Tryz.f97 1) (.seq (reg Tryz.f97 2) (.seq (reg Tryz.f97 3) .ret))))
theorem body97:Tryz.f97.body=some c97:=by kernel_rfl
noncomputable def c98:Code:=(.seq (reg Tryz.f98 0) (.seq (reg Tryz.f98 1) .ret))
theorem body98:Tryz.f98.body=some c98:=by kernel_rfl
noncomputable def c99:Code:=(.seq (reg Tryz.f99 0) (.seq (reg Tryz.f99 1) .ret))
theorem body99:Tryz.f99.body=some c99:=by kernel_rfl
noncomputable def c101:Code:=(.seq (reg Tryz.f101 0) (.seq (reg Tryz.f101 1) .ret))
noncomputable def b105_1:Code:=(.seq (reg Tryz.f105 4) (.seq (.cond (.tmp 20) .skip (.exit 0)) (.seq (.block 1 (.seq (reg Tryz.f105 5) (reg Tryz.f105 6))) (reg Tryz.f105 7))))
noncomputable def b105_2:Code:=(.seq (reg Tryz.f105 10) (.seq (.cond (.tmp 32) .skip (.exit 2)) (.seq (.block 3 (.seq (reg Tryz.f105 11) (reg Tryz.f105 12))) (reg Tryz.f105 13))))
noncomputable def c105:Code:=(.seq (reg Tryz.f105 0) (.seq (reg Tryz.f105 1) (.seq (reg Tryz.f105 2) (.seq (.seq (reg Tryz.f105 3) (.block 0 (.loop b105_1))) (.seq (reg Tryz.f105 8) (.seq (.seq (reg Tryz.f105 9) (.block 2 (.loop b105_2))) (.seq (reg Tryz.f105 14) .ret)))))))
theorem body105:Tryz.f105.body=some c105:=by kernel_rfl
noncomputable def b107_1:Code:=(.seq (reg Tryz.f107 4) (.seq (.cond (.tmp 23) .skip (.exit 0)) (.seq (.block 1 (.seq (reg Tryz.f107 5) (.seq (reg Tryz.f107 6) (.cond (.tmp 34) (.seq (reg Tryz.f107 7) .ret) .skip)))) (reg Tryz.f107 8))))
noncomputable def b107_3:Code:=(.seq (reg Tryz.f107 15) (.seq (.cond (.tmp 51) .skip (.exit 4)) (.seq (.block 5 (.seq (reg Tryz.f107 16) (.seq (reg Tryz.f107 17) (.cond (.tmp 56) (.seq (reg Tryz.f107 18) .ret) .skip)))) (reg Tryz.f107 19))))
noncomputable def b107_2:Code:=(.seq (reg Tryz.f107 10) (.seq (.cond (.tmp 40) .skip (.exit 2)) (.seq (.block 3 (.seq (reg Tryz.f107 11) (.seq (.seq (reg Tryz.f107 12) (.cond (.tmp 46) (.seq (reg Tryz.f107 13) .ret) .skip)) (.seq (reg Tryz.f107 14) (.block 4 (.loop b107_3)))))) (reg Tryz.f107 20))))
noncomputable def c107:Code:=(.seq (reg Tryz.f107 0) (.seq (.seq (reg Tryz.f107 1) (.cond (.tmp 18) (.seq (reg Tryz.f107 2) .ret) .skip)) (.seq (.seq (reg Tryz.f107 3) (.block 0 (.loop b107_1))) (.seq (.seq (reg Tryz.f107 9) (.block 2 (.loop b107_2))) (.seq (reg Tryz.f107 21) .ret)))))
theorem body107:Tryz.f107.body=some c107:=by kernel_rfl
noncomputable def b108_1:Code:=(.seq (reg Tryz.f108 4) (.seq (.cond (.tmp 28) .skip (.exit 0)) (.seq (.block 1 (.seq (reg Tryz.f108 5) (.seq (reg Tryz.f108 6) (reg Tryz.f108 7)))) (reg Tryz.f108 8))))
noncomputable def b108_2:Code:=(.seq (reg Tryz.f108 11) (.seq (.cond (.tmp 53) .skip (.exit 2)) (.seq (.block 3 (.seq (reg Tryz.f108 12) (.seq (reg Tryz.f108 13) (reg Tryz.f108 14)))) (reg Tryz.f108 15))))
noncomputable def b108_4:Code:=(.seq (reg Tryz.f108 24) (.seq (.cond (.tmp 94) .skip (.exit 6)) (.seq (.block 7 (.seq (reg Tryz.f108 25) (reg Tryz.f108 26))) (reg Tryz.f108 27))))
noncomputable def b108_3:Code:=(.seq (reg Tryz.f108 20) (.seq (.cond (.tmp 80) .skip (.exit 4)) (.seq (.block 5 (.seq (reg Tryz.f108 21) (.seq (reg Tryz.f108 22) (.seq (reg Tryz.f108 23) (.block 6 (.loop b108_4)))))) (reg Tryz.f108 28))))
noncomputable def c108:Code:=(.seq (reg Tryz.f108 0) (.seq (reg Tryz.f108 1) (.seq (reg Tryz.f108 2) (.seq (.seq (reg Tryz.f108 3) (.block 0 (.loop b108_1))) (.seq (reg Tryz.f108 9) (.seq (.seq (reg Tryz.f108 10) (.block 2 (.loop b108_2))) (.seq (reg Tryz.f108 16) (.seq (.seq (reg Tryz.f108 17) (.cond (.tmp 74) (.seq (reg Tryz.f108 18) .ret) .skip)) (.seq (.seq (reg Tryz.f108 19) (.block 4 (.loop b108_3))) (.seq (reg Tryz.f108 29) .ret))))))))))
theorem body108:Tryz.f108.body=some c108:=by kernel_rfl
noncomputable def b109_1:Code:=(.seq (.seq (reg Tryz.f109 2) (.cond (.tmp 8) .skip (.exit 0))) (.seq (.block 1 (.seq (reg Tryz.f109 4) (.cond (.tmp 20) (.seq (reg Tryz.f109 5) .ret) .skip))) (reg Tryz.f109 3)))
noncomputable def c109:Code:=(.seq (reg Tryz.f109 0) (.seq (.seq (reg Tryz.f109 1) (.block 0 (.loop b109_1))) (.seq (reg Tryz.f109 6) .ret)))
theorem body109:Tryz.f109.body=some c109:=by kernel_rfl
noncomputable def b110_1:Code:=(.seq (reg Tryz.f110 10) (.seq (.cond (.tmp 42) .skip (.exit 0)) (.seq (.block 1 (reg Tryz.f110 11)) (reg Tryz.f110 12))))
noncomputable def c110:Code:=(.seq (reg Tryz.f110 0) (.seq (.seq (reg Tryz.f110 1) (.cond (.tmp 12) (.seq (reg Tryz.f110 2) .ret) .skip)) (.seq (.seq (reg Tryz.f110 3) (.cond (.tmp 19) (.seq (reg Tryz.f110 4) .ret) .skip)) (.seq (reg Tryz.f110 5) (.seq (.seq (reg Tryz.f110 6) (.cond (.tmp 36) (.seq (reg Tryz.f110 7) .ret) .skip)) (.seq (reg Tryz.f110 8) (.seq (.seq (reg Tryz.f110 9) (.block 0 (.loop b110_1))) (.seq (reg Tryz.f110 13) (.seq (reg Tryz.f110 14) (.seq (reg Tryz.f110 15) .ret))))))))))
theorem body110:Tryz.f110.body=some c110:=by kernel_rfl
noncomputable def c111:Code:=(.seq (reg Tryz.f111 0) (.seq (reg Tryz.f111 1) (.seq (reg Tryz.f111 2) .ret)))
theorem body111:Tryz.f111.body=some c111:=by kernel_rfl
noncomputable def b112_1:Code:=(.seq (reg Tryz.f112 4) (.seq (.cond (.tmp 26) .skip (.exit 0)) (.seq (.block 1 (.seq (reg Tryz.f112 5) (reg Tryz.f112 6))) (reg Tryz.f112 7))))
noncomputable def c112:Code:=(.seq (reg Tryz.f112 0) (.seq (reg Tryz.f112 1) (.seq (reg Tryz.f112 2) (.seq (.seq (reg Tryz.f112 3) (.block 0 (.loop b112_1))) (.seq (reg Tryz.f112 8) (.seq (reg Tryz.f112 9) (.seq (reg Tryz.f112 10) (.seq (reg Tryz.f112 11) .ret))))))))
theorem body112:Tryz.f112.body=some c112:=by kernel_rfl
noncomputable def c113:Code:=(.seq (reg Tryz.f113 0) (reg Tryz.f113 1))
theorem body113:Tryz.f113.body=some c113:=by kernel_rfl
noncomputable def b114_1:Code:=(.seq (reg Tryz.f114 4) (.seq (.cond (.tmp 27) .skip (.exit 0)) (.seq (.block 1 (.seq (reg Tryz.f114 5) (reg Tryz.f114 6))) (reg Tryz.f114 7))))
noncomputable def b114_2:Code:=(.seq (reg Tryz.f114 10) (.seq (.cond (.tmp 49) .skip (.exit 2)) (.seq (.block 3 (.seq (reg Tryz.f114 11) (reg Tryz.f114 12))) (reg Tryz.f114 13))))
noncomputable def b114_4:Code:=(.seq (reg Tryz.f114 21) (.seq (.cond (.tmp 80) .skip (.exit 6)) (.seq (.block 7 (.seq (reg Tryz.f114 22) (reg Tryz.f114 23))) (reg Tryz.f114 24))))
noncomputable def b114_3:Code:=(.seq (reg Tryz.f114 16) (.seq (.cond (.tmp 65) .skip (.exit 4)) (.seq (.block 5 (.seq (reg Tryz.f114 17) (.seq (.seq (reg Tryz.f114 18) (.cond (.tmp 69) (.exit 4) .skip)) (.seq (reg Tryz.f114 19) (.seq (reg Tryz.f114 20) (.block 6 (.loop b114_4))))))) (reg Tryz.f114 25))))
noncomputable def c114:Code:=(.seq (reg Tryz.f114 0) (.seq (reg Tryz.f114 1) (.seq (reg Tryz.f114 2) (.seq (.seq (reg Tryz.f114 3) (.block 0 (.loop b114_1))) (.seq (reg Tryz.f114 8) (.seq (.seq (reg Tryz.f114 9) (.block 2 (.loop b114_2))) (.seq (reg Tryz.f114 14) (.seq (.seq (reg Tryz.f114 15) (.block 4 (.loop b114_3))) (.seq (reg Tryz.f114 26) .ret)))))))))
theorem body114:Tryz.f114.body=some c114:=by kernel_rfl
noncomputable def c115:Code:=(.seq (reg Tryz.f115 0) (.seq (.seq (reg Tryz.f115 1) (.cond (.tmp 8) (.seq (reg Tryz.f115 2) .ret) .skip)) (.seq (reg Tryz.f115 3) .ret)))
theorem body115:Tryz.f115.body=some c115:=by kernel_rfl
noncomputable def c116:Code:=(.seq (reg Tryz.f116 0) (.seq (reg Tryz.f116 1) (.seq (reg Tryz.f116 2) .ret)))
theorem body116:Tryz.f116.body=some c116:=by kernel_rfl
noncomputable def b117_1:Code:=(.seq (.seq (reg Tryz.f117 3) (.cond (.tmp 24) .skip (.exit 0))) (.block 1 (reg Tryz.f117 4)))
noncomputable def c117:Code:=(.seq (reg Tryz.f117 0) (.seq (reg Tryz.f117 1) (.seq (reg Tryz.f117 2) (.seq (.block 0 (.loop b117_1)) (.seq (reg Tryz.f117 5) (.seq (reg Tryz.f117 6) (.seq (reg Tryz.f117 7) (.seq (reg Tryz.f117 8) .ret))))))))
theorem body117:Tryz.f117.body=some c117:=by kernel_rfl
noncomputable def b118_1:Code:=(.seq (.seq (reg Tryz.f118 9) (.cond (.tmp 54) .skip (.exit 1))) (.seq (.block 2 (reg Tryz.f118 11)) (reg Tryz.f118 10)))
noncomputable def b118_2:Code:=(.seq (.seq (reg Tryz.f118 14) (.cond (.tmp 64) .skip (.exit 3))) (.seq (.block 4 (reg Tryz.f118 16)) (reg Tryz.f118 15)))
noncomputable def c118:Code:=(.seq (reg Tryz.f118 0) (.seq (.block 0 (.seq (reg Tryz.f118 1) (.cond (.tmp 11) (.seq (reg Tryz.f118 2) .ret) (.seq (reg Tryz.f118 3) (.cond (.tmp 16) (.seq (reg Tryz.f118 4) .ret) (.seq (reg Tryz.f118 5) (.cond (.tmp 24) (.seq (reg Tryz.f118 6) .ret) .skip))))))) (.seq (reg Tryz.f118 7) (.seq (.seq (reg Tryz.f118 8) (.block 1 (.loop b118_1))) (.seq (reg Tryz.f118 12) (.seq (.seq (reg Tryz.f118 13) (.block 3 (.loop b118_2))) (.seq (reg Tryz.f118 17) .ret)))))))
theorem body118:Tryz.f118.body=some c118:=by kernel_rfl
noncomputable def b119_1:Code:=(.seq (reg Tryz.f119 3) (.seq (.cond (.tmp 11) .skip (.exit 0)) (.seq (.block 1 (.seq (reg Tryz.f119 4) (reg Tryz.f119 5))) (reg Tryz.f119 6))))
noncomputable def c119:Code:=(.seq (reg Tryz.f119 0) (.seq (reg Tryz.f119 1) (.seq (.seq (reg Tryz.f119 2) (.block 0 (.loop b119_1))) (.seq (reg Tryz.f119 7) .ret))))
theorem body119:Tryz.f119.body=some c119:=by kernel_rfl
noncomputable def b125_3:Code:=(.seq (reg Tryz.f125 19) (.seq (.cond (.tmp 94) .skip (.exit 4)) (.seq (.block 5 (.seq (reg Tryz.f125 20) (reg Tryz.f125 21))) (reg Tryz.f125 22))))
noncomputable def b125_2:Code:=(.seq (.seq (reg Tryz.f125 9) (.cond (.tmp 34) .skip (.exit 2))) (.seq (.block 3 (.seq (reg Tryz.f125 11) (.seq (reg Tryz.f125 12) (.seq (.seq (reg Tryz.f125 13) (.cond (.tmp 63) (.exit 3) .skip)) (.seq (reg Tryz.f125 14) (.seq (reg Tryz.f125 15) (.seq (reg Tryz.f125 16) (.seq (reg Tryz.f125 17) (.seq (.seq (reg Tryz.f125 18) (.block 4 (.loop b125_3))) (.exit 2)))))))))) (reg Tryz.f125 10)))
noncomputable def b125_1:Code:=(.seq (.seq (reg Tryz.f125 5) (.cond (.tmp 27) .skip (.exit 0))) (.seq (.block 1 (.seq (reg Tryz.f125 7) (.seq (reg Tryz.f125 8) (.block 2 (.loop b125_2))))) (reg Tryz.f125 6)))
noncomputable def c125:Code:=(.seq (reg Tryz.f125 0) (.seq (reg Tryz.f125 1) (.seq (reg Tryz.f125 2) (.seq (reg Tryz.f125 3) (.seq (.seq (reg Tryz.f125 4) (.block 0 (.loop b125_1))) (.seq (reg Tryz.f125 23) .ret))))))
noncomputable def b127_1:Code:=(.seq (.seq (reg Tryz.f127 5) (.cond (.tmp 25) .skip (.exit 0))) (.seq (.block 1 (reg Tryz.f127 7)) (reg Tryz.f127 6)))
noncomputable def c127:Code:=(.seq (reg Tryz.f127 0) (.seq (.seq (reg Tryz.f127 1) (.cond (.tmp 13) (.seq (reg Tryz.f127 2) .ret) .skip)) (.seq (reg Tryz.f127 3) (.seq (.seq (reg Tryz.f127 4) (.block 0 (.loop b127_1))) (.seq (reg Tryz.f127 8) .ret)))))
noncomputable def b128_1:Code:=(.seq (.seq (reg Tryz.f128 4) (.cond (.tmp 34) .skip (.exit 0))) (.seq (.block 1 (.seq (reg Tryz.f128 6) (.cond (.tmp 42) (.seq (reg Tryz.f128 7) .ret) .skip))) (reg Tryz.f128 5)))
noncomputable def c128:Code:=(.seq (reg Tryz.f128 0) (.seq (reg Tryz.f128 1) (.seq (reg Tryz.f128 2) (.seq (.seq (reg Tryz.f128 3) (.block 0 (.loop b128_1))) (.seq (reg Tryz.f128 8) .ret)))))
noncomputable def c139:Code:=(.seq (reg Tryz.f139 0) (.seq (.seq (reg Tryz.f139 1) (.cond (.tmp 30) (.seq (reg Tryz.f139 2) .ret) .skip)) (.seq (.seq (reg Tryz.f139 3) (.cond (.tmp 37) (.seq (reg Tryz.f139 4) .ret) .skip)) (.seq (reg Tryz.f139 5) .ret))))
noncomputable def b143_1:Code:=(.seq (.seq (reg Tryz.f143 7) (.cond (.tmp 16) .skip (.exit 0))) (.seq (.block 1 (.seq (reg Tryz.f143 9) (.cond (.tmp 23) (reg Tryz.f143 10) .skip))) (reg Tryz.f143 8)))
noncomputable def c143:Code:=(.seq (reg Tryz.f143 0) (.seq (.seq (reg Tryz.f143 1) (.cond (.tmp 8) (.seq (reg Tryz.f143 2) .ret) .skip)) (.seq (.seq (reg Tryz.f143 3) (.cond (.tmp 11) (.seq (reg Tryz.f143 4) .ret) .skip)) (.seq (reg Tryz.f143 5) (.seq (.seq (reg Tryz.f143 6) (.block 0 (.loop b143_1))) (.seq (reg Tryz.f143 11) .ret))))))
theorem body143:Tryz.f143.body=some c143:=by kernel_rfl
noncomputable def c144:Code:=(.seq (reg Tryz.f144 0) (.seq (reg Tryz.f144 1) .ret))
noncomputable def b145_1:Code:=(.seq (reg Tryz.f145 6) (.seq (.cond (.tmp 62) .skip (.exit 0)) (.seq (.block 1 (.seq (reg Tryz.f145 7) (.seq (reg Tryz.f145 8) (.cond (.tmp 89) (.seq (reg Tryz.f145 9) .ret) .skip)))) (reg Tryz.f145 10))))
noncomputable def c145:Code:=(.seq (reg Tryz.f145 0) (.seq (.seq (reg Tryz.f145 1) (.cond (.tmp 29) (.seq (reg Tryz.f145 2) .ret) .skip)) (.seq (.seq (reg Tryz.f145 3) (.cond (.tmp 57) (.seq (reg Tryz.f145 4) .ret) .skip)) (.seq (.seq (reg Tryz.f145 5) (.block 0 (.loop b145_1))) (.seq (reg Tryz.f145 11) (.seq (reg Tryz.f145 12) .ret))))))
noncomputable def b146_1:Code:=(.seq (.seq (reg Tryz.f146 2) (.cond (.tmp 13) .skip (.exit 0))) (.block 1 (reg Tryz.f146 3)))
noncomputable def b146_2:Code:=(.seq (.seq (reg Tryz.f146 5) (.cond (.tmp 18) .skip (.exit 2))) (.seq (.block 3 (reg Tryz.f146 7)) (reg Tryz.f146 6)))
noncomputable def c146:Code:=(.seq (reg Tryz.f146 0) (.seq (reg Tryz.f146 1) (.seq (.block 0 (.loop b146_1)) (.seq (.seq (reg Tryz.f146 4) (.block 2 (.loop b146_2))) (.seq (reg Tryz.f146 8) .ret)))))
theorem body146:Tryz.f146.body=some c146:=by kernel_rfl
noncomputable def c147:Code:=(.seq (reg Tryz.f147 0) (.seq (reg Tryz.f147 1) .ret))
theorem body147:Tryz.f147.body=some c147:=by kernel_rfl
noncomputable def b148_1:Code:=(.seq (.seq (reg Tryz.f148 4) (.cond (.tmp 38) .skip (.exit 0))) (.seq (.block 1 (.seq (reg Tryz.f148 6) (.seq (reg Tryz.f148 7) (reg Tryz.f148 8)))) (reg Tryz.f148 5)))
noncomputable def c148:Code:=(.seq (reg Tryz.f148 0) (.seq (reg Tryz.f148 1) (.seq (reg Tryz.f148 2) (.seq (.seq (reg Tryz.f148 3) (.block 0 (.loop b148_1))) (.seq (reg Tryz.f148 9) .ret)))))
theorem body148:Tryz.f148.body=some c148:=by kernel_rfl
noncomputable def b150_1:Code:=(.seq (reg Tryz.f150 6) (.seq (.cond (.tmp 21) .skip (.exit 0)) (.seq (.block 1 (.seq (reg Tryz.f150 7) (reg Tryz.f150 8))) (reg Tryz.f150 9))))
noncomputable def c150:Code:=(.seq (reg Tryz.f150 0) (.seq (.seq (reg Tryz.f150 1) (.seq (reg Tryz.f150 2) (.cond (.tmp 17) (.seq (reg Tryz.f150 3) .ret) .skip))) (.seq (reg Tryz.f150 4) (.seq (.seq (reg Tryz.f150 5) (.block 0 (.loop b150_1))) (.seq (reg Tryz.f150 10) .ret)))))
noncomputable def b153_1:Code:=(.seq (reg Tryz.f153 3) (.seq (.cond (.tmp 9) .skip (.exit 0)) (.seq (.block 1 (.seq (reg Tryz.f153 4) (reg Tryz.f153 5))) (reg Tryz.f153 6))))
noncomputable def c153:Code:=(.seq (reg Tryz.f153 0) (.seq (reg Tryz.f153 1) (.seq (.seq (reg Tryz.f153 2) (.block 0 (.loop b153_1))) (.seq (reg Tryz.f153 7) .ret))))
theorem body153:Tryz.f153.body=some c153:=by kernel_rfl
noncomputable def b154_1:Code:=(.seq (reg Tryz.f154 5) (.seq (.cond (.tmp 19) .skip (.exit 0)) (.seq (.block 1 (.seq (reg Tryz.f154 6) (reg Tryz.f154 7))) (reg Tryz.f154 8))))
noncomputable def c154:Code:=(.seq (reg Tryz.f154 0) (.seq (reg Tryz.f154 1) (.seq (reg Tryz.f154 2) (.seq (reg Tryz.f154 3) (.seq (.seq (reg Tryz.f154 4) (.block 0 (.loop b154_1))) (.seq (reg Tryz.f154 9) .ret))))))
theorem body154:Tryz.f154.body=some c154:=by kernel_rfl
noncomputable def b155_1:Code:=(.seq (reg Tryz.f155 5) (.seq (.cond (.tmp 36) .skip (.exit 0)) (.seq (.block 1 (.seq (reg Tryz.f155 6) (.seq (reg Tryz.f155 7) (.seq (reg Tryz.f155 8) (reg Tryz.f155 9))))) (reg Tryz.f155 10))))
noncomputable def c155:Code:=(.seq (reg Tryz.f155 0) (.seq (reg Tryz.f155 1) (.seq (reg Tryz.f155 2) (.seq (reg Tryz.f155 3) (.seq (.seq (reg Tryz.f155 4) (.block 0 (.loop b155_1))) (.seq (reg Tryz.f155 11) .ret))))))
theorem body155:Tryz.f155.body=some c155:=by kernel_rfl
noncomputable def c156:Code:=(.seq (reg Tryz.f156 0) (.seq (reg Tryz.f156 1) .ret))
theorem body156:Tryz.f156.body=some c156:=by kernel_rfl
noncomputable def c157:Code:=(.seq (reg Tryz.f157 0) (.seq (.seq (reg Tryz.f157 1) (.cond (.tmp 20) (.seq (reg Tryz.f157 2) .ret) .skip)) (.seq (reg Tryz.f157 3) .ret)))
theorem body157:Tryz.f157.body=some c157:=by kernel_rfl
noncomputable def c158:Code:=(.seq (reg Tryz.f158 0) (.seq (reg Tryz.f158 1) (.seq (reg Tryz.f158 2) (.seq (reg Tryz.f158 3) .ret))))
theorem body158:Tryz.f158.body=some c158:=by kernel_rfl
noncomputable def c159:Code:=(.seq (.seq (reg Tryz.f159 0) (.cond (.tmp 10) (reg Tryz.f159 1) .skip)) (.seq (.seq (reg Tryz.f159 2) (.cond (.tmp 22) (reg Tryz.f159 3) .skip)) (reg Tryz.f159 4)))
theorem body159:Tryz.f159.body=some c159:=by kernel_rfl
noncomputable def b160_1:Code:=(.seq (reg Tryz.f160 1) (.seq (.cond (.tmp 9) .skip (.exit 0)) (.seq (.block 1 (.seq (reg Tryz.f160 2) (reg Tryz.f160 3))) (reg Tryz.f160 4))))
noncomputable def c160:Code:=(.seq (reg Tryz.f160 0) (.block 0 (.loop b160_1)))
theorem body160:Tryz.f160.body=some c160:=by kernel_rfl
noncomputable def c161:Code:=(.seq (reg Tryz.f161 0) (.seq (reg Tryz.f161 1) (.seq (reg Tryz.f161 2) (.seq (reg Tryz.f161 3) (.seq (reg Tryz.f161 4) (.seq (reg Tryz.f161 5) (.seq (reg Tryz.f161 6) (.seq (reg Tryz.f161 7) (.seq (reg Tryz.f161 8) (.seq (reg Tryz.f161 9) (.seq (reg Tryz.f161 10) (.seq (reg Tryz.f161 11) .ret))))))))))))
theorem body161:Tryz.f161.body=some c161:=by kernel_rfl
noncomputable def c162:Code:=(.seq (reg Tryz.f162 0) (.seq (reg Tryz.f162 1) (.seq (reg Tryz.f162 2) (.seq (reg Tryz.f162 3) (.seq (reg Tryz.f162 4) .ret)))))
theorem body162:Tryz.f162.body=some c162:=by kernel_rfl
noncomputable def b163_1:Code:=(.seq (reg Tryz.f163 2) (.seq (.cond (.tmp 7) .skip (.exit 0)) (.seq (.block 1 (.seq (reg Tryz.f163 3) (.seq (reg Tryz.f163 4) (.seq (reg Tryz.f163 5) (.seq (reg Tryz.f163 6) (.seq (reg Tryz.f163 7) (.seq (reg Tryz.f163 8) (.seq (reg Tryz.f163 9) (.seq (reg Tryz.f163 10) (.seq (reg Tryz.f163 11) (.seq (reg Tryz.f163 12) (.seq (reg Tryz.f163 13) (.seq (reg Tryz.f163 14) (.seq (reg Tryz.f163 15) (reg Tryz.f163 16))))))))))))))) (reg Tryz.f163 17))))
noncomputable def c163:Code:=(.seq (reg Tryz.f163 0) (.seq (.seq (reg Tryz.f163 1) (.block 0 (.loop b163_1))) (.seq (reg Tryz.f163 18) .ret)))
theorem body163:Tryz.f163.body=some c163:=by kernel_rfl
noncomputable def b164_1:Code:=(.block 1 (.seq (reg Tryz.f164 2) (.seq (.seq (reg Tryz.f164 3) (.cond (.tmp 23) (.seq (reg Tryz.f164 4) .ret) .skip)) (.seq (.seq (reg Tryz.f164 5) (.cond (.tmp 29) (.seq (reg Tryz.f164 6) .ret) .skip)) (.seq (.seq (reg Tryz.f164 7) (.cond (.tmp 35) (.seq (reg Tryz.f164 8) (reg Tryz.f164 9)) .skip)) (.seq (reg Tryz.f164 10) (.seq (.seq (reg Tryz.f164 11) (.cond (.tmp 50) (.seq (reg Tryz.f164 12) (.seq (reg Tryz.f164 13) (reg Tryz.f164 14))) .skip)) (.seq (.seq (reg Tryz.f164 15) (.cond (.tmp 68) (.seq (reg Tryz.f164 16) (.cond (.tmp 72) .ret .skip)) .skip)) (.seq (.seq (reg Tryz.f164 17) (.cond (.tmp 87) (.seq (reg Tryz.f164 18) (.seq (reg Tryz.f164 19) (.exit 1))) .skip)) (.seq (reg Tryz.f164 20) (.seq (reg Tryz.f164 21) (.seq (reg Tryz.f164 22) (.seq (reg Tryz.f164 23) (.seq (reg Tryz.f164 24) (.cond (.tmp 113) (.seq (reg Tryz.f164 25) (.seq (reg Tryz.f164 26) (reg Tryz.f164 27))) (.seq (reg Tryz.f164 28) (.seq (reg Tryz.f164 29) (reg Tryz.f164 30))))))))))))))))))
noncomputable def c164:Code:=(.seq (reg Tryz.f164 0) (.seq (reg Tryz.f164 1) (.block 0 (.loop b164_1))))
theorem body164:Tryz.f164.body=some c164:=by kernel_rfl
noncomputable def c165:Code:=(.seq (reg Tryz.f165 0) (.seq (.cond (.const (Value.bool false)) (.seq (reg Tryz.f165 1) .ret) .skip) (.seq (reg Tryz.f165 2) .ret)))
theorem body165:Tryz.f165.body=some c165:=by kernel_rfl
noncomputable def c166:Code:=(.seq (reg Tryz.f166 0) (.seq (reg Tryz.f166 1) .ret))
theorem body166:Tryz.f166.body=some c166:=by kernel_rfl
noncomputable def c167:Code:=(.seq (reg Tryz.f167 0) (.seq (reg Tryz.f167 1) (.seq (reg Tryz.f167 2) (.seq (reg Tryz.f167 3) (.seq (reg Tryz.f167 4) .ret)))))
theorem body167:Tryz.f167.body=some c167:=by kernel_rfl
noncomputable def c168:Code:=(.seq (reg Tryz.f168 0) (.seq (reg Tryz.f168 1) (.seq (reg Tryz.f168 2) (.seq (reg Tryz.f168 3) (.seq (reg Tryz.f168 4) (.seq (reg Tryz.f168 5) (.seq (reg Tryz.f168 6) (.seq (reg Tryz.f168 7) (.seq (reg Tryz.f168 8) (.seq (reg Tryz.f168 9) (.seq (reg Tryz.f168 10) (.seq (reg Tryz.f168 11) .ret))))))))))))
theorem body168:Tryz.f168.body=some c168:=by kernel_rfl
noncomputable def b169_1:Code:=(.seq (.seq (reg Tryz.f169 4) (.cond (.tmp 29) .skip (.exit 0))) (.seq (.block 1 (.seq (reg Tryz.f169 6) (.cond (.tmp 34) (.seq (reg Tryz.f169 7) .ret) .skip))) (reg Tryz.f169 5)))
noncomputable def c169:Code:=(.seq (reg Tryz.f169 0) (.seq (.seq (reg Tryz.f169 1) (.cond (.tmp 21) (.seq (reg Tryz.f169 2) .ret) .skip)) (.seq (.seq (reg Tryz.f169 3) (.block 0 (.loop b169_1))) (.seq (reg Tryz.f169 8) .ret))))
theorem body169:Tryz.f169.body=some c169:=by kernel_rfl
noncomputable def c170:Code:=(.seq (reg Tryz.f170 0) (.seq (.seq (reg Tryz.f170 1) (.cond (.tmp 8) (reg Tryz.f170 2) .skip)) (.seq (.seq (reg Tryz.f170 3) (.cond (.tmp 14) (reg Tryz.f170 4) .skip)) (.seq (reg Tryz.f170 5) (.seq (reg Tryz.f170 6) .ret)))))
theorem body170:Tryz.f170.body=some c170:=by kernel_rfl
noncomputable def c173:Code:=(.seq (reg Tryz.f173 0) (.seq (reg Tryz.f173 1) .ret))
theorem body173:Tryz.f173.body=some c173:=by kernel_rfl
noncomputable def c175:Code:=(.seq (reg Tryz.f175 0) (.seq (reg Tryz.f175 1) (.seq (reg Tryz.f175 2) (.seq (reg Tryz.f175 3) (.seq (reg Tryz.f175 4) (.seq (.seq (reg Tryz.f175 5) (.cond (.tmp 36) (.seq (reg Tryz.f175 6) (reg Tryz.f175 7)) .skip)) (.seq (reg Tryz.f175 8) (.seq (reg Tryz.f175 9) .ret))))))))
noncomputable def c178:Code:=(.seq (reg Tryz.f178 0) (.seq (.seq (reg Tryz.f178 1) (.cond (.tmp 5) (.seq (reg Tryz.f178 2) .ret) .skip)) (.seq (reg Tryz.f178 3) .ret)))
noncomputable def b182_1:Code:=(.seq (reg Tryz.f182 4) (.seq (.cond (.tmp 16) .skip (.exit 0)) (.seq (.block 1 (.seq (reg Tryz.f182 5) (.seq (reg Tryz.f182 6) (.cond (.tmp 21) (.seq (reg Tryz.f182 7) .ret) .skip)))) (reg Tryz.f182 8))))
noncomputable def c182:Code:=(.seq (reg Tryz.f182 0) (.seq (.seq (reg Tryz.f182 1) (.cond (.tmp 11) (.seq (reg Tryz.f182 2) .ret) .skip)) (.seq (.seq (reg Tryz.f182 3) (.block 0 (.loop b182_1))) (.seq (reg Tryz.f182 9) .ret))))
noncomputable def b186_1:Code:=(.seq (reg Tryz.f186 3) (.seq (.cond (.tmp 10) .skip (.exit 0)) (.seq (.block 1 (.seq (reg Tryz.f186 4) (.seq (reg Tryz.f186 5) (.cond (.tmp 20) (reg Tryz.f186 6) .skip)))) (reg Tryz.f186 7))))
noncomputable def c186:Code:=(.seq (reg Tryz.f186 0) (.seq (reg Tryz.f186 1) (.seq (.seq (reg Tryz.f186 2) (.block 0 (.loop b186_1))) (.seq (reg Tryz.f186 8) .ret))))
noncomputable def c188:Code:=(.seq (reg Tryz.f188 0) (.seq (reg Tryz.f188 1) (.seq (.seq (reg Tryz.f188 2) (.cond (.tmp 16) (.seq (reg Tryz.f188 3) .ret) .skip)) (.seq (reg Tryz.f188 4) (.seq (.seq (reg Tryz.f188 5) (.cond (.tmp 20) (reg Tryz.f188 6) (.seq (.seq (reg Tryz.f188 7) (.cond (.tmp 37) (.seq (reg Tryz.f188 8) .ret) .skip)) (reg Tryz.f188 9)))) (.seq (.seq (reg Tryz.f188 10) (.cond (.tmp 45) (.seq (reg Tryz.f188 11) .ret) .skip)) (.seq (reg Tryz.f188 12) .ret)))))))
theorem body188:Tryz.f188.body=some c188:=by kernel_rfl
noncomputable def b189_1:Code:=(.seq (.seq (reg Tryz.f189 2) (.cond (.tmp 7) .skip (.exit 0))) (.seq (.block 1 (.seq (.seq (reg Tryz.f189 4) (.cond (.tmp 16) (.seq (reg Tryz.f189 5) .ret) .skip)) (.seq (reg Tryz.f189 6) (.cond (.tmp 23) (.seq (reg Tryz.f189 7) .ret) .skip)))) (reg Tryz.f189 3)))
noncomputable def c189:Code:=(.seq (reg Tryz.f189 0) (.seq (.seq (reg Tryz.f189 1) (.block 0 (.loop b189_1))) (.seq (reg Tryz.f189 8) .ret)))
theorem body189:Tryz.f189.body=some c189:=by kernel_rfl
noncomputable def b190_1:Code:=(.seq (reg Tryz.f190 3) (.seq (.cond (.tmp 7) .skip (.exit 0)) (.seq (.block 1 (.seq (reg Tryz.f190 4) (.seq (reg Tryz.f190 5) (reg Tryz.f190 6)))) (reg Tryz.f190 7))))
noncomputable def c190:Code:=(.seq (reg Tryz.f190 0) (.seq (reg Tryz.f190 1) (.seq (.seq (reg Tryz.f190 2) (.block 0 (.loop b190_1))) (.seq (reg Tryz.f190 8) .ret))))
theorem body190:Tryz.f190.body=some c190:=by kernel_rfl
noncomputable def c191:Code:=(.seq (reg Tryz.f191 0) (.seq (reg Tryz.f191 1) .ret))
theorem body191:Tryz.f191.body=some c191:=by kernel_rfl
noncomputable def c192:Code:=(.seq (reg Tryz.f192 0) (.seq (reg Tryz.f192 1) .ret))
theorem body192:Tryz.f192.body=some c192:=by kernel_rfl
noncomputable def b193_1:Code:=(.seq (.seq (reg Tryz.f193 3) (.cond (.tmp 9) .skip (.exit 0))) (.seq (.block 1 (reg Tryz.f193 5)) (reg Tryz.f193 4)))
noncomputable def b193_2:Code:=(.seq (.seq (reg Tryz.f193 7) (.cond (.tmp 44) .skip (.exit 2))) (.seq (.block 3 (.seq (reg Tryz.f193 9) (.seq (reg Tryz.f193 10) (reg Tryz.f193 11)))) (reg Tryz.f193 8)))
noncomputable def c193:Code:=(.seq (reg Tryz.f193 0) (.seq (reg Tryz.f193 1) (.seq (.seq (reg Tryz.f193 2) (.block 0 (.loop b193_1))) (.seq (.seq (reg Tryz.f193 6) (.block 2 (.loop b193_2))) (.seq (reg Tryz.f193 12) .ret)))))
theorem body193:Tryz.f193.body=some c193:=by kernel_rfl
noncomputable def c194:Code:=(.seq (reg Tryz.f194 0) (.seq (reg Tryz.f194 1) .ret))
theorem body194:Tryz.f194.body=some c194:=by kernel_rfl
noncomputable def c195:Code:=(.seq (reg Tryz.f195 0) (.seq (reg Tryz.f195 1) .ret))
theorem body195:Tryz.f195.body=some c195:=by kernel_rfl
noncomputable def b197_2:Code:=(.seq (reg Tryz.f197 6) (.seq (.cond (.tmp 13) .skip (.exit 2)) (.seq (.block 3 (.seq (reg Tryz.f197 7) (reg Tryz.f197 8))) (reg Tryz.f197 9))))
noncomputable def b197_1:Code:=(.seq (reg Tryz.f197 3) (.seq (.cond (.tmp 10) .skip (.exit 0)) (.seq (.block 1 (.seq (reg Tryz.f197 4) (.seq (reg Tryz.f197 5) (.block 2 (.loop b197_2))))) (reg Tryz.f197 10))))
noncomputable def b197_3:Code:=(.seq (.seq (reg Tryz.f197 12) (.cond (.tmp 32) .skip (.exit 4))) (.seq (.block 5 (.seq (reg Tryz.f197 14) (.seq (reg Tryz.f197 15) (reg Tryz.f197 16)))) (reg Tryz.f197 13)))
noncomputable def c197:Code:=(.seq (reg Tryz.f197 0) (.seq (reg Tryz.f197 1) (.seq (.seq (reg Tryz.f197 2) (.block 0 (.loop b197_1))) (.seq (.seq (reg Tryz.f197 11) (.block 4 (.loop b197_3))) (.seq (reg Tryz.f197 17) .ret)))))
theorem body197:Tryz.f197.body=some c197:=by kernel_rfl
noncomputable def c198:Code:=(.seq (reg Tryz.f198 0) (.seq (reg Tryz.f198 1) .ret))
theorem body198:Tryz.f198.body=some c198:=by kernel_rfl
noncomputable def c199:Code:=(.seq (reg Tryz.f199 0) (.seq (reg Tryz.f199 1) .ret))
theorem body199:Tryz.f199.body=some c199:=by kernel_rfl
noncomputable def c200:Code:=(.seq (reg Tryz.f200 0) (.seq (reg Tryz.f200 1) (.seq (reg Tryz.f200 2) .ret)))
theorem body200:Tryz.f200.body=some c200:=by kernel_rfl
noncomputable def b201_2:Code:=(.seq (.seq (reg Tryz.f201 4) (.cond (.tmp 30) .skip (.exit 2))) (.seq (.block 3 (reg Tryz.f201 6)) (reg Tryz.f201 5)))
noncomputable def b201_1:Code:=(.seq (.seq (reg Tryz.f201 1) (.cond (.tmp 12) .skip (.exit 0))) (.seq (.block 1 (.seq (reg Tryz.f201 3) (.block 2 (.loop b201_2)))) (reg Tryz.f201 2)))
noncomputable def c201:Code:=(.seq (reg Tryz.f201 0) (.block 0 (.loop b201_1)))
theorem body201:Tryz.f201.body=some c201:=by kernel_rfl
noncomputable def b202_1:Code:=(.seq (.seq (reg Tryz.f202 4) (.cond (.tmp 19) .skip (.exit 0))) (.seq (.block 1 (reg Tryz.f202 6)) (reg Tryz.f202 5)))
noncomputable def b202_2:Code:=(.seq (.seq (reg Tryz.f202 8) (.cond (.tmp 30) .skip (.exit 2))) (.seq (.block 3 (.seq (reg Tryz.f202 10) (reg Tryz.f202 11))) (reg Tryz.f202 9)))
noncomputable def c202:Code:=(.seq (reg Tryz.f202 0) (.seq (reg Tryz.f202 1) (.seq (reg Tryz.f202 2) (.seq (.seq (reg Tryz.f202 3) (.block 0 (.loop b202_1))) (.seq (reg Tryz.f202 7) (.block 2 (.loop b202_2)))))))
theorem body202:Tryz.f202.body=some c202:=by kernel_rfl
noncomputable def b203_1:Code:=(.seq (.seq (reg Tryz.f203 5) (.cond (.tmp 33) .skip (.exit 0))) (.seq (.block 1 (.seq (reg Tryz.f203 7) (.seq (.seq (reg Tryz.f203 8) (.cond (.tmp 43) (reg Tryz.f203 9) .skip)) (reg Tryz.f203 10)))) (reg Tryz.f203 6)))
noncomputable def c203:Code:=(.seq (reg Tryz.f203 0) (.seq (reg Tryz.f203 1) (.cond (.tmp 15) (.seq (reg Tryz.f203 2) (.seq (reg Tryz.f203 3) (.seq (reg Tryz.f203 4) (.block 0 (.loop b203_1))))) .skip)))
theorem body203:Tryz.f203.body=some c203:=by kernel_rfl
noncomputable def c204:Code:=(.seq (reg Tryz.f204 0) (.seq (reg Tryz.f204 1) (.seq (reg Tryz.f204 2) (.seq (reg Tryz.f204 3) (.seq (reg Tryz.f204 4) (.seq (reg Tryz.f204 5) (.seq (.seq (reg Tryz.f204 6) (.cond (.tmp 32) (.seq (.seq (reg Tryz.f204 7) (.cond (.tmp 34) (.seq (reg Tryz.f204 8) (.seq (reg Tryz.f204 9) (reg Tryz.f204 10))) .skip)) (reg Tryz.f204 11)) .skip)) (.seq (reg Tryz.f204 12) (.block 0 (.seq (reg Tryz.f204 14) (.cond (.tmp 51) (.seq (reg Tryz.f204 15) .ret) (.seq (reg Tryz.f204 16) (.cond (.tmp 54) (.seq (reg Tryz.f204 17) .ret) (.seq (reg Tryz.f204 13) .ret))))))))))))))
theorem body204:Tryz.f204.body=some c204:=by kernel_rfl
noncomputable def b205_1:Code:=(.seq (.seq (reg Tryz.f205 2) (.cond (.tmp 13) .skip (.exit 0))) (.block 1 (.seq (reg Tryz.f205 3) (.seq (reg Tryz.f205 4) (reg Tryz.f205 5)))))
noncomputable def c205:Code:=(.seq (reg Tryz.f205 0) (.seq (reg Tryz.f205 1) (.block 0 (.loop b205_1))))
theorem body205:Tryz.f205.body=some c205:=by kernel_rfl
noncomputable def b206_2:Code:=(.seq (.seq (reg Tryz.f206 5) (.cond (.tmp 32) .skip (.exit 2))) (.block 3 (reg Tryz.f206 6)))
noncomputable def b206_3:Code:=(.seq (.seq (reg Tryz.f206 14) (.cond (.tmp 65) .skip (.exit 4))) (.seq (.block 5 (.seq (.seq (reg Tryz.f206 16) (.cond (.tmp 78) (.exit 4) .skip)) (reg Tryz.f206 17))) (reg Tryz.f206 15)))
noncomputable def b206_4:Code:=(.seq (.seq (reg Tryz.f206 20) (.cond (.tmp 103) .skip (.exit 6))) (.seq (.block 7 (.seq (.seq (reg Tryz.f206 22) (.cond (.tmp 116) (.exit 6) .skip)) (reg Tryz.f206 23))) (reg Tryz.f206 21)))
noncomputable def b206_1:Code:=(.seq (.seq (reg Tryz.f206 3) (.cond (.tmp 14) .skip (.exit 0))) (.seq (.block 1 (.seq (.block 2 (.loop b206_2)) (.seq (.seq (reg Tryz.f206 7) (.cond (.tmp 37) (.seq (reg Tryz.f206 8) .ret) .skip)) (.seq (.seq (reg Tryz.f206 9) (.cond (.tmp 41) (.seq (reg Tryz.f206 10) .ret) .skip)) (.seq (reg Tryz.f206 11) (.seq (.seq (reg Tryz.f206 12) (.cond (.tmp 61) (.seq (reg Tryz.f206 13) (.block 4 (.loop b206_3))) .skip)) (.seq (reg Tryz.f206 18) (.cond (.tmp 98) (.seq (reg Tryz.f206 19) (.block 6 (.loop b206_4))) .skip)))))))) (reg Tryz.f206 4)))
noncomputable def c206:Code:=(.seq (reg Tryz.f206 0) (.seq (reg Tryz.f206 1) (.seq (.seq (reg Tryz.f206 2) (.block 0 (.loop b206_1))) (.seq (reg Tryz.f206 24) .ret))))
theorem body206:Tryz.f206.body=some c206:=by kernel_rfl
noncomputable def b207_2:Code:=(.seq (.seq (reg Tryz.f207 3) (.cond (.tmp 43) .skip (.exit 2))) (.block 3 (reg Tryz.f207 4)))
noncomputable def b207_3:Code:=(.seq (.seq (reg Tryz.f207 5) (.cond (.tmp 59) .skip (.exit 4))) (.block 5 (reg Tryz.f207 6)))
noncomputable def b207_1:Code:=(.block 1 (.seq (.block 2 (.loop b207_2)) (.seq (.block 4 (.loop b207_3)) (.seq (.seq (reg Tryz.f207 7) (.cond (.tmp 64) (.exit 0) .skip)) (.seq (reg Tryz.f207 8) (.seq (reg Tryz.f207 9) (reg Tryz.f207 10)))))))
noncomputable def c207:Code:=(.seq (reg Tryz.f207 0) (.seq (reg Tryz.f207 1) (.seq (reg Tryz.f207 2) (.seq (.block 0 (.loop b207_1)) (.seq (reg Tryz.f207 11) .ret)))))
theorem body207:Tryz.f207.body=some c207:=by kernel_rfl
noncomputable def b208_1:Code:=(.seq (.seq (reg Tryz.f208 3) (.cond (.tmp 43) .skip (.exit 0))) (.block 1 (reg Tryz.f208 4)))
noncomputable def b208_2:Code:=(.seq (.seq (reg Tryz.f208 5) (.cond (.tmp 60) .skip (.exit 2))) (.block 3 (reg Tryz.f208 6)))
noncomputable def b208_4:Code:=(.seq (.seq (reg Tryz.f208 13) (.cond (.tmp 112) .skip (.exit 6))) (.block 7 (reg Tryz.f208 14)))
noncomputable def b208_5:Code:=(.seq (.seq (reg Tryz.f208 15) (.cond (.tmp 129) .skip (.exit 8))) (.block 9 (reg Tryz.f208 16)))
noncomputable def b208_3:Code:=(.block 5 (.seq (.block 6 (.loop b208_4)) (.seq (.block 8 (.loop b208_5)) (.seq (.seq (reg Tryz.f208 17) (.cond (.tmp 134) (.exit 4) .skip)) (.seq (reg Tryz.f208 18) (.seq (reg Tryz.f208 19) (reg Tryz.f208 20)))))))
noncomputable def c208:Code:=(.seq (reg Tryz.f208 0) (.seq (reg Tryz.f208 1) (.seq (reg Tryz.f208 2) (.seq (.block 0 (.loop b208_1)) (.seq (.block 2 (.loop b208_2)) (.seq (.seq (reg Tryz.f208 7) (.cond (.tmp 65) (.seq (reg Tryz.f208 8) (.seq (reg Tryz.f208 9) .ret)) .skip)) (.seq (reg Tryz.f208 10) (.seq (reg Tryz.f208 11) (.seq (reg Tryz.f208 12) (.seq (.block 4 (.loop b208_3)) (.seq (reg Tryz.f208 21) (.seq (reg Tryz.f208 22) .ret))))))))))))
theorem body208:Tryz.f208.body=some c208:=by kernel_rfl
noncomputable def c211:Code:=(.seq (reg Tryz.f211 0) (.seq (reg Tryz.f211 1) .ret))
theorem body211:Tryz.f211.body=some c211:=by kernel_rfl
noncomputable def b213_2:Code:=(.seq (.seq (reg Tryz.f213 5) (.cond (.tmp 14) .skip (.exit 2))) (.seq (.block 3 (.seq (reg Tryz.f213 7) (.cond (.tmp 21) (reg Tryz.f213 8) (reg Tryz.f213 9)))) (reg Tryz.f213 6)))
noncomputable def b213_1:Code:=(.seq (.seq (reg Tryz.f213 2) (.cond (.tmp 10) .skip (.exit 0))) (.block 1 (.seq (reg Tryz.f213 3) (.seq (.seq (reg Tryz.f213 4) (.block 2 (.loop b213_2))) (reg Tryz.f213 10)))))
noncomputable def c213:Code:=(.seq (reg Tryz.f213 0) (.seq (reg Tryz.f213 1) (.seq (.block 0 (.loop b213_1)) (.seq (reg Tryz.f213 11) .ret))))
noncomputable def c220:Code:=(.seq (reg Tryz.f220 0) (.seq (reg Tryz.f220 1) (.seq (.block 0 (.seq (reg Tryz.f220 2) (.cond (.tmp 18) (.seq (reg Tryz.f220 3) .ret) (.seq (reg Tryz.f220 4) (.cond (.tmp 22) (.seq (reg Tryz.f220 5) .ret) (.seq (reg Tryz.f220 6) (.cond (.tmp 26) (.seq (reg Tryz.f220 7) .ret) .skip))))))) (.seq (reg Tryz.f220 8) .ret))))
noncomputable def c222:Code:=(.seq (reg Tryz.f222 0) (.seq (reg Tryz.f222 1) .ret))
theorem body222:Tryz.f222.body=some c222:=by kernel_rfl
noncomputable def b224_1:Code:=(.seq (.block 1 (.seq (reg Tryz.f224 5) (.seq (.seq (reg Tryz.f224 6) (.cond (.tmp 11) (.seq (reg Tryz.f224 7) (.seq (reg Tryz.f224 8) (.cond (.tmp 24) (.exit 1) .skip))) (reg Tryz.f224 9))) (.seq (reg Tryz.f224 10) (.cond (.tmp 32) (.seq (reg Tryz.f224 11) .ret) .skip))))) (reg Tryz.f224 4))
noncomputable def c224:Code:=(.seq (reg Tryz.f224 0) (.seq (.seq (reg Tryz.f224 1) (.cond (.tmp 6) (.seq (reg Tryz.f224 2) .ret) .skip)) (.seq (reg Tryz.f224 3) (.block 0 (.loop b224_1)))))
noncomputable def b225_1:Code:=(.seq (.seq (reg Tryz.f225 2) (.cond (.tmp 5) .skip (.exit 0))) (.seq (.block 1 (.seq (reg Tryz.f225 4) (.cond (.tmp 10) (.seq (reg Tryz.f225 5) .ret) .skip))) (reg Tryz.f225 3)))
noncomputable def c225:Code:=(.seq (reg Tryz.f225 0) (.seq (.seq (reg Tryz.f225 1) (.block 0 (.loop b225_1))) (.seq (reg Tryz.f225 6) .ret)))
theorem body225:Tryz.f225.body=some c225:=by kernel_rfl
noncomputable def b226_1:Code:=(.seq (.seq (reg Tryz.f226 3) (.cond (.tmp 9) .skip (.exit 0))) (.seq (.block 1 (reg Tryz.f226 5)) (reg Tryz.f226 4)))
noncomputable def c226:Code:=(.seq (reg Tryz.f226 0) (.seq (.seq (reg Tryz.f226 1) (.cond (.tmp 6) (.seq (reg Tryz.f226 2) .ret) .skip)) (.seq (.block 0 (.loop b226_1)) (.seq (reg Tryz.f226 6) .ret))))
theorem body226:Tryz.f226.body=some c226:=by kernel_rfl
noncomputable def c227:Code:=(.seq (reg Tryz.f227 0) (.seq (reg Tryz.f227 1) (.seq (reg Tryz.f227 2) .ret)))
theorem body227:Tryz.f227.body=some c227:=by kernel_rfl
noncomputable def b228_1:Code:=(.block 1 (.seq (reg Tryz.f228 1) (.seq (.seq (reg Tryz.f228 2) (.cond (.tmp 16) (.exit 0) .skip)) (.seq (.seq (reg Tryz.f228 3) (.cond (.tmp 36) (reg Tryz.f228 4) .skip)) (.seq (.seq (reg Tryz.f228 5) (.cond (.tmp 52) .ret .skip)) (.seq (reg Tryz.f228 6) (reg Tryz.f228 7)))))))
noncomputable def c228:Code:=(.seq (reg Tryz.f228 0) (.block 0 (.loop b228_1)))
theorem body228:Tryz.f228.body=some c228:=by kernel_rfl
noncomputable def c229:Code:=(.seq (reg Tryz.f229 0) (.seq (reg Tryz.f229 1) .ret))
theorem body229:Tryz.f229.body=some c229:=by kernel_rfl
noncomputable def c230:Code:=(.seq (reg Tryz.f230 0) (.seq (reg Tryz.f230 1) (.seq (reg Tryz.f230 2) (.seq (reg Tryz.f230 3) (.seq (reg Tryz.f230 4) .ret)))))
theorem body230:Tryz.f230.body=some c230:=by kernel_rfl
noncomputable def c231:Code:=(.seq (reg Tryz.f231 0) (.seq (reg Tryz.f231 1) .ret))
theorem body231:Tryz.f231.body=some c231:=by kernel_rfl
noncomputable def c232:Code:=(.seq (reg Tryz.f232 0) (.seq (reg Tryz.f232 1) (.seq (reg Tryz.f232 2) (.seq (reg Tryz.f232 3) (.seq (reg Tryz.f232 4) .ret)))))
theorem body232:Tryz.f232.body=some c232:=by kernel_rfl
noncomputable def b238_1:Code:=(.seq (reg Tryz.f238 4) (.seq (.cond (.tmp 10) .skip (.exit 0)) (.seq (.block 1 (.seq (reg Tryz.f238 5) (reg Tryz.f238 6))) (reg Tryz.f238 7))))
noncomputable def c238:Code:=(.seq (reg Tryz.f238 0) (.seq (reg Tryz.f238 1) (.seq (reg Tryz.f238 2) (.seq (.seq (reg Tryz.f238 3) (.block 0 (.loop b238_1))) (.seq (reg Tryz.f238 8) .ret)))))
theorem body238:Tryz.f238.body=some c238:=by kernel_rfl
noncomputable def c240:Code:=(.seq (reg Tryz.f240 0) (.seq (.seq (reg Tryz.f240 1) (.cond (.tmp 18) (.seq (reg Tryz.f240 2) (.seq (reg Tryz.f240 3) .ret)) .skip)) (.seq (reg Tryz.f240 4) .ret)))
theorem body240:Tryz.f240.body=some c240:=by kernel_rfl
noncomputable def c245:Code:=(.seq (reg Tryz.f245 0) (.seq (reg Tryz.f245 1) .ret))
noncomputable def c252:Code:=(.seq (reg Tryz.f252 0) (.seq (.seq (reg Tryz.f252 1) (.cond (.tmp 3) (.seq (reg Tryz.f252 2) .ret) .skip)) (.seq (reg Tryz.f252 3) .ret)))
noncomputable def c256:Code:=(.seq (reg Tryz.f256 0) (.seq (reg Tryz.f256 1) (.seq (.seq (reg Tryz.f256 2) (.cond (.tmp 13) (.seq (reg Tryz.f256 3) .ret) .skip)) (.seq (.seq (reg Tryz.f256 4) (.cond (.tmp 18) (.seq (reg Tryz.f256 5) .ret) .skip)) (.seq (reg Tryz.f256 6) .ret)))))
noncomputable def c270:Code:=(.seq (reg Tryz.f270 0) (.seq (reg Tryz.f270 1) .ret))
noncomputable def b277_1:Code:=(.seq (reg Tryz.f277 3) (.seq (.cond (.tmp 7) .skip (.exit 0)) (.seq (.block 1 (.seq (reg Tryz.f277 4) (.seq (reg Tryz.f277 5) (reg Tryz.f277 6)))) (reg Tryz.f277 7))))
noncomputable def c277:Code:=(.seq (reg Tryz.f277 0) (.seq (reg Tryz.f277 1) (.seq (.seq (reg Tryz.f277 2) (.block 0 (.loop b277_1))) (.seq (reg Tryz.f277 8) .ret))))
end Go.Proofs.YthpkpciceodioaaGreatDoor
