import Derived.Test.YthpkpciceodioaaGreatDoorTt
namespace Go.Proofs.YthpkpciceodioaaGreatDoor
open Go.Av
set_option maxRecDepth 1000000
abbrev kR (fn:Func) (F:(Nat→Code)→Code):Code:=F (reg fn)
noncomputable def b6_4:Code:=kR Tryz.f6 fun r=>(.seq (r 20) (.seq (.cond (.tmp 73) .skip (.exit 6)) (.seq (.block 7 (.seq (r 21) (.seq (r 22) (.cond (.tmp 88) (.seq (r 23) .ret) .skip)))) (r 24))))
noncomputable def b6_3:Code:=kR Tryz.f6 fun r=>(.seq (r 17) (.seq (.cond (.tmp 66) .skip (.exit 4)) (.seq (.block 5 (.seq (r 18) (.seq (r 19) (.block 6 (.loop b6_4))))) (r 25))))
noncomputable def b6_2:Code:=kR Tryz.f6 fun r=>(.seq (r 11) (.seq (.cond (.tmp 47) .skip (.exit 2)) (.seq (.block 3 (.seq (r 12) (.seq (r 13) (.seq (.seq (r 14) (.cond (.tmp 61) (.seq (r 15) .ret) .skip)) (.seq (r 16) (.block 4 (.loop b6_3))))))) (r 26))))
noncomputable def b6_1:Code:=kR Tryz.f6 fun r=>(.seq (r 7) (.seq (.cond (.tmp 33) .skip (.exit 0)) (.seq (.block 1 (.seq (r 8) (.seq (r 9) (.seq (r 10) (.block 2 (.loop b6_2)))))) (r 27))))
noncomputable def c6:Code:=kR Tryz.f6 fun r=>(.seq (r 0) (.seq (.seq (r 1) (.cond (.tmp 21) (.seq (r 2) .ret) .skip)) (.seq (.seq (r 3) (.cond (.tmp 24) (.seq (r 4) .ret) .skip)) (.seq (r 5) (.seq (.seq (r 6) (.block 0 (.loop b6_1))) (.seq (r 28) .ret))))))
theorem body6:Tryz.f6.body=some c6:=by kernel_rfl
noncomputable def c42:Code:=kR Tryz.f42 fun r=>(.seq (r 0) (.seq (.seq (r 1) (.cond (.tmp 4) (.seq (r 2) .ret) .skip)) (.seq (r 3) .ret)))
theorem body42:Tryz.f42.body=some c42:=by kernel_rfl
noncomputable def b95_1:Code:=kR Tryz.f95 fun r=>(.seq (.seq (r 4) (.cond (.tmp 22) .skip (.exit 0))) (.seq (.block 1 (.seq (r 6) (.seq (r 7) (r 8)))) (r 5)))
noncomputable def b95_2:Code:=kR Tryz.f95 fun r=>(.seq (r 11) (.seq (.cond (.tmp 35) .skip (.exit 2)) (.seq (.block 3 (.seq (r 12) (r 13))) (r 14))))
noncomputable def c95:Code:=kR Tryz.f95 fun r=>(.seq (r 0) (.seq (r 1) (.seq (r 2) (.seq (.seq (r 3) (.block 0 (.loop b95_1))) (.seq (r 9) (.seq (.seq (r 10) (.block 2 (.loop b95_2))) (.seq (r 15) .ret)))))))
theorem body95:Tryz.f95.body=some c95:=by kernel_rfl
noncomputable def b125_3:Code:=kR Tryz.f125 fun r=>(.seq (r 19) (.seq (.cond (.tmp 94) .skip (.exit 4)) (.seq (.block 5 (.seq (r 20) (r 21))) (r 22))))
noncomputable def b125_2:Code:=kR Tryz.f125 fun r=>(.seq (.seq (r 9) (.cond (.tmp 34) .skip (.exit 2))) (.seq (.block 3 (.seq (r 11) (.seq (r 12) (.seq (.seq (r 13) (.cond (.tmp 63) (.exit 3) .skip)) (.seq (r 14) (.seq (r 15) (.seq (r 16) (.seq (r 17) (.seq (.seq (r 18) (.block 4 (.loop b125_3))) (.exit 2)))))))))) (r 10)))
noncomputable def b125_1:Code:=kR Tryz.f125 fun r=>(.seq (.seq (r 5) (.cond (.tmp 27) .skip (.exit 0))) (.seq (.block 1 (.seq (r 7) (.seq (r 8) (.block 2 (.loop b125_2))))) (r 6)))
noncomputable def c125:Code:=kR Tryz.f125 fun r=>(.seq (r 0) (.seq (r 1) (.seq (r 2) (.seq (r 3) (.seq (.seq (r 4) (.block 0 (.loop b125_1))) (.seq (r 23) .ret))))))
theorem body125:Tryz.f125.body=some c125:=by kernel_rfl
noncomputable def b148_1:Code:=kR Tryz.f148 fun r=>(.seq (.seq (r 4) (.cond (.tmp 38) .skip (.exit 0))) (.seq (.block 1 (.seq (r 6) (.seq (r 7) (r 8)))) (r 5)))
noncomputable def c148:Code:=kR Tryz.f148 fun r=>(.seq (r 0) (.seq (r 1) (.seq (r 2) (.seq (.seq (r 3) (.block 0 (.loop b148_1))) (.seq (r 9) .ret)))))
theorem body148:Tryz.f148.body=some c148:=by kernel_rfl
noncomputable def b164_1:Code:=kR Tryz.f164 fun r=>(.block 1 (.seq (r 2) (.seq (.seq (r 3) (.cond (.tmp 23) (.seq (r 4) .ret) .skip)) (.seq (.seq (r 5) (.cond (.tmp 29) (.seq (r 6) .ret) .skip)) (.seq (.seq (r 7) (.cond (.tmp 35) (.seq (r 8) (r 9)) .skip)) (.seq (r 10) (.seq (.seq (r 11) (.cond (.tmp 50) (.seq (r 12) (.seq (r 13) (r 14))) .skip)) (.seq (.seq (r 15) (.cond (.tmp 68) (.seq (r 16) (.cond (.tmp 72) .ret .skip)) .skip)) (.seq (.seq (r 17) (.cond (.tmp 87) (.seq (r 18) (.seq (r 19) (.exit 1))) .skip)) (.seq (r 20) (.seq (r 21) (.seq (r 22) (.seq (r 23) (.seq (r 24) (.cond (.tmp 113) (.seq (r 25) (.seq (r 26) (r 27))) (.seq (r 28) (.seq (r 29) (r 30))))))))))))))))))
noncomputable def c164:Code:=kR Tryz.f164 fun r=>(.seq (r 0) (.seq (r 1) (.block 0 (.loop b164_1))))
theorem body164:Tryz.f164.body=some c164:=by kernel_rfl
noncomputable def b182_1:Code:=kR Tryz.f182 fun r=>(.seq (r 4) (.seq (.cond (.tmp 16) .skip (.exit 0)) (.seq (.block 1 (.seq (r 5) (.seq (r 6) (.cond (.tmp 21) (.seq (r 7) .ret) .skip)))) (r 8))))
noncomputable def c182:Code:=kR Tryz.f182 fun r=>(.seq (r 0) (.seq (.seq (r 1) (.cond (.tmp 11) (.seq (r 2) .ret) .skip)) (.seq (.seq (r 3) (.block 0 (.loop b182_1))) (.seq (r 9) .ret))))
theorem body182:Tryz.f182.body=some c182:=by kernel_rfl
noncomputable def b186_1:Code:=kR Tryz.f186 fun r=>(.seq (r 3) (.seq (.cond (.tmp 10) .skip (.exit 0)) (.seq (.block 1 (.seq (r 4) (.seq (r 5) (.cond (.tmp 20) (r 6) .skip)))) (r 7))))
noncomputable def c186:Code:=kR Tryz.f186 fun r=>(.seq (r 0) (.seq (r 1) (.seq (.seq (r 2) (.block 0 (.loop b186_1))) (.seq (r 8) .ret))))
theorem body186:Tryz.f186.body=some c186:=by kernel_rfl
noncomputable def b201_2:Code:=kR Tryz.f201 fun r=>(.seq (.seq (r 4) (.cond (.tmp 30) .skip (.exit 2))) (.seq (.block 3 (r 6)) (r 5)))
noncomputable def b201_1:Code:=kR Tryz.f201 fun r=>(.seq (.seq (r 1) (.cond (.tmp 12) .skip (.exit 0))) (.seq (.block 1 (.seq (r 3) (.block 2 (.loop b201_2)))) (r 2)))
noncomputable def c201:Code:=(.seq (reg Tryz.f201 0) (.block 0 (.loop b201_1)))
theorem body201:Tryz.f201.body=some c201:=by kernel_rfl
noncomputable def b214_1:Code:=kR Tryz.f214 fun r=>(.seq (r 2) (.seq (.cond (.tmp 7) .skip (.exit 0)) (.seq (.block 1 (.seq (r 3) (.seq (.seq (r 4) (.cond (.tmp 17) (.seq (r 5) .ret) .skip)) (.seq (r 6) (.cond (.tmp 26) (.seq (r 7) .ret) .skip))))) (r 8))))
noncomputable def c214:Code:=kR Tryz.f214 fun r=>(.seq (r 0) (.seq (.seq (r 1) (.block 0 (.loop b214_1))) (.seq (.block 2 (.seq (r 9) (.cond (.tmp 28) (.seq (r 10) .ret) (.seq (r 11) (.cond (.tmp 34) (.seq (r 12) .ret) .skip))))) (.seq (r 13) .ret))))
theorem body214:Tryz.f214.body=some c214:=by kernel_rfl
noncomputable def c234:Code:=kR Tryz.f234 fun r=>(.seq (r 0) (.seq (r 1) (.seq (r 2) .ret)))
theorem body234:Tryz.f234.body=some c234:=by kernel_rfl
end Go.Proofs.YthpkpciceodioaaGreatDoor
