import Derived.Test.YtbppknpnmjhjpaaGreatDoorTt
namespace Go.Proofs.YtbppknpnmjhjpaaGreatDoor
open Go.Av
set_option maxRecDepth 1000000
abbrev kR (fn:Func) (F:(Nat→Code)→Code):Code:=F (reg fn)
noncomputable def b4_1:Code:=kR Tryz.f4 fun r=>(.seq (r 8) (.seq (.cond (.tmp 49) .skip (.exit 0)) (.seq (.block 1 (.seq (r 9) (.seq (r 10) (r 11)))) (r 12))))
noncomputable def b4_2:Code:=kR Tryz.f4 fun r=>(.seq (.seq (r 21) (.cond (.tmp 96) .skip (.exit 2))) (.seq (.block 3 (.seq (r 23) (.seq (.seq (r 24) (.cond (.tmp 137) (.seq (r 25) .ret) .skip)) (.seq (r 26) (.seq (r 27) (.seq (r 28) (.cond (.tmp 146) (.seq (r 29) .ret) .skip))))))) (r 22)))
noncomputable def b4_4:Code:=kR Tryz.f4 fun r=>(.seq (r 38) (.seq (.cond (.tmp 184) .skip (.exit 6)) (.seq (.block 7 (.seq (r 39) (.seq (r 40) (.cond (.tmp 200) (.seq (r 41) .ret) .skip)))) (r 42))))
noncomputable def b4_3:Code:=kR Tryz.f4 fun r=>(.seq (r 35) (.seq (.cond (.tmp 177) .skip (.exit 4)) (.seq (.block 5 (.seq (r 36) (.seq (r 37) (.block 6 (.loop b4_4))))) (r 43))))
noncomputable def c4:Code:=kR Tryz.f4 fun r=>(.seq (r 0) (.seq (.seq (r 1) (.cond (.tmp 36) (.seq (r 2) .ret) .skip)) (.seq (r 3) (.seq (.seq (r 4) (.cond (.tmp 44) (.seq (r 5) .ret) .skip)) (.seq (r 6) (.seq (.seq (r 7) (.block 0 (.loop b4_1))) (.seq (r 13) (.seq (r 14) (.seq (r 15) (.seq (r 16) (.seq (.seq (r 17) (.cond (.tmp 89) (.seq (r 18) .ret) .skip)) (.seq (r 19) (.seq (.seq (r 20) (.block 2 (.loop b4_2))) (.seq (r 30) (.seq (r 31) (.seq (.seq (r 32) (.cond (.tmp 173) (.seq (r 33) .ret) .skip)) (.seq (.seq (r 34) (.block 4 (.loop b4_3))) (.seq (r 44) .ret))))))))))))))))))
theorem body4:Tryz.f4.body=some c4:=by kernel_rfl
noncomputable def b33_1:Code:=kR Tryz.f33 fun r=>(.seq (r 3) (.seq (.cond (.tmp 12) .skip (.exit 0)) (.seq (.block 1 (.seq (r 4) (.seq (r 5) (.seq (r 6) (.cond (.tmp 20) (r 7) .skip))))) (r 8))))
noncomputable def b33_2:Code:=kR Tryz.f33 fun r=>(.seq (r 11) (.seq (.cond (.tmp 28) .skip (.exit 2)) (.seq (.block 3 (.seq (r 12) (r 13))) (r 14))))
noncomputable def c33:Code:=kR Tryz.f33 fun r=>(.seq (r 0) (.seq (r 1) (.seq (.seq (r 2) (.block 0 (.loop b33_1))) (.seq (r 9) (.seq (.seq (r 10) (.block 2 (.loop b33_2))) (.seq (r 15) .ret))))))
theorem body33:Tryz.f33.body=some c33:=by kernel_rfl
noncomputable def c47:Code:=kR Tryz.f47 fun r=>(.seq (r 0) (.seq (.seq (r 1) (.cond (.tmp 4) (.seq (r 2) .ret) .skip)) (.seq (r 3) .ret)))
theorem body47:Tryz.f47.body=some c47:=by kernel_rfl
noncomputable def b57_1:Code:=kR Tryz.f57 fun r=>(.seq (.seq (r 4) (.cond (.tmp 22) .skip (.exit 0))) (.seq (.block 1 (.seq (r 6) (.seq (r 7) (r 8)))) (r 5)))
noncomputable def b57_2:Code:=kR Tryz.f57 fun r=>(.seq (r 11) (.seq (.cond (.tmp 35) .skip (.exit 2)) (.seq (.block 3 (.seq (r 12) (r 13))) (r 14))))
noncomputable def c57:Code:=kR Tryz.f57 fun r=>(.seq (r 0) (.seq (r 1) (.seq (r 2) (.seq (.seq (r 3) (.block 0 (.loop b57_1))) (.seq (r 9) (.seq (.seq (r 10) (.block 2 (.loop b57_2))) (.seq (r 15) .ret)))))))
theorem body57:Tryz.f57.body=some c57:=by kernel_rfl
noncomputable def c66:Code:=kR Tryz.f66 fun r=>(.seq (r 0) (.seq (.seq (r 1) (.cond (.tmp 4) (.seq (r 2) .ret) .skip)) (.seq (r 3) .ret)))
theorem body66:Tryz.f66.body=some c66:=by kernel_rfl
noncomputable def b90_3:Code:=kR Tryz.f90 fun r=>(.seq (r 19) (.seq (.cond (.tmp 94) .skip (.exit 4)) (.seq (.block 5 (.seq (r 20) (r 21))) (r 22))))
noncomputable def b90_2:Code:=kR Tryz.f90 fun r=>(.seq (.seq (r 9) (.cond (.tmp 34) .skip (.exit 2))) (.seq (.block 3 (.seq (r 11) (.seq (r 12) (.seq (.seq (r 13) (.cond (.tmp 63) (.exit 3) .skip)) (.seq (r 14) (.seq (r 15) (.seq (r 16) (.seq (r 17) (.seq (.seq (r 18) (.block 4 (.loop b90_3))) (.exit 2)))))))))) (r 10)))
noncomputable def b90_1:Code:=kR Tryz.f90 fun r=>(.seq (.seq (r 5) (.cond (.tmp 27) .skip (.exit 0))) (.seq (.block 1 (.seq (r 7) (.seq (r 8) (.block 2 (.loop b90_2))))) (r 6)))
noncomputable def c90:Code:=kR Tryz.f90 fun r=>(.seq (r 0) (.seq (r 1) (.seq (r 2) (.seq (r 3) (.seq (.seq (r 4) (.block 0 (.loop b90_1))) (.seq (r 23) .ret))))))
theorem body90:Tryz.f90.body=some c90:=by kernel_rfl
noncomputable def b113_1:Code:=kR Tryz.f113 fun r=>(.seq (.seq (r 4) (.cond (.tmp 38) .skip (.exit 0))) (.seq (.block 1 (.seq (r 6) (.seq (r 7) (r 8)))) (r 5)))
noncomputable def c113:Code:=kR Tryz.f113 fun r=>(.seq (r 0) (.seq (r 1) (.seq (r 2) (.seq (.seq (r 3) (.block 0 (.loop b113_1))) (.seq (r 9) .ret)))))
theorem body113:Tryz.f113.body=some c113:=by kernel_rfl
noncomputable def b153_1:Code:=kR Tryz.f153 fun r=>(.seq (r 4) (.seq (.cond (.tmp 16) .skip (.exit 0)) (.seq (.block 1 (.seq (r 5) (.seq (r 6) (.cond (.tmp 21) (.seq (r 7) .ret) .skip)))) (r 8))))
noncomputable def c153:Code:=kR Tryz.f153 fun r=>(.seq (r 0) (.seq (.seq (r 1) (.cond (.tmp 11) (.seq (r 2) .ret) .skip)) (.seq (.seq (r 3) (.block 0 (.loop b153_1))) (.seq (r 9) .ret))))
theorem body153:Tryz.f153.body=some c153:=by kernel_rfl
noncomputable def b157_1:Code:=kR Tryz.f157 fun r=>(.seq (r 3) (.seq (.cond (.tmp 10) .skip (.exit 0)) (.seq (.block 1 (.seq (r 4) (.seq (r 5) (.cond (.tmp 20) (r 6) .skip)))) (r 7))))
noncomputable def c157:Code:=kR Tryz.f157 fun r=>(.seq (r 0) (.seq (r 1) (.seq (.seq (r 2) (.block 0 (.loop b157_1))) (.seq (r 8) .ret))))
theorem body157:Tryz.f157.body=some c157:=by kernel_rfl
noncomputable def b176_1:Code:=kR Tryz.f176 fun r=>(.block 1 (.seq (r 2) (.seq (.seq (r 3) (.cond (.tmp 23) (.seq (r 4) .ret) .skip)) (.seq (.seq (r 5) (.cond (.tmp 29) (.seq (r 6) .ret) .skip)) (.seq (.seq (r 7) (.cond (.tmp 35) (.seq (r 8) (r 9)) .skip)) (.seq (r 10) (.seq (.seq (r 11) (.cond (.tmp 50) (.seq (r 12) (.seq (r 13) (r 14))) .skip)) (.seq (.seq (r 15) (.cond (.tmp 68) (.seq (r 16) (.cond (.tmp 72) .ret .skip)) .skip)) (.seq (.seq (r 17) (.cond (.tmp 87) (.seq (r 18) (.seq (r 19) (.exit 1))) .skip)) (.seq (r 20) (.seq (r 21) (.seq (r 22) (.seq (r 23) (.seq (r 24) (.cond (.tmp 113) (.seq (r 25) (.seq (r 26) (r 27))) (.seq (r 28) (.seq (r 29) (r 30))))))))))))))))))
noncomputable def c176:Code:=kR Tryz.f176 fun r=>(.seq (r 0) (.seq (r 1) (.block 0 (.loop b176_1))))
theorem body176:Tryz.f176.body=some c176:=by kernel_rfl
noncomputable def b190_1:Code:=kR Tryz.f190 fun r=>(.seq (r 2) (.seq (.cond (.tmp 7) .skip (.exit 0)) (.seq (.block 1 (.seq (r 3) (.seq (.seq (r 4) (.cond (.tmp 17) (.seq (r 5) .ret) .skip)) (.seq (r 6) (.cond (.tmp 26) (.seq (r 7) .ret) .skip))))) (r 8))))
noncomputable def c190:Code:=kR Tryz.f190 fun r=>(.seq (r 0) (.seq (.seq (r 1) (.block 0 (.loop b190_1))) (.seq (.block 2 (.seq (r 9) (.cond (.tmp 28) (.seq (r 10) .ret) (.seq (r 11) (.cond (.tmp 34) (.seq (r 12) .ret) .skip))))) (.seq (r 13) .ret))))
theorem body190:Tryz.f190.body=some c190:=by kernel_rfl
noncomputable def b202_2:Code:=kR Tryz.f202 fun r=>(.seq (.seq (r 4) (.cond (.tmp 30) .skip (.exit 2))) (.seq (.block 3 (r 6)) (r 5)))
noncomputable def b202_1:Code:=kR Tryz.f202 fun r=>(.seq (.seq (r 1) (.cond (.tmp 12) .skip (.exit 0))) (.seq (.block 1 (.seq (r 3) (.block 2 (.loop b202_2)))) (r 2)))
noncomputable def c202:Code:=(.seq (reg Tryz.f202 0) (.block 0 (.loop b202_1)))
theorem body202:Tryz.f202.body=some c202:=by kernel_rfl
noncomputable def c218:Code:=kR Tryz.f218 fun r=>(.seq (r 0) (.seq (r 1) (.seq (r 2) .ret)))
theorem body218:Tryz.f218.body=some c218:=by kernel_rfl
end Go.Proofs.YtbppknpnmjhjpaaGreatDoor
