import Derived.Test.YtcfpmbefhfbdjaaGreatDoorTt
namespace Go.Proofs.YtcfpmbefhfbdjaaGreatDoor
open Go.Av
set_option maxRecDepth 1000000
abbrev kR (fn:Func) (F:(Nat→Code)→Code):Code:=F (reg fn)
noncomputable def b4_1:Code:=kR Tryz.f4 fun r=>(.seq (r 15) (.seq (.cond (.tmp 104) .skip (.exit 0)) (.seq (.block 1 (.seq (r 16) (r 17))) (r 18))))
noncomputable def c4:Code:=kR Tryz.f4 fun r=>(.seq (r 0) (.seq (.seq (r 1) (.cond (.tmp 30) (.seq (r 2) .ret) .skip)) (.seq (r 3) (.seq (.seq (r 4) (.cond (.tmp 52) (.seq (r 5) .ret) .skip)) (.seq (r 6) (.seq (r 7) (.seq (.seq (r 8) (.cond (.tmp 80) (.seq (r 9) .ret) .skip)) (.seq (r 10) (.seq (r 11) (.seq (r 12) (.seq (r 13) (.seq (.seq (r 14) (.block 0 (.loop b4_1))) (.seq (r 19) (.seq (r 20) (.seq (r 21) .ret)))))))))))))))
theorem body4:Tryz.f4.body=some c4:=by kernel_rfl
noncomputable def b25_1:Code:=kR Tryz.f25 fun r=>(.seq (r 3) (.seq (.cond (.tmp 12) .skip (.exit 0)) (.seq (.block 1 (.seq (r 4) (.seq (r 5) (.seq (r 6) (.cond (.tmp 20) (r 7) .skip))))) (r 8))))
noncomputable def b25_2:Code:=kR Tryz.f25 fun r=>(.seq (r 11) (.seq (.cond (.tmp 28) .skip (.exit 2)) (.seq (.block 3 (.seq (r 12) (r 13))) (r 14))))
noncomputable def c25:Code:=kR Tryz.f25 fun r=>(.seq (r 0) (.seq (r 1) (.seq (.seq (r 2) (.block 0 (.loop b25_1))) (.seq (r 9) (.seq (.seq (r 10) (.block 2 (.loop b25_2))) (.seq (r 15) .ret))))))
theorem body25:Tryz.f25.body=some c25:=by kernel_rfl
noncomputable def c55:Code:=kR Tryz.f55 fun r=>(.seq (r 0) (.seq (.seq (r 1) (.cond (.tmp 4) (.seq (r 2) .ret) .skip)) (.seq (r 3) .ret)))
theorem body55:Tryz.f55.body=some c55:=by kernel_rfl
noncomputable def b58_1:Code:=kR Tryz.f58 fun r=>(.seq (.seq (r 4) (.cond (.tmp 22) .skip (.exit 0))) (.seq (.block 1 (.seq (r 6) (.seq (r 7) (r 8)))) (r 5)))
noncomputable def b58_2:Code:=kR Tryz.f58 fun r=>(.seq (r 11) (.seq (.cond (.tmp 35) .skip (.exit 2)) (.seq (.block 3 (.seq (r 12) (r 13))) (r 14))))
noncomputable def c58:Code:=kR Tryz.f58 fun r=>(.seq (r 0) (.seq (r 1) (.seq (r 2) (.seq (.seq (r 3) (.block 0 (.loop b58_1))) (.seq (r 9) (.seq (.seq (r 10) (.block 2 (.loop b58_2))) (.seq (r 15) .ret)))))))
theorem body58:Tryz.f58.body=some c58:=by kernel_rfl
noncomputable def b68_3:Code:=kR Tryz.f68 fun r=>(.seq (r 19) (.seq (.cond (.tmp 94) .skip (.exit 4)) (.seq (.block 5 (.seq (r 20) (r 21))) (r 22))))
noncomputable def b68_2:Code:=kR Tryz.f68 fun r=>(.seq (.seq (r 9) (.cond (.tmp 34) .skip (.exit 2))) (.seq (.block 3 (.seq (r 11) (.seq (r 12) (.seq (.seq (r 13) (.cond (.tmp 63) (.exit 3) .skip)) (.seq (r 14) (.seq (r 15) (.seq (r 16) (.seq (r 17) (.seq (.seq (r 18) (.block 4 (.loop b68_3))) (.exit 2)))))))))) (r 10)))
noncomputable def b68_1:Code:=kR Tryz.f68 fun r=>(.seq (.seq (r 5) (.cond (.tmp 27) .skip (.exit 0))) (.seq (.block 1 (.seq (r 7) (.seq (r 8) (.block 2 (.loop b68_2))))) (r 6)))
noncomputable def c68:Code:=kR Tryz.f68 fun r=>(.seq (r 0) (.seq (r 1) (.seq (r 2) (.seq (r 3) (.seq (.seq (r 4) (.block 0 (.loop b68_1))) (.seq (r 23) .ret))))))
theorem body68:Tryz.f68.body=some c68:=by kernel_rfl
noncomputable def b101_1:Code:=kR Tryz.f101 fun r=>(.seq (.seq (r 4) (.cond (.tmp 38) .skip (.exit 0))) (.seq (.block 1 (.seq (r 6) (.seq (r 7) (r 8)))) (r 5)))
noncomputable def c101:Code:=kR Tryz.f101 fun r=>(.seq (r 0) (.seq (r 1) (.seq (r 2) (.seq (.seq (r 3) (.block 0 (.loop b101_1))) (.seq (r 9) .ret)))))
theorem body101:Tryz.f101.body=some c101:=by kernel_rfl
noncomputable def b114_1:Code:=kR Tryz.f114 fun r=>(.seq (r 4) (.seq (.cond (.tmp 16) .skip (.exit 0)) (.seq (.block 1 (.seq (r 5) (.seq (r 6) (.cond (.tmp 21) (.seq (r 7) .ret) .skip)))) (r 8))))
noncomputable def c114:Code:=kR Tryz.f114 fun r=>(.seq (r 0) (.seq (.seq (r 1) (.cond (.tmp 11) (.seq (r 2) .ret) .skip)) (.seq (.seq (r 3) (.block 0 (.loop b114_1))) (.seq (r 9) .ret))))
theorem body114:Tryz.f114.body=some c114:=by kernel_rfl
noncomputable def b119_1:Code:=kR Tryz.f119 fun r=>(.seq (r 3) (.seq (.cond (.tmp 10) .skip (.exit 0)) (.seq (.block 1 (.seq (r 4) (.seq (r 5) (.cond (.tmp 20) (r 6) .skip)))) (r 7))))
noncomputable def c119:Code:=kR Tryz.f119 fun r=>(.seq (r 0) (.seq (r 1) (.seq (.seq (r 2) (.block 0 (.loop b119_1))) (.seq (r 8) .ret))))
theorem body119:Tryz.f119.body=some c119:=by kernel_rfl
noncomputable def b134_1:Code:=kR Tryz.f134 fun r=>(.block 1 (.seq (r 2) (.seq (.seq (r 3) (.cond (.tmp 23) (.seq (r 4) .ret) .skip)) (.seq (.seq (r 5) (.cond (.tmp 29) (.seq (r 6) .ret) .skip)) (.seq (.seq (r 7) (.cond (.tmp 35) (.seq (r 8) (r 9)) .skip)) (.seq (r 10) (.seq (.seq (r 11) (.cond (.tmp 50) (.seq (r 12) (.seq (r 13) (r 14))) .skip)) (.seq (.seq (r 15) (.cond (.tmp 68) (.seq (r 16) (.cond (.tmp 72) .ret .skip)) .skip)) (.seq (.seq (r 17) (.cond (.tmp 87) (.seq (r 18) (.seq (r 19) (.exit 1))) .skip)) (.seq (r 20) (.seq (r 21) (.seq (r 22) (.seq (r 23) (.seq (r 24) (.cond (.tmp 113) (.seq (r 25) (.seq (r 26) (r 27))) (.seq (r 28) (.seq (r 29) (r 30))))))))))))))))))
noncomputable def c134:Code:=kR Tryz.f134 fun r=>(.seq (r 0) (.seq (r 1) (.block 0 (.loop b134_1))))
theorem body134:Tryz.f134.body=some c134:=by kernel_rfl
noncomputable def b144_1:Code:=kR Tryz.f144 fun r=>(.seq (r 2) (.seq (.cond (.tmp 7) .skip (.exit 0)) (.seq (.block 1 (.seq (r 3) (.seq (.seq (r 4) (.cond (.tmp 17) (.seq (r 5) .ret) .skip)) (.seq (r 6) (.cond (.tmp 26) (.seq (r 7) .ret) .skip))))) (r 8))))
noncomputable def c144:Code:=kR Tryz.f144 fun r=>(.seq (r 0) (.seq (.seq (r 1) (.block 0 (.loop b144_1))) (.seq (.block 2 (.seq (r 9) (.cond (.tmp 28) (.seq (r 10) .ret) (.seq (r 11) (.cond (.tmp 34) (.seq (r 12) .ret) .skip))))) (.seq (r 13) .ret))))
theorem body144:Tryz.f144.body=some c144:=by kernel_rfl
noncomputable def b162_2:Code:=kR Tryz.f162 fun r=>(.seq (.seq (r 4) (.cond (.tmp 30) .skip (.exit 2))) (.seq (.block 3 (r 6)) (r 5)))
noncomputable def b162_1:Code:=kR Tryz.f162 fun r=>(.seq (.seq (r 1) (.cond (.tmp 12) .skip (.exit 0))) (.seq (.block 1 (.seq (r 3) (.block 2 (.loop b162_2)))) (r 2)))
noncomputable def c162:Code:=(.seq (reg Tryz.f162 0) (.block 0 (.loop b162_1)))
theorem body162:Tryz.f162.body=some c162:=by kernel_rfl
noncomputable def c178:Code:=kR Tryz.f178 fun r=>(.seq (r 0) (.seq (r 1) (.seq (r 2) .ret)))
theorem body178:Tryz.f178.body=some c178:=by kernel_rfl
end Go.Proofs.YtcfpmbefhfbdjaaGreatDoor
