import Derived.Test.YtipochhfofhofaaDoorTt
namespace Go.Proofs.YtipochhfofhofaaDoor
open Go.Av
set_option maxRecDepth 1000000

noncomputable def c7 : Code := (.seq (reg Tryd.f7 0) (.seq (.seq (reg Tryd.f7 1) (.cond (Operand.tmp 8) (.seq (reg Tryd.f7 2) Code.ret) Code.skip)) (.seq (.seq (reg Tryd.f7 3) (.cond (Operand.tmp 17) (.seq (reg Tryd.f7 4) Code.ret) Code.skip)) (.seq (reg Tryd.f7 5) Code.ret))))
theorem body7 : Tryd.f7.body = some c7 := by kernel_rfl

noncomputable def c8 : Code := (.seq (reg Tryd.f8 0) (.seq (reg Tryd.f8 1) (.seq (reg Tryd.f8 2) (.seq (reg Tryd.f8 3) Code.ret))))
theorem body8 : Tryd.f8.body = some c8 := by kernel_rfl

noncomputable def c9 : Code := (.seq (reg Tryd.f9 0) (.seq (reg Tryd.f9 1) Code.ret))
theorem body9 : Tryd.f9.body = some c9 := by kernel_rfl

noncomputable def c11 : Code := (.seq (reg Tryd.f11 0) (.seq (.seq (reg Tryd.f11 1) (.cond (Operand.tmp 11) (.seq (reg Tryd.f11 2) Code.ret) Code.skip)) (.seq (.seq (reg Tryd.f11 3) (.cond (Operand.tmp 17) (.seq (reg Tryd.f11 4) Code.ret) Code.skip)) (.seq (reg Tryd.f11 5) (.seq (.seq (reg Tryd.f11 6) (.cond (Operand.tmp 26) (.seq (reg Tryd.f11 7) Code.ret) Code.skip)) (.seq (reg Tryd.f11 8) Code.ret))))))
theorem body11 : Tryd.f11.body = some c11 := by kernel_rfl

noncomputable def c13 : Code := (.seq (reg Tryd.f13 0) (.seq (reg Tryd.f13 1) Code.ret))
theorem body13 : Tryd.f13.body = some c13 := by kernel_rfl

noncomputable def c14 : Code := (.seq (reg Tryd.f14 0) (.seq (reg Tryd.f14 1) Code.ret))
theorem body14 : Tryd.f14.body = some c14 := by kernel_rfl

noncomputable def b16_1 : Code := (.seq (reg Tryd.f16 3) (.seq (.cond (Operand.tmp 11) Code.skip (Code.exit 0)) (.seq (.block 1 (.seq (reg Tryd.f16 4) (.seq (reg Tryd.f16 5) (reg Tryd.f16 6)))) (reg Tryd.f16 7))))
noncomputable def c16 : Code := (.seq (reg Tryd.f16 0) (.seq (reg Tryd.f16 1) (.seq (.seq (reg Tryd.f16 2) (.block 0 (.loop b16_1))) (.seq (reg Tryd.f16 8) Code.ret))))
theorem body16 : Tryd.f16.body = some c16 := by kernel_rfl

noncomputable def c21 : Code := (.seq (reg Tryd.f21 0) (.seq (reg Tryd.f21 1) Code.ret))
theorem body21 : Tryd.f21.body = some c21 := by kernel_rfl

noncomputable def c29 : Code := (.seq (reg Tryd.f29 0) (.seq (.seq (reg Tryd.f29 1) (.cond (Operand.tmp 11) (.seq (reg Tryd.f29 2) Code.ret) Code.skip)) (.seq (.seq (reg Tryd.f29 3) (.cond (Operand.tmp 20) (.seq (reg Tryd.f29 4) Code.ret) Code.skip)) (.seq (.seq (reg Tryd.f29 5) (.seq (reg Tryd.f29 6) (.cond (Operand.tmp 27) (.seq (reg Tryd.f29 7) Code.ret) Code.skip))) (.seq (.seq (reg Tryd.f29 8) (.cond (Operand.tmp 40) (.seq (reg Tryd.f29 9) Code.ret) Code.skip)) (.seq (reg Tryd.f29 10) Code.ret))))))
theorem body29 : Tryd.f29.body = some c29 := by kernel_rfl

noncomputable def c30 : Code := (.seq (reg Tryd.f30 0) (.seq (.seq (reg Tryd.f30 1) (.cond (Operand.tmp 12) (.seq (reg Tryd.f30 2) Code.ret) Code.skip)) (.seq (.seq (reg Tryd.f30 3) (.cond (Operand.tmp 21) (.seq (reg Tryd.f30 4) Code.ret) Code.skip)) (.seq (.seq (reg Tryd.f30 5) (.seq (reg Tryd.f30 6) (.cond (Operand.tmp 28) (.seq (reg Tryd.f30 7) Code.ret) Code.skip))) (.seq (reg Tryd.f30 8) (.seq (.seq (reg Tryd.f30 9) (.cond (Operand.tmp 31) (reg Tryd.f30 10) Code.skip)) (.seq (.seq (reg Tryd.f30 11) (.cond (Operand.tmp 47) (.seq (reg Tryd.f30 12) Code.ret) Code.skip)) (.seq (reg Tryd.f30 13) Code.ret))))))))
theorem body30 : Tryd.f30.body = some c30 := by kernel_rfl

noncomputable def c31 : Code := (.seq (reg Tryd.f31 0) (.seq (reg Tryd.f31 1) Code.ret))
theorem body31 : Tryd.f31.body = some c31 := by kernel_rfl

noncomputable def b32_1 : Code := (.seq (reg Tryd.f32 3) (.seq (.cond (Operand.tmp 9) Code.skip (Code.exit 0)) (.seq (.block 1 (.seq (reg Tryd.f32 4) (reg Tryd.f32 5))) (reg Tryd.f32 6))))
noncomputable def c32 : Code := (.seq (reg Tryd.f32 0) (.seq (reg Tryd.f32 1) (.seq (.seq (reg Tryd.f32 2) (.block 0 (.loop b32_1))) (.seq (reg Tryd.f32 7) Code.ret))))
theorem body32 : Tryd.f32.body = some c32 := by kernel_rfl

noncomputable def c33 : Code := (.seq (reg Tryd.f33 0) (.seq (.seq (reg Tryd.f33 1) (.cond (Operand.tmp 6) (.seq (reg Tryd.f33 2) Code.ret) Code.skip)) (.seq (reg Tryd.f33 3) Code.ret)))
theorem body33 : Tryd.f33.body = some c33 := by kernel_rfl

noncomputable def c35 : Code := (.seq (reg Tryd.f35 0) (.seq (reg Tryd.f35 1) Code.ret))
theorem body35 : Tryd.f35.body = some c35 := by kernel_rfl

noncomputable def b36_1 : Code := (.seq (reg Tryd.f36 2) (.seq (.cond (Operand.tmp 12) Code.skip (Code.exit 0)) (.seq (.block 1 (.seq (reg Tryd.f36 3) (.seq (reg Tryd.f36 4) (.cond (Operand.tmp 34) (.seq (reg Tryd.f36 5) Code.ret) Code.skip)))) (reg Tryd.f36 6))))
noncomputable def c36 : Code := (.seq (reg Tryd.f36 0) (.seq (.seq (reg Tryd.f36 1) (.block 0 (.loop b36_1))) (.seq (reg Tryd.f36 7) Code.ret)))
theorem body36 : Tryd.f36.body = some c36 := by kernel_rfl

noncomputable def c37 : Code := (.seq (reg Tryd.f37 0) (.seq (.seq (reg Tryd.f37 1) (.cond (Operand.tmp 17) (.seq (reg Tryd.f37 2) Code.ret) Code.skip)) (.seq (reg Tryd.f37 3) Code.ret)))
theorem body37 : Tryd.f37.body = some c37 := by kernel_rfl

noncomputable def c38 : Code := (.seq (reg Tryd.f38 0) (.seq (reg Tryd.f38 1) (.seq (.seq (reg Tryd.f38 2) (.cond (Operand.tmp 11) (.seq (reg Tryd.f38 3) Code.ret) Code.skip)) (.seq (reg Tryd.f38 4) Code.ret))))
theorem body38 : Tryd.f38.body = some c38 := by kernel_rfl

noncomputable def c39 : Code := (.seq (reg Tryd.f39 0) (.seq (.seq (reg Tryd.f39 1) (.cond (Operand.tmp 17) (.seq (reg Tryd.f39 2) Code.ret) Code.skip)) (.seq (reg Tryd.f39 3) Code.ret)))
theorem body39 : Tryd.f39.body = some c39 := by kernel_rfl

noncomputable def c40 : Code := (.seq (reg Tryd.f40 0) (.seq (reg Tryd.f40 1) (.seq (.seq (reg Tryd.f40 2) (.cond (Operand.tmp 11) (.seq (reg Tryd.f40 3) Code.ret) Code.skip)) (.seq (reg Tryd.f40 4) Code.ret))))
theorem body40 : Tryd.f40.body = some c40 := by kernel_rfl

noncomputable def c41 : Code := (.seq (reg Tryd.f41 0) (.seq (reg Tryd.f41 1) (.seq (reg Tryd.f41 2) Code.ret)))
theorem body41 : Tryd.f41.body = some c41 := by kernel_rfl

noncomputable def b42_1 : Code := (.seq (reg Tryd.f42 3) (.seq (.cond (Operand.tmp 12) Code.skip (Code.exit 0)) (.seq (.block 1 (.seq (reg Tryd.f42 4) (.seq (reg Tryd.f42 5) (.seq (reg Tryd.f42 6) (.cond (Operand.tmp 20) (reg Tryd.f42 7) Code.skip))))) (reg Tryd.f42 8))))
noncomputable def b42_2 : Code := (.seq (reg Tryd.f42 11) (.seq (.cond (Operand.tmp 28) Code.skip (Code.exit 2)) (.seq (.block 3 (.seq (reg Tryd.f42 12) (reg Tryd.f42 13))) (reg Tryd.f42 14))))
noncomputable def c42 : Code := (.seq (reg Tryd.f42 0) (.seq (reg Tryd.f42 1) (.seq (.seq (reg Tryd.f42 2) (.block 0 (.loop b42_1))) (.seq (reg Tryd.f42 9) (.seq (.seq (reg Tryd.f42 10) (.block 2 (.loop b42_2))) (.seq (reg Tryd.f42 15) Code.ret))))))
theorem body42 : Tryd.f42.body = some c42 := by kernel_rfl

noncomputable def c43 : Code := (.seq (reg Tryd.f43 0) (.seq (reg Tryd.f43 1) (.seq (reg Tryd.f43 2) Code.ret)))
theorem body43 : Tryd.f43.body = some c43 := by kernel_rfl

noncomputable def b44_1 : Code := (.seq (reg Tryd.f44 3) (.seq (.cond (Operand.tmp 9) Code.skip (Code.exit 0)) (.seq (.block 1 (.seq (reg Tryd.f44 4) (reg Tryd.f44 5))) (reg Tryd.f44 6))))
noncomputable def c44 : Code := (.seq (reg Tryd.f44 0) (.seq (reg Tryd.f44 1) (.seq (.seq (reg Tryd.f44 2) (.block 0 (.loop b44_1))) (.seq (reg Tryd.f44 7) Code.ret))))
theorem body44 : Tryd.f44.body = some c44 := by kernel_rfl

noncomputable def c45 : Code := (.seq (reg Tryd.f45 0) (.seq (reg Tryd.f45 1) Code.ret))
theorem body45 : Tryd.f45.body = some c45 := by kernel_rfl

noncomputable def c46 : Code := (.seq (reg Tryd.f46 0) (.seq (.block 0 (.seq (reg Tryd.f46 1) (.cond (Operand.tmp 5) (.seq (reg Tryd.f46 2) Code.ret) (.seq (reg Tryd.f46 3) (.cond (Operand.tmp 13) (.seq (reg Tryd.f46 4) Code.ret) (.seq (reg Tryd.f46 5) (.cond (Operand.tmp 22) (.seq (reg Tryd.f46 6) Code.ret) Code.skip))))))) (.seq (reg Tryd.f46 7) Code.ret)))
theorem body46 : Tryd.f46.body = some c46 := by kernel_rfl

noncomputable def c47 : Code := (.seq (reg Tryd.f47 0) (.seq (reg Tryd.f47 1) Code.ret))
theorem body47 : Tryd.f47.body = some c47 := by kernel_rfl

noncomputable def c48 : Code := (.seq (reg Tryd.f48 0) (.seq (.block 0 (.seq (reg Tryd.f48 1) (.cond (Operand.tmp 5) (.seq (reg Tryd.f48 2) Code.ret) (.seq (reg Tryd.f48 3) (.cond (Operand.tmp 12) (.seq (reg Tryd.f48 4) Code.ret) (.seq (reg Tryd.f48 5) (.cond (Operand.tmp 21) (.seq (reg Tryd.f48 6) Code.ret) Code.skip))))))) (.seq (reg Tryd.f48 7) Code.ret)))
theorem body48 : Tryd.f48.body = some c48 := by kernel_rfl

noncomputable def b49_1 : Code := (.seq (reg Tryd.f49 4) (.seq (.cond (Operand.tmp 20) Code.skip (Code.exit 0)) (.seq (.block 1 (.seq (reg Tryd.f49 5) (reg Tryd.f49 6))) (reg Tryd.f49 7))))
noncomputable def b49_2 : Code := (.seq (reg Tryd.f49 10) (.seq (.cond (Operand.tmp 32) Code.skip (Code.exit 2)) (.seq (.block 3 (.seq (reg Tryd.f49 11) (reg Tryd.f49 12))) (reg Tryd.f49 13))))
noncomputable def c49 : Code := (.seq (reg Tryd.f49 0) (.seq (reg Tryd.f49 1) (.seq (reg Tryd.f49 2) (.seq (.seq (reg Tryd.f49 3) (.block 0 (.loop b49_1))) (.seq (reg Tryd.f49 8) (.seq (.seq (reg Tryd.f49 9) (.block 2 (.loop b49_2))) (.seq (reg Tryd.f49 14) Code.ret)))))))
theorem body49 : Tryd.f49.body = some c49 := by kernel_rfl

noncomputable def c50 : Code := (.seq (reg Tryd.f50 0) (.seq (.seq (reg Tryd.f50 1) (.cond (Operand.tmp 6) (reg Tryd.f50 2) Code.skip)) (.seq (.seq (reg Tryd.f50 3) (.seq (reg Tryd.f50 4) (.cond (Operand.tmp 16) (reg Tryd.f50 5) Code.skip))) (.seq (reg Tryd.f50 6) Code.ret))))
theorem body50 : Tryd.f50.body = some c50 := by kernel_rfl

noncomputable def b51_1 : Code := (.seq (.seq (reg Tryd.f51 4) (.cond (Operand.tmp 22) Code.skip (Code.exit 0))) (.seq (.block 1 (.seq (reg Tryd.f51 6) (.seq (reg Tryd.f51 7) (reg Tryd.f51 8)))) (reg Tryd.f51 5)))
noncomputable def b51_2 : Code := (.seq (reg Tryd.f51 11) (.seq (.cond (Operand.tmp 35) Code.skip (Code.exit 2)) (.seq (.block 3 (.seq (reg Tryd.f51 12) (reg Tryd.f51 13))) (reg Tryd.f51 14))))
noncomputable def c51 : Code := (.seq (reg Tryd.f51 0) (.seq (reg Tryd.f51 1) (.seq (reg Tryd.f51 2) (.seq (.seq (reg Tryd.f51 3) (.block 0 (.loop b51_1))) (.seq (reg Tryd.f51 9) (.seq (.seq (reg Tryd.f51 10) (.block 2 (.loop b51_2))) (.seq (reg Tryd.f51 15) Code.ret)))))))
theorem body51 : Tryd.f51.body = some c51 := by kernel_rfl

noncomputable def c52 : Code := (.seq (reg Tryd.f52 0) (.seq (reg Tryd.f52 1) (.seq (reg Tryd.f52 2) Code.ret)))
theorem body52 : Tryd.f52.body = some c52 := by kernel_rfl

noncomputable def c53 : Code := (.seq (reg Tryd.f53 0) (.seq (reg Tryd.f53 1) (.seq (reg Tryd.f53 2) (.seq (reg Tryd.f53 3) Code.ret))))
theorem body53 : Tryd.f53.body = some c53 := by kernel_rfl

noncomputable def c54 : Code := (.seq (reg Tryd.f54 0) (.seq (reg Tryd.f54 1) Code.ret))
theorem body54 : Tryd.f54.body = some c54 := by kernel_rfl

noncomputable def c55 : Code := (.seq (reg Tryd.f55 0) (.seq (reg Tryd.f55 1) Code.ret))
theorem body55 : Tryd.f55.body = some c55 := by kernel_rfl

noncomputable def c56 : Code := (.seq (reg Tryd.f56 0) (.seq (reg Tryd.f56 1) Code.ret))
theorem body56 : Tryd.f56.body = some c56 := by kernel_rfl

noncomputable def b57_1 : Code := (.seq (reg Tryd.f57 3) (.seq (.cond (Operand.tmp 12) Code.skip (Code.exit 0)) (.seq (.block 1 (.seq (reg Tryd.f57 4) (reg Tryd.f57 5))) (reg Tryd.f57 6))))
noncomputable def c57 : Code := (.seq (reg Tryd.f57 0) (.seq (reg Tryd.f57 1) (.seq (.seq (reg Tryd.f57 2) (.block 0 (.loop b57_1))) (.seq (reg Tryd.f57 7) Code.ret))))
theorem body57 : Tryd.f57.body = some c57 := by kernel_rfl

noncomputable def b58_1 : Code := (.seq (reg Tryd.f58 3) (.seq (.cond (Operand.tmp 9) Code.skip (Code.exit 0)) (.seq (.block 1 (.seq (reg Tryd.f58 4) (reg Tryd.f58 5))) (reg Tryd.f58 6))))
noncomputable def c58 : Code := (.seq (reg Tryd.f58 0) (.seq (reg Tryd.f58 1) (.seq (.seq (reg Tryd.f58 2) (.block 0 (.loop b58_1))) (.seq (reg Tryd.f58 7) Code.ret))))
theorem body58 : Tryd.f58.body = some c58 := by kernel_rfl

noncomputable def b59_1 : Code := (.seq (reg Tryd.f59 5) (.seq (.cond (Operand.tmp 19) Code.skip (Code.exit 0)) (.seq (.block 1 (.seq (reg Tryd.f59 6) (reg Tryd.f59 7))) (reg Tryd.f59 8))))
noncomputable def c59 : Code := (.seq (reg Tryd.f59 0) (.seq (reg Tryd.f59 1) (.seq (reg Tryd.f59 2) (.seq (reg Tryd.f59 3) (.seq (.seq (reg Tryd.f59 4) (.block 0 (.loop b59_1))) (.seq (reg Tryd.f59 9) Code.ret))))))
theorem body59 : Tryd.f59.body = some c59 := by kernel_rfl

noncomputable def b60_1 : Code := (.seq (reg Tryd.f60 5) (.seq (.cond (Operand.tmp 36) Code.skip (Code.exit 0)) (.seq (.block 1 (.seq (reg Tryd.f60 6) (.seq (reg Tryd.f60 7) (.seq (reg Tryd.f60 8) (reg Tryd.f60 9))))) (reg Tryd.f60 10))))
noncomputable def c60 : Code := (.seq (reg Tryd.f60 0) (.seq (reg Tryd.f60 1) (.seq (reg Tryd.f60 2) (.seq (reg Tryd.f60 3) (.seq (.seq (reg Tryd.f60 4) (.block 0 (.loop b60_1))) (.seq (reg Tryd.f60 11) Code.ret))))))
theorem body60 : Tryd.f60.body = some c60 := by kernel_rfl

noncomputable def b61_1 : Code := (.seq (.seq (reg Tryd.f61 2) (.cond (Operand.tmp 13) Code.skip (Code.exit 0))) (.block 1 (reg Tryd.f61 3)))
noncomputable def b61_2 : Code := (.seq (.seq (reg Tryd.f61 5) (.cond (Operand.tmp 18) Code.skip (Code.exit 2))) (.seq (.block 3 (reg Tryd.f61 7)) (reg Tryd.f61 6)))
noncomputable def c61 : Code := (.seq (reg Tryd.f61 0) (.seq (reg Tryd.f61 1) (.seq (.block 0 (.loop b61_1)) (.seq (.seq (reg Tryd.f61 4) (.block 2 (.loop b61_2))) (.seq (reg Tryd.f61 8) Code.ret)))))
theorem body61 : Tryd.f61.body = some c61 := by kernel_rfl

noncomputable def c62 : Code := (.seq (reg Tryd.f62 0) (.seq (reg Tryd.f62 1) Code.ret))
theorem body62 : Tryd.f62.body = some c62 := by kernel_rfl

noncomputable def b63_1 : Code := (.seq (.seq (reg Tryd.f63 4) (.cond (Operand.tmp 38) Code.skip (Code.exit 0))) (.seq (.block 1 (.seq (reg Tryd.f63 6) (.seq (reg Tryd.f63 7) (reg Tryd.f63 8)))) (reg Tryd.f63 5)))
noncomputable def c63 : Code := (.seq (reg Tryd.f63 0) (.seq (reg Tryd.f63 1) (.seq (reg Tryd.f63 2) (.seq (.seq (reg Tryd.f63 3) (.block 0 (.loop b63_1))) (.seq (reg Tryd.f63 9) Code.ret)))))
theorem body63 : Tryd.f63.body = some c63 := by kernel_rfl

noncomputable def b64_1 : Code := (.seq (reg Tryd.f64 3) (.seq (.cond (Operand.tmp 11) Code.skip (Code.exit 0)) (.seq (.block 1 (.seq (reg Tryd.f64 4) (reg Tryd.f64 5))) (reg Tryd.f64 6))))
noncomputable def c64 : Code := (.seq (reg Tryd.f64 0) (.seq (reg Tryd.f64 1) (.seq (.seq (reg Tryd.f64 2) (.block 0 (.loop b64_1))) (.seq (reg Tryd.f64 7) Code.ret))))
theorem body64 : Tryd.f64.body = some c64 := by kernel_rfl

noncomputable def b65_2 : Code := (.seq (reg Tryd.f65 6) (.seq (.cond (Operand.tmp 13) Code.skip (Code.exit 2)) (.seq (.block 3 (.seq (reg Tryd.f65 7) (reg Tryd.f65 8))) (reg Tryd.f65 9))))
noncomputable def b65_1 : Code := (.seq (reg Tryd.f65 3) (.seq (.cond (Operand.tmp 10) Code.skip (Code.exit 0)) (.seq (.block 1 (.seq (reg Tryd.f65 4) (.seq (reg Tryd.f65 5) (.block 2 (.loop b65_2))))) (reg Tryd.f65 10))))
noncomputable def b65_3 : Code := (.seq (.seq (reg Tryd.f65 12) (.cond (Operand.tmp 32) Code.skip (Code.exit 4))) (.seq (.block 5 (.seq (reg Tryd.f65 14) (.seq (reg Tryd.f65 15) (reg Tryd.f65 16)))) (reg Tryd.f65 13)))
noncomputable def c65 : Code := (.seq (reg Tryd.f65 0) (.seq (reg Tryd.f65 1) (.seq (.seq (reg Tryd.f65 2) (.block 0 (.loop b65_1))) (.seq (.seq (reg Tryd.f65 11) (.block 4 (.loop b65_3))) (.seq (reg Tryd.f65 17) Code.ret)))))
theorem body65 : Tryd.f65.body = some c65 := by kernel_rfl

noncomputable def c66 : Code := (.seq (reg Tryd.f66 0) (.seq (reg Tryd.f66 1) Code.ret))
theorem body66 : Tryd.f66.body = some c66 := by kernel_rfl

noncomputable def b67_1 : Code := (.seq (.seq (reg Tryd.f67 3) (.cond (Operand.tmp 9) Code.skip (Code.exit 0))) (.seq (.block 1 (reg Tryd.f67 5)) (reg Tryd.f67 4)))
noncomputable def b67_2 : Code := (.seq (.seq (reg Tryd.f67 7) (.cond (Operand.tmp 44) Code.skip (Code.exit 2))) (.seq (.block 3 (.seq (reg Tryd.f67 9) (.seq (reg Tryd.f67 10) (reg Tryd.f67 11)))) (reg Tryd.f67 8)))
noncomputable def c67 : Code := (.seq (reg Tryd.f67 0) (.seq (reg Tryd.f67 1) (.seq (.seq (reg Tryd.f67 2) (.block 0 (.loop b67_1))) (.seq (.seq (reg Tryd.f67 6) (.block 2 (.loop b67_2))) (.seq (reg Tryd.f67 12) Code.ret)))))
theorem body67 : Tryd.f67.body = some c67 := by kernel_rfl

noncomputable def c68 : Code := (.seq (reg Tryd.f68 0) (.seq (reg Tryd.f68 1) Code.ret))
theorem body68 : Tryd.f68.body = some c68 := by kernel_rfl

noncomputable def c69 : Code := (.seq (reg Tryd.f69 0) (.seq (reg Tryd.f69 1) Code.ret))
theorem body69 : Tryd.f69.body = some c69 := by kernel_rfl

noncomputable def c70 : Code := (.seq (reg Tryd.f70 0) (.seq (reg Tryd.f70 1) (.seq (reg Tryd.f70 2) Code.ret)))
theorem body70 : Tryd.f70.body = some c70 := by kernel_rfl

end Go.Proofs.YtipochhfofhofaaDoor
