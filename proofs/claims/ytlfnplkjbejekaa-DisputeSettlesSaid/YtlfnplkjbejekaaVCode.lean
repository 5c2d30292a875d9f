import Derived.Test.YtlfnplkjbejekaaVTt
namespace Go.Proofs.Ytlfnplkjbejekaa.V
open Go.Av
set_option maxRecDepth 1000000

noncomputable def c7 : Code := (.seq (reg Try.f7 0) (.seq (reg Try.f7 1) (.seq (reg Try.f7 2) (.seq (reg Try.f7 3) (.seq (reg Try.f7 4) (.seq (reg Try.f7 5) (.seq (reg Try.f7 6) (.seq (reg Try.f7 7) Code.ret))))))))
theorem body7 : Try.f7.body = some c7 := by kernel_rfl

noncomputable def c9 : Code := (.seq (reg Try.f9 0) (.seq (.seq (reg Try.f9 1) (.cond (Operand.tmp 17) (.seq (reg Try.f9 2) Code.ret) Code.skip)) (.seq (.seq (reg Try.f9 3) (.cond (Operand.tmp 22) (.seq (reg Try.f9 4) Code.ret) Code.skip)) (.seq (reg Try.f9 5) Code.ret))))
theorem body9 : Try.f9.body = some c9 := by kernel_rfl

noncomputable def c25 : Code := (.seq (reg Try.f25 0) (.seq (.seq (reg Try.f25 1) (.cond (Operand.tmp 4) (.seq (reg Try.f25 2) Code.ret) Code.skip)) (.seq (reg Try.f25 3) Code.ret)))
theorem body25 : Try.f25.body = some c25 := by kernel_rfl

end Go.Proofs.Ytlfnplkjbejekaa.V
