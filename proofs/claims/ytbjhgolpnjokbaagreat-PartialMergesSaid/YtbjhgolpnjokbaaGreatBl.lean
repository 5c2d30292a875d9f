import Derived.Test.YtbjhgolpnjokbaaGreatProg
import Derived.Lib.Strings
import Derived.Lib.Slices
import Derived.Lib.Small
import Derived.Lib.Walk
import Derived.Lib.BitFns
import Derived.Shelf.Spec.BitsCarry
namespace Go.Proofs.YtbjhgolpnjokbaaGreat
theorem ZtS (x y b : Nat) (hb : b≤1) (w : World) : (callFunc 106 #[.int .u64 x,.int .u64 y,.int .u64 b]).run Tryz.prog w = .ok (.value (.tuple #[.int .u64 (((x + 18446744073709551616 - y - b) % 18446744073709551616 : Nat) : Int),.int .u64 ((if x < y + b then 1 else 0 : Nat) : Int)])) w:=by
  rw [run_callFunc_extern Tryz.func106 (by kernel_rfl) (by kernel_rfl) (by kernel_rfl) (e:=sub64Entry) (by kernel_rfl),run_sub64 x y b hb];rfl
end Go.Proofs.YtbjhgolpnjokbaaGreat
