import Derived.Test.YtlfnplkjbejekaaAvP4
import Derived.Test.YtlfnplkjbejekaaProg
namespace Go.Proofs.Ytlfnplkjbejekaa.V
open Go.Av
set_option maxRecDepth 1000000

def ti2 : TI := ⟨1, TK.int IntKind.i64, [Zc.int IntKind.i64], 8, true⟩
def ti3 : TI := ⟨1, TK.int IntKind.i64, [Zc.int IntKind.i64], 8, true⟩
def ti4 : TI := ⟨1, TK.bool, [Zc.bool], 1, false⟩
def ti5 : TI := ⟨1, TK.int IntKind.u8, [Zc.int IntKind.u8], 1, true⟩
def ti6 : TI := ⟨1, TK.int IntKind.u8, [Zc.int IntKind.u8], 1, true⟩
def ti7 : TI := ⟨4, TK.struct [(0, 2), (1, 3), (2, 4), (3, 6)], [Zc.int IntKind.i64, Zc.int IntKind.i64, Zc.bool, Zc.int IntKind.u8], 24, false⟩
def ti8 : TI := ⟨4, TK.struct [(0, 2), (1, 3), (2, 4), (3, 6)], [Zc.int IntKind.i64, Zc.int IntKind.i64, Zc.bool, Zc.int IntKind.u8], 24, false⟩
def ti9 : TI := ⟨1, TK.str, [Zc.str], 16, false⟩
def ti10 : TI := ⟨1, TK.str, [Zc.str], 16, false⟩
def ti11 : TI := ⟨1, TK.str, [Zc.str], 16, false⟩
def ti12 : TI := ⟨1, TK.int IntKind.u64, [Zc.int IntKind.u64], 8, true⟩
def ti13 : TI := ⟨2, TK.struct [(0, 9), (1, 12)], [Zc.str, Zc.int IntKind.u64], 24, false⟩
def ti14 : TI := ⟨2, TK.struct [(0, 9), (1, 12)], [Zc.str, Zc.int IntKind.u64], 24, false⟩
def ti21 : TI := ⟨1, TK.int IntKind.i32, [Zc.int IntKind.i32], 4, true⟩
def ti22 : TI := ⟨32, TK.array 32 5, List.replicate 32 (Zc.int IntKind.u8), 32, true⟩
def ti23 : TI := ⟨32, TK.array 32 5, List.replicate 32 (Zc.int IntKind.u8), 32, true⟩
def ti24 : TI := ⟨1, TK.slice 45, [Zc.nil], 24, false⟩
def ti25 : TI := ⟨35, TK.struct [(0, 3), (1, 3), (2, 23), (34, 24)], [Zc.int IntKind.i64, Zc.int IntKind.i64] ++ (List.replicate 32 (Zc.int IntKind.u8) ++ ([Zc.nil])), 72, false⟩
def ti26 : TI := ⟨35, TK.struct [(0, 3), (1, 3), (2, 23), (34, 24)], [Zc.int IntKind.i64, Zc.int IntKind.i64] ++ (List.replicate 32 (Zc.int IntKind.u8) ++ ([Zc.nil])), 72, false⟩
def ti29 : TI := ⟨1, TK.int IntKind.i64, [Zc.int IntKind.i64], 8, true⟩
def ti33 : TI := ⟨1, TK.slice 26, [Zc.nil], 24, false⟩
def ti39 : TI := ⟨1, TK.slice 3, [Zc.nil], 24, false⟩
def ti44 : TI := ⟨33, TK.struct [(0, 3), (1, 23)], [Zc.int IntKind.i64] ++ (List.replicate 32 (Zc.int IntKind.u8)), 40, true⟩
def ti45 : TI := ⟨33, TK.struct [(0, 3), (1, 23)], [Zc.int IntKind.i64] ++ (List.replicate 32 (Zc.int IntKind.u8)), 40, true⟩
def ti51 : TI := ⟨1, TK.int IntKind.u64, [Zc.int IntKind.u64], 8, true⟩
def ti53 : TI := ⟨1, TK.int IntKind.u64, [Zc.int IntKind.u64], 8, true⟩
def ti57 : TI := ⟨0, TK.array 0 16, [], 0, false⟩
def ti58 : TI := ⟨0, TK.struct [(0, 57)], [], 0, false⟩
def ti59 : TI := ⟨0, TK.struct [(0, 57)], [], 0, false⟩
def ti61 : TI := ⟨1, TK.int IntKind.u32, [Zc.int IntKind.u32], 4, true⟩
def ti62 : TI := ⟨1, TK.int IntKind.u8, [Zc.int IntKind.u8], 1, true⟩
def ti63 : TI := ⟨1, TK.int IntKind.u8, [Zc.int IntKind.u8], 1, true⟩
def ti66 : TI := ⟨1, TK.int IntKind.i32, [Zc.int IntKind.i32], 4, true⟩
def ti67 : TI := ⟨1, TK.int IntKind.i32, [Zc.int IntKind.i32], 4, true⟩
def ttL : List (Option TI) := [none, none, some ti2, some ti3, some ti4, some ti5, some ti6, some ti7, some ti8, some ti9, some ti10, some ti11, some ti12, some ti13, some ti14, none, none, none, none, none, none, some ti21, some ti22, some ti23, some ti24, some ti25, some ti26, none, none, some ti29, none, none, none, some ti33, none, none, none, none, none, some ti39, none, none, none, none, some ti44, some ti45, none, none, none, none, none, some ti51, none, some ti53, none, none, none, some ti57, some ti58, some ti59, none, some ti61, some ti62, some ti63, none, none, some ti66, some ti67, none, none, none]
def tt : TT := fun t => (ttL[t]?).getD none
theorem tt2 : tt 2 = some ti2 := rfl
theorem tt3 : tt 3 = some ti3 := rfl
theorem tt4 : tt 4 = some ti4 := rfl
theorem tt5 : tt 5 = some ti5 := rfl
theorem tt6 : tt 6 = some ti6 := rfl
theorem tt7 : tt 7 = some ti7 := rfl
theorem tt8 : tt 8 = some ti8 := rfl
theorem tt9 : tt 9 = some ti9 := rfl
theorem tt10 : tt 10 = some ti10 := rfl
theorem tt11 : tt 11 = some ti11 := rfl
theorem tt12 : tt 12 = some ti12 := rfl
theorem tt13 : tt 13 = some ti13 := rfl
theorem tt14 : tt 14 = some ti14 := rfl
theorem tt21 : tt 21 = some ti21 := rfl
theorem tt22 : tt 22 = some ti22 := rfl
theorem tt23 : tt 23 = some ti23 := rfl
theorem tt24 : tt 24 = some ti24 := rfl
theorem tt25 : tt 25 = some ti25 := rfl
theorem tt26 : tt 26 = some ti26 := rfl
theorem tt29 : tt 29 = some ti29 := rfl
theorem tt33 : tt 33 = some ti33 := rfl
theorem tt39 : tt 39 = some ti39 := rfl
theorem tt44 : tt 44 = some ti44 := rfl
theorem tt45 : tt 45 = some ti45 := rfl
theorem tt51 : tt 51 = some ti51 := rfl
theorem tt53 : tt 53 = some ti53 := rfl
theorem tt57 : tt 57 = some ti57 := rfl
theorem tt58 : tt 58 = some ti58 := rfl
theorem tt59 : tt 59 = some ti59 := rfl
theorem tt61 : tt 61 = some ti61 := rfl
theorem tt62 : tt 62 = some ti62 := rfl
theorem tt63 : tt 63 = some ti63 := rfl
theorem tt66 : tt 66 = some ti66 := rfl
theorem tt67 : tt 67 = some ti67 := rfl
theorem ttAll : (ttL.zipIdx.all fun x => x.1.isNone || decide (tinfo Try.prog x.2 = x.1)) = true := by kernel_rfl
theorem htt : ∀ t i, tt t = some i → tinfo Try.prog t = some i := by
  intro t i h
  unfold tt at h
  cases ht : ttL[t]? with
  | none => simp [ht] at h
  | some o =>
    simp [ht] at h
    subst h
    have := List.all_eq_true.1 ttAll (some i, t) (List.mem_zipIdx_iff_getElem?.2 ht)
    simpa using this
theorem mixed : Try.prog.follows .mixedOrders = true := by kernel_rfl
end Go.Proofs.Ytlfnplkjbejekaa.V
