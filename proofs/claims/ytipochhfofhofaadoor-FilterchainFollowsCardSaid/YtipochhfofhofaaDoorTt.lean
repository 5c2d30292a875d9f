import Derived.Test.YtipochhfofhofaaDoorAvP4
import Derived.Test.YtipochhfofhofaaDoorProg
namespace Go.Proofs.YtipochhfofhofaaDoor
open Go.Av
set_option maxRecDepth 1000000

def ti2 : TI := ⟨1, TK.int IntKind.i64, [Zc.int IntKind.i64], 8, true⟩
def ti3 : TI := ⟨1, TK.int IntKind.i64, [Zc.int IntKind.i64], 8, true⟩
def ti4 : TI := ⟨1, TK.bool, [Zc.bool], 1, false⟩
def ti5 : TI := ⟨1, TK.int IntKind.u8, [Zc.int IntKind.u8], 1, true⟩
def ti6 : TI := ⟨1, TK.int IntKind.u8, [Zc.int IntKind.u8], 1, true⟩
def ti7 : TI := ⟨4, TK.struct [(0, 2), (1, 3), (2, 4), (3, 6)], [Zc.int IntKind.i64, Zc.int IntKind.i64, Zc.bool, Zc.int IntKind.u8], 24, false⟩
def ti8 : TI := ⟨4, TK.struct [(0, 2), (1, 3), (2, 4), (3, 6)], [Zc.int IntKind.i64, Zc.int IntKind.i64, Zc.bool, Zc.int IntKind.u8], 24, false⟩
def ti9 : TI := ⟨1, TK.str, [Zc.str], 16, false⟩
def ti10 : TI := ⟨1, TK.str, [Zc.str], 16, false⟩
def ti11 : TI := ⟨1, TK.str, [Zc.str], 16, false⟩
def ti12 : TI := ⟨1, TK.int IntKind.u64, [Zc.int IntKind.u64], 8, true⟩
def ti13 : TI := ⟨2, TK.struct [(0, 9), (1, 12)], [Zc.str, Zc.int IntKind.u64], 24, false⟩
def ti14 : TI := ⟨2, TK.struct [(0, 9), (1, 12)], [Zc.str, Zc.int IntKind.u64], 24, false⟩
def ti21 : TI := ⟨1, TK.int IntKind.i32, [Zc.int IntKind.i32], 4, true⟩
def ti22 : TI := ⟨1, TK.slice 26, [Zc.nil], 24, false⟩
def ti23 : TI := ⟨2, TK.struct [(0, 22), (1, 22)], [Zc.nil, Zc.nil], 48, false⟩
def ti24 : TI := ⟨2, TK.struct [(0, 22), (1, 22)], [Zc.nil, Zc.nil], 48, false⟩
def ti25 : TI := ⟨32, TK.array 32 5, zr 32 (Zc.int IntKind.u8), 32, true⟩
def ti26 : TI := ⟨32, TK.array 32 5, zr 32 (Zc.int IntKind.u8), 32, true⟩
def ti30 : TI := ⟨1, TK.int IntKind.i64, [Zc.int IntKind.i64], 8, true⟩
def ti43 : TI := ⟨1, TK.slice 5, [Zc.nil], 24, false⟩
def ti44 : TI := ⟨2, TK.struct [(0, 3), (1, 43)], [Zc.int IntKind.i64, Zc.nil], 32, false⟩
def ti45 : TI := ⟨2, TK.struct [(0, 3), (1, 43)], [Zc.int IntKind.i64, Zc.nil], 32, false⟩
def ti57 : TI := ⟨1, TK.slice 22, [Zc.nil], 24, false⟩
def ti60 : TI := ⟨1, TK.int IntKind.u64, [Zc.int IntKind.u64], 8, true⟩
def ti61 : TI := ⟨1, TK.slice 43, [Zc.nil], 24, false⟩
def ti65 : TI := ⟨1, TK.int IntKind.u16, [Zc.int IntKind.u16], 2, true⟩
def ti67 : TI := ⟨1, TK.int IntKind.u32, [Zc.int IntKind.u32], 4, true⟩
def ti70 : TI := ⟨8, TK.array 8 67, zr 8 (Zc.int IntKind.u32), 32, true⟩
def ti72 : TI := ⟨64, TK.array 64 5, zr 64 (Zc.int IntKind.u8), 64, true⟩
def ti74 : TI := ⟨1, TK.int IntKind.u64, [Zc.int IntKind.u64], 8, true⟩
def ti75 : TI := ⟨64, TK.array 64 67, zr 64 (Zc.int IntKind.u32), 256, true⟩
def ti82 : TI := ⟨0, TK.array 0 16, [], 0, false⟩
def ti83 : TI := ⟨0, TK.struct [(0, 82)], [], 0, false⟩
def ti84 : TI := ⟨0, TK.struct [(0, 82)], [], 0, false⟩
def ti86 : TI := ⟨1, TK.int IntKind.u8, [Zc.int IntKind.u8], 1, true⟩
def ti87 : TI := ⟨1, TK.int IntKind.u8, [Zc.int IntKind.u8], 1, true⟩
def ti90 : TI := ⟨1, TK.int IntKind.i32, [Zc.int IntKind.i32], 4, true⟩
def ti91 : TI := ⟨1, TK.int IntKind.i32, [Zc.int IntKind.i32], 4, true⟩
def ttL : List (Option TI) := [none, none, some ti2, some ti3, some ti4, some ti5, some ti6, some ti7, some ti8, some ti9, some ti10, some ti11, some ti12, some ti13, some ti14, none, none, none, none, none, none, some ti21, some ti22, some ti23, some ti24, some ti25, some ti26, none, none, none, some ti30, none, none, none, none, none, none, none, none, none, none, none, none, some ti43, some ti44, some ti45, none, none, none, none, none, none, none, none, none, none, none, some ti57, none, none, some ti60, some ti61, none, none, none, some ti65, none, some ti67, none, none, some ti70, none, some ti72, none, some ti74, some ti75, none, none, none, none, none, none, some ti82, some ti83, some ti84, none, some ti86, some ti87, none, none, some ti90, some ti91, none, none, none]
def tt : TT := fun t => (ttL[t]?).getD none
theorem tt2 : tt 2 = some ti2 := rfl
theorem tt3 : tt 3 = some ti3 := rfl
theorem tt4 : tt 4 = some ti4 := rfl
theorem tt5 : tt 5 = some ti5 := rfl
theorem tt6 : tt 6 = some ti6 := rfl
theorem tt7 : tt 7 = some ti7 := rfl
theorem tt8 : tt 8 = some ti8 := rfl
theorem tt9 : tt 9 = some ti9 := rfl
theorem tt10 : tt 10 = some ti10 := rfl
theorem tt11 : tt 11 = some ti11 := rfl
theorem tt12 : tt 12 = some ti12 := rfl
theorem tt13 : tt 13 = some ti13 := rfl
theorem tt14 : tt 14 = some ti14 := rfl
theorem tt21 : tt 21 = some ti21 := rfl
theorem tt22 : tt 22 = some ti22 := rfl
theorem tt23 : tt 23 = some ti23 := rfl
theorem tt24 : tt 24 = some ti24 := rfl
theorem tt25 : tt 25 = some ti25 := rfl
theorem tt26 : tt 26 = some ti26 := rfl
theorem tt30 : tt 30 = some ti30 := rfl
theorem tt43 : tt 43 = some ti43 := rfl
theorem tt44 : tt 44 = some ti44 := rfl
theorem tt45 : tt 45 = some ti45 := rfl
theorem tt57 : tt 57 = some ti57 := rfl
theorem tt60 : tt 60 = some ti60 := rfl
theorem tt61 : tt 61 = some ti61 := rfl
theorem tt65 : tt 65 = some ti65 := rfl
theorem tt67 : tt 67 = some ti67 := rfl
theorem tt70 : tt 70 = some ti70 := rfl
theorem tt72 : tt 72 = some ti72 := rfl
theorem tt74 : tt 74 = some ti74 := rfl
theorem tt75 : tt 75 = some ti75 := rfl
theorem tt82 : tt 82 = some ti82 := rfl
theorem tt83 : tt 83 = some ti83 := rfl
theorem tt84 : tt 84 = some ti84 := rfl
theorem tt86 : tt 86 = some ti86 := rfl
theorem tt87 : tt 87 = some ti87 := rfl
theorem tt90 : tt 90 = some ti90 := rfl
theorem tt91 : tt 91 = some ti91 := rfl
theorem ttAll : (ttL.zipIdx.all fun x => x.1.isNone || decide (tinfo Tryd.prog x.2 = x.1)) = true := by kernel_rfl
theorem htt : ∀ t i, tt t = some i → tinfo Tryd.prog t = some i := by
  intro t i h
  unfold tt at h
  cases ht : ttL[t]? with
  | none => simp [ht] at h
  | some o =>
    simp [ht] at h
    subst h
    have := List.all_eq_true.1 ttAll (some i, t) (List.mem_zipIdx_iff_getElem?.2 ht)
    simpa using this
theorem mixed : Tryd.prog.follows .mixedOrders = true := by kernel_rfl
end Go.Proofs.YtipochhfofhofaaDoor
