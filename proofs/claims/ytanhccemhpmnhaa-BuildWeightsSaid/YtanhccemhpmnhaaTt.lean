import Derived.Test.YtanhccemhpmnhaaAvP2
import Derived.Test.YtanhccemhpmnhaaProg
namespace Go.Proofs.Ytanhccemhpmnhaa
open Go.Av
set_option maxRecDepth 1000000

def ti2 : TI := ⟨1, TK.int IntKind.i64, [Zc.int IntKind.i64], 8, true⟩
def ti3 : TI := ⟨1, TK.int IntKind.i64, [Zc.int IntKind.i64], 8, true⟩
def ti4 : TI := ⟨1, TK.bool, [Zc.bool], 1, false⟩
def ti5 : TI := ⟨1, TK.int IntKind.u8, [Zc.int IntKind.u8], 1, true⟩
def ti6 : TI := ⟨1, TK.int IntKind.u8, [Zc.int IntKind.u8], 1, true⟩
def ti7 : TI := ⟨4, TK.struct [(0, 2), (1, 3), (2, 4), (3, 6)], [Zc.int IntKind.i64, Zc.int IntKind.i64, Zc.bool, Zc.int IntKind.u8], 24, false⟩
def ti8 : TI := ⟨4, TK.struct [(0, 2), (1, 3), (2, 4), (3, 6)], [Zc.int IntKind.i64, Zc.int IntKind.i64, Zc.bool, Zc.int IntKind.u8], 24, false⟩
def ti9 : TI := ⟨1, TK.str, [Zc.str], 16, false⟩
def ti10 : TI := ⟨1, TK.str, [Zc.str], 16, false⟩
def ti11 : TI := ⟨1, TK.str, [Zc.str], 16, false⟩
def ti12 : TI := ⟨1, TK.int IntKind.u64, [Zc.int IntKind.u64], 8, true⟩
def ti13 : TI := ⟨2, TK.struct [(0, 9), (1, 12)], [Zc.str, Zc.int IntKind.u64], 24, false⟩
def ti14 : TI := ⟨2, TK.struct [(0, 9), (1, 12)], [Zc.str, Zc.int IntKind.u64], 24, false⟩
def ti21 : TI := ⟨1, TK.int IntKind.i32, [Zc.int IntKind.i32], 4, true⟩
def ti22 : TI := ⟨1, TK.slice 3, [Zc.nil], 24, false⟩
def ti23 : TI := ⟨32, TK.array 32 5, zr 32 (Zc.int IntKind.u8), 32, true⟩
def ti24 : TI := ⟨32, TK.array 32 5, zr 32 (Zc.int IntKind.u8), 32, true⟩
def ti25 : TI := ⟨1, TK.int IntKind.u32, [Zc.int IntKind.u32], 4, true⟩
def ti26 : TI := ⟨33, TK.struct [(0, 24), (32, 25)], zr 32 (Zc.int IntKind.u8) ++ ([Zc.int IntKind.u32]), 36, true⟩
def ti27 : TI := ⟨33, TK.struct [(0, 24), (32, 25)], zr 32 (Zc.int IntKind.u8) ++ ([Zc.int IntKind.u32]), 36, true⟩
def ti28 : TI := ⟨1, TK.slice 5, [Zc.nil], 24, false⟩
def ti29 : TI := ⟨2, TK.struct [(0, 2), (1, 28)], [Zc.int IntKind.i64, Zc.nil], 32, false⟩
def ti30 : TI := ⟨2, TK.struct [(0, 2), (1, 28)], [Zc.int IntKind.i64, Zc.nil], 32, false⟩
def ti31 : TI := ⟨37, TK.struct [(0, 27), (33, 30), (35, 3), (36, 4)], zr 32 (Zc.int IntKind.u8) ++ ([Zc.int IntKind.u32, Zc.int IntKind.i64, Zc.nil, Zc.int IntKind.i64, Zc.bool]), 88, false⟩
def ti32 : TI := ⟨37, TK.struct [(0, 27), (33, 30), (35, 3), (36, 4)], zr 32 (Zc.int IntKind.u8) ++ ([Zc.int IntKind.u32, Zc.int IntKind.i64, Zc.nil, Zc.int IntKind.i64, Zc.bool]), 88, false⟩
def ti33 : TI := ⟨38, TK.struct [(0, 32), (37, 3)], zr 32 (Zc.int IntKind.u8) ++ ([Zc.int IntKind.u32, Zc.int IntKind.i64, Zc.nil, Zc.int IntKind.i64, Zc.bool, Zc.int IntKind.i64]), 96, false⟩
def ti34 : TI := ⟨38, TK.struct [(0, 32), (37, 3)], zr 32 (Zc.int IntKind.u8) ++ ([Zc.int IntKind.u32, Zc.int IntKind.i64, Zc.nil, Zc.int IntKind.i64, Zc.bool, Zc.int IntKind.i64]), 96, false⟩
def ti38 : TI := ⟨1, TK.slice 59, [Zc.nil], 24, false⟩
def ti39 : TI := ⟨1, TK.slice 30, [Zc.nil], 24, false⟩
def ti40 : TI := ⟨4, TK.struct [(0, 25), (1, 38), (2, 39), (3, 25)], [Zc.int IntKind.u32, Zc.nil, Zc.nil, Zc.int IntKind.u32], 64, false⟩
def ti41 : TI := ⟨4, TK.struct [(0, 25), (1, 38), (2, 39), (3, 25)], [Zc.int IntKind.u32, Zc.nil, Zc.nil, Zc.int IntKind.u32], 64, false⟩
def ti43 : TI := ⟨1, TK.slice 34, [Zc.nil], 24, false⟩
def ti46 : TI := ⟨2, TK.array 2 3, [Zc.int IntKind.i64, Zc.int IntKind.i64], 16, true⟩
def ti47 : TI := ⟨1, TK.slice 46, [Zc.nil], 24, false⟩
def ti52 : TI := ⟨1, TK.slice 32, [Zc.nil], 24, false⟩
def ti53 : TI := ⟨7, TK.struct [(0, 41), (4, 52), (5, 2), (6, 3)], [Zc.int IntKind.u32, Zc.nil, Zc.nil, Zc.int IntKind.u32, Zc.nil, Zc.int IntKind.i64, Zc.int IntKind.i64], 104, false⟩
def ti54 : TI := ⟨7, TK.struct [(0, 41), (4, 52), (5, 2), (6, 3)], [Zc.int IntKind.u32, Zc.nil, Zc.nil, Zc.int IntKind.u32, Zc.nil, Zc.int IntKind.i64, Zc.int IntKind.i64], 104, false⟩
def ti57 : TI := ⟨1, TK.slice 28, [Zc.nil], 24, false⟩
def ti58 : TI := ⟨35, TK.struct [(0, 27), (33, 25), (34, 57)], zr 32 (Zc.int IntKind.u8) ++ ([Zc.int IntKind.u32, Zc.int IntKind.u32, Zc.nil]), 64, false⟩
def ti59 : TI := ⟨35, TK.struct [(0, 27), (33, 25), (34, 57)], zr 32 (Zc.int IntKind.u8) ++ ([Zc.int IntKind.u32, Zc.int IntKind.u32, Zc.nil]), 64, false⟩
def ti65 : TI := ⟨1, TK.int IntKind.i64, [Zc.int IntKind.i64], 8, true⟩
def ti72 : TI := ⟨2, TK.struct [(0, 22), (1, 3)], [Zc.nil, Zc.int IntKind.i64], 32, false⟩
def ti73 : TI := ⟨2, TK.struct [(0, 22), (1, 3)], [Zc.nil, Zc.int IntKind.i64], 32, false⟩
def ti76 : TI := ⟨1, TK.slice 25, [Zc.nil], 24, false⟩
def ti96 : TI := ⟨1, TK.slice 2, [Zc.nil], 24, false⟩
def ti97 : TI := ⟨2, TK.struct [(0, 22), (1, 2)], [Zc.nil, Zc.int IntKind.i64], 32, false⟩
def ti98 : TI := ⟨2, TK.struct [(0, 22), (1, 2)], [Zc.nil, Zc.int IntKind.i64], 32, false⟩
def ti103 : TI := ⟨1, TK.int IntKind.u64, [Zc.int IntKind.u64], 8, true⟩
def ti109 : TI := ⟨5, TK.struct [(0, 96), (1, 2), (2, 22), (3, 98)], [Zc.nil, Zc.int IntKind.i64, Zc.nil, Zc.nil, Zc.int IntKind.i64], 88, false⟩
def ti110 : TI := ⟨5, TK.struct [(0, 96), (1, 2), (2, 22), (3, 98)], [Zc.nil, Zc.int IntKind.i64, Zc.nil, Zc.nil, Zc.int IntKind.i64], 88, false⟩
def ti112 : TI := ⟨4, TK.struct [(0, 96), (1, 2), (2, 2), (3, 28)], [Zc.nil, Zc.int IntKind.i64, Zc.int IntKind.i64, Zc.nil], 64, false⟩
def ti113 : TI := ⟨4, TK.struct [(0, 96), (1, 2), (2, 2), (3, 28)], [Zc.nil, Zc.int IntKind.i64, Zc.int IntKind.i64, Zc.nil], 64, false⟩
def ti117 : TI := ⟨1, TK.int IntKind.u16, [Zc.int IntKind.u16], 2, true⟩
def ti126 : TI := ⟨0, TK.array 0 16, [], 0, false⟩
def ti127 : TI := ⟨0, TK.struct [(0, 126)], [], 0, false⟩
def ti128 : TI := ⟨0, TK.struct [(0, 126)], [], 0, false⟩
def ti130 : TI := ⟨1, TK.int IntKind.u8, [Zc.int IntKind.u8], 1, true⟩
def ti131 : TI := ⟨1, TK.int IntKind.u8, [Zc.int IntKind.u8], 1, true⟩
def ti134 : TI := ⟨1, TK.int IntKind.i32, [Zc.int IntKind.i32], 4, true⟩
def ti135 : TI := ⟨1, TK.int IntKind.i32, [Zc.int IntKind.i32], 4, true⟩
def ttL : List (Option TI) := [none, none, some ti2, some ti3, some ti4, some ti5, some ti6, some ti7, some ti8, some ti9, some ti10, some ti11, some ti12, some ti13, some ti14, none, none, none, none, none, none, some ti21, some ti22, some ti23, some ti24, some ti25, some ti26, some ti27, some ti28, some ti29, some ti30, some ti31, some ti32, some ti33, some ti34, none, none, none, some ti38, some ti39, some ti40, some ti41, none, some ti43, none, none, some ti46, some ti47, none, none, none, none, some ti52, some ti53, some ti54, none, none, some ti57, some ti58, some ti59, none, none, none, none, none, some ti65, none, none, none, none, none, none, some ti72, some ti73, none, none, some ti76, none, none, none, none, none, none, none, none, none, none, none, none, none, none, none, none, none, none, none, some ti96, some ti97, some ti98, none, none, none, none, some ti103, none, none, none, none, none, some ti109, some ti110, none, some ti112, some ti113, none, none, none, some ti117, none, none, none, none, none, none, none, none, some ti126, some ti127, some ti128, none, some ti130, some ti131, none, none, some ti134, some ti135, none, none, none]
def tt : TT := fun t => (ttL[t]?).getD none
theorem tt2 : tt 2 = some ti2 := rfl
theorem tt3 : tt 3 = some ti3 := rfl
theorem tt4 : tt 4 = some ti4 := rfl
theorem tt5 : tt 5 = some ti5 := rfl
theorem tt6 : tt 6 = some ti6 := rfl
theorem tt7 : tt 7 = some ti7 := rfl
theorem tt8 : tt 8 = some ti8 := rfl
theorem tt9 : tt 9 = some ti9 := rfl
theorem tt10 : tt 10 = some ti10 := rfl
theorem tt11 : tt 11 = some ti11 := rfl
theorem tt12 : tt 12 = some ti12 := rfl
theorem tt13 : tt 13 = some ti13 := rfl
theorem tt14 : tt 14 = some ti14 := rfl
theorem tt21 : tt 21 = some ti21 := rfl
theorem tt22 : tt 22 = some ti22 := rfl
theorem tt23 : tt 23 = some ti23 := rfl
theorem tt24 : tt 24 = some ti24 := rfl
theorem tt25 : tt 25 = some ti25 := rfl
theorem tt26 : tt 26 = some ti26 := rfl
theorem tt27 : tt 27 = some ti27 := rfl
theorem tt28 : tt 28 = some ti28 := rfl
theorem tt29 : tt 29 = some ti29 := rfl
theorem tt30 : tt 30 = some ti30 := rfl
theorem tt31 : tt 31 = some ti31 := rfl
theorem tt32 : tt 32 = some ti32 := rfl
theorem tt33 : tt 33 = some ti33 := rfl
theorem tt34 : tt 34 = some ti34 := rfl
theorem tt38 : tt 38 = some ti38 := rfl
theorem tt39 : tt 39 = some ti39 := rfl
theorem tt40 : tt 40 = some ti40 := rfl
theorem tt41 : tt 41 = some ti41 := rfl
theorem tt43 : tt 43 = some ti43 := rfl
theorem tt46 : tt 46 = some ti46 := rfl
theorem tt47 : tt 47 = some ti47 := rfl
theorem tt52 : tt 52 = some ti52 := rfl
theorem tt53 : tt 53 = some ti53 := rfl
theorem tt54 : tt 54 = some ti54 := rfl
theorem tt57 : tt 57 = some ti57 := rfl
theorem tt58 : tt 58 = some ti58 := rfl
theorem tt59 : tt 59 = some ti59 := rfl
theorem tt65 : tt 65 = some ti65 := rfl
theorem tt72 : tt 72 = some ti72 := rfl
theorem tt73 : tt 73 = some ti73 := rfl
theorem tt76 : tt 76 = some ti76 := rfl
theorem tt96 : tt 96 = some ti96 := rfl
theorem tt97 : tt 97 = some ti97 := rfl
theorem tt98 : tt 98 = some ti98 := rfl
theorem tt103 : tt 103 = some ti103 := rfl
theorem tt109 : tt 109 = some ti109 := rfl
theorem tt110 : tt 110 = some ti110 := rfl
theorem tt112 : tt 112 = some ti112 := rfl
theorem tt113 : tt 113 = some ti113 := rfl
theorem tt117 : tt 117 = some ti117 := rfl
theorem tt126 : tt 126 = some ti126 := rfl
theorem tt127 : tt 127 = some ti127 := rfl
theorem tt128 : tt 128 = some ti128 := rfl
theorem tt130 : tt 130 = some ti130 := rfl
theorem tt131 : tt 131 = some ti131 := rfl
theorem tt134 : tt 134 = some ti134 := rfl
theorem tt135 : tt 135 = some ti135 := rfl
theorem ttAll : (ttL.zipIdx.all fun x => x.1.isNone || decide (tinfo Try.prog x.2 = x.1)) = true := by kernel_rfl
theorem htt : ∀ t i, tt t = some i → tinfo Try.prog t = some i := by
  intro t i h
  unfold tt at h
  cases ht : ttL[t]? with
  | none => simp [ht] at h
  | some o =>
    simp [ht] at h
    subst h
    have := List.all_eq_true.1 ttAll (some i, t) (List.mem_zipIdx_iff_getElem?.2 ht)
    simpa using this
theorem mixed : Try.prog.follows .mixedOrders = true := by kernel_rfl
end Go.Proofs.Ytanhccemhpmnhaa
