import Derived.Test.YtjdoijdjeapekaaAvP3
import Derived.Test.YtjdoijdjeapekaaProg
namespace Go.Proofs.Ytjdoijdjeapekaa
open Go.Av
set_option maxRecDepth 1000000

def ti1 : TI:=⟨1,TK.other,[Zc.fn],8,false⟩
def ti2 : TI:=⟨1,TK.int IntKind.i64,[Zc.int IntKind.i64],8,true⟩
def ti3 : TI:=⟨1,TK.int IntKind.i64,[Zc.int IntKind.i64],8,true⟩
def ti4 : TI:=⟨1,TK.bool,[Zc.bool],1,false⟩
def ti5 : TI:=⟨1,TK.int IntKind.u8,[Zc.int IntKind.u8],1,true⟩
def ti6 : TI:=⟨1,TK.int IntKind.u8,[Zc.int IntKind.u8],1,true⟩
def ti8 : TI:=⟨4,TK.struct [(0,2),(1,3),(2,4),(3,6)],[Zc.int IntKind.i64,Zc.int IntKind.i64,Zc.bool,Zc.int IntKind.u8],24,false⟩
def ti9 : TI:=⟨1,TK.str,[Zc.str],16,false⟩
def ti16 : TI:=⟨1,TK.other,[Zc.ptr],8,false⟩
def ti22 : TI:=⟨1,TK.slice 3,[Zc.nil],24,false⟩
def ti23 : TI:=⟨1,TK.int IntKind.u32,[Zc.int IntKind.u32],4,true⟩
def ti25 : TI:=⟨1,TK.other,[Zc.ptr],8,false⟩
def ti27 : TI:=⟨1,TK.slice 53,[Zc.nil],24,false⟩
def ti29 : TI:=⟨1,TK.slice 49,[Zc.nil],24,false⟩
def ti32 : TI:=⟨1,TK.slice 5,[Zc.nil],24,false⟩
def ti33 : TI:=⟨1,TK.other,[Zc.fn],8,false⟩
def ti34 : TI:=⟨1,TK.slice 73,[Zc.nil],24,false⟩
def ti35 : TI:=⟨4,TK.struct [(0,23),(1,34),(2,29),(3,23)],[Zc.int IntKind.u32,Zc.nil,Zc.nil,Zc.int IntKind.u32],64,false⟩
def ti36 : TI:=⟨4,TK.struct [(0,23),(1,34),(2,29),(3,23)],[Zc.int IntKind.u32,Zc.nil,Zc.nil,Zc.int IntKind.u32],64,false⟩
def ti37 : TI:=⟨1,TK.slice 51,[Zc.nil],24,false⟩
def ti38 : TI:=⟨7,TK.struct [(0,36),(4,37),(5,2),(6,3)],[Zc.int IntKind.u32,Zc.nil,Zc.nil,Zc.int IntKind.u32,Zc.nil,Zc.int IntKind.i64,Zc.int IntKind.i64],104,false⟩
def ti39 : TI:=⟨7,TK.struct [(0,36),(4,37),(5,2),(6,3)],[Zc.int IntKind.u32,Zc.nil,Zc.nil,Zc.int IntKind.u32,Zc.nil,Zc.int IntKind.i64,Zc.int IntKind.i64],104,false⟩
def ti40 : TI:=⟨1,TK.int IntKind.i64,[Zc.int IntKind.i64],8,true⟩
def ti44 : TI:=⟨32,TK.array 32 5,zr 32 (Zc.int IntKind.u8),32,true⟩
def ti45 : TI:=⟨32,TK.array 32 5,zr 32 (Zc.int IntKind.u8),32,true⟩
def ti46 : TI:=⟨33,TK.struct [(0,45),(32,23)],zr 32 (Zc.int IntKind.u8)++([Zc.int IntKind.u32]),36,true⟩
def ti47 : TI:=⟨33,TK.struct [(0,45),(32,23)],zr 32 (Zc.int IntKind.u8)++([Zc.int IntKind.u32]),36,true⟩
def ti48 : TI:=⟨2,TK.struct [(0,2),(1,32)],[Zc.int IntKind.i64,Zc.nil],32,false⟩
def ti49 : TI:=⟨2,TK.struct [(0,2),(1,32)],[Zc.int IntKind.i64,Zc.nil],32,false⟩
def ti50 : TI:=⟨37,TK.struct [(0,47),(33,49),(35,3),(36,4)],zr 32 (Zc.int IntKind.u8)++([Zc.int IntKind.u32,Zc.int IntKind.i64,Zc.nil,Zc.int IntKind.i64,Zc.bool]),88,false⟩
def ti51 : TI:=⟨37,TK.struct [(0,47),(33,49),(35,3),(36,4)],zr 32 (Zc.int IntKind.u8)++([Zc.int IntKind.u32,Zc.int IntKind.i64,Zc.nil,Zc.int IntKind.i64,Zc.bool]),88,false⟩
def ti52 : TI:=⟨38,TK.struct [(0,51),(37,3)],zr 32 (Zc.int IntKind.u8)++([Zc.int IntKind.u32,Zc.int IntKind.i64,Zc.nil,Zc.int IntKind.i64,Zc.bool,Zc.int IntKind.i64]),96,false⟩
def ti53 : TI:=⟨38,TK.struct [(0,51),(37,3)],zr 32 (Zc.int IntKind.u8)++([Zc.int IntKind.u32,Zc.int IntKind.i64,Zc.nil,Zc.int IntKind.i64,Zc.bool,Zc.int IntKind.i64]),96,false⟩
def ti61 : TI:=⟨2,TK.struct [(0,22),(1,3)],[Zc.nil,Zc.int IntKind.i64],32,false⟩
def ti62 : TI:=⟨2,TK.struct [(0,22),(1,3)],[Zc.nil,Zc.int IntKind.i64],32,false⟩
def ti64 : TI:=⟨1,TK.other,[Zc.fn],8,false⟩
def ti71 : TI:=⟨1,TK.slice 32,[Zc.nil],24,false⟩
def ti72 : TI:=⟨35,TK.struct [(0,47),(33,23),(34,71)],zr 32 (Zc.int IntKind.u8)++([Zc.int IntKind.u32,Zc.int IntKind.u32,Zc.nil]),64,false⟩
def ti73 : TI:=⟨35,TK.struct [(0,47),(33,23),(34,71)],zr 32 (Zc.int IntKind.u8)++([Zc.int IntKind.u32,Zc.int IntKind.u32,Zc.nil]),64,false⟩
def ti80 : TI:=⟨1,TK.map 47 4,[Zc.map],8,false⟩
def ti81 : TI:=⟨1,TK.slice 2,[Zc.nil],24,false⟩
def ti82 : TI:=⟨2,TK.struct [(0,22),(1,2)],[Zc.nil,Zc.int IntKind.i64],32,false⟩
def ti83 : TI:=⟨2,TK.struct [(0,22),(1,2)],[Zc.nil,Zc.int IntKind.i64],32,false⟩
def ti92 : TI:=⟨5,TK.struct [(0,81),(1,2),(2,22),(3,83)],[Zc.nil,Zc.int IntKind.i64,Zc.nil,Zc.nil,Zc.int IntKind.i64],88,false⟩
def ti93 : TI:=⟨5,TK.struct [(0,81),(1,2),(2,22),(3,83)],[Zc.nil,Zc.int IntKind.i64,Zc.nil,Zc.nil,Zc.int IntKind.i64],88,false⟩
def ti95 : TI:=⟨4,TK.struct [(0,81),(1,2),(2,2),(3,32)],[Zc.nil,Zc.int IntKind.i64,Zc.int IntKind.i64,Zc.nil],64,false⟩
def ti96 : TI:=⟨4,TK.struct [(0,81),(1,2),(2,2),(3,32)],[Zc.nil,Zc.int IntKind.i64,Zc.int IntKind.i64,Zc.nil],64,false⟩
def ti99 : TI:=⟨1,TK.int IntKind.u64,[Zc.int IntKind.u64],8,true⟩
def ti102 : TI:=⟨1,TK.other,[Zc.ptr],8,false⟩
def ti104 : TI:=⟨1,TK.other,[Zc.ptr],8,false⟩
def ti109 : TI:=⟨1,TK.int IntKind.u16,[Zc.int IntKind.u16],2,true⟩
def ttL : List (Option TI):=[none,some ti1,some ti2,some ti3,some ti4,some ti5,some ti6,none,some ti8,some ti9,none,none,none,none,none,none,some ti16,none,none,none,none,none,some ti22,some ti23,none,some ti25,none,some ti27,none,some ti29,none,none,some ti32,some ti33,some ti34,some ti35,some ti36,some ti37,some ti38,some ti39,some ti40,none,none,none,some ti44,some ti45,some ti46,some ti47,some ti48,some ti49,some ti50,some ti51,some ti52,some ti53,none,none,none,none,none,none,none,some ti61,some ti62,none,some ti64,none,none,none,none,none,none,some ti71,some ti72,some ti73,none,none,none,none,none,none,some ti80,some ti81,some ti82,some ti83,none,none,none,none,none,none,none,none,some ti92,some ti93,none,some ti95,some ti96,none,none,some ti99,none,none,some ti102,none,some ti104,none,none,none,none,some ti109,none,none,none,none,none,none,none,none,none,none,none,none,none,none,none,none,none,none]
def tt : TT:=fun t=>(ttL[t]?).getD none
theorem tt1 : tt 1 = some ti1:=rfl
theorem tt2 : tt 2 = some ti2:=rfl
theorem tt3 : tt 3 = some ti3:=rfl
theorem tt4 : tt 4 = some ti4:=rfl
theorem tt5 : tt 5 = some ti5:=rfl
theorem tt6 : tt 6 = some ti6:=rfl
theorem tt8 : tt 8 = some ti8:=rfl
theorem tt9 : tt 9 = some ti9:=rfl
theorem tt16 : tt 16 = some ti16:=rfl
theorem tt22 : tt 22 = some ti22:=rfl
theorem tt23 : tt 23 = some ti23:=rfl
theorem tt25 : tt 25 = some ti25:=rfl
theorem tt27 : tt 27 = some ti27:=rfl
theorem tt29 : tt 29 = some ti29:=rfl
theorem tt32 : tt 32 = some ti32:=rfl
theorem tt33 : tt 33 = some ti33:=rfl
theorem tt34 : tt 34 = some ti34:=rfl
theorem tt35 : tt 35 = some ti35:=rfl
theorem tt36 : tt 36 = some ti36:=rfl
theorem tt37 : tt 37 = some ti37:=rfl
theorem tt38 : tt 38 = some ti38:=rfl
theorem tt39 : tt 39 = some ti39:=rfl
theorem tt40 : tt 40 = some ti40:=rfl
theorem tt44 : tt 44 = some ti44:=rfl
theorem tt45 : tt 45 = some ti45:=rfl
theorem tt46 : tt 46 = some ti46:=rfl
theorem tt47 : tt 47 = some ti47:=rfl
theorem tt48 : tt 48 = some ti48:=rfl
theorem tt49 : tt 49 = some ti49:=rfl
theorem tt50 : tt 50 = some ti50:=rfl
theorem tt51 : tt 51 = some ti51:=rfl
theorem tt52 : tt 52 = some ti52:=rfl
theorem tt53 : tt 53 = some ti53:=rfl
theorem tt61 : tt 61 = some ti61:=rfl
theorem tt62 : tt 62 = some ti62:=rfl
theorem tt64 : tt 64 = some ti64:=rfl
theorem tt71 : tt 71 = some ti71:=rfl
theorem tt72 : tt 72 = some ti72:=rfl
theorem tt73 : tt 73 = some ti73:=rfl
theorem tt80 : tt 80 = some ti80:=rfl
theorem tt81 : tt 81 = some ti81:=rfl
theorem tt82 : tt 82 = some ti82:=rfl
theorem tt83 : tt 83 = some ti83:=rfl
theorem tt92 : tt 92 = some ti92:=rfl
theorem tt93 : tt 93 = some ti93:=rfl
theorem tt95 : tt 95 = some ti95:=rfl
theorem tt96 : tt 96 = some ti96:=rfl
theorem tt99 : tt 99 = some ti99:=rfl
theorem tt102 : tt 102 = some ti102:=rfl
theorem tt104 : tt 104 = some ti104:=rfl
theorem tt109 : tt 109 = some ti109:=rfl
theorem ttAll : (ttL.zipIdx.all fun x=>x.1.isNone || decide (tinfo Try.prog x.2 = x.1)) = true:=by kernel_rfl
theorem htt : ∀ t i,tt t = some i→tinfo Try.prog t = some i:=by
  intro t i h;unfold tt at h;cases ht : ttL[t]? with
  | none=>simp [ht] at h
  | some o =>
    simp [ht] at h
    subst h;have:=List.all_eq_true.1 ttAll (some i,t) (List.mem_zipIdx_iff_getElem?.2 ht);simpa using this
theorem mixed : Try.prog.follows .mixedOrders = true:=by kernel_rfl
end Go.Proofs.Ytjdoijdjeapekaa
