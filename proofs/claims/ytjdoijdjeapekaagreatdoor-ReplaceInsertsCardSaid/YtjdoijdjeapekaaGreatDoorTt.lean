import Derived.Test.YtjdoijdjeapekaaGreatDoorAvP3
import Derived.Test.YtjdoijdjeapekaaGreatDoorProg
namespace Go.Proofs.YtjdoijdjeapekaaGreatDoor
open Go.Av
set_option maxRecDepth 1000000

def ti1 : TI:=⟨1,TK.other,[Zc.fn],8,false⟩
def ti2 : TI:=⟨1,TK.int IntKind.i64,[Zc.int IntKind.i64],8,true⟩
def ti3 : TI:=⟨1,TK.int IntKind.i64,[Zc.int IntKind.i64],8,true⟩
def ti4 : TI:=⟨1,TK.bool,[Zc.bool],1,false⟩
def ti5 : TI:=⟨1,TK.int IntKind.u8,[Zc.int IntKind.u8],1,true⟩
def ti6 : TI:=⟨1,TK.int IntKind.u8,[Zc.int IntKind.u8],1,true⟩
def ti7 : TI:=⟨4,TK.struct [(0,2),(1,3),(2,4),(3,6)],[Zc.int IntKind.i64,Zc.int IntKind.i64,Zc.bool,Zc.int IntKind.u8],24,false⟩
def ti8 : TI:=⟨4,TK.struct [(0,2),(1,3),(2,4),(3,6)],[Zc.int IntKind.i64,Zc.int IntKind.i64,Zc.bool,Zc.int IntKind.u8],24,false⟩
def ti9 : TI:=⟨1,TK.str,[Zc.str],16,false⟩
def ti10 : TI:=⟨1,TK.str,[Zc.str],16,false⟩
def ti11 : TI:=⟨1,TK.str,[Zc.str],16,false⟩
def ti12 : TI:=⟨1,TK.int IntKind.u64,[Zc.int IntKind.u64],8,true⟩
def ti13 : TI:=⟨2,TK.struct [(0,9),(1,12)],[Zc.str,Zc.int IntKind.u64],24,false⟩
def ti14 : TI:=⟨2,TK.struct [(0,9),(1,12)],[Zc.str,Zc.int IntKind.u64],24,false⟩
def ti15 : TI:=⟨1,TK.other,[Zc.ptr],8,false⟩
def ti16 : TI:=⟨1,TK.other,[Zc.ptr],8,false⟩
def ti17 : TI:=⟨1,TK.other,[Zc.ptr],8,false⟩
def ti18 : TI:=⟨1,TK.struct [(0,17)],[Zc.ptr],8,false⟩
def ti19 : TI:=⟨1,TK.struct [(0,17)],[Zc.ptr],8,false⟩
def ti21 : TI:=⟨1,TK.int IntKind.i32,[Zc.int IntKind.i32],4,true⟩
def ti22 : TI:=⟨1,TK.slice 3,[Zc.nil],24,false⟩
def ti23 : TI:=⟨1,TK.other,[Zc.fn],8,false⟩
def ti24 : TI:=⟨1,TK.other,[Zc.ptr],8,false⟩
def ti25 : TI:=⟨1,TK.other,[Zc.fn],8,false⟩
def ti26 : TI:=⟨1,TK.slice 36,[Zc.nil],24,false⟩
def ti27 : TI:=⟨1,TK.other,[Zc.fn],8,false⟩
def ti28 : TI:=⟨1,TK.int IntKind.u32,[Zc.int IntKind.u32],4,true⟩
def ti29 : TI:=⟨1,TK.slice 58,[Zc.nil],24,false⟩
def ti30 : TI:=⟨1,TK.slice 61,[Zc.nil],24,false⟩
def ti31 : TI:=⟨4,TK.struct [(0,28),(1,29),(2,30),(3,28)],[Zc.int IntKind.u32,Zc.nil,Zc.nil,Zc.int IntKind.u32],64,false⟩
def ti32 : TI:=⟨4,TK.struct [(0,28),(1,29),(2,30),(3,28)],[Zc.int IntKind.u32,Zc.nil,Zc.nil,Zc.int IntKind.u32],64,false⟩
def ti33 : TI:=⟨1,TK.other,[Zc.fn],8,false⟩
def ti34 : TI:=⟨1,TK.other,[Zc.fn],8,false⟩
def ti35 : TI:=⟨5,TK.struct [(0,32),(4,2)],[Zc.int IntKind.u32,Zc.nil,Zc.nil,Zc.int IntKind.u32,Zc.int IntKind.i64],72,false⟩
def ti36 : TI:=⟨5,TK.struct [(0,32),(4,2)],[Zc.int IntKind.u32,Zc.nil,Zc.nil,Zc.int IntKind.u32,Zc.int IntKind.i64],72,false⟩
def ti37 : TI:=⟨1,TK.other,[Zc.fn],8,false⟩
def ti38 : TI:=⟨1,TK.slice 2,[Zc.nil],24,false⟩
def ti39 : TI:=⟨1,TK.other,[Zc.fn],8,false⟩
def ti40 : TI:=⟨1,TK.slice 46,[Zc.nil],24,false⟩
def ti41 : TI:=⟨1,TK.int IntKind.i64,[Zc.int IntKind.i64],8,true⟩
def ti43 : TI:=⟨1,TK.other,[Zc.fn],8,false⟩
def ti44 : TI:=⟨1,TK.other,[Zc.fn],8,false⟩
def ti45 : TI:=⟨32,TK.array 32 5,zr 32 (Zc.int IntKind.u8),32,true⟩
def ti46 : TI:=⟨32,TK.array 32 5,zr 32 (Zc.int IntKind.u8),32,true⟩
def ti47 : TI:=⟨1,TK.slice 32,[Zc.nil],24,false⟩
def ti48 : TI:=⟨68,TK.struct [(0,28),(1,46),(33,46),(65,28),(66,28),(67,28)],[Zc.int IntKind.u32]++(zr 64 (Zc.int IntKind.u8)++([Zc.int IntKind.u32,Zc.int IntKind.u32,Zc.int IntKind.u32])),80,true⟩
def ti49 : TI:=⟨68,TK.struct [(0,28),(1,46),(33,46),(65,28),(66,28),(67,28)],[Zc.int IntKind.u32]++(zr 64 (Zc.int IntKind.u8)++([Zc.int IntKind.u32,Zc.int IntKind.u32,Zc.int IntKind.u32])),80,true⟩
def ti50 : TI:=⟨69,TK.struct [(0,49),(68,47)],[Zc.int IntKind.u32]++(zr 64 (Zc.int IntKind.u8)++([Zc.int IntKind.u32,Zc.int IntKind.u32,Zc.int IntKind.u32,Zc.nil])),104,false⟩
def ti51 : TI:=⟨69,TK.struct [(0,49),(68,47)],[Zc.int IntKind.u32]++(zr 64 (Zc.int IntKind.u8)++([Zc.int IntKind.u32,Zc.int IntKind.u32,Zc.int IntKind.u32,Zc.nil])),104,false⟩
def ti52 : TI:=⟨1,TK.other,[Zc.fn],8,false⟩
def ti53 : TI:=⟨1,TK.other,[Zc.fn],8,false⟩
def ti54 : TI:=⟨33,TK.struct [(0,46),(32,28)],zr 32 (Zc.int IntKind.u8)++([Zc.int IntKind.u32]),36,true⟩
def ti55 : TI:=⟨33,TK.struct [(0,46),(32,28)],zr 32 (Zc.int IntKind.u8)++([Zc.int IntKind.u32]),36,true⟩
def ti56 : TI:=⟨1,TK.slice 59,[Zc.nil],24,false⟩
def ti57 : TI:=⟨35,TK.struct [(0,55),(33,28),(34,56)],zr 32 (Zc.int IntKind.u8)++([Zc.int IntKind.u32,Zc.int IntKind.u32,Zc.nil]),64,false⟩
def ti58 : TI:=⟨35,TK.struct [(0,55),(33,28),(34,56)],zr 32 (Zc.int IntKind.u8)++([Zc.int IntKind.u32,Zc.int IntKind.u32,Zc.nil]),64,false⟩
def ti59 : TI:=⟨1,TK.slice 5,[Zc.nil],24,false⟩
def ti60 : TI:=⟨2,TK.struct [(0,2),(1,59)],[Zc.int IntKind.i64,Zc.nil],32,false⟩
def ti61 : TI:=⟨2,TK.struct [(0,2),(1,59)],[Zc.int IntKind.i64,Zc.nil],32,false⟩
def ti62 : TI:=⟨1,TK.other,[Zc.fn],8,false⟩
def ti63 : TI:=⟨1,TK.other,[Zc.fn],8,false⟩
def ti64 : TI:=⟨1,TK.other,[Zc.fn],8,false⟩
def ti65 : TI:=⟨2,TK.struct [(0,22),(1,3)],[Zc.nil,Zc.int IntKind.i64],32,false⟩
def ti66 : TI:=⟨2,TK.struct [(0,22),(1,3)],[Zc.nil,Zc.int IntKind.i64],32,false⟩
def ti67 : TI:=⟨1,TK.other,[Zc.fn],8,false⟩
def ti68 : TI:=⟨1,TK.slice 28,[Zc.nil],24,false⟩
def ti69 : TI:=⟨1,TK.other,[Zc.fn],8,false⟩
def ti70 : TI:=⟨1,TK.other,[Zc.fn],8,false⟩
def ti71 : TI:=⟨1,TK.other,[Zc.fn],8,false⟩
def ti72 : TI:=⟨1,TK.other,[Zc.fn],8,false⟩
def ti73 : TI:=⟨1,TK.other,[Zc.fn],8,false⟩
def ti74 : TI:=⟨1,TK.other,[Zc.fn],8,false⟩
def ti75 : TI:=⟨1,TK.other,[Zc.fn],8,false⟩
def ti76 : TI:=⟨1,TK.other,[Zc.fn],8,false⟩
def ti77 : TI:=⟨1,TK.other,[Zc.fn],8,false⟩
def ti78 : TI:=⟨1,TK.map 46 4,[Zc.map],8,false⟩
def ti79 : TI:=⟨1,TK.other,[Zc.fn],8,false⟩
def ti80 : TI:=⟨1,TK.other,[Zc.fn],8,false⟩
def ti81 : TI:=⟨1,TK.other,[Zc.fn],8,false⟩
def ti82 : TI:=⟨1,TK.other,[Zc.fn],8,false⟩
def ti83 : TI:=⟨1,TK.other,[Zc.fn],8,false⟩
def ti84 : TI:=⟨1,TK.other,[Zc.fn],8,false⟩
def ti85 : TI:=⟨1,TK.other,[Zc.fn],8,false⟩
def ti86 : TI:=⟨1,TK.other,[Zc.fn],8,false⟩
def ti87 : TI:=⟨1,TK.other,[Zc.fn],8,false⟩
def ti88 : TI:=⟨1,TK.map 55 4,[Zc.map],8,false⟩
def ti89 : TI:=⟨1,TK.other,[Zc.fn],8,false⟩
def ti90 : TI:=⟨1,TK.other,[Zc.fn],8,false⟩
def ti91 : TI:=⟨1,TK.other,[Zc.fn],8,false⟩
def ti92 : TI:=⟨1,TK.other,[Zc.fn],8,false⟩
def ti93 : TI:=⟨1,TK.other,[Zc.fn],8,false⟩
def ti94 : TI:=⟨1,TK.other,[Zc.fn],8,false⟩
def ti95 : TI:=⟨1,TK.other,[Zc.fn],8,false⟩
def ti96 : TI:=⟨1,TK.other,[Zc.fn],8,false⟩
def ti97 : TI:=⟨1,TK.other,[Zc.fn],8,false⟩
def ti98 : TI:=⟨1,TK.other,[Zc.fn],8,false⟩
def ti99 : TI:=⟨1,TK.other,[Zc.fn],8,false⟩
def ti100 : TI:=⟨1,TK.other,[Zc.fn],8,false⟩
def ti101 : TI:=⟨1,TK.other,[Zc.fn],8,false⟩
def ti102 : TI:=⟨1,TK.other,[Zc.fn],8,false⟩
def ti103 : TI:=⟨1,TK.other,[Zc.fn],8,false⟩
def ti104 : TI:=⟨1,TK.other,[Zc.fn],8,false⟩
def ti105 : TI:=⟨1,TK.other,[Zc.fn],8,false⟩
def ti106 : TI:=⟨1,TK.int IntKind.u64,[Zc.int IntKind.u64],8,true⟩
def ti107 : TI:=⟨1,TK.other,[Zc.fn],8,false⟩
def ti108 : TI:=⟨1,TK.other,[Zc.fn],8,false⟩
def ti109 : TI:=⟨1,TK.other,[Zc.fn],8,false⟩
def ti111 : TI:=⟨1,TK.other,[Zc.fn],8,false⟩
def ti112 : TI:=⟨1,TK.other,[Zc.fn],8,false⟩
def ti113 : TI:=⟨1,TK.other,[Zc.fn],8,false⟩
def ti114 : TI:=⟨8,TK.array 8 28,zr 8 (Zc.int IntKind.u32),32,true⟩
def ti115 : TI:=⟨1,TK.other,[Zc.fn],8,false⟩
def ti116 : TI:=⟨64,TK.array 64 5,zr 64 (Zc.int IntKind.u8),64,true⟩
def ti117 : TI:=⟨1,TK.other,[Zc.fn],8,false⟩
def ti118 : TI:=⟨1,TK.int IntKind.u64,[Zc.int IntKind.u64],8,true⟩
def ti119 : TI:=⟨1,TK.other,[Zc.fn],8,false⟩
def ti120 : TI:=⟨1,TK.other,[Zc.fn],8,false⟩
def ti121 : TI:=⟨64,TK.array 64 28,zr 64 (Zc.int IntKind.u32),256,true⟩
def ti122 : TI:=⟨1,TK.other,[Zc.fn],8,false⟩
def ti123 : TI:=⟨1,TK.other,[Zc.fn],8,false⟩
def ti124 : TI:=⟨1,TK.other,[Zc.fn],8,false⟩
def ti125 : TI:=⟨1,TK.other,[Zc.fn],8,false⟩
def ti126 : TI:=⟨1,TK.other,[Zc.fn],8,false⟩
def ti127 : TI:=⟨1,TK.other,[Zc.fn],8,false⟩
def ti128 : TI:=⟨1,TK.int IntKind.u16,[Zc.int IntKind.u16],2,true⟩
def ti129 : TI:=⟨1,TK.other,[Zc.fn],8,false⟩
def ti130 : TI:=⟨4,TK.struct [(0,17),(1,17),(2,17),(3,9)],[Zc.ptr,Zc.ptr,Zc.ptr,Zc.str],40,false⟩
def ti131 : TI:=⟨4,TK.struct [(0,17),(1,17),(2,17),(3,9)],[Zc.ptr,Zc.ptr,Zc.ptr,Zc.str],40,false⟩
def ti132 : TI:=⟨0,TK.array 0 16,[],0,false⟩
def ti133 : TI:=⟨0,TK.struct [(0,132)],[],0,false⟩
def ti134 : TI:=⟨0,TK.struct [(0,132)],[],0,false⟩
def ti135 : TI:=⟨1,TK.other,[Zc.fn],8,false⟩
def ti136 : TI:=⟨1,TK.int IntKind.u8,[Zc.int IntKind.u8],1,true⟩
def ti137 : TI:=⟨1,TK.int IntKind.u8,[Zc.int IntKind.u8],1,true⟩
def ti138 : TI:=⟨1,TK.other,[Zc.fn],8,false⟩
def ti139 : TI:=⟨1,TK.other,[Zc.ptr],8,false⟩
def ti140 : TI:=⟨1,TK.int IntKind.i32,[Zc.int IntKind.i32],4,true⟩
def ti141 : TI:=⟨1,TK.int IntKind.i32,[Zc.int IntKind.i32],4,true⟩
def ti142 : TI:=⟨11,TK.struct [(0,12),(1,12),(2,28),(3,136),(4,5),(5,5),(6,137),(7,138),(8,139),(9,140),(10,141)],[Zc.int IntKind.u64,Zc.int IntKind.u64,Zc.int IntKind.u32]++(zr 4 (Zc.int IntKind.u8)++([Zc.fn,Zc.ptr,Zc.int IntKind.i32,Zc.int IntKind.i32])),48,false⟩
def ti143 : TI:=⟨11,TK.struct [(0,12),(1,12),(2,28),(3,136),(4,5),(5,5),(6,137),(7,138),(8,139),(9,140),(10,141)],[Zc.int IntKind.u64,Zc.int IntKind.u64,Zc.int IntKind.u32]++(zr 4 (Zc.int IntKind.u8)++([Zc.fn,Zc.ptr,Zc.int IntKind.i32,Zc.int IntKind.i32])),48,false⟩
def ti144 : TI:=⟨1,TK.other,[Zc.ptr],8,false⟩
def ttL : List (Option TI):=[none,some ti1,some ti2,some ti3,some ti4,some ti5,some ti6,some ti7,some ti8,some ti9,some ti10,some ti11,some ti12,some ti13,some ti14,some ti15,some ti16,some ti17,some ti18,some ti19,none,some ti21,some ti22,some ti23,some ti24,some ti25,some ti26,some ti27,some ti28,some ti29,some ti30,some ti31,some ti32,some ti33,some ti34,some ti35,some ti36,some ti37,some ti38,some ti39,some ti40,some ti41,none,some ti43,some ti44,some ti45,some ti46,some ti47,some ti48,some ti49,some ti50,some ti51,some ti52,some ti53,some ti54,some ti55,some ti56,some ti57,some ti58,some ti59,some ti60,some ti61,some ti62,some ti63,some ti64,some ti65,some ti66,some ti67,some ti68,some ti69,some ti70,some ti71,some ti72,some ti73,some ti74,some ti75,some ti76,some ti77,some ti78,some ti79,some ti80,some ti81,some ti82,some ti83,some ti84,some ti85,some ti86,some ti87,some ti88,some ti89,some ti90,some ti91,some ti92,some ti93,some ti94,some ti95,some ti96,some ti97,some ti98,some ti99,some ti100,some ti101,some ti102,some ti103,some ti104,some ti105,some ti106,some ti107,some ti108,some ti109,none,some ti111,some ti112,some ti113,some ti114,some ti115,some ti116,some ti117,some ti118,some ti119,some ti120,some ti121,some ti122,some ti123,some ti124,some ti125,some ti126,some ti127,some ti128,some ti129,some ti130,some ti131,some ti132,some ti133,some ti134,some ti135,some ti136,some ti137,some ti138,some ti139,some ti140,some ti141,some ti142,some ti143,some ti144]
def tt : TT:=fun t=>(ttL[t]?).getD none
theorem tt1 : tt 1 = some ti1:=rfl
theorem tt2 : tt 2 = some ti2:=rfl
theorem tt3 : tt 3 = some ti3:=rfl
theorem tt4 : tt 4 = some ti4:=rfl
theorem tt5 : tt 5 = some ti5:=rfl
theorem tt6 : tt 6 = some ti6:=rfl
theorem tt7 : tt 7 = some ti7:=rfl
theorem tt8 : tt 8 = some ti8:=rfl
theorem tt9 : tt 9 = some ti9:=rfl
theorem tt10 : tt 10 = some ti10:=rfl
theorem tt11 : tt 11 = some ti11:=rfl
theorem tt12 : tt 12 = some ti12:=rfl
theorem tt13 : tt 13 = some ti13:=rfl
theorem tt14 : tt 14 = some ti14:=rfl
theorem tt15 : tt 15 = some ti15:=rfl
theorem tt16 : tt 16 = some ti16:=rfl
theorem tt17 : tt 17 = some ti17:=rfl
theorem tt18 : tt 18 = some ti18:=rfl
theorem tt19 : tt 19 = some ti19:=rfl
theorem tt21 : tt 21 = some ti21:=rfl
theorem tt22 : tt 22 = some ti22:=rfl
theorem tt23 : tt 23 = some ti23:=rfl
theorem tt24 : tt 24 = some ti24:=rfl
theorem tt25 : tt 25 = some ti25:=rfl
theorem tt26 : tt 26 = some ti26:=rfl
theorem tt27 : tt 27 = some ti27:=rfl
theorem tt28 : tt 28 = some ti28:=rfl
theorem tt29 : tt 29 = some ti29:=rfl
theorem tt30 : tt 30 = some ti30:=rfl
theorem tt31 : tt 31 = some ti31:=rfl
theorem tt32 : tt 32 = some ti32:=rfl
theorem tt33 : tt 33 = some ti33:=rfl
theorem tt34 : tt 34 = some ti34:=rfl
theorem tt35 : tt 35 = some ti35:=rfl
theorem tt36 : tt 36 = some ti36:=rfl
theorem tt37 : tt 37 = some ti37:=rfl
theorem tt38 : tt 38 = some ti38:=rfl
theorem tt39 : tt 39 = some ti39:=rfl
theorem tt40 : tt 40 = some ti40:=rfl
theorem tt41 : tt 41 = some ti41:=rfl
theorem tt43 : tt 43 = some ti43:=rfl
theorem tt44 : tt 44 = some ti44:=rfl
theorem tt45 : tt 45 = some ti45:=rfl
theorem tt46 : tt 46 = some ti46:=rfl
theorem tt47 : tt 47 = some ti47:=rfl
theorem tt48 : tt 48 = some ti48:=rfl
theorem tt49 : tt 49 = some ti49:=rfl
theorem tt50 : tt 50 = some ti50:=rfl
theorem tt51 : tt 51 = some ti51:=rfl
theorem tt52 : tt 52 = some ti52:=rfl
theorem tt53 : tt 53 = some ti53:=rfl
theorem tt54 : tt 54 = some ti54:=rfl
theorem tt55 : tt 55 = some ti55:=rfl
theorem tt56 : tt 56 = some ti56:=rfl
theorem tt57 : tt 57 = some ti57:=rfl
theorem tt58 : tt 58 = some ti58:=rfl
theorem tt59 : tt 59 = some ti59:=rfl
theorem tt60 : tt 60 = some ti60:=rfl
theorem tt61 : tt 61 = some ti61:=rfl
theorem tt62 : tt 62 = some ti62:=rfl
theorem tt63 : tt 63 = some ti63:=rfl
theorem tt64 : tt 64 = some ti64:=rfl
theorem tt65 : tt 65 = some ti65:=rfl
theorem tt66 : tt 66 = some ti66:=rfl
theorem tt67 : tt 67 = some ti67:=rfl
theorem tt68 : tt 68 = some ti68:=rfl
theorem tt69 : tt 69 = some ti69:=rfl
theorem tt70 : tt 70 = some ti70:=rfl
theorem tt71 : tt 71 = some ti71:=rfl
theorem tt72 : tt 72 = some ti72:=rfl
theorem tt73 : tt 73 = some ti73:=rfl
theorem tt74 : tt 74 = some ti74:=rfl
theorem tt75 : tt 75 = some ti75:=rfl
theorem tt76 : tt 76 = some ti76:=rfl
theorem tt77 : tt 77 = some ti77:=rfl
theorem tt78 : tt 78 = some ti78:=rfl
theorem tt79 : tt 79 = some ti79:=rfl
theorem tt80 : tt 80 = some ti80:=rfl
theorem tt81 : tt 81 = some ti81:=rfl
theorem tt82 : tt 82 = some ti82:=rfl
theorem tt83 : tt 83 = some ti83:=rfl
theorem tt84 : tt 84 = some ti84:=rfl
theorem tt85 : tt 85 = some ti85:=rfl
theorem tt86 : tt 86 = some ti86:=rfl
theorem tt87 : tt 87 = some ti87:=rfl
theorem tt88 : tt 88 = some ti88:=rfl
theorem tt89 : tt 89 = some ti89:=rfl
theorem tt90 : tt 90 = some ti90:=rfl
theorem tt91 : tt 91 = some ti91:=rfl
theorem tt92 : tt 92 = some ti92:=rfl
theorem tt93 : tt 93 = some ti93:=rfl
theorem tt94 : tt 94 = some ti94:=rfl
theorem tt95 : tt 95 = some ti95:=rfl
theorem tt96 : tt 96 = some ti96:=rfl
theorem tt97 : tt 97 = some ti97:=rfl
theorem tt98 : tt 98 = some ti98:=rfl
theorem tt99 : tt 99 = some ti99:=rfl
theorem tt100 : tt 100 = some ti100:=rfl
theorem tt101 : tt 101 = some ti101:=rfl
theorem tt102 : tt 102 = some ti102:=rfl
theorem tt103 : tt 103 = some ti103:=rfl
theorem tt104 : tt 104 = some ti104:=rfl
theorem tt105 : tt 105 = some ti105:=rfl
theorem tt106 : tt 106 = some ti106:=rfl
theorem tt107 : tt 107 = some ti107:=rfl
theorem tt108 : tt 108 = some ti108:=rfl
theorem tt109 : tt 109 = some ti109:=rfl
theorem tt111 : tt 111 = some ti111:=rfl
theorem tt112 : tt 112 = some ti112:=rfl
theorem tt113 : tt 113 = some ti113:=rfl
theorem tt114 : tt 114 = some ti114:=rfl
theorem tt115 : tt 115 = some ti115:=rfl
theorem tt116 : tt 116 = some ti116:=rfl
theorem tt117 : tt 117 = some ti117:=rfl
theorem tt118 : tt 118 = some ti118:=rfl
theorem tt119 : tt 119 = some ti119:=rfl
theorem tt120 : tt 120 = some ti120:=rfl
theorem tt121 : tt 121 = some ti121:=rfl
theorem tt122 : tt 122 = some ti122:=rfl
theorem tt123 : tt 123 = some ti123:=rfl
theorem tt124 : tt 124 = some ti124:=rfl
theorem tt125 : tt 125 = some ti125:=rfl
theorem tt126 : tt 126 = some ti126:=rfl
theorem tt127 : tt 127 = some ti127:=rfl
theorem tt128 : tt 128 = some ti128:=rfl
theorem tt129 : tt 129 = some ti129:=rfl
theorem tt130 : tt 130 = some ti130:=rfl
theorem tt131 : tt 131 = some ti131:=rfl
theorem tt132 : tt 132 = some ti132:=rfl
theorem tt133 : tt 133 = some ti133:=rfl
theorem tt134 : tt 134 = some ti134:=rfl
theorem tt135 : tt 135 = some ti135:=rfl
theorem tt136 : tt 136 = some ti136:=rfl
theorem tt137 : tt 137 = some ti137:=rfl
theorem tt138 : tt 138 = some ti138:=rfl
theorem tt139 : tt 139 = some ti139:=rfl
theorem tt140 : tt 140 = some ti140:=rfl
theorem tt141 : tt 141 = some ti141:=rfl
theorem tt142 : tt 142 = some ti142:=rfl
theorem tt143 : tt 143 = some ti143:=rfl
theorem tt144 : tt 144 = some ti144:=rfl
theorem ttAll : (ttL.zipIdx.all fun x=>x.1.isNone || decide (tinfo Tryz.prog x.2 = x.1)) = true:=by kernel_rfl
theorem htt : ∀ t i,tt t = some i→tinfo Tryz.prog t = some i:=by
  intro t i h;unfold tt at h;cases ht : ttL[t]? with
  | none=>simp [ht] at h
  | some o =>
    simp [ht] at h
    subst h;have:=List.all_eq_true.1 ttAll (some i,t) (List.mem_zipIdx_iff_getElem?.2 ht);simpa using this
theorem mixed : Tryz.prog.follows .mixedOrders = true:=by kernel_rfl
end Go.Proofs.YtjdoijdjeapekaaGreatDoor
