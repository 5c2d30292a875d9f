import Derived.Test.YthpkpciceodioaaGreatDoorAvP3
import Derived.Test.YthpkpciceodioaaGreatDoorProg
namespace Go.Proofs.YthpkpciceodioaaGreatDoor
open Go.Av
set_option maxRecDepth 1000000
def ti1:TI:=⟨1,TK.other,[Zc.fn],8,false⟩
def ti2:TI:=⟨1,TK.int IntKind.i64,[Zc.int IntKind.i64],8,true⟩
def ti3:TI:=⟨1,TK.int IntKind.i64,[Zc.int IntKind.i64],8,true⟩
def ti4:TI:=⟨1,TK.bool,[Zc.bool],1,false⟩
def ti5:TI:=⟨1,TK.int IntKind.u8,[Zc.int IntKind.u8],1,true⟩
def ti6:TI:=⟨1,TK.int IntKind.u8,[Zc.int IntKind.u8],1,true⟩
def ti7:TI:=⟨4,TK.struct [(0,2),(1,3),(2,4),(3,6)],[Zc.int IntKind.i64,Zc.int IntKind.i64,Zc.bool,Zc.int IntKind.u8],24,false⟩
def ti8:TI:=⟨4,TK.struct [(0,2),(1,3),(2,4),(3,6)],[Zc.int IntKind.i64,Zc.int IntKind.i64,Zc.bool,Zc.int IntKind.u8],24,false⟩
def ti9:TI:=⟨1,TK.str,[Zc.str],16,false⟩
def ti10:TI:=⟨1,TK.str,[Zc.str],16,false⟩
def ti11:TI:=⟨1,TK.str,[Zc.str],16,false⟩
def ti12:TI:=⟨1,TK.int IntKind.u64,[Zc.int IntKind.u64],8,true⟩
def ti13:TI:=⟨2,TK.struct [(0,9),(1,12)],[Zc.str,Zc.int IntKind.u64],24,false⟩
def ti14:TI:=⟨2,TK.struct [(0,9),(1,12)],[Zc.str,Zc.int IntKind.u64],24,false⟩
def ti15:TI:=⟨1,TK.other,[Zc.ptr],8,false⟩
def ti16:TI:=⟨1,TK.other,[Zc.ptr],8,false⟩
def ti17:TI:=⟨1,TK.other,[Zc.ptr],8,false⟩
def ti18:TI:=⟨1,TK.struct [(0,17)],[Zc.ptr],8,false⟩
def ti19:TI:=⟨1,TK.struct [(0,17)],[Zc.ptr],8,false⟩
def ti21:TI:=⟨1,TK.int IntKind.i32,[Zc.int IntKind.i32],4,true⟩
def ti22:TI:=⟨1,TK.int IntKind.u32,[Zc.int IntKind.u32],4,true⟩
def ti23:TI:=⟨32,TK.array 32 5,zr 32 (Zc.int IntKind.u8),32,true⟩
def ti24:TI:=⟨32,TK.array 32 5,zr 32 (Zc.int IntKind.u8),32,true⟩
def ti25:TI:=⟨68,TK.struct [(0,22),(1,24),(33,24),(65,22),(66,22),(67,22)],[Zc.int IntKind.u32]++(zr 64 (Zc.int IntKind.u8)++([Zc.int IntKind.u32,Zc.int IntKind.u32,Zc.int IntKind.u32])),80,true⟩
def ti26:TI:=⟨68,TK.struct [(0,22),(1,24),(33,24),(65,22),(66,22),(67,22)],[Zc.int IntKind.u32]++(zr 64 (Zc.int IntKind.u8)++([Zc.int IntKind.u32,Zc.int IntKind.u32,Zc.int IntKind.u32])),80,true⟩
def ti27:TI:=⟨1,TK.slice 64,[Zc.nil],24,false⟩
def ti28:TI:=⟨69,TK.struct [(0,26),(68,27)],[Zc.int IntKind.u32]++(zr 64 (Zc.int IntKind.u8)++([Zc.int IntKind.u32,Zc.int IntKind.u32,Zc.int IntKind.u32,Zc.nil])),104,false⟩
def ti29:TI:=⟨69,TK.struct [(0,26),(68,27)],[Zc.int IntKind.u32]++(zr 64 (Zc.int IntKind.u8)++([Zc.int IntKind.u32,Zc.int IntKind.u32,Zc.int IntKind.u32,Zc.nil])),104,false⟩
def ti30:TI:=⟨1,TK.other,[Zc.fn],8,false⟩
def ti31:TI:=⟨1,TK.other,[Zc.fn],8,false⟩
def ti32:TI:=⟨1,TK.slice 5,[Zc.nil],24,false⟩
def ti33:TI:=⟨2,TK.struct [(0,3),(1,32)],[Zc.int IntKind.i64,Zc.nil],32,false⟩
def ti34:TI:=⟨2,TK.struct [(0,3),(1,32)],[Zc.int IntKind.i64,Zc.nil],32,false⟩
def ti35:TI:=⟨1,TK.int IntKind.i64,[Zc.int IntKind.i64],8,true⟩
def ti37:TI:=⟨1,TK.other,[Zc.fn],8,false⟩
def ti38:TI:=⟨1,TK.other,[Zc.fn],8,false⟩
def ti39:TI:=⟨1,TK.slice 32,[Zc.nil],24,false⟩
def ti40:TI:=⟨1,TK.other,[Zc.fn],8,false⟩
def ti41:TI:=⟨1,TK.other,[Zc.fn],8,false⟩
def ti42:TI:=⟨1,TK.other,[Zc.fn],8,false⟩
def ti44:TI:=⟨1,TK.other,[Zc.fn],8,false⟩
def ti45:TI:=⟨1,TK.other,[Zc.fn],8,false⟩
def ti46:TI:=⟨1,TK.int IntKind.u64,[Zc.int IntKind.u64],8,true⟩
def ti47:TI:=⟨4,TK.array 4 46,zr 4 (Zc.int IntKind.u64),32,true⟩
def ti48:TI:=⟨4,TK.array 4 46,zr 4 (Zc.int IntKind.u64),32,true⟩
def ti49:TI:=⟨1,TK.slice 183,[Zc.nil],24,false⟩
def ti50:TI:=⟨80,TK.struct [(0,26),(68,48),(72,3),(73,22),(74,22),(75,22),(76,49),(77,2),(78,3),(79,3)],[Zc.int IntKind.u32]++(zr 64 (Zc.int IntKind.u8)++([Zc.int IntKind.u32,Zc.int IntKind.u32,Zc.int IntKind.u32]++(zr 4 (Zc.int IntKind.u64)++([Zc.int IntKind.i64,Zc.int IntKind.u32,Zc.int IntKind.u32,Zc.int IntKind.u32,Zc.nil,Zc.int IntKind.i64,Zc.int IntKind.i64,Zc.int IntKind.i64])))),184,false⟩
def ti51:TI:=⟨80,TK.struct [(0,26),(68,48),(72,3),(73,22),(74,22),(75,22),(76,49),(77,2),(78,3),(79,3)],[Zc.int IntKind.u32]++(zr 64 (Zc.int IntKind.u8)++([Zc.int IntKind.u32,Zc.int IntKind.u32,Zc.int IntKind.u32]++(zr 4 (Zc.int IntKind.u64)++([Zc.int IntKind.i64,Zc.int IntKind.u32,Zc.int IntKind.u32,Zc.int IntKind.u32,Zc.nil,Zc.int IntKind.i64,Zc.int IntKind.i64,Zc.int IntKind.i64])))),184,false⟩
def ti52:TI:=⟨1,TK.slice 29,[Zc.nil],24,false⟩
def ti53:TI:=⟨1,TK.slice 121,[Zc.nil],24,false⟩
def ti54:TI:=⟨1,TK.slice 124,[Zc.nil],24,false⟩
def ti55:TI:=⟨1,TK.slice 127,[Zc.nil],24,false⟩
def ti56:TI:=⟨84,TK.struct [(0,51),(80,52),(81,53),(82,54),(83,55)],[Zc.int IntKind.u32]++(zr 64 (Zc.int IntKind.u8)++([Zc.int IntKind.u32,Zc.int IntKind.u32,Zc.int IntKind.u32]++(zr 4 (Zc.int IntKind.u64)++([Zc.int IntKind.i64,Zc.int IntKind.u32,Zc.int IntKind.u32,Zc.int IntKind.u32,Zc.nil,Zc.int IntKind.i64,Zc.int IntKind.i64,Zc.int IntKind.i64]++(zr 4 (Zc.nil)))))),280,false⟩
def ti57:TI:=⟨84,TK.struct [(0,51),(80,52),(81,53),(82,54),(83,55)],[Zc.int IntKind.u32]++(zr 64 (Zc.int IntKind.u8)++([Zc.int IntKind.u32,Zc.int IntKind.u32,Zc.int IntKind.u32]++(zr 4 (Zc.int IntKind.u64)++([Zc.int IntKind.i64,Zc.int IntKind.u32,Zc.int IntKind.u32,Zc.int IntKind.u32,Zc.nil,Zc.int IntKind.i64,Zc.int IntKind.i64,Zc.int IntKind.i64]++(zr 4 (Zc.nil)))))),280,false⟩
def ti58:TI:=⟨1,TK.other,[Zc.fn],8,false⟩
def ti59:TI:=⟨1,TK.other,[Zc.fn],8,false⟩
def ti60:TI:=⟨1,TK.other,[Zc.fn],8,false⟩
def ti61:TI:=⟨1,TK.slice 70,[Zc.nil],24,false⟩
def ti62:TI:=⟨1,TK.slice 66,[Zc.nil],24,false⟩
def ti63:TI:=⟨4,TK.struct [(0,22),(1,61),(2,62),(3,22)],[Zc.int IntKind.u32,Zc.nil,Zc.nil,Zc.int IntKind.u32],64,false⟩
def ti64:TI:=⟨4,TK.struct [(0,22),(1,61),(2,62),(3,22)],[Zc.int IntKind.u32,Zc.nil,Zc.nil,Zc.int IntKind.u32],64,false⟩
def ti65:TI:=⟨2,TK.struct [(0,2),(1,32)],[Zc.int IntKind.i64,Zc.nil],32,false⟩
def ti66:TI:=⟨2,TK.struct [(0,2),(1,32)],[Zc.int IntKind.i64,Zc.nil],32,false⟩
def ti67:TI:=⟨33,TK.struct [(0,24),(32,22)],zr 32 (Zc.int IntKind.u8)++([Zc.int IntKind.u32]),36,true⟩
def ti68:TI:=⟨33,TK.struct [(0,24),(32,22)],zr 32 (Zc.int IntKind.u8)++([Zc.int IntKind.u32]),36,true⟩
def ti69:TI:=⟨35,TK.struct [(0,68),(33,22),(34,39)],zr 32 (Zc.int IntKind.u8)++([Zc.int IntKind.u32,Zc.int IntKind.u32,Zc.nil]),64,false⟩
def ti70:TI:=⟨35,TK.struct [(0,68),(33,22),(34,39)],zr 32 (Zc.int IntKind.u8)++([Zc.int IntKind.u32,Zc.int IntKind.u32,Zc.nil]),64,false⟩
def ti72:TI:=⟨1,TK.other,[Zc.fn],8,false⟩
def ti73:TI:=⟨1,TK.other,[Zc.fn],8,false⟩
def ti74:TI:=⟨1,TK.other,[Zc.fn],8,false⟩
def ti75:TI:=⟨1,TK.other,[Zc.fn],8,false⟩
def ti77:TI:=⟨1,TK.other,[Zc.fn],8,false⟩
def ti78:TI:=⟨1,TK.other,[Zc.fn],8,false⟩
def ti79:TI:=⟨1,TK.other,[Zc.fn],8,false⟩
def ti80:TI:=⟨1,TK.other,[Zc.fn],8,false⟩
def ti81:TI:=⟨1,TK.other,[Zc.fn],8,false⟩
def ti82:TI:=⟨1,TK.other,[Zc.fn],8,false⟩
def ti83:TI:=⟨1,TK.other,[Zc.fn],8,false⟩
def ti85:TI:=⟨2,TK.array 2 46,[Zc.int IntKind.u64,Zc.int IntKind.u64],16,true⟩
def ti86:TI:=⟨2,TK.array 2 46,[Zc.int IntKind.u64,Zc.int IntKind.u64],16,true⟩
def ti107:TI:=⟨1,TK.map 9 4,[Zc.map],8,false⟩
def ti109:TI:=⟨1,TK.slice 46,[Zc.nil],24,false⟩
def ti119:TI:=⟨1,TK.slice 172,[Zc.nil],24,false⟩
def ti120:TI:=⟨34,TK.struct [(0,3),(1,24),(33,119)],[Zc.int IntKind.i64]++(zr 32 (Zc.int IntKind.u8)++([Zc.nil])),64,false⟩
def ti121:TI:=⟨34,TK.struct [(0,3),(1,24),(33,119)],[Zc.int IntKind.i64]++(zr 32 (Zc.int IntKind.u8)++([Zc.nil])),64,false⟩
def ti122:TI:=⟨1,TK.slice 22,[Zc.nil],24,false⟩
def ti123:TI:=⟨36,TK.struct [(0,3),(1,24),(33,22),(34,22),(35,122)],[Zc.int IntKind.i64]++(zr 32 (Zc.int IntKind.u8)++([Zc.int IntKind.u32,Zc.int IntKind.u32,Zc.nil])),72,false⟩
def ti124:TI:=⟨36,TK.struct [(0,3),(1,24),(33,22),(34,22),(35,122)],[Zc.int IntKind.i64]++(zr 32 (Zc.int IntKind.u8)++([Zc.int IntKind.u32,Zc.int IntKind.u32,Zc.nil])),72,false⟩
def ti126:TI:=⟨1,TK.struct [(0,119)],[Zc.nil],24,false⟩
def ti127:TI:=⟨1,TK.struct [(0,119)],[Zc.nil],24,false⟩
def ti140:TI:=⟨1,TK.int IntKind.u16,[Zc.int IntKind.u16],2,true⟩
def ti151:TI:=⟨2,TK.struct [(0,32),(1,3)],[Zc.nil,Zc.int IntKind.i64],32,false⟩
def ti152:TI:=⟨2,TK.struct [(0,32),(1,3)],[Zc.nil,Zc.int IntKind.i64],32,false⟩
def ti171:TI:=⟨37,TK.struct [(0,68),(33,66),(35,3),(36,4)],zr 32 (Zc.int IntKind.u8)++([Zc.int IntKind.u32,Zc.int IntKind.i64,Zc.nil,Zc.int IntKind.i64,Zc.bool]),88,false⟩
def ti172:TI:=⟨37,TK.struct [(0,68),(33,66),(35,3),(36,4)],zr 32 (Zc.int IntKind.u8)++([Zc.int IntKind.u32,Zc.int IntKind.i64,Zc.nil,Zc.int IntKind.i64,Zc.bool]),88,false⟩
def ti182:TI:=⟨33,TK.struct [(0,3),(1,24)],[Zc.int IntKind.i64]++(zr 32 (Zc.int IntKind.u8)),40,true⟩
def ti183:TI:=⟨33,TK.struct [(0,3),(1,24)],[Zc.int IntKind.i64]++(zr 32 (Zc.int IntKind.u8)),40,true⟩
def ti189:TI:=⟨8,TK.array 8 22,zr 8 (Zc.int IntKind.u32),32,true⟩
def ti191:TI:=⟨64,TK.array 64 5,zr 64 (Zc.int IntKind.u8),64,true⟩
def ti193:TI:=⟨1,TK.int IntKind.u64,[Zc.int IntKind.u64],8,true⟩
def ti199:TI:=⟨1,TK.other,[Zc.ptr],8,false⟩
def ti203:TI:=⟨2,TK.struct [(0,152)],[Zc.nil,Zc.int IntKind.i64],32,false⟩
def ti204:TI:=⟨2,TK.struct [(0,152)],[Zc.nil,Zc.int IntKind.i64],32,false⟩
def ti207:TI:=⟨4,TK.array 4 46,zr 4 (Zc.int IntKind.u64),32,true⟩
def ti222:TI:=⟨1,TK.slice 24,[Zc.nil],24,false⟩
def ti238:TI:=⟨64,TK.array 64 22,zr 64 (Zc.int IntKind.u32),256,true⟩
def ti246:TI:=⟨1,TK.int IntKind.i64,[Zc.int IntKind.i64],8,true⟩
def ti256:TI:=⟨1,TK.slice 222,[Zc.nil],24,false⟩
def ti265:TI:=⟨34,TK.struct [(0,24),(32,3),(33,3)],zr 32 (Zc.int IntKind.u8)++([Zc.int IntKind.i64,Zc.int IntKind.i64]),48,true⟩
def ti266:TI:=⟨34,TK.struct [(0,24),(32,3),(33,3)],zr 32 (Zc.int IntKind.u8)++([Zc.int IntKind.i64,Zc.int IntKind.i64]),48,true⟩
def ti274:TI:=⟨1,TK.int IntKind.u64,[Zc.int IntKind.u64],8,true⟩
def ti278:TI:=⟨1,TK.other,[Zc.ptr],8,false⟩
def ti280:TI:=⟨1,TK.slice 68,[Zc.nil],24,false⟩
def ti285:TI:=⟨8,TK.array 8 46,zr 8 (Zc.int IntKind.u64),64,true⟩
def ti289:TI:=⟨1,TK.other,[Zc.ptr],8,false⟩
def ti292:TI:=⟨1,TK.slice 299,[Zc.nil],24,false⟩
def ti297:TI:=⟨1,TK.slice 302,[Zc.nil],24,false⟩
def ti298:TI:=⟨4,TK.struct [(0,3),(1,32),(2,3),(3,3)],[Zc.int IntKind.i64,Zc.nil,Zc.int IntKind.i64,Zc.int IntKind.i64],48,false⟩
def ti299:TI:=⟨4,TK.struct [(0,3),(1,32),(2,3),(3,3)],[Zc.int IntKind.i64,Zc.nil,Zc.int IntKind.i64,Zc.int IntKind.i64],48,false⟩
def ti301:TI:=⟨2,TK.struct [(0,4),(1,4)],[Zc.bool,Zc.bool],2,false⟩
def ti302:TI:=⟨2,TK.struct [(0,4),(1,4)],[Zc.bool,Zc.bool],2,false⟩
def ti308:TI:=⟨1,TK.slice 4,[Zc.nil],24,false⟩
def ti328:TI:=⟨4,TK.struct [(0,17),(1,17),(2,17),(3,9)],[Zc.ptr,Zc.ptr,Zc.ptr,Zc.str],40,false⟩
def ti329:TI:=⟨4,TK.struct [(0,17),(1,17),(2,17),(3,9)],[Zc.ptr,Zc.ptr,Zc.ptr,Zc.str],40,false⟩
def ti330:TI:=⟨0,TK.array 0 16,[],0,false⟩
def ti331:TI:=⟨0,TK.struct [(0,330)],[],0,false⟩
def ti332:TI:=⟨0,TK.struct [(0,330)],[],0,false⟩
def ti334:TI:=⟨1,TK.int IntKind.u8,[Zc.int IntKind.u8],1,true⟩
def ti335:TI:=⟨1,TK.int IntKind.u8,[Zc.int IntKind.u8],1,true⟩
def ti336:TI:=⟨1,TK.other,[Zc.fn],8,false⟩
def ti337:TI:=⟨1,TK.other,[Zc.ptr],8,false⟩
def ti338:TI:=⟨1,TK.int IntKind.i32,[Zc.int IntKind.i32],4,true⟩
def ti339:TI:=⟨1,TK.int IntKind.i32,[Zc.int IntKind.i32],4,true⟩
def ti340:TI:=⟨11,TK.struct [(0,12),(1,12),(2,22),(3,334),(4,5),(5,5),(6,335),(7,336),(8,337),(9,338),(10,339)],[Zc.int IntKind.u64,Zc.int IntKind.u64,Zc.int IntKind.u32]++(zr 4 (Zc.int IntKind.u8)++([Zc.fn,Zc.ptr,Zc.int IntKind.i32,Zc.int IntKind.i32])),48,false⟩
def ti341:TI:=⟨11,TK.struct [(0,12),(1,12),(2,22),(3,334),(4,5),(5,5),(6,335),(7,336),(8,337),(9,338),(10,339)],[Zc.int IntKind.u64,Zc.int IntKind.u64,Zc.int IntKind.u32]++(zr 4 (Zc.int IntKind.u8)++([Zc.fn,Zc.ptr,Zc.int IntKind.i32,Zc.int IntKind.i32])),48,false⟩
def ttL:List (Option TI):=[none,some ti1,some ti2,some ti3,some ti4,some ti5,some ti6,some ti7,some ti8,some ti9,some ti10,some ti11,some ti12,some ti13,some ti14,some ti15,some ti16,some ti17,some ti18,some ti19,none,some ti21,some ti22,some ti23,some ti24,some ti25,some ti26,some ti27,some ti28,some ti29,some ti30,some ti31,some ti32,some ti33,some ti34,some ti35,none,some ti37,some ti38,some ti39,some ti40,some ti41,some ti42,none,some ti44,some ti45,some ti46,some ti47,some ti48,some ti49,some ti50,some ti51,some ti52,some ti53,some ti54,some ti55,some ti56,some ti57,some ti58,some ti59,some ti60,some ti61,some ti62,some ti63,some ti64,some ti65,some ti66,some ti67,some ti68,some ti69,some ti70,none,some ti72,some ti73,some ti74,some ti75,none,some ti77,some ti78,some ti79,some ti80,some ti81,some ti82,some ti83,none,some ti85,some ti86,none,none,none,none,none,none,none,none,none,none,none,none,none,none,none,none,none,none,none,none,some ti107,none,some ti109,none,none,none,none,none,none,none,none,none,some ti119,some ti120,some ti121,some ti122,some ti123,some ti124,none,some ti126,some ti127,none,none,none,none,none,none,none,none,none,none,none,none,some ti140,none,none,none,none,none,none,none,none,none,none,some ti151,some ti152,none,none,none,none,none,none,none,none,none,none,none,none,none,none,none,none,none,none,some ti171,some ti172,none,none,none,none,none,none,none,none,none,some ti182,some ti183,none,none,none,none,none,some ti189,none,some ti191,none,some ti193,none,none,none,none,none,some ti199,none,none,none,some ti203,some ti204,none,none,some ti207,none,none,none,none,none,none,none,none,none,none,none,none,none,none,some ti222,none,none,none,none,none,none,none,none,none,none,none,none,none,none,none,some ti238,none,none,none,none,none,none,none,some ti246,none,none,none,none,none,none,none,none,none,some ti256,none,none,none,none,none,none,none,none,some ti265,some ti266,none,none,none,none,none,none,none,some ti274,none,none,none,some ti278,none,some ti280,none,none,none,none,some ti285,none,none,none,some ti289,none,none,some ti292,none,none,none,none,some ti297,some ti298,some ti299,none,some ti301,some ti302,none,none,none,none,none,some ti308,none,none,none,none,none,none,none,none,none,none,none,none,none,none,none,none,none,none,none,some ti328,some ti329,some ti330,some ti331,some ti332,none,some ti334,some ti335,some ti336,some ti337,some ti338,some ti339,some ti340,some ti341,none]
def tt:TT:=fun t=>(ttL[t]?).getD none
theorem tt1:tt 1=some ti1:=rfl
theorem tt2:tt 2=some ti2:=rfl
theorem tt3:tt 3=some ti3:=rfl
theorem tt4:tt 4=some ti4:=rfl
theorem tt5:tt 5=some ti5:=rfl
theorem tt6:tt 6=some ti6:=rfl
theorem tt7:tt 7=some ti7:=rfl
theorem tt8:tt 8=some ti8:=rfl
theorem tt9:tt 9=some ti9:=rfl
theorem tt10:tt 10=some ti10:=rfl
theorem tt11:tt 11=some ti11:=rfl
theorem tt12:tt 12=some ti12:=rfl
theorem tt13:tt 13=some ti13:=rfl
theorem tt14:tt 14=some ti14:=rfl
theorem tt15:tt 15=some ti15:=rfl
theorem tt16:tt 16=some ti16:=rfl
theorem tt17:tt 17=some ti17:=rfl
theorem tt18:tt 18=some ti18:=rfl
theorem tt19:tt 19=some ti19:=rfl
theorem tt21:tt 21=some ti21:=rfl
theorem tt22:tt 22=some ti22:=rfl
theorem tt23:tt 23=some ti23:=rfl
theorem tt24:tt 24=some ti24:=rfl
theorem tt25:tt 25=some ti25:=rfl
theorem tt26:tt 26=some ti26:=rfl
theorem tt27:tt 27=some ti27:=rfl
theorem tt28:tt 28=some ti28:=rfl
theorem tt29:tt 29=some ti29:=rfl
theorem tt30:tt 30=some ti30:=rfl
theorem tt31:tt 31=some ti31:=rfl
theorem tt32:tt 32=some ti32:=rfl
theorem tt33:tt 33=some ti33:=rfl
theorem tt34:tt 34=some ti34:=rfl
theorem tt35:tt 35=some ti35:=rfl
theorem tt37:tt 37=some ti37:=rfl
theorem tt38:tt 38=some ti38:=rfl
theorem tt39:tt 39=some ti39:=rfl
theorem tt40:tt 40=some ti40:=rfl
theorem tt41:tt 41=some ti41:=rfl
theorem tt42:tt 42=some ti42:=rfl
theorem tt44:tt 44=some ti44:=rfl
theorem tt45:tt 45=some ti45:=rfl
theorem tt46:tt 46=some ti46:=rfl
theorem tt47:tt 47=some ti47:=rfl
theorem tt48:tt 48=some ti48:=rfl
theorem tt49:tt 49=some ti49:=rfl
theorem tt50:tt 50=some ti50:=rfl
theorem tt51:tt 51=some ti51:=rfl
theorem tt52:tt 52=some ti52:=rfl
theorem tt53:tt 53=some ti53:=rfl
theorem tt54:tt 54=some ti54:=rfl
theorem tt55:tt 55=some ti55:=rfl
theorem tt56:tt 56=some ti56:=rfl
theorem tt57:tt 57=some ti57:=rfl
theorem tt58:tt 58=some ti58:=rfl
theorem tt59:tt 59=some ti59:=rfl
theorem tt60:tt 60=some ti60:=rfl
theorem tt61:tt 61=some ti61:=rfl
theorem tt62:tt 62=some ti62:=rfl
theorem tt63:tt 63=some ti63:=rfl
theorem tt64:tt 64=some ti64:=rfl
theorem tt65:tt 65=some ti65:=rfl
theorem tt66:tt 66=some ti66:=rfl
theorem tt67:tt 67=some ti67:=rfl
theorem tt68:tt 68=some ti68:=rfl
theorem tt69:tt 69=some ti69:=rfl
theorem tt70:tt 70=some ti70:=rfl
theorem tt72:tt 72=some ti72:=rfl
theorem tt73:tt 73=some ti73:=rfl
theorem tt74:tt 74=some ti74:=rfl
theorem tt75:tt 75=some ti75:=rfl
theorem tt77:tt 77=some ti77:=rfl
theorem tt78:tt 78=some ti78:=rfl
theorem tt79:tt 79=some ti79:=rfl
theorem tt80:tt 80=some ti80:=rfl
theorem tt81:tt 81=some ti81:=rfl
theorem tt82:tt 82=some ti82:=rfl
theorem tt83:tt 83=some ti83:=rfl
theorem tt85:tt 85=some ti85:=rfl
theorem tt86:tt 86=some ti86:=rfl
theorem tt107:tt 107=some ti107:=rfl
theorem tt109:tt 109=some ti109:=rfl
theorem tt119:tt 119=some ti119:=rfl
theorem tt120:tt 120=some ti120:=rfl
theorem tt121:tt 121=some ti121:=rfl
theorem tt122:tt 122=some ti122:=rfl
theorem tt123:tt 123=some ti123:=rfl
theorem tt124:tt 124=some ti124:=rfl
theorem tt126:tt 126=some ti126:=rfl
theorem tt127:tt 127=some ti127:=rfl
theorem tt140:tt 140=some ti140:=rfl
theorem tt151:tt 151=some ti151:=rfl
theorem tt152:tt 152=some ti152:=rfl
theorem tt171:tt 171=some ti171:=rfl
theorem tt172:tt 172=some ti172:=rfl
theorem tt182:tt 182=some ti182:=rfl
theorem tt183:tt 183=some ti183:=rfl
theorem tt189:tt 189=some ti189:=rfl
theorem tt191:tt 191=some ti191:=rfl
theorem tt193:tt 193=some ti193:=rfl
theorem tt199:tt 199=some ti199:=rfl
theorem tt203:tt 203=some ti203:=rfl
theorem tt204:tt 204=some ti204:=rfl
theorem tt207:tt 207=some ti207:=rfl
theorem tt222:tt 222=some ti222:=rfl
theorem tt238:tt 238=some ti238:=rfl
theorem tt246:tt 246=some ti246:=rfl
theorem tt256:tt 256=some ti256:=rfl
theorem tt265:tt 265=some ti265:=rfl
theorem tt266:tt 266=some ti266:=rfl
theorem tt274:tt 274=some ti274:=rfl
theorem tt278:tt 278=some ti278:=rfl
theorem tt280:tt 280=some ti280:=rfl
theorem tt285:tt 285=some ti285:=rfl
theorem tt289:tt 289=some ti289:=rfl
theorem tt292:tt 292=some ti292:=rfl
theorem tt297:tt 297=some ti297:=rfl
theorem tt298:tt 298=some ti298:=rfl
theorem tt299:tt 299=some ti299:=rfl
theorem tt301:tt 301=some ti301:=rfl
theorem tt302:tt 302=some ti302:=rfl
theorem tt308:tt 308=some ti308:=rfl
theorem tt328:tt 328=some ti328:=rfl
theorem tt329:tt 329=some ti329:=rfl
theorem tt330:tt 330=some ti330:=rfl
theorem tt331:tt 331=some ti331:=rfl
theorem tt332:tt 332=some ti332:=rfl
theorem tt334:tt 334=some ti334:=rfl
theorem tt335:tt 335=some ti335:=rfl
theorem tt336:tt 336=some ti336:=rfl
theorem tt337:tt 337=some ti337:=rfl
theorem tt338:tt 338=some ti338:=rfl
theorem tt339:tt 339=some ti339:=rfl
theorem tt340:tt 340=some ti340:=rfl
theorem tt341:tt 341=some ti341:=rfl
theorem ttAll:(ttL.zipIdx.all fun x=>x.1.isNone || decide (Z1 Tryz.prog x.2=x.1))=true:=by kernel_rfl
theorem htt:∀ t i,tt t=some i→Z1 Tryz.prog t=some i:=by
  intro t i h;unfold tt at h;cases ht:ttL[t]? with
  | none=>simp[ht] at h
  | some o =>
    simp[ht] at h
    subst h;have:=List.all_eq_true.1 ttAll (some i,t) (List.mem_zipIdx_iff_getElem?.2 ht);simpa using this
theorem mixed:Tryz.prog.follows .mixedOrders=true:=by kernel_rfl
end Go.Proofs.YthpkpciceodioaaGreatDoor
