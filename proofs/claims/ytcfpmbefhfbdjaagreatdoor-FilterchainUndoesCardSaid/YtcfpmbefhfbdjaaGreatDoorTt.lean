import Derived.Test.YtcfpmbefhfbdjaaGreatDoorAvP3
import Derived.Test.YtcfpmbefhfbdjaaGreatDoorProg
namespace Go.Proofs.YtcfpmbefhfbdjaaGreatDoor
open Go.Av
set_option maxRecDepth 1000000
def ti1:TI:=⟨1,TK.other,[Zc.fn],8,false⟩
def ti2:TI:=⟨1,TK.int IntKind.i64,[Zc.int IntKind.i64],8,true⟩
def ti3:TI:=⟨1,TK.int IntKind.i64,[Zc.int IntKind.i64],8,true⟩
def ti4:TI:=⟨1,TK.bool,[Zc.bool],1,false⟩
def ti5:TI:=⟨1,TK.int IntKind.u8,[Zc.int IntKind.u8],1,true⟩
def ti6:TI:=⟨1,TK.int IntKind.u8,[Zc.int IntKind.u8],1,true⟩
def ti7:TI:=⟨4,TK.struct [(0,2),(1,3),(2,4),(3,6)],[Zc.int IntKind.i64,Zc.int IntKind.i64,Zc.bool,Zc.int IntKind.u8],24,false⟩
def ti8:TI:=⟨4,TK.struct [(0,2),(1,3),(2,4),(3,6)],[Zc.int IntKind.i64,Zc.int IntKind.i64,Zc.bool,Zc.int IntKind.u8],24,false⟩
def ti9:TI:=⟨1,TK.str,[Zc.str],16,false⟩
def ti10:TI:=⟨1,TK.str,[Zc.str],16,false⟩
def ti11:TI:=⟨1,TK.str,[Zc.str],16,false⟩
def ti12:TI:=⟨1,TK.int IntKind.u64,[Zc.int IntKind.u64],8,true⟩
def ti13:TI:=⟨2,TK.struct [(0,9),(1,12)],[Zc.str,Zc.int IntKind.u64],24,false⟩
def ti14:TI:=⟨2,TK.struct [(0,9),(1,12)],[Zc.str,Zc.int IntKind.u64],24,false⟩
def ti15:TI:=⟨1,TK.other,[Zc.ptr],8,false⟩
def ti16:TI:=⟨1,TK.other,[Zc.ptr],8,false⟩
def ti17:TI:=⟨1,TK.other,[Zc.ptr],8,false⟩
def ti18:TI:=⟨1,TK.struct [(0,17)],[Zc.ptr],8,false⟩
def ti19:TI:=⟨1,TK.struct [(0,17)],[Zc.ptr],8,false⟩
def ti21:TI:=⟨1,TK.int IntKind.i32,[Zc.int IntKind.i32],4,true⟩
def ti22:TI:=⟨1,TK.slice 5,[Zc.nil],24,false⟩
def ti23:TI:=⟨2,TK.struct [(0,3),(1,22)],[Zc.int IntKind.i64,Zc.nil],32,false⟩
def ti24:TI:=⟨2,TK.struct [(0,3),(1,22)],[Zc.int IntKind.i64,Zc.nil],32,false⟩
def ti25:TI:=⟨1,TK.other,[Zc.fn],8,false⟩
def ti26:TI:=⟨1,TK.slice 33,[Zc.nil],24,false⟩
def ti27:TI:=⟨2,TK.struct [(0,26),(1,26)],[Zc.nil,Zc.nil],48,false⟩
def ti28:TI:=⟨2,TK.struct [(0,26),(1,26)],[Zc.nil,Zc.nil],48,false⟩
def ti29:TI:=⟨1,TK.slice 24,[Zc.nil],24,false⟩
def ti31:TI:=⟨1,TK.other,[Zc.fn],8,false⟩
def ti32:TI:=⟨32,TK.array 32 5,zr 32 (Zc.int IntKind.u8),32,true⟩
def ti33:TI:=⟨32,TK.array 32 5,zr 32 (Zc.int IntKind.u8),32,true⟩
def ti34:TI:=⟨1,TK.int IntKind.i64,[Zc.int IntKind.i64],8,true⟩
def ti35:TI:=⟨1,TK.other,[Zc.fn],8,false⟩
def ti36:TI:=⟨1,TK.other,[Zc.fn],8,false⟩
def ti37:TI:=⟨1,TK.other,[Zc.fn],8,false⟩
def ti38:TI:=⟨1,TK.other,[Zc.fn],8,false⟩
def ti39:TI:=⟨1,TK.other,[Zc.fn],8,false⟩
def ti41:TI:=⟨1,TK.other,[Zc.fn],8,false⟩
def ti42:TI:=⟨1,TK.other,[Zc.fn],8,false⟩
def ti43:TI:=⟨1,TK.other,[Zc.fn],8,false⟩
def ti44:TI:=⟨1,TK.other,[Zc.fn],8,false⟩
def ti45:TI:=⟨1,TK.other,[Zc.fn],8,false⟩
def ti46:TI:=⟨1,TK.other,[Zc.fn],8,false⟩
def ti47:TI:=⟨1,TK.int IntKind.u32,[Zc.int IntKind.u32],4,true⟩
def ti48:TI:=⟨68,TK.struct [(0,47),(1,33),(33,33),(65,47),(66,47),(67,47)],[Zc.int IntKind.u32]++(zr 64 (Zc.int IntKind.u8)++([Zc.int IntKind.u32,Zc.int IntKind.u32,Zc.int IntKind.u32])),80,true⟩
def ti49:TI:=⟨68,TK.struct [(0,47),(1,33),(33,33),(65,47),(66,47),(67,47)],[Zc.int IntKind.u32]++(zr 64 (Zc.int IntKind.u8)++([Zc.int IntKind.u32,Zc.int IntKind.u32,Zc.int IntKind.u32])),80,true⟩
def ti50:TI:=⟨1,TK.int IntKind.u64,[Zc.int IntKind.u64],8,true⟩
def ti51:TI:=⟨4,TK.array 4 50,zr 4 (Zc.int IntKind.u64),32,true⟩
def ti52:TI:=⟨4,TK.array 4 50,zr 4 (Zc.int IntKind.u64),32,true⟩
def ti53:TI:=⟨1,TK.slice 162,[Zc.nil],24,false⟩
def ti54:TI:=⟨80,TK.struct [(0,49),(68,52),(72,3),(73,47),(74,47),(75,47),(76,53),(77,2),(78,3),(79,3)],[Zc.int IntKind.u32]++(zr 64 (Zc.int IntKind.u8)++([Zc.int IntKind.u32,Zc.int IntKind.u32,Zc.int IntKind.u32]++(zr 4 (Zc.int IntKind.u64)++([Zc.int IntKind.i64,Zc.int IntKind.u32,Zc.int IntKind.u32,Zc.int IntKind.u32,Zc.nil,Zc.int IntKind.i64,Zc.int IntKind.i64,Zc.int IntKind.i64])))),184,false⟩
def ti55:TI:=⟨80,TK.struct [(0,49),(68,52),(72,3),(73,47),(74,47),(75,47),(76,53),(77,2),(78,3),(79,3)],[Zc.int IntKind.u32]++(zr 64 (Zc.int IntKind.u8)++([Zc.int IntKind.u32,Zc.int IntKind.u32,Zc.int IntKind.u32]++(zr 4 (Zc.int IntKind.u64)++([Zc.int IntKind.i64,Zc.int IntKind.u32,Zc.int IntKind.u32,Zc.int IntKind.u32,Zc.nil,Zc.int IntKind.i64,Zc.int IntKind.i64,Zc.int IntKind.i64])))),184,false⟩
def ti56:TI:=⟨1,TK.slice 66,[Zc.nil],24,false⟩
def ti57:TI:=⟨1,TK.slice 93,[Zc.nil],24,false⟩
def ti58:TI:=⟨1,TK.slice 96,[Zc.nil],24,false⟩
def ti59:TI:=⟨1,TK.slice 99,[Zc.nil],24,false⟩
def ti60:TI:=⟨84,TK.struct [(0,55),(80,56),(81,57),(82,58),(83,59)],[Zc.int IntKind.u32]++(zr 64 (Zc.int IntKind.u8)++([Zc.int IntKind.u32,Zc.int IntKind.u32,Zc.int IntKind.u32]++(zr 4 (Zc.int IntKind.u64)++([Zc.int IntKind.i64,Zc.int IntKind.u32,Zc.int IntKind.u32,Zc.int IntKind.u32,Zc.nil,Zc.int IntKind.i64,Zc.int IntKind.i64,Zc.int IntKind.i64]++(zr 4 (Zc.nil)))))),280,false⟩
def ti61:TI:=⟨84,TK.struct [(0,55),(80,56),(81,57),(82,58),(83,59)],[Zc.int IntKind.u32]++(zr 64 (Zc.int IntKind.u8)++([Zc.int IntKind.u32,Zc.int IntKind.u32,Zc.int IntKind.u32]++(zr 4 (Zc.int IntKind.u64)++([Zc.int IntKind.i64,Zc.int IntKind.u32,Zc.int IntKind.u32,Zc.int IntKind.u32,Zc.nil,Zc.int IntKind.i64,Zc.int IntKind.i64,Zc.int IntKind.i64]++(zr 4 (Zc.nil)))))),280,false⟩
def ti62:TI:=⟨1,TK.other,[Zc.fn],8,false⟩
def ti63:TI:=⟨1,TK.other,[Zc.fn],8,false⟩
def ti64:TI:=⟨1,TK.slice 112,[Zc.nil],24,false⟩
def ti65:TI:=⟨69,TK.struct [(0,49),(68,64)],[Zc.int IntKind.u32]++(zr 64 (Zc.int IntKind.u8)++([Zc.int IntKind.u32,Zc.int IntKind.u32,Zc.int IntKind.u32,Zc.nil])),104,false⟩
def ti66:TI:=⟨69,TK.struct [(0,49),(68,64)],[Zc.int IntKind.u32]++(zr 64 (Zc.int IntKind.u8)++([Zc.int IntKind.u32,Zc.int IntKind.u32,Zc.int IntKind.u32,Zc.nil])),104,false⟩
def ti68:TI:=⟨1,TK.other,[Zc.fn],8,false⟩
def ti72:TI:=⟨1,TK.other,[Zc.fn],8,false⟩
def ti73:TI:=⟨1,TK.other,[Zc.fn],8,false⟩
def ti74:TI:=⟨1,TK.other,[Zc.fn],8,false⟩
def ti75:TI:=⟨1,TK.other,[Zc.fn],8,false⟩
def ti76:TI:=⟨1,TK.other,[Zc.fn],8,false⟩
def ti77:TI:=⟨1,TK.other,[Zc.fn],8,false⟩
def ti78:TI:=⟨1,TK.other,[Zc.fn],8,false⟩
def ti79:TI:=⟨1,TK.other,[Zc.fn],8,false⟩
def ti80:TI:=⟨1,TK.other,[Zc.fn],8,false⟩
def ti81:TI:=⟨2,TK.array 2 50,[Zc.int IntKind.u64,Zc.int IntKind.u64],16,true⟩
def ti82:TI:=⟨2,TK.array 2 50,[Zc.int IntKind.u64,Zc.int IntKind.u64],16,true⟩
def ti83:TI:=⟨1,TK.other,[Zc.fn],8,false⟩
def ti85:TI:=⟨1,TK.slice 22,[Zc.nil],24,false⟩
def ti90:TI:=⟨1,TK.slice 26,[Zc.nil],24,false⟩
def ti91:TI:=⟨1,TK.slice 151,[Zc.nil],24,false⟩
def ti92:TI:=⟨34,TK.struct [(0,3),(1,33),(33,91)],[Zc.int IntKind.i64]++(zr 32 (Zc.int IntKind.u8)++([Zc.nil])),64,false⟩
def ti93:TI:=⟨34,TK.struct [(0,3),(1,33),(33,91)],[Zc.int IntKind.i64]++(zr 32 (Zc.int IntKind.u8)++([Zc.nil])),64,false⟩
def ti94:TI:=⟨1,TK.slice 47,[Zc.nil],24,false⟩
def ti95:TI:=⟨36,TK.struct [(0,3),(1,33),(33,47),(34,47),(35,94)],[Zc.int IntKind.i64]++(zr 32 (Zc.int IntKind.u8)++([Zc.int IntKind.u32,Zc.int IntKind.u32,Zc.nil])),72,false⟩
def ti96:TI:=⟨36,TK.struct [(0,3),(1,33),(33,47),(34,47),(35,94)],[Zc.int IntKind.i64]++(zr 32 (Zc.int IntKind.u8)++([Zc.int IntKind.u32,Zc.int IntKind.u32,Zc.nil])),72,false⟩
def ti98:TI:=⟨1,TK.struct [(0,91)],[Zc.nil],24,false⟩
def ti99:TI:=⟨1,TK.struct [(0,91)],[Zc.nil],24,false⟩
def ti109:TI:=⟨1,TK.slice 126,[Zc.nil],24,false⟩
def ti110:TI:=⟨1,TK.slice 120,[Zc.nil],24,false⟩
def ti111:TI:=⟨4,TK.struct [(0,47),(1,109),(2,110),(3,47)],[Zc.int IntKind.u32,Zc.nil,Zc.nil,Zc.int IntKind.u32],64,false⟩
def ti112:TI:=⟨4,TK.struct [(0,47),(1,109),(2,110),(3,47)],[Zc.int IntKind.u32,Zc.nil,Zc.nil,Zc.int IntKind.u32],64,false⟩
def ti115:TI:=⟨1,TK.map 9 4,[Zc.map],8,false⟩
def ti117:TI:=⟨1,TK.slice 50,[Zc.nil],24,false⟩
def ti119:TI:=⟨2,TK.struct [(0,2),(1,22)],[Zc.int IntKind.i64,Zc.nil],32,false⟩
def ti120:TI:=⟨2,TK.struct [(0,2),(1,22)],[Zc.int IntKind.i64,Zc.nil],32,false⟩
def ti123:TI:=⟨33,TK.struct [(0,33),(32,47)],zr 32 (Zc.int IntKind.u8)++([Zc.int IntKind.u32]),36,true⟩
def ti124:TI:=⟨33,TK.struct [(0,33),(32,47)],zr 32 (Zc.int IntKind.u8)++([Zc.int IntKind.u32]),36,true⟩
def ti125:TI:=⟨35,TK.struct [(0,124),(33,47),(34,85)],zr 32 (Zc.int IntKind.u8)++([Zc.int IntKind.u32,Zc.int IntKind.u32,Zc.nil]),64,false⟩
def ti126:TI:=⟨35,TK.struct [(0,124),(33,47),(34,85)],zr 32 (Zc.int IntKind.u8)++([Zc.int IntKind.u32,Zc.int IntKind.u32,Zc.nil]),64,false⟩
def ti132:TI:=⟨1,TK.int IntKind.u16,[Zc.int IntKind.u16],2,true⟩
def ti134:TI:=⟨8,TK.array 8 47,zr 8 (Zc.int IntKind.u32),32,true⟩
def ti136:TI:=⟨64,TK.array 64 5,zr 64 (Zc.int IntKind.u8),64,true⟩
def ti150:TI:=⟨37,TK.struct [(0,124),(33,120),(35,3),(36,4)],zr 32 (Zc.int IntKind.u8)++([Zc.int IntKind.u32,Zc.int IntKind.i64,Zc.nil,Zc.int IntKind.i64,Zc.bool]),88,false⟩
def ti151:TI:=⟨37,TK.struct [(0,124),(33,120),(35,3),(36,4)],zr 32 (Zc.int IntKind.u8)++([Zc.int IntKind.u32,Zc.int IntKind.i64,Zc.nil,Zc.int IntKind.i64,Zc.bool]),88,false⟩
def ti161:TI:=⟨33,TK.struct [(0,3),(1,33)],[Zc.int IntKind.i64]++(zr 32 (Zc.int IntKind.u8)),40,true⟩
def ti162:TI:=⟨33,TK.struct [(0,3),(1,33)],[Zc.int IntKind.i64]++(zr 32 (Zc.int IntKind.u8)),40,true⟩
def ti169:TI:=⟨2,TK.struct [(0,22),(1,3)],[Zc.nil,Zc.int IntKind.i64],32,false⟩
def ti170:TI:=⟨2,TK.struct [(0,22),(1,3)],[Zc.nil,Zc.int IntKind.i64],32,false⟩
def ti178:TI:=⟨1,TK.int IntKind.u64,[Zc.int IntKind.u64],8,true⟩
def ti180:TI:=⟨64,TK.array 64 47,zr 64 (Zc.int IntKind.u32),256,true⟩
def ti204:TI:=⟨1,TK.other,[Zc.ptr],8,false⟩
def ti208:TI:=⟨2,TK.struct [(0,170)],[Zc.nil,Zc.int IntKind.i64],32,false⟩
def ti209:TI:=⟨2,TK.struct [(0,170)],[Zc.nil,Zc.int IntKind.i64],32,false⟩
def ti212:TI:=⟨4,TK.array 4 50,zr 4 (Zc.int IntKind.u64),32,true⟩
def ti228:TI:=⟨34,TK.struct [(0,33),(32,3),(33,3)],zr 32 (Zc.int IntKind.u8)++([Zc.int IntKind.i64,Zc.int IntKind.i64]),48,true⟩
def ti229:TI:=⟨34,TK.struct [(0,33),(32,3),(33,3)],zr 32 (Zc.int IntKind.u8)++([Zc.int IntKind.i64,Zc.int IntKind.i64]),48,true⟩
def ti240:TI:=⟨1,TK.int IntKind.i64,[Zc.int IntKind.i64],8,true⟩
def ti251:TI:=⟨1,TK.slice 124,[Zc.nil],24,false⟩
def ti256:TI:=⟨8,TK.array 8 50,zr 8 (Zc.int IntKind.u64),64,true⟩
def ti266:TI:=⟨1,TK.slice 274,[Zc.nil],24,false⟩
def ti272:TI:=⟨1,TK.slice 277,[Zc.nil],24,false⟩
def ti273:TI:=⟨4,TK.struct [(0,3),(1,22),(2,3),(3,3)],[Zc.int IntKind.i64,Zc.nil,Zc.int IntKind.i64,Zc.int IntKind.i64],48,false⟩
def ti274:TI:=⟨4,TK.struct [(0,3),(1,22),(2,3),(3,3)],[Zc.int IntKind.i64,Zc.nil,Zc.int IntKind.i64,Zc.int IntKind.i64],48,false⟩
def ti276:TI:=⟨2,TK.struct [(0,4),(1,4)],[Zc.bool,Zc.bool],2,false⟩
def ti277:TI:=⟨2,TK.struct [(0,4),(1,4)],[Zc.bool,Zc.bool],2,false⟩
def ti286:TI:=⟨1,TK.slice 4,[Zc.nil],24,false⟩
def ti309:TI:=⟨4,TK.struct [(0,17),(1,17),(2,17),(3,9)],[Zc.ptr,Zc.ptr,Zc.ptr,Zc.str],40,false⟩
def ti310:TI:=⟨4,TK.struct [(0,17),(1,17),(2,17),(3,9)],[Zc.ptr,Zc.ptr,Zc.ptr,Zc.str],40,false⟩
def ti311:TI:=⟨0,TK.array 0 16,[],0,false⟩
def ti312:TI:=⟨0,TK.struct [(0,311)],[],0,false⟩
def ti313:TI:=⟨0,TK.struct [(0,311)],[],0,false⟩
def ti315:TI:=⟨1,TK.int IntKind.u8,[Zc.int IntKind.u8],1,true⟩
def ti316:TI:=⟨1,TK.int IntKind.u8,[Zc.int IntKind.u8],1,true⟩
def ti317:TI:=⟨1,TK.other,[Zc.fn],8,false⟩
def ti318:TI:=⟨1,TK.other,[Zc.ptr],8,false⟩
def ti319:TI:=⟨1,TK.int IntKind.i32,[Zc.int IntKind.i32],4,true⟩
def ti320:TI:=⟨1,TK.int IntKind.i32,[Zc.int IntKind.i32],4,true⟩
def ti321:TI:=⟨11,TK.struct [(0,12),(1,12),(2,47),(3,315),(4,5),(5,5),(6,316),(7,317),(8,318),(9,319),(10,320)],[Zc.int IntKind.u64,Zc.int IntKind.u64,Zc.int IntKind.u32]++(zr 4 (Zc.int IntKind.u8)++([Zc.fn,Zc.ptr,Zc.int IntKind.i32,Zc.int IntKind.i32])),48,false⟩
def ti322:TI:=⟨11,TK.struct [(0,12),(1,12),(2,47),(3,315),(4,5),(5,5),(6,316),(7,317),(8,318),(9,319),(10,320)],[Zc.int IntKind.u64,Zc.int IntKind.u64,Zc.int IntKind.u32]++(zr 4 (Zc.int IntKind.u8)++([Zc.fn,Zc.ptr,Zc.int IntKind.i32,Zc.int IntKind.i32])),48,false⟩
def ttL:List (Option TI):=[none,some ti1,some ti2,some ti3,some ti4,some ti5,some ti6,some ti7,some ti8,some ti9,some ti10,some ti11,some ti12,some ti13,some ti14,some ti15,some ti16,some ti17,some ti18,some ti19,none,some ti21,some ti22,some ti23,some ti24,some ti25,some ti26,some ti27,some ti28,some ti29,none,some ti31,some ti32,some ti33,some ti34,some ti35,some ti36,some ti37,some ti38,some ti39,none,some ti41,some ti42,some ti43,some ti44,some ti45,some ti46,some ti47,some ti48,some ti49,some ti50,some ti51,some ti52,some ti53,some ti54,some ti55,some ti56,some ti57,some ti58,some ti59,some ti60,some ti61,some ti62,some ti63,some ti64,some ti65,some ti66,none,some ti68,none,none,none,some ti72,some ti73,some ti74,some ti75,some ti76,some ti77,some ti78,some ti79,some ti80,some ti81,some ti82,some ti83,none,some ti85,none,none,none,none,some ti90,some ti91,some ti92,some ti93,some ti94,some ti95,some ti96,none,some ti98,some ti99,none,none,none,none,none,none,none,none,none,some ti109,some ti110,some ti111,some ti112,none,none,some ti115,none,some ti117,none,some ti119,some ti120,none,none,some ti123,some ti124,some ti125,some ti126,none,none,none,none,none,some ti132,none,some ti134,none,some ti136,none,none,none,none,none,none,none,none,none,none,none,none,none,some ti150,some ti151,none,none,none,none,none,none,none,none,none,some ti161,some ti162,none,none,none,none,none,none,some ti169,some ti170,none,none,none,none,none,none,none,some ti178,none,some ti180,none,none,none,none,none,none,none,none,none,none,none,none,none,none,none,none,none,none,none,none,none,none,none,some ti204,none,none,none,some ti208,some ti209,none,none,some ti212,none,none,none,none,none,none,none,none,none,none,none,none,none,none,none,some ti228,some ti229,none,none,none,none,none,none,none,none,none,none,some ti240,none,none,none,none,none,none,none,none,none,none,some ti251,none,none,none,none,some ti256,none,none,none,none,none,none,none,none,none,some ti266,none,none,none,none,none,some ti272,some ti273,some ti274,none,some ti276,some ti277,none,none,none,none,none,none,none,none,some ti286,none,none,none,none,none,none,none,none,none,none,none,none,none,none,none,none,none,none,none,none,none,none,some ti309,some ti310,some ti311,some ti312,some ti313,none,some ti315,some ti316,some ti317,some ti318,some ti319,some ti320,some ti321,some ti322,none]
def tt:TT:=fun t=>(ttL[t]?).getD none
theorem tt1:tt 1=some ti1:=rfl
theorem tt2:tt 2=some ti2:=rfl
theorem tt3:tt 3=some ti3:=rfl
theorem tt4:tt 4=some ti4:=rfl
theorem tt5:tt 5=some ti5:=rfl
theorem tt6:tt 6=some ti6:=rfl
theorem tt7:tt 7=some ti7:=rfl
theorem tt8:tt 8=some ti8:=rfl
theorem tt9:tt 9=some ti9:=rfl
theorem tt10:tt 10=some ti10:=rfl
theorem tt11:tt 11=some ti11:=rfl
theorem tt12:tt 12=some ti12:=rfl
theorem tt13:tt 13=some ti13:=rfl
theorem tt14:tt 14=some ti14:=rfl
theorem tt15:tt 15=some ti15:=rfl
theorem tt16:tt 16=some ti16:=rfl
theorem tt17:tt 17=some ti17:=rfl
theorem tt18:tt 18=some ti18:=rfl
theorem tt19:tt 19=some ti19:=rfl
theorem tt21:tt 21=some ti21:=rfl
theorem tt22:tt 22=some ti22:=rfl
theorem tt23:tt 23=some ti23:=rfl
theorem tt24:tt 24=some ti24:=rfl
theorem tt25:tt 25=some ti25:=rfl
theorem tt26:tt 26=some ti26:=rfl
theorem tt27:tt 27=some ti27:=rfl
theorem tt28:tt 28=some ti28:=rfl
theorem tt29:tt 29=some ti29:=rfl
theorem tt31:tt 31=some ti31:=rfl
theorem tt32:tt 32=some ti32:=rfl
theorem tt33:tt 33=some ti33:=rfl
theorem tt34:tt 34=some ti34:=rfl
theorem tt35:tt 35=some ti35:=rfl
theorem tt36:tt 36=some ti36:=rfl
theorem tt37:tt 37=some ti37:=rfl
theorem tt38:tt 38=some ti38:=rfl
theorem tt39:tt 39=some ti39:=rfl
theorem tt41:tt 41=some ti41:=rfl
theorem tt42:tt 42=some ti42:=rfl
theorem tt43:tt 43=some ti43:=rfl
theorem tt44:tt 44=some ti44:=rfl
theorem tt45:tt 45=some ti45:=rfl
theorem tt46:tt 46=some ti46:=rfl
theorem tt47:tt 47=some ti47:=rfl
theorem tt48:tt 48=some ti48:=rfl
theorem tt49:tt 49=some ti49:=rfl
theorem tt50:tt 50=some ti50:=rfl
theorem tt51:tt 51=some ti51:=rfl
theorem tt52:tt 52=some ti52:=rfl
theorem tt53:tt 53=some ti53:=rfl
theorem tt54:tt 54=some ti54:=rfl
theorem tt55:tt 55=some ti55:=rfl
theorem tt56:tt 56=some ti56:=rfl
theorem tt57:tt 57=some ti57:=rfl
theorem tt58:tt 58=some ti58:=rfl
theorem tt59:tt 59=some ti59:=rfl
theorem tt60:tt 60=some ti60:=rfl
theorem tt61:tt 61=some ti61:=rfl
theorem tt62:tt 62=some ti62:=rfl
theorem tt63:tt 63=some ti63:=rfl
theorem tt64:tt 64=some ti64:=rfl
theorem tt65:tt 65=some ti65:=rfl
theorem tt66:tt 66=some ti66:=rfl
theorem tt68:tt 68=some ti68:=rfl
theorem tt72:tt 72=some ti72:=rfl
theorem tt73:tt 73=some ti73:=rfl
theorem tt74:tt 74=some ti74:=rfl
theorem tt75:tt 75=some ti75:=rfl
theorem tt76:tt 76=some ti76:=rfl
theorem tt77:tt 77=some ti77:=rfl
theorem tt78:tt 78=some ti78:=rfl
theorem tt79:tt 79=some ti79:=rfl
theorem tt80:tt 80=some ti80:=rfl
theorem tt81:tt 81=some ti81:=rfl
theorem tt82:tt 82=some ti82:=rfl
theorem tt83:tt 83=some ti83:=rfl
theorem tt85:tt 85=some ti85:=rfl
theorem tt90:tt 90=some ti90:=rfl
theorem tt91:tt 91=some ti91:=rfl
theorem tt92:tt 92=some ti92:=rfl
theorem tt93:tt 93=some ti93:=rfl
theorem tt94:tt 94=some ti94:=rfl
theorem tt95:tt 95=some ti95:=rfl
theorem tt96:tt 96=some ti96:=rfl
theorem tt98:tt 98=some ti98:=rfl
theorem tt99:tt 99=some ti99:=rfl
theorem tt109:tt 109=some ti109:=rfl
theorem tt110:tt 110=some ti110:=rfl
theorem tt111:tt 111=some ti111:=rfl
theorem tt112:tt 112=some ti112:=rfl
theorem tt115:tt 115=some ti115:=rfl
theorem tt117:tt 117=some ti117:=rfl
theorem tt119:tt 119=some ti119:=rfl
theorem tt120:tt 120=some ti120:=rfl
theorem tt123:tt 123=some ti123:=rfl
theorem tt124:tt 124=some ti124:=rfl
theorem tt125:tt 125=some ti125:=rfl
theorem tt126:tt 126=some ti126:=rfl
theorem tt132:tt 132=some ti132:=rfl
theorem tt134:tt 134=some ti134:=rfl
theorem tt136:tt 136=some ti136:=rfl
theorem tt150:tt 150=some ti150:=rfl
theorem tt151:tt 151=some ti151:=rfl
theorem tt161:tt 161=some ti161:=rfl
theorem tt162:tt 162=some ti162:=rfl
theorem tt169:tt 169=some ti169:=rfl
theorem tt170:tt 170=some ti170:=rfl
theorem tt178:tt 178=some ti178:=rfl
theorem tt180:tt 180=some ti180:=rfl
theorem tt204:tt 204=some ti204:=rfl
theorem tt208:tt 208=some ti208:=rfl
theorem tt209:tt 209=some ti209:=rfl
theorem tt212:tt 212=some ti212:=rfl
theorem tt228:tt 228=some ti228:=rfl
theorem tt229:tt 229=some ti229:=rfl
theorem tt240:tt 240=some ti240:=rfl
theorem tt251:tt 251=some ti251:=rfl
theorem tt256:tt 256=some ti256:=rfl
theorem tt266:tt 266=some ti266:=rfl
theorem tt272:tt 272=some ti272:=rfl
theorem tt273:tt 273=some ti273:=rfl
theorem tt274:tt 274=some ti274:=rfl
theorem tt276:tt 276=some ti276:=rfl
theorem tt277:tt 277=some ti277:=rfl
theorem tt286:tt 286=some ti286:=rfl
theorem tt309:tt 309=some ti309:=rfl
theorem tt310:tt 310=some ti310:=rfl
theorem tt311:tt 311=some ti311:=rfl
theorem tt312:tt 312=some ti312:=rfl
theorem tt313:tt 313=some ti313:=rfl
theorem tt315:tt 315=some ti315:=rfl
theorem tt316:tt 316=some ti316:=rfl
theorem tt317:tt 317=some ti317:=rfl
theorem tt318:tt 318=some ti318:=rfl
theorem tt319:tt 319=some ti319:=rfl
theorem tt320:tt 320=some ti320:=rfl
theorem tt321:tt 321=some ti321:=rfl
theorem tt322:tt 322=some ti322:=rfl
theorem ttAll:(ttL.zipIdx.all fun x=>x.1.isNone || decide (ZW Tryz.prog x.2=x.1))=true:=by kernel_rfl
theorem htt:∀ t i,tt t=some i→ZW Tryz.prog t=some i:=by
  intro t i h;unfold tt at h;cases ht:ttL[t]? with
  | none=>simp[ht] at h
  | some o =>
    simp[ht] at h
    subst h;have:=List.all_eq_true.1 ttAll (some i,t) (List.mem_zipIdx_iff_getElem?.2 ht);simpa using this
theorem mixed:Tryz.prog.follows .mixedOrders=true:=by kernel_rfl
end Go.Proofs.YtcfpmbefhfbdjaaGreatDoor
