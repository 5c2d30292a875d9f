import Derived.Test.YtbppknpnmjhjpaaGreatDoorAvP3
import Derived.Test.YtbppknpnmjhjpaaGreatDoorProg
namespace Go.Proofs.YtbppknpnmjhjpaaGreatDoor
open Go.Av
set_option maxRecDepth 1000000
def ti1:TI:=⟨1,TK.other,[Zc.fn],8,false⟩
def ti2:TI:=⟨1,TK.int IntKind.i64,[Zc.int IntKind.i64],8,true⟩
def ti3:TI:=⟨1,TK.int IntKind.i64,[Zc.int IntKind.i64],8,true⟩
def ti4:TI:=⟨1,TK.bool,[Zc.bool],1,false⟩
def ti5:TI:=⟨1,TK.int IntKind.u8,[Zc.int IntKind.u8],1,true⟩
def ti6:TI:=⟨1,TK.int IntKind.u8,[Zc.int IntKind.u8],1,true⟩
def ti7:TI:=⟨4,TK.struct [(0,2),(1,3),(2,4),(3,6)],[Zc.int IntKind.i64,Zc.int IntKind.i64,Zc.bool,Zc.int IntKind.u8],24,false⟩
def ti8:TI:=⟨4,TK.struct [(0,2),(1,3),(2,4),(3,6)],[Zc.int IntKind.i64,Zc.int IntKind.i64,Zc.bool,Zc.int IntKind.u8],24,false⟩
def ti9:TI:=⟨1,TK.str,[Zc.str],16,false⟩
def ti10:TI:=⟨1,TK.str,[Zc.str],16,false⟩
def ti11:TI:=⟨1,TK.str,[Zc.str],16,false⟩
def ti12:TI:=⟨1,TK.int IntKind.u64,[Zc.int IntKind.u64],8,true⟩
def ti13:TI:=⟨2,TK.struct [(0,9),(1,12)],[Zc.str,Zc.int IntKind.u64],24,false⟩
def ti14:TI:=⟨2,TK.struct [(0,9),(1,12)],[Zc.str,Zc.int IntKind.u64],24,false⟩
def ti15:TI:=⟨1,TK.other,[Zc.ptr],8,false⟩
def ti16:TI:=⟨1,TK.other,[Zc.ptr],8,false⟩
def ti17:TI:=⟨1,TK.other,[Zc.ptr],8,false⟩
def ti18:TI:=⟨1,TK.struct [(0,17)],[Zc.ptr],8,false⟩
def ti19:TI:=⟨1,TK.struct [(0,17)],[Zc.ptr],8,false⟩
def ti21:TI:=⟨1,TK.int IntKind.i32,[Zc.int IntKind.i32],4,true⟩
def ti22:TI:=⟨32,TK.array 32 5,zr 32 (Zc.int IntKind.u8),32,true⟩
def ti23:TI:=⟨32,TK.array 32 5,zr 32 (Zc.int IntKind.u8),32,true⟩
def ti24:TI:=⟨1,TK.slice 59,[Zc.nil],24,false⟩
def ti25:TI:=⟨35,TK.struct [(0,3),(1,3),(2,23),(34,24)],[Zc.int IntKind.i64,Zc.int IntKind.i64]++(zr 32 (Zc.int IntKind.u8)++([Zc.nil])),72,false⟩
def ti26:TI:=⟨35,TK.struct [(0,3),(1,3),(2,23),(34,24)],[Zc.int IntKind.i64,Zc.int IntKind.i64]++(zr 32 (Zc.int IntKind.u8)++([Zc.nil])),72,false⟩
def ti27:TI:=⟨1,TK.slice 5,[Zc.nil],24,false⟩
def ti28:TI:=⟨1,TK.other,[Zc.fn],8,false⟩
def ti29:TI:=⟨1,TK.int IntKind.u32,[Zc.int IntKind.u32],4,true⟩
def ti30:TI:=⟨68,TK.struct [(0,29),(1,23),(33,23),(65,29),(66,29),(67,29)],[Zc.int IntKind.u32]++(zr 64 (Zc.int IntKind.u8)++([Zc.int IntKind.u32,Zc.int IntKind.u32,Zc.int IntKind.u32])),80,true⟩
def ti31:TI:=⟨68,TK.struct [(0,29),(1,23),(33,23),(65,29),(66,29),(67,29)],[Zc.int IntKind.u32]++(zr 64 (Zc.int IntKind.u8)++([Zc.int IntKind.u32,Zc.int IntKind.u32,Zc.int IntKind.u32])),80,true⟩
def ti32:TI:=⟨1,TK.int IntKind.u64,[Zc.int IntKind.u64],8,true⟩
def ti33:TI:=⟨4,TK.array 4 32,zr 4 (Zc.int IntKind.u64),32,true⟩
def ti34:TI:=⟨4,TK.array 4 32,zr 4 (Zc.int IntKind.u64),32,true⟩
def ti35:TI:=⟨1,TK.slice 170,[Zc.nil],24,false⟩
def ti36:TI:=⟨80,TK.struct [(0,31),(68,34),(72,3),(73,29),(74,29),(75,29),(76,35),(77,2),(78,3),(79,3)],[Zc.int IntKind.u32]++(zr 64 (Zc.int IntKind.u8)++([Zc.int IntKind.u32,Zc.int IntKind.u32,Zc.int IntKind.u32]++(zr 4 (Zc.int IntKind.u64)++([Zc.int IntKind.i64,Zc.int IntKind.u32,Zc.int IntKind.u32,Zc.int IntKind.u32,Zc.nil,Zc.int IntKind.i64,Zc.int IntKind.i64,Zc.int IntKind.i64])))),184,false⟩
def ti37:TI:=⟨80,TK.struct [(0,31),(68,34),(72,3),(73,29),(74,29),(75,29),(76,35),(77,2),(78,3),(79,3)],[Zc.int IntKind.u32]++(zr 64 (Zc.int IntKind.u8)++([Zc.int IntKind.u32,Zc.int IntKind.u32,Zc.int IntKind.u32]++(zr 4 (Zc.int IntKind.u64)++([Zc.int IntKind.i64,Zc.int IntKind.u32,Zc.int IntKind.u32,Zc.int IntKind.u32,Zc.nil,Zc.int IntKind.i64,Zc.int IntKind.i64,Zc.int IntKind.i64])))),184,false⟩
def ti38:TI:=⟨1,TK.slice 49,[Zc.nil],24,false⟩
def ti39:TI:=⟨1,TK.slice 99,[Zc.nil],24,false⟩
def ti40:TI:=⟨1,TK.slice 102,[Zc.nil],24,false⟩
def ti41:TI:=⟨1,TK.slice 105,[Zc.nil],24,false⟩
def ti42:TI:=⟨84,TK.struct [(0,37),(80,38),(81,39),(82,40),(83,41)],[Zc.int IntKind.u32]++(zr 64 (Zc.int IntKind.u8)++([Zc.int IntKind.u32,Zc.int IntKind.u32,Zc.int IntKind.u32]++(zr 4 (Zc.int IntKind.u64)++([Zc.int IntKind.i64,Zc.int IntKind.u32,Zc.int IntKind.u32,Zc.int IntKind.u32,Zc.nil,Zc.int IntKind.i64,Zc.int IntKind.i64,Zc.int IntKind.i64]++(zr 4 (Zc.nil)))))),280,false⟩
def ti43:TI:=⟨84,TK.struct [(0,37),(80,38),(81,39),(82,40),(83,41)],[Zc.int IntKind.u32]++(zr 64 (Zc.int IntKind.u8)++([Zc.int IntKind.u32,Zc.int IntKind.u32,Zc.int IntKind.u32]++(zr 4 (Zc.int IntKind.u64)++([Zc.int IntKind.i64,Zc.int IntKind.u32,Zc.int IntKind.u32,Zc.int IntKind.u32,Zc.nil,Zc.int IntKind.i64,Zc.int IntKind.i64,Zc.int IntKind.i64]++(zr 4 (Zc.nil)))))),280,false⟩
def ti44:TI:=⟨1,TK.other,[Zc.fn],8,false⟩
def ti45:TI:=⟨1,TK.other,[Zc.fn],8,false⟩
def ti46:TI:=⟨1,TK.other,[Zc.fn],8,false⟩
def ti47:TI:=⟨1,TK.slice 121,[Zc.nil],24,false⟩
def ti48:TI:=⟨69,TK.struct [(0,31),(68,47)],[Zc.int IntKind.u32]++(zr 64 (Zc.int IntKind.u8)++([Zc.int IntKind.u32,Zc.int IntKind.u32,Zc.int IntKind.u32,Zc.nil])),104,false⟩
def ti49:TI:=⟨69,TK.struct [(0,31),(68,47)],[Zc.int IntKind.u32]++(zr 64 (Zc.int IntKind.u8)++([Zc.int IntKind.u32,Zc.int IntKind.u32,Zc.int IntKind.u32,Zc.nil])),104,false⟩
def ti50:TI:=⟨1,TK.other,[Zc.fn],8,false⟩
def ti51:TI:=⟨2,TK.struct [(0,3),(1,27)],[Zc.int IntKind.i64,Zc.nil],32,false⟩
def ti52:TI:=⟨2,TK.struct [(0,3),(1,27)],[Zc.int IntKind.i64,Zc.nil],32,false⟩
def ti53:TI:=⟨1,TK.int IntKind.i64,[Zc.int IntKind.i64],8,true⟩
def ti55:TI:=⟨1,TK.other,[Zc.fn],8,false⟩
def ti56:TI:=⟨1,TK.other,[Zc.fn],8,false⟩
def ti57:TI:=⟨1,TK.other,[Zc.fn],8,false⟩
def ti58:TI:=⟨33,TK.struct [(0,3),(1,23)],[Zc.int IntKind.i64]++(zr 32 (Zc.int IntKind.u8)),40,true⟩
def ti59:TI:=⟨33,TK.struct [(0,3),(1,23)],[Zc.int IntKind.i64]++(zr 32 (Zc.int IntKind.u8)),40,true⟩
def ti60:TI:=⟨1,TK.slice 3,[Zc.nil],24,false⟩
def ti62:TI:=⟨1,TK.other,[Zc.fn],8,false⟩
def ti63:TI:=⟨1,TK.other,[Zc.fn],8,false⟩
def ti64:TI:=⟨1,TK.other,[Zc.fn],8,false⟩
def ti65:TI:=⟨1,TK.slice 23,[Zc.nil],24,false⟩
def ti66:TI:=⟨1,TK.other,[Zc.fn],8,false⟩
def ti67:TI:=⟨1,TK.other,[Zc.fn],8,false⟩
def ti73:TI:=⟨1,TK.other,[Zc.fn],8,false⟩
def ti74:TI:=⟨1,TK.other,[Zc.fn],8,false⟩
def ti75:TI:=⟨1,TK.other,[Zc.fn],8,false⟩
def ti76:TI:=⟨1,TK.other,[Zc.fn],8,false⟩
def ti77:TI:=⟨1,TK.other,[Zc.fn],8,false⟩
def ti78:TI:=⟨1,TK.other,[Zc.fn],8,false⟩
def ti79:TI:=⟨1,TK.other,[Zc.fn],8,false⟩
def ti80:TI:=⟨1,TK.other,[Zc.fn],8,false⟩
def ti82:TI:=⟨1,TK.other,[Zc.fn],8,false⟩
def ti83:TI:=⟨2,TK.array 2 32,[Zc.int IntKind.u64,Zc.int IntKind.u64],16,true⟩
def ti84:TI:=⟨2,TK.array 2 32,[Zc.int IntKind.u64,Zc.int IntKind.u64],16,true⟩
def ti87:TI:=⟨1,TK.slice 27,[Zc.nil],24,false⟩
def ti97:TI:=⟨1,TK.slice 159,[Zc.nil],24,false⟩
def ti98:TI:=⟨34,TK.struct [(0,3),(1,23),(33,97)],[Zc.int IntKind.i64]++(zr 32 (Zc.int IntKind.u8)++([Zc.nil])),64,false⟩
def ti99:TI:=⟨34,TK.struct [(0,3),(1,23),(33,97)],[Zc.int IntKind.i64]++(zr 32 (Zc.int IntKind.u8)++([Zc.nil])),64,false⟩
def ti100:TI:=⟨1,TK.slice 29,[Zc.nil],24,false⟩
def ti101:TI:=⟨36,TK.struct [(0,3),(1,23),(33,29),(34,29),(35,100)],[Zc.int IntKind.i64]++(zr 32 (Zc.int IntKind.u8)++([Zc.int IntKind.u32,Zc.int IntKind.u32,Zc.nil])),72,false⟩
def ti102:TI:=⟨36,TK.struct [(0,3),(1,23),(33,29),(34,29),(35,100)],[Zc.int IntKind.i64]++(zr 32 (Zc.int IntKind.u8)++([Zc.int IntKind.u32,Zc.int IntKind.u32,Zc.nil])),72,false⟩
def ti104:TI:=⟨1,TK.struct [(0,97)],[Zc.nil],24,false⟩
def ti105:TI:=⟨1,TK.struct [(0,97)],[Zc.nil],24,false⟩
def ti118:TI:=⟨1,TK.slice 135,[Zc.nil],24,false⟩
def ti119:TI:=⟨1,TK.slice 129,[Zc.nil],24,false⟩
def ti120:TI:=⟨4,TK.struct [(0,29),(1,118),(2,119),(3,29)],[Zc.int IntKind.u32,Zc.nil,Zc.nil,Zc.int IntKind.u32],64,false⟩
def ti121:TI:=⟨4,TK.struct [(0,29),(1,118),(2,119),(3,29)],[Zc.int IntKind.u32,Zc.nil,Zc.nil,Zc.int IntKind.u32],64,false⟩
def ti124:TI:=⟨1,TK.map 9 4,[Zc.map],8,false⟩
def ti126:TI:=⟨1,TK.slice 32,[Zc.nil],24,false⟩
def ti128:TI:=⟨2,TK.struct [(0,2),(1,27)],[Zc.int IntKind.i64,Zc.nil],32,false⟩
def ti129:TI:=⟨2,TK.struct [(0,2),(1,27)],[Zc.int IntKind.i64,Zc.nil],32,false⟩
def ti132:TI:=⟨33,TK.struct [(0,23),(32,29)],zr 32 (Zc.int IntKind.u8)++([Zc.int IntKind.u32]),36,true⟩
def ti133:TI:=⟨33,TK.struct [(0,23),(32,29)],zr 32 (Zc.int IntKind.u8)++([Zc.int IntKind.u32]),36,true⟩
def ti134:TI:=⟨35,TK.struct [(0,133),(33,29),(34,87)],zr 32 (Zc.int IntKind.u8)++([Zc.int IntKind.u32,Zc.int IntKind.u32,Zc.nil]),64,false⟩
def ti135:TI:=⟨35,TK.struct [(0,133),(33,29),(34,87)],zr 32 (Zc.int IntKind.u8)++([Zc.int IntKind.u32,Zc.int IntKind.u32,Zc.nil]),64,false⟩
def ti145:TI:=⟨1,TK.int IntKind.u64,[Zc.int IntKind.u64],8,true⟩
def ti158:TI:=⟨37,TK.struct [(0,133),(33,129),(35,3),(36,4)],zr 32 (Zc.int IntKind.u8)++([Zc.int IntKind.u32,Zc.int IntKind.i64,Zc.nil,Zc.int IntKind.i64,Zc.bool]),88,false⟩
def ti159:TI:=⟨37,TK.struct [(0,133),(33,129),(35,3),(36,4)],zr 32 (Zc.int IntKind.u8)++([Zc.int IntKind.u32,Zc.int IntKind.i64,Zc.nil,Zc.int IntKind.i64,Zc.bool]),88,false⟩
def ti169:TI:=⟨33,TK.struct [(0,3),(1,23)],[Zc.int IntKind.i64]++(zr 32 (Zc.int IntKind.u8)),40,true⟩
def ti170:TI:=⟨33,TK.struct [(0,3),(1,23)],[Zc.int IntKind.i64]++(zr 32 (Zc.int IntKind.u8)),40,true⟩
def ti176:TI:=⟨8,TK.array 8 29,zr 8 (Zc.int IntKind.u32),32,true⟩
def ti178:TI:=⟨64,TK.array 64 5,zr 64 (Zc.int IntKind.u8),64,true⟩
def ti183:TI:=⟨1,TK.int IntKind.u16,[Zc.int IntKind.u16],2,true⟩
def ti186:TI:=⟨2,TK.struct [(0,27),(1,3)],[Zc.nil,Zc.int IntKind.i64],32,false⟩
def ti187:TI:=⟨2,TK.struct [(0,27),(1,3)],[Zc.nil,Zc.int IntKind.i64],32,false⟩
def ti195:TI:=⟨1,TK.map 133 4,[Zc.map],8,false⟩
def ti196:TI:=⟨1,TK.map 23 3,[Zc.map],8,false⟩
def ti199:TI:=⟨1,TK.slice 133,[Zc.nil],24,false⟩
def ti219:TI:=⟨64,TK.array 64 29,zr 64 (Zc.int IntKind.u32),256,true⟩
def ti225:TI:=⟨1,TK.other,[Zc.ptr],8,false⟩
def ti229:TI:=⟨2,TK.struct [(0,187)],[Zc.nil,Zc.int IntKind.i64],32,false⟩
def ti230:TI:=⟨2,TK.struct [(0,187)],[Zc.nil,Zc.int IntKind.i64],32,false⟩
def ti233:TI:=⟨4,TK.array 4 32,zr 4 (Zc.int IntKind.u64),32,true⟩
def ti239:TI:=⟨1,TK.slice 65,[Zc.nil],24,false⟩
def ti248:TI:=⟨34,TK.struct [(0,23),(32,3),(33,3)],zr 32 (Zc.int IntKind.u8)++([Zc.int IntKind.i64,Zc.int IntKind.i64]),48,true⟩
def ti249:TI:=⟨34,TK.struct [(0,23),(32,3),(33,3)],zr 32 (Zc.int IntKind.u8)++([Zc.int IntKind.i64,Zc.int IntKind.i64]),48,true⟩
def ti260:TI:=⟨1,TK.int IntKind.i64,[Zc.int IntKind.i64],8,true⟩
def ti274:TI:=⟨8,TK.array 8 32,zr 8 (Zc.int IntKind.u64),64,true⟩
def ti285:TI:=⟨1,TK.slice 292,[Zc.nil],24,false⟩
def ti290:TI:=⟨1,TK.slice 295,[Zc.nil],24,false⟩
def ti291:TI:=⟨4,TK.struct [(0,3),(1,27),(2,3),(3,3)],[Zc.int IntKind.i64,Zc.nil,Zc.int IntKind.i64,Zc.int IntKind.i64],48,false⟩
def ti292:TI:=⟨4,TK.struct [(0,3),(1,27),(2,3),(3,3)],[Zc.int IntKind.i64,Zc.nil,Zc.int IntKind.i64,Zc.int IntKind.i64],48,false⟩
def ti294:TI:=⟨2,TK.struct [(0,4),(1,4)],[Zc.bool,Zc.bool],2,false⟩
def ti295:TI:=⟨2,TK.struct [(0,4),(1,4)],[Zc.bool,Zc.bool],2,false⟩
def ti304:TI:=⟨1,TK.slice 4,[Zc.nil],24,false⟩
def ti326:TI:=⟨4,TK.struct [(0,17),(1,17),(2,17),(3,9)],[Zc.ptr,Zc.ptr,Zc.ptr,Zc.str],40,false⟩
def ti327:TI:=⟨4,TK.struct [(0,17),(1,17),(2,17),(3,9)],[Zc.ptr,Zc.ptr,Zc.ptr,Zc.str],40,false⟩
def ti328:TI:=⟨0,TK.array 0 16,[],0,false⟩
def ti329:TI:=⟨0,TK.struct [(0,328)],[],0,false⟩
def ti330:TI:=⟨0,TK.struct [(0,328)],[],0,false⟩
def ti332:TI:=⟨1,TK.int IntKind.u8,[Zc.int IntKind.u8],1,true⟩
def ti333:TI:=⟨1,TK.int IntKind.u8,[Zc.int IntKind.u8],1,true⟩
def ti334:TI:=⟨1,TK.other,[Zc.fn],8,false⟩
def ti335:TI:=⟨1,TK.other,[Zc.ptr],8,false⟩
def ti336:TI:=⟨1,TK.int IntKind.i32,[Zc.int IntKind.i32],4,true⟩
def ti337:TI:=⟨1,TK.int IntKind.i32,[Zc.int IntKind.i32],4,true⟩
def ti338:TI:=⟨11,TK.struct [(0,12),(1,12),(2,29),(3,332),(4,5),(5,5),(6,333),(7,334),(8,335),(9,336),(10,337)],[Zc.int IntKind.u64,Zc.int IntKind.u64,Zc.int IntKind.u32]++(zr 4 (Zc.int IntKind.u8)++([Zc.fn,Zc.ptr,Zc.int IntKind.i32,Zc.int IntKind.i32])),48,false⟩
def ti339:TI:=⟨11,TK.struct [(0,12),(1,12),(2,29),(3,332),(4,5),(5,5),(6,333),(7,334),(8,335),(9,336),(10,337)],[Zc.int IntKind.u64,Zc.int IntKind.u64,Zc.int IntKind.u32]++(zr 4 (Zc.int IntKind.u8)++([Zc.fn,Zc.ptr,Zc.int IntKind.i32,Zc.int IntKind.i32])),48,false⟩
def ttL:List (Option TI):=[none,some ti1,some ti2,some ti3,some ti4,some ti5,some ti6,some ti7,some ti8,some ti9,some ti10,some ti11,some ti12,some ti13,some ti14,some ti15,some ti16,some ti17,some ti18,some ti19,none,some ti21,some ti22,some ti23,some ti24,some ti25,some ti26,some ti27,some ti28,some ti29,some ti30,some ti31,some ti32,some ti33,some ti34,some ti35,some ti36,some ti37,some ti38,some ti39,some ti40,some ti41,some ti42,some ti43,some ti44,some ti45,some ti46,some ti47,some ti48,some ti49,some ti50,some ti51,some ti52,some ti53,none,some ti55,some ti56,some ti57,some ti58,some ti59,some ti60,none,some ti62,some ti63,some ti64,some ti65,some ti66,some ti67,none,none,none,none,none,some ti73,some ti74,some ti75,some ti76,some ti77,some ti78,some ti79,some ti80,none,some ti82,some ti83,some ti84,none,none,some ti87,none,none,none,none,none,none,none,none,none,some ti97,some ti98,some ti99,some ti100,some ti101,some ti102,none,some ti104,some ti105,none,none,none,none,none,none,none,none,none,none,none,none,some ti118,some ti119,some ti120,some ti121,none,none,some ti124,none,some ti126,none,some ti128,some ti129,none,none,some ti132,some ti133,some ti134,some ti135,none,none,none,none,none,none,none,none,none,some ti145,none,none,none,none,none,none,none,none,none,none,none,none,some ti158,some ti159,none,none,none,none,none,none,none,none,none,some ti169,some ti170,none,none,none,none,none,some ti176,none,some ti178,none,none,none,none,some ti183,none,none,some ti186,some ti187,none,none,none,none,none,none,none,some ti195,some ti196,none,none,some ti199,none,none,none,none,none,none,none,none,none,none,none,none,none,none,none,none,none,none,none,some ti219,none,none,none,none,none,some ti225,none,none,none,some ti229,some ti230,none,none,some ti233,none,none,none,none,none,some ti239,none,none,none,none,none,none,none,none,some ti248,some ti249,none,none,none,none,none,none,none,none,none,none,some ti260,none,none,none,none,none,none,none,none,none,none,none,none,none,some ti274,none,none,none,none,none,none,none,none,none,none,some ti285,none,none,none,none,some ti290,some ti291,some ti292,none,some ti294,some ti295,none,none,none,none,none,none,none,none,some ti304,none,none,none,none,none,none,none,none,none,none,none,none,none,none,none,none,none,none,none,none,none,some ti326,some ti327,some ti328,some ti329,some ti330,none,some ti332,some ti333,some ti334,some ti335,some ti336,some ti337,some ti338,some ti339,none]
def tt:TT:=fun t=>(ttL[t]?).getD none
theorem tt1:tt 1=some ti1:=rfl
theorem tt2:tt 2=some ti2:=rfl
theorem tt3:tt 3=some ti3:=rfl
theorem tt4:tt 4=some ti4:=rfl
theorem tt5:tt 5=some ti5:=rfl
theorem tt6:tt 6=some ti6:=rfl
theorem tt7:tt 7=some ti7:=rfl
theorem tt8:tt 8=some ti8:=rfl
theorem tt9:tt 9=some ti9:=rfl
theorem tt10:tt 10=some ti10:=rfl
theorem tt11:tt 11=some ti11:=rfl
theorem tt12:tt 12=some ti12:=rfl
theorem tt13:tt 13=some ti13:=rfl
theorem tt14:tt 14=some ti14:=rfl
theorem tt15:tt 15=some ti15:=rfl
theorem tt16:tt 16=some ti16:=rfl
theorem tt17:tt 17=some ti17:=rfl
theorem tt18:tt 18=some ti18:=rfl
theorem tt19:tt 19=some ti19:=rfl
theorem tt21:tt 21=some ti21:=rfl
theorem tt22:tt 22=some ti22:=rfl
theorem tt23:tt 23=some ti23:=rfl
theorem tt24:tt 24=some ti24:=rfl
theorem tt25:tt 25=some ti25:=rfl
theorem tt26:tt 26=some ti26:=rfl
theorem tt27:tt 27=some ti27:=rfl
theorem tt28:tt 28=some ti28:=rfl
theorem tt29:tt 29=some ti29:=rfl
theorem tt30:tt 30=some ti30:=rfl
theorem tt31:tt 31=some ti31:=rfl
theorem tt32:tt 32=some ti32:=rfl
theorem tt33:tt 33=some ti33:=rfl
theorem tt34:tt 34=some ti34:=rfl
theorem tt35:tt 35=some ti35:=rfl
theorem tt36:tt 36=some ti36:=rfl
theorem tt37:tt 37=some ti37:=rfl
theorem tt38:tt 38=some ti38:=rfl
theorem tt39:tt 39=some ti39:=rfl
theorem tt40:tt 40=some ti40:=rfl
theorem tt41:tt 41=some ti41:=rfl
theorem tt42:tt 42=some ti42:=rfl
theorem tt43:tt 43=some ti43:=rfl
theorem tt44:tt 44=some ti44:=rfl
theorem tt45:tt 45=some ti45:=rfl
theorem tt46:tt 46=some ti46:=rfl
theorem tt47:tt 47=some ti47:=rfl
theorem tt48:tt 48=some ti48:=rfl
theorem tt49:tt 49=some ti49:=rfl
theorem tt50:tt 50=some ti50:=rfl
theorem tt51:tt 51=some ti51:=rfl
theorem tt52:tt 52=some ti52:=rfl
theorem tt53:tt 53=some ti53:=rfl
theorem tt55:tt 55=some ti55:=rfl
theorem tt56:tt 56=some ti56:=rfl
theorem tt57:tt 57=some ti57:=rfl
theorem tt58:tt 58=some ti58:=rfl
theorem tt59:tt 59=some ti59:=rfl
theorem tt60:tt 60=some ti60:=rfl
theorem tt62:tt 62=some ti62:=rfl
theorem tt63:tt 63=some ti63:=rfl
theorem tt64:tt 64=some ti64:=rfl
theorem tt65:tt 65=some ti65:=rfl
theorem tt66:tt 66=some ti66:=rfl
theorem tt67:tt 67=some ti67:=rfl
theorem tt73:tt 73=some ti73:=rfl
theorem tt74:tt 74=some ti74:=rfl
theorem tt75:tt 75=some ti75:=rfl
theorem tt76:tt 76=some ti76:=rfl
theorem tt77:tt 77=some ti77:=rfl
theorem tt78:tt 78=some ti78:=rfl
theorem tt79:tt 79=some ti79:=rfl
theorem tt80:tt 80=some ti80:=rfl
theorem tt82:tt 82=some ti82:=rfl
theorem tt83:tt 83=some ti83:=rfl
theorem tt84:tt 84=some ti84:=rfl
theorem tt87:tt 87=some ti87:=rfl
theorem tt97:tt 97=some ti97:=rfl
theorem tt98:tt 98=some ti98:=rfl
theorem tt99:tt 99=some ti99:=rfl
theorem tt100:tt 100=some ti100:=rfl
theorem tt101:tt 101=some ti101:=rfl
theorem tt102:tt 102=some ti102:=rfl
theorem tt104:tt 104=some ti104:=rfl
theorem tt105:tt 105=some ti105:=rfl
theorem tt118:tt 118=some ti118:=rfl
theorem tt119:tt 119=some ti119:=rfl
theorem tt120:tt 120=some ti120:=rfl
theorem tt121:tt 121=some ti121:=rfl
theorem tt124:tt 124=some ti124:=rfl
theorem tt126:tt 126=some ti126:=rfl
theorem tt128:tt 128=some ti128:=rfl
theorem tt129:tt 129=some ti129:=rfl
theorem tt132:tt 132=some ti132:=rfl
theorem tt133:tt 133=some ti133:=rfl
theorem tt134:tt 134=some ti134:=rfl
theorem tt135:tt 135=some ti135:=rfl
theorem tt145:tt 145=some ti145:=rfl
theorem tt158:tt 158=some ti158:=rfl
theorem tt159:tt 159=some ti159:=rfl
theorem tt169:tt 169=some ti169:=rfl
theorem tt170:tt 170=some ti170:=rfl
theorem tt176:tt 176=some ti176:=rfl
theorem tt178:tt 178=some ti178:=rfl
theorem tt183:tt 183=some ti183:=rfl
theorem tt186:tt 186=some ti186:=rfl
theorem tt187:tt 187=some ti187:=rfl
theorem tt195:tt 195=some ti195:=rfl
theorem tt196:tt 196=some ti196:=rfl
theorem tt199:tt 199=some ti199:=rfl
theorem tt219:tt 219=some ti219:=rfl
theorem tt225:tt 225=some ti225:=rfl
theorem tt229:tt 229=some ti229:=rfl
theorem tt230:tt 230=some ti230:=rfl
theorem tt233:tt 233=some ti233:=rfl
theorem tt239:tt 239=some ti239:=rfl
theorem tt248:tt 248=some ti248:=rfl
theorem tt249:tt 249=some ti249:=rfl
theorem tt260:tt 260=some ti260:=rfl
theorem tt274:tt 274=some ti274:=rfl
theorem tt285:tt 285=some ti285:=rfl
theorem tt290:tt 290=some ti290:=rfl
theorem tt291:tt 291=some ti291:=rfl
theorem tt292:tt 292=some ti292:=rfl
theorem tt294:tt 294=some ti294:=rfl
theorem tt295:tt 295=some ti295:=rfl
theorem tt304:tt 304=some ti304:=rfl
theorem tt326:tt 326=some ti326:=rfl
theorem tt327:tt 327=some ti327:=rfl
theorem tt328:tt 328=some ti328:=rfl
theorem tt329:tt 329=some ti329:=rfl
theorem tt330:tt 330=some ti330:=rfl
theorem tt332:tt 332=some ti332:=rfl
theorem tt333:tt 333=some ti333:=rfl
theorem tt334:tt 334=some ti334:=rfl
theorem tt335:tt 335=some ti335:=rfl
theorem tt336:tt 336=some ti336:=rfl
theorem tt337:tt 337=some ti337:=rfl
theorem tt338:tt 338=some ti338:=rfl
theorem tt339:tt 339=some ti339:=rfl
theorem ttAll:(ttL.zipIdx.all fun x=>x.1.isNone || decide (Z0 Tryz.prog x.2=x.1))=true:=by kernel_rfl
theorem htt:∀ t i,tt t=some i→Z0 Tryz.prog t=some i:=by
  intro t i h;unfold tt at h;cases ht:ttL[t]? with
  | none=>simp[ht] at h
  | some o =>
    simp[ht] at h
    subst h;have:=List.all_eq_true.1 ttAll (some i,t) (List.mem_zipIdx_iff_getElem?.2 ht);simpa using this
theorem mixed:Tryz.prog.follows .mixedOrders=true:=by kernel_rfl
end Go.Proofs.YtbppknpnmjhjpaaGreatDoor
