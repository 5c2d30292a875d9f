import Derived.Test.YthpkpciceodioaaGreatDoorAvP3
import Derived.Test.YthpkpciceodioaaGreatDoorProg
namespace Go.Proofs.YthpkpciceodioaaGreatDoor
open Go.Av
set_option maxRecDepth 1000000

def ti1 : TI:=⟨1,TK.other,[Zc.fn],8,false⟩
def ti2 : TI:=⟨1,TK.int IntKind.i64,[Zc.int IntKind.i64],8,true⟩
def ti3 : TI:=⟨1,TK.int IntKind.i64,[Zc.int IntKind.i64],8,true⟩
def ti4 : TI:=⟨1,TK.bool,[Zc.bool],1,false⟩
def ti5 : TI:=⟨1,TK.int IntKind.u8,[Zc.int IntKind.u8],1,true⟩
def ti6 : TI:=⟨1,TK.int IntKind.u8,[Zc.int IntKind.u8],1,true⟩
def ti7 : TI:=⟨4,TK.struct [(0,2),(1,3),(2,4),(3,6)],[Zc.int IntKind.i64,Zc.int IntKind.i64,Zc.bool,Zc.int IntKind.u8],24,false⟩
def ti8 : TI:=⟨4,TK.struct [(0,2),(1,3),(2,4),(3,6)],[Zc.int IntKind.i64,Zc.int IntKind.i64,Zc.bool,Zc.int IntKind.u8],24,false⟩
def ti9 : TI:=⟨1,TK.str,[Zc.str],16,false⟩
def ti10 : TI:=⟨1,TK.str,[Zc.str],16,false⟩
def ti11 : TI:=⟨1,TK.str,[Zc.str],16,false⟩
def ti12 : TI:=⟨1,TK.int IntKind.u64,[Zc.int IntKind.u64],8,true⟩
def ti13 : TI:=⟨2,TK.struct [(0,9),(1,12)],[Zc.str,Zc.int IntKind.u64],24,false⟩
def ti14 : TI:=⟨2,TK.struct [(0,9),(1,12)],[Zc.str,Zc.int IntKind.u64],24,false⟩
def ti15 : TI:=⟨1,TK.other,[Zc.ptr],8,false⟩
def ti16 : TI:=⟨1,TK.other,[Zc.ptr],8,false⟩
def ti17 : TI:=⟨1,TK.other,[Zc.ptr],8,false⟩
def ti18 : TI:=⟨1,TK.struct [(0,17)],[Zc.ptr],8,false⟩
def ti19 : TI:=⟨1,TK.struct [(0,17)],[Zc.ptr],8,false⟩
def ti21 : TI:=⟨1,TK.int IntKind.i32,[Zc.int IntKind.i32],4,true⟩
def ti22 : TI:=⟨1,TK.int IntKind.u32,[Zc.int IntKind.u32],4,true⟩
def ti23 : TI:=⟨32,TK.array 32 5,zr 32 (Zc.int IntKind.u8),32,true⟩
def ti24 : TI:=⟨32,TK.array 32 5,zr 32 (Zc.int IntKind.u8),32,true⟩
def ti25 : TI:=⟨68,TK.struct [(0,22),(1,24),(33,24),(65,22),(66,22),(67,22)],[Zc.int IntKind.u32]++(zr 64 (Zc.int IntKind.u8)++([Zc.int IntKind.u32,Zc.int IntKind.u32,Zc.int IntKind.u32])),80,true⟩
def ti26 : TI:=⟨68,TK.struct [(0,22),(1,24),(33,24),(65,22),(66,22),(67,22)],[Zc.int IntKind.u32]++(zr 64 (Zc.int IntKind.u8)++([Zc.int IntKind.u32,Zc.int IntKind.u32,Zc.int IntKind.u32])),80,true⟩
def ti27 : TI:=⟨1,TK.slice 64,[Zc.nil],24,false⟩
def ti28 : TI:=⟨69,TK.struct [(0,26),(68,27)],[Zc.int IntKind.u32]++(zr 64 (Zc.int IntKind.u8)++([Zc.int IntKind.u32,Zc.int IntKind.u32,Zc.int IntKind.u32,Zc.nil])),104,false⟩
def ti29 : TI:=⟨69,TK.struct [(0,26),(68,27)],[Zc.int IntKind.u32]++(zr 64 (Zc.int IntKind.u8)++([Zc.int IntKind.u32,Zc.int IntKind.u32,Zc.int IntKind.u32,Zc.nil])),104,false⟩
def ti30 : TI:=⟨1,TK.other,[Zc.fn],8,false⟩
def ti31 : TI:=⟨1,TK.other,[Zc.fn],8,false⟩
def ti32 : TI:=⟨1,TK.slice 5,[Zc.nil],24,false⟩
def ti33 : TI:=⟨2,TK.struct [(0,3),(1,32)],[Zc.int IntKind.i64,Zc.nil],32,false⟩
def ti34 : TI:=⟨2,TK.struct [(0,3),(1,32)],[Zc.int IntKind.i64,Zc.nil],32,false⟩
def ti35 : TI:=⟨1,TK.int IntKind.i64,[Zc.int IntKind.i64],8,true⟩
def ti37 : TI:=⟨1,TK.other,[Zc.fn],8,false⟩
def ti38 : TI:=⟨1,TK.other,[Zc.fn],8,false⟩
def ti39 : TI:=⟨1,TK.slice 32,[Zc.nil],24,false⟩
def ti40 : TI:=⟨1,TK.other,[Zc.fn],8,false⟩
def ti41 : TI:=⟨1,TK.other,[Zc.fn],8,false⟩
def ti42 : TI:=⟨1,TK.other,[Zc.fn],8,false⟩
def ti44 : TI:=⟨1,TK.other,[Zc.fn],8,false⟩
def ti45 : TI:=⟨1,TK.other,[Zc.fn],8,false⟩
def ti46 : TI:=⟨1,TK.int IntKind.u64,[Zc.int IntKind.u64],8,true⟩
def ti47 : TI:=⟨4,TK.array 4 46,zr 4 (Zc.int IntKind.u64),32,true⟩
def ti48 : TI:=⟨4,TK.array 4 46,zr 4 (Zc.int IntKind.u64),32,true⟩
def ti49 : TI:=⟨1,TK.slice 183,[Zc.nil],24,false⟩
def ti50 : TI:=⟨80,TK.struct [(0,26),(68,48),(72,3),(73,22),(74,22),(75,22),(76,49),(77,2),(78,3),(79,3)],[Zc.int IntKind.u32]++(zr 64 (Zc.int IntKind.u8)++([Zc.int IntKind.u32,Zc.int IntKind.u32,Zc.int IntKind.u32]++(zr 4 (Zc.int IntKind.u64)++([Zc.int IntKind.i64,Zc.int IntKind.u32,Zc.int IntKind.u32,Zc.int IntKind.u32,Zc.nil,Zc.int IntKind.i64,Zc.int IntKind.i64,Zc.int IntKind.i64])))),184,false⟩
def ti51 : TI:=⟨80,TK.struct [(0,26),(68,48),(72,3),(73,22),(74,22),(75,22),(76,49),(77,2),(78,3),(79,3)],[Zc.int IntKind.u32]++(zr 64 (Zc.int IntKind.u8)++([Zc.int IntKind.u32,Zc.int IntKind.u32,Zc.int IntKind.u32]++(zr 4 (Zc.int IntKind.u64)++([Zc.int IntKind.i64,Zc.int IntKind.u32,Zc.int IntKind.u32,Zc.int IntKind.u32,Zc.nil,Zc.int IntKind.i64,Zc.int IntKind.i64,Zc.int IntKind.i64])))),184,false⟩
def ti52 : TI:=⟨1,TK.slice 29,[Zc.nil],24,false⟩
def ti53 : TI:=⟨1,TK.slice 121,[Zc.nil],24,false⟩
def ti54 : TI:=⟨1,TK.slice 124,[Zc.nil],24,false⟩
def ti55 : TI:=⟨1,TK.slice 127,[Zc.nil],24,false⟩
def ti56 : TI:=⟨84,TK.struct [(0,51),(80,52),(81,53),(82,54),(83,55)],[Zc.int IntKind.u32]++(zr 64 (Zc.int IntKind.u8)++([Zc.int IntKind.u32,Zc.int IntKind.u32,Zc.int IntKind.u32]++(zr 4 (Zc.int IntKind.u64)++([Zc.int IntKind.i64,Zc.int IntKind.u32,Zc.int IntKind.u32,Zc.int IntKind.u32,Zc.nil,Zc.int IntKind.i64,Zc.int IntKind.i64,Zc.int IntKind.i64]++(zr 4 (Zc.nil)))))),280,false⟩
def ti57 : TI:=⟨84,TK.struct [(0,51),(80,52),(81,53),(82,54),(83,55)],[Zc.int IntKind.u32]++(zr 64 (Zc.int IntKind.u8)++([Zc.int IntKind.u32,Zc.int IntKind.u32,Zc.int IntKind.u32]++(zr 4 (Zc.int IntKind.u64)++([Zc.int IntKind.i64,Zc.int IntKind.u32,Zc.int IntKind.u32,Zc.int IntKind.u32,Zc.nil,Zc.int IntKind.i64,Zc.int IntKind.i64,Zc.int IntKind.i64]++(zr 4 (Zc.nil)))))),280,false⟩
def ti58 : TI:=⟨1,TK.other,[Zc.fn],8,false⟩
def ti59 : TI:=⟨1,TK.other,[Zc.fn],8,false⟩
def ti60 : TI:=⟨1,TK.other,[Zc.fn],8,false⟩
def ti61 : TI:=⟨1,TK.slice 70,[Zc.nil],24,false⟩
def ti62 : TI:=⟨1,TK.slice 66,[Zc.nil],24,false⟩
def ti63 : TI:=⟨4,TK.struct [(0,22),(1,61),(2,62),(3,22)],[Zc.int IntKind.u32,Zc.nil,Zc.nil,Zc.int IntKind.u32],64,false⟩
def ti64 : TI:=⟨4,TK.struct [(0,22),(1,61),(2,62),(3,22)],[Zc.int IntKind.u32,Zc.nil,Zc.nil,Zc.int IntKind.u32],64,false⟩
def ti65 : TI:=⟨2,TK.struct [(0,2),(1,32)],[Zc.int IntKind.i64,Zc.nil],32,false⟩
def ti66 : TI:=⟨2,TK.struct [(0,2),(1,32)],[Zc.int IntKind.i64,Zc.nil],32,false⟩
def ti67 : TI:=⟨33,TK.struct [(0,24),(32,22)],zr 32 (Zc.int IntKind.u8)++([Zc.int IntKind.u32]),36,true⟩
def ti68 : TI:=⟨33,TK.struct [(0,24),(32,22)],zr 32 (Zc.int IntKind.u8)++([Zc.int IntKind.u32]),36,true⟩
def ti69 : TI:=⟨35,TK.struct [(0,68),(33,22),(34,39)],zr 32 (Zc.int IntKind.u8)++([Zc.int IntKind.u32,Zc.int IntKind.u32,Zc.nil]),64,false⟩
def ti70 : TI:=⟨35,TK.struct [(0,68),(33,22),(34,39)],zr 32 (Zc.int IntKind.u8)++([Zc.int IntKind.u32,Zc.int IntKind.u32,Zc.nil]),64,false⟩
def ti71 : TI:=⟨1,TK.other,[Zc.fn],8,false⟩
def ti72 : TI:=⟨1,TK.other,[Zc.fn],8,false⟩
def ti73 : TI:=⟨1,TK.other,[Zc.fn],8,false⟩
def ti74 : TI:=⟨1,TK.other,[Zc.fn],8,false⟩
def ti75 : TI:=⟨1,TK.other,[Zc.fn],8,false⟩
def ti77 : TI:=⟨1,TK.other,[Zc.fn],8,false⟩
def ti78 : TI:=⟨1,TK.other,[Zc.fn],8,false⟩
def ti79 : TI:=⟨1,TK.other,[Zc.fn],8,false⟩
def ti80 : TI:=⟨1,TK.other,[Zc.fn],8,false⟩
def ti81 : TI:=⟨1,TK.other,[Zc.fn],8,false⟩
def ti82 : TI:=⟨1,TK.other,[Zc.fn],8,false⟩
def ti83 : TI:=⟨1,TK.other,[Zc.fn],8,false⟩
def ti84 : TI:=⟨1,TK.other,[Zc.fn],8,false⟩
def ti85 : TI:=⟨2,TK.array 2 46,[Zc.int IntKind.u64,Zc.int IntKind.u64],16,true⟩
def ti86 : TI:=⟨2,TK.array 2 46,[Zc.int IntKind.u64,Zc.int IntKind.u64],16,true⟩
def ti87 : TI:=⟨1,TK.other,[Zc.fn],8,false⟩
def ti88 : TI:=⟨1,TK.other,[Zc.fn],8,false⟩
def ti89 : TI:=⟨1,TK.other,[Zc.fn],8,false⟩
def ti90 : TI:=⟨1,TK.other,[Zc.fn],8,false⟩
def ti91 : TI:=⟨1,TK.other,[Zc.fn],8,false⟩
def ti92 : TI:=⟨1,TK.other,[Zc.fn],8,false⟩
def ti93 : TI:=⟨1,TK.other,[Zc.fn],8,false⟩
def ti94 : TI:=⟨1,TK.other,[Zc.fn],8,false⟩
def ti95 : TI:=⟨1,TK.other,[Zc.fn],8,false⟩
def ti96 : TI:=⟨1,TK.other,[Zc.fn],8,false⟩
def ti97 : TI:=⟨1,TK.other,[Zc.fn],8,false⟩
def ti98 : TI:=⟨1,TK.other,[Zc.fn],8,false⟩
def ti99 : TI:=⟨1,TK.other,[Zc.fn],8,false⟩
def ti101 : TI:=⟨1,TK.other,[Zc.fn],8,false⟩
def ti103 : TI:=⟨1,TK.other,[Zc.fn],8,false⟩
def ti104 : TI:=⟨1,TK.other,[Zc.fn],8,false⟩
def ti105 : TI:=⟨1,TK.other,[Zc.fn],8,false⟩
def ti106 : TI:=⟨1,TK.other,[Zc.fn],8,false⟩
def ti107 : TI:=⟨1,TK.map 9 4,[Zc.map],8,false⟩
def ti108 : TI:=⟨1,TK.other,[Zc.fn],8,false⟩
def ti109 : TI:=⟨1,TK.slice 46,[Zc.nil],24,false⟩
def ti110 : TI:=⟨1,TK.other,[Zc.fn],8,false⟩
def ti111 : TI:=⟨1,TK.other,[Zc.fn],8,false⟩
def ti112 : TI:=⟨1,TK.other,[Zc.fn],8,false⟩
def ti113 : TI:=⟨1,TK.other,[Zc.fn],8,false⟩
def ti114 : TI:=⟨1,TK.other,[Zc.fn],8,false⟩
def ti115 : TI:=⟨1,TK.other,[Zc.fn],8,false⟩
def ti117 : TI:=⟨1,TK.other,[Zc.fn],8,false⟩
def ti118 : TI:=⟨1,TK.other,[Zc.fn],8,false⟩
def ti119 : TI:=⟨1,TK.slice 172,[Zc.nil],24,false⟩
def ti120 : TI:=⟨34,TK.struct [(0,3),(1,24),(33,119)],[Zc.int IntKind.i64]++(zr 32 (Zc.int IntKind.u8)++([Zc.nil])),64,false⟩
def ti121 : TI:=⟨34,TK.struct [(0,3),(1,24),(33,119)],[Zc.int IntKind.i64]++(zr 32 (Zc.int IntKind.u8)++([Zc.nil])),64,false⟩
def ti122 : TI:=⟨1,TK.slice 22,[Zc.nil],24,false⟩
def ti123 : TI:=⟨36,TK.struct [(0,3),(1,24),(33,22),(34,22),(35,122)],[Zc.int IntKind.i64]++(zr 32 (Zc.int IntKind.u8)++([Zc.int IntKind.u32,Zc.int IntKind.u32,Zc.nil])),72,false⟩
def ti124 : TI:=⟨36,TK.struct [(0,3),(1,24),(33,22),(34,22),(35,122)],[Zc.int IntKind.i64]++(zr 32 (Zc.int IntKind.u8)++([Zc.int IntKind.u32,Zc.int IntKind.u32,Zc.nil])),72,false⟩
def ti125 : TI:=⟨1,TK.other,[Zc.fn],8,false⟩
def ti126 : TI:=⟨1,TK.struct [(0,119)],[Zc.nil],24,false⟩
def ti127 : TI:=⟨1,TK.struct [(0,119)],[Zc.nil],24,false⟩
def ti129 : TI:=⟨1,TK.other,[Zc.fn],8,false⟩
def ti130 : TI:=⟨1,TK.other,[Zc.fn],8,false⟩
def ti132 : TI:=⟨1,TK.other,[Zc.fn],8,false⟩
def ti133 : TI:=⟨1,TK.other,[Zc.fn],8,false⟩
def ti135 : TI:=⟨1,TK.other,[Zc.fn],8,false⟩
def ti136 : TI:=⟨1,TK.other,[Zc.fn],8,false⟩
def ti137 : TI:=⟨1,TK.other,[Zc.fn],8,false⟩
def ti138 : TI:=⟨1,TK.other,[Zc.fn],8,false⟩
def ti139 : TI:=⟨1,TK.other,[Zc.fn],8,false⟩
def ti140 : TI:=⟨1,TK.int IntKind.u16,[Zc.int IntKind.u16],2,true⟩
def ti142 : TI:=⟨1,TK.other,[Zc.fn],8,false⟩
def ti144 : TI:=⟨1,TK.other,[Zc.fn],8,false⟩
def ti146 : TI:=⟨1,TK.other,[Zc.fn],8,false⟩
def ti147 : TI:=⟨1,TK.other,[Zc.fn],8,false⟩
def ti148 : TI:=⟨1,TK.other,[Zc.fn],8,false⟩
def ti149 : TI:=⟨1,TK.other,[Zc.fn],8,false⟩
def ti150 : TI:=⟨1,TK.other,[Zc.fn],8,false⟩
def ti151 : TI:=⟨2,TK.struct [(0,32),(1,3)],[Zc.nil,Zc.int IntKind.i64],32,false⟩
def ti152 : TI:=⟨2,TK.struct [(0,32),(1,3)],[Zc.nil,Zc.int IntKind.i64],32,false⟩
def ti154 : TI:=⟨1,TK.other,[Zc.fn],8,false⟩
def ti155 : TI:=⟨1,TK.other,[Zc.fn],8,false⟩
def ti156 : TI:=⟨1,TK.other,[Zc.fn],8,false⟩
def ti157 : TI:=⟨1,TK.other,[Zc.fn],8,false⟩
def ti158 : TI:=⟨1,TK.other,[Zc.fn],8,false⟩
def ti160 : TI:=⟨1,TK.other,[Zc.fn],8,false⟩
def ti161 : TI:=⟨1,TK.other,[Zc.fn],8,false⟩
def ti162 : TI:=⟨1,TK.other,[Zc.fn],8,false⟩
def ti163 : TI:=⟨1,TK.other,[Zc.fn],8,false⟩
def ti164 : TI:=⟨1,TK.other,[Zc.fn],8,false⟩
def ti165 : TI:=⟨1,TK.other,[Zc.fn],8,false⟩
def ti166 : TI:=⟨1,TK.other,[Zc.fn],8,false⟩
def ti168 : TI:=⟨1,TK.other,[Zc.fn],8,false⟩
def ti170 : TI:=⟨1,TK.other,[Zc.fn],8,false⟩
def ti171 : TI:=⟨37,TK.struct [(0,68),(33,66),(35,3),(36,4)],zr 32 (Zc.int IntKind.u8)++([Zc.int IntKind.u32,Zc.int IntKind.i64,Zc.nil,Zc.int IntKind.i64,Zc.bool]),88,false⟩
def ti172 : TI:=⟨37,TK.struct [(0,68),(33,66),(35,3),(36,4)],zr 32 (Zc.int IntKind.u8)++([Zc.int IntKind.u32,Zc.int IntKind.i64,Zc.nil,Zc.int IntKind.i64,Zc.bool]),88,false⟩
def ti173 : TI:=⟨1,TK.other,[Zc.fn],8,false⟩
def ti174 : TI:=⟨1,TK.other,[Zc.fn],8,false⟩
def ti175 : TI:=⟨1,TK.other,[Zc.fn],8,false⟩
def ti176 : TI:=⟨1,TK.other,[Zc.fn],8,false⟩
def ti177 : TI:=⟨1,TK.other,[Zc.fn],8,false⟩
def ti179 : TI:=⟨1,TK.other,[Zc.fn],8,false⟩
def ti180 : TI:=⟨1,TK.other,[Zc.fn],8,false⟩
def ti181 : TI:=⟨1,TK.other,[Zc.fn],8,false⟩
def ti182 : TI:=⟨33,TK.struct [(0,3),(1,24)],[Zc.int IntKind.i64]++(zr 32 (Zc.int IntKind.u8)),40,true⟩
def ti183 : TI:=⟨33,TK.struct [(0,3),(1,24)],[Zc.int IntKind.i64]++(zr 32 (Zc.int IntKind.u8)),40,true⟩
def ti184 : TI:=⟨1,TK.other,[Zc.fn],8,false⟩
def ti185 : TI:=⟨1,TK.other,[Zc.fn],8,false⟩
def ti186 : TI:=⟨1,TK.other,[Zc.fn],8,false⟩
def ti187 : TI:=⟨1,TK.other,[Zc.fn],8,false⟩
def ti188 : TI:=⟨1,TK.other,[Zc.fn],8,false⟩
def ti189 : TI:=⟨8,TK.array 8 22,zr 8 (Zc.int IntKind.u32),32,true⟩
def ti190 : TI:=⟨1,TK.other,[Zc.fn],8,false⟩
def ti191 : TI:=⟨64,TK.array 64 5,zr 64 (Zc.int IntKind.u8),64,true⟩
def ti192 : TI:=⟨1,TK.other,[Zc.fn],8,false⟩
def ti193 : TI:=⟨1,TK.int IntKind.u64,[Zc.int IntKind.u64],8,true⟩
def ti194 : TI:=⟨1,TK.other,[Zc.fn],8,false⟩
def ti195 : TI:=⟨1,TK.other,[Zc.fn],8,false⟩
def ti196 : TI:=⟨1,TK.other,[Zc.fn],8,false⟩
def ti197 : TI:=⟨1,TK.other,[Zc.fn],8,false⟩
def ti198 : TI:=⟨1,TK.other,[Zc.fn],8,false⟩
def ti199 : TI:=⟨1,TK.other,[Zc.ptr],8,false⟩
def ti200 : TI:=⟨1,TK.other,[Zc.fn],8,false⟩
def ti201 : TI:=⟨1,TK.other,[Zc.fn],8,false⟩
def ti202 : TI:=⟨1,TK.other,[Zc.fn],8,false⟩
def ti203 : TI:=⟨2,TK.struct [(0,152)],[Zc.nil,Zc.int IntKind.i64],32,false⟩
def ti204 : TI:=⟨2,TK.struct [(0,152)],[Zc.nil,Zc.int IntKind.i64],32,false⟩
def ti206 : TI:=⟨1,TK.other,[Zc.fn],8,false⟩
def ti207 : TI:=⟨4,TK.array 4 46,zr 4 (Zc.int IntKind.u64),32,true⟩
def ti208 : TI:=⟨1,TK.other,[Zc.fn],8,false⟩
def ti209 : TI:=⟨1,TK.other,[Zc.fn],8,false⟩
def ti210 : TI:=⟨1,TK.other,[Zc.fn],8,false⟩
def ti211 : TI:=⟨1,TK.other,[Zc.fn],8,false⟩
def ti212 : TI:=⟨1,TK.other,[Zc.fn],8,false⟩
def ti213 : TI:=⟨1,TK.other,[Zc.fn],8,false⟩
def ti214 : TI:=⟨1,TK.other,[Zc.fn],8,false⟩
def ti215 : TI:=⟨1,TK.other,[Zc.fn],8,false⟩
def ti216 : TI:=⟨1,TK.other,[Zc.fn],8,false⟩
def ti217 : TI:=⟨1,TK.other,[Zc.fn],8,false⟩
def ti219 : TI:=⟨1,TK.other,[Zc.fn],8,false⟩
def ti220 : TI:=⟨1,TK.other,[Zc.fn],8,false⟩
def ti221 : TI:=⟨1,TK.other,[Zc.fn],8,false⟩
def ti222 : TI:=⟨1,TK.slice 24,[Zc.nil],24,false⟩
def ti223 : TI:=⟨1,TK.other,[Zc.fn],8,false⟩
def ti224 : TI:=⟨1,TK.other,[Zc.fn],8,false⟩
def ti225 : TI:=⟨1,TK.other,[Zc.fn],8,false⟩
def ti226 : TI:=⟨1,TK.other,[Zc.fn],8,false⟩
def ti227 : TI:=⟨1,TK.other,[Zc.fn],8,false⟩
def ti228 : TI:=⟨1,TK.other,[Zc.fn],8,false⟩
def ti229 : TI:=⟨1,TK.other,[Zc.fn],8,false⟩
def ti230 : TI:=⟨1,TK.other,[Zc.fn],8,false⟩
def ti231 : TI:=⟨1,TK.other,[Zc.fn],8,false⟩
def ti233 : TI:=⟨1,TK.other,[Zc.fn],8,false⟩
def ti234 : TI:=⟨1,TK.other,[Zc.fn],8,false⟩
def ti235 : TI:=⟨1,TK.other,[Zc.fn],8,false⟩
def ti236 : TI:=⟨1,TK.other,[Zc.fn],8,false⟩
def ti237 : TI:=⟨1,TK.other,[Zc.fn],8,false⟩
def ti238 : TI:=⟨64,TK.array 64 22,zr 64 (Zc.int IntKind.u32),256,true⟩
def ti239 : TI:=⟨1,TK.other,[Zc.fn],8,false⟩
def ti240 : TI:=⟨1,TK.other,[Zc.fn],8,false⟩
def ti241 : TI:=⟨1,TK.other,[Zc.fn],8,false⟩
def ti242 : TI:=⟨1,TK.other,[Zc.fn],8,false⟩
def ti243 : TI:=⟨1,TK.other,[Zc.fn],8,false⟩
def ti244 : TI:=⟨1,TK.other,[Zc.fn],8,false⟩
def ti245 : TI:=⟨1,TK.other,[Zc.fn],8,false⟩
def ti246 : TI:=⟨1,TK.int IntKind.i64,[Zc.int IntKind.i64],8,true⟩
def ti248 : TI:=⟨1,TK.other,[Zc.fn],8,false⟩
def ti249 : TI:=⟨1,TK.other,[Zc.fn],8,false⟩
def ti250 : TI:=⟨1,TK.other,[Zc.fn],8,false⟩
def ti252 : TI:=⟨1,TK.other,[Zc.fn],8,false⟩
def ti253 : TI:=⟨1,TK.other,[Zc.fn],8,false⟩
def ti254 : TI:=⟨1,TK.other,[Zc.fn],8,false⟩
def ti255 : TI:=⟨1,TK.other,[Zc.fn],8,false⟩
def ti256 : TI:=⟨1,TK.slice 222,[Zc.nil],24,false⟩
def ti257 : TI:=⟨1,TK.other,[Zc.fn],8,false⟩
def ti258 : TI:=⟨1,TK.other,[Zc.fn],8,false⟩
def ti259 : TI:=⟨1,TK.other,[Zc.fn],8,false⟩
def ti260 : TI:=⟨1,TK.other,[Zc.fn],8,false⟩
def ti261 : TI:=⟨1,TK.other,[Zc.fn],8,false⟩
def ti263 : TI:=⟨1,TK.other,[Zc.fn],8,false⟩
def ti264 : TI:=⟨1,TK.other,[Zc.fn],8,false⟩
def ti265 : TI:=⟨34,TK.struct [(0,24),(32,3),(33,3)],zr 32 (Zc.int IntKind.u8)++([Zc.int IntKind.i64,Zc.int IntKind.i64]),48,true⟩
def ti266 : TI:=⟨34,TK.struct [(0,24),(32,3),(33,3)],zr 32 (Zc.int IntKind.u8)++([Zc.int IntKind.i64,Zc.int IntKind.i64]),48,true⟩
def ti268 : TI:=⟨1,TK.other,[Zc.fn],8,false⟩
def ti269 : TI:=⟨1,TK.other,[Zc.fn],8,false⟩
def ti271 : TI:=⟨1,TK.other,[Zc.fn],8,false⟩
def ti272 : TI:=⟨1,TK.other,[Zc.fn],8,false⟩
def ti273 : TI:=⟨1,TK.other,[Zc.fn],8,false⟩
def ti274 : TI:=⟨1,TK.int IntKind.u64,[Zc.int IntKind.u64],8,true⟩
def ti275 : TI:=⟨1,TK.other,[Zc.fn],8,false⟩
def ti276 : TI:=⟨1,TK.other,[Zc.fn],8,false⟩
def ti277 : TI:=⟨1,TK.other,[Zc.fn],8,false⟩
def ti278 : TI:=⟨1,TK.other,[Zc.ptr],8,false⟩
def ti279 : TI:=⟨1,TK.other,[Zc.fn],8,false⟩
def ti280 : TI:=⟨1,TK.slice 68,[Zc.nil],24,false⟩
def ti281 : TI:=⟨1,TK.other,[Zc.fn],8,false⟩
def ti283 : TI:=⟨1,TK.other,[Zc.fn],8,false⟩
def ti284 : TI:=⟨1,TK.other,[Zc.fn],8,false⟩
def ti285 : TI:=⟨8,TK.array 8 46,zr 8 (Zc.int IntKind.u64),64,true⟩
def ti286 : TI:=⟨1,TK.other,[Zc.fn],8,false⟩
def ti288 : TI:=⟨1,TK.other,[Zc.fn],8,false⟩
def ti289 : TI:=⟨1,TK.other,[Zc.ptr],8,false⟩
def ti291 : TI:=⟨1,TK.other,[Zc.fn],8,false⟩
def ti292 : TI:=⟨1,TK.slice 299,[Zc.nil],24,false⟩
def ti294 : TI:=⟨1,TK.other,[Zc.fn],8,false⟩
def ti295 : TI:=⟨1,TK.other,[Zc.fn],8,false⟩
def ti296 : TI:=⟨1,TK.other,[Zc.fn],8,false⟩
def ti297 : TI:=⟨1,TK.slice 302,[Zc.nil],24,false⟩
def ti298 : TI:=⟨4,TK.struct [(0,3),(1,32),(2,3),(3,3)],[Zc.int IntKind.i64,Zc.nil,Zc.int IntKind.i64,Zc.int IntKind.i64],48,false⟩
def ti299 : TI:=⟨4,TK.struct [(0,3),(1,32),(2,3),(3,3)],[Zc.int IntKind.i64,Zc.nil,Zc.int IntKind.i64,Zc.int IntKind.i64],48,false⟩
def ti300 : TI:=⟨1,TK.other,[Zc.fn],8,false⟩
def ti301 : TI:=⟨2,TK.struct [(0,4),(1,4)],[Zc.bool,Zc.bool],2,false⟩
def ti302 : TI:=⟨2,TK.struct [(0,4),(1,4)],[Zc.bool,Zc.bool],2,false⟩
def ti303 : TI:=⟨1,TK.other,[Zc.fn],8,false⟩
def ti305 : TI:=⟨1,TK.other,[Zc.fn],8,false⟩
def ti307 : TI:=⟨1,TK.other,[Zc.fn],8,false⟩
def ti308 : TI:=⟨1,TK.slice 4,[Zc.nil],24,false⟩
def ti309 : TI:=⟨1,TK.other,[Zc.fn],8,false⟩
def ti310 : TI:=⟨1,TK.other,[Zc.fn],8,false⟩
def ti311 : TI:=⟨1,TK.other,[Zc.fn],8,false⟩
def ti312 : TI:=⟨1,TK.other,[Zc.fn],8,false⟩
def ti313 : TI:=⟨1,TK.other,[Zc.fn],8,false⟩
def ti314 : TI:=⟨1,TK.other,[Zc.fn],8,false⟩
def ti315 : TI:=⟨8,TK.struct [(0,48),(4,48)],zr 8 (Zc.int IntKind.u64),64,true⟩
def ti316 : TI:=⟨8,TK.struct [(0,48),(4,48)],zr 8 (Zc.int IntKind.u64),64,true⟩
def ti318 : TI:=⟨1,TK.other,[Zc.fn],8,false⟩
def ti319 : TI:=⟨1,TK.other,[Zc.fn],8,false⟩
def ti320 : TI:=⟨1,TK.other,[Zc.fn],8,false⟩
def ti321 : TI:=⟨1,TK.other,[Zc.fn],8,false⟩
def ti322 : TI:=⟨1,TK.other,[Zc.fn],8,false⟩
def ti323 : TI:=⟨1,TK.other,[Zc.fn],8,false⟩
def ti324 : TI:=⟨1,TK.other,[Zc.fn],8,false⟩
def ti325 : TI:=⟨1,TK.other,[Zc.fn],8,false⟩
def ti326 : TI:=⟨1,TK.other,[Zc.fn],8,false⟩
def ti327 : TI:=⟨1,TK.other,[Zc.fn],8,false⟩
def ti328 : TI:=⟨4,TK.struct [(0,17),(1,17),(2,17),(3,9)],[Zc.ptr,Zc.ptr,Zc.ptr,Zc.str],40,false⟩
def ti329 : TI:=⟨4,TK.struct [(0,17),(1,17),(2,17),(3,9)],[Zc.ptr,Zc.ptr,Zc.ptr,Zc.str],40,false⟩
def ti330 : TI:=⟨0,TK.array 0 16,[],0,false⟩
def ti331 : TI:=⟨0,TK.struct [(0,330)],[],0,false⟩
def ti332 : TI:=⟨0,TK.struct [(0,330)],[],0,false⟩
def ti333 : TI:=⟨1,TK.other,[Zc.fn],8,false⟩
def ti334 : TI:=⟨1,TK.int IntKind.u8,[Zc.int IntKind.u8],1,true⟩
def ti335 : TI:=⟨1,TK.int IntKind.u8,[Zc.int IntKind.u8],1,true⟩
def ti336 : TI:=⟨1,TK.other,[Zc.fn],8,false⟩
def ti337 : TI:=⟨1,TK.other,[Zc.ptr],8,false⟩
def ti338 : TI:=⟨1,TK.int IntKind.i32,[Zc.int IntKind.i32],4,true⟩
def ti339 : TI:=⟨1,TK.int IntKind.i32,[Zc.int IntKind.i32],4,true⟩
def ti340 : TI:=⟨11,TK.struct [(0,12),(1,12),(2,22),(3,334),(4,5),(5,5),(6,335),(7,336),(8,337),(9,338),(10,339)],[Zc.int IntKind.u64,Zc.int IntKind.u64,Zc.int IntKind.u32]++(zr 4 (Zc.int IntKind.u8)++([Zc.fn,Zc.ptr,Zc.int IntKind.i32,Zc.int IntKind.i32])),48,false⟩
def ti341 : TI:=⟨11,TK.struct [(0,12),(1,12),(2,22),(3,334),(4,5),(5,5),(6,335),(7,336),(8,337),(9,338),(10,339)],[Zc.int IntKind.u64,Zc.int IntKind.u64,Zc.int IntKind.u32]++(zr 4 (Zc.int IntKind.u8)++([Zc.fn,Zc.ptr,Zc.int IntKind.i32,Zc.int IntKind.i32])),48,false⟩
def ti342 : TI:=⟨1,TK.other,[Zc.ptr],8,false⟩
def ttL : List (Option TI):=[none,some ti1,some ti2,some ti3,some ti4,some ti5,some ti6,some ti7,some ti8,some ti9,some ti10,some ti11,some ti12,some ti13,some ti14,some ti15,some ti16,some ti17,some ti18,some ti19,none,some ti21,some ti22,some ti23,some ti24,some ti25,some ti26,some ti27,some ti28,some ti29,some ti30,some ti31,some ti32,some ti33,some ti34,some ti35,none,some ti37,some ti38,some ti39,some ti40,some ti41,some ti42,none,some ti44,some ti45,some ti46,some ti47,some ti48,some ti49,some ti50,some ti51,some ti52,some ti53,some ti54,some ti55,some ti56,some ti57,some ti58,some ti59,some ti60,some ti61,some ti62,some ti63,some ti64,some ti65,some ti66,some ti67,some ti68,some ti69,some ti70,some ti71,some ti72,some ti73,some ti74,some ti75,none,some ti77,some ti78,some ti79,some ti80,some ti81,some ti82,some ti83,some ti84,some ti85,some ti86,some ti87,some ti88,some ti89,some ti90,some ti91,some ti92,some ti93,some ti94,some ti95,some ti96,some ti97,some ti98,some ti99,none,some ti101,none,some ti103,some ti104,some ti105,some ti106,some ti107,some ti108,some ti109,some ti110,some ti111,some ti112,some ti113,some ti114,some ti115,none,some ti117,some ti118,some ti119,some ti120,some ti121,some ti122,some ti123,some ti124,some ti125,some ti126,some ti127,none,some ti129,some ti130,none,some ti132,some ti133,none,some ti135,some ti136,some ti137,some ti138,some ti139,some ti140,none,some ti142,none,some ti144,none,some ti146,some ti147,some ti148,some ti149,some ti150,some ti151,some ti152,none,some ti154,some ti155,some ti156,some ti157,some ti158,none,some ti160,some ti161,some ti162,some ti163,some ti164,some ti165,some ti166,none,some ti168,none,some ti170,some ti171,some ti172,some ti173,some ti174,some ti175,some ti176,some ti177,none,some ti179,some ti180,some ti181,some ti182,some ti183,some ti184,some ti185,some ti186,some ti187,some ti188,some ti189,some ti190,some ti191,some ti192,some ti193,some ti194,some ti195,some ti196,some ti197,some ti198,some ti199,some ti200,some ti201,some ti202,some ti203,some ti204,none,some ti206,some ti207,some ti208,some ti209,some ti210,some ti211,some ti212,some ti213,some ti214,some ti215,some ti216,some ti217,none,some ti219,some ti220,some ti221,some ti222,some ti223,some ti224,some ti225,some ti226,some ti227,some ti228,some ti229,some ti230,some ti231,none,some ti233,some ti234,some ti235,some ti236,some ti237,some ti238,some ti239,some ti240,some ti241,some ti242,some ti243,some ti244,some ti245,some ti246,none,some ti248,some ti249,some ti250,none,some ti252,some ti253,some ti254,some ti255,some ti256,some ti257,some ti258,some ti259,some ti260,some ti261,none,some ti263,some ti264,some ti265,some ti266,none,some ti268,some ti269,none,some ti271,some ti272,some ti273,some ti274,some ti275,some ti276,some ti277,some ti278,some ti279,some ti280,some ti281,none,some ti283,some ti284,some ti285,some ti286,none,some ti288,some ti289,none,some ti291,some ti292,none,some ti294,some ti295,some ti296,some ti297,some ti298,some ti299,some ti300,some ti301,some ti302,some ti303,none,some ti305,none,some ti307,some ti308,some ti309,some ti310,some ti311,some ti312,some ti313,some ti314,some ti315,some ti316,none,some ti318,some ti319,some ti320,some ti321,some ti322,some ti323,some ti324,some ti325,some ti326,some ti327,some ti328,some ti329,some ti330,some ti331,some ti332,some ti333,some ti334,some ti335,some ti336,some ti337,some ti338,some ti339,some ti340,some ti341,some ti342]
def tt : TT:=fun t=>(ttL[t]?).getD none
theorem tt1 : tt 1 = some ti1:=rfl
theorem tt2 : tt 2 = some ti2:=rfl
theorem tt3 : tt 3 = some ti3:=rfl
theorem tt4 : tt 4 = some ti4:=rfl
theorem tt5 : tt 5 = some ti5:=rfl
theorem tt6 : tt 6 = some ti6:=rfl
theorem tt7 : tt 7 = some ti7:=rfl
theorem tt8 : tt 8 = some ti8:=rfl
theorem tt9 : tt 9 = some ti9:=rfl
theorem tt10 : tt 10 = some ti10:=rfl
theorem tt11 : tt 11 = some ti11:=rfl
theorem tt12 : tt 12 = some ti12:=rfl
theorem tt13 : tt 13 = some ti13:=rfl
theorem tt14 : tt 14 = some ti14:=rfl
theorem tt15 : tt 15 = some ti15:=rfl
theorem tt16 : tt 16 = some ti16:=rfl
theorem tt17 : tt 17 = some ti17:=rfl
theorem tt18 : tt 18 = some ti18:=rfl
theorem tt19 : tt 19 = some ti19:=rfl
theorem tt21 : tt 21 = some ti21:=rfl
theorem tt22 : tt 22 = some ti22:=rfl
theorem tt23 : tt 23 = some ti23:=rfl
theorem tt24 : tt 24 = some ti24:=rfl
theorem tt25 : tt 25 = some ti25:=rfl
theorem tt26 : tt 26 = some ti26:=rfl
theorem tt27 : tt 27 = some ti27:=rfl
theorem tt28 : tt 28 = some ti28:=rfl
theorem tt29 : tt 29 = some ti29:=rfl
theorem tt30 : tt 30 = some ti30:=rfl
theorem tt31 : tt 31 = some ti31:=rfl
theorem tt32 : tt 32 = some ti32:=rfl
theorem tt33 : tt 33 = some ti33:=rfl
theorem tt34 : tt 34 = some ti34:=rfl
theorem tt35 : tt 35 = some ti35:=rfl
theorem tt37 : tt 37 = some ti37:=rfl
theorem tt38 : tt 38 = some ti38:=rfl
theorem tt39 : tt 39 = some ti39:=rfl
theorem tt40 : tt 40 = some ti40:=rfl
theorem tt41 : tt 41 = some ti41:=rfl
theorem tt42 : tt 42 = some ti42:=rfl
theorem tt44 : tt 44 = some ti44:=rfl
theorem tt45 : tt 45 = some ti45:=rfl
theorem tt46 : tt 46 = some ti46:=rfl
theorem tt47 : tt 47 = some ti47:=rfl
theorem tt48 : tt 48 = some ti48:=rfl
theorem tt49 : tt 49 = some ti49:=rfl
theorem tt50 : tt 50 = some ti50:=rfl
theorem tt51 : tt 51 = some ti51:=rfl
theorem tt52 : tt 52 = some ti52:=rfl
theorem tt53 : tt 53 = some ti53:=rfl
theorem tt54 : tt 54 = some ti54:=rfl
theorem tt55 : tt 55 = some ti55:=rfl
theorem tt56 : tt 56 = some ti56:=rfl
theorem tt57 : tt 57 = some ti57:=rfl
theorem tt58 : tt 58 = some ti58:=rfl
theorem tt59 : tt 59 = some ti59:=rfl
theorem tt60 : tt 60 = some ti60:=rfl
theorem tt61 : tt 61 = some ti61:=rfl
theorem tt62 : tt 62 = some ti62:=rfl
theorem tt63 : tt 63 = some ti63:=rfl
theorem tt64 : tt 64 = some ti64:=rfl
theorem tt65 : tt 65 = some ti65:=rfl
theorem tt66 : tt 66 = some ti66:=rfl
theorem tt67 : tt 67 = some ti67:=rfl
theorem tt68 : tt 68 = some ti68:=rfl
theorem tt69 : tt 69 = some ti69:=rfl
theorem tt70 : tt 70 = some ti70:=rfl
theorem tt71 : tt 71 = some ti71:=rfl
theorem tt72 : tt 72 = some ti72:=rfl
theorem tt73 : tt 73 = some ti73:=rfl
theorem tt74 : tt 74 = some ti74:=rfl
theorem tt75 : tt 75 = some ti75:=rfl
theorem tt77 : tt 77 = some ti77:=rfl
theorem tt78 : tt 78 = some ti78:=rfl
theorem tt79 : tt 79 = some ti79:=rfl
theorem tt80 : tt 80 = some ti80:=rfl
theorem tt81 : tt 81 = some ti81:=rfl
theorem tt82 : tt 82 = some ti82:=rfl
theorem tt83 : tt 83 = some ti83:=rfl
theorem tt84 : tt 84 = some ti84:=rfl
theorem tt85 : tt 85 = some ti85:=rfl
theorem tt86 : tt 86 = some ti86:=rfl
theorem tt87 : tt 87 = some ti87:=rfl
theorem tt88 : tt 88 = some ti88:=rfl
theorem tt89 : tt 89 = some ti89:=rfl
theorem tt90 : tt 90 = some ti90:=rfl
theorem tt91 : tt 91 = some ti91:=rfl
theorem tt92 : tt 92 = some ti92:=rfl
theorem tt93 : tt 93 = some ti93:=rfl
theorem tt94 : tt 94 = some ti94:=rfl
theorem tt95 : tt 95 = some ti95:=rfl
theorem tt96 : tt 96 = some ti96:=rfl
theorem tt97 : tt 97 = some ti97:=rfl
theorem tt98 : tt 98 = some ti98:=rfl
theorem tt99 : tt 99 = some ti99:=rfl
theorem tt101 : tt 101 = some ti101:=rfl
theorem tt103 : tt 103 = some ti103:=rfl
theorem tt104 : tt 104 = some ti104:=rfl
theorem tt105 : tt 105 = some ti105:=rfl
theorem tt106 : tt 106 = some ti106:=rfl
theorem tt107 : tt 107 = some ti107:=rfl
theorem tt108 : tt 108 = some ti108:=rfl
theorem tt109 : tt 109 = some ti109:=rfl
theorem tt110 : tt 110 = some ti110:=rfl
theorem tt111 : tt 111 = some ti111:=rfl
theorem tt112 : tt 112 = some ti112:=rfl
theorem tt113 : tt 113 = some ti113:=rfl
theorem tt114 : tt 114 = some ti114:=rfl
theorem tt115 : tt 115 = some ti115:=rfl
theorem tt117 : tt 117 = some ti117:=rfl
theorem tt118 : tt 118 = some ti118:=rfl
theorem tt119 : tt 119 = some ti119:=rfl
theorem tt120 : tt 120 = some ti120:=rfl
theorem tt121 : tt 121 = some ti121:=rfl
theorem tt122 : tt 122 = some ti122:=rfl
theorem tt123 : tt 123 = some ti123:=rfl
theorem tt124 : tt 124 = some ti124:=rfl
theorem tt125 : tt 125 = some ti125:=rfl
theorem tt126 : tt 126 = some ti126:=rfl
theorem tt127 : tt 127 = some ti127:=rfl
theorem tt129 : tt 129 = some ti129:=rfl
theorem tt130 : tt 130 = some ti130:=rfl
theorem tt132 : tt 132 = some ti132:=rfl
theorem tt133 : tt 133 = some ti133:=rfl
theorem tt135 : tt 135 = some ti135:=rfl
theorem tt136 : tt 136 = some ti136:=rfl
theorem tt137 : tt 137 = some ti137:=rfl
theorem tt138 : tt 138 = some ti138:=rfl
theorem tt139 : tt 139 = some ti139:=rfl
theorem tt140 : tt 140 = some ti140:=rfl
theorem tt142 : tt 142 = some ti142:=rfl
theorem tt144 : tt 144 = some ti144:=rfl
theorem tt146 : tt 146 = some ti146:=rfl
theorem tt147 : tt 147 = some ti147:=rfl
theorem tt148 : tt 148 = some ti148:=rfl
theorem tt149 : tt 149 = some ti149:=rfl
theorem tt150 : tt 150 = some ti150:=rfl
theorem tt151 : tt 151 = some ti151:=rfl
theorem tt152 : tt 152 = some ti152:=rfl
theorem tt154 : tt 154 = some ti154:=rfl
theorem tt155 : tt 155 = some ti155:=rfl
theorem tt156 : tt 156 = some ti156:=rfl
theorem tt157 : tt 157 = some ti157:=rfl
theorem tt158 : tt 158 = some ti158:=rfl
theorem tt160 : tt 160 = some ti160:=rfl
theorem tt161 : tt 161 = some ti161:=rfl
theorem tt162 : tt 162 = some ti162:=rfl
theorem tt163 : tt 163 = some ti163:=rfl
theorem tt164 : tt 164 = some ti164:=rfl
theorem tt165 : tt 165 = some ti165:=rfl
theorem tt166 : tt 166 = some ti166:=rfl
theorem tt168 : tt 168 = some ti168:=rfl
theorem tt170 : tt 170 = some ti170:=rfl
theorem tt171 : tt 171 = some ti171:=rfl
theorem tt172 : tt 172 = some ti172:=rfl
theorem tt173 : tt 173 = some ti173:=rfl
theorem tt174 : tt 174 = some ti174:=rfl
theorem tt175 : tt 175 = some ti175:=rfl
theorem tt176 : tt 176 = some ti176:=rfl
theorem tt177 : tt 177 = some ti177:=rfl
theorem tt179 : tt 179 = some ti179:=rfl
theorem tt180 : tt 180 = some ti180:=rfl
theorem tt181 : tt 181 = some ti181:=rfl
theorem tt182 : tt 182 = some ti182:=rfl
theorem tt183 : tt 183 = some ti183:=rfl
theorem tt184 : tt 184 = some ti184:=rfl
theorem tt185 : tt 185 = some ti185:=rfl
theorem tt186 : tt 186 = some ti186:=rfl
theorem tt187 : tt 187 = some ti187:=rfl
theorem tt188 : tt 188 = some ti188:=rfl
theorem tt189 : tt 189 = some ti189:=rfl
theorem tt190 : tt 190 = some ti190:=rfl
theorem tt191 : tt 191 = some ti191:=rfl
theorem tt192 : tt 192 = some ti192:=rfl
theorem tt193 : tt 193 = some ti193:=rfl
theorem tt194 : tt 194 = some ti194:=rfl
theorem tt195 : tt 195 = some ti195:=rfl
theorem tt196 : tt 196 = some ti196:=rfl
theorem tt197 : tt 197 = some ti197:=rfl
theorem tt198 : tt 198 = some ti198:=rfl
theorem tt199 : tt 199 = some ti199:=rfl
theorem tt200 : tt 200 = some ti200:=rfl
theorem tt201 : tt 201 = some ti201:=rfl
theorem tt202 : tt 202 = some ti202:=rfl
theorem tt203 : tt 203 = some ti203:=rfl
theorem tt204 : tt 204 = some ti204:=rfl
theorem tt206 : tt 206 = some ti206:=rfl
theorem tt207 : tt 207 = some ti207:=rfl
theorem tt208 : tt 208 = some ti208:=rfl
theorem tt209 : tt 209 = some ti209:=rfl
theorem tt210 : tt 210 = some ti210:=rfl
theorem tt211 : tt 211 = some ti211:=rfl
theorem tt212 : tt 212 = some ti212:=rfl
theorem tt213 : tt 213 = some ti213:=rfl
theorem tt214 : tt 214 = some ti214:=rfl
theorem tt215 : tt 215 = some ti215:=rfl
theorem tt216 : tt 216 = some ti216:=rfl
theorem tt217 : tt 217 = some ti217:=rfl
theorem tt219 : tt 219 = some ti219:=rfl
theorem tt220 : tt 220 = some ti220:=rfl
theorem tt221 : tt 221 = some ti221:=rfl
theorem tt222 : tt 222 = some ti222:=rfl
theorem tt223 : tt 223 = some ti223:=rfl
theorem tt224 : tt 224 = some ti224:=rfl
theorem tt225 : tt 225 = some ti225:=rfl
theorem tt226 : tt 226 = some ti226:=rfl
theorem tt227 : tt 227 = some ti227:=rfl
theorem tt228 : tt 228 = some ti228:=rfl
theorem tt229 : tt 229 = some ti229:=rfl
theorem tt230 : tt 230 = some ti230:=rfl
theorem tt231 : tt 231 = some ti231:=rfl
theorem tt233 : tt 233 = some ti233:=rfl
theorem tt234 : tt 234 = some ti234:=rfl
theorem tt235 : tt 235 = some ti235:=rfl
theorem tt236 : tt 236 = some ti236:=rfl
theorem tt237 : tt 237 = some ti237:=rfl
theorem tt238 : tt 238 = some ti238:=rfl
theorem tt239 : tt 239 = some ti239:=rfl
theorem tt240 : tt 240 = some ti240:=rfl
theorem tt241 : tt 241 = some ti241:=rfl
theorem tt242 : tt 242 = some ti242:=rfl
theorem tt243 : tt 243 = some ti243:=rfl
theorem tt244 : tt 244 = some ti244:=rfl
theorem tt245 : tt 245 = some ti245:=rfl
theorem tt246 : tt 246 = some ti246:=rfl
theorem tt248 : tt 248 = some ti248:=rfl
theorem tt249 : tt 249 = some ti249:=rfl
theorem tt250 : tt 250 = some ti250:=rfl
theorem tt252 : tt 252 = some ti252:=rfl
theorem tt253 : tt 253 = some ti253:=rfl
theorem tt254 : tt 254 = some ti254:=rfl
theorem tt255 : tt 255 = some ti255:=rfl
theorem tt256 : tt 256 = some ti256:=rfl
theorem tt257 : tt 257 = some ti257:=rfl
theorem tt258 : tt 258 = some ti258:=rfl
theorem tt259 : tt 259 = some ti259:=rfl
theorem tt260 : tt 260 = some ti260:=rfl
theorem tt261 : tt 261 = some ti261:=rfl
theorem tt263 : tt 263 = some ti263:=rfl
theorem tt264 : tt 264 = some ti264:=rfl
theorem tt265 : tt 265 = some ti265:=rfl
theorem tt266 : tt 266 = some ti266:=rfl
theorem tt268 : tt 268 = some ti268:=rfl
theorem tt269 : tt 269 = some ti269:=rfl
theorem tt271 : tt 271 = some ti271:=rfl
theorem tt272 : tt 272 = some ti272:=rfl
theorem tt273 : tt 273 = some ti273:=rfl
theorem tt274 : tt 274 = some ti274:=rfl
theorem tt275 : tt 275 = some ti275:=rfl
theorem tt276 : tt 276 = some ti276:=rfl
theorem tt277 : tt 277 = some ti277:=rfl
theorem tt278 : tt 278 = some ti278:=rfl
theorem tt279 : tt 279 = some ti279:=rfl
theorem tt280 : tt 280 = some ti280:=rfl
theorem tt281 : tt 281 = some ti281:=rfl
theorem tt283 : tt 283 = some ti283:=rfl
theorem tt284 : tt 284 = some ti284:=rfl
theorem tt285 : tt 285 = some ti285:=rfl
theorem tt286 : tt 286 = some ti286:=rfl
theorem tt288 : tt 288 = some ti288:=rfl
theorem tt289 : tt 289 = some ti289:=rfl
theorem tt291 : tt 291 = some ti291:=rfl
theorem tt292 : tt 292 = some ti292:=rfl
theorem tt294 : tt 294 = some ti294:=rfl
theorem tt295 : tt 295 = some ti295:=rfl
theorem tt296 : tt 296 = some ti296:=rfl
theorem tt297 : tt 297 = some ti297:=rfl
theorem tt298 : tt 298 = some ti298:=rfl
theorem tt299 : tt 299 = some ti299:=rfl
theorem tt300 : tt 300 = some ti300:=rfl
theorem tt301 : tt 301 = some ti301:=rfl
theorem tt302 : tt 302 = some ti302:=rfl
theorem tt303 : tt 303 = some ti303:=rfl
theorem tt305 : tt 305 = some ti305:=rfl
theorem tt307 : tt 307 = some ti307:=rfl
theorem tt308 : tt 308 = some ti308:=rfl
theorem tt309 : tt 309 = some ti309:=rfl
theorem tt310 : tt 310 = some ti310:=rfl
theorem tt311 : tt 311 = some ti311:=rfl
theorem tt312 : tt 312 = some ti312:=rfl
theorem tt313 : tt 313 = some ti313:=rfl
theorem tt314 : tt 314 = some ti314:=rfl
theorem tt315 : tt 315 = some ti315:=rfl
theorem tt316 : tt 316 = some ti316:=rfl
theorem tt318 : tt 318 = some ti318:=rfl
theorem tt319 : tt 319 = some ti319:=rfl
theorem tt320 : tt 320 = some ti320:=rfl
theorem tt321 : tt 321 = some ti321:=rfl
theorem tt322 : tt 322 = some ti322:=rfl
theorem tt323 : tt 323 = some ti323:=rfl
theorem tt324 : tt 324 = some ti324:=rfl
theorem tt325 : tt 325 = some ti325:=rfl
theorem tt326 : tt 326 = some ti326:=rfl
theorem tt327 : tt 327 = some ti327:=rfl
theorem tt328 : tt 328 = some ti328:=rfl
theorem tt329 : tt 329 = some ti329:=rfl
theorem tt330 : tt 330 = some ti330:=rfl
theorem tt331 : tt 331 = some ti331:=rfl
theorem tt332 : tt 332 = some ti332:=rfl
theorem tt333 : tt 333 = some ti333:=rfl
theorem tt334 : tt 334 = some ti334:=rfl
theorem tt335 : tt 335 = some ti335:=rfl
theorem tt336 : tt 336 = some ti336:=rfl
theorem tt337 : tt 337 = some ti337:=rfl
theorem tt338 : tt 338 = some ti338:=rfl
theorem tt339 : tt 339 = some ti339:=rfl
theorem tt340 : tt 340 = some ti340:=rfl
theorem tt341 : tt 341 = some ti341:=rfl
theorem tt342 : tt 342 = some ti342:=rfl
theorem ttAll : (ttL.zipIdx.all fun x=>x.1.isNone || decide (tinfo Tryz.prog x.2 = x.1)) = true:=by kernel_rfl
theorem htt : ∀ t i,tt t = some i→tinfo Tryz.prog t = some i:=by
  intro t i h;unfold tt at h;cases ht : ttL[t]? with
  | none=>simp [ht] at h
  | some o =>
    simp [ht] at h
    subst h;have:=List.all_eq_true.1 ttAll (some i,t) (List.mem_zipIdx_iff_getElem?.2 ht);simpa using this
theorem mixed : Tryz.prog.follows .mixedOrders = true:=by kernel_rfl
end Go.Proofs.YthpkpciceodioaaGreatDoor
