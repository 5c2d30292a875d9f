import Derived.Test.YtbppknpnmjhjpaaGreatDoorLfW1
import Derived.Test.YtbppknpnmjhjpaaGreatDoorLfW2
import Derived.Test.YtbppknpnmjhjpaaGreatDoorLfW3
import Derived.Test.YtbppknpnmjhjpaaGreatDoorLfW4
import Derived.Test.YtbppknpnmjhjpaaGreatDoorLfW5
import Derived.Test.YtbppknpnmjhjpaaGreatDoorLfW6
import Derived.Test.YtbppknpnmjhjpaaGreatDoorLfW7
import Derived.Test.YtbppknpnmjhjpaaGreatDoorLfW8
import Derived.Test.YtbppknpnmjhjpaaGreatDoorLfW9
import Derived.Test.YtbppknpnmjhjpaaGreatDoorLfW10
import Derived.Test.YtbppknpnmjhjpaaGreatDoorLfW11
import Derived.Test.YtbppknpnmjhjpaaGreatDoorLfW12
import Derived.Test.YtbppknpnmjhjpaaGreatDoorLfW13
import Derived.Test.YtbppknpnmjhjpaaGreatDoorLfW14
import Derived.Test.YtbppknpnmjhjpaaGreatDoorLfW15
import Derived.Test.YtbppknpnmjhjpaaGreatDoorLfW16
import Derived.Test.YtbppknpnmjhjpaaGreatDoorLfW17
import Derived.Test.YtbppknpnmjhjpaaGreatDoorLfW18
import Derived.Test.YtbppknpnmjhjpaaGreatDoorLfW19
import Derived.Test.YtbppknpnmjhjpaaGreatDoorGr
import Derived.Test.YtbppknpnmjhjpaaGreatDoorLcG4
import Derived.Test.YtbppknpnmjhjpaaGreatDoorLcG4
import Derived.Test.YtbppknpnmjhjpaaGreatDoorLcG4
namespace Go.Proofs.YtbppknpnmjhjpaaGreatDoor
open Go.RowKit
open Go.Av
open Go.Lc
set_option maxRecDepth 100000
set_option linter.unusedSimpArgs false
set_option linter.unusedVariables false
abbrev Im {α β:Type}(f:Nat) (K:Con α β):Prop:=ZR Tryz.prog G f K.G
theorem V {α β:Type}{K:Con α β}{l:List (Nat×(List PV→Option (PV×List (List Cell))))}{own:Nat→List (List Nat)}{f:FuncId}{fn:Func}(w:Walk tt G l own fn K) (hf:Tryz.prog.funcs[f]? = some fn) (hT:Zpx Tryz.prog G l:=by exact trivial) (hb:fn.body.isSome=true:=by kernel_rfl) (hn:(!(fn.name == "runtime.NumGoroutine") && distinctF l)=true:=by kernel_rfl):ZR Tryz.prog G f K.G:=mkU mixed htt w hT hf hb hn
theorem v111:Im 111 K111:=V w111 Tryz.func111
theorem v112:Im 112 K112:=V w112 Tryz.func112
theorem v199:Im 199 K199:=V w199 Tryz.func199
theorem v166:Im 166 K166:=V w166 Tryz.func166 ⟨.inl v199,trivial⟩
theorem v164:Im 164 K164:=V w164 Tryz.func164 ⟨.inl v166,trivial⟩
theorem v165:Im 165 K165:=V w165 Tryz.func165
theorem v113:ZR Tryz.prog G 113 G113:=mkI (T:=Av.tab [(164,K164.G),(165,K165.G),(166,K166.G)]) (enc:=ZhO) (R:=ZjP) (g:=fun x:(Arr 8)×(Arr 64)=>XI x.1 x.2) mixed htt (Av.tab_ok ⟨.inl v164,.inl v165,.inl v166,trivial⟩) Tryz.func113 body113 (by kernel_rfl) fun x y hy=>w113 rfl rfl rfl rfl x.1 x.2 y hy
theorem v57:ZR Tryz.prog G 57 G57:=mkI (T:=Av.tab [(111,K111.G),(112,K112.G),(113,G113)]) (enc:=E57) (R:=R57) (g:=fun x:(List Int)=>Y9 x) mixed htt (Av.tab_ok ⟨.inl v111,.inl v112,.inl v113,trivial⟩) Tryz.func57 body57 (by kernel_rfl) fun x y hy=>w57 rfl rfl rfl rfl x y hy
theorem v25:Im 25 K25:=V w25 Tryz.func25 ⟨.inl v57,trivial⟩
theorem v114:Im 114 K114:=V w114 Tryz.func114
theorem v115:Im 115 K115:=V w115 Tryz.func115
theorem v58:Im 58 K58:=V w58 Tryz.func58 ⟨.inl v114,.inl v115,trivial⟩
theorem v59:Im 59 K59:=V w59 Tryz.func59 ⟨.inl v114,trivial⟩
theorem v147:Im 147 K147:=V w147 Tryz.func147 ⟨.inl v58,.inl v59,trivial⟩
theorem v149:Im 149 K149:=V w149 Tryz.func149 ⟨.inl v114,.inl v115,trivial⟩
theorem v148:Im 148 K148:=V w148 Tryz.func148 ⟨.inl v114,.inl v149,trivial⟩
theorem v212:Im 212 K212:=V w212 Tryz.func212 ⟨.inl v114,.inl v115,trivial⟩
theorem v183:Im 183 K183:=V w183 Tryz.func183 ⟨.inl v148,.inl v212,trivial⟩
theorem v139:Im 139 K139:=V w139 Tryz.func139 ⟨.inl v58,.inl v147,.inl v148,.inl v149,.inl v183,trivial⟩
theorem v136:Im 136 K136:=V w136 Tryz.func136 ⟨.inl v139,trivial⟩
theorem v140:Im 140 K140:=V w140 Tryz.func140 ⟨.inl v25,.inl v136,.inl v139,trivial⟩
theorem v88:Im 88 K88:=V w88 Tryz.func88 ⟨.inl v114,trivial⟩
theorem v213:Im 213 K213:=V w213 Tryz.func213 ⟨.inl v57,.inl v88,trivial⟩
theorem v184:Im 184 K184:=V w184 Tryz.func184 ⟨.inl v213,trivial⟩
theorem v141:Im 141 K141:=V w141 Tryz.func141 ⟨.inl v184,trivial⟩
theorem v84:Im 84 K84:=V w84 Tryz.func84 ⟨.inl v140,.inl v141,trivial⟩
theorem v80:Im 80 K80:=V w80 Tryz.func80 ⟨.inl v25,.inl v136,.inl v139,trivial⟩
theorem v93:Im 93 K93:=V w93 Tryz.func93
theorem v189:Im 189 K189:=V w189 Tryz.func189
theorem v150:Im 150 K150:=V w150 Tryz.func150 ⟨.inl v93,.inl v189,trivial⟩
theorem v90:ZR Tryz.prog G 90 G90:=mkI (T:=Av.tab [(80,K80.G),(150,K150.G)]) (enc:=E90) (R:=R90) (g:=fun x:Tapi_Params×Tapi_Ledger×Int=>YN x.1 x.2.1 x.2.2) mixed htt (Av.tab_ok ⟨.inl v80,.inl v150,trivial⟩) Tryz.func90 body90 (by kernel_rfl) fun x y hy=>w90 rfl rfl rfl x.1 x.2.1 x.2.2 y hy
theorem v151:Im 151 K151:=V w151 Tryz.func151
theorem v91:Im 91 K91:=V w91 Tryz.func91 ⟨.inl v151,trivial⟩
theorem v162:Im 162 K162:=V w162 Tryz.func162
theorem v108:Im 108 K108:=V w108 Tryz.func108 ⟨.inl v162,trivial⟩
theorem v163:Im 163 K163:=V w163 Tryz.func163
theorem v194:Im 194 K194:=V w194 Tryz.func194
theorem v197:Im 197 K197:=V w197 Tryz.func197 ⟨.inl v162,trivial⟩
theorem v222:Im 222 K222:=V w222 Tryz.func222 ⟨.inr v221,trivial⟩
theorem v198:Im 198 K198:=V w198 Tryz.func198 ⟨.inl v222,trivial⟩
theorem v159:Im 159 K159:=V w159 Tryz.func159 ⟨.inl v108,.inl v163,.inl v194,.inl v197,.inl v198,trivial⟩
theorem v160:Im 160 K160:=V w160 Tryz.func160
theorem v110:Im 110 K110:=V w110 Tryz.func110 ⟨.inl v159,.inl v160,.inl v163,trivial⟩
theorem v92:Im 92 K92:=V w92 Tryz.func92 ⟨.inl v110,trivial⟩
theorem v26:Im 26 K26:=V w26 Tryz.func26 ⟨.inl v58,.inl v59,trivial⟩
theorem v9:Im 9 K9:=V w9 Tryz.func9 ⟨.inl v25,.inl v26,trivial⟩
theorem v173:Im 173 K173:=V w173 Tryz.func173
theorem v193:Im 193 K193:=V w193 Tryz.func193 ⟨.inl v173,.inr v221,trivial⟩
theorem v223:Im 223 K223:=V w223 Tryz.func223 ⟨.inr v238,trivial⟩
theorem v195:Im 195 K195:=V w195 Tryz.func195 ⟨.inl v160,.inl v162,.inl v222,.inl v223,trivial⟩
theorem v196:Im 196 K196:=V w196 Tryz.func196 ⟨.inl v108,.inl v160,.inl v163,.inl v197,.inl v198,trivial⟩
theorem v158:Im 158 K158:=V w158 Tryz.func158 ⟨.inl v110,.inl v159,.inl v160,.inl v163,.inl v193,.inl v194,.inl v195,.inl v196,trivial⟩
theorem v104:Im 104 K104:=V w104 Tryz.func104 ⟨.inl v110,.inl v158,trivial⟩
theorem v161:Im 161 K161:=V w161 Tryz.func161
theorem v105:Im 105 K105:=V w105 Tryz.func105 ⟨.inl v159,.inl v160,.inl v161,trivial⟩
theorem v106:Im 106 K106:=V w106 Tryz.func106
theorem v94:Im 94 K94:=V w94 Tryz.func94 ⟨.inl v9,.inl v104,.inl v105,.inl v106,trivial⟩
theorem v95:Im 95 K95:=V w95 Tryz.func95
theorem v50:Im 50 K50:=V w50 Tryz.func50 ⟨.inl v84,.inl v90,.inl v91,.inl v92,.inl v93,.inl v94,.inl v95,trivial⟩
theorem v182:Im 182 K182:=V w182 Tryz.func182 ⟨.inl v136,.inl v139,trivial⟩
theorem v137:Im 137 K137:=V w137 Tryz.func137 ⟨.inl v26,.inl v149,.inl v182,trivial⟩
theorem v77:Im 77 K77:=V w77 Tryz.func77 ⟨.inl v136,.inl v137,trivial⟩
theorem v138:Im 138 K138:=V w138 Tryz.func138
theorem v78:Im 78 K78:=V w78 Tryz.func78 ⟨.inl v138,trivial⟩
theorem v79:Im 79 K79:=V w79 Tryz.func79 ⟨.inl v78,.inl v136,.inl v138,trivial⟩
theorem v81:Im 81 K81:=V w81 Tryz.func81
theorem v82:Im 82 K82:=V w82 Tryz.func82 ⟨.inl v81,trivial⟩
theorem v83:Im 83 K83:=V w83 Tryz.func83
theorem v39:Im 39 K39:=V w39 Tryz.func39 ⟨.inl v77,.inl v78,.inl v79,.inl v80,.inl v81,.inl v82,.inl v83,.inl v84,trivial⟩
theorem v190:ZR Tryz.prog G 190 G190:=mkI (T:=Av.tab []) (enc:=ZhP) (R:=ZjQ) (g:=fun x:Tapi_OutPoint×Tapi_OutPoint=>Xc x.1 x.2) mixed htt (Av.tab_ok trivial) Tryz.func190 body190 (by kernel_rfl) fun x y hy=>w190 x.1 x.2 y hy
theorem v152:Im 152 K152:=V w152 Tryz.func152 ⟨.inl v190,trivial⟩
theorem v153:ZR Tryz.prog G 153 G153:=mkI (T:=Av.tab []) (enc:=ZhQ) (R:=ZjR) (g:=fun x:Tapi_Tx×Int=>ZaD x.1 x.2) mixed htt (Av.tab_ok trivial) Tryz.func153 body153 (by kernel_rfl) fun x y hy=>w153 x.1 x.2 y hy
theorem v96:Im 96 K96:=V w96 Tryz.func96 ⟨.inl v39,.inl v110,.inl v152,.inl v153,trivial⟩
theorem v100:Im 100 K100:=V w100 Tryz.func100
theorem v154:Im 154 K154:=V w154 Tryz.func154 ⟨.inl v88,trivial⟩
theorem v97:Im 97 K97:=V w97 Tryz.func97 ⟨.inl v100,.inl v154,trivial⟩
theorem v155:Im 155 K155:=V w155 Tryz.func155 ⟨.inl v79,trivial⟩
theorem v218:ZR Tryz.prog G 218 G218:=mkI (T:=Av.tab [(57,G57)]) (enc:=ZiA) (R:=Zkz) (g:=fun x:ByteArray×(List Int)=>ZaJ x.1 x.2) mixed htt (Av.tab_ok ⟨.inl v57,trivial⟩) Tryz.func218 body218 (by kernel_rfl) fun x y hy=>w218 rfl rfl x.1 x.2 y hy
theorem v191:Im 191 K191:=V w191 Tryz.func191 ⟨.inl v57,.inl v58,.inl v59,.inl v136,.inl v147,.inl v183,.inl v218,trivial⟩
noncomputable def X220:List PV→Option (PV×List (List Cell)):=ZN tt (Av.tab []) G (fun i=>if i=2 then⟨[5,6,7],[],[]⟩ else⟨[],[],[]⟩) false 100000 Tryz.f220
theorem x220:ZR Tryz.prog G 220 X220:=by
  refine ZS mixed htt ?_ Tryz.func220 (by kernel_rfl);exact Av.tab_ok trivial
noncomputable def X114:List PV→Option (PV×List (List Cell)):=ZN tt (Av.tab []) G (fun i=>⟨[],[],[]⟩) true 100000 Tryz.f114
theorem x114:ZR Tryz.prog G 114 X114:=by
  refine ZS mixed htt ?_ Tryz.func114 (by kernel_rfl);exact Av.tab_ok trivial
noncomputable def X88:List PV→Option (PV×List (List Cell)):=ZN tt (Av.tab [(114,X114)]) G (fun i=>if i=3 then⟨[3,6,7,8],[900003],[(3,none,900003,0),(3,none,900003,1)]⟩ else⟨[],[],[]⟩) true 100000 Tryz.f88
theorem x88:ZR Tryz.prog G 88 X88:=by
  refine ZS mixed htt ?_ Tryz.func88 (by kernel_rfl);exact Av.tab_ok ⟨.inl x114,trivial⟩
noncomputable def X247:List PV→Option (PV×List (List Cell)):=ZN tt (Av.tab []) G (fun i=>⟨[],[],[]⟩) false 100000 Tryz.f247
theorem x247:ZR Tryz.prog G 247 X247:=by
  refine ZS mixed htt ?_ Tryz.func247 (by kernel_rfl);exact Av.tab_ok trivial
noncomputable def X240:List PV→Option (PV×List (List Cell)):=ZN tt (Av.tab [(88,X88),(247,X247)]) G (fun i=>⟨[],[],[]⟩) false 100000 Tryz.f240
theorem x240:ZR Tryz.prog G 240 X240:=by
  refine ZS mixed htt ?_ Tryz.func240 (by kernel_rfl);exact Av.tab_ok ⟨.inl x88,.inl x247,trivial⟩
noncomputable def X230:List PV→Option (PV×List (List Cell)):=ZN tt (Av.tab [(240,X240)]) G (fun i=>if i=4 then⟨[0,4],[26],[(4,none,26,4)]⟩ else⟨[],[],[]⟩) false 100000 Tryz.f230
theorem x230:ZR Tryz.prog G 230 X230:=by
  refine ZS mixed htt ?_ Tryz.func230 (by kernel_rfl);exact Av.tab_ok ⟨.inl x240,trivial⟩
noncomputable def X231:List PV→Option (PV×List (List Cell)):=ZN tt (Av.tab []) G (fun i=>if i=3 then⟨[3,6,7,8],[],[(3,none,0,0)]⟩ else if i=1000016 then⟨[3,6,7,8],[],[]⟩ else⟨[],[],[]⟩) false 100000 Tryz.f231
theorem x231:ZR Tryz.prog G 231 X231:=by
  refine ZS mixed htt ?_ Tryz.func231 (by kernel_rfl);exact Av.tab_ok trivial
noncomputable def X232:List PV→Option (PV×List (List Cell)):=ZN tt (Av.tab []) G (fun i=>if i=4 then⟨[8,9,10],[],[]⟩ else⟨[],[],[]⟩) false 100000 Tryz.f232
theorem x232:ZR Tryz.prog G 232 X232:=by
  refine ZS mixed htt ?_ Tryz.func232 (by kernel_rfl);exact Av.tab_ok trivial
noncomputable def X233:List PV→Option (PV×List (List Cell)):=ZN tt (Av.tab [(88,X88)]) G (fun i=>if i=3 then⟨[3,9,10,11],[8],[]⟩ else⟨[],[],[]⟩) true 100000 Tryz.f233
theorem x233:ZR Tryz.prog G 233 X233:=by
  refine ZS mixed htt ?_ Tryz.func233 (by kernel_rfl);exact Av.tab_ok ⟨.inl x88,trivial⟩
noncomputable def X234:List PV→Option (PV×List (List Cell)):=ZN tt (Av.tab []) G (fun i=>⟨[],[],[]⟩) false 100000 Tryz.f234
theorem x234:ZR Tryz.prog G 234 X234:=by
  refine ZS mixed htt ?_ Tryz.func234 (by kernel_rfl);exact Av.tab_ok trivial
noncomputable def X235:List PV→Option (PV×List (List Cell)):=ZN tt (Av.tab []) G (fun i=>⟨[],[],[]⟩) false 100000 Tryz.f235
theorem x235:ZR Tryz.prog G 235 X235:=by
  refine ZS mixed htt ?_ Tryz.func235 (by kernel_rfl);exact Av.tab_ok trivial
noncomputable def X236:List PV→Option (PV×List (List Cell)):=ZN tt (Av.tab []) G (fun i=>⟨[],[],[]⟩) false 100000 Tryz.f236
theorem x236:ZR Tryz.prog G 236 X236:=by
  refine ZS mixed htt ?_ Tryz.func236 (by kernel_rfl);exact Av.tab_ok trivial
noncomputable def X185:List PV→Option (PV×List (List Cell)):=ZN tt (Av.tab []) G (fun i=>⟨[],[],[]⟩) false 100000 Tryz.f185
theorem x185:ZR Tryz.prog G 185 X185:=by
  refine ZS mixed htt ?_ Tryz.func185 (by kernel_rfl);exact Av.tab_ok trivial
noncomputable def X241_1:List PV→Option (PV×List (List Cell)):=ZN tt (Av.tab []) G (fun i=>⟨[],[],[]⟩) true 100000 Tryz.f241
theorem x241_1:ZR Tryz.prog G 241 X241_1:=by
  refine ZS mixed htt ?_ Tryz.func241 (by kernel_rfl);exact Av.tab_ok trivial
noncomputable def X243:List PV→Option (PV×List (List Cell)):=ZN tt (Av.tab []) G (fun i=>if i=2 then⟨[0,3],[12],[(3,none,12,1)]⟩ else⟨[],[],[]⟩) true 100000 Tryz.f243
theorem x243:ZR Tryz.prog G 243 X243:=by
  refine ZS mixed htt ?_ Tryz.func243 (by kernel_rfl);exact Av.tab_ok trivial
noncomputable def X242:List PV→Option (PV×List (List Cell)):=ZN tt (Av.tab [(243,X243)]) G (fun i=>⟨[],[],[]⟩) true 100000 Tryz.f242
theorem x242:ZR Tryz.prog G 242 X242:=by
  refine ZS mixed htt ?_ Tryz.func242 (by kernel_rfl);exact Av.tab_ok ⟨.inl x243,trivial⟩
noncomputable def X251:List PV→Option (PV×List (List Cell)):=ZN tt (Av.tab []) G (fun i=>if i=5 then⟨[0,4,24,25],[],[]⟩ else⟨[],[],[]⟩) false 100000 Tryz.f251
theorem x251:ZR Tryz.prog G 251 X251:=by
  refine ZS mixed htt ?_ Tryz.func251 (by kernel_rfl);exact Av.tab_ok trivial
noncomputable def X246:List PV→Option (PV×List (List Cell)):=ZN tt (Av.tab [(251,X251)]) G (fun i=>⟨[],[],[]⟩) false 100000 Tryz.f246
theorem x246:ZR Tryz.prog G 246 X246:=by
  refine ZS mixed htt ?_ Tryz.func246 (by kernel_rfl);exact Av.tab_ok ⟨.inl x251,trivial⟩
noncomputable def X237_2:List PV→Option (PV×List (List Cell)):=ZN tt (Av.tab [(185,X185),(88,X88),(220,X220),(241,X241_1),(242,X242),(243,X243),(246,X246)] (fun d=>if d=26 then[[1]] else if d=37 then[[1]] else if d=147 then[[1]] else[])) G (fun i=>⟨[],[],[]⟩) true 100000 Tryz.f237
theorem x237_2:ZR Tryz.prog G 237 X237_2:=by
  refine ZS mixed htt ?_ Tryz.func237 (by kernel_rfl);exact Av.tab_ok ⟨.inl x185,.inl x88,.inl x220,.inl x241_1,.inl x242,.inl x243,.inl x246,trivial⟩
noncomputable def X219:List PV→Option (PV×List (List Cell)):=ZN tt (Av.tab [(220,X220),(230,X230),(231,X231),(232,X232),(233,X233),(234,X234),(235,X235),(236,X236),(237,X237_2)] (fun d=>if d=125 then[[],[1]] else[])) G (fun i=>if i=12 then⟨[5,11,12,13,33,34,35],[5,900011],[(11,none,900011,0),(13,none,0,0)]⟩ else⟨[],[],[]⟩) false 100000 Tryz.f219
theorem x219:ZR Tryz.prog G 219 X219:=by
  refine ZS mixed htt ?_ Tryz.func219 (by kernel_rfl);exact Av.tab_ok ⟨.inl x220,.inl x230,.inl x231,.inl x232,.inl x233,.inl x234,.inl x235,.inl x236,.inl x237_2,trivial⟩
noncomputable def X192:List PV→Option (PV×List (List Cell)):=ZN tt (Av.tab [(219,X219),(220,X220)]) G (fun i=>⟨[],[],[]⟩) false 100000 Tryz.f192
theorem x192:ZR Tryz.prog G 192 X192:=by
  refine ZS mixed htt ?_ Tryz.func192 (by kernel_rfl);exact Av.tab_ok ⟨.inl x219,.inl x220,trivial⟩
theorem l32:∀ {l:List Int},l.length=32→∃ x0 x1 x2 x3 x4 x5 x6 x7 x8 x9 x10 x11 x12 x13 x14 x15 x16 x17 x18 x19 x20 x21 x22 x23 x24 x25 x26 x27 x28 x29 x30 x31,l=[x0,x1,x2,x3,x4,x5,x6,x7,x8,x9,x10,x11,x12,x13,x14,x15,x16,x17,x18,x19,x20,x21,x22,x23,x24,x25,x26,x27,x28,x29,x30,x31]
  | [x0,x1,x2,x3,x4,x5,x6,x7,x8,x9,x10,x11,x12,x13,x14,x15,x16,x17,x18,x19,x20,x21,x22,x23,x24,x25,x26,x27,x28,x29,x30,x31],_=>⟨x0,x1,x2,x3,x4,x5,x6,x7,x8,x9,x10,x11,x12,x13,x14,x15,x16,x17,x18,x19,x20,x21,x22,x23,x24,x25,x26,x27,x28,x29,x30,x31,rfl⟩
theorem scr1 {k:Int}(h2:1≤k∧k≤6) (m:Arr 32) (a b:Int):X192 (K192.E ([1,1,1,5],[[k]],m,a,b))=some (.one (.v (.int .i64 (if ([[k]]:List (List Int))=[[[1,1,1,5].getD 2 0]] then 0 else 84))),[]):=by
  obtain⟨l,hl⟩:=m;obtain⟨x0,x1,x2,x3,x4,x5,x6,x7,x8,x9,x10,x11,x12,x13,x14,x15,x16,x17,x18,x19,x20,x21,x22,x23,x24,x25,x26,x27,x28,x29,x30,x31,rfl⟩:=l32 hl;have hk:k=1∨k=2∨k=3∨k=4∨k=5∨k=6:=by omega
  rcases hk with rfl | rfl | rfl | rfl | rfl | rfl <;> (show _=_; kernel_rfl)
theorem scr2 {k:Int}(h2:1≤k∧k≤6) (m:Arr 32) (a b:Int):X192 (K192.E ([1,1,2,5],[[k]],m,a,b))=some (.one (.v (.int .i64 (if ([[k]]:List (List Int))=[[[1,1,2,5].getD 2 0]] then 0 else 84))),[]):=by
  obtain⟨l,hl⟩:=m;obtain⟨x0,x1,x2,x3,x4,x5,x6,x7,x8,x9,x10,x11,x12,x13,x14,x15,x16,x17,x18,x19,x20,x21,x22,x23,x24,x25,x26,x27,x28,x29,x30,x31,rfl⟩:=l32 hl;have hk:k=1∨k=2∨k=3∨k=4∨k=5∨k=6:=by omega
  rcases hk with rfl | rfl | rfl | rfl | rfl | rfl <;> (show _=_; kernel_rfl)
theorem scr3 {k:Int}(h2:1≤k∧k≤6) (m:Arr 32) (a b:Int):X192 (K192.E ([1,1,3,5],[[k]],m,a,b))=some (.one (.v (.int .i64 (if ([[k]]:List (List Int))=[[[1,1,3,5].getD 2 0]] then 0 else 84))),[]):=by
  obtain⟨l,hl⟩:=m;obtain⟨x0,x1,x2,x3,x4,x5,x6,x7,x8,x9,x10,x11,x12,x13,x14,x15,x16,x17,x18,x19,x20,x21,x22,x23,x24,x25,x26,x27,x28,x29,x30,x31,rfl⟩:=l32 hl;have hk:k=1∨k=2∨k=3∨k=4∨k=5∨k=6:=by omega
  rcases hk with rfl | rfl | rfl | rfl | rfl | rfl <;> (show _=_; kernel_rfl)
theorem scr4 {k:Int}(h2:1≤k∧k≤6) (m:Arr 32) (a b:Int):X192 (K192.E ([1,1,4,5],[[k]],m,a,b))=some (.one (.v (.int .i64 (if ([[k]]:List (List Int))=[[[1,1,4,5].getD 2 0]] then 0 else 84))),[]):=by
  obtain⟨l,hl⟩:=m;obtain⟨x0,x1,x2,x3,x4,x5,x6,x7,x8,x9,x10,x11,x12,x13,x14,x15,x16,x17,x18,x19,x20,x21,x22,x23,x24,x25,x26,x27,x28,x29,x30,x31,rfl⟩:=l32 hl;have hk:k=1∨k=2∨k=3∨k=4∨k=5∨k=6:=by omega
  rcases hk with rfl | rfl | rfl | rfl | rfl | rfl <;> (show _=_; kernel_rfl)
theorem scr5 {k:Int}(h2:1≤k∧k≤6) (m:Arr 32) (a b:Int):X192 (K192.E ([1,1,5,5],[[k]],m,a,b))=some (.one (.v (.int .i64 (if ([[k]]:List (List Int))=[[[1,1,5,5].getD 2 0]] then 0 else 84))),[]):=by
  obtain⟨l,hl⟩:=m;obtain⟨x0,x1,x2,x3,x4,x5,x6,x7,x8,x9,x10,x11,x12,x13,x14,x15,x16,x17,x18,x19,x20,x21,x22,x23,x24,x25,x26,x27,x28,x29,x30,x31,rfl⟩:=l32 hl;have hk:k=1∨k=2∨k=3∨k=4∨k=5∨k=6:=by omega
  rcases hk with rfl | rfl | rfl | rfl | rfl | rfl <;> (show _=_; kernel_rfl)
theorem scr6 {k:Int}(h2:1≤k∧k≤6) (m:Arr 32) (a b:Int):X192 (K192.E ([1,1,6,5],[[k]],m,a,b))=some (.one (.v (.int .i64 (if ([[k]]:List (List Int))=[[[1,1,6,5].getD 2 0]] then 0 else 84))),[]):=by
  obtain⟨l,hl⟩:=m;obtain⟨x0,x1,x2,x3,x4,x5,x6,x7,x8,x9,x10,x11,x12,x13,x14,x15,x16,x17,x18,x19,x20,x21,x22,x23,x24,x25,x26,x27,x28,x29,x30,x31,rfl⟩:=l32 hl;have hk:k=1∨k=2∨k=3∨k=4∨k=5∨k=6:=by omega
  rcases hk with rfl | rfl | rfl | rfl | rfl | rfl <;> (show _=_; kernel_rfl)
theorem Zya {j k:Int}(h1:1≤j∧j≤6) (h2:1≤k∧k≤6) (m:Arr 32) (a b:Int):X192 (K192.E ([1,1,j,5],[[k]],m,a,b))=some (.one (.v (.int .i64 (if ([[k]]:List (List Int))=[[[1,1,j,5].getD 2 0]] then 0 else 84))),[]):=by
  have hj:j=1∨j=2∨j=3∨j=4∨j=5∨j=6:=by omega
  rcases hj with rfl | rfl | rfl | rfl | rfl | rfl
  · exact scr1 h2 m a b
  · exact scr2 h2 m a b
  · exact scr3 h2 m a b
  · exact scr4 h2 m a b
  · exact scr5 h2 m a b
  · exact scr6 h2 m a b
theorem v192:ZR Tryz.prog G 192 K192.G:=Znp x192 fun ps r h=>by
  obtain⟨⟨a0,a1,m,a,b⟩,q,h'⟩:=ZcR h;subst q;obtain⟨y,hy,rfl⟩:=Option.map_eq_some_iff.1 h';simp only[u3,Za1] at hy;split at hy
  · rename_i e
    obtain⟨j,k,h1,h2,rfl,rfl⟩:=e;obtain rfl:=Option.some.inj hy;exact Zya h1 h2 m a b
  · cases hy
theorem v156:Im 156 K156:=V w156 Tryz.func156 ⟨.inl v191,.inl v192,trivial⟩
theorem v98:Im 98 K98:=V w98 Tryz.func98 ⟨.inl v78,.inl v153,.inl v155,.inl v156,trivial⟩
theorem v99:Im 99 K99:=V w99 Tryz.func99
theorem v103:Im 103 K103:=V w103 Tryz.func103 ⟨.inl v78,.inl v80,trivial⟩
theorem v157:ZR Tryz.prog G 157 G157:=mkI (T:=Av.tab [(154,K154.G),(190,G190)]) (enc:=ZiB) (R:=ZkA) (g:=fun x:(List Tapi_Coin)×Tapi_Coin=>Zcd x.1 x.2) mixed htt (Av.tab_ok ⟨.inl v154,.inl v190,trivial⟩) Tryz.func157 body157 (by kernel_rfl) fun x y hy=>w157 rfl rfl rfl x.1 x.2 y hy
theorem v101:Im 101 K101:=V w101 Tryz.func101 ⟨.inl v100,.inl v103,.inl v157,trivial⟩
theorem v102:Im 102 K102:=V w102 Tryz.func102
theorem v51:Im 51 K51:=V w51 Tryz.func51 ⟨.inl v9,.inl v92,.inl v96,.inl v97,.inl v98,.inl v99,.inl v100,.inl v101,.inl v102,.inl v103,trivial⟩
theorem v107:Im 107 K107:=V w107 Tryz.func107 ⟨.inl v110,trivial⟩
theorem v53:Im 53 K53:=V w53 Tryz.func53 ⟨.inl v9,.inl v107,trivial⟩
theorem v52:Im 52 K52:=V w52 Tryz.func52 ⟨.inl v53,.inl v104,.inl v105,.inl v106,trivial⟩
theorem v109:Im 109 K109:=V w109 Tryz.func109
theorem v54:Im 54 K54:=V w54 Tryz.func54 ⟨.inl v108,.inl v109,trivial⟩
theorem v55:Im 55 K55:=V w55 Tryz.func55 ⟨.inl v9,.inl v110,trivial⟩
theorem v56:Im 56 K56:=V w56 Tryz.func56 ⟨.inl v9,.inl v110,trivial⟩
theorem v24:Im 24 K24:=V w24 Tryz.func24 ⟨.inl v54,.inl v55,.inl v56,trivial⟩
theorem v23_1:Im 23 K23_1:=V w23_1 Tryz.func23 ⟨.inl v50,.inl v51,.inl v52,.inl v53,trivial⟩
theorem v6:Im 6 K6:=V w6 Tryz.func6 ⟨.inl v23_1,.inl v24,trivial⟩
theorem v7:Im 7 K7:=V w7 Tryz.func7
theorem v116:Im 116 K116:=V w116 Tryz.func116
theorem v167:Im 167 K167:=V w167 Tryz.func167
theorem v117:Im 117 K117:=V w117 Tryz.func117 ⟨.inl v116,.inl v167,trivial⟩
theorem v118:Im 118 K118:=V w118 Tryz.func118 ⟨.inl v116,.inl v167,trivial⟩
theorem v119:Im 119 K119:=V w119 Tryz.func119 ⟨.inl v116,.inl v167,trivial⟩
theorem v60:Im 60 K60:=V w60 Tryz.func60 ⟨.inl v116,.inl v117,.inl v118,.inl v119,trivial⟩
theorem v120:Im 120 K120:=V w120 Tryz.func120 ⟨.inl v116,trivial⟩
theorem v61:Im 61 K61:=V w61 Tryz.func61 ⟨.inl v118,.inl v120,trivial⟩
theorem v68:Im 68 K68:=V w68 Tryz.func68 ⟨.inl v118,.inl v120,trivial⟩
theorem v71:Im 71 K71:=V w71 Tryz.func71 ⟨.inl v60,.inl v116,trivial⟩
theorem v122:Im 122 K122:=V w122 Tryz.func122 ⟨.inl v60,.inl v68,.inl v71,.inl v118,.inl v119,trivial⟩
theorem v121:Im 121 K121:=V w121 Tryz.func121 ⟨.inl v122,trivial⟩
theorem v62:Im 62 K62:=V w62 Tryz.func62 ⟨.inl v121,.inl v122,trivial⟩
theorem v27:Im 27 K27:=V w27 Tryz.func27 ⟨.inl v60,.inl v61,.inl v62,trivial⟩
theorem v63:Im 63 K63:=V w63 Tryz.func63
theorem v28:Im 28 K28:=V w28 Tryz.func28 ⟨.inl v63,trivial⟩
theorem v129:Im 129 K129:=V w129 Tryz.func129
theorem v130:Im 130 K130:=V w130 Tryz.func130
theorem v179:Im 179 K179:=V w179 Tryz.func179 ⟨.inl v199,trivial⟩
theorem v178:Im 178 K178:=V w178 Tryz.func178 ⟨.inl v179,trivial⟩
theorem v131:Im 131 K131:=V w131 Tryz.func131 ⟨.inl v178,.inl v179,trivial⟩
theorem v69:Im 69 K69:=V w69 Tryz.func69 ⟨.inl v129,.inl v130,.inl v131,trivial⟩
theorem v32:Im 32 K32:=V w32 Tryz.func32 ⟨.inl v69,trivial⟩
theorem v29:Im 29 K29:=V w29 Tryz.func29 ⟨.inl v32,.inl v61,trivial⟩
theorem v200:Im 200 K200:=V w200 Tryz.func200
theorem v168:Im 168 K168:=V w168 Tryz.func168 ⟨.inl v200,trivial⟩
theorem v123:Im 123 K123:=V w123 Tryz.func123 ⟨.inl v168,trivial⟩
theorem v169:Im 169 K169:=V w169 Tryz.func169
theorem v170:Im 170 K170:=V w170 Tryz.func170
theorem v171_2:Im 171 K171_2:=V w171_2 Tryz.func171
theorem v172_3:Im 172 K172_3:=V w172_3 Tryz.func172 ⟨.inl v171_2,trivial⟩
theorem v124:Im 124 K124:=V w124 Tryz.func124 ⟨.inl v169,.inl v170,.inl v171_2,.inl v172_3,trivial⟩
theorem v64:Im 64 K64:=V w64 Tryz.func64 ⟨.inl v123,.inl v124,trivial⟩
theorem v125:Im 125 K125:=V w125 Tryz.func125 ⟨.inl v173,trivial⟩
theorem v201:Im 201 K201:=V w201 Tryz.func201
theorem v175:Im 175 K175:=V w175 Tryz.func175 ⟨.inl v201,trivial⟩
theorem v174:Im 174 K174:=V w174 Tryz.func174 ⟨.inl v175,trivial⟩
theorem v126:Im 126 K126:=V w126 Tryz.func126 ⟨.inl v63,.inl v174,.inl v175,trivial⟩
theorem v177:Im 177 K177:=V w177 Tryz.func177 ⟨.inl v49,trivial⟩
theorem v202_4:ZR Tryz.prog G 202 G202_4:=mkI (T:=Av.tab [(168,K168.G)]) (enc:=Zc9) (R:=Zfw) (g:=fun x:(List Int)×Int×Int=>Zy x.1 x.2.1 x.2.2) mixed htt (Av.tab_ok ⟨.inl v168,trivial⟩) Tryz.func202 body202 (by kernel_rfl) fun x y hy=>Zy2 rfl rfl x.1 x.2.1 x.2.2 y hy
theorem v176_5n:∀ n,ZR Tryz.prog G 176 (ZpN n)
  | 0=>ZtC Tryz.func176 body176 (by kernel_rfl) (ZtD fun _=>rfl)
  | n+1=>mkI (T:=Av.tab [(176,ZpN n),(168,K168.G),(202,G202_4)] (fun d=>if d=27 then[[1000001]] else if d=121 then[[1000001]] else if d=132 then[[1000001]] else[])) (enc:=Zda) (R:=Zfx) (g:=fun x:(List Int)×Int×Int×Int=>Lslices_pdqsortOrdered_of_uint64w_n (n+1) x.1 x.2.1 x.2.2.1 x.2.2.2) mixed htt (Av.tab_ok ⟨.inl (v176_5n n),.inl v168,.inl v202_4,trivial⟩) Tryz.func176 body176 (by kernel_rfl) fun x y hy=>Zy3 n rfl rfl rfl rfl x.1 x.2.1 x.2.2.1 x.2.2.2 y hy
theorem v176_5:ZR Tryz.prog G 176 G176_5:=Zwe v176_5n
theorem v127_6:Im 127 K127_6:=V w127_6 Tryz.func127 ⟨.inl v176_5,.inl v177,trivial⟩
theorem v65:Im 65 K65:=V w65 Tryz.func65 ⟨.inl v125,.inl v126,.inl v127_6,trivial⟩
theorem v30:Im 30 K30:=V w30 Tryz.func30 ⟨.inl v64,.inl v65,trivial⟩
theorem v128:Im 128 K128:=V w128 Tryz.func128
theorem v67:Im 67 K67:=V w67 Tryz.func67 ⟨.inl v128,trivial⟩
theorem v31:Im 31 K31:=V w31 Tryz.func31 ⟨.inl v66,.inl v67,.inl v68,trivial⟩
theorem v10:Im 10 K10:=V w10 Tryz.func10 ⟨.inl v27,.inl v28,.inl v29,.inl v30,.inl v31,trivial⟩
theorem v34:Im 34 K34:=V w34 Tryz.func34 ⟨.inl v60,.inl v71,trivial⟩
theorem v12:Im 12 K12:=V w12 Tryz.func12 ⟨.inl v32,.inl v34,trivial⟩
theorem v33:ZR Tryz.prog G 33 G33:=mkI (T:=Av.tab [(1000070,G70)]) (enc:=E33) (R:=R33) (g:=fun x:(List (List Int))=>ZX x) mixed htt (Av.tab_ok ⟨.inl v70,trivial⟩) Tryz.func33 body33 (by kernel_rfl) fun x y hy=>w33 rfl rfl rfl x y hy
theorem v11:Im 11 K11:=V w11 Tryz.func11 ⟨.inl v32,.inl v33,trivial⟩
theorem v45:Im 45 K45:=V w45 Tryz.func45
theorem v46:Im 46 K46:=V w46 Tryz.func46
theorem v35:Im 35 K35:=V w35 Tryz.func35 ⟨.inl v45,.inl v46,trivial⟩
theorem v132:Im 132 K132:=V w132 Tryz.func132
theorem v72:Im 72 K72:=V w72 Tryz.func72 ⟨.inl v67,.inl v121,.inl v132,trivial⟩
theorem v180:Im 180 K180:=V w180 Tryz.func180 ⟨.inl v32,.inl v62,trivial⟩
theorem v133:Im 133 K133:=V w133 Tryz.func133 ⟨.inl v180,trivial⟩
theorem v73:Im 73 K73:=V w73 Tryz.func73 ⟨.inl v133,trivial⟩
theorem v134:Im 134 K134:=V w134 Tryz.func134 ⟨.inl v180,trivial⟩
theorem v211:Im 211 K211:=V w211 Tryz.func211 ⟨.inl v69,trivial⟩
theorem v181:Im 181 K181:=V w181 Tryz.func181 ⟨.inl v211,trivial⟩
theorem v135:Im 135 K135:=V w135 Tryz.func135 ⟨.inl v181,trivial⟩
theorem v74:Im 74 K74:=V w74 Tryz.func74 ⟨.inl v134,.inl v135,trivial⟩
theorem v36:Im 36 K36:=V w36 Tryz.func36 ⟨.inl v27,.inl v67,.inl v72,.inl v73,.inl v74,trivial⟩
theorem v37:Im 37 K37:=V w37 Tryz.func37 ⟨.inl v35,trivial⟩
theorem v13:Im 13 K13:=V w13 Tryz.func13 ⟨.inl v10,.inl v11,.inl v12,.inl v29,.inl v35,.inl v36,.inl v37,trivial⟩
theorem v41:Im 41 K41:=V w41 Tryz.func41 ⟨.inl v25,.inl v88,trivial⟩
theorem v16:Im 16 K16:=V w16 Tryz.func16 ⟨.inl v41,trivial⟩
theorem v44:Im 44 K44:=V w44 Tryz.func44
theorem v17:Im 17 K17:=V w17 Tryz.func17 ⟨.inl v44,trivial⟩
theorem v18:Im 18 K18:=V w18 Tryz.func18 ⟨.inl v45,.inl v46,.inl v47,trivial⟩
theorem v19:Im 19 K19:=V w19 Tryz.func19 ⟨.inl v35,trivial⟩
theorem v48:Im 48 K48:=V w48 Tryz.func48
theorem v20:Im 20 K20:=V w20 Tryz.func20 ⟨.inl v19,.inl v35,.inl v45,.inl v48,trivial⟩
theorem v21:Im 21 K21:=V w21 Tryz.func21 ⟨.inl v49,trivial⟩
noncomputable def X47:List PV→Option (PV×List (List Cell)):=ZN tt (Av.tab []) G (fun i=>⟨[],[],[]⟩) true 100000 Tryz.f47
theorem x47:ZR Tryz.prog G 47 X47:=by
  refine ZS mixed htt ?_ Tryz.func47 (by kernel_rfl);exact Av.tab_ok trivial
noncomputable def GV49:List PV→Option (PV×List (List Cell)):=gvF ((d1 (ZtI .u64))) (fun x=>Yz x) R49
theorem gv49:ZR Tryz.prog G 49 GV49:=Zwi E49i v49 (d1 (ZtI .u64)) (fun ps x h=>(ZzC fun _ _=>Zxx) h) (fun x=>(Le.refl _:Le (Yz x) (Yz x)))
noncomputable def X45:List PV→Option (PV×List (List Cell)):=ZN tt (Av.tab []) G (fun i=>if i=3 then⟨[0,3,6,7,8],[],[]⟩ else⟨[],[],[]⟩) false 100000 Tryz.f45
theorem x45:ZR Tryz.prog G 45 X45:=by
  refine ZS mixed htt ?_ Tryz.func45 (by kernel_rfl);exact Av.tab_ok trivial
noncomputable def X46:List PV→Option (PV×List (List Cell)):=ZN tt (Av.tab []) G (fun i=>⟨[],[],[]⟩) false 100000 Tryz.f46
theorem x46:ZR Tryz.prog G 46 X46:=by
  refine ZS mixed htt ?_ Tryz.func46 (by kernel_rfl);exact Av.tab_ok trivial
noncomputable def X18:List PV→Option (PV×List (List Cell)):=ZN tt (Av.tab [(45,X45),(46,X46),(47,X47)]) G (fun i=>⟨[],[],[]⟩) true 100000 Tryz.f18
theorem x18:ZR Tryz.prog G 18 X18:=by
  refine ZS mixed htt ?_ Tryz.func18 (by kernel_rfl);exact Av.tab_ok ⟨.inl x45,.inl x46,.inl x47,trivial⟩
noncomputable def X35:List PV→Option (PV×List (List Cell)):=ZN tt (Av.tab [(45,X45),(46,X46)]) G (fun i=>⟨[],[],[]⟩) false 100000 Tryz.f35
theorem x35:ZR Tryz.prog G 35 X35:=by
  refine ZS mixed htt ?_ Tryz.func35 (by kernel_rfl);exact Av.tab_ok ⟨.inl x45,.inl x46,trivial⟩
noncomputable def X19:List PV→Option (PV×List (List Cell)):=ZN tt (Av.tab [(35,X35)]) G (fun i=>⟨[],[],[]⟩) false 100000 Tryz.f19
theorem x19:ZR Tryz.prog G 19 X19:=by
  refine ZS mixed htt ?_ Tryz.func19 (by kernel_rfl);exact Av.tab_ok ⟨.inl x35,trivial⟩
noncomputable def X48:List PV→Option (PV×List (List Cell)):=ZN tt (Av.tab []) G (fun i=>if i=2 then⟨[0,5,6,7],[],[]⟩ else⟨[],[],[]⟩) false 100000 Tryz.f48
theorem x48:ZR Tryz.prog G 48 X48:=by
  refine ZS mixed htt ?_ Tryz.func48 (by kernel_rfl);exact Av.tab_ok trivial
noncomputable def X20:List PV→Option (PV×List (List Cell)):=ZN tt (Av.tab [(19,X19),(35,X35),(45,X45),(48,X48)]) G (fun i=>if i=10 then⟨[1,2,4,7,9,10,11,12,32,33,34],[2,4,71,78,83],[(9,none,71,33),(10,none,78,33),(11,none,83,1)]⟩ else if i=12 then⟨[1,2,4,7,9,10,11,12,14,32,33,34],[2,4,14,71,78,83],[]⟩ else⟨[],[],[]⟩) true 100000 Tryz.f20
theorem x20:ZR Tryz.prog G 20 X20:=by
  refine ZS mixed htt ?_ Tryz.func20 (by kernel_rfl);exact Av.tab_ok ⟨.inl x19,.inl x35,.inl x45,.inl x48,trivial⟩
noncomputable def X21:List PV→Option (PV×List (List Cell)):=ZN tt (Av.tab [(49,GV49)]) G (fun i=>⟨[],[],[]⟩) false 100000 Tryz.f21
theorem x21:ZR Tryz.prog G 21 X21:=by
  refine ZS mixed htt ?_ Tryz.func21 (by kernel_rfl);exact Av.tab_ok ⟨.inl gv49,trivial⟩
noncomputable def X22:List PV→Option (PV×List (List Cell)):=ZN tt (Av.tab [(35,X35),(48,X48)]) G (fun i=>⟨[],[],[]⟩) false 100000 Tryz.f22
theorem x22:ZR Tryz.prog G 22 X22:=by
  refine ZS mixed htt ?_ Tryz.func22 (by kernel_rfl);exact Av.tab_ok ⟨.inl x35,.inl x48,trivial⟩
noncomputable def X5:List PV→Option (PV×List (List Cell)):=ZN tt (Av.tab [(18,X18),(19,X19),(20,X20),(21,X21),(22,X22)]) G (fun i=>⟨[],[],[]⟩) false 100000 Tryz.f5
theorem x5:ZR Tryz.prog G 5 X5:=by
  refine ZS mixed htt ?_ Tryz.func5 (by kernel_rfl);exact Av.tab_ok ⟨.inl x18,.inl x19,.inl x20,.inl x21,.inl x22,trivial⟩
theorem sane_val:X5 []=some (.one (.v (.bool true)),[]):=by kernel_rfl
theorem v5:ZR Tryz.prog G 5 K5.G:=Znp x5 fun ps r h=>by
  obtain⟨x,q,h'⟩:=ZcR h;subst q;obtain⟨y,hy,rfl⟩:=Option.map_eq_some_iff.1 h';have hy:Llaw22_sane=some y:=hy;rw[sane22] at hy;obtain rfl:=Option.some.inj hy;exact sane_val
theorem v4:ZR Tryz.prog G 4 G4:=mkI (T:=Av.tab [(5,K5.G),(6,K6.G),(7,K7.G),(9,K9.G),(10,K10.G),(12,K12.G),(13,K13.G),(16,K16.G),(17,K17.G),(18,K18.G),(19,K19.G),(20,K20.G),(21,K21.G)]) (enc:=E4) (R:=R4) (g:=fun x:Int×(List Int)×(List Int)×(List Int)×Int=>Xn x.1 x.2.1 x.2.2.1 x.2.2.2.1 x.2.2.2.2) mixed htt (Av.tab_ok ⟨.inl v5,.inl v6,.inl v7,.inl v9,.inl v10,.inl v12,.inl v13,.inl v16,.inl v17,.inl v18,.inl v19,.inl v20,.inl v21,trivial⟩) Tryz.func4 body4 (by kernel_rfl) fun x y hy=>w4 rfl rfl rfl rfl rfl rfl rfl rfl rfl rfl rfl rfl rfl rfl x.1 x.2.1 x.2.2.1 x.2.2.2.1 x.2.2.2.2 y hy
end Go.Proofs.YtbppknpnmjhjpaaGreatDoor
