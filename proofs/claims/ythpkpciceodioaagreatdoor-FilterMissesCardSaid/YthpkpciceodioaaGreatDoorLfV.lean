import Derived.Test.YthpkpciceodioaaGreatDoorLfW1
import Derived.Test.YthpkpciceodioaaGreatDoorLfW2
import Derived.Test.YthpkpciceodioaaGreatDoorLfW3
import Derived.Test.YthpkpciceodioaaGreatDoorLfW4
import Derived.Test.YthpkpciceodioaaGreatDoorLfW5
import Derived.Test.YthpkpciceodioaaGreatDoorLfW6
import Derived.Test.YthpkpciceodioaaGreatDoorLfW7
import Derived.Test.YthpkpciceodioaaGreatDoorLfW8
import Derived.Test.YthpkpciceodioaaGreatDoorLfW9
import Derived.Test.YthpkpciceodioaaGreatDoorLfW10
import Derived.Test.YthpkpciceodioaaGreatDoorLfW11
import Derived.Test.YthpkpciceodioaaGreatDoorLfW12
import Derived.Test.YthpkpciceodioaaGreatDoorLfW13
import Derived.Test.YthpkpciceodioaaGreatDoorLfW14
import Derived.Test.YthpkpciceodioaaGreatDoorLfW15
import Derived.Test.YthpkpciceodioaaGreatDoorLfW16
import Derived.Test.YthpkpciceodioaaGreatDoorLcG3
import Derived.Test.YthpkpciceodioaaGreatDoorLcG4
import Derived.Test.YthpkpciceodioaaGreatDoorLcG6
import Derived.Test.YthpkpciceodioaaGreatDoorLcG6
import Derived.Test.YthpkpciceodioaaGreatDoorLcG6
namespace Go.Proofs.YthpkpciceodioaaGreatDoor
open Go.RowKit
open Go.Av
open Go.Lc
set_option maxRecDepth 100000
set_option linter.unusedSimpArgs false
set_option linter.unusedVariables false
abbrev Im {α β:Type}(f:Nat) (K:Con α β):Prop:=ZB Tryz.prog G f K.G
theorem V {α β:Type}{K:Con α β}{l:List (Nat×(List PV→Option (PV×List (List Cell))))}{own:Nat→List (List Nat)}{f:FuncId}{fn:Func}(w:Walk tt G l own fn K) (hf:Tryz.prog.funcs[f]? = some fn) (hT:ZnK Tryz.prog G l:=by exact trivial) (hb:fn.body.isSome=true:=by kernel_rfl) (hn:(!(fn.name == "runtime.NumGoroutine") && distinctF l)=true:=by kernel_rfl):ZB Tryz.prog G f K.G:=mkU mixed htt w hT hf hb hn
theorem v79:Im 79 K79:=V w79 Tryz.func79
theorem v43:Im 43 K43:=V w43 Tryz.func43 ⟨.inl v79,trivial⟩
theorem v97:Im 97 K97:=V w97 Tryz.func97
theorem v119:Im 119 K119:=V w119 Tryz.func119
theorem v80:Im 80 K80:=V w80 Tryz.func80 ⟨.inl v97,.inl v119,trivial⟩
theorem v81:Im 81 K81:=V w81 Tryz.func81 ⟨.inl v97,trivial⟩
theorem v44:Im 44 K44:=V w44 Tryz.func44 ⟨.inl v80,.inl v81,trivial⟩
theorem v14:Im 14 K14:=V w14 Tryz.func14 ⟨.inl v42,.inl v43,.inl v44,trivial⟩
theorem v98:Im 98 K98:=V w98 Tryz.func98 ⟨.inl v97,.inl v119,trivial⟩
theorem v99:Im 99 K99:=V w99 Tryz.func99 ⟨.inl v97,.inl v119,trivial⟩
theorem v56:Im 56 K56:=V w56 Tryz.func56 ⟨.inl v80,.inl v97,.inl v98,.inl v99,trivial⟩
theorem v67:Im 67 K67:=V w67 Tryz.func67 ⟨.inl v80,.inl v81,trivial⟩
theorem v55:Im 55 K55:=V w55 Tryz.func55 ⟨.inl v56,.inl v97,trivial⟩
theorem v108:Im 108 K108:=V w108 Tryz.func108 ⟨.inl v44,.inl v55,.inl v56,.inl v80,.inl v99,trivial⟩
theorem v107:Im 107 K107:=V w107 Tryz.func107 ⟨.inl v108,trivial⟩
theorem v68:Im 68 K68:=V w68 Tryz.func68 ⟨.inl v107,.inl v108,trivial⟩
theorem v35:Im 35 K35:=V w35 Tryz.func35 ⟨.inl v56,.inl v67,.inl v68,trivial⟩
theorem v69:Im 69 K69:=V w69 Tryz.func69
theorem v36:Im 36 K36:=V w36 Tryz.func36 ⟨.inl v69,trivial⟩
theorem v153:Im 153 K153:=V w153 Tryz.func153
theorem v154:Im 154 K154:=V w154 Tryz.func154
theorem v227:Im 227 K227:=V w227 Tryz.func227
theorem v198:Im 198 K198:=V w198 Tryz.func198 ⟨.inl v227,trivial⟩
theorem v197:Im 197 K197:=V w197 Tryz.func197 ⟨.inl v198,trivial⟩
theorem v155:Im 155 K155:=V w155 Tryz.func155 ⟨.inl v197,.inl v198,trivial⟩
theorem v105:Im 105 K105:=V w105 Tryz.func105 ⟨.inl v153,.inl v154,.inl v155,trivial⟩
theorem v65:Im 65 K65:=V w65 Tryz.func65 ⟨.inl v105,trivial⟩
theorem v37:Im 37 K37:=V w37 Tryz.func37 ⟨.inl v65,.inl v67,trivial⟩
theorem v199:Im 199 K199:=V w199 Tryz.func199
theorem v156:Im 156 K156:=V w156 Tryz.func156 ⟨.inl v199,trivial⟩
theorem v109:Im 109 K109:=V w109 Tryz.func109 ⟨.inl v156,trivial⟩
theorem v157:Im 157 K157:=V w157 Tryz.func157
theorem v158:Im 158 K158:=V w158 Tryz.func158
theorem v159_1:Im 159 K159_1:=V w159_1 Tryz.func159
theorem v160_2:Im 160 K160_2:=V w160_2 Tryz.func160 ⟨.inl v159_1,trivial⟩
theorem v110:Im 110 K110:=V w110 Tryz.func110 ⟨.inl v157,.inl v158,.inl v159_1,.inl v160_2,trivial⟩
theorem v70:Im 70 K70:=V w70 Tryz.func70 ⟨.inl v109,.inl v110,trivial⟩
theorem v161:Im 161 K161:=V w161 Tryz.func161
theorem v111:Im 111 K111:=V w111 Tryz.func111 ⟨.inl v161,trivial⟩
theorem v200:Im 200 K200:=V w200 Tryz.func200
theorem v163:Im 163 K163:=V w163 Tryz.func163 ⟨.inl v200,trivial⟩
theorem v162:Im 162 K162:=V w162 Tryz.func162 ⟨.inl v163,trivial⟩
theorem v112:Im 112 K112:=V w112 Tryz.func112 ⟨.inl v69,.inl v162,.inl v163,trivial⟩
theorem v165:Im 165 K165:=V w165 Tryz.func165 ⟨.inl v210,trivial⟩
theorem v201_3:ZB Tryz.prog G 201 G201_3:=mkI (T:=Av.tab [(156,K156.G)]) (enc:=Zcn) (R:=ZeK) (g:=fun x:(List Int)×Int×Int=>Zv x.1 x.2.1 x.2.2) mixed htt (Av.tab_ok ⟨.inl v156,trivial⟩) Tryz.func201 body201 (by kernel_rfl) fun x y hy=>Zyl rfl rfl x.1 x.2.1 x.2.2 y hy
theorem v164_4n:∀ n,ZB Tryz.prog G 164 (Zo4 n)
  | 0=>ZsP Tryz.func164 body164 (by kernel_rfl) (ZsQ fun _=>rfl)
  | n+1=>mkI (T:=Av.tab [(164,Zo4 n),(156,K156.G),(201,G201_3)] (fun d=>if d=27 then[[1000001]] else if d=121 then[[1000001]] else if d=132 then[[1000001]] else[])) (enc:=Zco) (R:=ZeL) (g:=fun x:(List Int)×Int×Int×Int=>Lslices_pdqsortOrdered_of_uint64w_n (n+1) x.1 x.2.1 x.2.2.1 x.2.2.2) mixed htt (Av.tab_ok ⟨.inl (v164_4n n),.inl v156,.inl v201_3,trivial⟩) Tryz.func164 body164 (by kernel_rfl) fun x y hy=>Zym n rfl rfl rfl rfl x.1 x.2.1 x.2.2.1 x.2.2.2 y hy
theorem v164_4:ZB Tryz.prog G 164 G164_4:=Zve v164_4n
theorem v113_5:Im 113 K113_5:=V w113_5 Tryz.func113 ⟨.inl v164_4,.inl v165,trivial⟩
theorem v71:Im 71 K71:=V w71 Tryz.func71 ⟨.inl v111,.inl v112,.inl v113_5,trivial⟩
theorem v38:Im 38 K38:=V w38 Tryz.func38 ⟨.inl v70,.inl v71,trivial⟩
theorem v11:Im 11 K11:=V w11 Tryz.func11 ⟨.inl v14,.inl v35,.inl v36,.inl v37,.inl v38,trivial⟩
theorem v171:Im 171 K171:=V w171 Tryz.func171
theorem v172:Im 172 K172:=V w172 Tryz.func172 ⟨.inl v171,trivial⟩
theorem v120:Im 120 K120:=V w120 Tryz.func120 ⟨.inl v157,.inl v171,.inl v172,trivial⟩
theorem v121:Im 121 K121:=V w121 Tryz.func121 ⟨.inl v157,.inl v172,trivial⟩
theorem v84:Im 84 K84:=V w84 Tryz.func84 ⟨.inl v120,.inl v121,trivial⟩
theorem v122_6:Im 122 K122_6:=V w122_6 Tryz.func122
theorem v85:Im 85 K85:=V w85 Tryz.func85 ⟨.inl v71,.inl v122_6,trivial⟩
theorem v47:Im 47 K47:=V w47 Tryz.func47 ⟨.inl v84,.inl v85,trivial⟩
theorem v18:Im 18 K18:=V w18 Tryz.func18 ⟨.inl v36,.inl v47,trivial⟩
theorem v24:Im 24 K24:=V w24 Tryz.func24
theorem v212:Im 212 K212:=V w212 Tryz.func212
theorem v175:Im 175 K175:=V w175 Tryz.func175 ⟨.inl v24,.inl v212,trivial⟩
theorem v146:Im 146 K146:=V w146 Tryz.func146
theorem v147:Im 147 K147:=V w147 Tryz.func147
theorem v195:Im 195 K195:=V w195 Tryz.func195 ⟨.inl v227,trivial⟩
theorem v193:Im 193 K193:=V w193 Tryz.func193 ⟨.inl v195,trivial⟩
theorem v194:Im 194 K194:=V w194 Tryz.func194
theorem v148:ZB Tryz.prog G 148 G148:=mkI (T:=Av.tab [(193,K193.G),(194,K194.G),(195,K195.G)]) (enc:=Zg0) (R:=Zja) (g:=fun x:(Arr 8)×(Arr 64)=>Xv x.1 x.2) mixed htt (Av.tab_ok ⟨.inl v193,.inl v194,.inl v195,trivial⟩) Tryz.func148 body148 (by kernel_rfl) fun x y hy=>w148 rfl rfl rfl rfl x.1 x.2 y hy
theorem v95:ZB Tryz.prog G 95 G95:=mkI (T:=Av.tab [(146,K146.G),(147,K147.G),(148,G148)]) (enc:=E95) (R:=R95) (g:=fun x:(List Int)=>YI x) mixed htt (Av.tab_ok ⟨.inl v146,.inl v147,.inl v148,trivial⟩) Tryz.func95 body95 (by kernel_rfl) fun x y hy=>w95 rfl rfl rfl rfl x y hy
theorem v51:Im 51 K51:=V w51 Tryz.func51 ⟨.inl v95,trivial⟩
theorem v82:Im 82 K82:=V w82 Tryz.func82
theorem v96:Im 96 K96:=V w96 Tryz.func96
theorem v53:Im 53 K53:=V w53 Tryz.func53 ⟨.inl v82,.inl v96,trivial⟩
theorem v54:Im 54 K54:=V w54 Tryz.func54 ⟨.inl v82,trivial⟩
theorem v23:Im 23 K23:=V w23 Tryz.func23 ⟨.inl v53,.inl v54,trivial⟩
theorem v61:Im 61 K61:=V w61 Tryz.func61 ⟨.inl v82,.inl v96,trivial⟩
theorem v60:Im 60 K60:=V w60 Tryz.func60 ⟨.inl v61,.inl v82,trivial⟩
theorem v211:Im 211 K211:=V w211 Tryz.func211 ⟨.inl v82,.inl v96,trivial⟩
theorem v166:Im 166 K166:=V w166 Tryz.func166 ⟨.inl v60,.inl v211,trivial⟩
theorem v114:Im 114 K114:=V w114 Tryz.func114 ⟨.inl v23,.inl v53,.inl v60,.inl v61,.inl v166,trivial⟩
theorem v72:Im 72 K72:=V w72 Tryz.func72 ⟨.inl v114,trivial⟩
theorem v176:Im 176 K176:=V w176 Tryz.func176 ⟨.inl v51,.inl v72,.inl v114,trivial⟩
theorem v125:ZB Tryz.prog G 125 G125:=mkI (T:=Av.tab [(175,K175.G),(176,K176.G)]) (enc:=Zg1) (R:=Zjb) (g:=fun x:Tapi_Params×Tapi_Ledger×Int=>YK x.1 x.2.1 x.2.2) mixed htt (Av.tab_ok ⟨.inl v175,.inl v176,trivial⟩) Tryz.func125 body125 (by kernel_rfl) fun x y hy=>w125 rfl rfl rfl x.1 x.2.1 x.2.2 y hy
theorem v177:Im 177 K177:=V w177 Tryz.func177
theorem v126:Im 126 K126:=V w126 Tryz.func126 ⟨.inl v177,trivial⟩
theorem v191:Im 191 K191:=V w191 Tryz.func191
theorem v143:Im 143 K143:=V w143 Tryz.func143 ⟨.inl v191,trivial⟩
theorem v192:Im 192 K192:=V w192 Tryz.func192
theorem v222:Im 222 K222:=V w222 Tryz.func222
theorem v225:Im 225 K225:=V w225 Tryz.func225 ⟨.inl v191,trivial⟩
theorem v238:Im 238 K238:=V w238 Tryz.func238 ⟨.inr v237,trivial⟩
theorem v226:Im 226 K226:=V w226 Tryz.func226 ⟨.inl v238,trivial⟩
theorem v188:Im 188 K188:=V w188 Tryz.func188 ⟨.inl v143,.inl v192,.inl v222,.inl v225,.inl v226,trivial⟩
theorem v189:Im 189 K189:=V w189 Tryz.func189
theorem v145:Im 145 K145:=V w145 Tryz.func145 ⟨.inl v188,.inl v189,.inl v192,trivial⟩
theorem v127:Im 127 K127:=V w127 Tryz.func127 ⟨.inl v145,trivial⟩
theorem v52:Im 52 K52:=V w52 Tryz.func52 ⟨.inl v53,.inl v54,trivial⟩
theorem v22:Im 22 K22:=V w22 Tryz.func22 ⟨.inl v51,.inl v52,trivial⟩
theorem v221:Im 221 K221:=V w221 Tryz.func221 ⟨.inl v161,.inr v237,trivial⟩
theorem v239:Im 239 K239:=V w239 Tryz.func239 ⟨.inr v249,trivial⟩
theorem v223:Im 223 K223:=V w223 Tryz.func223 ⟨.inl v189,.inl v191,.inl v238,.inl v239,trivial⟩
theorem v224:Im 224 K224:=V w224 Tryz.func224 ⟨.inl v143,.inl v189,.inl v192,.inl v225,.inl v226,trivial⟩
theorem v187:Im 187 K187:=V w187 Tryz.func187 ⟨.inl v145,.inl v188,.inl v189,.inl v192,.inl v221,.inl v222,.inl v223,.inl v224,trivial⟩
theorem v139:Im 139 K139:=V w139 Tryz.func139 ⟨.inl v145,.inl v187,trivial⟩
theorem v190:Im 190 K190:=V w190 Tryz.func190
theorem v140:Im 140 K140:=V w140 Tryz.func140 ⟨.inl v188,.inl v189,.inl v190,trivial⟩
theorem v141:Im 141 K141:=V w141 Tryz.func141
theorem v128:Im 128 K128:=V w128 Tryz.func128 ⟨.inl v22,.inl v139,.inl v140,.inl v141,trivial⟩
theorem v178:Im 178 K178:=V w178 Tryz.func178 ⟨.inl v51,.inl v72,.inl v114,trivial⟩
theorem v45:Im 45 K45:=V w45 Tryz.func45 ⟨.inl v82,trivial⟩
theorem v233:Im 233 K233:=V w233 Tryz.func233 ⟨.inl v45,.inl v95,trivial⟩
theorem v213:Im 213 K213:=V w213 Tryz.func213 ⟨.inl v233,trivial⟩
theorem v179:Im 179 K179:=V w179 Tryz.func179 ⟨.inl v213,trivial⟩
theorem v129:Im 129 K129:=V w129 Tryz.func129 ⟨.inl v178,.inl v179,trivial⟩
theorem v130:Im 130 K130:=V w130 Tryz.func130
theorem v88:Im 88 K88:=V w88 Tryz.func88 ⟨.inl v24,.inl v125,.inl v126,.inl v127,.inl v128,.inl v129,.inl v130,trivial⟩
theorem v214:ZB Tryz.prog G 214 G214:=mkI (T:=Av.tab []) (enc:=Zg2) (R:=Zjc) (g:=fun x:Tapi_OutPoint×Tapi_OutPoint=>Y5 x.1 x.2) mixed htt (Av.tab_ok trivial) Tryz.func214 body214 (by kernel_rfl) fun x y hy=>w214 x.1 x.2 y hy
theorem v180:Im 180 K180:=V w180 Tryz.func180 ⟨.inl v214,trivial⟩
theorem v115:Im 115 K115:=V w115 Tryz.func115 ⟨.inl v72,.inl v114,trivial⟩
theorem v73:Im 73 K73:=V w73 Tryz.func73 ⟨.inl v52,.inl v61,.inl v115,trivial⟩
theorem v39:Im 39 K39:=V w39 Tryz.func39 ⟨.inl v72,.inl v73,trivial⟩
theorem v83:Im 83 K83:=V w83 Tryz.func83
theorem v46:Im 46 K46:=V w46 Tryz.func46 ⟨.inl v83,trivial⟩
theorem v215:Im 215 K215:=V w215 Tryz.func215 ⟨.inl v46,.inl v72,.inl v83,trivial⟩
theorem v216:Im 216 K216:=V w216 Tryz.func216
theorem v217:Im 217 K217:=V w217 Tryz.func217 ⟨.inl v216,trivial⟩
theorem v218:Im 218 K218:=V w218 Tryz.func218
theorem v181:Im 181 K181:=V w181 Tryz.func181 ⟨.inl v39,.inl v46,.inl v129,.inl v176,.inl v215,.inl v216,.inl v217,.inl v218,trivial⟩
theorem v182:ZB Tryz.prog G 182 G182:=mkI (T:=Av.tab []) (enc:=Zg3) (R:=Zjd) (g:=fun x:Tapi_Tx×Int=>Zaf x.1 x.2) mixed htt (Av.tab_ok trivial) Tryz.func182 body182 (by kernel_rfl) fun x y hy=>w182 x.1 x.2 y hy
theorem v131:Im 131 K131:=V w131 Tryz.func131 ⟨.inl v145,.inl v180,.inl v181,.inl v182,trivial⟩
theorem v135:Im 135 K135:=V w135 Tryz.func135
theorem v183:Im 183 K183:=V w183 Tryz.func183 ⟨.inl v45,trivial⟩
theorem v132:Im 132 K132:=V w132 Tryz.func132 ⟨.inl v135,.inl v183,trivial⟩
theorem v184:Im 184 K184:=V w184 Tryz.func184 ⟨.inl v215,trivial⟩
theorem v234:ZB Tryz.prog G 234 G234:=mkI (T:=Av.tab [(95,G95)]) (enc:=ZhV) (R:=ZjZ) (g:=fun x:ByteArray×(List Int)=>Zal x.1 x.2) mixed htt (Av.tab_ok ⟨.inl v95,trivial⟩) Tryz.func234 body234 (by kernel_rfl) fun x y hy=>w234 rfl rfl x.1 x.2 y hy
theorem v219:Im 219 K219:=V w219 Tryz.func219 ⟨.inl v23,.inl v53,.inl v54,.inl v72,.inl v95,.inl v166,.inl v234,trivial⟩
noncomputable def X236:List PV→Option (PV×List (List Cell)):=ZO tt (Av.tab []) G (fun i=>if i=2 then⟨[5,6,7],[],[]⟩ else⟨[],[],[]⟩) false 100000 Tryz.f236
theorem x236:ZB Tryz.prog G 236 X236:=by
  refine ZX mixed htt ?_ Tryz.func236 (by kernel_rfl);exact Av.tab_ok trivial
noncomputable def X82:List PV→Option (PV×List (List Cell)):=ZO tt (Av.tab []) G (fun i=>⟨[],[],[]⟩) true 100000 Tryz.f82
theorem x82:ZB Tryz.prog G 82 X82:=by
  refine ZX mixed htt ?_ Tryz.func82 (by kernel_rfl);exact Av.tab_ok trivial
noncomputable def X45:List PV→Option (PV×List (List Cell)):=ZO tt (Av.tab [(82,X82)]) G (fun i=>if i=3 then⟨[3,6,7,8],[900003],[(3,none,900003,0),(3,none,900003,1)]⟩ else⟨[],[],[]⟩) true 100000 Tryz.f45
theorem x45:ZB Tryz.prog G 45 X45:=by
  refine ZX mixed htt ?_ Tryz.func45 (by kernel_rfl);exact Av.tab_ok ⟨.inl x82,trivial⟩
noncomputable def X257:List PV→Option (PV×List (List Cell)):=ZO tt (Av.tab []) G (fun i=>⟨[],[],[]⟩) false 100000 Tryz.f257
theorem x257:ZB Tryz.prog G 257 X257:=by
  refine ZX mixed htt ?_ Tryz.func257 (by kernel_rfl);exact Av.tab_ok trivial
noncomputable def X250:List PV→Option (PV×List (List Cell)):=ZO tt (Av.tab [(45,X45),(257,X257)]) G (fun i=>⟨[],[],[]⟩) false 100000 Tryz.f250
theorem x250:ZB Tryz.prog G 250 X250:=by
  refine ZX mixed htt ?_ Tryz.func250 (by kernel_rfl);exact Av.tab_ok ⟨.inl x45,.inl x257,trivial⟩
noncomputable def X241:List PV→Option (PV×List (List Cell)):=ZO tt (Av.tab [(250,X250)]) G (fun i=>if i=4 then⟨[0,4],[26],[(4,none,26,4)]⟩ else⟨[],[],[]⟩) false 100000 Tryz.f241
theorem x241:ZB Tryz.prog G 241 X241:=by
  refine ZX mixed htt ?_ Tryz.func241 (by kernel_rfl);exact Av.tab_ok ⟨.inl x250,trivial⟩
noncomputable def X242:List PV→Option (PV×List (List Cell)):=ZO tt (Av.tab []) G (fun i=>if i=3 then⟨[3,6,7,8],[],[(3,none,0,0)]⟩ else if i=1000016 then⟨[3,6,7,8],[],[]⟩ else⟨[],[],[]⟩) false 100000 Tryz.f242
theorem x242:ZB Tryz.prog G 242 X242:=by
  refine ZX mixed htt ?_ Tryz.func242 (by kernel_rfl);exact Av.tab_ok trivial
noncomputable def X243:List PV→Option (PV×List (List Cell)):=ZO tt (Av.tab []) G (fun i=>if i=4 then⟨[8,9,10],[],[]⟩ else⟨[],[],[]⟩) false 100000 Tryz.f243
theorem x243:ZB Tryz.prog G 243 X243:=by
  refine ZX mixed htt ?_ Tryz.func243 (by kernel_rfl);exact Av.tab_ok trivial
noncomputable def X244:List PV→Option (PV×List (List Cell)):=ZO tt (Av.tab [(45,X45)]) G (fun i=>if i=3 then⟨[3,9,10,11],[8],[]⟩ else⟨[],[],[]⟩) true 100000 Tryz.f244
theorem x244:ZB Tryz.prog G 244 X244:=by
  refine ZX mixed htt ?_ Tryz.func244 (by kernel_rfl);exact Av.tab_ok ⟨.inl x45,trivial⟩
noncomputable def X245:List PV→Option (PV×List (List Cell)):=ZO tt (Av.tab []) G (fun i=>⟨[],[],[]⟩) false 100000 Tryz.f245
theorem x245:ZB Tryz.prog G 245 X245:=by
  refine ZX mixed htt ?_ Tryz.func245 (by kernel_rfl);exact Av.tab_ok trivial
noncomputable def X246:List PV→Option (PV×List (List Cell)):=ZO tt (Av.tab []) G (fun i=>⟨[],[],[]⟩) false 100000 Tryz.f246
theorem x246:ZB Tryz.prog G 246 X246:=by
  refine ZX mixed htt ?_ Tryz.func246 (by kernel_rfl);exact Av.tab_ok trivial
noncomputable def X247:List PV→Option (PV×List (List Cell)):=ZO tt (Av.tab []) G (fun i=>⟨[],[],[]⟩) false 100000 Tryz.f247
theorem x247:ZB Tryz.prog G 247 X247:=by
  refine ZX mixed htt ?_ Tryz.func247 (by kernel_rfl);exact Av.tab_ok trivial
noncomputable def X25:List PV→Option (PV×List (List Cell)):=ZO tt (Av.tab []) G (fun i=>⟨[],[],[]⟩) false 100000 Tryz.f25
theorem x25:ZB Tryz.prog G 25 X25:=by
  refine ZX mixed htt ?_ Tryz.func25 (by kernel_rfl);exact Av.tab_ok trivial
noncomputable def X251_1:List PV→Option (PV×List (List Cell)):=ZO tt (Av.tab []) G (fun i=>⟨[],[],[]⟩) true 100000 Tryz.f251
theorem x251_1:ZB Tryz.prog G 251 X251_1:=by
  refine ZX mixed htt ?_ Tryz.func251 (by kernel_rfl);exact Av.tab_ok trivial
noncomputable def X253:List PV→Option (PV×List (List Cell)):=ZO tt (Av.tab []) G (fun i=>if i=2 then⟨[0,3],[12],[(3,none,12,1)]⟩ else⟨[],[],[]⟩) true 100000 Tryz.f253
theorem x253:ZB Tryz.prog G 253 X253:=by
  refine ZX mixed htt ?_ Tryz.func253 (by kernel_rfl);exact Av.tab_ok trivial
noncomputable def X252:List PV→Option (PV×List (List Cell)):=ZO tt (Av.tab [(253,X253)]) G (fun i=>⟨[],[],[]⟩) true 100000 Tryz.f252
theorem x252:ZB Tryz.prog G 252 X252:=by
  refine ZX mixed htt ?_ Tryz.func252 (by kernel_rfl);exact Av.tab_ok ⟨.inl x253,trivial⟩
noncomputable def X261:List PV→Option (PV×List (List Cell)):=ZO tt (Av.tab []) G (fun i=>if i=5 then⟨[0,4,24,25],[],[]⟩ else⟨[],[],[]⟩) false 100000 Tryz.f261
theorem x261:ZB Tryz.prog G 261 X261:=by
  refine ZX mixed htt ?_ Tryz.func261 (by kernel_rfl);exact Av.tab_ok trivial
noncomputable def X256:List PV→Option (PV×List (List Cell)):=ZO tt (Av.tab [(261,X261)]) G (fun i=>⟨[],[],[]⟩) false 100000 Tryz.f256
theorem x256:ZB Tryz.prog G 256 X256:=by
  refine ZX mixed htt ?_ Tryz.func256 (by kernel_rfl);exact Av.tab_ok ⟨.inl x261,trivial⟩
noncomputable def X248_2:List PV→Option (PV×List (List Cell)):=ZO tt (Av.tab [(25,X25),(45,X45),(236,X236),(251,X251_1),(252,X252),(253,X253),(256,X256)] (fun d=>if d=26 then[[1]] else if d=37 then[[1]] else if d=147 then[[1]] else[])) G (fun i=>⟨[],[],[]⟩) true 100000 Tryz.f248
theorem x248_2:ZB Tryz.prog G 248 X248_2:=by
  refine ZX mixed htt ?_ Tryz.func248 (by kernel_rfl);exact Av.tab_ok ⟨.inl x25,.inl x45,.inl x236,.inl x251_1,.inl x252,.inl x253,.inl x256,trivial⟩
noncomputable def X235:List PV→Option (PV×List (List Cell)):=ZO tt (Av.tab [(236,X236),(241,X241),(242,X242),(243,X243),(244,X244),(245,X245),(246,X246),(247,X247),(248,X248_2)] (fun d=>if d=125 then[[],[1]] else[])) G (fun i=>if i=12 then⟨[5,11,12,13,33,34,35],[5,900011],[(11,none,900011,0),(13,none,0,0)]⟩ else⟨[],[],[]⟩) false 100000 Tryz.f235
theorem x235:ZB Tryz.prog G 235 X235:=by
  refine ZX mixed htt ?_ Tryz.func235 (by kernel_rfl);exact Av.tab_ok ⟨.inl x236,.inl x241,.inl x242,.inl x243,.inl x244,.inl x245,.inl x246,.inl x247,.inl x248_2,trivial⟩
noncomputable def X220:List PV→Option (PV×List (List Cell)):=ZO tt (Av.tab [(235,X235),(236,X236)]) G (fun i=>⟨[],[],[]⟩) false 100000 Tryz.f220
theorem x220:ZB Tryz.prog G 220 X220:=by
  refine ZX mixed htt ?_ Tryz.func220 (by kernel_rfl);exact Av.tab_ok ⟨.inl x235,.inl x236,trivial⟩
theorem l32:∀ {l:List Int},l.length=32→∃ x0 x1 x2 x3 x4 x5 x6 x7 x8 x9 x10 x11 x12 x13 x14 x15 x16 x17 x18 x19 x20 x21 x22 x23 x24 x25 x26 x27 x28 x29 x30 x31,l=[x0,x1,x2,x3,x4,x5,x6,x7,x8,x9,x10,x11,x12,x13,x14,x15,x16,x17,x18,x19,x20,x21,x22,x23,x24,x25,x26,x27,x28,x29,x30,x31]
  | [x0,x1,x2,x3,x4,x5,x6,x7,x8,x9,x10,x11,x12,x13,x14,x15,x16,x17,x18,x19,x20,x21,x22,x23,x24,x25,x26,x27,x28,x29,x30,x31],_=>⟨x0,x1,x2,x3,x4,x5,x6,x7,x8,x9,x10,x11,x12,x13,x14,x15,x16,x17,x18,x19,x20,x21,x22,x23,x24,x25,x26,x27,x28,x29,x30,x31,rfl⟩
theorem scr1 {k:Int}(h2:1≤k∧k≤6) (m:Arr 32) (a b:Int):X220 (K220.E ([1,1,1,5],[[k]],m,a,b))=some (.one (.v (.int .i64 (if ([[k]]:List (List Int))=[[[1,1,1,5].getD 2 0]] then 0 else 84))),[]):=by
  obtain⟨l,hl⟩:=m;obtain⟨x0,x1,x2,x3,x4,x5,x6,x7,x8,x9,x10,x11,x12,x13,x14,x15,x16,x17,x18,x19,x20,x21,x22,x23,x24,x25,x26,x27,x28,x29,x30,x31,rfl⟩:=l32 hl;have hk:k=1∨k=2∨k=3∨k=4∨k=5∨k=6:=by omega
  rcases hk with rfl | rfl | rfl | rfl | rfl | rfl <;> (show _=_; kernel_rfl)
theorem scr2 {k:Int}(h2:1≤k∧k≤6) (m:Arr 32) (a b:Int):X220 (K220.E ([1,1,2,5],[[k]],m,a,b))=some (.one (.v (.int .i64 (if ([[k]]:List (List Int))=[[[1,1,2,5].getD 2 0]] then 0 else 84))),[]):=by
  obtain⟨l,hl⟩:=m;obtain⟨x0,x1,x2,x3,x4,x5,x6,x7,x8,x9,x10,x11,x12,x13,x14,x15,x16,x17,x18,x19,x20,x21,x22,x23,x24,x25,x26,x27,x28,x29,x30,x31,rfl⟩:=l32 hl;have hk:k=1∨k=2∨k=3∨k=4∨k=5∨k=6:=by omega
  rcases hk with rfl | rfl | rfl | rfl | rfl | rfl <;> (show _=_; kernel_rfl)
theorem scr3 {k:Int}(h2:1≤k∧k≤6) (m:Arr 32) (a b:Int):X220 (K220.E ([1,1,3,5],[[k]],m,a,b))=some (.one (.v (.int .i64 (if ([[k]]:List (List Int))=[[[1,1,3,5].getD 2 0]] then 0 else 84))),[]):=by
  obtain⟨l,hl⟩:=m;obtain⟨x0,x1,x2,x3,x4,x5,x6,x7,x8,x9,x10,x11,x12,x13,x14,x15,x16,x17,x18,x19,x20,x21,x22,x23,x24,x25,x26,x27,x28,x29,x30,x31,rfl⟩:=l32 hl;have hk:k=1∨k=2∨k=3∨k=4∨k=5∨k=6:=by omega
  rcases hk with rfl | rfl | rfl | rfl | rfl | rfl <;> (show _=_; kernel_rfl)
theorem scr4 {k:Int}(h2:1≤k∧k≤6) (m:Arr 32) (a b:Int):X220 (K220.E ([1,1,4,5],[[k]],m,a,b))=some (.one (.v (.int .i64 (if ([[k]]:List (List Int))=[[[1,1,4,5].getD 2 0]] then 0 else 84))),[]):=by
  obtain⟨l,hl⟩:=m;obtain⟨x0,x1,x2,x3,x4,x5,x6,x7,x8,x9,x10,x11,x12,x13,x14,x15,x16,x17,x18,x19,x20,x21,x22,x23,x24,x25,x26,x27,x28,x29,x30,x31,rfl⟩:=l32 hl;have hk:k=1∨k=2∨k=3∨k=4∨k=5∨k=6:=by omega
  rcases hk with rfl | rfl | rfl | rfl | rfl | rfl <;> (show _=_; kernel_rfl)
theorem scr5 {k:Int}(h2:1≤k∧k≤6) (m:Arr 32) (a b:Int):X220 (K220.E ([1,1,5,5],[[k]],m,a,b))=some (.one (.v (.int .i64 (if ([[k]]:List (List Int))=[[[1,1,5,5].getD 2 0]] then 0 else 84))),[]):=by
  obtain⟨l,hl⟩:=m;obtain⟨x0,x1,x2,x3,x4,x5,x6,x7,x8,x9,x10,x11,x12,x13,x14,x15,x16,x17,x18,x19,x20,x21,x22,x23,x24,x25,x26,x27,x28,x29,x30,x31,rfl⟩:=l32 hl;have hk:k=1∨k=2∨k=3∨k=4∨k=5∨k=6:=by omega
  rcases hk with rfl | rfl | rfl | rfl | rfl | rfl <;> (show _=_; kernel_rfl)
theorem scr6 {k:Int}(h2:1≤k∧k≤6) (m:Arr 32) (a b:Int):X220 (K220.E ([1,1,6,5],[[k]],m,a,b))=some (.one (.v (.int .i64 (if ([[k]]:List (List Int))=[[[1,1,6,5].getD 2 0]] then 0 else 84))),[]):=by
  obtain⟨l,hl⟩:=m;obtain⟨x0,x1,x2,x3,x4,x5,x6,x7,x8,x9,x10,x11,x12,x13,x14,x15,x16,x17,x18,x19,x20,x21,x22,x23,x24,x25,x26,x27,x28,x29,x30,x31,rfl⟩:=l32 hl;have hk:k=1∨k=2∨k=3∨k=4∨k=5∨k=6:=by omega
  rcases hk with rfl | rfl | rfl | rfl | rfl | rfl <;> (show _=_; kernel_rfl)
theorem Zxk {j k:Int}(h1:1≤j∧j≤6) (h2:1≤k∧k≤6) (m:Arr 32) (a b:Int):X220 (K220.E ([1,1,j,5],[[k]],m,a,b))=some (.one (.v (.int .i64 (if ([[k]]:List (List Int))=[[[1,1,j,5].getD 2 0]] then 0 else 84))),[]):=by
  have hj:j=1∨j=2∨j=3∨j=4∨j=5∨j=6:=by omega
  rcases hj with rfl | rfl | rfl | rfl | rfl | rfl
  · exact scr1 h2 m a b
  · exact scr2 h2 m a b
  · exact scr3 h2 m a b
  · exact scr4 h2 m a b
  · exact scr5 h2 m a b
  · exact scr6 h2 m a b
theorem v220:ZB Tryz.prog G 220 K220.G:=Zk5 x220 fun ps r h=>by
  obtain⟨⟨a0,a1,m,a,b⟩,q,h'⟩:=ZdY h;subst q;obtain⟨y,hy,rfl⟩:=Option.map_eq_some_iff.1 h';simp only[u3,ZaF] at hy;split at hy
  · rename_i e
    obtain⟨j,k,h1,h2,rfl,rfl⟩:=e;obtain rfl:=Option.some.inj hy;exact Zxk h1 h2 m a b
  · cases hy
theorem v185:Im 185 K185:=V w185 Tryz.func185 ⟨.inl v219,.inl v220,trivial⟩
theorem v133:Im 133 K133:=V w133 Tryz.func133 ⟨.inl v46,.inl v182,.inl v184,.inl v185,trivial⟩
theorem v134:Im 134 K134:=V w134 Tryz.func134
theorem v138:Im 138 K138:=V w138 Tryz.func138 ⟨.inl v46,.inl v176,trivial⟩
theorem v186:ZB Tryz.prog G 186 G186:=mkI (T:=Av.tab [(183,K183.G),(214,G214)]) (enc:=ZhW) (R:=Zj0) (g:=fun x:(List Tapi_Coin)×Tapi_Coin=>Zbx x.1 x.2) mixed htt (Av.tab_ok ⟨.inl v183,.inl v214,trivial⟩) Tryz.func186 body186 (by kernel_rfl) fun x y hy=>w186 rfl rfl rfl x.1 x.2 y hy
theorem v136:Im 136 K136:=V w136 Tryz.func136 ⟨.inl v135,.inl v138,.inl v186,trivial⟩
theorem v137:Im 137 K137:=V w137 Tryz.func137
theorem v89:Im 89 K89:=V w89 Tryz.func89 ⟨.inl v22,.inl v127,.inl v131,.inl v132,.inl v133,.inl v134,.inl v135,.inl v136,.inl v137,.inl v138,trivial⟩
theorem v142:Im 142 K142:=V w142 Tryz.func142 ⟨.inl v145,trivial⟩
theorem v91:Im 91 K91:=V w91 Tryz.func91 ⟨.inl v22,.inl v142,trivial⟩
theorem v90:Im 90 K90:=V w90 Tryz.func90 ⟨.inl v91,.inl v139,.inl v140,.inl v141,trivial⟩
theorem v144:Im 144 K144:=V w144 Tryz.func144
theorem v92:Im 92 K92:=V w92 Tryz.func92 ⟨.inl v143,.inl v144,trivial⟩
theorem v93:Im 93 K93:=V w93 Tryz.func93 ⟨.inl v22,.inl v145,trivial⟩
theorem v94:Im 94 K94:=V w94 Tryz.func94 ⟨.inl v22,.inl v145,trivial⟩
theorem v50:Im 50 K50:=V w50 Tryz.func50 ⟨.inl v92,.inl v93,.inl v94,trivial⟩
theorem v49_7:Im 49 K49_7:=V w49_7 Tryz.func49 ⟨.inl v88,.inl v89,.inl v90,.inl v91,trivial⟩
theorem v20:Im 20 K20:=V w20 Tryz.func20 ⟨.inl v49_7,.inl v50,trivial⟩
theorem v21:Im 21 K21:=V w21 Tryz.func21
theorem v25:Im 25 K25:=V w25 Tryz.func25
def b8 (n:Int):Cell:=.v (.int .u8 n)
abbrev RT:=PV×List (List Cell)
abbrev RF:=List PV→Option RT
abbrev IX (f:FuncId) (F:RF):Prop:=ZB Tryz.prog G f F
def bs (l:List Int):List Cell:=l.map b8
def bz (n:Nat):List Cell:=List.replicate n (b8 0)
def kx:List (Nat×Kp)→Keep
  | []=>fun _=>⟨[],[],[]⟩
  | (k,q) :: l=>fun i=>if i=k then q else kx l i
noncomputable def xf (t:List (FuncId×RF)) (l:List (Nat×Kp)) (w:Bool) (fn:Func):RF:=ZO tt (Av.tab t) G (kx l) w 100000 fn
theorem xi {t:List (FuncId×RF)}{l:List (Nat×Kp)}{w:Bool}{f:FuncId}{fn:Func}(h:ZnK Tryz.prog G t) (hf:Tryz.prog.funcs[f]? = some fn) (hb:(fn.body.isSome && !(fn.name == "runtime.NumGoroutine"))=true):IX f (xf t l w fn):=ZX mixed htt (Av.tab_ok h) hf hb
noncomputable def s0:PV:=.one (.v (.int .u8 0))
noncomputable def s1:PV:=.one (.slice .no [[.v (.int .u8 0)]])
noncomputable def V50:RT:=((.agg ([(.v (.int .u32 1))]++(bz 64++[(.v (.int .u32 1000)),(.v (.int .u32 545259519)),(.v (.int .u32 0)),(.v (.int .u64 18446744073709551615)),(.v (.int .u64 18446744073709551615)),(.v (.int .u64 18446744073709551615)),(.v (.int .u64 9223372036854775807)),(.v (.int .i64 3)),(.v (.int .u32 5)),(.v (.int .u32 600)),(.v (.int .u32 1)),(.slice .no []),(.v (.int .i64 1000)),(.v (.int .i64 4)),(.v (.int .i64 0)),(.slice .no []),(.own 34 [([(.v (.int .i64 0))]++(bs [61,203,117,189,137,197,20,104,21,221,192,209,215,49,76,183,70,25,253,247,43,253,106,115,55,132,161,91,255,182,29,187]++[(.slice .no [])]))]),(.own 36 [([(.v (.int .i64 0))]++(bs [61,203,117,189,137,197,20,104,21,221,192,209,215,49,76,183,70,25,253,247,43,253,106,115,55,132,161,91,255,182,29,187]++[(.v (.int .u32 545259519)),(.v (.int .u32 1000)),(.slice .no [[(.v (.int .u32 1000))]])]))]),(.slice .no [])]))),[])
noncomputable def Pp:PV:=(.agg ([(.v (.int .u32 1))]++(bz 64++[(.v (.int .u32 1000)),(.v (.int .u32 545259519)),(.v (.int .u32 0)),(.v (.int .u64 18446744073709551615)),(.v (.int .u64 18446744073709551615)),(.v (.int .u64 18446744073709551615)),(.v (.int .u64 9223372036854775807)),(.v (.int .i64 3)),(.v (.int .u32 5)),(.v (.int .u32 600)),(.v (.int .u32 1)),(.slice .no []),(.v (.int .i64 1000)),(.v (.int .i64 4)),(.v (.int .i64 0))])))
noncomputable def Ll:PV:=(.agg ([(.v (.int .i64 0))]++(bs [61,203,117,189,137,197,20,104,21,221,192,209,215,49,76,183,70,25,253,247,43,253,106,115,55,132,161,91,255,182,29,187]++[(.slice .no [])])))
noncomputable def Cc:PV:=(.agg ([(.v (.int .i64 0))]++(bs [61,203,117,189,137,197,20,104,21,221,192,209,215,49,76,183,70,25,253,247,43,253,106,115,55,132,161,91,255,182,29,187]++[(.v (.int .u32 545259519)),(.v (.int .u32 1000)),(.slice .no [[(.v (.int .u32 1000))]])])))
noncomputable def V88:RT:=((.agg ([(.v (.int .u32 1))]++(bs [61,203,117,189,137,197,20,104,21,221,192,209,215,49,76,183,70,25,253,247,43,253,106,115,55,132,161,91,255,182,29,187,97,228,166,135,80,63,52,148,101,13,25,29,89,117,227,159,228,238,226,170,227,84,108,105,186,52,19,141,87,189,48,35]++[(.v (.int .u32 1021)),(.v (.int .u32 545259519)),(.v (.int .u32 4)),(.own 4 [[(.v (.int .u32 1)),(.slice .no [(bz 32++[(.v (.int .u32 4294967295)),(.v (.int .u32 1)),(.slice .no [])])]),(.slice .no [[(.v (.int .i64 1000)),(.slice .no [[(b8 1)],[(b8 1)],[(b8 1)],[(b8 5)]])]]),(.v (.int .u32 0))]])]))),[])
noncomputable def Bb:PV:=(.agg ([(.v (.int .u32 1))]++(bs [61,203,117,189,137,197,20,104,21,221,192,209,215,49,76,183,70,25,253,247,43,253,106,115,55,132,161,91,255,182,29,187,97,228,166,135,80,63,52,148,101,13,25,29,89,117,227,159,228,238,226,170,227,84,108,105,186,52,19,141,87,189,48,35]++[(.v (.int .u32 1021)),(.v (.int .u32 545259519)),(.v (.int .u32 4)),(.slice .no [[(.v (.int .u32 1)),(.slice .no [(bz 32++[(.v (.int .u32 4294967295)),(.v (.int .u32 1)),(.slice .no [])])]),(.slice .no [[(.v (.int .i64 1000)),(.slice .no [[(b8 1)],[(b8 1)],[(b8 1)],[(b8 5)]])]]),(.v (.int .u32 0))]])])))
noncomputable def Hh:PV:=(.agg ([(.v (.int .u32 1))]++(bs [61,203,117,189,137,197,20,104,21,221,192,209,215,49,76,183,70,25,253,247,43,253,106,115,55,132,161,91,255,182,29,187,97,228,166,135,80,63,52,148,101,13,25,29,89,117,227,159,228,238,226,170,227,84,108,105,186,52,19,141,87,189,48,35]++[(.v (.int .u32 1021)),(.v (.int .u32 545259519)),(.v (.int .u32 4))])))
noncomputable def V89:RT:=((.tup [(.agg ([(.v (.int .i64 1))]++(bs [122,254,140,107,122,124,222,94,142,209,86,197,39,222,173,150,166,172,188,200,221,7,238,246,58,2,186,154,58,238,174,254]++[(.slice .no [(bs [37,205,216,223,81,203,80,27,2,210,68,135,186,37,122,45,54,153,215,87,97,164,65,30,18,4,133,45,141,199,157,21]++[(.v (.int .u32 0)),(.v (.int .i64 1000)),(.slice .no [[(b8 1)],[(b8 1)],[(b8 1)],[(b8 5)]]),(.v (.int .i64 1)),(.v (.bool .true))])])]))),(.agg [(.slice .no [])]),(.one (.v (.int .i64 0)))]),[])
noncomputable def V91:RT:=((.tup [(.agg ([(.v (.int .i64 1))]++(bs [122,254,140,107,122,124,222,94,142,209,86,197,39,222,173,150,166,172,188,200,221,7,238,246,58,2,186,154,58,238,174,254]++[(.v (.int .u32 545259519)),(.v (.int .u32 1000)),(.slice .no [[(.v (.int .u32 1000))],[(.v (.int .u32 1021))]])]))),(.one (.v (.int .i64 0)))]),[])
noncomputable def V90:RT:=((.one (.v (.int .i64 0))),[])
noncomputable def V49:RT:=((.agg ([(.v (.int .u32 1))]++(bz 64++[(.v (.int .u32 1000)),(.v (.int .u32 545259519)),(.v (.int .u32 0)),(.v (.int .u64 18446744073709551615)),(.v (.int .u64 18446744073709551615)),(.v (.int .u64 18446744073709551615)),(.v (.int .u64 9223372036854775807)),(.v (.int .i64 3)),(.v (.int .u32 5)),(.v (.int .u32 600)),(.v (.int .u32 1)),(.slice .no []),(.v (.int .i64 1000)),(.v (.int .i64 4)),(.v (.int .i64 0)),(.own 69 [([(.v (.int .u32 1))]++(bs [61,203,117,189,137,197,20,104,21,221,192,209,215,49,76,183,70,25,253,247,43,253,106,115,55,132,161,91,255,182,29,187,97,228,166,135,80,63,52,148,101,13,25,29,89,117,227,159,228,238,226,170,227,84,108,105,186,52,19,141,87,189,48,35]++[(.v (.int .u32 1021)),(.v (.int .u32 545259519)),(.v (.int .u32 4)),(.slice .no [[(.v (.int .u32 1)),(.slice .no [(bz 32++[(.v (.int .u32 4294967295)),(.v (.int .u32 1)),(.slice .no [])])]),(.slice .no [[(.v (.int .i64 1000)),(.slice .no [[(b8 1)],[(b8 1)],[(b8 1)],[(b8 5)]])]]),(.v (.int .u32 0))]])]))]),(.own 34 [([(.v (.int .i64 0))]++(bs [61,203,117,189,137,197,20,104,21,221,192,209,215,49,76,183,70,25,253,247,43,253,106,115,55,132,161,91,255,182,29,187]++[(.slice .no [])])),([(.v (.int .i64 1))]++(bs [122,254,140,107,122,124,222,94,142,209,86,197,39,222,173,150,166,172,188,200,221,7,238,246,58,2,186,154,58,238,174,254]++[(.slice .no [(bs [37,205,216,223,81,203,80,27,2,210,68,135,186,37,122,45,54,153,215,87,97,164,65,30,18,4,133,45,141,199,157,21]++[(.v (.int .u32 0)),(.v (.int .i64 1000)),(.slice .no [[(b8 1)],[(b8 1)],[(b8 1)],[(b8 5)]]),(.v (.int .i64 1)),(.v (.bool .true))])])]))]),(.own 36 [([(.v (.int .i64 0))]++(bs [61,203,117,189,137,197,20,104,21,221,192,209,215,49,76,183,70,25,253,247,43,253,106,115,55,132,161,91,255,182,29,187]++[(.v (.int .u32 545259519)),(.v (.int .u32 1000)),(.slice .no [[(.v (.int .u32 1000))]])])),([(.v (.int .i64 1))]++(bs [122,254,140,107,122,124,222,94,142,209,86,197,39,222,173,150,166,172,188,200,221,7,238,246,58,2,186,154,58,238,174,254]++[(.v (.int .u32 545259519)),(.v (.int .u32 1000)),(.slice .no [[(.v (.int .u32 1000))],[(.v (.int .u32 1021))]])]))]),(.own 1 [[(.slice .no [])]])]))),[])
noncomputable def V20:RT:=((.agg ([(.v (.int .u32 1))]++(bz 64++[(.v (.int .u32 1000)),(.v (.int .u32 545259519)),(.v (.int .u32 0)),(.v (.int .u64 18446744073709551615)),(.v (.int .u64 18446744073709551615)),(.v (.int .u64 18446744073709551615)),(.v (.int .u64 9223372036854775807)),(.v (.int .i64 3)),(.v (.int .u32 5)),(.v (.int .u32 600)),(.v (.int .u32 1)),(.slice .no []),(.v (.int .i64 1000)),(.v (.int .i64 4)),(.v (.int .i64 0)),(.own 69 [([(.v (.int .u32 1))]++(bs [61,203,117,189,137,197,20,104,21,221,192,209,215,49,76,183,70,25,253,247,43,253,106,115,55,132,161,91,255,182,29,187,97,228,166,135,80,63,52,148,101,13,25,29,89,117,227,159,228,238,226,170,227,84,108,105,186,52,19,141,87,189,48,35]++[(.v (.int .u32 1021)),(.v (.int .u32 545259519)),(.v (.int .u32 4)),(.slice .no [[(.v (.int .u32 1)),(.slice .no [(bz 32++[(.v (.int .u32 4294967295)),(.v (.int .u32 1)),(.slice .no [])])]),(.slice .no [[(.v (.int .i64 1000)),(.slice .no [[(b8 1)],[(b8 1)],[(b8 1)],[(b8 5)]])]]),(.v (.int .u32 0))]])]))]),(.own 34 [([(.v (.int .i64 0))]++(bs [61,203,117,189,137,197,20,104,21,221,192,209,215,49,76,183,70,25,253,247,43,253,106,115,55,132,161,91,255,182,29,187]++[(.slice .no [])])),([(.v (.int .i64 1))]++(bs [122,254,140,107,122,124,222,94,142,209,86,197,39,222,173,150,166,172,188,200,221,7,238,246,58,2,186,154,58,238,174,254]++[(.slice .no [(bs [37,205,216,223,81,203,80,27,2,210,68,135,186,37,122,45,54,153,215,87,97,164,65,30,18,4,133,45,141,199,157,21]++[(.v (.int .u32 0)),(.v (.int .i64 1000)),(.slice .no [[(b8 1)],[(b8 1)],[(b8 1)],[(b8 5)]]),(.v (.int .i64 1)),(.v (.bool .true))])])]))]),(.own 36 [([(.v (.int .i64 0))]++(bs [61,203,117,189,137,197,20,104,21,221,192,209,215,49,76,183,70,25,253,247,43,253,106,115,55,132,161,91,255,182,29,187]++[(.v (.int .u32 545259519)),(.v (.int .u32 1000)),(.slice .no [[(.v (.int .u32 1000))]])])),([(.v (.int .i64 1))]++(bs [122,254,140,107,122,124,222,94,142,209,86,197,39,222,173,150,166,172,188,200,221,7,238,246,58,2,186,154,58,238,174,254]++[(.v (.int .u32 545259519)),(.v (.int .u32 1000)),(.slice .no [[(.v (.int .u32 1000))],[(.v (.int .u32 1021))]])]))]),(.own 1 [[(.slice .no [])]])]))),[])
noncomputable def Bd:PV:=(.agg ([(.v (.int .u32 1))]++(bs [61,203,117,189,137,197,20,104,21,221,192,209,215,49,76,183,70,25,253,247,43,253,106,115,55,132,161,91,255,182,29,187,97,228,166,135,80,63,52,148,101,13,25,29,89,117,227,159,228,238,226,170,227,84,108,105,186,52,19,141,87,189,48,35]++[(.v (.int .u32 1021)),(.v (.int .u32 545259519)),(.v (.int .u32 4)),(.slice .no [[(.v (.int .u32 1)),(.slice .no [(bz 32++[(.v (.int .u32 4294967295)),(.v (.int .u32 1)),(.slice .no [])])]),(.slice .no [[(.v (.int .i64 1000)),(.slice .no [[(b8 1)],[(b8 1)],[(b8 1)],[(b8 5)]])]]),(.v (.int .u32 0))]])])))
noncomputable def V11:RT:=((.tup [(.agg [(.v (.int .i64 1)),(.slice .no [[(b8 108)],[(b8 96)]])]),(.one (.v (.int .i64 0)))]),[])
noncomputable def V14:RT:=((.one (.own 1 [[(.slice .no [[(b8 1)],[(b8 1)],[(b8 1)],[(b8 5)]])]])),[])
noncomputable def V22:RT:=((.agg (bs [122,254,140,107,122,124,222,94,142,209,86,197,39,222,173,150,166,172,188,200,221,7,238,246,58,2,186,154,58,238,174,254])),[])
noncomputable def Fd:PV:=(.agg [(.v (.int .i64 1)),(.slice .no [[(b8 108)],[(b8 96)]])])
noncomputable def Id:PV:=(.one (.slice .no [[(.slice .no [[(b8 1)],[(b8 1)],[(b8 1)],[(b8 5)]])]]))
noncomputable def V18:RT:=((.tup [(.one (.v (.bool .true))),(.one (.v (.int .i64 0)))]),[])
noncomputable def GV42:RF:=gvF (d1 (ZmT .u8)) (fun x=>ZZ x) R42
theorem gv42:ZB Tryz.prog G 42 GV42:=Zee E42i v42 (d1 (ZmT .u8)) (fun ps x h=>(Zk6 fun _ _=>ZoZ) h) (fun x=>(Le.refl _:Le (ZZ x) (ZZ x)))
noncomputable def GV37:RF:=gvF (d1 (dHdr)) (fun x=>ZkR (Zgu x)) K37.R
theorem gv37:ZB Tryz.prog G 37 GV37:=Zee (enc:=K37.E) (g:=K37.g) (R:=K37.R) Yg.h v37 (d1 (dHdr)) (fun ps x h=>(Zk6 fun _ _=>Zr4) h) (fun x=>(Zw8 _:Le (ZkR (Zgu x)) (Zcz x)))
noncomputable def GV210:RF:=gvF (d1 (ZmS .u64)) (fun x=>Xc x) Zlj
theorem gv210:ZB Tryz.prog G 210 GV210:=Zee E210i v210 (d1 (ZmS .u64)) (fun ps x h=>(Zk6 fun _ _=>ZoY) h) (fun x=>(Le.refl _:Le (Xc x) (Xc x)))
noncomputable def GV51:RF:=gvF (d1 (ZmT .u8)) (fun x=>ZkR x) K51.R
theorem gv51:ZB Tryz.prog G 51 GV51:=Zee (enc:=K51.E) (g:=K51.g) (R:=K51.R) Yg.h v51 (d1 (ZmT .u8)) (fun ps x h=>(Zk6 fun _ _=>ZoZ) h) (fun x=>(ZvB _:Le (ZkR x) (XQ x)))
noncomputable def GV188:RF:=gvF (d1 (ZmS .u32)) (fun x=>Zhz x) K188.R
theorem gv188:ZB Tryz.prog G 188 GV188:=Zee (enc:=K188.E) (g:=K188.g) (R:=K188.R) Yg.h v188 (d1 (ZmS .u32)) (fun ps x h=>(Zk6 fun _ _=>ZoY) h) (fun x=>(Lec.h:Le (Zhz x) (Xf x)))
noncomputable def GV189:RF:=gvF (d2 (Zlh .u64 4) (Zlh .u64 4)) (fun x=>Zkd x.1 x.2) K189.R
theorem gv189:ZB Tryz.prog G 189 GV189:=Zee (enc:=K189.E) (g:=K189.g) (R:=K189.R) Yg.h v189 (d2 (Zlh .u64 4) (Zlh .u64 4)) (fun ps x h=>(Zv4 (fun _ _=>Zng) (fun _ _=>Zng)) h) (fun x=>(Lec.h:Le (Zkd x.1 x.2) (YJ x.1 x.2)))
noncomputable def GV22:RF:=gvF (d1 (dHdr)) (fun x=>ZkR (Zgu x)) K22.R
theorem gv22:ZB Tryz.prog G 22 GV22:=Zee (enc:=K22.E) (g:=K22.g) (R:=K22.R) Yg.h v22 (d1 (dHdr)) (fun ps x h=>(Zk6 fun _ _=>Zr4) h) (fun x=>(ZvS _:Le (ZkR (Zgu x)) (YU x)))
noncomputable def GV190:RF:=gvF (d1 (Zlh .u8 32)) (fun x=>Zfb x) K190.R
theorem gv190:ZB Tryz.prog G 190 GV190:=Zee (enc:=K190.E) (g:=K190.g) (R:=K190.R) Yg.h v190 (d1 (Zlh .u8 32)) (fun ps x h=>(Zk6 fun _ _=>Zng) h) (fun x=>(Lec.h:Le (Zfb x) (YV x)))
noncomputable def GV95:RF:=gvF (d1 (ZmT .u8)) (fun x=>ZnU x) R95
theorem gv95:ZB Tryz.prog G 95 GV95:=Zee E95i v95 (d1 (ZmT .u8)) (fun ps x h=>(Zk6 fun _ _=>ZoZ) h) (fun x=>(ZvA _:Le (ZnU x) (YI x)))
noncomputable def GV143:RF:=gvF (d2 (Zlh .u64 4) (ZmS .i64)) (fun x=>Ziv x.1 x.2) K143.R
theorem gv143:ZB Tryz.prog G 143 GV143:=Zee (enc:=K143.E) (g:=K143.g) (R:=K143.R) Yg.h v143 (d2 (Zlh .u64 4) (ZmS .i64)) (fun ps x h=>(Zv4 (fun _ _=>Zng) (fun _ _=>ZoY)) h) (fun x=>(Lec.h:Le (Ziv x.1 x.2) (Xw x.1 x.2)))
noncomputable def X79:RF:=xf [] [] false Tryz.f79
theorem x79:IX 79 X79:=by refine xi ?_ Tryz.func79 (by kernel_rfl); exact trivial
noncomputable def X43:RF:=xf [(79,X79)] [] false Tryz.f43
theorem x43:IX 43 X43:=by refine xi ?_ Tryz.func43 (by kernel_rfl); exact⟨.inl x79,trivial⟩
noncomputable def X97:RF:=xf [] [] true Tryz.f97
theorem x97:IX 97 X97:=by refine xi ?_ Tryz.func97 (by kernel_rfl); exact trivial
noncomputable def X119:RF:=xf [] [(3,⟨[0,5,9,10],[8],[]⟩)] true Tryz.f119
theorem x119:IX 119 X119:=by refine xi ?_ Tryz.func119 (by kernel_rfl); exact trivial
noncomputable def X80:RF:=xf [(97,X97),(119,X119)] [] true Tryz.f80
theorem x80:IX 80 X80:=by refine xi ?_ Tryz.func80 (by kernel_rfl); exact⟨.inl x97,.inl x119,trivial⟩
noncomputable def X81:RF:=xf [(97,X97)] [] true Tryz.f81
theorem x81:IX 81 X81:=by refine xi ?_ Tryz.func81 (by kernel_rfl); exact⟨.inl x97,trivial⟩
noncomputable def X44:RF:=xf [(80,X80),(81,X81)] [] true Tryz.f44
theorem x44:IX 44 X44:=by refine xi ?_ Tryz.func44 (by kernel_rfl); exact⟨.inl x80,.inl x81,trivial⟩
noncomputable def X14:RF:=xf [(42,GV42),(43,X43),(44,X44)] [(3,⟨[3,11,12,13],[33],[(3,none,33,1)]⟩),(6,⟨[3,5,11,12,13,18,19,20],[5,33],[]⟩),(1000010,⟨[3,5,11,12,13,18,19,20],[5,33],[]⟩),(13,⟨[3,11,12,13,38,39,40],[33],[]⟩)] true Tryz.f14
theorem x14:IX 14 X14:=by refine xi ?_ Tryz.func14 (by kernel_rfl); exact⟨.inl gv42,.inl x43,.inl x44,trivial⟩
theorem e14:X14 [Bd]=some V14:=by kernel_rfl
noncomputable def Y14:=cst [Bd] V14
theorem y14:ZB Tryz.prog G 14 Y14:=Zed x14 e14
noncomputable def X98:RF:=xf [(97,X97),(119,X119)] [] true Tryz.f98
theorem x98:IX 98 X98:=by refine xi ?_ Tryz.func98 (by kernel_rfl); exact⟨.inl x97,.inl x119,trivial⟩
noncomputable def X99:RF:=xf [(97,X97),(119,X119)] [] true Tryz.f99
theorem x99:IX 99 X99:=by refine xi ?_ Tryz.func99 (by kernel_rfl); exact⟨.inl x97,.inl x119,trivial⟩
noncomputable def X56:RF:=xf [(80,X80),(97,X97),(98,X98),(99,X99)] [] true Tryz.f56
theorem x56:IX 56 X56:=by refine xi ?_ Tryz.func56 (by kernel_rfl); exact⟨.inl x80,.inl x97,.inl x98,.inl x99,trivial⟩
noncomputable def X67:RF:=xf [(80,X80),(81,X81)] [] true Tryz.f67
theorem x67:IX 67 X67:=by refine xi ?_ Tryz.func67 (by kernel_rfl); exact⟨.inl x80,.inl x81,trivial⟩
noncomputable def X55:RF:=xf [(56,X56),(97,X97)] [] true Tryz.f55
theorem x55:IX 55 X55:=by refine xi ?_ Tryz.func55 (by kernel_rfl); exact⟨.inl x56,.inl x97,trivial⟩
noncomputable def X108:RF:=xf [(44,X44),(55,X55),(56,X56),(80,X80),(99,X99)] [(4,⟨[1,2,5,25,26,27],[2,16],[]⟩),(11,⟨[1,2,5,50,51,52],[2,16],[]⟩),(20,⟨[5,77,78,79],[16],[]⟩),(24,⟨[5,77,78,79,91,92,93],[16],[]⟩)] true Tryz.f108
theorem x108:IX 108 X108:=by refine xi ?_ Tryz.func108 (by kernel_rfl); exact⟨.inl x44,.inl x55,.inl x56,.inl x80,.inl x99,trivial⟩
noncomputable def X107:RF:=xf [(108,X108)] [(4,⟨[1,20,21,22],[1],[]⟩),(10,⟨[1,37,38,39],[1],[]⟩),(15,⟨[1,37,38,39,48,49,50],[1],[]⟩)] false Tryz.f107
theorem x107:IX 107 X107:=by refine xi ?_ Tryz.func107 (by kernel_rfl); exact⟨.inl x108,trivial⟩
noncomputable def X68:RF:=xf [(107,X107),(108,X108)] [] false Tryz.f68
theorem x68:IX 68 X68:=by refine xi ?_ Tryz.func68 (by kernel_rfl); exact⟨.inl x107,.inl x108,trivial⟩
noncomputable def X35:RF:=xf [(56,X56),(67,X67),(68,X68)] [(5,⟨[4,22,23,24],[20],[]⟩)] false Tryz.f35
theorem x35:IX 35 X35:=by refine xi ?_ Tryz.func35 (by kernel_rfl); exact⟨.inl x56,.inl x67,.inl x68,trivial⟩
noncomputable def X69:RF:=xf [] [(3,⟨[3,6,7,8],[],[]⟩)] false Tryz.f69
theorem x69:IX 69 X69:=by refine xi ?_ Tryz.func69 (by kernel_rfl); exact trivial
noncomputable def X36:RF:=xf [(69,X69)] [] false Tryz.f36
theorem x36:IX 36 X36:=by refine xi ?_ Tryz.func36 (by kernel_rfl); exact⟨.inl x69,trivial⟩
noncomputable def X199:RF:=xf [] [] false Tryz.f199
theorem x199:IX 199 X199:=by refine xi ?_ Tryz.func199 (by kernel_rfl); exact trivial
noncomputable def X156:RF:=xf [(199,X199)] [] false Tryz.f156
theorem x156:IX 156 X156:=by refine xi ?_ Tryz.func156 (by kernel_rfl); exact⟨.inl x199,trivial⟩
noncomputable def X109:RF:=xf [(156,X156)] [(2,⟨[0,3],[],[]⟩)] false Tryz.f109
theorem x109:IX 109 X109:=by refine xi ?_ Tryz.func109 (by kernel_rfl); exact⟨.inl x156,trivial⟩
noncomputable def X157:RF:=xf [] [] false Tryz.f157
theorem x157:IX 157 X157:=by refine xi ?_ Tryz.func157 (by kernel_rfl); exact trivial
noncomputable def X158:RF:=xf [] [] true Tryz.f158
theorem x158:IX 158 X158:=by refine xi ?_ Tryz.func158 (by kernel_rfl); exact trivial
noncomputable def X159_1:RF:=xf [] [(1000002,⟨[0,1],[1000000,67000000],[]⟩),(1000004,⟨[0],[1000000,67000000],[]⟩)] false Tryz.f159
theorem x159_1:IX 159 X159_1:=by refine xi ?_ Tryz.func159 (by kernel_rfl); exact trivial
noncomputable def X160_2:RF:=ZO tt (Av.tab [(159,X159_1)] (fun d=>if d=20 then[[1]] else[])) G (fun i=>if i=1 then⟨[0,1,2,7,8],[1000000,67000000],[]⟩ else⟨[],[],[]⟩) false 100000 Tryz.f160
theorem x160_2:ZB Tryz.prog G 160 X160_2:=by
  refine ZX mixed htt ?_ Tryz.func160 (by kernel_rfl);exact Av.tab_ok ⟨.inl x159_1,trivial⟩
noncomputable def X110:RF:=ZO tt (Av.tab [(157,X157),(158,X158),(159,X159_1),(160,X160_2)] (fun d=>if d=44 then[[1]] else if d=47 then[[1]] else if d=51 then[[1]] else[])) G (fun i=>if i=10 then⟨[1,2,6,9,40,41],[6,39,3002496],[]⟩ else⟨[],[],[]⟩) false 100000 Tryz.f110
theorem x110:ZB Tryz.prog G 110 X110:=by
  refine ZX mixed htt ?_ Tryz.func110 (by kernel_rfl);exact Av.tab_ok ⟨.inl x157,.inl x158,.inl x159_1,.inl x160_2,trivial⟩
noncomputable def X70:RF:=xf [(109,X109),(110,X110)] [(10,⟨[0,1,4,6,7,27,28,29],[4,6],[(6,some 0,0,0)]⟩)] false Tryz.f70
theorem x70:IX 70 X70:=by refine xi ?_ Tryz.func70 (by kernel_rfl); exact⟨.inl x109,.inl x110,trivial⟩
noncomputable def X161:RF:=xf [] [] false Tryz.f161
theorem x161:IX 161 X161:=by refine xi ?_ Tryz.func161 (by kernel_rfl); exact trivial
noncomputable def X111:RF:=xf [(161,X161)] [] false Tryz.f111
theorem x111:IX 111 X111:=by refine xi ?_ Tryz.func111 (by kernel_rfl); exact⟨.inl x161,trivial⟩
noncomputable def X200:RF:=xf [] [] false Tryz.f200
theorem x200:IX 200 X200:=by refine xi ?_ Tryz.func200 (by kernel_rfl); exact trivial
noncomputable def X163:RF:=xf [(200,X200)] [(2,⟨[2,4,5,6],[2,4],[]⟩)] false Tryz.f163
theorem x163:IX 163 X163:=by refine xi ?_ Tryz.func163 (by kernel_rfl); exact⟨.inl x200,trivial⟩
noncomputable def X162:RF:=xf [(163,X163)] [] false Tryz.f162
theorem x162:IX 162 X162:=by refine xi ?_ Tryz.func162 (by kernel_rfl); exact⟨.inl x163,trivial⟩
noncomputable def X112:RF:=xf [(69,X69),(162,X162),(163,X163)] [(4,⟨[1,5,6,24,25],[5],[]⟩)] false Tryz.f112
theorem x112:IX 112 X112:=by refine xi ?_ Tryz.func112 (by kernel_rfl); exact⟨.inl x69,.inl x162,.inl x163,trivial⟩
noncomputable def X201_3:RF:=xf [(156,X156)] [(1,⟨[0,1,2,6],[1000000],[]⟩),(1000002,⟨[0,1,2,6],[1000000],[]⟩),(4,⟨[0,1,2,6,7],[1000000],[]⟩)] false Tryz.f201
theorem x201_3:IX 201 X201_3:=by refine xi ?_ Tryz.func201 (by kernel_rfl); exact⟨.inl x156,trivial⟩
noncomputable def X228_4:RF:=xf [(156,X156)] [(1,⟨[0,2,3,8],[1000000],[]⟩),(1000005,⟨[0,2,3,8,9],[1000000],[]⟩)] false Tryz.f228
theorem x228_4:IX 228 X228_4:=by refine xi ?_ Tryz.func228 (by kernel_rfl); exact⟨.inl x156,trivial⟩
noncomputable def X202_5:RF:=ZO tt (Av.tab [(228,X228_4)] (fun d=>if d=26 then[[1000001]] else if d=55 then[[1000001]] else[])) G (fun i=>if i=4 then⟨[0,6,7,8,9],[1000000],[]⟩ else if i=8 then⟨[0,6,7,10],[1000000],[]⟩ else⟨[],[],[]⟩) false 100000 Tryz.f202
theorem x202_5:ZB Tryz.prog G 202 X202_5:=by
  refine ZX mixed htt ?_ Tryz.func202 (by kernel_rfl);exact Av.tab_ok ⟨.inl x228_4,trivial⟩
noncomputable def X165:RF:=xf [(210,GV210)] [] false Tryz.f165
theorem x165:IX 165 X165:=by refine xi ?_ Tryz.func165 (by kernel_rfl); exact⟨.inl gv210,trivial⟩
noncomputable def X229:RF:=xf [(165,X165)] [] false Tryz.f229
theorem x229:IX 229 X229:=by refine xi ?_ Tryz.func229 (by kernel_rfl); exact⟨.inl x165,trivial⟩
noncomputable def X230:RF:=xf [] [] false Tryz.f230
theorem x230:IX 230 X230:=by refine xi ?_ Tryz.func230 (by kernel_rfl); exact trivial
noncomputable def X203_11:RF:=xf [(229,X229),(230,X230)] [(5,⟨[0,1,6,7,8,9],[7,1000000],[]⟩),(1000010,⟨[0,1,6,7,8,9,10],[7,1000000],[]⟩)] false Tryz.f203
theorem x203_11:IX 203 X203_11:=by refine xi ?_ Tryz.func203 (by kernel_rfl); exact⟨.inl x229,.inl x230,trivial⟩
noncomputable def X240:RF:=xf [(156,X156)] [] false Tryz.f240
theorem x240:IX 240 X240:=by refine xi ?_ Tryz.func240 (by kernel_rfl); exact⟨.inl x156,trivial⟩
noncomputable def X232:RF:=xf [(240,X240)] [] false Tryz.f232
theorem x232:IX 232 X232:=by refine xi ?_ Tryz.func232 (by kernel_rfl); exact⟨.inl x240,trivial⟩
noncomputable def X231:RF:=xf [(232,X232)] [] false Tryz.f231
theorem x231:IX 231 X231:=by refine xi ?_ Tryz.func231 (by kernel_rfl); exact⟨.inl x232,trivial⟩
noncomputable def X204:RF:=xf [(231,X231),(232,X232)] [(1000012,⟨[9,11],[9],[]⟩),(1000011,⟨[0,9,10,11,12],[9],[]⟩)] false Tryz.f204
theorem x204:IX 204 X204:=by refine xi ?_ Tryz.func204 (by kernel_rfl); exact⟨.inl x231,.inl x232,trivial⟩
noncomputable def X205_6:RF:=xf [] [(2,⟨[0,6,7],[1000000],[]⟩)] false Tryz.f205
theorem x205_6:IX 205 X205_6:=by refine xi ?_ Tryz.func205 (by kernel_rfl); exact trivial
noncomputable def X206_7:RF:=xf [(156,X156)] [(3,⟨[0,1,2,7,8],[1000000],[]⟩),(1000007,⟨[0,1,2,7,8],[1000000],[]⟩),(1000018,⟨[0,1,2,7,8],[1000000],[]⟩),(1000004,⟨[0,1,2,7,8],[1000000],[]⟩),(20,⟨[0,1,2,7,8,10],[1000000],[]⟩),(14,⟨[0,1,2,7,8,9],[1000000],[]⟩),(5,⟨[0,1,2,7,8],[1000000],[]⟩)] false Tryz.f206
theorem x206_7:IX 206 X206_7:=by refine xi ?_ Tryz.func206 (by kernel_rfl); exact⟨.inl x156,trivial⟩
noncomputable def X207_8:RF:=xf [(156,X156)] [(1000007,⟨[0,1,9,10],[1000000],[]⟩),(5,⟨[0,1,9,10],[1000000],[]⟩),(3,⟨[0,1,9,10],[1000000],[]⟩)] false Tryz.f207
theorem x207_8:IX 207 X207_8:=by refine xi ?_ Tryz.func207 (by kernel_rfl); exact⟨.inl x156,trivial⟩
noncomputable def X208_9:RF:=xf [(156,X156)] [(1000007,⟨[0,1,10,11],[1000000],[]⟩),(1000017,⟨[0,1,10,11],[1000000],[]⟩),(15,⟨[0,1,10,11],[1000000],[]⟩),(13,⟨[0,1,10,11],[1000000],[]⟩),(5,⟨[0,1,10,11],[1000000],[]⟩),(3,⟨[0,1,10,11],[1000000],[]⟩)] false Tryz.f208
theorem x208_9:IX 208 X208_9:=by refine xi ?_ Tryz.func208 (by kernel_rfl); exact⟨.inl x156,trivial⟩
noncomputable def X164_10:RF:=ZO tt (Av.tab [(156,X156),(201,X201_3),(202,X202_5),(203,X203_11),(204,X204),(205,X205_6),(206,X206_7),(207,X207_8),(208,X208_9)] (fun d=>if d=27 then[[1000001]] else if d=33 then[[1000001]] else if d=39 then[[1000001]] else if d=54 then[[1000001]] else if d=72 then[[1000001]] else if d=92 then[[1000001]] else if d=99 then[[1000001]] else if d=121 then[[1000001]] else if d=132 then[[1000001]] else[])) G (fun i=>if i=2 then⟨[0,1,2,3,8,9],[1000000],[]⟩ else if i=1000010 then⟨[0,1,2,3,8,9,10],[1000000],[]⟩ else if i=1000015 then⟨[0,1,2,3,8,9,10,11,12],[1000000],[]⟩ else if i=1000017 then⟨[0,1,2,3,8,9,10,11],[1000000],[]⟩ else⟨[],[],[]⟩) false 100000 Tryz.f164
theorem x164_10:ZB Tryz.prog G 164 X164_10:=by
  refine ZX mixed htt ?_ Tryz.func164 (by kernel_rfl);exact Av.tab_ok ⟨.inl x156,.inl x201_3,.inl x202_5,.inl x203_11,.inl x204,.inl x205_6,.inl x206_7,.inl x207_8,.inl x208_9,trivial⟩
noncomputable def X113_12:RF:=ZO tt (Av.tab [(164,X164_10),(165,X165)] (fun d=>if d=10 then[[1000001]] else[])) G (fun i=>⟨[],[],[]⟩) false 100000 Tryz.f113
theorem x113_12:ZB Tryz.prog G 113 X113_12:=by
  refine ZX mixed htt ?_ Tryz.func113 (by kernel_rfl);exact Av.tab_ok ⟨.inl x164_10,.inl x165,trivial⟩
noncomputable def X71:RF:=ZO tt (Av.tab [(111,X111),(112,X112),(113,X113_12)] (fun d=>if d=31 then[[1000001]] else[])) G (fun i=>if i=3 then⟨[2,3,4,9,12,13,14],[4,28],[(9,none,28,1)]⟩ else⟨[],[],[]⟩) true 100000 Tryz.f71
theorem x71:ZB Tryz.prog G 71 X71:=by
  refine ZX mixed htt ?_ Tryz.func71 (by kernel_rfl);exact Av.tab_ok ⟨.inl x111,.inl x112,.inl x113_12,trivial⟩
noncomputable def X38:RF:=xf [(70,X70),(71,X71)] [(8,⟨[2,3,4,8,10,11,34,35,36],[4,8,51,1000000000033],[(11,none,51,1)]⟩),(1000013,⟨[2,3,4,8,10,11,34,35,36],[4,8,51,1000000000033],[]⟩)] false Tryz.f38
theorem x38:IX 38 X38:=by refine xi ?_ Tryz.func38 (by kernel_rfl); exact⟨.inl x70,.inl x71,trivial⟩
noncomputable def X11:RF:=xf [(14,Y14),(35,X35),(36,X36),(37,GV37),(38,X38)] [] false Tryz.f11
theorem x11:IX 11 X11:=by refine xi ?_ Tryz.func11 (by kernel_rfl); exact⟨.inl y14,.inl x35,.inl x36,.inl gv37,.inl x38,trivial⟩
theorem e11:X11 [Bd]=some V11:=by kernel_rfl
noncomputable def Y11:=cst [Bd] V11
theorem y11:ZB Tryz.prog G 11 Y11:=Zed x11 e11
noncomputable def X171:RF:=xf [] [] false Tryz.f171
theorem x171:IX 171 X171:=by refine xi ?_ Tryz.func171 (by kernel_rfl); exact trivial
noncomputable def X172:RF:=xf [(171,X171)] [(3,⟨[1,3,7,9,10],[3],[]⟩),(1000008,⟨[1,3,7,9,10],[3],[]⟩)] false Tryz.f172
theorem x172:IX 172 X172:=by refine xi ?_ Tryz.func172 (by kernel_rfl); exact⟨.inl x171,trivial⟩
noncomputable def X120:RF:=xf [(157,X157),(171,X171),(172,X172)] [(1000010,⟨[1,2,3,9],[3],[]⟩),(6,⟨[1,2,3,9],[3],[]⟩)] false Tryz.f120
theorem x120:IX 120 X120:=by refine xi ?_ Tryz.func120 (by kernel_rfl); exact⟨.inl x157,.inl x171,.inl x172,trivial⟩
noncomputable def X121:RF:=xf [(157,X157),(172,X172)] [] false Tryz.f121
theorem x121:IX 121 X121:=by refine xi ?_ Tryz.func121 (by kernel_rfl); exact⟨.inl x157,.inl x172,trivial⟩
noncomputable def X84:RF:=xf [(120,X120),(121,X121)] [(9,⟨[1,6,7,8,9,48,49],[6,46],[]⟩)] false Tryz.f84
theorem x84:IX 84 X84:=by refine xi ?_ Tryz.func84 (by kernel_rfl); exact⟨.inl x120,.inl x121,trivial⟩
noncomputable def X122_13:RF:=xf [] [(4,⟨[0,3],[99000000],[]⟩),(9,⟨[0,3,4,5],[99000000],[]⟩),(1000010,⟨[0,3,4,5],[99000000],[]⟩)] true Tryz.f122
theorem x122_13:IX 122 X122_13:=by refine xi ?_ Tryz.func122 (by kernel_rfl); exact trivial
noncomputable def X85:RF:=ZO tt (Av.tab [(71,X71),(122,X122_13)] (fun d=>if d=32 then[[1]] else[])) G (fun i=>⟨[],[],[]⟩) false 100000 Tryz.f85
theorem x85:ZB Tryz.prog G 85 X85:=by
  refine ZX mixed htt ?_ Tryz.func85 (by kernel_rfl);exact Av.tab_ok ⟨.inl x71,.inl x122_13,trivial⟩
noncomputable def X47:RF:=xf [(84,X84),(85,X85)] [(9,⟨[12,15,39,40,41],[],[]⟩),(1000013,⟨[12,15,17,39,40,41],[],[]⟩),(11,⟨[12,15,17,39,40,41],[],[]⟩)] false Tryz.f47
theorem x47:IX 47 X47:=by refine xi ?_ Tryz.func47 (by kernel_rfl); exact⟨.inl x84,.inl x85,trivial⟩
noncomputable def X18:RF:=xf [(36,X36),(47,X47)] [(3,⟨[3,4,8,11,12,13],[3,4,23],[(8,none,23,1)]⟩),(1000007,⟨[3,4,8,11,12,13],[3,4,23],[]⟩)] false Tryz.f18
theorem x18:IX 18 X18:=by refine xi ?_ Tryz.func18 (by kernel_rfl); exact⟨.inl x36,.inl x47,trivial⟩
theorem e18:X18 [Fd,V22.1,Id]=some V18:=by kernel_rfl
noncomputable def Y18:=cst [Fd,V22.1,Id] V18
theorem y18:ZB Tryz.prog G 18 Y18:=Zed x18 e18
noncomputable def X24:RF:=xf [] [] true Tryz.f24
theorem x24:IX 24 X24:=by refine xi ?_ Tryz.func24 (by kernel_rfl); exact trivial
noncomputable def X96:RF:=xf [] [(3,⟨[0,5,10,11],[8],[]⟩)] true Tryz.f96
theorem x96:IX 96 X96:=by refine xi ?_ Tryz.func96 (by kernel_rfl); exact trivial
noncomputable def X53:RF:=xf [(82,X82),(96,X96)] [] true Tryz.f53
theorem x53:IX 53 X53:=by refine xi ?_ Tryz.func53 (by kernel_rfl); exact⟨.inl x82,.inl x96,trivial⟩
noncomputable def X54:RF:=xf [(82,X82)] [] true Tryz.f54
theorem x54:IX 54 X54:=by refine xi ?_ Tryz.func54 (by kernel_rfl); exact⟨.inl x82,trivial⟩
noncomputable def X23:RF:=xf [(53,X53),(54,X54)] [] true Tryz.f23
theorem x23:IX 23 X23:=by refine xi ?_ Tryz.func23 (by kernel_rfl); exact⟨.inl x53,.inl x54,trivial⟩
noncomputable def X61:RF:=xf [(82,X82),(96,X96)] [] true Tryz.f61
theorem x61:IX 61 X61:=by refine xi ?_ Tryz.func61 (by kernel_rfl); exact⟨.inl x82,.inl x96,trivial⟩
noncomputable def X60:RF:=xf [(61,X61),(82,X82)] [] true Tryz.f60
theorem x60:IX 60 X60:=by refine xi ?_ Tryz.func60 (by kernel_rfl); exact⟨.inl x61,.inl x82,trivial⟩
noncomputable def X211:RF:=xf [(82,X82),(96,X96)] [] true Tryz.f211
theorem x211:IX 211 X211:=by refine xi ?_ Tryz.func211 (by kernel_rfl); exact⟨.inl x82,.inl x96,trivial⟩
noncomputable def X166:RF:=xf [(60,X60),(211,X211)] [] true Tryz.f166
theorem x166:IX 166 X166:=by refine xi ?_ Tryz.func166 (by kernel_rfl); exact⟨.inl x60,.inl x211,trivial⟩
noncomputable def X114:RF:=xf [(23,X23),(53,X53),(60,X60),(61,X61),(166,X166)] [(4,⟨[1,2,5,24,25,26],[2,900005],[(5,none,900005,0),(5,none,900005,1)]⟩),(10,⟨[1,2,5,46,47,48],[2,44],[]⟩),(1000026,⟨[5],[900005],[]⟩),(16,⟨[1,5,62,63,64],[900005],[(5,none,900005,0),(5,none,900005,1)]⟩),(21,⟨[1,5,62,63,64,77,78,79],[900005],[(5,none,900005,0),(5,none,900005,1)]⟩)] true Tryz.f114
theorem x114:IX 114 X114:=by refine xi ?_ Tryz.func114 (by kernel_rfl); exact⟨.inl x23,.inl x53,.inl x60,.inl x61,.inl x166,trivial⟩
noncomputable def X72:RF:=xf [(114,X114)] [(4,⟨[1,20,21,22],[1],[]⟩),(10,⟨[1,37,38,39],[1],[]⟩),(15,⟨[1,37,38,39,48,49,50],[1],[]⟩)] false Tryz.f72
theorem x72:IX 72 X72:=by refine xi ?_ Tryz.func72 (by kernel_rfl); exact⟨.inl x114,trivial⟩
noncomputable def X176:RF:=xf [(51,GV51),(72,X72),(114,X114)] [] false Tryz.f176
theorem x176:IX 176 X176:=by refine xi ?_ Tryz.func176 (by kernel_rfl); exact⟨.inl gv51,.inl x72,.inl x114,trivial⟩
noncomputable def X125:RF:=xf [(176,X176)] [(5,⟨[2,3,4,8,9,10,11],[3,4,23,75],[(8,none,75,4)]⟩),(9,⟨[2,3,4,8,9,10,11,12,13],[3,4,23,75],[]⟩)] true Tryz.f125
theorem x125:IX 125 X125:=by refine xi ?_ Tryz.func125 (by kernel_rfl); exact⟨.inl x176,trivial⟩
noncomputable def X177:RF:=xf [] [] false Tryz.f177
theorem x177:IX 177 X177:=by refine xi ?_ Tryz.func177 (by kernel_rfl); exact trivial
noncomputable def X126:RF:=xf [(177,X177)] [] true Tryz.f126
theorem x126:IX 126 X126:=by refine xi ?_ Tryz.func126 (by kernel_rfl); exact⟨.inl x177,trivial⟩
noncomputable def X192:RF:=xf [] [] false Tryz.f192
theorem x192:IX 192 X192:=by refine xi ?_ Tryz.func192 (by kernel_rfl); exact trivial
noncomputable def X145:RF:=xf [(188,GV188),(189,GV189),(192,X192)] [(6,⟨[1,59,60,61],[1],[]⟩)] false Tryz.f145
theorem x145:IX 145 X145:=by refine xi ?_ Tryz.func145 (by kernel_rfl); exact⟨.inl gv188,.inl gv189,.inl x192,trivial⟩
noncomputable def X127:RF:=xf [(145,X145)] [(1000008,⟨[5],[],[]⟩),(5,⟨[5,6],[],[]⟩)] false Tryz.f127
theorem x127:IX 127 X127:=by refine xi ?_ Tryz.func127 (by kernel_rfl); exact⟨.inl x145,trivial⟩
noncomputable def X139:RF:=xf [(145,X145)] [] false Tryz.f139
theorem x139:IX 139 X139:=by refine xi ?_ Tryz.func139 (by kernel_rfl); exact⟨.inl x145,trivial⟩
noncomputable def X140:RF:=xf [(188,GV188),(189,GV189),(190,GV190)] [] false Tryz.f140
theorem x140:IX 140 X140:=by refine xi ?_ Tryz.func140 (by kernel_rfl); exact⟨.inl gv188,.inl gv189,.inl gv190,trivial⟩
noncomputable def X141:RF:=xf [] [(3,⟨[3,7,8,9],[37],[(3,none,37,1)]⟩),(1000008,⟨[3,5,6,7,8,9],[37],[]⟩),(6,⟨[3,5,6,7,8,9],[37],[]⟩)] false Tryz.f141
theorem x141:IX 141 X141:=by refine xi ?_ Tryz.func141 (by kernel_rfl); exact trivial
noncomputable def X128:RF:=xf [(22,GV22),(139,X139),(140,X140),(141,X141)] [(4,⟨[8,9,11],[8,11],[]⟩)] false Tryz.f128
theorem x128:IX 128 X128:=by refine xi ?_ Tryz.func128 (by kernel_rfl); exact⟨.inl gv22,.inl x139,.inl x140,.inl x141,trivial⟩
noncomputable def X178:RF:=xf [(51,GV51),(72,X72),(114,X114)] [] false Tryz.f178
theorem x178:IX 178 X178:=by refine xi ?_ Tryz.func178 (by kernel_rfl); exact⟨.inl gv51,.inl x72,.inl x114,trivial⟩
noncomputable def X233:RF:=xf [(45,X45),(95,GV95)] [] false Tryz.f233
theorem x233:IX 233 X233:=by refine xi ?_ Tryz.func233 (by kernel_rfl); exact⟨.inl x45,.inl gv95,trivial⟩
noncomputable def X213:RF:=xf [(233,X233)] [(2,⟨[0,3],[7],[]⟩),(5,⟨[0,3,4,5],[7,900004],[(4,none,900004,32)]⟩),(1000006,⟨[0,3,4,5],[7,900004],[]⟩)] true Tryz.f213
theorem x213:IX 213 X213:=by refine xi ?_ Tryz.func213 (by kernel_rfl); exact⟨.inl x233,trivial⟩
noncomputable def X179:RF:=xf [(213,X213)] [] false Tryz.f179
theorem x179:IX 179 X179:=by refine xi ?_ Tryz.func179 (by kernel_rfl); exact⟨.inl x213,trivial⟩
noncomputable def X129:RF:=xf [(178,X178),(179,X179)] [(3,⟨[2,3,6,7,8],[2,16],[(3,none,16,32)]⟩)] false Tryz.f129
theorem x129:IX 129 X129:=by refine xi ?_ Tryz.func129 (by kernel_rfl); exact⟨.inl x178,.inl x179,trivial⟩
noncomputable def X130:RF:=xf [] [] false Tryz.f130
theorem x130:IX 130 X130:=by refine xi ?_ Tryz.func130 (by kernel_rfl); exact trivial
noncomputable def X88:RF:=xf [(24,X24),(125,X125),(126,X126),(127,X127),(128,X128),(129,X129),(130,X130)] [] true Tryz.f88
theorem x88:IX 88 X88:=by refine xi ?_ Tryz.func88 (by kernel_rfl); exact⟨.inl x24,.inl x125,.inl x126,.inl x127,.inl x128,.inl x129,.inl x130,trivial⟩
theorem e88:X88 [Pp,Ll,Cc,s0]=some V88:=by kernel_rfl
noncomputable def Y88:=cst [Pp,Ll,Cc,s0] V88
theorem y88:ZB Tryz.prog G 88 Y88:=Zed x88 e88
noncomputable def X214:RF:=xf [] [(2,⟨[2,3,6],[2,3],[]⟩)] false Tryz.f214
theorem x214:IX 214 X214:=by refine xi ?_ Tryz.func214 (by kernel_rfl); exact trivial
noncomputable def X180:RF:=xf [(214,X214)] [(5,⟨[1,3,21,22,23],[1],[]⟩)] false Tryz.f180
theorem x180:IX 180 X180:=by refine xi ?_ Tryz.func180 (by kernel_rfl); exact⟨.inl x214,trivial⟩
noncomputable def X52:RF:=xf [(53,X53),(54,X54)] [(4,⟨[3,22,23,24],[22,900003],[(3,none,900003,0),(3,none,900003,1)]⟩)] true Tryz.f52
theorem x52:IX 52 X52:=by refine xi ?_ Tryz.func52 (by kernel_rfl); exact⟨.inl x53,.inl x54,trivial⟩
noncomputable def X115:RF:=xf [(72,X72),(114,X114)] [] false Tryz.f115
theorem x115:IX 115 X115:=by refine xi ?_ Tryz.func115 (by kernel_rfl); exact⟨.inl x72,.inl x114,trivial⟩
noncomputable def X73:RF:=xf [(52,X52),(61,X61),(115,X115)] [(3,⟨[3,17,18,19],[15],[]⟩)] true Tryz.f73
theorem x73:IX 73 X73:=by refine xi ?_ Tryz.func73 (by kernel_rfl); exact⟨.inl x52,.inl x61,.inl x115,trivial⟩
noncomputable def X39:RF:=xf [(72,X72),(73,X73)] [(4,⟨[1,10,11,12],[1],[]⟩)] false Tryz.f39
theorem x39:IX 39 X39:=by refine xi ?_ Tryz.func39 (by kernel_rfl); exact⟨.inl x72,.inl x73,trivial⟩
noncomputable def X83:RF:=xf [] [] false Tryz.f83
theorem x83:IX 83 X83:=by refine xi ?_ Tryz.func83 (by kernel_rfl); exact trivial
noncomputable def X46:RF:=xf [(83,X83)] [] false Tryz.f46
theorem x46:IX 46 X46:=by refine xi ?_ Tryz.func46 (by kernel_rfl); exact⟨.inl x83,trivial⟩
noncomputable def X215:RF:=xf [(46,X46),(72,X72),(83,X83)] [(7,⟨[1,3,24,25,26],[1],[]⟩),(16,⟨[1,42,43],[1],[]⟩),(19,⟨[1,6,7,42,43],[1],[]⟩),(25,⟨[1,66,67,68],[1],[]⟩)] false Tryz.f215
theorem x215:IX 215 X215:=by refine xi ?_ Tryz.func215 (by kernel_rfl); exact⟨.inl x46,.inl x72,.inl x83,trivial⟩
noncomputable def X216:RF:=xf [] [(2,⟨[0,3,7,8],[3],[]⟩)] false Tryz.f216
theorem x216:IX 216 X216:=by refine xi ?_ Tryz.func216 (by kernel_rfl); exact trivial
noncomputable def X217:RF:=xf [(216,X216)] [(2,⟨[1,10,11,12],[],[]⟩),(5,⟨[1,5,10,11,12,18,19,20],[],[]⟩)] false Tryz.f217
theorem x217:IX 217 X217:=by refine xi ?_ Tryz.func217 (by kernel_rfl); exact⟨.inl x216,trivial⟩
noncomputable def X218:RF:=xf [] [(3,⟨[3,11,12,13],[39],[(3,none,39,33)]⟩),(6,⟨[3,11,12,13,18,19,20],[39],[]⟩),(9,⟨[3,7,11,12,13,18,19,20,24,25,26],[7,39],[]⟩)] false Tryz.f218
theorem x218:IX 218 X218:=by refine xi ?_ Tryz.func218 (by kernel_rfl); exact trivial
noncomputable def X181:RF:=xf [(39,X39),(46,X46),(129,X129),(176,X176),(215,X215),(216,X216),(217,X217),(218,X218)] [(6,⟨[1,20,21,22],[1],[]⟩),(13,⟨[1,5,34,35,36],[1],[]⟩),(20,⟨[1,5,47,48,49],[1,62],[(5,none,62,32)]⟩)] false Tryz.f181
theorem x181:IX 181 X181:=by refine xi ?_ Tryz.func181 (by kernel_rfl); exact⟨.inl x39,.inl x46,.inl x129,.inl x176,.inl x215,.inl x216,.inl x217,.inl x218,trivial⟩
noncomputable def X182:RF:=xf [] [(4,⟨[13,14,15],[],[]⟩)] false Tryz.f182
theorem x182:IX 182 X182:=by refine xi ?_ Tryz.func182 (by kernel_rfl); exact trivial
noncomputable def X131:RF:=xf [(145,X145),(180,X180),(181,X181),(182,X182)] [] false Tryz.f131
theorem x131:IX 131 X131:=by refine xi ?_ Tryz.func131 (by kernel_rfl); exact⟨.inl x145,.inl x180,.inl x181,.inl x182,trivial⟩
noncomputable def X135:RF:=xf [] [(2,⟨[0,3,7,8],[3],[]⟩)] false Tryz.f135
theorem x135:IX 135 X135:=by refine xi ?_ Tryz.func135 (by kernel_rfl); exact trivial
noncomputable def X183:RF:=xf [(45,X45)] [] true Tryz.f183
theorem x183:IX 183 X183:=by refine xi ?_ Tryz.func183 (by kernel_rfl); exact⟨.inl x45,trivial⟩
noncomputable def X132:RF:=xf [(135,X135),(183,X183)] [(3,⟨[1,3,4,10,17,18,19],[4,36],[(10,none,36,37)]⟩),(11,⟨[3,4,10,38,39,40],[4,36],[]⟩)] false Tryz.f132
theorem x132:IX 132 X132:=by refine xi ?_ Tryz.func132 (by kernel_rfl); exact⟨.inl x135,.inl x183,trivial⟩
noncomputable def X134:RF:=xf [] [] true Tryz.f134
theorem x134:IX 134 X134:=by refine xi ?_ Tryz.func134 (by kernel_rfl); exact trivial
noncomputable def X138:RF:=xf [(46,X46),(176,X176)] [(4,⟨[1,2,5,6,12,13,14],[2,6,30],[(5,none,30,37)]⟩)] true Tryz.f138
theorem x138:IX 138 X138:=by refine xi ?_ Tryz.func138 (by kernel_rfl); exact⟨.inl x46,.inl x176,trivial⟩
noncomputable def X186:RF:=xf [(183,X183),(214,X214)] [(3,⟨[0,3,5,8,9],[3,27],[(5,none,27,37)]⟩),(1000007,⟨[0,3,5,8,9],[3,27],[]⟩)] false Tryz.f186
theorem x186:IX 186 X186:=by refine xi ?_ Tryz.func186 (by kernel_rfl); exact⟨.inl x183,.inl x214,trivial⟩
noncomputable def X136:RF:=xf [(135,X135),(138,X138),(186,X186)] [(2,⟨[0,2,4,14,15,16],[4,14],[]⟩),(8,⟨[0,28,29,30],[28],[]⟩)] false Tryz.f136
theorem x136:IX 136 X136:=by refine xi ?_ Tryz.func136 (by kernel_rfl); exact⟨.inl x135,.inl x138,.inl x186,trivial⟩
noncomputable def X137:RF:=xf [] [(3,⟨[3,6,7,8],[],[]⟩)] false Tryz.f137
theorem x137:IX 137 X137:=by refine xi ?_ Tryz.func137 (by kernel_rfl); exact trivial
noncomputable def X89:RF:=xf [(22,GV22),(127,X127),(131,X131),(132,X132),(134,X134),(135,X135),(136,X136),(137,X137),(138,X138)] [(7,⟨[3,5,6,7,10,11,12,46,47,48],[3,5,6,7,10,11,105],[(11,some 0,105,37)]⟩)] false Tryz.f89
theorem x89:IX 89 X89:=by refine xi ?_ Tryz.func89 (by kernel_rfl); exact⟨.inl gv22,.inl x127,.inl x131,.inl x132,.inl x134,.inl x135,.inl x136,.inl x137,.inl x138,trivial⟩
theorem e89:X89 [Pp,Ll,Bb]=some V89:=by kernel_rfl
noncomputable def Y89:=cst [Pp,Ll,Bb] V89
theorem y89:ZB Tryz.prog G 89 Y89:=Zed x89 e89
noncomputable def X142:RF:=xf [(145,X145)] [] false Tryz.f142
theorem x142:IX 142 X142:=by refine xi ?_ Tryz.func142 (by kernel_rfl); exact⟨.inl x145,trivial⟩
noncomputable def X91:RF:=xf [(22,GV22),(142,X142)] [(1000008,⟨[4,5,6,8],[4,5,6,8],[]⟩),(1000011,⟨[6,8],[6,8,39],[]⟩)] false Tryz.f91
theorem x91:IX 91 X91:=by refine xi ?_ Tryz.func91 (by kernel_rfl); exact⟨.inl gv22,.inl x142,trivial⟩
theorem e91:X91 [Pp,Cc,Hh]=some V91:=by kernel_rfl
noncomputable def Y91:=cst [Pp,Cc,Hh] V91
theorem y91:ZB Tryz.prog G 91 Y91:=Zed x91 e91
noncomputable def X90:RF:=xf [(91,Y91),(139,X139),(140,X140),(141,X141)] [(20,⟨[9,74,75,76],[9],[]⟩)] false Tryz.f90
theorem x90:IX 90 X90:=by refine xi ?_ Tryz.func90 (by kernel_rfl); exact⟨.inl y91,.inl x139,.inl x140,.inl x141,trivial⟩
theorem e90:X90 [Pp,Cc,Hh,.one (.v (.int .u32 1073741824))]=some V90:=by kernel_rfl
noncomputable def Y90:=cst [Pp,Cc,Hh,.one (.v (.int .u32 1073741824))] V90
theorem y90:ZB Tryz.prog G 90 Y90:=Zed x90 e90
noncomputable def X49_14:RF:=xf [(88,Y88),(89,Y89),(90,Y90),(91,Y91)] [(4,⟨[2,4,29,30,31],[2,4,15,18,23,26],[]⟩)] true Tryz.f49
theorem x49_14:IX 49 X49_14:=by refine xi ?_ Tryz.func49 (by kernel_rfl); exact⟨.inl y88,.inl y89,.inl y90,.inl y91,trivial⟩
theorem e49_14:X49_14 [V50.1,s1]=some V49:=by kernel_rfl
noncomputable def Y49_14:=cst [V50.1,s1] V49
theorem y49_14:ZB Tryz.prog G 49 Y49_14:=Zed x49_14 e49_14
noncomputable def X144:RF:=xf [] [] false Tryz.f144
theorem x144:IX 144 X144:=by refine xi ?_ Tryz.func144 (by kernel_rfl); exact trivial
noncomputable def X92:RF:=xf [(143,GV143),(144,X144)] [] false Tryz.f92
theorem x92:IX 92 X92:=by refine xi ?_ Tryz.func92 (by kernel_rfl); exact⟨.inl gv143,.inl x144,trivial⟩
noncomputable def X93:RF:=xf [(22,GV22),(145,X145)] [] false Tryz.f93
theorem x93:IX 93 X93:=by refine xi ?_ Tryz.func93 (by kernel_rfl); exact⟨.inl gv22,.inl x145,trivial⟩
noncomputable def X94:RF:=xf [(22,GV22),(145,X145)] [] false Tryz.f94
theorem x94:IX 94 X94:=by refine xi ?_ Tryz.func94 (by kernel_rfl); exact⟨.inl gv22,.inl x145,trivial⟩
noncomputable def X50:RF:=xf [(92,X92),(93,X93),(94,X94)] [] true Tryz.f50
theorem x50:IX 50 X50:=by refine xi ?_ Tryz.func50 (by kernel_rfl); exact⟨.inl x92,.inl x93,.inl x94,trivial⟩
theorem e50:X50 [s0]=some V50:=by kernel_rfl
noncomputable def Y50:=cst [s0] V50
theorem y50:ZB Tryz.prog G 50 Y50:=Zed x50 e50
noncomputable def X20:RF:=ZO tt (Av.tab [(49,Y49_14),(50,Y50)] (fun d=>if d=8 then[[0,0,0,0,0,0,0,0,0,0,0,0,0,0,0,0,0,0,0,0,0,0,0,0,0,0,0,0,0,0,0,0,0,0,0,0,0,0,0,0,0,0,0,0,0,0,0,0,0,0,0,0,0,0,0,0,0,0,0,0,0,0,0,0,0,0,0,0,0,0,0,0,0,0,0,0,0,0,0,0,0,34,36]] else[])) G (fun i=>⟨[],[],[]⟩) true 100000 Tryz.f20
theorem x20:ZB Tryz.prog G 20 X20:=by
  refine ZX mixed htt ?_ Tryz.func20 (by kernel_rfl);exact Av.tab_ok ⟨.inl y49_14,.inl y50,trivial⟩
theorem e20:X20 [s0,s1]=some V20:=by kernel_rfl
noncomputable def Y20:=cst [s0,s1] V20
theorem y20:ZB Tryz.prog G 20 Y20:=Zed x20 e20
noncomputable def X9:RF:=xf [(11,Y11),(14,Y14),(18,Y18),(20,Y20),(22,GV22),(24,X24)] [] false Tryz.f9
theorem x9:IX 9 X9:=by refine xi ?_ Tryz.func9 (by kernel_rfl); exact⟨.inl y11,.inl y14,.inl y18,.inl y20,.inl gv22,.inl x24,trivial⟩
theorem sane_val:X9 []=some (.one (.v (.bool true)),[]):=by kernel_rfl
theorem v9:ZB Tryz.prog G 9 K9.G:=Zk5 x9 fun ps r h=>by
  obtain⟨x,rfl,h2⟩:=ZdY h;obtain⟨y,hy,rfl⟩:=Option.map_eq_some_iff.1 h2;obtain rfl:true=y:=Option.some.inj hy;exact sane_val
theorem v6:ZB Tryz.prog G 6 G6:=mkI (T:=Av.tab [(9,K9.G),(11,K11.G),(18,K18.G),(20,K20.G),(21,K21.G),(22,K22.G),(24,K24.G),(25,K25.G)]) (enc:=E6) (R:=R6) (g:=fun x:Int×(List Int)×(List Int)=>Y6 x.1 x.2.1 x.2.2) mixed htt (Av.tab_ok ⟨.inl v9,.inl v11,.inl v18,.inl v20,.inl v21,.inl v22,.inl v24,.inl v25,trivial⟩) Tryz.func6 body6 (by kernel_rfl) fun x y hy=>w6 rfl rfl rfl rfl rfl rfl rfl rfl rfl x.1 x.2.1 x.2.2 y hy
end Go.Proofs.YthpkpciceodioaaGreatDoor
