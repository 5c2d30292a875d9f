import Derived.Test.YtcfpmbefhfbdjaaGreatDoorLfW1
import Derived.Test.YtcfpmbefhfbdjaaGreatDoorLfW2
import Derived.Test.YtcfpmbefhfbdjaaGreatDoorLfW3
import Derived.Test.YtcfpmbefhfbdjaaGreatDoorLfW4
import Derived.Test.YtcfpmbefhfbdjaaGreatDoorLfW5
import Derived.Test.YtcfpmbefhfbdjaaGreatDoorLfW6
import Derived.Test.YtcfpmbefhfbdjaaGreatDoorLfW7
import Derived.Test.YtcfpmbefhfbdjaaGreatDoorLfW8
import Derived.Test.YtcfpmbefhfbdjaaGreatDoorLfW9
import Derived.Test.YtcfpmbefhfbdjaaGreatDoorLfW10
import Derived.Test.YtcfpmbefhfbdjaaGreatDoorLfW11
import Derived.Test.YtcfpmbefhfbdjaaGreatDoorLfW12
import Derived.Test.YtcfpmbefhfbdjaaGreatDoorLfW13
import Derived.Test.YtcfpmbefhfbdjaaGreatDoorLfW14
import Derived.Test.YtcfpmbefhfbdjaaGreatDoorLfW15
import Derived.Test.YtcfpmbefhfbdjaaGreatDoorLfW16
import Derived.Test.YtcfpmbefhfbdjaaGreatDoorLfW17
import Derived.Test.YtcfpmbefhfbdjaaGreatDoorLfW18
import Derived.Test.YtcfpmbefhfbdjaaGreatDoorLfW19
import Derived.Test.YtcfpmbefhfbdjaaGreatDoorLfW20
import Derived.Test.YtcfpmbefhfbdjaaGreatDoorGr
import Derived.Test.YtcfpmbefhfbdjaaGreatDoorLcG3
import Derived.Test.YtcfpmbefhfbdjaaGreatDoorLcG3
namespace Go.Proofs.YtcfpmbefhfbdjaaGreatDoor
open Go.RowKit
open Go.Av
open Go.Lc
set_option maxRecDepth 100000
set_option linter.unusedSimpArgs false
set_option linter.unusedVariables false
abbrev Im {α β:Type}(f:Nat) (K:Con α β):Prop:=Yb Tryz.prog G f K.G
theorem V {α β:Type}{K:Con α β}{l:List (Nat×(List PV→Option (PV×List (List Cell))))}{own:Nat→List (List Nat)}{f:FuncId}{fn:Func}(w:Walk tt G l own fn K) (hf:Tryz.prog.funcs[f]? = some fn) (hT:ZnQ Tryz.prog G l:=by exact trivial) (hb:fn.body.isSome=true:=by kernel_rfl) (hn:(!(fn.name == "runtime.NumGoroutine") && distinctF l)=true:=by kernel_rfl):Yb Tryz.prog G f K.G:=mkU mixed htt w hT hf hb hn
theorem v65:Im 65 K65:=V w65 Tryz.func65
theorem v66:Im 66 K66:=V w66 Tryz.func66
theorem v139:Im 139 K139:=V w139 Tryz.func139
theorem v106:Im 106 K106:=V w106 Tryz.func106 ⟨.inl v139,trivial⟩
theorem v105:Im 105 K105:=V w105 Tryz.func105 ⟨.inl v106,trivial⟩
theorem v67:Im 67 K67:=V w67 Tryz.func67 ⟨.inl v105,.inl v106,trivial⟩
theorem v41:Im 41 K41:=V w41 Tryz.func41 ⟨.inl v65,.inl v66,.inl v67,trivial⟩
theorem v24:Im 24 K24:=V w24 Tryz.func24 ⟨.inl v41,trivial⟩
theorem v25:Yb Tryz.prog G 25 G25:=mkI (T:=Av.tab [(1000042,G42)]) (enc:=E25) (R:=R25) (g:=fun x:(List (List Int))=>ZR x) mixed htt (Av.tab_ok ⟨.inl v42,trivial⟩) Tryz.func25 body25 (by kernel_rfl) fun x y hy=>w25 rfl rfl rfl x y hy
theorem v8:Im 8 K8:=V w8 Tryz.func8 ⟨.inl v24,.inl v25,trivial⟩
theorem v21:Im 21 K21:=V w21 Tryz.func21
theorem v23:Im 23 K23:=V w23 Tryz.func23
theorem v26:Im 26 K26:=V w26 Tryz.func26
theorem v27:Im 27 K27:=V w27 Tryz.func27 ⟨.inl v8,trivial⟩
theorem v11:Im 11 K11:=V w11 Tryz.func11 ⟨.inl v21,.inl v23,.inl v26,.inl v27,trivial⟩
theorem v29:Im 29 K29:=V w29 Tryz.func29
theorem v16:Im 16 K16:=V w16 Tryz.func16 ⟨.inl v29,trivial⟩
theorem v5:Im 5 K5:=V w5 Tryz.func5 ⟨.inl v8,.inl v11,.inl v16,trivial⟩
theorem v61:Im 61 K61:=V w61 Tryz.func61
theorem v104:Im 104 K104:=V w104 Tryz.func104
theorem v62:Im 62 K62:=V w62 Tryz.func62 ⟨.inl v61,.inl v104,trivial⟩
theorem v63:Im 63 K63:=V w63 Tryz.func63 ⟨.inl v61,.inl v104,trivial⟩
theorem v64:Im 64 K64:=V w64 Tryz.func64 ⟨.inl v61,.inl v104,trivial⟩
theorem v40:Im 40 K40:=V w40 Tryz.func40 ⟨.inl v61,.inl v62,.inl v63,.inl v64,trivial⟩
theorem v39:Im 39 K39:=V w39 Tryz.func39 ⟨.inl v40,.inl v61,trivial⟩
theorem v22:Im 22 K22:=V w22 Tryz.func22 ⟨.inl v39,.inl v40,trivial⟩
theorem v9:Im 9 K9:=V w9 Tryz.func9 ⟨.inl v22,.inl v24,trivial⟩
theorem v71:Im 71 K71:=V w71 Tryz.func71
theorem v140:Im 140 K140:=V w140 Tryz.func140
theorem v107:Im 107 K107:=V w107 Tryz.func107 ⟨.inl v71,.inl v140,trivial⟩
theorem v99:Im 99 K99:=V w99 Tryz.func99
theorem v100:Im 100 K100:=V w100 Tryz.func100
theorem v138:Im 138 K138:=V w138 Tryz.func138 ⟨.inl v139,trivial⟩
theorem v136:Im 136 K136:=V w136 Tryz.func136 ⟨.inl v138,trivial⟩
theorem v137:Im 137 K137:=V w137 Tryz.func137
theorem v101:Yb Tryz.prog G 101 G101:=mkI (T:=Av.tab [(136,K136.G),(137,K137.G),(138,K138.G)]) (enc:=Zgy) (R:=ZiC) (g:=fun x:(Arr 8)×(Arr 64)=>XF x.1 x.2) mixed htt (Av.tab_ok ⟨.inl v136,.inl v137,.inl v138,trivial⟩) Tryz.func101 body101 (by kernel_rfl) fun x y hy=>w101 rfl rfl rfl rfl x.1 x.2 y hy
theorem v58:Yb Tryz.prog G 58 G58:=mkI (T:=Av.tab [(99,K99.G),(100,K100.G),(101,G101)]) (enc:=E58) (R:=R58) (g:=fun x:(List Int)=>Xa x) mixed htt (Av.tab_ok ⟨.inl v99,.inl v100,.inl v101,trivial⟩) Tryz.func58 body58 (by kernel_rfl) fun x y hy=>w58 rfl rfl rfl rfl x y hy
theorem v37:Im 37 K37:=V w37 Tryz.func37 ⟨.inl v58,trivial⟩
theorem v102:Im 102 K102:=V w102 Tryz.func102
theorem v103:Im 103 K103:=V w103 Tryz.func103
theorem v59:Im 59 K59:=V w59 Tryz.func59 ⟨.inl v102,.inl v103,trivial⟩
theorem v172:Im 172 K172:=V w172 Tryz.func172 ⟨.inl v102,.inl v103,trivial⟩
theorem v60:Im 60 K60:=V w60 Tryz.func60 ⟨.inl v102,trivial⟩
theorem v173:Im 173 K173:=V w173 Tryz.func173 ⟨.inl v59,.inl v60,trivial⟩
theorem v175:Im 175 K175:=V w175 Tryz.func175 ⟨.inl v102,.inl v172,trivial⟩
theorem v189:Im 189 K189:=V w189 Tryz.func189 ⟨.inl v102,.inl v103,trivial⟩
theorem v174:Im 174 K174:=V w174 Tryz.func174 ⟨.inl v175,.inl v189,trivial⟩
theorem v142:Im 142 K142:=V w142 Tryz.func142 ⟨.inl v59,.inl v172,.inl v173,.inl v174,.inl v175,trivial⟩
theorem v141:Im 141 K141:=V w141 Tryz.func141 ⟨.inl v142,trivial⟩
theorem v108:Im 108 K108:=V w108 Tryz.func108 ⟨.inl v37,.inl v141,.inl v142,trivial⟩
theorem v68:Yb Tryz.prog G 68 G68:=mkI (T:=Av.tab [(107,K107.G),(108,K108.G)]) (enc:=E68) (R:=R68) (g:=fun x:Tapi_Params×Tapi_Ledger×Int=>YJ x.1 x.2.1 x.2.2) mixed htt (Av.tab_ok ⟨.inl v107,.inl v108,trivial⟩) Tryz.func68 body68 (by kernel_rfl) fun x y hy=>w68 rfl rfl rfl x.1 x.2.1 x.2.2 y hy
theorem v109:Im 109 K109:=V w109 Tryz.func109
theorem v69:Im 69 K69:=V w69 Tryz.func69 ⟨.inl v109,trivial⟩
theorem v124:Im 124 K124:=V w124 Tryz.func124
theorem v87:Im 87 K87:=V w87 Tryz.func87 ⟨.inl v124,trivial⟩
theorem v125:Im 125 K125:=V w125 Tryz.func125
theorem v155:Im 155 K155:=V w155 Tryz.func155
theorem v158:Im 158 K158:=V w158 Tryz.func158 ⟨.inl v124,trivial⟩
theorem v182:Im 182 K182:=V w182 Tryz.func182 ⟨.inr v181,trivial⟩
theorem v159:Im 159 K159:=V w159 Tryz.func159 ⟨.inl v182,trivial⟩
theorem v121:Im 121 K121:=V w121 Tryz.func121 ⟨.inl v87,.inl v125,.inl v155,.inl v158,.inl v159,trivial⟩
theorem v122:Im 122 K122:=V w122 Tryz.func122
theorem v89:Im 89 K89:=V w89 Tryz.func89 ⟨.inl v121,.inl v122,.inl v125,trivial⟩
theorem v70:Im 70 K70:=V w70 Tryz.func70 ⟨.inl v89,trivial⟩
theorem v38:Im 38 K38:=V w38 Tryz.func38 ⟨.inl v59,.inl v60,trivial⟩
theorem v20:Im 20 K20:=V w20 Tryz.func20 ⟨.inl v37,.inl v38,trivial⟩
theorem v131:Im 131 K131:=V w131 Tryz.func131
theorem v154:Im 154 K154:=V w154 Tryz.func154 ⟨.inl v131,.inr v181,trivial⟩
theorem v183:Im 183 K183:=V w183 Tryz.func183 ⟨.inr v199,trivial⟩
theorem v156:Im 156 K156:=V w156 Tryz.func156 ⟨.inl v122,.inl v124,.inl v182,.inl v183,trivial⟩
theorem v157:Im 157 K157:=V w157 Tryz.func157 ⟨.inl v87,.inl v122,.inl v125,.inl v158,.inl v159,trivial⟩
theorem v120:Im 120 K120:=V w120 Tryz.func120 ⟨.inl v89,.inl v121,.inl v122,.inl v125,.inl v154,.inl v155,.inl v156,.inl v157,trivial⟩
theorem v83:Im 83 K83:=V w83 Tryz.func83 ⟨.inl v89,.inl v120,trivial⟩
theorem v123:Im 123 K123:=V w123 Tryz.func123
theorem v84:Im 84 K84:=V w84 Tryz.func84 ⟨.inl v121,.inl v122,.inl v123,trivial⟩
theorem v85:Im 85 K85:=V w85 Tryz.func85
theorem v72:Im 72 K72:=V w72 Tryz.func72 ⟨.inl v20,.inl v83,.inl v84,.inl v85,trivial⟩
theorem v110:Im 110 K110:=V w110 Tryz.func110 ⟨.inl v37,.inl v141,.inl v142,trivial⟩
theorem v150:Im 150 K150:=V w150 Tryz.func150 ⟨.inl v102,trivial⟩
theorem v176:Im 176 K176:=V w176 Tryz.func176 ⟨.inl v58,.inl v150,trivial⟩
theorem v143:Im 143 K143:=V w143 Tryz.func143 ⟨.inl v176,trivial⟩
theorem v111:Im 111 K111:=V w111 Tryz.func111 ⟨.inl v143,trivial⟩
theorem v73:Im 73 K73:=V w73 Tryz.func73 ⟨.inl v110,.inl v111,trivial⟩
theorem v74:Im 74 K74:=V w74 Tryz.func74
theorem v43:Im 43 K43:=V w43 Tryz.func43 ⟨.inl v68,.inl v69,.inl v70,.inl v71,.inl v72,.inl v73,.inl v74,trivial⟩
theorem v144:Yb Tryz.prog G 144 G144:=mkI (T:=Av.tab []) (enc:=Zgz) (R:=ZiD) (g:=fun x:Tapi_OutPoint×Tapi_OutPoint=>Xd x.1 x.2) mixed htt (Av.tab_ok trivial) Tryz.func144 body144 (by kernel_rfl) fun x y hy=>w144 x.1 x.2 y hy
theorem v112:Im 112 K112:=V w112 Tryz.func112 ⟨.inl v144,trivial⟩
theorem v151:Im 151 K151:=V w151 Tryz.func151
theorem v116:Im 116 K116:=V w116 Tryz.func116 ⟨.inl v151,trivial⟩
theorem v190:Im 190 K190:=V w190 Tryz.func190 ⟨.inl v141,.inl v142,trivial⟩
theorem v177:Im 177 K177:=V w177 Tryz.func177 ⟨.inl v38,.inl v172,.inl v190,trivial⟩
theorem v145:Im 145 K145:=V w145 Tryz.func145 ⟨.inl v141,.inl v177,trivial⟩
theorem v146:Im 146 K146:=V w146 Tryz.func146 ⟨.inl v116,.inl v141,.inl v151,trivial⟩
theorem v147:Im 147 K147:=V w147 Tryz.func147
theorem v148:Im 148 K148:=V w148 Tryz.func148 ⟨.inl v147,trivial⟩
theorem v149:Im 149 K149:=V w149 Tryz.func149
theorem v113:Im 113 K113:=V w113 Tryz.func113 ⟨.inl v73,.inl v108,.inl v116,.inl v145,.inl v146,.inl v147,.inl v148,.inl v149,trivial⟩
theorem v114:Yb Tryz.prog G 114 G114:=mkI (T:=Av.tab []) (enc:=ZgA) (R:=ZiE) (g:=fun x:Tapi_Tx×Int=>Zaj x.1 x.2) mixed htt (Av.tab_ok trivial) Tryz.func114 body114 (by kernel_rfl) fun x y hy=>w114 x.1 x.2 y hy
theorem v75:Im 75 K75:=V w75 Tryz.func75 ⟨.inl v89,.inl v112,.inl v113,.inl v114,trivial⟩
theorem v79:Im 79 K79:=V w79 Tryz.func79
theorem v115:Im 115 K115:=V w115 Tryz.func115 ⟨.inl v150,trivial⟩
theorem v76:Im 76 K76:=V w76 Tryz.func76 ⟨.inl v79,.inl v115,trivial⟩
theorem v117:Im 117 K117:=V w117 Tryz.func117 ⟨.inl v146,trivial⟩
theorem v178:Yb Tryz.prog G 178 G178:=mkI (T:=Av.tab [(58,G58)]) (enc:=Zhn) (R:=Zjk) (g:=fun x:ByteArray×(List Int)=>Zan x.1 x.2) mixed htt (Av.tab_ok ⟨.inl v58,trivial⟩) Tryz.func178 body178 (by kernel_rfl) fun x y hy=>w178 rfl rfl x.1 x.2 y hy
theorem v152:Im 152 K152:=V w152 Tryz.func152 ⟨.inl v58,.inl v59,.inl v60,.inl v141,.inl v173,.inl v174,.inl v178,trivial⟩
noncomputable def X180:List PV→Option (PV×List (List Cell)):=ZZ tt (Av.tab []) G (fun i=>if i=2 then⟨[5,6,7],[],[]⟩ else⟨[],[],[]⟩) false 100000 Tryz.f180
theorem x180:Yb Tryz.prog G 180 X180:=by
  refine YB mixed htt ?_ Tryz.func180 (by kernel_rfl);exact Av.tab_ok trivial
noncomputable def X102:List PV→Option (PV×List (List Cell)):=ZZ tt (Av.tab []) G (fun i=>⟨[],[],[]⟩) true 100000 Tryz.f102
theorem x102:Yb Tryz.prog G 102 X102:=by
  refine YB mixed htt ?_ Tryz.func102 (by kernel_rfl);exact Av.tab_ok trivial
noncomputable def X150:List PV→Option (PV×List (List Cell)):=ZZ tt (Av.tab [(102,X102)]) G (fun i=>if i=3 then⟨[3,6,7,8],[900003],[(3,none,900003,0),(3,none,900003,1)]⟩ else⟨[],[],[]⟩) true 100000 Tryz.f150
theorem x150:Yb Tryz.prog G 150 X150:=by
  refine YB mixed htt ?_ Tryz.func150 (by kernel_rfl);exact Av.tab_ok ⟨.inl x102,trivial⟩
noncomputable def X209:List PV→Option (PV×List (List Cell)):=ZZ tt (Av.tab []) G (fun i=>⟨[],[],[]⟩) false 100000 Tryz.f209
theorem x209:Yb Tryz.prog G 209 X209:=by
  refine YB mixed htt ?_ Tryz.func209 (by kernel_rfl);exact Av.tab_ok trivial
noncomputable def X201:List PV→Option (PV×List (List Cell)):=ZZ tt (Av.tab [(150,X150),(209,X209)]) G (fun i=>⟨[],[],[]⟩) false 100000 Tryz.f201
theorem x201:Yb Tryz.prog G 201 X201:=by
  refine YB mixed htt ?_ Tryz.func201 (by kernel_rfl);exact Av.tab_ok ⟨.inl x150,.inl x209,trivial⟩
noncomputable def X191:List PV→Option (PV×List (List Cell)):=ZZ tt (Av.tab [(201,X201)]) G (fun i=>if i=4 then⟨[0,4],[26],[(4,none,26,4)]⟩ else⟨[],[],[]⟩) false 100000 Tryz.f191
theorem x191:Yb Tryz.prog G 191 X191:=by
  refine YB mixed htt ?_ Tryz.func191 (by kernel_rfl);exact Av.tab_ok ⟨.inl x201,trivial⟩
noncomputable def X192:List PV→Option (PV×List (List Cell)):=ZZ tt (Av.tab []) G (fun i=>if i=3 then⟨[3,6,7,8],[],[(3,none,0,0)]⟩ else if i=1000016 then⟨[3,6,7,8],[],[]⟩ else⟨[],[],[]⟩) false 100000 Tryz.f192
theorem x192:Yb Tryz.prog G 192 X192:=by
  refine YB mixed htt ?_ Tryz.func192 (by kernel_rfl);exact Av.tab_ok trivial
noncomputable def X193:List PV→Option (PV×List (List Cell)):=ZZ tt (Av.tab []) G (fun i=>if i=4 then⟨[8,9,10],[],[]⟩ else⟨[],[],[]⟩) false 100000 Tryz.f193
theorem x193:Yb Tryz.prog G 193 X193:=by
  refine YB mixed htt ?_ Tryz.func193 (by kernel_rfl);exact Av.tab_ok trivial
noncomputable def X194:List PV→Option (PV×List (List Cell)):=ZZ tt (Av.tab [(150,X150)]) G (fun i=>if i=3 then⟨[3,9,10,11],[8],[]⟩ else⟨[],[],[]⟩) true 100000 Tryz.f194
theorem x194:Yb Tryz.prog G 194 X194:=by
  refine YB mixed htt ?_ Tryz.func194 (by kernel_rfl);exact Av.tab_ok ⟨.inl x150,trivial⟩
noncomputable def X195:List PV→Option (PV×List (List Cell)):=ZZ tt (Av.tab []) G (fun i=>⟨[],[],[]⟩) false 100000 Tryz.f195
theorem x195:Yb Tryz.prog G 195 X195:=by
  refine YB mixed htt ?_ Tryz.func195 (by kernel_rfl);exact Av.tab_ok trivial
noncomputable def X196:List PV→Option (PV×List (List Cell)):=ZZ tt (Av.tab []) G (fun i=>⟨[],[],[]⟩) false 100000 Tryz.f196
theorem x196:Yb Tryz.prog G 196 X196:=by
  refine YB mixed htt ?_ Tryz.func196 (by kernel_rfl);exact Av.tab_ok trivial
noncomputable def X197:List PV→Option (PV×List (List Cell)):=ZZ tt (Av.tab []) G (fun i=>⟨[],[],[]⟩) false 100000 Tryz.f197
theorem x197:Yb Tryz.prog G 197 X197:=by
  refine YB mixed htt ?_ Tryz.func197 (by kernel_rfl);exact Av.tab_ok trivial
noncomputable def X204:List PV→Option (PV×List (List Cell)):=ZZ tt (Av.tab []) G (fun i=>⟨[],[],[]⟩) false 100000 Tryz.f204
theorem x204:Yb Tryz.prog G 204 X204:=by
  refine YB mixed htt ?_ Tryz.func204 (by kernel_rfl);exact Av.tab_ok trivial
noncomputable def X202_1:List PV→Option (PV×List (List Cell)):=ZZ tt (Av.tab []) G (fun i=>⟨[],[],[]⟩) true 100000 Tryz.f202
theorem x202_1:Yb Tryz.prog G 202 X202_1:=by
  refine YB mixed htt ?_ Tryz.func202 (by kernel_rfl);exact Av.tab_ok trivial
noncomputable def X205:List PV→Option (PV×List (List Cell)):=ZZ tt (Av.tab []) G (fun i=>if i=2 then⟨[0,3],[12],[(3,none,12,1)]⟩ else⟨[],[],[]⟩) true 100000 Tryz.f205
theorem x205:Yb Tryz.prog G 205 X205:=by
  refine YB mixed htt ?_ Tryz.func205 (by kernel_rfl);exact Av.tab_ok trivial
noncomputable def X203:List PV→Option (PV×List (List Cell)):=ZZ tt (Av.tab [(205,X205)]) G (fun i=>⟨[],[],[]⟩) true 100000 Tryz.f203
theorem x203:Yb Tryz.prog G 203 X203:=by
  refine YB mixed htt ?_ Tryz.func203 (by kernel_rfl);exact Av.tab_ok ⟨.inl x205,trivial⟩
noncomputable def X213:List PV→Option (PV×List (List Cell)):=ZZ tt (Av.tab []) G (fun i=>if i=5 then⟨[0,4,24,25],[],[]⟩ else⟨[],[],[]⟩) false 100000 Tryz.f213
theorem x213:Yb Tryz.prog G 213 X213:=by
  refine YB mixed htt ?_ Tryz.func213 (by kernel_rfl);exact Av.tab_ok trivial
noncomputable def X208:List PV→Option (PV×List (List Cell)):=ZZ tt (Av.tab [(213,X213)]) G (fun i=>⟨[],[],[]⟩) false 100000 Tryz.f208
theorem x208:Yb Tryz.prog G 208 X208:=by
  refine YB mixed htt ?_ Tryz.func208 (by kernel_rfl);exact Av.tab_ok ⟨.inl x213,trivial⟩
noncomputable def X198_2:List PV→Option (PV×List (List Cell)):=ZZ tt (Av.tab [(204,X204),(150,X150),(180,X180),(202,X202_1),(203,X203),(205,X205),(208,X208)] (fun d=>if d=26 then[[1]] else if d=37 then[[1]] else if d=147 then[[1]] else[])) G (fun i=>⟨[],[],[]⟩) true 100000 Tryz.f198
theorem x198_2:Yb Tryz.prog G 198 X198_2:=by
  refine YB mixed htt ?_ Tryz.func198 (by kernel_rfl);exact Av.tab_ok ⟨.inl x204,.inl x150,.inl x180,.inl x202_1,.inl x203,.inl x205,.inl x208,trivial⟩
noncomputable def X179:List PV→Option (PV×List (List Cell)):=ZZ tt (Av.tab [(180,X180),(191,X191),(192,X192),(193,X193),(194,X194),(195,X195),(196,X196),(197,X197),(198,X198_2)] (fun d=>if d=125 then[[],[1]] else[])) G (fun i=>if i=12 then⟨[5,11,12,13,33,34,35],[5,900011],[(11,none,900011,0),(13,none,0,0)]⟩ else⟨[],[],[]⟩) false 100000 Tryz.f179
theorem x179:Yb Tryz.prog G 179 X179:=by
  refine YB mixed htt ?_ Tryz.func179 (by kernel_rfl);exact Av.tab_ok ⟨.inl x180,.inl x191,.inl x192,.inl x193,.inl x194,.inl x195,.inl x196,.inl x197,.inl x198_2,trivial⟩
noncomputable def X153:List PV→Option (PV×List (List Cell)):=ZZ tt (Av.tab [(179,X179),(180,X180)]) G (fun i=>⟨[],[],[]⟩) false 100000 Tryz.f153
theorem x153:Yb Tryz.prog G 153 X153:=by
  refine YB mixed htt ?_ Tryz.func153 (by kernel_rfl);exact Av.tab_ok ⟨.inl x179,.inl x180,trivial⟩
theorem l32:∀ {l:List Int},l.length=32→∃ x0 x1 x2 x3 x4 x5 x6 x7 x8 x9 x10 x11 x12 x13 x14 x15 x16 x17 x18 x19 x20 x21 x22 x23 x24 x25 x26 x27 x28 x29 x30 x31,l=[x0,x1,x2,x3,x4,x5,x6,x7,x8,x9,x10,x11,x12,x13,x14,x15,x16,x17,x18,x19,x20,x21,x22,x23,x24,x25,x26,x27,x28,x29,x30,x31]
  | [x0,x1,x2,x3,x4,x5,x6,x7,x8,x9,x10,x11,x12,x13,x14,x15,x16,x17,x18,x19,x20,x21,x22,x23,x24,x25,x26,x27,x28,x29,x30,x31],_=>⟨x0,x1,x2,x3,x4,x5,x6,x7,x8,x9,x10,x11,x12,x13,x14,x15,x16,x17,x18,x19,x20,x21,x22,x23,x24,x25,x26,x27,x28,x29,x30,x31,rfl⟩
theorem scr1 {k:Int}(h2:1≤k∧k≤6) (m:Arr 32) (a b:Int):X153 (K153.E ([1,1,1,5],[[k]],m,a,b))=some (.one (.v (.int .i64 (if ([[k]]:List (List Int))=[[[1,1,1,5].getD 2 0]] then 0 else 84))),[]):=by
  obtain⟨l,hl⟩:=m;obtain⟨x0,x1,x2,x3,x4,x5,x6,x7,x8,x9,x10,x11,x12,x13,x14,x15,x16,x17,x18,x19,x20,x21,x22,x23,x24,x25,x26,x27,x28,x29,x30,x31,rfl⟩:=l32 hl;have hk:k=1∨k=2∨k=3∨k=4∨k=5∨k=6:=by omega
  rcases hk with rfl | rfl | rfl | rfl | rfl | rfl <;> (show _=_; kernel_rfl)
theorem scr2 {k:Int}(h2:1≤k∧k≤6) (m:Arr 32) (a b:Int):X153 (K153.E ([1,1,2,5],[[k]],m,a,b))=some (.one (.v (.int .i64 (if ([[k]]:List (List Int))=[[[1,1,2,5].getD 2 0]] then 0 else 84))),[]):=by
  obtain⟨l,hl⟩:=m;obtain⟨x0,x1,x2,x3,x4,x5,x6,x7,x8,x9,x10,x11,x12,x13,x14,x15,x16,x17,x18,x19,x20,x21,x22,x23,x24,x25,x26,x27,x28,x29,x30,x31,rfl⟩:=l32 hl;have hk:k=1∨k=2∨k=3∨k=4∨k=5∨k=6:=by omega
  rcases hk with rfl | rfl | rfl | rfl | rfl | rfl <;> (show _=_; kernel_rfl)
theorem scr3 {k:Int}(h2:1≤k∧k≤6) (m:Arr 32) (a b:Int):X153 (K153.E ([1,1,3,5],[[k]],m,a,b))=some (.one (.v (.int .i64 (if ([[k]]:List (List Int))=[[[1,1,3,5].getD 2 0]] then 0 else 84))),[]):=by
  obtain⟨l,hl⟩:=m;obtain⟨x0,x1,x2,x3,x4,x5,x6,x7,x8,x9,x10,x11,x12,x13,x14,x15,x16,x17,x18,x19,x20,x21,x22,x23,x24,x25,x26,x27,x28,x29,x30,x31,rfl⟩:=l32 hl;have hk:k=1∨k=2∨k=3∨k=4∨k=5∨k=6:=by omega
  rcases hk with rfl | rfl | rfl | rfl | rfl | rfl <;> (show _=_; kernel_rfl)
theorem scr4 {k:Int}(h2:1≤k∧k≤6) (m:Arr 32) (a b:Int):X153 (K153.E ([1,1,4,5],[[k]],m,a,b))=some (.one (.v (.int .i64 (if ([[k]]:List (List Int))=[[[1,1,4,5].getD 2 0]] then 0 else 84))),[]):=by
  obtain⟨l,hl⟩:=m;obtain⟨x0,x1,x2,x3,x4,x5,x6,x7,x8,x9,x10,x11,x12,x13,x14,x15,x16,x17,x18,x19,x20,x21,x22,x23,x24,x25,x26,x27,x28,x29,x30,x31,rfl⟩:=l32 hl;have hk:k=1∨k=2∨k=3∨k=4∨k=5∨k=6:=by omega
  rcases hk with rfl | rfl | rfl | rfl | rfl | rfl <;> (show _=_; kernel_rfl)
theorem scr5 {k:Int}(h2:1≤k∧k≤6) (m:Arr 32) (a b:Int):X153 (K153.E ([1,1,5,5],[[k]],m,a,b))=some (.one (.v (.int .i64 (if ([[k]]:List (List Int))=[[[1,1,5,5].getD 2 0]] then 0 else 84))),[]):=by
  obtain⟨l,hl⟩:=m;obtain⟨x0,x1,x2,x3,x4,x5,x6,x7,x8,x9,x10,x11,x12,x13,x14,x15,x16,x17,x18,x19,x20,x21,x22,x23,x24,x25,x26,x27,x28,x29,x30,x31,rfl⟩:=l32 hl;have hk:k=1∨k=2∨k=3∨k=4∨k=5∨k=6:=by omega
  rcases hk with rfl | rfl | rfl | rfl | rfl | rfl <;> (show _=_; kernel_rfl)
theorem scr6 {k:Int}(h2:1≤k∧k≤6) (m:Arr 32) (a b:Int):X153 (K153.E ([1,1,6,5],[[k]],m,a,b))=some (.one (.v (.int .i64 (if ([[k]]:List (List Int))=[[[1,1,6,5].getD 2 0]] then 0 else 84))),[]):=by
  obtain⟨l,hl⟩:=m;obtain⟨x0,x1,x2,x3,x4,x5,x6,x7,x8,x9,x10,x11,x12,x13,x14,x15,x16,x17,x18,x19,x20,x21,x22,x23,x24,x25,x26,x27,x28,x29,x30,x31,rfl⟩:=l32 hl;have hk:k=1∨k=2∨k=3∨k=4∨k=5∨k=6:=by omega
  rcases hk with rfl | rfl | rfl | rfl | rfl | rfl <;> (show _=_; kernel_rfl)
theorem ZvY {j k:Int}(h1:1≤j∧j≤6) (h2:1≤k∧k≤6) (m:Arr 32) (a b:Int):X153 (K153.E ([1,1,j,5],[[k]],m,a,b))=some (.one (.v (.int .i64 (if ([[k]]:List (List Int))=[[[1,1,j,5].getD 2 0]] then 0 else 84))),[]):=by
  have hj:j=1∨j=2∨j=3∨j=4∨j=5∨j=6:=by omega
  rcases hj with rfl | rfl | rfl | rfl | rfl | rfl
  · exact scr1 h2 m a b
  · exact scr2 h2 m a b
  · exact scr3 h2 m a b
  · exact scr4 h2 m a b
  · exact scr5 h2 m a b
  · exact scr6 h2 m a b
theorem v153:Yb Tryz.prog G 153 K153.G:=ZsV x153 fun ps r h=>by
  obtain⟨⟨a0,a1,m,a,b⟩,q,h'⟩:=ZeE h;subst q;obtain⟨y,hy,rfl⟩:=Option.map_eq_some_iff.1 h';simp only[u3,ZaD] at hy;split at hy
  · rename_i e
    obtain⟨j,k,h1,h2,rfl,rfl⟩:=e;obtain rfl:=Option.some.inj hy;exact ZvY h1 h2 m a b
  · cases hy
theorem v118:Im 118 K118:=V w118 Tryz.func118 ⟨.inl v152,.inl v153,trivial⟩
theorem v77:Im 77 K77:=V w77 Tryz.func77 ⟨.inl v114,.inl v116,.inl v117,.inl v118,trivial⟩
theorem v78:Im 78 K78:=V w78 Tryz.func78
theorem v82:Im 82 K82:=V w82 Tryz.func82 ⟨.inl v108,.inl v116,trivial⟩
theorem v119:Yb Tryz.prog G 119 G119:=mkI (T:=Av.tab [(115,K115.G),(144,G144)]) (enc:=Zho) (R:=Zjl) (g:=fun x:(List Tapi_Coin)×Tapi_Coin=>ZbE x.1 x.2) mixed htt (Av.tab_ok ⟨.inl v115,.inl v144,trivial⟩) Tryz.func119 body119 (by kernel_rfl) fun x y hy=>w119 rfl rfl rfl x.1 x.2 y hy
theorem v80:Im 80 K80:=V w80 Tryz.func80 ⟨.inl v79,.inl v82,.inl v119,trivial⟩
theorem v81:Im 81 K81:=V w81 Tryz.func81
theorem v44:Im 44 K44:=V w44 Tryz.func44 ⟨.inl v20,.inl v70,.inl v75,.inl v76,.inl v77,.inl v78,.inl v79,.inl v80,.inl v81,.inl v82,trivial⟩
theorem v86:Im 86 K86:=V w86 Tryz.func86 ⟨.inl v89,trivial⟩
theorem v46:Im 46 K46:=V w46 Tryz.func46 ⟨.inl v20,.inl v86,trivial⟩
theorem v45:Im 45 K45:=V w45 Tryz.func45 ⟨.inl v46,.inl v83,.inl v84,.inl v85,trivial⟩
theorem v88:Im 88 K88:=V w88 Tryz.func88
theorem v47:Im 47 K47:=V w47 Tryz.func47 ⟨.inl v87,.inl v88,trivial⟩
theorem v48:Im 48 K48:=V w48 Tryz.func48 ⟨.inl v20,.inl v89,trivial⟩
theorem v49:Im 49 K49:=V w49 Tryz.func49 ⟨.inl v20,.inl v89,trivial⟩
theorem v31:Im 31 K31:=V w31 Tryz.func31 ⟨.inl v47,.inl v48,.inl v49,trivial⟩
theorem v30_1:Im 30 K30_1:=V w30_1 Tryz.func30 ⟨.inl v43,.inl v44,.inl v45,.inl v46,trivial⟩
theorem v17:Im 17 K17:=V w17 Tryz.func17 ⟨.inl v30_1,.inl v31,trivial⟩
theorem v18:Im 18 K18:=V w18 Tryz.func18
theorem v90:Im 90 K90:=V w90 Tryz.func90 ⟨.inl v61,trivial⟩
theorem v50:Im 50 K50:=V w50 Tryz.func50 ⟨.inl v63,.inl v90,trivial⟩
theorem v57:Im 57 K57:=V w57 Tryz.func57 ⟨.inl v63,.inl v90,trivial⟩
theorem v92:Im 92 K92:=V w92 Tryz.func92 ⟨.inl v39,.inl v40,.inl v57,.inl v63,.inl v64,trivial⟩
theorem v91:Im 91 K91:=V w91 Tryz.func91 ⟨.inl v92,trivial⟩
theorem v51:Im 51 K51:=V w51 Tryz.func51 ⟨.inl v91,.inl v92,trivial⟩
theorem v32:Im 32 K32:=V w32 Tryz.func32 ⟨.inl v40,.inl v50,.inl v51,trivial⟩
theorem v52:Im 52 K52:=V w52 Tryz.func52
theorem v33:Im 33 K33:=V w33 Tryz.func33 ⟨.inl v52,trivial⟩
theorem v34:Im 34 K34:=V w34 Tryz.func34 ⟨.inl v24,.inl v50,trivial⟩
theorem v160:Im 160 K160:=V w160 Tryz.func160
theorem v126:Im 126 K126:=V w126 Tryz.func126 ⟨.inl v160,trivial⟩
theorem v93:Im 93 K93:=V w93 Tryz.func93 ⟨.inl v126,trivial⟩
theorem v127:Im 127 K127:=V w127 Tryz.func127
theorem v128:Im 128 K128:=V w128 Tryz.func128
theorem v129_2:Im 129 K129_2:=V w129_2 Tryz.func129
theorem v130_3:Im 130 K130_3:=V w130_3 Tryz.func130 ⟨.inl v129_2,trivial⟩
theorem v94:Im 94 K94:=V w94 Tryz.func94 ⟨.inl v127,.inl v128,.inl v129_2,.inl v130_3,trivial⟩
theorem v53:Im 53 K53:=V w53 Tryz.func53 ⟨.inl v93,.inl v94,trivial⟩
theorem v95:Im 95 K95:=V w95 Tryz.func95 ⟨.inl v131,trivial⟩
theorem v161:Im 161 K161:=V w161 Tryz.func161
theorem v133:Im 133 K133:=V w133 Tryz.func133 ⟨.inl v161,trivial⟩
theorem v132:Im 132 K132:=V w132 Tryz.func132 ⟨.inl v133,trivial⟩
theorem v96:Im 96 K96:=V w96 Tryz.func96 ⟨.inl v52,.inl v132,.inl v133,trivial⟩
theorem v135:Im 135 K135:=V w135 Tryz.func135 ⟨.inl v171,trivial⟩
theorem v162_4:Yb Tryz.prog G 162 G162_4:=mkI (T:=Av.tab [(126,K126.G)]) (enc:=Zcp) (R:=Zeu) (g:=fun x:(List Int)×Int×Int=>Zt x.1 x.2.1 x.2.2) mixed htt (Av.tab_ok ⟨.inl v126,trivial⟩) Tryz.func162 body162 (by kernel_rfl) fun x y hy=>ZwP rfl rfl x.1 x.2.1 x.2.2 y hy
theorem v134_5n:∀ n,Yb Tryz.prog G 134 (Zn9 n)
  | 0=>ZrK Tryz.func134 body134 (by kernel_rfl) (ZrL fun _=>rfl)
  | n+1=>mkI (T:=Av.tab [(134,Zn9 n),(126,K126.G),(162,G162_4)] (fun d=>if d=27 then[[1000001]] else if d=121 then[[1000001]] else if d=132 then[[1000001]] else[])) (enc:=Zcq) (R:=Zev) (g:=fun x:(List Int)×Int×Int×Int=>Lslices_pdqsortOrdered_of_uint64w_n (n+1) x.1 x.2.1 x.2.2.1 x.2.2.2) mixed htt (Av.tab_ok ⟨.inl (v134_5n n),.inl v126,.inl v162_4,trivial⟩) Tryz.func134 body134 (by kernel_rfl) fun x y hy=>ZwQ n rfl rfl rfl rfl x.1 x.2.1 x.2.2.1 x.2.2.2 y hy
theorem v134_5:Yb Tryz.prog G 134 G134_5:=Zt9 v134_5n
theorem v97_6:Im 97 K97_6:=V w97_6 Tryz.func97 ⟨.inl v134_5,.inl v135,trivial⟩
theorem v54:Im 54 K54:=V w54 Tryz.func54 ⟨.inl v95,.inl v96,.inl v97_6,trivial⟩
theorem v35:Im 35 K35:=V w35 Tryz.func35 ⟨.inl v53,.inl v54,trivial⟩
theorem v98:Im 98 K98:=V w98 Tryz.func98
theorem v56:Im 56 K56:=V w56 Tryz.func56 ⟨.inl v98,trivial⟩
theorem v36:Im 36 K36:=V w36 Tryz.func36 ⟨.inl v55,.inl v56,.inl v57,trivial⟩
theorem v19:Im 19 K19:=V w19 Tryz.func19 ⟨.inl v32,.inl v33,.inl v34,.inl v35,.inl v36,trivial⟩
theorem v6:Im 6 K6:=V w6 Tryz.func6 ⟨.inl v9,.inl v11,.inl v17,.inl v18,.inl v19,.inl v20,trivial⟩
theorem v10:Im 10 K10:=V w10 Tryz.func10
theorem v12:Im 12 K12:=V w12 Tryz.func12 ⟨.inl v21,.inl v26,trivial⟩
theorem v28:Im 28 K28:=V w28 Tryz.func28
theorem v13:Im 13 K13:=V w13 Tryz.func13 ⟨.inl v28,trivial⟩
theorem v14:Im 14 K14:=V w14 Tryz.func14 ⟨.inl v21,.inl v29,trivial⟩
theorem v15:Im 15 K15:=V w15 Tryz.func15 ⟨.inl v11,.inl v12,.inl v14,trivial⟩
theorem v4:Yb Tryz.prog G 4 G4:=mkI (T:=Av.tab [(5,K5.G),(6,K6.G),(9,K9.G),(10,K10.G),(11,K11.G),(12,K12.G),(13,K13.G),(14,K14.G),(15,K15.G)]) (enc:=E4) (R:=R4) (g:=fun x:Int×(List Int)×(List (Arr 32))×(List (Arr 32))×Int=>YE x.1 x.2.1 x.2.2.1 x.2.2.2.1 x.2.2.2.2) mixed htt (Av.tab_ok ⟨.inl v5,.inl v6,.inl v9,.inl v10,.inl v11,.inl v12,.inl v13,.inl v14,.inl v15,trivial⟩) Tryz.func4 body4 (by kernel_rfl) fun x y hy=>w4 rfl rfl rfl rfl rfl rfl rfl rfl rfl rfl x.1 x.2.1 x.2.2.1 x.2.2.2.1 x.2.2.2.2 y hy
end Go.Proofs.YtcfpmbefhfbdjaaGreatDoor
