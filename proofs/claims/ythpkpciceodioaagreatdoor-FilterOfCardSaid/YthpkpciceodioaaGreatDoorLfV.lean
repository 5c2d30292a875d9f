import Derived.Test.YthpkpciceodioaaGreatDoorLfW1
import Derived.Test.YthpkpciceodioaaGreatDoorLfW2
import Derived.Test.YthpkpciceodioaaGreatDoorLfW3
import Derived.Test.YthpkpciceodioaaGreatDoorLfW4
import Derived.Test.YthpkpciceodioaaGreatDoorLfW5
import Derived.Test.YthpkpciceodioaaGreatDoorLfW6
import Derived.Test.YthpkpciceodioaaGreatDoorLfW7
import Derived.Test.YthpkpciceodioaaGreatDoorLfW8
import Derived.Test.YthpkpciceodioaaGreatDoorLfW9
import Derived.Test.YthpkpciceodioaaGreatDoorLfW10
import Derived.Test.YthpkpciceodioaaGreatDoorLfW11
import Derived.Test.YthpkpciceodioaaGreatDoorLfW12
import Derived.Test.YthpkpciceodioaaGreatDoorLfW13
import Derived.Test.YthpkpciceodioaaGreatDoorLcG3
import Derived.Test.YthpkpciceodioaaGreatDoorLcG4
import Derived.Test.YthpkpciceodioaaGreatDoorLcG6
import Derived.Test.YthpkpciceodioaaGreatDoorLcG6
import Derived.Test.YthpkpciceodioaaGreatDoorLcG6
namespace Go.Proofs.YthpkpciceodioaaGreatDoor
open Go.RowKit
open Go.Av
open Go.Lc
set_option maxRecDepth 100000
set_option linter.unusedSimpArgs false
set_option linter.unusedVariables false
theorem v17:Zh Tryz.prog G 17 K17.G:=mkW mixed htt w17 trivial Tryz.func17 body17 (by kernel_rfl)
theorem v34:Zh Tryz.prog G 34 K34.G:=mkW mixed htt w34 ⟨.inl v17,trivial⟩ Tryz.func34 body34 (by kernel_rfl)
theorem v10:Zh Tryz.prog G 10 K10.G:=mkW mixed htt w10 ⟨.inl v34,trivial⟩ Tryz.func10 body10 (by kernel_rfl)
theorem v79:Zh Tryz.prog G 79 K79.G:=mkW mixed htt w79 trivial Tryz.func79 body79 (by kernel_rfl)
theorem v43:Zh Tryz.prog G 43 K43.G:=mkW mixed htt w43 ⟨.inl v79,trivial⟩ Tryz.func43 body43 (by kernel_rfl)
theorem v97:Zh Tryz.prog G 97 K97.G:=mkW mixed htt w97 trivial Tryz.func97 body97 (by kernel_rfl)
theorem v119:Zh Tryz.prog G 119 K119.G:=mkW mixed htt w119 trivial Tryz.func119 body119 (by kernel_rfl)
theorem v80:Zh Tryz.prog G 80 K80.G:=mkW mixed htt w80 ⟨.inl v97,.inl v119,trivial⟩ Tryz.func80 body80 (by kernel_rfl)
theorem v81:Zh Tryz.prog G 81 K81.G:=mkW mixed htt w81 ⟨.inl v97,trivial⟩ Tryz.func81 body81 (by kernel_rfl)
theorem v44:Zh Tryz.prog G 44 K44.G:=mkW mixed htt w44 ⟨.inl v80,.inl v81,trivial⟩ Tryz.func44 body44 (by kernel_rfl)
theorem v14:Zh Tryz.prog G 14 K14.G:=mkW mixed htt w14 ⟨.inl v42,.inl v43,.inl v44,trivial⟩ Tryz.func14 body14 (by kernel_rfl)
theorem v98:Zh Tryz.prog G 98 K98.G:=mkW mixed htt w98 ⟨.inl v97,.inl v119,trivial⟩ Tryz.func98 body98 (by kernel_rfl)
theorem v99:Zh Tryz.prog G 99 K99.G:=mkW mixed htt w99 ⟨.inl v97,.inl v119,trivial⟩ Tryz.func99 body99 (by kernel_rfl)
theorem v56:Zh Tryz.prog G 56 K56.G:=mkW mixed htt w56 ⟨.inl v80,.inl v97,.inl v98,.inl v99,trivial⟩ Tryz.func56 body56 (by kernel_rfl)
theorem v67:Zh Tryz.prog G 67 K67.G:=mkW mixed htt w67 ⟨.inl v80,.inl v81,trivial⟩ Tryz.func67 body67 (by kernel_rfl)
theorem v55:Zh Tryz.prog G 55 K55.G:=mkW mixed htt w55 ⟨.inl v56,.inl v97,trivial⟩ Tryz.func55 body55 (by kernel_rfl)
theorem v108:Zh Tryz.prog G 108 K108.G:=mkW mixed htt w108 ⟨.inl v44,.inl v55,.inl v56,.inl v80,.inl v99,trivial⟩ Tryz.func108 body108 (by kernel_rfl)
theorem v107:Zh Tryz.prog G 107 K107.G:=mkW mixed htt w107 ⟨.inl v108,trivial⟩ Tryz.func107 body107 (by kernel_rfl)
theorem v68:Zh Tryz.prog G 68 K68.G:=mkW mixed htt w68 ⟨.inl v107,.inl v108,trivial⟩ Tryz.func68 body68 (by kernel_rfl)
theorem v35:Zh Tryz.prog G 35 K35.G:=mkW mixed htt w35 ⟨.inl v56,.inl v67,.inl v68,trivial⟩ Tryz.func35 body35 (by kernel_rfl)
theorem v69:Zh Tryz.prog G 69 K69.G:=mkW mixed htt w69 trivial Tryz.func69 body69 (by kernel_rfl)
theorem v36:Zh Tryz.prog G 36 K36.G:=mkW mixed htt w36 ⟨.inl v69,trivial⟩ Tryz.func36 body36 (by kernel_rfl)
theorem v153:Zh Tryz.prog G 153 K153.G:=mkW mixed htt w153 trivial Tryz.func153 body153 (by kernel_rfl)
theorem v154:Zh Tryz.prog G 154 K154.G:=mkW mixed htt w154 trivial Tryz.func154 body154 (by kernel_rfl)
theorem v227:Zh Tryz.prog G 227 K227.G:=mkW mixed htt w227 trivial Tryz.func227 body227 (by kernel_rfl)
theorem v198:Zh Tryz.prog G 198 K198.G:=mkW mixed htt w198 ⟨.inl v227,trivial⟩ Tryz.func198 body198 (by kernel_rfl)
theorem v197:Zh Tryz.prog G 197 K197.G:=mkW mixed htt w197 ⟨.inl v198,trivial⟩ Tryz.func197 body197 (by kernel_rfl)
theorem v155:Zh Tryz.prog G 155 K155.G:=mkW mixed htt w155 ⟨.inl v197,.inl v198,trivial⟩ Tryz.func155 body155 (by kernel_rfl)
theorem v105:Zh Tryz.prog G 105 K105.G:=mkW mixed htt w105 ⟨.inl v153,.inl v154,.inl v155,trivial⟩ Tryz.func105 body105 (by kernel_rfl)
theorem v65:Zh Tryz.prog G 65 K65.G:=mkW mixed htt w65 ⟨.inl v105,trivial⟩ Tryz.func65 body65 (by kernel_rfl)
theorem v37:Zh Tryz.prog G 37 K37.G:=mkW mixed htt w37 ⟨.inl v65,.inl v67,trivial⟩ Tryz.func37 body37 (by kernel_rfl)
theorem v199:Zh Tryz.prog G 199 K199.G:=mkW mixed htt w199 trivial Tryz.func199 body199 (by kernel_rfl)
theorem v156:Zh Tryz.prog G 156 K156.G:=mkW mixed htt w156 ⟨.inl v199,trivial⟩ Tryz.func156 body156 (by kernel_rfl)
theorem v109:Zh Tryz.prog G 109 K109.G:=mkW mixed htt w109 ⟨.inl v156,trivial⟩ Tryz.func109 body109 (by kernel_rfl)
theorem v157:Zh Tryz.prog G 157 K157.G:=mkW mixed htt w157 trivial Tryz.func157 body157 (by kernel_rfl)
theorem v158:Zh Tryz.prog G 158 K158.G:=mkW mixed htt w158 trivial Tryz.func158 body158 (by kernel_rfl)
theorem v159_1:Zh Tryz.prog G 159 K159_1.G:=mkW mixed htt w159_1 trivial Tryz.func159 body159 (by kernel_rfl)
theorem v160_2:Zh Tryz.prog G 160 K160_2.G:=mkW mixed htt w160_2 ⟨.inl v159_1,trivial⟩ Tryz.func160 body160 (by kernel_rfl)
theorem v110:Zh Tryz.prog G 110 K110.G:=mkW mixed htt w110 ⟨.inl v157,.inl v158,.inl v159_1,.inl v160_2,trivial⟩ Tryz.func110 body110 (by kernel_rfl)
theorem v70:Zh Tryz.prog G 70 K70.G:=mkW mixed htt w70 ⟨.inl v109,.inl v110,trivial⟩ Tryz.func70 body70 (by kernel_rfl)
theorem v161:Zh Tryz.prog G 161 K161.G:=mkW mixed htt w161 trivial Tryz.func161 body161 (by kernel_rfl)
theorem v111:Zh Tryz.prog G 111 K111.G:=mkW mixed htt w111 ⟨.inl v161,trivial⟩ Tryz.func111 body111 (by kernel_rfl)
theorem v200:Zh Tryz.prog G 200 K200.G:=mkW mixed htt w200 trivial Tryz.func200 body200 (by kernel_rfl)
theorem v163:Zh Tryz.prog G 163 K163.G:=mkW mixed htt w163 ⟨.inl v200,trivial⟩ Tryz.func163 body163 (by kernel_rfl)
theorem v162:Zh Tryz.prog G 162 K162.G:=mkW mixed htt w162 ⟨.inl v163,trivial⟩ Tryz.func162 body162 (by kernel_rfl)
theorem v112:Zh Tryz.prog G 112 K112.G:=mkW mixed htt w112 ⟨.inl v69,.inl v162,.inl v163,trivial⟩ Tryz.func112 body112 (by kernel_rfl)
theorem v165:Zh Tryz.prog G 165 K165.G:=mkW mixed htt w165 ⟨.inl v210,trivial⟩ Tryz.func165 body165 (by kernel_rfl)
theorem v229:Zh Tryz.prog G 229 K229.G:=mkW mixed htt w229 ⟨.inl v165,trivial⟩ Tryz.func229 body229 (by kernel_rfl)
theorem v230:Zh Tryz.prog G 230 K230.G:=mkW mixed htt w230 trivial Tryz.func230 body230 (by kernel_rfl)
theorem v240:Zh Tryz.prog G 240 K240.G:=mkW mixed htt w240 ⟨.inl v156,trivial⟩ Tryz.func240 body240 (by kernel_rfl)
theorem v232:Zh Tryz.prog G 232 K232.G:=mkW mixed htt w232 ⟨.inl v240,trivial⟩ Tryz.func232 body232 (by kernel_rfl)
theorem v231:Zh Tryz.prog G 231 K231.G:=mkW mixed htt w231 ⟨.inl v232,trivial⟩ Tryz.func231 body231 (by kernel_rfl)
theorem v204:Zh Tryz.prog G 204 K204.G:=mkW mixed htt w204 ⟨.inl v231,.inl v232,trivial⟩ Tryz.func204 body204 (by kernel_rfl)
theorem v201_3:Zh Tryz.prog G 201 G201_3:=mkI (T:=Av.tab [(156,K156.G)]) (enc:=ZfQ) (R:=Ziy) (g:=fun x:(List Int)×Int×Int=>Z2 x.1 x.2.1 x.2.2) mixed htt (Av.tab_ok ⟨.inl v156,trivial⟩) Tryz.func201 body201 (by kernel_rfl) fun x y hy=>Zvz rfl rfl x.1 x.2.1 x.2.2 y hy
theorem v228_4:Zh Tryz.prog G 228 K228_4.G:=mkW mixed htt w228_4 ⟨.inl v156,trivial⟩ Tryz.func228 body228 (by kernel_rfl)
theorem v202_5:Zh Tryz.prog G 202 K202_5.G:=mkW mixed htt w202_5 ⟨.inl v228_4,trivial⟩ Tryz.func202 body202 (by kernel_rfl)
theorem v205_6:Zh Tryz.prog G 205 K205_6.G:=mkW mixed htt w205_6 trivial Tryz.func205 body205 (by kernel_rfl)
theorem v206_7:Zh Tryz.prog G 206 K206_7.G:=mkW mixed htt w206_7 ⟨.inl v156,trivial⟩ Tryz.func206 body206 (by kernel_rfl)
theorem v207_8:Zh Tryz.prog G 207 G207_8:=mkI (T:=Av.tab [(156,K156.G)]) (enc:=Zea) (R:=ZgI) (g:=fun x:(List Int)×Int×Int×Int=>ZP x.1 x.2.1 x.2.2.1 x.2.2.2) mixed htt (Av.tab_ok ⟨.inl v156,trivial⟩) Tryz.func207 body207 (by kernel_rfl) fun x y hy=>ZvA rfl rfl x.1 x.2.1 x.2.2.1 x.2.2.2 y hy
theorem v208_9:Zh Tryz.prog G 208 G208_9:=mkI (T:=Av.tab [(156,K156.G)]) (enc:=Zcw) (R:=Zeb) (g:=fun x:(List Int)×Int×Int×Int=>Z6 x.1 x.2.1 x.2.2.1 x.2.2.2) mixed htt (Av.tab_ok ⟨.inl v156,trivial⟩) Tryz.func208 body208 (by kernel_rfl) fun x y hy=>ZvB rfl rfl x.1 x.2.1 x.2.2.1 x.2.2.2 y hy
theorem v203_11:Zh Tryz.prog G 203 G203_11:=mkI (T:=Av.tab [(229,K229.G),(230,K230.G)]) (enc:=Zey) (R:=Zhm) (g:=fun x:(List Int)×Int×Int=>Z3 x.1 x.2.1 x.2.2) mixed htt (Av.tab_ok ⟨.inl v229,.inl v230,trivial⟩) Tryz.func203 body203 (by kernel_rfl) fun x y hy=>Zud rfl rfl rfl x.1 x.2.1 x.2.2 y hy
theorem v164_10n:∀ n,Zh Tryz.prog G 164 (Zi9 n)
  | 0=>Zld Tryz.func164 body164 (by kernel_rfl) (Zle fun _=>rfl)
  | n+1=>mkI (T:=Av.tab [(164,Zi9 n),(156,K156.G),(201,G201_3),(202,K202_5.G),(203,G203_11),(204,K204.G),(205,K205_6.G),(206,K206_7.G),(207,G207_8),(208,G208_9)] (fun d=>if d=27 then [[1000001]] else if d=33 then [[1000001]] else if d=39 then [[1000001]] else if d=54 then [[1000001]] else if d=72 then [[1000001]] else if d=92 then [[1000001]] else if d=99 then [[1000001]] else if d=121 then [[1000001]] else if d=132 then [[1000001]] else [])) (enc:=Xz) (R:=XS) (g:=fun x:(List Int)×Int×Int×Int=>Lslices_pdqsortOrdered_of_uint64_n (n+1) x.1 x.2.1 x.2.2.1 x.2.2.2) mixed htt (Av.tab_ok ⟨.inl (v164_10n n),.inl v156,.inl v201_3,.inl v202_5,.inl v203_11,.inl v204,.inl v205_6,.inl v206_7,.inl v207_8,.inl v208_9,trivial⟩) Tryz.func164 body164 (by kernel_rfl) fun x y hy=>Zue n rfl rfl rfl rfl rfl rfl rfl rfl rfl rfl rfl x.1 x.2.1 x.2.2.1 x.2.2.2 y hy
theorem v164_10:Zh Tryz.prog G 164 G164_10:=Znj v164_10n
theorem v113_12:Zh Tryz.prog G 113 K113_12.G:=mkW mixed htt w113_12 ⟨.inl v164_10,.inl v165,trivial⟩ Tryz.func113 body113 (by kernel_rfl)
theorem v71:Zh Tryz.prog G 71 K71.G:=mkW mixed htt w71 ⟨.inl v111,.inl v112,.inl v113_12,trivial⟩ Tryz.func71 body71 (by kernel_rfl)
theorem v38:Zh Tryz.prog G 38 K38.G:=mkW mixed htt w38 ⟨.inl v70,.inl v71,trivial⟩ Tryz.func38 body38 (by kernel_rfl)
theorem v11:Zh Tryz.prog G 11 K11.G:=mkW mixed htt w11 ⟨.inl v14,.inl v35,.inl v36,.inl v37,.inl v38,trivial⟩ Tryz.func11 body11 (by kernel_rfl)
theorem v82:Zh Tryz.prog G 82 K82.G:=mkW mixed htt w82 trivial Tryz.func82 body82 (by kernel_rfl)
theorem v96:Zh Tryz.prog G 96 K96.G:=mkW mixed htt w96 trivial Tryz.func96 body96 (by kernel_rfl)
theorem v53:Zh Tryz.prog G 53 K53.G:=mkW mixed htt w53 ⟨.inl v82,.inl v96,trivial⟩ Tryz.func53 body53 (by kernel_rfl)
theorem v54:Zh Tryz.prog G 54 K54.G:=mkW mixed htt w54 ⟨.inl v82,trivial⟩ Tryz.func54 body54 (by kernel_rfl)
theorem v23:Zh Tryz.prog G 23 K23.G:=mkW mixed htt w23 ⟨.inl v53,.inl v54,trivial⟩ Tryz.func23 body23 (by kernel_rfl)
theorem v45:Zh Tryz.prog G 45 K45.G:=mkW mixed htt w45 ⟨.inl v82,trivial⟩ Tryz.func45 body45 (by kernel_rfl)
theorem v83:Zh Tryz.prog G 83 K83.G:=mkW mixed htt w83 trivial Tryz.func83 body83 (by kernel_rfl)
theorem v46:Zh Tryz.prog G 46 K46.G:=mkW mixed htt w46 ⟨.inl v83,trivial⟩ Tryz.func46 body46 (by kernel_rfl)
theorem v15:Zh Tryz.prog G 15 K15.G:=mkW mixed htt w15 ⟨.inl v23,.inl v45,.inl v46,trivial⟩ Tryz.func15 body15 (by kernel_rfl)
theorem v146:Zh Tryz.prog G 146 K146.G:=mkW mixed htt w146 trivial Tryz.func146 body146 (by kernel_rfl)
theorem v147:Zh Tryz.prog G 147 K147.G:=mkW mixed htt w147 trivial Tryz.func147 body147 (by kernel_rfl)
theorem v195:Zh Tryz.prog G 195 K195.G:=mkW mixed htt w195 ⟨.inl v227,trivial⟩ Tryz.func195 body195 (by kernel_rfl)
theorem v193:Zh Tryz.prog G 193 K193.G:=mkW mixed htt w193 ⟨.inl v195,trivial⟩ Tryz.func193 body193 (by kernel_rfl)
theorem v194:Zh Tryz.prog G 194 K194.G:=mkW mixed htt w194 trivial Tryz.func194 body194 (by kernel_rfl)
theorem v148:Zh Tryz.prog G 148 G148:=mkI (T:=Av.tab [(193,K193.G),(194,K194.G),(195,K195.G)]) (enc:=Zja) (R:=ZlU) (g:=fun x:(Arr 8)×(Arr 64)=>Zai x.1 x.2) mixed htt (Av.tab_ok ⟨.inl v193,.inl v194,.inl v195,trivial⟩) Tryz.func148 body148 (by kernel_rfl) fun x y hy=>w148 rfl rfl rfl rfl x.1 x.2 y hy
theorem v95:Zh Tryz.prog G 95 G95:=mkI (T:=Av.tab [(146,K146.G),(147,K147.G),(148,G148)]) (enc:=E95) (R:=R95) (g:=fun x:(List Int)=>ZaE x) mixed htt (Av.tab_ok ⟨.inl v146,.inl v147,.inl v148,trivial⟩) Tryz.func95 body95 (by kernel_rfl) fun x y hy=>w95 rfl rfl rfl rfl x y hy
theorem v51:Zh Tryz.prog G 51 K51.G:=mkW mixed htt w51 ⟨.inl v95,trivial⟩ Tryz.func51 body51 (by kernel_rfl)
theorem v52:Zh Tryz.prog G 52 K52.G:=mkW mixed htt w52 ⟨.inl v53,.inl v54,trivial⟩ Tryz.func52 body52 (by kernel_rfl)
theorem v22:Zh Tryz.prog G 22 K22.G:=mkW mixed htt w22 ⟨.inl v51,.inl v52,trivial⟩ Tryz.func22 body22 (by kernel_rfl)
theorem v61:Zh Tryz.prog G 61 K61.G:=mkW mixed htt w61 ⟨.inl v82,.inl v96,trivial⟩ Tryz.func61 body61 (by kernel_rfl)
theorem v60:Zh Tryz.prog G 60 K60.G:=mkW mixed htt w60 ⟨.inl v61,.inl v82,trivial⟩ Tryz.func60 body60 (by kernel_rfl)
theorem v211:Zh Tryz.prog G 211 K211.G:=mkW mixed htt w211 ⟨.inl v82,.inl v96,trivial⟩ Tryz.func211 body211 (by kernel_rfl)
theorem v166:Zh Tryz.prog G 166 K166.G:=mkW mixed htt w166 ⟨.inl v60,.inl v211,trivial⟩ Tryz.func166 body166 (by kernel_rfl)
theorem v114:Zh Tryz.prog G 114 K114.G:=mkW mixed htt w114 ⟨.inl v23,.inl v53,.inl v60,.inl v61,.inl v166,trivial⟩ Tryz.func114 body114 (by kernel_rfl)
theorem v72:Zh Tryz.prog G 72 K72.G:=mkW mixed htt w72 ⟨.inl v114,trivial⟩ Tryz.func72 body72 (by kernel_rfl)
theorem v115:Zh Tryz.prog G 115 K115.G:=mkW mixed htt w115 ⟨.inl v72,.inl v114,trivial⟩ Tryz.func115 body115 (by kernel_rfl)
theorem v73:Zh Tryz.prog G 73 K73.G:=mkW mixed htt w73 ⟨.inl v52,.inl v61,.inl v115,trivial⟩ Tryz.func73 body73 (by kernel_rfl)
theorem v39:Zh Tryz.prog G 39 K39.G:=mkW mixed htt w39 ⟨.inl v72,.inl v73,trivial⟩ Tryz.func39 body39 (by kernel_rfl)
theorem v25:Zh Tryz.prog G 25 K25.G:=mkW mixed htt w25 trivial Tryz.func25 body25 (by kernel_rfl)
theorem v74:Zh Tryz.prog G 74 G74:=mkI (T:=Av.tab [(25,K25.G)]) (enc:=E74) (R:=R74) (g:=fun x:(List (List Int))=>X5 x) mixed htt (Av.tab_ok ⟨.inl v25,trivial⟩) Tryz.func74 body74 (by kernel_rfl) fun x y hy=>w74 rfl rfl x y hy
theorem v116:Zh Tryz.prog G 116 K116.G:=mkW mixed htt w116 ⟨.inl v161,trivial⟩ Tryz.func116 body116 (by kernel_rfl)
theorem v78:Zh Tryz.prog G 78 K78.G:=mkW mixed htt w78 trivial Tryz.func78 body78 (by kernel_rfl)
theorem v168:Zh Tryz.prog G 168 K168.G:=mkW mixed htt w168 ⟨.inl v200,trivial⟩ Tryz.func168 body168 (by kernel_rfl)
theorem v167:Zh Tryz.prog G 167 G167:=mkI (T:=Av.tab [(168,K168.G)]) (enc:=Zid) (R:=ZkT) (g:=fun x:(Arr 4)×Int=>Zao x.1 x.2) mixed htt (Av.tab_ok ⟨.inl v168,trivial⟩) Tryz.func167 body167 (by kernel_rfl) fun x y hy=>w167 rfl rfl x.1 x.2 y hy
theorem v117:Zh Tryz.prog G 117 G117:=mkI (T:=Av.tab [(78,K78.G),(167,G167),(168,K168.G)]) (enc:=Zjb) (R:=ZlV) (g:=fun x:(Arr 2)×(List Int)=>Zc7 x.1 x.2) mixed htt (Av.tab_ok ⟨.inl v78,.inl v167,.inl v168,trivial⟩) Tryz.func117 body117 (by kernel_rfl) fun x y hy=>w117 rfl rfl rfl rfl x.1 x.2 y hy
theorem v75:Zh Tryz.prog G 75 G75:=mkI (T:=Av.tab [(116,K116.G),(117,G117)]) (enc:=E75) (R:=R75) (g:=fun x:(Arr 2)×(List Int)×Int×Int=>Zbi x.1 x.2.1 x.2.2.1 x.2.2.2) mixed htt (Av.tab_ok ⟨.inl v116,.inl v117,trivial⟩) Tryz.func75 body75 (by kernel_rfl) fun x y hy=>w75 rfl rfl rfl x.1 x.2.1 x.2.2.1 x.2.2.2 y hy
theorem v173:Zh Tryz.prog G 173 K173.G:=mkW mixed htt w173 trivial Tryz.func173 body173 (by kernel_rfl)
theorem v169:Zh Tryz.prog G 169 K169.G:=mkW mixed htt w169 ⟨.inl v173,trivial⟩ Tryz.func169 body169 (by kernel_rfl)
theorem v170_13:Zh Tryz.prog G 170 K170_13.G:=mkW mixed htt w170_13 trivial Tryz.func170 body170 (by kernel_rfl)
theorem v118:Zh Tryz.prog G 118 K118.G:=mkW mixed htt w118 ⟨.inl v45,.inl v169,.inl v170_13,trivial⟩ Tryz.func118 body118 (by kernel_rfl)
theorem v76:Zh Tryz.prog G 76 K76.G:=mkW mixed htt w76 ⟨.inl v118,trivial⟩ Tryz.func76 body76 (by kernel_rfl)
theorem v77n:∀ n,Zh Tryz.prog G 77 (ZpO n)
  | 0=>Zld Tryz.func77 body77 (by kernel_rfl) (Zle fun _=>rfl)
  | n+1=>mkI (T:=Av.tab [(77,ZpO n)]) (enc:=E77) (R:=R77) (g:=fun x:(List Int)=>Lref19_sorted_n (n+1) x) mixed htt (Av.tab_ok ⟨.inl (v77n n),trivial⟩) Tryz.func77 body77 (by kernel_rfl) fun x y hy=>w77 n rfl rfl x y hy
theorem v77:Zh Tryz.prog G 77 G77:=Znj v77n
theorem v40:Zh Tryz.prog G 40 K40.G:=mkW mixed htt w40 ⟨.inl v74,.inl v75,.inl v76,.inl v77,trivial⟩ Tryz.func40 body40 (by kernel_rfl)
theorem v41:Zh Tryz.prog G 41 K41.G:=mkW mixed htt w41 ⟨.inl v78,trivial⟩ Tryz.func41 body41 (by kernel_rfl)
theorem v12:Zh Tryz.prog G 12 K12.G:=mkW mixed htt w12 ⟨.inl v15,.inl v22,.inl v39,.inl v40,.inl v41,trivial⟩ Tryz.func12 body12 (by kernel_rfl)
theorem v13:Zh Tryz.prog G 13 K13.G:=mkW mixed htt w13 ⟨.inl v25,trivial⟩ Tryz.func13 body13 (by kernel_rfl)
theorem v16:Zh Tryz.prog G 16 K16.G:=mkW mixed htt w16 ⟨.inl v25,trivial⟩ Tryz.func16 body16 (by kernel_rfl)
theorem v191:Zh Tryz.prog G 191 K191.G:=mkW mixed htt w191 trivial Tryz.func191 body191 (by kernel_rfl)
theorem v143:Zh Tryz.prog G 143 K143.G:=mkW mixed htt w143 ⟨.inl v191,trivial⟩ Tryz.func143 body143 (by kernel_rfl)
theorem v192:Zh Tryz.prog G 192 K192.G:=mkW mixed htt w192 trivial Tryz.func192 body192 (by kernel_rfl)
theorem v222:Zh Tryz.prog G 222 K222.G:=mkW mixed htt w222 trivial Tryz.func222 body222 (by kernel_rfl)
theorem v225:Zh Tryz.prog G 225 K225.G:=mkW mixed htt w225 ⟨.inl v191,trivial⟩ Tryz.func225 body225 (by kernel_rfl)
theorem v238:Zh Tryz.prog G 238 K238.G:=mkW mixed htt w238 ⟨.inr v237,trivial⟩ Tryz.func238 body238 (by kernel_rfl)
theorem v226:Zh Tryz.prog G 226 K226.G:=mkW mixed htt w226 ⟨.inl v238,trivial⟩ Tryz.func226 body226 (by kernel_rfl)
theorem v188:Zh Tryz.prog G 188 K188.G:=mkW mixed htt w188 ⟨.inl v143,.inl v192,.inl v222,.inl v225,.inl v226,trivial⟩ Tryz.func188 body188 (by kernel_rfl)
theorem v189:Zh Tryz.prog G 189 K189.G:=mkW mixed htt w189 trivial Tryz.func189 body189 (by kernel_rfl)
theorem v190:Zh Tryz.prog G 190 K190.G:=mkW mixed htt w190 trivial Tryz.func190 body190 (by kernel_rfl)
def b8 (n:Int):Cell:=.v (.int .u8 n)
abbrev RT:=PV×List (List Cell)
abbrev RF:=List PV→Option RT
abbrev IX (f:FuncId) (F:RF):Prop:=Zh Tryz.prog G f F
def bs (l:List Int):List Cell:=l.map b8
def bz (n:Nat):List Cell:=List.replicate n (b8 0)
def kx:List (Nat×Kp)→Keep
  | []=>fun _=>⟨[],[],[]⟩
  | (k,q) :: l=>fun i=>if i=k then q else kx l i
noncomputable def xf (t:List (FuncId×RF)) (l:List (Nat×Kp)) (w:Bool) (fn:Func):RF:=Xj tt (Av.tab t) G (kx l) w 100000 fn
theorem xi {t:List (FuncId×RF)} {l:List (Nat×Kp)} {w:Bool} {f:FuncId} {fn:Func} (h:Zm8 Tryz.prog G t) (hf:Tryz.prog.funcs[f]? = some fn) (hb:(fn.body.isSome && !(fn.name == "runtime.NumGoroutine"))=true):IX f (xf t l w fn):=Zcv mixed htt (Av.tab_ok h) hf hb
noncomputable def s0:PV:=.one (.v (.int .u8 0))
noncomputable def s1:PV:=.one (.slice .no [[.v (.int .u8 0)]])
noncomputable def V50:RT:=((.agg ([(.v (.int .u32 1))]++(bz 64++[(.v (.int .u32 1000)),(.v (.int .u32 545259519)),(.v (.int .u32 0)),(.v (.int .u64 18446744073709551615)),(.v (.int .u64 18446744073709551615)),(.v (.int .u64 18446744073709551615)),(.v (.int .u64 9223372036854775807)),(.v (.int .i64 3)),(.v (.int .u32 5)),(.v (.int .u32 600)),(.v (.int .u32 1)),(.slice .no []),(.v (.int .i64 1000)),(.v (.int .i64 4)),(.v (.int .i64 0)),(.slice .no []),(.own 34 [([(.v (.int .i64 0))]++(bs [61,203,117,189,137,197,20,104,21,221,192,209,215,49,76,183,70,25,253,247,43,253,106,115,55,132,161,91,255,182,29,187]++[(.slice .no [])]))]),(.own 36 [([(.v (.int .i64 0))]++(bs [61,203,117,189,137,197,20,104,21,221,192,209,215,49,76,183,70,25,253,247,43,253,106,115,55,132,161,91,255,182,29,187]++[(.v (.int .u32 545259519)),(.v (.int .u32 1000)),(.slice .no [[(.v (.int .u32 1000))]])]))]),(.slice .no [])]))),[])
noncomputable def Pp:PV:=(.agg ([(.v (.int .u32 1))]++(bz 64++[(.v (.int .u32 1000)),(.v (.int .u32 545259519)),(.v (.int .u32 0)),(.v (.int .u64 18446744073709551615)),(.v (.int .u64 18446744073709551615)),(.v (.int .u64 18446744073709551615)),(.v (.int .u64 9223372036854775807)),(.v (.int .i64 3)),(.v (.int .u32 5)),(.v (.int .u32 600)),(.v (.int .u32 1)),(.slice .no []),(.v (.int .i64 1000)),(.v (.int .i64 4)),(.v (.int .i64 0))])))
noncomputable def Ll:PV:=(.agg ([(.v (.int .i64 0))]++(bs [61,203,117,189,137,197,20,104,21,221,192,209,215,49,76,183,70,25,253,247,43,253,106,115,55,132,161,91,255,182,29,187]++[(.slice .no [])])))
noncomputable def Cc:PV:=(.agg ([(.v (.int .i64 0))]++(bs [61,203,117,189,137,197,20,104,21,221,192,209,215,49,76,183,70,25,253,247,43,253,106,115,55,132,161,91,255,182,29,187]++[(.v (.int .u32 545259519)),(.v (.int .u32 1000)),(.slice .no [[(.v (.int .u32 1000))]])])))
noncomputable def V88:RT:=((.agg ([(.v (.int .u32 1))]++(bs [61,203,117,189,137,197,20,104,21,221,192,209,215,49,76,183,70,25,253,247,43,253,106,115,55,132,161,91,255,182,29,187,97,228,166,135,80,63,52,148,101,13,25,29,89,117,227,159,228,238,226,170,227,84,108,105,186,52,19,141,87,189,48,35]++[(.v (.int .u32 1021)),(.v (.int .u32 545259519)),(.v (.int .u32 4)),(.own 4 [[(.v (.int .u32 1)),(.slice .no [(bz 32++[(.v (.int .u32 4294967295)),(.v (.int .u32 1)),(.slice .no [])])]),(.slice .no [[(.v (.int .i64 1000)),(.slice .no [[(b8 1)],[(b8 1)],[(b8 1)],[(b8 5)]])]]),(.v (.int .u32 0))]])]))),[])
noncomputable def Bb:PV:=(.agg ([(.v (.int .u32 1))]++(bs [61,203,117,189,137,197,20,104,21,221,192,209,215,49,76,183,70,25,253,247,43,253,106,115,55,132,161,91,255,182,29,187,97,228,166,135,80,63,52,148,101,13,25,29,89,117,227,159,228,238,226,170,227,84,108,105,186,52,19,141,87,189,48,35]++[(.v (.int .u32 1021)),(.v (.int .u32 545259519)),(.v (.int .u32 4)),(.slice .no [[(.v (.int .u32 1)),(.slice .no [(bz 32++[(.v (.int .u32 4294967295)),(.v (.int .u32 1)),(.slice .no [])])]),(.slice .no [[(.v (.int .i64 1000)),(.slice .no [[(b8 1)],[(b8 1)],[(b8 1)],[(b8 5)]])]]),(.v (.int .u32 0))]])])))
noncomputable def Hh:PV:=(.agg ([(.v (.int .u32 1))]++(bs [61,203,117,189,137,197,20,104,21,221,192,209,215,49,76,183,70,25,253,247,43,253,106,115,55,132,161,91,255,182,29,187,97,228,166,135,80,63,52,148,101,13,25,29,89,117,227,159,228,238,226,170,227,84,108,105,186,52,19,141,87,189,48,35]++[(.v (.int .u32 1021)),(.v (.int .u32 545259519)),(.v (.int .u32 4))])))
noncomputable def V89:RT:=((.tup [(.agg ([(.v (.int .i64 1))]++(bs [122,254,140,107,122,124,222,94,142,209,86,197,39,222,173,150,166,172,188,200,221,7,238,246,58,2,186,154,58,238,174,254]++[(.slice .no [(bs [37,205,216,223,81,203,80,27,2,210,68,135,186,37,122,45,54,153,215,87,97,164,65,30,18,4,133,45,141,199,157,21]++[(.v (.int .u32 0)),(.v (.int .i64 1000)),(.slice .no [[(b8 1)],[(b8 1)],[(b8 1)],[(b8 5)]]),(.v (.int .i64 1)),(.v (.bool .true))])])]))),(.agg [(.slice .no [])]),(.one (.v (.int .i64 0)))]),[])
noncomputable def V91:RT:=((.tup [(.agg ([(.v (.int .i64 1))]++(bs [122,254,140,107,122,124,222,94,142,209,86,197,39,222,173,150,166,172,188,200,221,7,238,246,58,2,186,154,58,238,174,254]++[(.v (.int .u32 545259519)),(.v (.int .u32 1000)),(.slice .no [[(.v (.int .u32 1000))],[(.v (.int .u32 1021))]])]))),(.one (.v (.int .i64 0)))]),[])
noncomputable def V90:RT:=((.one (.v (.int .i64 0))),[])
noncomputable def V49:RT:=((.agg ([(.v (.int .u32 1))]++(bz 64++[(.v (.int .u32 1000)),(.v (.int .u32 545259519)),(.v (.int .u32 0)),(.v (.int .u64 18446744073709551615)),(.v (.int .u64 18446744073709551615)),(.v (.int .u64 18446744073709551615)),(.v (.int .u64 9223372036854775807)),(.v (.int .i64 3)),(.v (.int .u32 5)),(.v (.int .u32 600)),(.v (.int .u32 1)),(.slice .no []),(.v (.int .i64 1000)),(.v (.int .i64 4)),(.v (.int .i64 0)),(.own 69 [([(.v (.int .u32 1))]++(bs [61,203,117,189,137,197,20,104,21,221,192,209,215,49,76,183,70,25,253,247,43,253,106,115,55,132,161,91,255,182,29,187,97,228,166,135,80,63,52,148,101,13,25,29,89,117,227,159,228,238,226,170,227,84,108,105,186,52,19,141,87,189,48,35]++[(.v (.int .u32 1021)),(.v (.int .u32 545259519)),(.v (.int .u32 4)),(.slice .no [[(.v (.int .u32 1)),(.slice .no [(bz 32++[(.v (.int .u32 4294967295)),(.v (.int .u32 1)),(.slice .no [])])]),(.slice .no [[(.v (.int .i64 1000)),(.slice .no [[(b8 1)],[(b8 1)],[(b8 1)],[(b8 5)]])]]),(.v (.int .u32 0))]])]))]),(.own 34 [([(.v (.int .i64 0))]++(bs [61,203,117,189,137,197,20,104,21,221,192,209,215,49,76,183,70,25,253,247,43,253,106,115,55,132,161,91,255,182,29,187]++[(.slice .no [])])),([(.v (.int .i64 1))]++(bs [122,254,140,107,122,124,222,94,142,209,86,197,39,222,173,150,166,172,188,200,221,7,238,246,58,2,186,154,58,238,174,254]++[(.slice .no [(bs [37,205,216,223,81,203,80,27,2,210,68,135,186,37,122,45,54,153,215,87,97,164,65,30,18,4,133,45,141,199,157,21]++[(.v (.int .u32 0)),(.v (.int .i64 1000)),(.slice .no [[(b8 1)],[(b8 1)],[(b8 1)],[(b8 5)]]),(.v (.int .i64 1)),(.v (.bool .true))])])]))]),(.own 36 [([(.v (.int .i64 0))]++(bs [61,203,117,189,137,197,20,104,21,221,192,209,215,49,76,183,70,25,253,247,43,253,106,115,55,132,161,91,255,182,29,187]++[(.v (.int .u32 545259519)),(.v (.int .u32 1000)),(.slice .no [[(.v (.int .u32 1000))]])])),([(.v (.int .i64 1))]++(bs [122,254,140,107,122,124,222,94,142,209,86,197,39,222,173,150,166,172,188,200,221,7,238,246,58,2,186,154,58,238,174,254]++[(.v (.int .u32 545259519)),(.v (.int .u32 1000)),(.slice .no [[(.v (.int .u32 1000))],[(.v (.int .u32 1021))]])]))]),(.own 1 [[(.slice .no [])]])]))),[])
noncomputable def V20:RT:=((.agg ([(.v (.int .u32 1))]++(bz 64++[(.v (.int .u32 1000)),(.v (.int .u32 545259519)),(.v (.int .u32 0)),(.v (.int .u64 18446744073709551615)),(.v (.int .u64 18446744073709551615)),(.v (.int .u64 18446744073709551615)),(.v (.int .u64 9223372036854775807)),(.v (.int .i64 3)),(.v (.int .u32 5)),(.v (.int .u32 600)),(.v (.int .u32 1)),(.slice .no []),(.v (.int .i64 1000)),(.v (.int .i64 4)),(.v (.int .i64 0)),(.own 69 [([(.v (.int .u32 1))]++(bs [61,203,117,189,137,197,20,104,21,221,192,209,215,49,76,183,70,25,253,247,43,253,106,115,55,132,161,91,255,182,29,187,97,228,166,135,80,63,52,148,101,13,25,29,89,117,227,159,228,238,226,170,227,84,108,105,186,52,19,141,87,189,48,35]++[(.v (.int .u32 1021)),(.v (.int .u32 545259519)),(.v (.int .u32 4)),(.slice .no [[(.v (.int .u32 1)),(.slice .no [(bz 32++[(.v (.int .u32 4294967295)),(.v (.int .u32 1)),(.slice .no [])])]),(.slice .no [[(.v (.int .i64 1000)),(.slice .no [[(b8 1)],[(b8 1)],[(b8 1)],[(b8 5)]])]]),(.v (.int .u32 0))]])]))]),(.own 34 [([(.v (.int .i64 0))]++(bs [61,203,117,189,137,197,20,104,21,221,192,209,215,49,76,183,70,25,253,247,43,253,106,115,55,132,161,91,255,182,29,187]++[(.slice .no [])])),([(.v (.int .i64 1))]++(bs [122,254,140,107,122,124,222,94,142,209,86,197,39,222,173,150,166,172,188,200,221,7,238,246,58,2,186,154,58,238,174,254]++[(.slice .no [(bs [37,205,216,223,81,203,80,27,2,210,68,135,186,37,122,45,54,153,215,87,97,164,65,30,18,4,133,45,141,199,157,21]++[(.v (.int .u32 0)),(.v (.int .i64 1000)),(.slice .no [[(b8 1)],[(b8 1)],[(b8 1)],[(b8 5)]]),(.v (.int .i64 1)),(.v (.bool .true))])])]))]),(.own 36 [([(.v (.int .i64 0))]++(bs [61,203,117,189,137,197,20,104,21,221,192,209,215,49,76,183,70,25,253,247,43,253,106,115,55,132,161,91,255,182,29,187]++[(.v (.int .u32 545259519)),(.v (.int .u32 1000)),(.slice .no [[(.v (.int .u32 1000))]])])),([(.v (.int .i64 1))]++(bs [122,254,140,107,122,124,222,94,142,209,86,197,39,222,173,150,166,172,188,200,221,7,238,246,58,2,186,154,58,238,174,254]++[(.v (.int .u32 545259519)),(.v (.int .u32 1000)),(.slice .no [[(.v (.int .u32 1000))],[(.v (.int .u32 1021))]])]))]),(.own 1 [[(.slice .no [])]])]))),[])
noncomputable def Bd:PV:=(.agg ([(.v (.int .u32 1))]++(bs [61,203,117,189,137,197,20,104,21,221,192,209,215,49,76,183,70,25,253,247,43,253,106,115,55,132,161,91,255,182,29,187,97,228,166,135,80,63,52,148,101,13,25,29,89,117,227,159,228,238,226,170,227,84,108,105,186,52,19,141,87,189,48,35]++[(.v (.int .u32 1021)),(.v (.int .u32 545259519)),(.v (.int .u32 4)),(.slice .no [[(.v (.int .u32 1)),(.slice .no [(bz 32++[(.v (.int .u32 4294967295)),(.v (.int .u32 1)),(.slice .no [])])]),(.slice .no [[(.v (.int .i64 1000)),(.slice .no [[(b8 1)],[(b8 1)],[(b8 1)],[(b8 5)]])]]),(.v (.int .u32 0))]])])))
noncomputable def V11:RT:=((.tup [(.agg [(.v (.int .i64 1)),(.slice .no [[(b8 108)],[(b8 96)]])]),(.one (.v (.int .i64 0)))]),[])
noncomputable def V14:RT:=((.one (.own 1 [[(.slice .no [[(b8 1)],[(b8 1)],[(b8 1)],[(b8 5)]])]])),[])
noncomputable def V22:RT:=((.agg (bs [122,254,140,107,122,124,222,94,142,209,86,197,39,222,173,150,166,172,188,200,221,7,238,246,58,2,186,154,58,238,174,254])),[])
noncomputable def Fd:PV:=(.agg [(.v (.int .i64 1)),(.slice .no [[(b8 108)],[(b8 96)]])])
noncomputable def Id:PV:=(.one (.slice .no [[(.slice .no [[(b8 1)],[(b8 1)],[(b8 1)],[(b8 5)]])]]))
noncomputable def V18:RT:=((.tup [(.one (.v (.bool .true))),(.one (.v (.int .i64 0)))]),[])
noncomputable def GV42:RF:=gvF (d1 (ZjS .u8)) (fun x=>YG x) R42
theorem gv42:Zh Tryz.prog G 42 GV42:=ZcF E42i v42 (d1 (ZjS .u8)) (fun ps x h=>(ZhY fun _ _=>ZlP) h) (fun x=>(Le.refl _:Le (YG x) (YG x)))
noncomputable def GV37:RF:=gvF (d1 (dHdr)) (fun x=>ZhN (Zd9 x)) K37.R
theorem gv37:Zh Tryz.prog G 37 GV37:=ZcF (enc:=K37.E) (g:=K37.g) (R:=K37.R) i37 v37 (d1 (dHdr)) (fun ps x h=>(ZhY fun _ _=>ZoE) h) (fun x=>(ZtB _:Le (ZhN (Zd9 x)) (ZbJ x)))
noncomputable def GV210:RF:=gvF (d1 (ZjR .u64)) (fun x=>X3 x) ZpK
theorem gv210:Zh Tryz.prog G 210 GV210:=ZcF E210i v210 (d1 (ZjR .u64)) (fun ps x h=>(ZhY fun _ _=>ZlO) h) (fun x=>(Le.refl _:Le (X3 x) (X3 x)))
noncomputable def GV51:RF:=gvF (d1 (ZjS .u8)) (fun x=>ZhN x) K51.R
theorem gv51:Zh Tryz.prog G 51 GV51:=ZcF (enc:=K51.E) (g:=K51.g) (R:=K51.R) i51 v51 (d1 (ZjS .u8)) (fun ps x h=>(ZhY fun _ _=>ZlP) h) (fun x=>(ZrX _:Le (ZhN x) (ZaJ x)))
noncomputable def GV188:RF:=gvF (d1 (ZjR .u32)) (fun x=>Ze6 x) K188.R
theorem gv188:Zh Tryz.prog G 188 GV188:=ZcF (enc:=K188.E) (g:=K188.g) (R:=K188.R) i188 v188 (d1 (ZjR .u32)) (fun ps x h=>(ZhY fun _ _=>ZlO) h) (fun x=>(Lec.h:Le (Ze6 x) (Zdm x)))
noncomputable def GV189:RF:=gvF (d2 (Zib .u64 4) (Zib .u64 4)) (fun x=>Zhd x.1 x.2) K189.R
theorem gv189:Zh Tryz.prog G 189 GV189:=ZcF (enc:=K189.E) (g:=K189.g) (R:=K189.R) i189 v189 (d2 (Zib .u64 4) (Zib .u64 4)) (fun ps x h=>(Zsq (fun _ _=>Zkg) (fun _ _=>Zkg)) h) (fun x=>(Lec.h:Le (Zhd x.1 x.2) (ZfI x.1 x.2)))
noncomputable def GV22:RF:=gvF (d1 (dHdr)) (fun x=>ZhN (Zd9 x)) K22.R
theorem gv22:Zh Tryz.prog G 22 GV22:=ZcF (enc:=K22.E) (g:=K22.g) (R:=K22.R) i22 v22 (d1 (dHdr)) (fun ps x h=>(ZhY fun _ _=>ZoE) h) (fun x=>(Zsg _:Le (ZhN (Zd9 x)) (ZbK x)))
noncomputable def GV190:RF:=gvF (d1 (Zib .u8 32)) (fun x=>Zdc x) K190.R
theorem gv190:Zh Tryz.prog G 190 GV190:=ZcF (enc:=K190.E) (g:=K190.g) (R:=K190.R) i190 v190 (d1 (Zib .u8 32)) (fun ps x h=>(ZhY fun _ _=>Zkg) h) (fun x=>(Lec.h:Le (Zdc x) (ZbZ x)))
noncomputable def GV95:RF:=gvF (d1 (ZjS .u8)) (fun x=>ZkP x) R95
theorem gv95:Zh Tryz.prog G 95 GV95:=ZcF E95i v95 (d1 (ZjS .u8)) (fun ps x h=>(ZhY fun _ _=>ZlP) h) (fun x=>(ZrW _:Le (ZkP x) (ZaE x)))
noncomputable def GV143:RF:=gvF (d2 (Zib .u64 4) (ZjR .i64)) (fun x=>ZfJ x.1 x.2) K143.R
theorem gv143:Zh Tryz.prog G 143 GV143:=ZcF (enc:=K143.E) (g:=K143.g) (R:=K143.R) i143 v143 (d2 (Zib .u64 4) (ZjR .i64)) (fun ps x h=>(Zsq (fun _ _=>Zkg) (fun _ _=>ZlO)) h) (fun x=>(Lec.h:Le (ZfJ x.1 x.2) (Zc9 x.1 x.2)))
noncomputable def X79:RF:=xf [] [] false Tryz.f79
theorem x79:IX 79 X79:=by refine xi ?_ Tryz.func79 (by kernel_rfl); exact trivial
noncomputable def X43:RF:=xf [(79,X79)] [] false Tryz.f43
theorem x43:IX 43 X43:=by refine xi ?_ Tryz.func43 (by kernel_rfl); exact ⟨.inl x79,trivial⟩
noncomputable def X97:RF:=xf [] [] true Tryz.f97
theorem x97:IX 97 X97:=by refine xi ?_ Tryz.func97 (by kernel_rfl); exact trivial
noncomputable def X119:RF:=xf [] [(3,⟨[0,5,9,10],[8],[]⟩)] true Tryz.f119
theorem x119:IX 119 X119:=by refine xi ?_ Tryz.func119 (by kernel_rfl); exact trivial
noncomputable def X80:RF:=xf [(97,X97),(119,X119)] [] true Tryz.f80
theorem x80:IX 80 X80:=by refine xi ?_ Tryz.func80 (by kernel_rfl); exact ⟨.inl x97,.inl x119,trivial⟩
noncomputable def X81:RF:=xf [(97,X97)] [] true Tryz.f81
theorem x81:IX 81 X81:=by refine xi ?_ Tryz.func81 (by kernel_rfl); exact ⟨.inl x97,trivial⟩
noncomputable def X44:RF:=xf [(80,X80),(81,X81)] [] true Tryz.f44
theorem x44:IX 44 X44:=by refine xi ?_ Tryz.func44 (by kernel_rfl); exact ⟨.inl x80,.inl x81,trivial⟩
noncomputable def X14:RF:=xf [(42,GV42),(43,X43),(44,X44)] [(3,⟨[3,11,12,13],[33],[(3,none,33,1)]⟩),(6,⟨[3,5,11,12,13,18,19,20],[5,33],[]⟩),(1000010,⟨[3,5,11,12,13,18,19,20],[5,33],[]⟩),(13,⟨[3,11,12,13,38,39,40],[33],[]⟩)] true Tryz.f14
theorem x14:IX 14 X14:=by refine xi ?_ Tryz.func14 (by kernel_rfl); exact ⟨.inl gv42,.inl x43,.inl x44,trivial⟩
theorem e14:X14 [Bd]=some V14:=by kernel_rfl
noncomputable def Y14:=cst [Bd] V14
theorem y14:Zh Tryz.prog G 14 Y14:=ZcE x14 e14
noncomputable def X98:RF:=xf [(97,X97),(119,X119)] [] true Tryz.f98
theorem x98:IX 98 X98:=by refine xi ?_ Tryz.func98 (by kernel_rfl); exact ⟨.inl x97,.inl x119,trivial⟩
noncomputable def X99:RF:=xf [(97,X97),(119,X119)] [] true Tryz.f99
theorem x99:IX 99 X99:=by refine xi ?_ Tryz.func99 (by kernel_rfl); exact ⟨.inl x97,.inl x119,trivial⟩
noncomputable def X56:RF:=xf [(80,X80),(97,X97),(98,X98),(99,X99)] [] true Tryz.f56
theorem x56:IX 56 X56:=by refine xi ?_ Tryz.func56 (by kernel_rfl); exact ⟨.inl x80,.inl x97,.inl x98,.inl x99,trivial⟩
noncomputable def X67:RF:=xf [(80,X80),(81,X81)] [] true Tryz.f67
theorem x67:IX 67 X67:=by refine xi ?_ Tryz.func67 (by kernel_rfl); exact ⟨.inl x80,.inl x81,trivial⟩
noncomputable def X55:RF:=xf [(56,X56),(97,X97)] [] true Tryz.f55
theorem x55:IX 55 X55:=by refine xi ?_ Tryz.func55 (by kernel_rfl); exact ⟨.inl x56,.inl x97,trivial⟩
noncomputable def X108:RF:=xf [(44,X44),(55,X55),(56,X56),(80,X80),(99,X99)] [(4,⟨[1,2,5,25,26,27],[2,16],[]⟩),(11,⟨[1,2,5,50,51,52],[2,16],[]⟩),(20,⟨[5,77,78,79],[16],[]⟩),(24,⟨[5,77,78,79,91,92,93],[16],[]⟩)] true Tryz.f108
theorem x108:IX 108 X108:=by refine xi ?_ Tryz.func108 (by kernel_rfl); exact ⟨.inl x44,.inl x55,.inl x56,.inl x80,.inl x99,trivial⟩
noncomputable def X107:RF:=xf [(108,X108)] [(4,⟨[1,20,21,22],[1],[]⟩),(10,⟨[1,37,38,39],[1],[]⟩),(15,⟨[1,37,38,39,48,49,50],[1],[]⟩)] false Tryz.f107
theorem x107:IX 107 X107:=by refine xi ?_ Tryz.func107 (by kernel_rfl); exact ⟨.inl x108,trivial⟩
noncomputable def X68:RF:=xf [(107,X107),(108,X108)] [] false Tryz.f68
theorem x68:IX 68 X68:=by refine xi ?_ Tryz.func68 (by kernel_rfl); exact ⟨.inl x107,.inl x108,trivial⟩
noncomputable def X35:RF:=xf [(56,X56),(67,X67),(68,X68)] [(5,⟨[4,22,23,24],[20],[]⟩)] false Tryz.f35
theorem x35:IX 35 X35:=by refine xi ?_ Tryz.func35 (by kernel_rfl); exact ⟨.inl x56,.inl x67,.inl x68,trivial⟩
noncomputable def X69:RF:=xf [] [(3,⟨[3,6,7,8],[],[]⟩)] false Tryz.f69
theorem x69:IX 69 X69:=by refine xi ?_ Tryz.func69 (by kernel_rfl); exact trivial
noncomputable def X36:RF:=xf [(69,X69)] [] false Tryz.f36
theorem x36:IX 36 X36:=by refine xi ?_ Tryz.func36 (by kernel_rfl); exact ⟨.inl x69,trivial⟩
noncomputable def X199:RF:=xf [] [] false Tryz.f199
theorem x199:IX 199 X199:=by refine xi ?_ Tryz.func199 (by kernel_rfl); exact trivial
noncomputable def X156:RF:=xf [(199,X199)] [] false Tryz.f156
theorem x156:IX 156 X156:=by refine xi ?_ Tryz.func156 (by kernel_rfl); exact ⟨.inl x199,trivial⟩
noncomputable def X109:RF:=xf [(156,X156)] [(2,⟨[0,3],[],[]⟩)] false Tryz.f109
theorem x109:IX 109 X109:=by refine xi ?_ Tryz.func109 (by kernel_rfl); exact ⟨.inl x156,trivial⟩
noncomputable def X157:RF:=xf [] [] false Tryz.f157
theorem x157:IX 157 X157:=by refine xi ?_ Tryz.func157 (by kernel_rfl); exact trivial
noncomputable def X158:RF:=xf [] [] true Tryz.f158
theorem x158:IX 158 X158:=by refine xi ?_ Tryz.func158 (by kernel_rfl); exact trivial
noncomputable def X159_1:RF:=xf [] [(1000002,⟨[0,1],[1000000,67000000],[]⟩),(1000004,⟨[0],[1000000,67000000],[]⟩)] false Tryz.f159
theorem x159_1:IX 159 X159_1:=by refine xi ?_ Tryz.func159 (by kernel_rfl); exact trivial
noncomputable def X160_2:RF:=Xj tt (Av.tab [(159,X159_1)] (fun d=>if d=20 then [[1]] else [])) G (fun i=>if i=1 then ⟨[0,1,2,7,8],[1000000,67000000],[]⟩ else ⟨[],[],[]⟩) false 100000 Tryz.f160
theorem x160_2:Zh Tryz.prog G 160 X160_2:=by
  refine Zcv mixed htt ?_ Tryz.func160 (by kernel_rfl);exact Av.tab_ok ⟨.inl x159_1,trivial⟩
noncomputable def X110:RF:=Xj tt (Av.tab [(157,X157),(158,X158),(159,X159_1),(160,X160_2)] (fun d=>if d=44 then [[1]] else if d=47 then [[1]] else if d=51 then [[1]] else [])) G (fun i=>if i=10 then ⟨[1,2,6,9,40,41],[6,39,3002496],[]⟩ else ⟨[],[],[]⟩) false 100000 Tryz.f110
theorem x110:Zh Tryz.prog G 110 X110:=by
  refine Zcv mixed htt ?_ Tryz.func110 (by kernel_rfl);exact Av.tab_ok ⟨.inl x157,.inl x158,.inl x159_1,.inl x160_2,trivial⟩
noncomputable def X70:RF:=xf [(109,X109),(110,X110)] [(10,⟨[0,1,4,6,7,27,28,29],[4,6],[(6,some 0,0,0)]⟩)] false Tryz.f70
theorem x70:IX 70 X70:=by refine xi ?_ Tryz.func70 (by kernel_rfl); exact ⟨.inl x109,.inl x110,trivial⟩
noncomputable def X161:RF:=xf [] [] false Tryz.f161
theorem x161:IX 161 X161:=by refine xi ?_ Tryz.func161 (by kernel_rfl); exact trivial
noncomputable def X111:RF:=xf [(161,X161)] [] false Tryz.f111
theorem x111:IX 111 X111:=by refine xi ?_ Tryz.func111 (by kernel_rfl); exact ⟨.inl x161,trivial⟩
noncomputable def X200:RF:=xf [] [] false Tryz.f200
theorem x200:IX 200 X200:=by refine xi ?_ Tryz.func200 (by kernel_rfl); exact trivial
noncomputable def X163:RF:=xf [(200,X200)] [(2,⟨[2,4,5,6],[2,4],[]⟩)] false Tryz.f163
theorem x163:IX 163 X163:=by refine xi ?_ Tryz.func163 (by kernel_rfl); exact ⟨.inl x200,trivial⟩
noncomputable def X162:RF:=xf [(163,X163)] [] false Tryz.f162
theorem x162:IX 162 X162:=by refine xi ?_ Tryz.func162 (by kernel_rfl); exact ⟨.inl x163,trivial⟩
noncomputable def X112:RF:=xf [(69,X69),(162,X162),(163,X163)] [(4,⟨[1,5,6,24,25],[5],[]⟩)] false Tryz.f112
theorem x112:IX 112 X112:=by refine xi ?_ Tryz.func112 (by kernel_rfl); exact ⟨.inl x69,.inl x162,.inl x163,trivial⟩
noncomputable def X201_3:RF:=xf [(156,X156)] [(1,⟨[0,1,2,6],[1000000],[]⟩),(1000002,⟨[0,1,2,6],[1000000],[]⟩),(4,⟨[0,1,2,6,7],[1000000],[]⟩)] false Tryz.f201
theorem x201_3:IX 201 X201_3:=by refine xi ?_ Tryz.func201 (by kernel_rfl); exact ⟨.inl x156,trivial⟩
noncomputable def X228_4:RF:=xf [(156,X156)] [(1,⟨[0,2,3,8],[1000000],[]⟩),(1000005,⟨[0,2,3,8,9],[1000000],[]⟩)] false Tryz.f228
theorem x228_4:IX 228 X228_4:=by refine xi ?_ Tryz.func228 (by kernel_rfl); exact ⟨.inl x156,trivial⟩
noncomputable def X202_5:RF:=Xj tt (Av.tab [(228,X228_4)] (fun d=>if d=26 then [[1000001]] else if d=55 then [[1000001]] else [])) G (fun i=>if i=4 then ⟨[0,6,7,8,9],[1000000],[]⟩ else if i=8 then ⟨[0,6,7,10],[1000000],[]⟩ else ⟨[],[],[]⟩) false 100000 Tryz.f202
theorem x202_5:Zh Tryz.prog G 202 X202_5:=by
  refine Zcv mixed htt ?_ Tryz.func202 (by kernel_rfl);exact Av.tab_ok ⟨.inl x228_4,trivial⟩
noncomputable def X165:RF:=xf [(210,GV210)] [] false Tryz.f165
theorem x165:IX 165 X165:=by refine xi ?_ Tryz.func165 (by kernel_rfl); exact ⟨.inl gv210,trivial⟩
noncomputable def X229:RF:=xf [(165,X165)] [] false Tryz.f229
theorem x229:IX 229 X229:=by refine xi ?_ Tryz.func229 (by kernel_rfl); exact ⟨.inl x165,trivial⟩
noncomputable def X230:RF:=xf [] [] false Tryz.f230
theorem x230:IX 230 X230:=by refine xi ?_ Tryz.func230 (by kernel_rfl); exact trivial
noncomputable def X203_11:RF:=xf [(229,X229),(230,X230)] [(5,⟨[0,1,6,7,8,9],[7,1000000],[]⟩),(1000010,⟨[0,1,6,7,8,9,10],[7,1000000],[]⟩)] false Tryz.f203
theorem x203_11:IX 203 X203_11:=by refine xi ?_ Tryz.func203 (by kernel_rfl); exact ⟨.inl x229,.inl x230,trivial⟩
noncomputable def X240:RF:=xf [(156,X156)] [] false Tryz.f240
theorem x240:IX 240 X240:=by refine xi ?_ Tryz.func240 (by kernel_rfl); exact ⟨.inl x156,trivial⟩
noncomputable def X232:RF:=xf [(240,X240)] [] false Tryz.f232
theorem x232:IX 232 X232:=by refine xi ?_ Tryz.func232 (by kernel_rfl); exact ⟨.inl x240,trivial⟩
noncomputable def X231:RF:=xf [(232,X232)] [] false Tryz.f231
theorem x231:IX 231 X231:=by refine xi ?_ Tryz.func231 (by kernel_rfl); exact ⟨.inl x232,trivial⟩
noncomputable def X204:RF:=xf [(231,X231),(232,X232)] [(1000012,⟨[9,11],[9],[]⟩),(1000011,⟨[0,9,10,11,12],[9],[]⟩)] false Tryz.f204
theorem x204:IX 204 X204:=by refine xi ?_ Tryz.func204 (by kernel_rfl); exact ⟨.inl x231,.inl x232,trivial⟩
noncomputable def X205_6:RF:=xf [] [(2,⟨[0,6,7],[1000000],[]⟩)] false Tryz.f205
theorem x205_6:IX 205 X205_6:=by refine xi ?_ Tryz.func205 (by kernel_rfl); exact trivial
noncomputable def X206_7:RF:=xf [(156,X156)] [(3,⟨[0,1,2,7,8],[1000000],[]⟩),(1000007,⟨[0,1,2,7,8],[1000000],[]⟩),(1000018,⟨[0,1,2,7,8],[1000000],[]⟩),(1000004,⟨[0,1,2,7,8],[1000000],[]⟩),(20,⟨[0,1,2,7,8,10],[1000000],[]⟩),(14,⟨[0,1,2,7,8,9],[1000000],[]⟩),(5,⟨[0,1,2,7,8],[1000000],[]⟩)] false Tryz.f206
theorem x206_7:IX 206 X206_7:=by refine xi ?_ Tryz.func206 (by kernel_rfl); exact ⟨.inl x156,trivial⟩
noncomputable def X207_8:RF:=xf [(156,X156)] [(1000007,⟨[0,1,9,10],[1000000],[]⟩),(5,⟨[0,1,9,10],[1000000],[]⟩),(3,⟨[0,1,9,10],[1000000],[]⟩)] false Tryz.f207
theorem x207_8:IX 207 X207_8:=by refine xi ?_ Tryz.func207 (by kernel_rfl); exact ⟨.inl x156,trivial⟩
noncomputable def X208_9:RF:=xf [(156,X156)] [(1000007,⟨[0,1,10,11],[1000000],[]⟩),(1000017,⟨[0,1,10,11],[1000000],[]⟩),(15,⟨[0,1,10,11],[1000000],[]⟩),(13,⟨[0,1,10,11],[1000000],[]⟩),(5,⟨[0,1,10,11],[1000000],[]⟩),(3,⟨[0,1,10,11],[1000000],[]⟩)] false Tryz.f208
theorem x208_9:IX 208 X208_9:=by refine xi ?_ Tryz.func208 (by kernel_rfl); exact ⟨.inl x156,trivial⟩
noncomputable def X164_10:RF:=Xj tt (Av.tab [(156,X156),(201,X201_3),(202,X202_5),(203,X203_11),(204,X204),(205,X205_6),(206,X206_7),(207,X207_8),(208,X208_9)] (fun d=>if d=27 then [[1000001]] else if d=33 then [[1000001]] else if d=39 then [[1000001]] else if d=54 then [[1000001]] else if d=72 then [[1000001]] else if d=92 then [[1000001]] else if d=99 then [[1000001]] else if d=121 then [[1000001]] else if d=132 then [[1000001]] else [])) G (fun i=>if i=2 then ⟨[0,1,2,3,8,9],[1000000],[]⟩ else if i=1000010 then ⟨[0,1,2,3,8,9,10],[1000000],[]⟩ else if i=1000015 then ⟨[0,1,2,3,8,9,10,11,12],[1000000],[]⟩ else if i=1000017 then ⟨[0,1,2,3,8,9,10,11],[1000000],[]⟩ else ⟨[],[],[]⟩) false 100000 Tryz.f164
theorem x164_10:Zh Tryz.prog G 164 X164_10:=by
  refine Zcv mixed htt ?_ Tryz.func164 (by kernel_rfl);exact Av.tab_ok ⟨.inl x156,.inl x201_3,.inl x202_5,.inl x203_11,.inl x204,.inl x205_6,.inl x206_7,.inl x207_8,.inl x208_9,trivial⟩
noncomputable def X113_12:RF:=Xj tt (Av.tab [(164,X164_10),(165,X165)] (fun d=>if d=10 then [[1000001]] else [])) G (fun i=>⟨[],[],[]⟩) false 100000 Tryz.f113
theorem x113_12:Zh Tryz.prog G 113 X113_12:=by
  refine Zcv mixed htt ?_ Tryz.func113 (by kernel_rfl);exact Av.tab_ok ⟨.inl x164_10,.inl x165,trivial⟩
noncomputable def X71:RF:=Xj tt (Av.tab [(111,X111),(112,X112),(113,X113_12)] (fun d=>if d=31 then [[1000001]] else [])) G (fun i=>if i=3 then ⟨[2,3,4,9,12,13,14],[4,28],[(9,none,28,1)]⟩ else ⟨[],[],[]⟩) true 100000 Tryz.f71
theorem x71:Zh Tryz.prog G 71 X71:=by
  refine Zcv mixed htt ?_ Tryz.func71 (by kernel_rfl);exact Av.tab_ok ⟨.inl x111,.inl x112,.inl x113_12,trivial⟩
noncomputable def X38:RF:=xf [(70,X70),(71,X71)] [(8,⟨[2,3,4,8,10,11,34,35,36],[4,8,51,1000000000033],[(11,none,51,1)]⟩),(1000013,⟨[2,3,4,8,10,11,34,35,36],[4,8,51,1000000000033],[]⟩)] false Tryz.f38
theorem x38:IX 38 X38:=by refine xi ?_ Tryz.func38 (by kernel_rfl); exact ⟨.inl x70,.inl x71,trivial⟩
noncomputable def X11:RF:=xf [(14,Y14),(35,X35),(36,X36),(37,GV37),(38,X38)] [] false Tryz.f11
theorem x11:IX 11 X11:=by refine xi ?_ Tryz.func11 (by kernel_rfl); exact ⟨.inl y14,.inl x35,.inl x36,.inl gv37,.inl x38,trivial⟩
theorem e11:X11 [Bd]=some V11:=by kernel_rfl
noncomputable def Y11:=cst [Bd] V11
theorem y11:Zh Tryz.prog G 11 Y11:=ZcE x11 e11
noncomputable def X171:RF:=xf [] [] false Tryz.f171
theorem x171:IX 171 X171:=by refine xi ?_ Tryz.func171 (by kernel_rfl); exact trivial
noncomputable def X172:RF:=xf [(171,X171)] [(3,⟨[1,3,7,9,10],[3],[]⟩),(1000008,⟨[1,3,7,9,10],[3],[]⟩)] false Tryz.f172
theorem x172:IX 172 X172:=by refine xi ?_ Tryz.func172 (by kernel_rfl); exact ⟨.inl x171,trivial⟩
noncomputable def X120:RF:=xf [(157,X157),(171,X171),(172,X172)] [(1000010,⟨[1,2,3,9],[3],[]⟩),(6,⟨[1,2,3,9],[3],[]⟩)] false Tryz.f120
theorem x120:IX 120 X120:=by refine xi ?_ Tryz.func120 (by kernel_rfl); exact ⟨.inl x157,.inl x171,.inl x172,trivial⟩
noncomputable def X121:RF:=xf [(157,X157),(172,X172)] [] false Tryz.f121
theorem x121:IX 121 X121:=by refine xi ?_ Tryz.func121 (by kernel_rfl); exact ⟨.inl x157,.inl x172,trivial⟩
noncomputable def X84:RF:=xf [(120,X120),(121,X121)] [(9,⟨[1,6,7,8,9,48,49],[6,46],[]⟩)] false Tryz.f84
theorem x84:IX 84 X84:=by refine xi ?_ Tryz.func84 (by kernel_rfl); exact ⟨.inl x120,.inl x121,trivial⟩
noncomputable def X122_13:RF:=xf [] [(4,⟨[0,3],[99000000],[]⟩),(9,⟨[0,3,4,5],[99000000],[]⟩),(1000010,⟨[0,3,4,5],[99000000],[]⟩)] true Tryz.f122
theorem x122_13:IX 122 X122_13:=by refine xi ?_ Tryz.func122 (by kernel_rfl); exact trivial
noncomputable def X85:RF:=Xj tt (Av.tab [(71,X71),(122,X122_13)] (fun d=>if d=32 then [[1]] else [])) G (fun i=>⟨[],[],[]⟩) false 100000 Tryz.f85
theorem x85:Zh Tryz.prog G 85 X85:=by
  refine Zcv mixed htt ?_ Tryz.func85 (by kernel_rfl);exact Av.tab_ok ⟨.inl x71,.inl x122_13,trivial⟩
noncomputable def X47:RF:=xf [(84,X84),(85,X85)] [(9,⟨[12,15,39,40,41],[],[]⟩),(1000013,⟨[12,15,17,39,40,41],[],[]⟩),(11,⟨[12,15,17,39,40,41],[],[]⟩)] false Tryz.f47
theorem x47:IX 47 X47:=by refine xi ?_ Tryz.func47 (by kernel_rfl); exact ⟨.inl x84,.inl x85,trivial⟩
noncomputable def X18:RF:=xf [(36,X36),(47,X47)] [(3,⟨[3,4,8,11,12,13],[3,4,23],[(8,none,23,1)]⟩),(1000007,⟨[3,4,8,11,12,13],[3,4,23],[]⟩)] false Tryz.f18
theorem x18:IX 18 X18:=by refine xi ?_ Tryz.func18 (by kernel_rfl); exact ⟨.inl x36,.inl x47,trivial⟩
theorem e18:X18 [Fd,V22.1,Id]=some V18:=by kernel_rfl
noncomputable def Y18:=cst [Fd,V22.1,Id] V18
theorem y18:Zh Tryz.prog G 18 Y18:=ZcE x18 e18
noncomputable def X24:RF:=xf [] [] true Tryz.f24
theorem x24:IX 24 X24:=by refine xi ?_ Tryz.func24 (by kernel_rfl); exact trivial
noncomputable def X82:RF:=xf [] [] true Tryz.f82
theorem x82:IX 82 X82:=by refine xi ?_ Tryz.func82 (by kernel_rfl); exact trivial
noncomputable def X96:RF:=xf [] [(3,⟨[0,5,10,11],[8],[]⟩)] true Tryz.f96
theorem x96:IX 96 X96:=by refine xi ?_ Tryz.func96 (by kernel_rfl); exact trivial
noncomputable def X53:RF:=xf [(82,X82),(96,X96)] [] true Tryz.f53
theorem x53:IX 53 X53:=by refine xi ?_ Tryz.func53 (by kernel_rfl); exact ⟨.inl x82,.inl x96,trivial⟩
noncomputable def X54:RF:=xf [(82,X82)] [] true Tryz.f54
theorem x54:IX 54 X54:=by refine xi ?_ Tryz.func54 (by kernel_rfl); exact ⟨.inl x82,trivial⟩
noncomputable def X23:RF:=xf [(53,X53),(54,X54)] [] true Tryz.f23
theorem x23:IX 23 X23:=by refine xi ?_ Tryz.func23 (by kernel_rfl); exact ⟨.inl x53,.inl x54,trivial⟩
noncomputable def X61:RF:=xf [(82,X82),(96,X96)] [] true Tryz.f61
theorem x61:IX 61 X61:=by refine xi ?_ Tryz.func61 (by kernel_rfl); exact ⟨.inl x82,.inl x96,trivial⟩
noncomputable def X60:RF:=xf [(61,X61),(82,X82)] [] true Tryz.f60
theorem x60:IX 60 X60:=by refine xi ?_ Tryz.func60 (by kernel_rfl); exact ⟨.inl x61,.inl x82,trivial⟩
noncomputable def X211:RF:=xf [(82,X82),(96,X96)] [] true Tryz.f211
theorem x211:IX 211 X211:=by refine xi ?_ Tryz.func211 (by kernel_rfl); exact ⟨.inl x82,.inl x96,trivial⟩
noncomputable def X166:RF:=xf [(60,X60),(211,X211)] [] true Tryz.f166
theorem x166:IX 166 X166:=by refine xi ?_ Tryz.func166 (by kernel_rfl); exact ⟨.inl x60,.inl x211,trivial⟩
noncomputable def X114:RF:=xf [(23,X23),(53,X53),(60,X60),(61,X61),(166,X166)] [(4,⟨[1,2,5,24,25,26],[2,900005],[(5,none,900005,0),(5,none,900005,1)]⟩),(10,⟨[1,2,5,46,47,48],[2,44],[]⟩),(1000026,⟨[5],[900005],[]⟩),(16,⟨[1,5,62,63,64],[900005],[(5,none,900005,0),(5,none,900005,1)]⟩),(21,⟨[1,5,62,63,64,77,78,79],[900005],[(5,none,900005,0),(5,none,900005,1)]⟩)] true Tryz.f114
theorem x114:IX 114 X114:=by refine xi ?_ Tryz.func114 (by kernel_rfl); exact ⟨.inl x23,.inl x53,.inl x60,.inl x61,.inl x166,trivial⟩
noncomputable def X72:RF:=xf [(114,X114)] [(4,⟨[1,20,21,22],[1],[]⟩),(10,⟨[1,37,38,39],[1],[]⟩),(15,⟨[1,37,38,39,48,49,50],[1],[]⟩)] false Tryz.f72
theorem x72:IX 72 X72:=by refine xi ?_ Tryz.func72 (by kernel_rfl); exact ⟨.inl x114,trivial⟩
noncomputable def X176:RF:=xf [(51,GV51),(72,X72),(114,X114)] [] false Tryz.f176
theorem x176:IX 176 X176:=by refine xi ?_ Tryz.func176 (by kernel_rfl); exact ⟨.inl gv51,.inl x72,.inl x114,trivial⟩
noncomputable def X125:RF:=xf [(176,X176)] [(5,⟨[2,3,4,8,9,10,11],[3,4,23,75],[(8,none,75,4)]⟩),(9,⟨[2,3,4,8,9,10,11,12,13],[3,4,23,75],[]⟩)] true Tryz.f125
theorem x125:IX 125 X125:=by refine xi ?_ Tryz.func125 (by kernel_rfl); exact ⟨.inl x176,trivial⟩
noncomputable def X177:RF:=xf [] [] false Tryz.f177
theorem x177:IX 177 X177:=by refine xi ?_ Tryz.func177 (by kernel_rfl); exact trivial
noncomputable def X126:RF:=xf [(177,X177)] [] true Tryz.f126
theorem x126:IX 126 X126:=by refine xi ?_ Tryz.func126 (by kernel_rfl); exact ⟨.inl x177,trivial⟩
noncomputable def X192:RF:=xf [] [] false Tryz.f192
theorem x192:IX 192 X192:=by refine xi ?_ Tryz.func192 (by kernel_rfl); exact trivial
noncomputable def X145:RF:=xf [(188,GV188),(189,GV189),(192,X192)] [(6,⟨[1,59,60,61],[1],[]⟩)] false Tryz.f145
theorem x145:IX 145 X145:=by refine xi ?_ Tryz.func145 (by kernel_rfl); exact ⟨.inl gv188,.inl gv189,.inl x192,trivial⟩
noncomputable def X127:RF:=xf [(145,X145)] [(1000008,⟨[5],[],[]⟩),(5,⟨[5,6],[],[]⟩)] false Tryz.f127
theorem x127:IX 127 X127:=by refine xi ?_ Tryz.func127 (by kernel_rfl); exact ⟨.inl x145,trivial⟩
noncomputable def X139:RF:=xf [(145,X145)] [] false Tryz.f139
theorem x139:IX 139 X139:=by refine xi ?_ Tryz.func139 (by kernel_rfl); exact ⟨.inl x145,trivial⟩
noncomputable def X140:RF:=xf [(188,GV188),(189,GV189),(190,GV190)] [] false Tryz.f140
theorem x140:IX 140 X140:=by refine xi ?_ Tryz.func140 (by kernel_rfl); exact ⟨.inl gv188,.inl gv189,.inl gv190,trivial⟩
noncomputable def X141:RF:=xf [] [(3,⟨[3,7,8,9],[37],[(3,none,37,1)]⟩),(1000008,⟨[3,5,6,7,8,9],[37],[]⟩),(6,⟨[3,5,6,7,8,9],[37],[]⟩)] false Tryz.f141
theorem x141:IX 141 X141:=by refine xi ?_ Tryz.func141 (by kernel_rfl); exact trivial
noncomputable def X128:RF:=xf [(22,GV22),(139,X139),(140,X140),(141,X141)] [(4,⟨[8,9,11],[8,11],[]⟩)] false Tryz.f128
theorem x128:IX 128 X128:=by refine xi ?_ Tryz.func128 (by kernel_rfl); exact ⟨.inl gv22,.inl x139,.inl x140,.inl x141,trivial⟩
noncomputable def X178:RF:=xf [(51,GV51),(72,X72),(114,X114)] [] false Tryz.f178
theorem x178:IX 178 X178:=by refine xi ?_ Tryz.func178 (by kernel_rfl); exact ⟨.inl gv51,.inl x72,.inl x114,trivial⟩
noncomputable def X45:RF:=xf [(82,X82)] [(3,⟨[3,6,7,8],[900003],[(3,none,900003,0),(3,none,900003,1)]⟩)] true Tryz.f45
theorem x45:IX 45 X45:=by refine xi ?_ Tryz.func45 (by kernel_rfl); exact ⟨.inl x82,trivial⟩
noncomputable def X233:RF:=xf [(45,X45),(95,GV95)] [] false Tryz.f233
theorem x233:IX 233 X233:=by refine xi ?_ Tryz.func233 (by kernel_rfl); exact ⟨.inl x45,.inl gv95,trivial⟩
noncomputable def X213:RF:=xf [(233,X233)] [(2,⟨[0,3],[7],[]⟩),(5,⟨[0,3,4,5],[7,900004],[(4,none,900004,32)]⟩),(1000006,⟨[0,3,4,5],[7,900004],[]⟩)] true Tryz.f213
theorem x213:IX 213 X213:=by refine xi ?_ Tryz.func213 (by kernel_rfl); exact ⟨.inl x233,trivial⟩
noncomputable def X179:RF:=xf [(213,X213)] [] false Tryz.f179
theorem x179:IX 179 X179:=by refine xi ?_ Tryz.func179 (by kernel_rfl); exact ⟨.inl x213,trivial⟩
noncomputable def X129:RF:=xf [(178,X178),(179,X179)] [(3,⟨[2,3,6,7,8],[2,16],[(3,none,16,32)]⟩)] false Tryz.f129
theorem x129:IX 129 X129:=by refine xi ?_ Tryz.func129 (by kernel_rfl); exact ⟨.inl x178,.inl x179,trivial⟩
noncomputable def X130:RF:=xf [] [] false Tryz.f130
theorem x130:IX 130 X130:=by refine xi ?_ Tryz.func130 (by kernel_rfl); exact trivial
noncomputable def X88:RF:=xf [(24,X24),(125,X125),(126,X126),(127,X127),(128,X128),(129,X129),(130,X130)] [] true Tryz.f88
theorem x88:IX 88 X88:=by refine xi ?_ Tryz.func88 (by kernel_rfl); exact ⟨.inl x24,.inl x125,.inl x126,.inl x127,.inl x128,.inl x129,.inl x130,trivial⟩
theorem e88:X88 [Pp,Ll,Cc,s0]=some V88:=by kernel_rfl
noncomputable def Y88:=cst [Pp,Ll,Cc,s0] V88
theorem y88:Zh Tryz.prog G 88 Y88:=ZcE x88 e88
noncomputable def X214:RF:=xf [] [(2,⟨[2,3,6],[2,3],[]⟩)] false Tryz.f214
theorem x214:IX 214 X214:=by refine xi ?_ Tryz.func214 (by kernel_rfl); exact trivial
noncomputable def X180:RF:=xf [(214,X214)] [(5,⟨[1,3,21,22,23],[1],[]⟩)] false Tryz.f180
theorem x180:IX 180 X180:=by refine xi ?_ Tryz.func180 (by kernel_rfl); exact ⟨.inl x214,trivial⟩
noncomputable def X52:RF:=xf [(53,X53),(54,X54)] [(4,⟨[3,22,23,24],[22,900003],[(3,none,900003,0),(3,none,900003,1)]⟩)] true Tryz.f52
theorem x52:IX 52 X52:=by refine xi ?_ Tryz.func52 (by kernel_rfl); exact ⟨.inl x53,.inl x54,trivial⟩
noncomputable def X115:RF:=xf [(72,X72),(114,X114)] [] false Tryz.f115
theorem x115:IX 115 X115:=by refine xi ?_ Tryz.func115 (by kernel_rfl); exact ⟨.inl x72,.inl x114,trivial⟩
noncomputable def X73:RF:=xf [(52,X52),(61,X61),(115,X115)] [(3,⟨[3,17,18,19],[15],[]⟩)] true Tryz.f73
theorem x73:IX 73 X73:=by refine xi ?_ Tryz.func73 (by kernel_rfl); exact ⟨.inl x52,.inl x61,.inl x115,trivial⟩
noncomputable def X39:RF:=xf [(72,X72),(73,X73)] [(4,⟨[1,10,11,12],[1],[]⟩)] false Tryz.f39
theorem x39:IX 39 X39:=by refine xi ?_ Tryz.func39 (by kernel_rfl); exact ⟨.inl x72,.inl x73,trivial⟩
noncomputable def X83:RF:=xf [] [] false Tryz.f83
theorem x83:IX 83 X83:=by refine xi ?_ Tryz.func83 (by kernel_rfl); exact trivial
noncomputable def X46:RF:=xf [(83,X83)] [] false Tryz.f46
theorem x46:IX 46 X46:=by refine xi ?_ Tryz.func46 (by kernel_rfl); exact ⟨.inl x83,trivial⟩
noncomputable def X215:RF:=xf [(46,X46),(72,X72),(83,X83)] [(7,⟨[1,3,24,25,26],[1],[]⟩),(16,⟨[1,42,43],[1],[]⟩),(19,⟨[1,6,7,42,43],[1],[]⟩),(25,⟨[1,66,67,68],[1],[]⟩)] false Tryz.f215
theorem x215:IX 215 X215:=by refine xi ?_ Tryz.func215 (by kernel_rfl); exact ⟨.inl x46,.inl x72,.inl x83,trivial⟩
noncomputable def X216:RF:=xf [] [(2,⟨[0,3,7,8],[3],[]⟩)] false Tryz.f216
theorem x216:IX 216 X216:=by refine xi ?_ Tryz.func216 (by kernel_rfl); exact trivial
noncomputable def X217:RF:=xf [(216,X216)] [(2,⟨[1,10,11,12],[],[]⟩),(5,⟨[1,5,10,11,12,18,19,20],[],[]⟩)] false Tryz.f217
theorem x217:IX 217 X217:=by refine xi ?_ Tryz.func217 (by kernel_rfl); exact ⟨.inl x216,trivial⟩
noncomputable def X218:RF:=xf [] [(3,⟨[3,11,12,13],[39],[(3,none,39,33)]⟩),(6,⟨[3,11,12,13,18,19,20],[39],[]⟩),(9,⟨[3,7,11,12,13,18,19,20,24,25,26],[7,39],[]⟩)] false Tryz.f218
theorem x218:IX 218 X218:=by refine xi ?_ Tryz.func218 (by kernel_rfl); exact trivial
noncomputable def X181:RF:=xf [(39,X39),(46,X46),(129,X129),(176,X176),(215,X215),(216,X216),(217,X217),(218,X218)] [(6,⟨[1,20,21,22],[1],[]⟩),(13,⟨[1,5,34,35,36],[1],[]⟩),(20,⟨[1,5,47,48,49],[1,62],[(5,none,62,32)]⟩)] false Tryz.f181
theorem x181:IX 181 X181:=by refine xi ?_ Tryz.func181 (by kernel_rfl); exact ⟨.inl x39,.inl x46,.inl x129,.inl x176,.inl x215,.inl x216,.inl x217,.inl x218,trivial⟩
noncomputable def X182:RF:=xf [] [(4,⟨[13,14,15],[],[]⟩)] false Tryz.f182
theorem x182:IX 182 X182:=by refine xi ?_ Tryz.func182 (by kernel_rfl); exact trivial
noncomputable def X131:RF:=xf [(145,X145),(180,X180),(181,X181),(182,X182)] [] false Tryz.f131
theorem x131:IX 131 X131:=by refine xi ?_ Tryz.func131 (by kernel_rfl); exact ⟨.inl x145,.inl x180,.inl x181,.inl x182,trivial⟩
noncomputable def X135:RF:=xf [] [(2,⟨[0,3,7,8],[3],[]⟩)] false Tryz.f135
theorem x135:IX 135 X135:=by refine xi ?_ Tryz.func135 (by kernel_rfl); exact trivial
noncomputable def X183:RF:=xf [(45,X45)] [] true Tryz.f183
theorem x183:IX 183 X183:=by refine xi ?_ Tryz.func183 (by kernel_rfl); exact ⟨.inl x45,trivial⟩
noncomputable def X132:RF:=xf [(135,X135),(183,X183)] [(3,⟨[1,3,4,10,17,18,19],[4,36],[(10,none,36,37)]⟩),(11,⟨[3,4,10,38,39,40],[4,36],[]⟩)] false Tryz.f132
theorem x132:IX 132 X132:=by refine xi ?_ Tryz.func132 (by kernel_rfl); exact ⟨.inl x135,.inl x183,trivial⟩
noncomputable def X134:RF:=xf [] [] true Tryz.f134
theorem x134:IX 134 X134:=by refine xi ?_ Tryz.func134 (by kernel_rfl); exact trivial
noncomputable def X138:RF:=xf [(46,X46),(176,X176)] [(4,⟨[1,2,5,6,12,13,14],[2,6,30],[(5,none,30,37)]⟩)] true Tryz.f138
theorem x138:IX 138 X138:=by refine xi ?_ Tryz.func138 (by kernel_rfl); exact ⟨.inl x46,.inl x176,trivial⟩
noncomputable def X186:RF:=xf [(183,X183),(214,X214)] [(3,⟨[0,3,5,8,9],[3,27],[(5,none,27,37)]⟩),(1000007,⟨[0,3,5,8,9],[3,27],[]⟩)] false Tryz.f186
theorem x186:IX 186 X186:=by refine xi ?_ Tryz.func186 (by kernel_rfl); exact ⟨.inl x183,.inl x214,trivial⟩
noncomputable def X136:RF:=xf [(135,X135),(138,X138),(186,X186)] [(2,⟨[0,2,4,14,15,16],[4,14],[]⟩),(8,⟨[0,28,29,30],[28],[]⟩)] false Tryz.f136
theorem x136:IX 136 X136:=by refine xi ?_ Tryz.func136 (by kernel_rfl); exact ⟨.inl x135,.inl x138,.inl x186,trivial⟩
noncomputable def X137:RF:=xf [] [(3,⟨[3,6,7,8],[],[]⟩)] false Tryz.f137
theorem x137:IX 137 X137:=by refine xi ?_ Tryz.func137 (by kernel_rfl); exact trivial
noncomputable def X89:RF:=xf [(22,GV22),(127,X127),(131,X131),(132,X132),(134,X134),(135,X135),(136,X136),(137,X137),(138,X138)] [(7,⟨[3,5,6,7,10,11,12,46,47,48],[3,5,6,7,10,11,105],[(11,some 0,105,37)]⟩)] false Tryz.f89
theorem x89:IX 89 X89:=by refine xi ?_ Tryz.func89 (by kernel_rfl); exact ⟨.inl gv22,.inl x127,.inl x131,.inl x132,.inl x134,.inl x135,.inl x136,.inl x137,.inl x138,trivial⟩
theorem e89:X89 [Pp,Ll,Bb]=some V89:=by kernel_rfl
noncomputable def Y89:=cst [Pp,Ll,Bb] V89
theorem y89:Zh Tryz.prog G 89 Y89:=ZcE x89 e89
noncomputable def X142:RF:=xf [(145,X145)] [] false Tryz.f142
theorem x142:IX 142 X142:=by refine xi ?_ Tryz.func142 (by kernel_rfl); exact ⟨.inl x145,trivial⟩
noncomputable def X91:RF:=xf [(22,GV22),(142,X142)] [(1000008,⟨[4,5,6,8],[4,5,6,8],[]⟩),(1000011,⟨[6,8],[6,8,39],[]⟩)] false Tryz.f91
theorem x91:IX 91 X91:=by refine xi ?_ Tryz.func91 (by kernel_rfl); exact ⟨.inl gv22,.inl x142,trivial⟩
theorem e91:X91 [Pp,Cc,Hh]=some V91:=by kernel_rfl
noncomputable def Y91:=cst [Pp,Cc,Hh] V91
theorem y91:Zh Tryz.prog G 91 Y91:=ZcE x91 e91
noncomputable def X90:RF:=xf [(91,Y91),(139,X139),(140,X140),(141,X141)] [(20,⟨[9,74,75,76],[9],[]⟩)] false Tryz.f90
theorem x90:IX 90 X90:=by refine xi ?_ Tryz.func90 (by kernel_rfl); exact ⟨.inl y91,.inl x139,.inl x140,.inl x141,trivial⟩
theorem e90:X90 [Pp,Cc,Hh,.one (.v (.int .u32 1073741824))]=some V90:=by kernel_rfl
noncomputable def Y90:=cst [Pp,Cc,Hh,.one (.v (.int .u32 1073741824))] V90
theorem y90:Zh Tryz.prog G 90 Y90:=ZcE x90 e90
noncomputable def X49_14:RF:=xf [(88,Y88),(89,Y89),(90,Y90),(91,Y91)] [(4,⟨[2,4,29,30,31],[2,4,15,18,23,26],[]⟩)] true Tryz.f49
theorem x49_14:IX 49 X49_14:=by refine xi ?_ Tryz.func49 (by kernel_rfl); exact ⟨.inl y88,.inl y89,.inl y90,.inl y91,trivial⟩
theorem e49_14:X49_14 [V50.1,s1]=some V49:=by kernel_rfl
noncomputable def Y49_14:=cst [V50.1,s1] V49
theorem y49_14:Zh Tryz.prog G 49 Y49_14:=ZcE x49_14 e49_14
noncomputable def X144:RF:=xf [] [] false Tryz.f144
theorem x144:IX 144 X144:=by refine xi ?_ Tryz.func144 (by kernel_rfl); exact trivial
noncomputable def X92:RF:=xf [(143,GV143),(144,X144)] [] false Tryz.f92
theorem x92:IX 92 X92:=by refine xi ?_ Tryz.func92 (by kernel_rfl); exact ⟨.inl gv143,.inl x144,trivial⟩
noncomputable def X93:RF:=xf [(22,GV22),(145,X145)] [] false Tryz.f93
theorem x93:IX 93 X93:=by refine xi ?_ Tryz.func93 (by kernel_rfl); exact ⟨.inl gv22,.inl x145,trivial⟩
noncomputable def X94:RF:=xf [(22,GV22),(145,X145)] [] false Tryz.f94
theorem x94:IX 94 X94:=by refine xi ?_ Tryz.func94 (by kernel_rfl); exact ⟨.inl gv22,.inl x145,trivial⟩
noncomputable def X50:RF:=xf [(92,X92),(93,X93),(94,X94)] [] true Tryz.f50
theorem x50:IX 50 X50:=by refine xi ?_ Tryz.func50 (by kernel_rfl); exact ⟨.inl x92,.inl x93,.inl x94,trivial⟩
theorem e50:X50 [s0]=some V50:=by kernel_rfl
noncomputable def Y50:=cst [s0] V50
theorem y50:Zh Tryz.prog G 50 Y50:=ZcE x50 e50
noncomputable def X20:RF:=Xj tt (Av.tab [(49,Y49_14),(50,Y50)] (fun d=>if d=8 then [[0,0,0,0,0,0,0,0,0,0,0,0,0,0,0,0,0,0,0,0,0,0,0,0,0,0,0,0,0,0,0,0,0,0,0,0,0,0,0,0,0,0,0,0,0,0,0,0,0,0,0,0,0,0,0,0,0,0,0,0,0,0,0,0,0,0,0,0,0,0,0,0,0,0,0,0,0,0,0,0,0,34,36]] else [])) G (fun i=>⟨[],[],[]⟩) true 100000 Tryz.f20
theorem x20:Zh Tryz.prog G 20 X20:=by
  refine Zcv mixed htt ?_ Tryz.func20 (by kernel_rfl);exact Av.tab_ok ⟨.inl y49_14,.inl y50,trivial⟩
theorem e20:X20 [s0,s1]=some V20:=by kernel_rfl
noncomputable def Y20:=cst [s0,s1] V20
theorem y20:Zh Tryz.prog G 20 Y20:=ZcE x20 e20
noncomputable def X9:RF:=xf [(11,Y11),(14,Y14),(18,Y18),(20,Y20),(22,GV22),(24,X24)] [] false Tryz.f9
theorem x9:IX 9 X9:=by refine xi ?_ Tryz.func9 (by kernel_rfl); exact ⟨.inl y11,.inl y14,.inl y18,.inl y20,.inl gv22,.inl x24,trivial⟩
theorem sane_val:X9 []=some (.one (.v (.bool true)),[]):=by kernel_rfl
theorem v9:Zh Tryz.prog G 9 K9.G:=ZjQ x9 fun ps r h=>by
  obtain ⟨x,rfl,h2⟩:=ZdZ h;obtain ⟨y,hy,rfl⟩:=Option.map_eq_some_iff.1 h2;obtain rfl:true=y:=Option.some.inj hy;exact sane_val
theorem v3:Zh Tryz.prog G 3 G3:=mkI (T:=Av.tab [(9,K9.G),(10,K10.G),(11,K11.G),(12,K12.G),(13,K13.G),(14,K14.G),(15,K15.G),(16,K16.G)]) (enc:=E3) (R:=R3) (g:=fun x:Tapi_Block=>Zag x) mixed htt (Av.tab_ok ⟨.inl v9,.inl v10,.inl v11,.inl v12,.inl v13,.inl v14,.inl v15,.inl v16,trivial⟩) Tryz.func3 body3 (by kernel_rfl) fun x y hy=>w3 rfl rfl rfl rfl rfl rfl rfl rfl rfl x y hy
end Go.Proofs.YthpkpciceodioaaGreatDoor
