import Derived.Test.YtjdoijdjeapekaaLfW1
import Derived.Test.YtjdoijdjeapekaaLfW2
import Derived.Test.YtjdoijdjeapekaaLfW3
import Derived.Test.YtjdoijdjeapekaaLfW4
import Derived.Test.YtjdoijdjeapekaaLfW5
import Derived.Test.YtjdoijdjeapekaaLfW6
import Derived.Test.YtjdoijdjeapekaaLfW7
import Derived.Test.YtjdoijdjeapekaaLfW8
import Derived.Test.YtjdoijdjeapekaaLfW9
import Derived.Test.YtjdoijdjeapekaaLfW10
import Derived.Test.YtjdoijdjeapekaaLfW11
namespace Go.Proofs.Ytjdoijdjeapekaa
open Go.RowKit
open Go.Av
open Go.Lc
set_option maxRecDepth 100000
set_option linter.unusedSimpArgs false
set_option linter.unusedVariables false
variable {G : Glob}
theorem v14 : Impl Try.prog G 14 K14.G:=mkW mixed htt w14 trivial Try.func14 body14 (by kernel_rfl)
theorem v16 : Impl Try.prog G 16 K16.G:=mkW mixed htt w16 trivial Try.func16 body16 (by kernel_rfl)
theorem v4 : Impl Try.prog G 4 K4.G:=mkW mixed htt w4 ⟨.inl v14,.inl v16,trivial⟩ Try.func4 body4 (by kernel_rfl)
theorem v5 : Impl Try.prog G 5 K5.G:=mkW mixed htt w5 trivial Try.func5 body5 (by kernel_rfl)
theorem v8 : Impl Try.prog G 8 K8.G:=mkW mixed htt w8 trivial Try.func8 body8 (by kernel_rfl)
theorem v31 : Impl Try.prog G 31 K31.G:=mkW mixed htt w31 trivial Try.func31 body31 (by kernel_rfl)
theorem v17 : Impl Try.prog G 17 K17.G:=mkW mixed htt w17 ⟨.inl v8,.inl v31,trivial⟩ Try.func17 body17 (by kernel_rfl)
theorem v18 : Impl Try.prog G 18 K18.G:=mkW mixed htt w18 trivial Try.func18 body18 (by kernel_rfl)
theorem v19 : Impl Try.prog G 19 K19.G:=mkW mixed htt w19 ⟨.inl v17,trivial⟩ Try.func19 body19 (by kernel_rfl)
theorem v6 : Impl Try.prog G 6 K6.G:=mkW mixed htt w6 ⟨.inl v17,.inl v18,.inl v19,trivial⟩ Try.func6 body6 (by kernel_rfl)
theorem v7 : Impl Try.prog G 7 K7.G:=mkW mixed htt w7 ⟨.inl v17,.inl v18,.inl v19,trivial⟩ Try.func7 body7 (by kernel_rfl)
theorem v9 : Impl Try.prog G 9 K9.G:=mkW mixed htt w9 ⟨.inl v8,.inl v18,trivial⟩ Try.func9 body9 (by kernel_rfl)
theorem v55 : Impl Try.prog G 55 K55.G:=mkW mixed htt w55 trivial Try.func55 body55 (by kernel_rfl)
theorem v56 : Impl Try.prog G 56 K56.G:=mkW mixed htt w56 trivial Try.func56 body56 (by kernel_rfl)
theorem v47 : Impl Try.prog G 47 K47.G:=mkW mixed htt w47 ⟨.inl v55,.inl v56,trivial⟩ Try.func47 body47 (by kernel_rfl)
theorem v50 : Impl Try.prog G 50 K50.G:=mkW mixed htt w50 ⟨.inl v55,.inl v56,trivial⟩ Try.func50 body50 (by kernel_rfl)
theorem v57 : Impl Try.prog G 57 K57.G:=mkW mixed htt w57 ⟨.inl v55,.inl v56,trivial⟩ Try.func57 body57 (by kernel_rfl)
theorem v48 : Impl Try.prog G 48 K48.G:=mkW mixed htt w48 ⟨.inl v47,.inl v50,.inl v55,.inl v57,trivial⟩ Try.func48 body48 (by kernel_rfl)
theorem v58 : Impl Try.prog G 58 K58.G:=mkW mixed htt w58 ⟨.inl v55,trivial⟩ Try.func58 body58 (by kernel_rfl)
theorem v49 : Impl Try.prog G 49 K49.G:=mkW mixed htt w49 ⟨.inl v47,.inl v58,trivial⟩ Try.func49 body49 (by kernel_rfl)
theorem v51 : Impl Try.prog G 51 K51.G:=mkW mixed htt w51 ⟨.inl v48,.inl v55,trivial⟩ Try.func51 body51 (by kernel_rfl)
theorem v36 : Impl Try.prog G 36 K36.G:=mkW mixed htt w36 ⟨.inl v47,.inl v48,.inl v49,.inl v50,.inl v51,trivial⟩ Try.func36 body36 (by kernel_rfl)
theorem v35 : Impl Try.prog G 35 K35.G:=mkW mixed htt w35 ⟨.inl v36,trivial⟩ Try.func35 body35 (by kernel_rfl)
theorem v24 : Impl Try.prog G 24 K24.G:=mkW mixed htt w24 ⟨.inl v35,.inl v36,trivial⟩ Try.func24 body24 (by kernel_rfl)
theorem v15 : Impl Try.prog G 15 K15.G:=mkW mixed htt w15 ⟨.inl v24,.inl v30,trivial⟩ Try.func15 body15 (by kernel_rfl)
theorem v32 : Impl Try.prog G 32 K32.G:=mkW mixed htt w32 trivial Try.func32 body32 (by kernel_rfl)
theorem v33 : Impl Try.prog G 33 K33.G:=mkW mixed htt w33 trivial Try.func33 body33 (by kernel_rfl)
theorem v20 : Impl Try.prog G 20 K20.G:=mkW mixed htt w20 ⟨.inl v32,.inl v33,trivial⟩ Try.func20 body20 (by kernel_rfl)
theorem v43 : Impl Try.prog G 43 K43.G:=mkW mixed htt w43 trivial Try.func43 body43 (by kernel_rfl)
theorem v44 : Impl Try.prog G 44 K44.G:=mkW mixed htt w44 trivial Try.func44 body44 (by kernel_rfl)
theorem v45_1n : ∀ n,Impl Try.prog G 45 (G45_1n n)
  | 0=>impl_never Try.func45 body45 (by kernel_rfl) (never_lift fun _=>rfl)
  | n + 1=>mkI (T:=Av.tab [(45,G45_1n n),(53,G53)] (fun d=>if d = 67 then [[0,0,1]] else if d = 86 then [[0,0,1]] else [])) (enc:=E45_1) (R:=R45_1) (g:=fun x : Tselection_search×Int×Int=>Lselection_search_visit_n (n + 1) x.1 x.2.1 x.2.2) mixed htt (Av.tab_ok ⟨.inl (v45_1n n),.inl v53,trivial⟩) Try.func45 body45 (by kernel_rfl) fun x y hy=>w45_1 n rfl rfl rfl x.1 x.2.1 x.2.2 y hy
theorem v45_1 : Impl Try.prog G 45 G45_1:=impl_fix v45_1n
theorem v54_2 : Impl Try.prog G 54 K54_2.G:=mkW mixed htt w54_2 ⟨.inl v44,trivial⟩ Try.func54 body54 (by kernel_rfl)
theorem v46_3n : ∀ n,Impl Try.prog G 46 (G46_3n n)
  | 0=>impl_never Try.func46 body46 (by kernel_rfl) (never_lift fun _=>rfl)
  | n + 1=>mkI (T:=Av.tab [(46,G46_3n n),(54,K54_2.G)] (fun d=>if d = 15 then [[0,0,0,1]] else if d = 55 then [[0,0,0,1]] else if d = 60 then [[0,0,0,1]] else [])) (enc:=E46_3) (R:=R46_3) (g:=fun x : Tselection_certificate×Int×Int=>Lselection_certificate_branch_n (n + 1) x.1 x.2.1 x.2.2) mixed htt (Av.tab_ok ⟨.inl (v46_3n n),.inl v54_2,trivial⟩) Try.func46 body46 (by kernel_rfl) fun x y hy=>w46_3 n rfl rfl rfl x.1 x.2.1 x.2.2 y hy
theorem v46_3 : Impl Try.prog G 46 G46_3:=impl_fix v46_3n
theorem v34 : Impl Try.prog G 34 K34.G:=mkW mixed htt w34 ⟨.inl v43,.inl v44,.inl v45_1,.inl v46_3,trivial⟩ Try.func34 body34 (by kernel_rfl)
theorem v22 : Impl Try.prog G 22 K22.G:=mkW mixed htt w22 ⟨.inl v14,.inl v16,.inl v34,trivial⟩ Try.func22 body22 (by kernel_rfl)
theorem v23 : Impl Try.prog G 23 K23.G:=mkW mixed htt w23 trivial Try.func23 body23 (by kernel_rfl)
theorem v38 : Impl Try.prog G 38 K38.G:=mkW mixed htt w38 trivial Try.func38 body38 (by kernel_rfl)
theorem v26 : Impl Try.prog G 26 K26.G:=mkW mixed htt w26 ⟨.inl v38,trivial⟩ Try.func26 body26 (by kernel_rfl)
theorem v37 : Impl Try.prog G 37 K37.G:=mkW mixed htt w37 trivial Try.func37 body37 (by kernel_rfl)
theorem v25 : Impl Try.prog G 25 K25.G:=mkW mixed htt w25 ⟨.inl v26,.inl v35,.inl v37,trivial⟩ Try.func25 body25 (by kernel_rfl)
theorem v10 : Impl Try.prog G 10 G10:=mkI (T:=Av.tab [(14,K14.G),(15,K15.G),(20,K20.G),(21,G21),(22,K22.G),(23,K23.G),(24,K24.G),(25,K25.G)]) (enc:=E10) (R:=R10) (g:=fun x : (List Tapi_Spendable)×(List Tapi_Output)×(List Int)×Int×Int×Int=>Lbuild_Make x.1 x.2.1 x.2.2.1 x.2.2.2.1 x.2.2.2.2.1 x.2.2.2.2.2) mixed htt (Av.tab_ok ⟨.inl v14,.inl v15,.inl v20,.inl v21,.inl v22,.inl v23,.inl v24,.inl v25,trivial⟩) Try.func10 body10 (by kernel_rfl) fun x y hy=>w10 rfl rfl rfl rfl rfl rfl rfl rfl rfl x.1 x.2.1 x.2.2.1 x.2.2.2.1 x.2.2.2.2.1 x.2.2.2.2.2 y hy
theorem v39 : Impl Try.prog G 39 K39.G:=mkW mixed htt w39 trivial Try.func39 body39 (by kernel_rfl)
theorem v27 : Impl Try.prog G 27 K27.G:=mkW mixed htt w27 ⟨.inl v25,.inl v39,trivial⟩ Try.func27 body27 (by kernel_rfl)
theorem v11 : Impl Try.prog G 11 K11.G:=mkW mixed htt w11 ⟨.inl v25,.inl v26,.inl v27,trivial⟩ Try.func11 body11 (by kernel_rfl)
theorem v28 : Impl Try.prog G 28 K28.G:=mkW mixed htt w28 trivial Try.func28 body28 (by kernel_rfl)
theorem v12 : Impl Try.prog G 12 K12.G:=mkW mixed htt w12 ⟨.inl v28,trivial⟩ Try.func12 body12 (by kernel_rfl)
theorem v64 : Impl Try.prog G 64 K64.G:=mkW mixed htt w64 trivial Try.func64 body64 (by kernel_rfl)
theorem v65 : Impl Try.prog G 65 K65.G:=mkW mixed htt w65 trivial Try.func65 body65 (by kernel_rfl)
theorem v59 : Impl Try.prog G 59 K59.G:=mkW mixed htt w59 ⟨.inl v64,.inl v65,trivial⟩ Try.func59 body59 (by kernel_rfl)
theorem v60 : Impl Try.prog G 60 K60.G:=mkW mixed htt w60 ⟨.inl v64,.inl v65,trivial⟩ Try.func60 body60 (by kernel_rfl)
theorem v66 : Impl Try.prog G 66 K66.G:=mkW mixed htt w66 ⟨.inl v64,trivial⟩ Try.func66 body66 (by kernel_rfl)
theorem v61 : Impl Try.prog G 61 K61.G:=mkW mixed htt w61 ⟨.inl v59,.inl v66,trivial⟩ Try.func61 body61 (by kernel_rfl)
theorem v63 : Impl Try.prog G 63 K63.G:=mkW mixed htt w63 ⟨.inl v60,.inl v64,trivial⟩ Try.func63 body63 (by kernel_rfl)
theorem v67 : Impl Try.prog G 67 K67.G:=mkW mixed htt w67 ⟨.inl v64,.inl v65,trivial⟩ Try.func67 body67 (by kernel_rfl)
theorem v62 : Impl Try.prog G 62 K62.G:=mkW mixed htt w62 ⟨.inl v63,.inl v67,trivial⟩ Try.func62 body62 (by kernel_rfl)
theorem v52 : Impl Try.prog G 52 K52.G:=mkW mixed htt w52 ⟨.inl v59,.inl v60,.inl v61,.inl v62,.inl v63,trivial⟩ Try.func52 body52 (by kernel_rfl)
theorem v40 : Impl Try.prog G 40 K40.G:=mkW mixed htt w40 ⟨.inl v52,trivial⟩ Try.func40 body40 (by kernel_rfl)
theorem v41 : Impl Try.prog G 41 K41.G:=mkW mixed htt w41 trivial Try.func41 body41 (by kernel_rfl)
theorem v42 : Impl Try.prog G 42 K42.G:=mkW mixed htt w42 ⟨.inl v41,trivial⟩ Try.func42 body42 (by kernel_rfl)
theorem v29 : Impl Try.prog G 29 K29.G:=mkW mixed htt w29 ⟨.inl v40,.inl v41,.inl v42,trivial⟩ Try.func29 body29 (by kernel_rfl)
theorem v13 : Impl Try.prog G 13 K13.G:=mkW mixed htt w13 ⟨.inl v29,trivial⟩ Try.func13 body13 (by kernel_rfl)
theorem v3 : Impl Try.prog G 3 G3:=mkI (T:=Av.tab [(4,K4.G),(5,K5.G),(6,K6.G),(7,K7.G),(8,K8.G),(9,K9.G),(10,G10),(11,K11.G),(12,K12.G),(13,K13.G),(14,K14.G),(15,K15.G)]) (enc:=E3) (R:=R3) (g:=fun x : (List Int)×Int×Int×Int=>Llaw34_BuildBalances x.1 x.2.1 x.2.2.1 x.2.2.2) mixed htt (Av.tab_ok ⟨.inl v4,.inl v5,.inl v6,.inl v7,.inl v8,.inl v9,.inl v10,.inl v11,.inl v12,.inl v13,.inl v14,.inl v15,trivial⟩) Try.func3 body3 (by kernel_rfl) fun x y hy=>w3 rfl rfl rfl rfl rfl rfl rfl rfl rfl rfl rfl rfl rfl x.1 x.2.1 x.2.2.1 x.2.2.2 y hy
end Go.Proofs.Ytjdoijdjeapekaa
