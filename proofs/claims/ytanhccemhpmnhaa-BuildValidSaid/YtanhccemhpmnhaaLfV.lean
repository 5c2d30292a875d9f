import Derived.Test.YtanhccemhpmnhaaLfW1
import Derived.Test.YtanhccemhpmnhaaLfW2
import Derived.Test.YtanhccemhpmnhaaLfW3
import Derived.Test.YtanhccemhpmnhaaLfW4
import Derived.Test.YtanhccemhpmnhaaLfW5
import Derived.Test.YtanhccemhpmnhaaLfW6
import Derived.Test.YtanhccemhpmnhaaLfW7
import Derived.Test.YtanhccemhpmnhaaLfW8
import Derived.Test.YtanhccemhpmnhaaLfW9
import Derived.Test.YtanhccemhpmnhaaLfW10
namespace Go.Proofs.Ytanhccemhpmnhaa
open Go.RowKit
open Go.Av
open Go.Lc
set_option maxRecDepth 100000
set_option linter.unusedSimpArgs false
set_option linter.unusedVariables false
variable {G : Glob}
theorem v11 : Impl Try.prog G 11 G_Lbuild_Fee := impl_of (T := Av.tab []) mixed htt (Av.tab_ok trivial) Try.func11 body11 (by kernel_rfl) fun ps r ho hF => by
  obtain ⟨x, rfl, h⟩ := lift_inv hF
  obtain ⟨y, hy, rfl⟩ := Option.map_eq_some_iff.1 h
  exact w11 x.1 x.2 y hy
theorem v13 : Impl Try.prog G 13 G_Lbuild_InputWeight := impl_of (T := Av.tab []) mixed htt (Av.tab_ok trivial) Try.func13 body13 (by kernel_rfl) fun ps r ho hF => by
  obtain ⟨x, rfl, h⟩ := lift_inv hF
  obtain ⟨y, hy, rfl⟩ := Option.map_eq_some_iff.1 h
  exact w13 x y hy
theorem v6 : Impl Try.prog G 6 G_Llaw34_sane := impl_of (T := Av.tab [(11, G_Lbuild_Fee), (13, G_Lbuild_InputWeight)]) mixed htt (Av.tab_ok ⟨v11, v13, trivial⟩) Try.func6 body6 (by kernel_rfl) fun ps r ho hF => by
  obtain ⟨x, rfl, h⟩ := lift_inv hF
  obtain ⟨y, hy, rfl⟩ := Option.map_eq_some_iff.1 h
  exact w6 rfl rfl y hy
theorem v7 : Impl Try.prog G 7 G_Lmill_New := impl_of (T := Av.tab []) mixed htt (Av.tab_ok trivial) Try.func7 body7 (by kernel_rfl) fun ps r ho hF => by
  obtain ⟨x, rfl, h⟩ := lift_inv hF
  obtain ⟨y, hy, rfl⟩ := Option.map_eq_some_iff.1 h
  exact w7 x y hy
theorem v18 : Impl Try.prog G 18 G_Lmade_Script := impl_of (T := Av.tab []) mixed htt (Av.tab_ok trivial) Try.func18 body18 (by kernel_rfl) fun ps r ho hF => by
  obtain ⟨x, rfl, h⟩ := lift_inv hF
  obtain ⟨y, hy, rfl⟩ := Option.map_eq_some_iff.1 h
  exact w18 x y hy
theorem v10 : Impl Try.prog G 10 G_Lmill_Mod := impl_of (T := Av.tab []) mixed htt (Av.tab_ok trivial) Try.func10 body10 (by kernel_rfl) fun ps r ho hF => by
  obtain ⟨x, rfl, h⟩ := lift_inv hF
  obtain ⟨y, hy, rfl⟩ := Option.map_eq_some_iff.1 h
  exact w10 x.1 x.2 y hy
theorem v45 : Impl Try.prog G 45 G_Lmill_Deck_Left := impl_of (T := Av.tab []) mixed htt (Av.tab_ok trivial) Try.func45 body45 (by kernel_rfl) fun ps r ho hF => by
  obtain ⟨x, rfl, h⟩ := lift_inv hF
  obtain ⟨y, hy, rfl⟩ := Option.map_eq_some_iff.1 h
  exact w45 x y hy
theorem v27 : Impl Try.prog G 27 G_Lmill_Deck_Next := impl_of (T := Av.tab [(10, G_Lmill_Mod), (45, G_Lmill_Deck_Left)]) mixed htt (Av.tab_ok ⟨v10, v45, trivial⟩) Try.func27 body27 (by kernel_rfl) fun ps r ho hF => by
  obtain ⟨x, rfl, h⟩ := lift_inv hF
  obtain ⟨y, hy, rfl⟩ := Option.map_eq_some_iff.1 h
  exact w27 rfl rfl x.1 x.2 y hy
theorem v28 : Impl Try.prog G 28 G_Lmill_Deck_Range := impl_of (T := Av.tab [(27, G_Lmill_Deck_Next)]) mixed htt (Av.tab_ok ⟨v27, trivial⟩) Try.func28 body28 (by kernel_rfl) fun ps r ho hF => by
  obtain ⟨x, rfl, h⟩ := lift_inv hF
  obtain ⟨y, hy, rfl⟩ := Option.map_eq_some_iff.1 h
  exact w28 rfl x.1 x.2.1 x.2.2 y hy
theorem v29 : Impl Try.prog G 29 G_Lmill_Hash := impl_of (T := Av.tab [(27, G_Lmill_Deck_Next)]) mixed htt (Av.tab_ok ⟨v27, trivial⟩) Try.func29 body29 (by kernel_rfl) fun ps r ho hF => by
  obtain ⟨x, rfl, h⟩ := lift_inv hF
  obtain ⟨y, hy, rfl⟩ := Option.map_eq_some_iff.1 h
  exact w29 rfl x y hy
theorem v8 : Impl Try.prog G 8 G_Lmill_Tx := impl_of (T := Av.tab [(18, G_Lmade_Script), (27, G_Lmill_Deck_Next), (28, G_Lmill_Deck_Range), (29, G_Lmill_Hash)]) mixed htt (Av.tab_ok ⟨v18, v27, v28, v29, trivial⟩) Try.func8 body8 (by kernel_rfl) fun ps r ho hF => by
  obtain ⟨x, rfl, h⟩ := lift_inv hF
  obtain ⟨y, hy, rfl⟩ := Option.map_eq_some_iff.1 h
  exact w8 rfl rfl rfl rfl x y hy
theorem v9 : Impl Try.prog G 9 G_Lmill_Spendables := impl_of (T := Av.tab [(18, G_Lmade_Script), (27, G_Lmill_Deck_Next), (28, G_Lmill_Deck_Range)]) mixed htt (Av.tab_ok ⟨v18, v27, v28, trivial⟩) Try.func9 body9 (by kernel_rfl) fun ps r ho hF => by
  obtain ⟨x, rfl, h⟩ := lift_inv hF
  obtain ⟨y, hy, rfl⟩ := Option.map_eq_some_iff.1 h
  exact w9 rfl rfl rfl x.1 x.2 y hy
theorem v30 : Impl Try.prog G 30 G_Lref34_in := impl_of (T := Av.tab []) mixed htt (Av.tab_ok trivial) Try.func30 body30 (by kernel_rfl) fun ps r ho hF => by
  obtain ⟨x, rfl, h⟩ := lift_inv hF
  obtain ⟨y, hy, rfl⟩ := Option.map_eq_some_iff.1 h
  exact w30 x.1 x.2.1 x.2.2 y hy
theorem v12 : Impl Try.prog G 12 G_Lref34_Fee := impl_of (T := Av.tab [(30, G_Lref34_in)]) mixed htt (Av.tab_ok ⟨v30, trivial⟩) Try.func12 body12 (by kernel_rfl) fun ps r ho hF => by
  obtain ⟨x, rfl, h⟩ := lift_inv hF
  obtain ⟨y, hy, rfl⟩ := Option.map_eq_some_iff.1 h
  exact w12 rfl x.1 x.2 y hy
theorem v14 : Impl Try.prog G 14 G_Lref34_InputWeight := impl_of (T := Av.tab []) mixed htt (Av.tab_ok trivial) Try.func14 body14 (by kernel_rfl) fun ps r ho hF => by
  obtain ⟨x, rfl, h⟩ := lift_inv hF
  obtain ⟨y, hy, rfl⟩ := Option.map_eq_some_iff.1 h
  exact w14 x y hy
theorem v71 : Impl Try.prog G 71 G_Lcodec_extend := impl_of (T := Av.tab []) mixed htt (Av.tab_ok trivial) Try.func71 body71 (by kernel_rfl) fun ps r ho hF => by
  obtain ⟨x, rfl, h⟩ := lift_inv hF
  obtain ⟨y, hy, rfl⟩ := Option.map_eq_some_iff.1 h
  exact w71 x.1 x.2 y hy
theorem v72 : Impl Try.prog G 72 G_Lcodec_lowest := impl_of (T := Av.tab []) mixed htt (Av.tab_ok trivial) Try.func72 body72 (by kernel_rfl) fun ps r ho hF => by
  obtain ⟨x, rfl, h⟩ := lift_inv hF
  obtain ⟨y, hy, rfl⟩ := Option.map_eq_some_iff.1 h
  exact w72 x.1 x.2 y hy
theorem v57 : Impl Try.prog G 57 G_Lcodec_AppendU32 := impl_of (T := Av.tab [(71, G_Lcodec_extend), (72, G_Lcodec_lowest)]) mixed htt (Av.tab_ok ⟨v71, v72, trivial⟩) Try.func57 body57 (by kernel_rfl) fun ps r ho hF => by
  obtain ⟨x, rfl, h⟩ := lift_inv hF
  obtain ⟨y, hy, rfl⟩ := Option.map_eq_some_iff.1 h
  exact w57 rfl rfl x.1 x.2 y hy
theorem v60 : Impl Try.prog G 60 G_Lcodec_AppendU64 := impl_of (T := Av.tab [(71, G_Lcodec_extend), (72, G_Lcodec_lowest)]) mixed htt (Av.tab_ok ⟨v71, v72, trivial⟩) Try.func60 body60 (by kernel_rfl) fun ps r ho hF => by
  obtain ⟨x, rfl, h⟩ := lift_inv hF
  obtain ⟨y, hy, rfl⟩ := Option.map_eq_some_iff.1 h
  exact w60 rfl rfl x.1 x.2 y hy
theorem v73 : Impl Try.prog G 73 G_Lcodec_AppendU16 := impl_of (T := Av.tab [(71, G_Lcodec_extend), (72, G_Lcodec_lowest)]) mixed htt (Av.tab_ok ⟨v71, v72, trivial⟩) Try.func73 body73 (by kernel_rfl) fun ps r ho hF => by
  obtain ⟨x, rfl, h⟩ := lift_inv hF
  obtain ⟨y, hy, rfl⟩ := Option.map_eq_some_iff.1 h
  exact w73 rfl rfl x.1 x.2 y hy
theorem v58 : Impl Try.prog G 58 G_Lcodec_AppendSize := impl_of (T := Av.tab [(57, G_Lcodec_AppendU32), (60, G_Lcodec_AppendU64), (71, G_Lcodec_extend), (73, G_Lcodec_AppendU16)]) mixed htt (Av.tab_ok ⟨v57, v60, v71, v73, trivial⟩) Try.func58 body58 (by kernel_rfl) fun ps r ho hF => by
  obtain ⟨x, rfl, h⟩ := lift_inv hF
  obtain ⟨y, hy, rfl⟩ := Option.map_eq_some_iff.1 h
  exact w58 rfl rfl rfl rfl x.1 x.2 y hy
theorem v74 : Impl Try.prog G 74 G_Lcodec_AppendHash := impl_of (T := Av.tab [(71, G_Lcodec_extend)]) mixed htt (Av.tab_ok ⟨v71, trivial⟩) Try.func74 body74 (by kernel_rfl) fun ps r ho hF => by
  obtain ⟨x, rfl, h⟩ := lift_inv hF
  obtain ⟨y, hy, rfl⟩ := Option.map_eq_some_iff.1 h
  exact w74 rfl x.1 x.2 y hy
theorem v59 : Impl Try.prog G 59 G_Ltx_Point := impl_of (T := Av.tab [(57, G_Lcodec_AppendU32), (74, G_Lcodec_AppendHash)]) mixed htt (Av.tab_ok ⟨v57, v74, trivial⟩) Try.func59 body59 (by kernel_rfl) fun ps r ho hF => by
  obtain ⟨x, rfl, h⟩ := lift_inv hF
  obtain ⟨y, hy, rfl⟩ := Option.map_eq_some_iff.1 h
  exact w59 rfl rfl x y hy
theorem v61 : Impl Try.prog G 61 G_Lcodec_AppendBytes := impl_of (T := Av.tab [(58, G_Lcodec_AppendSize), (71, G_Lcodec_extend)]) mixed htt (Av.tab_ok ⟨v58, v71, trivial⟩) Try.func61 body61 (by kernel_rfl) fun ps r ho hF => by
  obtain ⟨x, rfl, h⟩ := lift_inv hF
  obtain ⟨y, hy, rfl⟩ := Option.map_eq_some_iff.1 h
  exact w61 rfl rfl x.1 x.2 y hy
theorem v47 : Impl Try.prog G 47 G_Ltx_encode := impl_of (T := Av.tab [(57, G_Lcodec_AppendU32), (58, G_Lcodec_AppendSize), (59, G_Ltx_Point), (60, G_Lcodec_AppendU64), (61, G_Lcodec_AppendBytes)]) mixed htt (Av.tab_ok ⟨v57, v58, v59, v60, v61, trivial⟩) Try.func47 body47 (by kernel_rfl) fun ps r ho hF => by
  obtain ⟨x, rfl, h⟩ := lift_inv hF
  obtain ⟨y, hy, rfl⟩ := Option.map_eq_some_iff.1 h
  exact w47 rfl rfl rfl rfl rfl x.1 x.2 y hy
theorem v46 : Impl Try.prog G 46 G_Ltx_fits := impl_of (T := Av.tab [(47, G_Ltx_encode)]) mixed htt (Av.tab_ok ⟨v47, trivial⟩) Try.func46 body46 (by kernel_rfl) fun ps r ho hF => by
  obtain ⟨x, rfl, h⟩ := lift_inv hF
  obtain ⟨y, hy, rfl⟩ := Option.map_eq_some_iff.1 h
  exact w46 rfl x y hy
theorem v32 : Impl Try.prog G 32 G_Ltx_Weight := impl_of (T := Av.tab [(46, G_Ltx_fits), (47, G_Ltx_encode)]) mixed htt (Av.tab_ok ⟨v46, v47, trivial⟩) Try.func32 body32 (by kernel_rfl) fun ps r ho hF => by
  obtain ⟨x, rfl, h⟩ := lift_inv hF
  obtain ⟨y, hy, rfl⟩ := Option.map_eq_some_iff.1 h
  exact w32 rfl rfl x y hy
theorem v15 : Impl Try.prog G 15 G_Lbuild_Weight := impl_of (T := Av.tab [(31, G_Lslices_Clone_of__api_Input_api_Input), (32, G_Ltx_Weight)]) mixed htt (Av.tab_ok ⟨v31, v32, trivial⟩) Try.func15 body15 (by kernel_rfl) fun ps r ho hF => by
  obtain ⟨x, rfl, h⟩ := lift_inv hF
  obtain ⟨y, hy, rfl⟩ := Option.map_eq_some_iff.1 h
  exact w15 rfl rfl x.1 x.2 y hy
theorem v75 : Impl Try.prog G 75 G_Lref01_joined := impl_of (T := Av.tab []) mixed htt (Av.tab_ok trivial) Try.func75 body75 (by kernel_rfl) fun ps r ho hF => by
  obtain ⟨x, rfl, h⟩ := lift_inv hF
  obtain ⟨y, hy, rfl⟩ := Option.map_eq_some_iff.1 h
  exact w75 x.1 x.2 y hy
theorem v76 : Impl Try.prog G 76 G_Lref01_little := impl_of (T := Av.tab []) mixed htt (Av.tab_ok trivial) Try.func76 body76 (by kernel_rfl) fun ps r ho hF => by
  obtain ⟨x, rfl, h⟩ := lift_inv hF
  obtain ⟨y, hy, rfl⟩ := Option.map_eq_some_iff.1 h
  exact w76 x.1 x.2 y hy
theorem v62 : Impl Try.prog G 62 G_Lref01_AppendU32 := impl_of (T := Av.tab [(75, G_Lref01_joined), (76, G_Lref01_little)]) mixed htt (Av.tab_ok ⟨v75, v76, trivial⟩) Try.func62 body62 (by kernel_rfl) fun ps r ho hF => by
  obtain ⟨x, rfl, h⟩ := lift_inv hF
  obtain ⟨y, hy, rfl⟩ := Option.map_eq_some_iff.1 h
  exact w62 rfl rfl x.1 x.2 y hy
theorem v63 : Impl Try.prog G 63 G_Lref01_AppendSize := impl_of (T := Av.tab [(75, G_Lref01_joined), (76, G_Lref01_little)]) mixed htt (Av.tab_ok ⟨v75, v76, trivial⟩) Try.func63 body63 (by kernel_rfl) fun ps r ho hF => by
  obtain ⟨x, rfl, h⟩ := lift_inv hF
  obtain ⟨y, hy, rfl⟩ := Option.map_eq_some_iff.1 h
  exact w63 rfl rfl x.1 x.2 y hy
theorem v77 : Impl Try.prog G 77 G_Lref01_AppendHash := impl_of (T := Av.tab [(75, G_Lref01_joined)]) mixed htt (Av.tab_ok ⟨v75, trivial⟩) Try.func77 body77 (by kernel_rfl) fun ps r ho hF => by
  obtain ⟨x, rfl, h⟩ := lift_inv hF
  obtain ⟨y, hy, rfl⟩ := Option.map_eq_some_iff.1 h
  exact w77 rfl x.1 x.2 y hy
theorem v64 : Impl Try.prog G 64 G_Lref09_Point := impl_of (T := Av.tab [(62, G_Lref01_AppendU32), (77, G_Lref01_AppendHash)]) mixed htt (Av.tab_ok ⟨v62, v77, trivial⟩) Try.func64 body64 (by kernel_rfl) fun ps r ho hF => by
  obtain ⟨x, rfl, h⟩ := lift_inv hF
  obtain ⟨y, hy, rfl⟩ := Option.map_eq_some_iff.1 h
  exact w64 rfl rfl x y hy
theorem v66 : Impl Try.prog G 66 G_Lref01_AppendBytes := impl_of (T := Av.tab [(63, G_Lref01_AppendSize), (75, G_Lref01_joined)]) mixed htt (Av.tab_ok ⟨v63, v75, trivial⟩) Try.func66 body66 (by kernel_rfl) fun ps r ho hF => by
  obtain ⟨x, rfl, h⟩ := lift_inv hF
  obtain ⟨y, hy, rfl⟩ := Option.map_eq_some_iff.1 h
  exact w66 rfl rfl x.1 x.2 y hy
theorem v78 : Impl Try.prog G 78 G_Lref01_AppendU64 := impl_of (T := Av.tab [(75, G_Lref01_joined), (76, G_Lref01_little)]) mixed htt (Av.tab_ok ⟨v75, v76, trivial⟩) Try.func78 body78 (by kernel_rfl) fun ps r ho hF => by
  obtain ⟨x, rfl, h⟩ := lift_inv hF
  obtain ⟨y, hy, rfl⟩ := Option.map_eq_some_iff.1 h
  exact w78 rfl rfl x.1 x.2 y hy
theorem v65 : Impl Try.prog G 65 G_Lref09_Out := impl_of (T := Av.tab [(66, G_Lref01_AppendBytes), (78, G_Lref01_AppendU64)]) mixed htt (Av.tab_ok ⟨v66, v78, trivial⟩) Try.func65 body65 (by kernel_rfl) fun ps r ho hF => by
  obtain ⟨x, rfl, h⟩ := lift_inv hF
  obtain ⟨y, hy, rfl⟩ := Option.map_eq_some_iff.1 h
  exact w65 rfl rfl x y hy
theorem v49 : Impl Try.prog G 49 G_Lref09_encode := impl_of (T := Av.tab [(62, G_Lref01_AppendU32), (63, G_Lref01_AppendSize), (64, G_Lref09_Point), (65, G_Lref09_Out), (66, G_Lref01_AppendBytes)]) mixed htt (Av.tab_ok ⟨v62, v63, v64, v65, v66, trivial⟩) Try.func49 body49 (by kernel_rfl) fun ps r ho hF => by
  obtain ⟨x, rfl, h⟩ := lift_inv hF
  obtain ⟨y, hy, rfl⟩ := Option.map_eq_some_iff.1 h
  exact w49 rfl rfl rfl rfl rfl x.1 x.2 y hy
theorem v48 : Impl Try.prog G 48 G_Lref09_Fits := impl_of (T := Av.tab [(49, G_Lref09_encode)]) mixed htt (Av.tab_ok ⟨v49, trivial⟩) Try.func48 body48 (by kernel_rfl) fun ps r ho hF => by
  obtain ⟨x, rfl, h⟩ := lift_inv hF
  obtain ⟨y, hy, rfl⟩ := Option.map_eq_some_iff.1 h
  exact w48 rfl x y hy
theorem v33 : Impl Try.prog G 33 G_Lref09_Weight := impl_of (T := Av.tab [(48, G_Lref09_Fits), (49, G_Lref09_encode)]) mixed htt (Av.tab_ok ⟨v48, v49, trivial⟩) Try.func33 body33 (by kernel_rfl) fun ps r ho hF => by
  obtain ⟨x, rfl, h⟩ := lift_inv hF
  obtain ⟨y, hy, rfl⟩ := Option.map_eq_some_iff.1 h
  exact w33 rfl rfl x y hy
theorem v34 : Impl Try.prog G 34 G_Lref34_bare := impl_of (T := Av.tab []) mixed htt (Av.tab_ok trivial) Try.func34 body34 (by kernel_rfl) fun ps r ho hF => by
  obtain ⟨x, rfl, h⟩ := lift_inv hF
  obtain ⟨y, hy, rfl⟩ := Option.map_eq_some_iff.1 h
  exact w34 x y hy
theorem v16 : Impl Try.prog G 16 G_Lref34_Weight := impl_of (T := Av.tab [(33, G_Lref09_Weight), (34, G_Lref34_bare)]) mixed htt (Av.tab_ok ⟨v33, v34, trivial⟩) Try.func16 body16 (by kernel_rfl) fun ps r ho hF => by
  obtain ⟨x, rfl, h⟩ := lift_inv hF
  obtain ⟨y, hy, rfl⟩ := Option.map_eq_some_iff.1 h
  exact w16 rfl rfl x.1 x.2 y hy
theorem v3 : Impl Try.prog G 3 G_Llaw34_BuildWeights := impl_of (T := Av.tab [(6, G_Llaw34_sane), (7, G_Lmill_New), (8, G_Lmill_Tx), (9, G_Lmill_Spendables), (10, G_Lmill_Mod), (11, G_Lbuild_Fee), (12, G_Lref34_Fee), (13, G_Lbuild_InputWeight), (14, G_Lref34_InputWeight), (15, G_Lbuild_Weight), (16, G_Lref34_Weight)]) mixed htt (Av.tab_ok ⟨v6, v7, v8, v9, v10, v11, v12, v13, v14, v15, v16, trivial⟩) Try.func3 body3 (by kernel_rfl) fun ps r ho hF => by
  obtain ⟨x, rfl, h⟩ := lift_inv hF
  obtain ⟨y, hy, rfl⟩ := Option.map_eq_some_iff.1 h
  exact w3 rfl rfl rfl rfl rfl rfl rfl rfl rfl rfl rfl x.1 x.2.1 x.2.2.1 x.2.2.2 y hy
theorem v17 : Impl Try.prog G 17 G_Lmill_Plan := impl_of (T := Av.tab [(18, G_Lmade_Script), (27, G_Lmill_Deck_Next)]) mixed htt (Av.tab_ok ⟨v18, v27, trivial⟩) Try.func17 body17 (by kernel_rfl) fun ps r ho hF => by
  obtain ⟨x, rfl, h⟩ := lift_inv hF
  obtain ⟨y, hy, rfl⟩ := Option.map_eq_some_iff.1 h
  exact w17 rfl rfl x.1 x.2 y hy
theorem v19 : Impl Try.prog G 19 G_Lmade_Null := impl_of (T := Av.tab []) mixed htt (Av.tab_ok trivial) Try.func19 body19 (by kernel_rfl) fun ps r ho hF => by
  obtain ⟨x, rfl, h⟩ := lift_inv hF
  obtain ⟨y, hy, rfl⟩ := Option.map_eq_some_iff.1 h
  exact w19 y hy
theorem v51 : Impl Try.prog G 51 G_Ltx_null := impl_of (T := Av.tab []) mixed htt (Av.tab_ok trivial) Try.func51 body51 (by kernel_rfl) fun ps r ho hF => by
  obtain ⟨x, rfl, h⟩ := lift_inv hF
  obtain ⟨y, hy, rfl⟩ := Option.map_eq_some_iff.1 h
  exact w51 x y hy
theorem v36 : Impl Try.prog G 36 G_Ltx_Coinbase := impl_of (T := Av.tab [(51, G_Ltx_null)]) mixed htt (Av.tab_ok ⟨v51, trivial⟩) Try.func36 body36 (by kernel_rfl) fun ps r ho hF => by
  obtain ⟨x, rfl, h⟩ := lift_inv hF
  obtain ⟨y, hy, rfl⟩ := Option.map_eq_some_iff.1 h
  exact w36 rfl x y hy
theorem v50 : Impl Try.prog G 50 G_Ltx_money := impl_of (T := Av.tab []) mixed htt (Av.tab_ok trivial) Try.func50 body50 (by kernel_rfl) fun ps r ho hF => by
  obtain ⟨x, rfl, h⟩ := lift_inv hF
  obtain ⟨y, hy, rfl⟩ := Option.map_eq_some_iff.1 h
  exact w50 x y hy
theorem v35 : Impl Try.prog G 35 G_Ltx_Check := impl_of (T := Av.tab [(36, G_Ltx_Coinbase), (46, G_Ltx_fits), (50, G_Ltx_money)]) mixed htt (Av.tab_ok ⟨v36, v46, v50, trivial⟩) Try.func35 body35 (by kernel_rfl) fun ps r ho hF => by
  obtain ⟨x, rfl, h⟩ := lift_inv hF
  obtain ⟨y, hy, rfl⟩ := Option.map_eq_some_iff.1 h
  exact w35 rfl rfl rfl x y hy
theorem v52 : Impl Try.prog G 52 G_Lspend_sum := impl_of (T := Av.tab []) mixed htt (Av.tab_ok trivial) Try.func52 body52 (by kernel_rfl) fun ps r ho hF => by
  obtain ⟨x, rfl, h⟩ := lift_inv hF
  obtain ⟨y, hy, rfl⟩ := Option.map_eq_some_iff.1 h
  exact w52 x y hy
theorem v37 : Impl Try.prog G 37 G_Lspend_Fee := impl_of (T := Av.tab [(35, G_Ltx_Check), (52, G_Lspend_sum)]) mixed htt (Av.tab_ok ⟨v35, v52, trivial⟩) Try.func37 body37 (by kernel_rfl) fun ps r ho hF => by
  obtain ⟨x, rfl, h⟩ := lift_inv hF
  obtain ⟨y, hy, rfl⟩ := Option.map_eq_some_iff.1 h
  exact w37 rfl rfl x.1 x.2 y hy
theorem v20 : Impl Try.prog G 20 G_Lbuild_Valid := impl_of (T := Av.tab [(35, G_Ltx_Check), (36, G_Ltx_Coinbase), (37, G_Lspend_Fee)]) mixed htt (Av.tab_ok ⟨v35, v36, v37, trivial⟩) Try.func20 body20 (by kernel_rfl) fun ps r ho hF => by
  obtain ⟨x, rfl, h⟩ := lift_inv hF
  obtain ⟨y, hy, rfl⟩ := Option.map_eq_some_iff.1 h
  exact w20 rfl rfl rfl x y hy
theorem v53 : Impl Try.prog G 53 G_Lref09_Null := impl_of (T := Av.tab []) mixed htt (Av.tab_ok trivial) Try.func53 body53 (by kernel_rfl) fun ps r ho hF => by
  obtain ⟨x, rfl, h⟩ := lift_inv hF
  obtain ⟨y, hy, rfl⟩ := Option.map_eq_some_iff.1 h
  exact w53 x y hy
theorem v39 : Impl Try.prog G 39 G_Lref09_Coinbase := impl_of (T := Av.tab [(53, G_Lref09_Null)]) mixed htt (Av.tab_ok ⟨v53, trivial⟩) Try.func39 body39 (by kernel_rfl) fun ps r ho hF => by
  obtain ⟨x, rfl, h⟩ := lift_inv hF
  obtain ⟨y, hy, rfl⟩ := Option.map_eq_some_iff.1 h
  exact w39 rfl x y hy
theorem v38 : Impl Try.prog G 38 G_Lref09_Check := impl_of (T := Av.tab [(39, G_Lref09_Coinbase), (48, G_Lref09_Fits), (53, G_Lref09_Null)]) mixed htt (Av.tab_ok ⟨v39, v48, v53, trivial⟩) Try.func38 body38 (by kernel_rfl) fun ps r ho hF => by
  obtain ⟨x, rfl, h⟩ := lift_inv hF
  obtain ⟨y, hy, rfl⟩ := Option.map_eq_some_iff.1 h
  exact w38 rfl rfl rfl x y hy
theorem v26 : Impl Try.prog G 26 G_Lref10_Fee := impl_of (T := Av.tab [(38, G_Lref09_Check)]) mixed htt (Av.tab_ok ⟨v38, trivial⟩) Try.func26 body26 (by kernel_rfl) fun ps r ho hF => by
  obtain ⟨x, rfl, h⟩ := lift_inv hF
  obtain ⟨y, hy, rfl⟩ := Option.map_eq_some_iff.1 h
  exact w26 rfl x.1 x.2 y hy
theorem v21 : Impl Try.prog G 21 G_Lref34_Valid := impl_of (T := Av.tab [(26, G_Lref10_Fee), (30, G_Lref34_in), (38, G_Lref09_Check), (39, G_Lref09_Coinbase)]) mixed htt (Av.tab_ok ⟨v26, v30, v38, v39, trivial⟩) Try.func21 body21 (by kernel_rfl) fun ps r ho hF => by
  obtain ⟨x, rfl, h⟩ := lift_inv hF
  obtain ⟨y, hy, rfl⟩ := Option.map_eq_some_iff.1 h
  exact w21 rfl rfl rfl rfl x y hy
theorem v4 : Impl Try.prog G 4 G_Llaw34_BuildValid := impl_of (T := Av.tab [(6, G_Llaw34_sane), (7, G_Lmill_New), (10, G_Lmill_Mod), (17, G_Lmill_Plan), (18, G_Lmade_Script), (19, G_Lmade_Null), (20, G_Lbuild_Valid), (21, G_Lref34_Valid)]) mixed htt (Av.tab_ok ⟨v6, v7, v10, v17, v18, v19, v20, v21, trivial⟩) Try.func4 body4 (by kernel_rfl) fun ps r ho hF => by
  obtain ⟨x, rfl, h⟩ := lift_inv hF
  obtain ⟨y, hy, rfl⟩ := Option.map_eq_some_iff.1 h
  exact w4 rfl rfl rfl rfl rfl rfl rfl rfl x.1 x.2.1 x.2.2 y hy
end Go.Proofs.Ytanhccemhpmnhaa
