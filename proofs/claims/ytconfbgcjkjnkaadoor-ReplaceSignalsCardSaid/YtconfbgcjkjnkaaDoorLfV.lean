import Derived.Test.YtconfbgcjkjnkaaDoorLfW1
import Derived.Test.YtconfbgcjkjnkaaDoorLfW2
import Derived.Test.YtconfbgcjkjnkaaDoorLfW3
import Derived.Test.YtconfbgcjkjnkaaDoorLfW4
import Derived.Test.YtconfbgcjkjnkaaDoorLfW5
import Derived.Test.YtconfbgcjkjnkaaDoorLfW6
import Derived.Test.YtconfbgcjkjnkaaDoorLfW7
namespace Go.Proofs.YtconfbgcjkjnkaaDoor
open Go.RowKit
open Go.Av
open Go.Lc
set_option maxRecDepth 100000
set_option linter.unusedSimpArgs false
set_option linter.unusedVariables false
theorem v34 : Impl Tryd.prog G 34 G_Lreplace_Signals_1 := impl_of (T := Av.tab []) mixed htt (Av.tab_ok trivial) Tryd.func34 body34 (by kernel_rfl) fun ps r ho hF => by
  obtain ⟨x, rfl, h⟩ := lift_inv hF
  obtain ⟨y, hy, rfl⟩ := Option.map_eq_some_iff.1 h
  exact w34 x y hy
theorem v73_1 : Impl Tryd.prog G 73 G_Lslices_IndexFunc_of__api_Input_api_Input__replace_Signals_1 := impl_of (T := Av.tab [(34, G_Lreplace_Signals_1)]) mixed htt (Av.tab_ok ⟨v34, trivial⟩) Tryd.func73 body73 (by kernel_rfl) fun ps r ho hF => by
  obtain ⟨x, rfl, h⟩ := lift_inv hF
  obtain ⟨y, hy, rfl⟩ := Option.map_eq_some_iff.1 h
  exact w73_1 rfl x y hy
theorem v33_2 : Impl Tryd.prog G 33 G_Lslices_ContainsFunc_of__api_Input_api_Input__replace_Signals_1 := impl_of (T := Av.tab [(73, G_Lslices_IndexFunc_of__api_Input_api_Input__replace_Signals_1)]) mixed htt (Av.tab_ok ⟨v73_1, trivial⟩) Tryd.func33 body33 (by kernel_rfl) fun ps r ho hF => by
  obtain ⟨x, rfl, h⟩ := lift_inv hF
  obtain ⟨y, hy, rfl⟩ := Option.map_eq_some_iff.1 h
  exact w33_2 rfl x y hy
theorem v11 : Impl Tryd.prog G 11 G_Lreplace_Signals := impl_of (T := Av.tab [(33, G_Lslices_ContainsFunc_of__api_Input_api_Input__replace_Signals_1)]) mixed htt (Av.tab_ok ⟨v33_2, trivial⟩) Tryd.func11 body11 (by kernel_rfl) fun ps r ho hF => by
  obtain ⟨x, rfl, h⟩ := lift_inv hF
  obtain ⟨y, hy, rfl⟩ := Option.map_eq_some_iff.1 h
  exact w11 rfl x y hy
theorem v36_3 : Impl Tryd.prog G 36 G_Lreplace_Conflict_1_1__r := impl_of (T := Av.tab []) mixed htt (Av.tab_ok trivial) Tryd.func36 body36 (by kernel_rfl) fun ps r ho hF => by
  obtain ⟨x, rfl, h⟩ := lift_inv hF
  obtain ⟨y, hy, rfl⟩ := Option.map_eq_some_iff.1 h
  exact w36_3 x.1 x.2 y hy
theorem v73_4 : Impl Tryd.prog G 73 G_Lslices_IndexFunc_of__api_Input_api_Input__replace_Conflict_1_1 := impl_of (T := Av.tab [(36, G_Lreplace_Conflict_1_1__r)]) mixed htt (Av.tab_ok ⟨v36_3, trivial⟩) Tryd.func73 body73 (by kernel_rfl) fun ps r ho hF => by
  obtain ⟨x, rfl, h⟩ := lift_inv hF
  obtain ⟨y, hy, rfl⟩ := Option.map_eq_some_iff.1 h
  exact w73_4 rfl x.1 x.2 y hy
theorem v33_5 : Impl Tryd.prog G 33 G_Lslices_ContainsFunc_of__api_Input_api_Input__replace_Conflict_1_1 := impl_of (T := Av.tab [(73, G_Lslices_IndexFunc_of__api_Input_api_Input__replace_Conflict_1_1)]) mixed htt (Av.tab_ok ⟨v73_4, trivial⟩) Tryd.func33 body33 (by kernel_rfl) fun ps r ho hF => by
  obtain ⟨x, rfl, h⟩ := lift_inv hF
  obtain ⟨y, hy, rfl⟩ := Option.map_eq_some_iff.1 h
  exact w33_5 rfl x.1 x.2 y hy
theorem v35_6 : Impl Tryd.prog G 35 G_Lreplace_Conflict_1__r := impl_of (T := Av.tab [(33, G_Lslices_ContainsFunc_of__api_Input_api_Input__replace_Conflict_1_1)]) mixed htt (Av.tab_ok ⟨v33_5, trivial⟩) Tryd.func35 body35 (by kernel_rfl) fun ps r ho hF => by
  obtain ⟨x, rfl, h⟩ := lift_inv hF
  obtain ⟨y, hy, rfl⟩ := Option.map_eq_some_iff.1 h
  exact w35_6 rfl x.1 x.2 y hy
theorem v73_7 : Impl Tryd.prog G 73 G_Lslices_IndexFunc_of__api_Input_api_Input__replace_Conflict_1 := impl_of (T := Av.tab [(35, G_Lreplace_Conflict_1__r)]) mixed htt (Av.tab_ok ⟨v35_6, trivial⟩) Tryd.func73 body73 (by kernel_rfl) fun ps r ho hF => by
  obtain ⟨x, rfl, h⟩ := lift_inv hF
  obtain ⟨y, hy, rfl⟩ := Option.map_eq_some_iff.1 h
  exact w73_7 rfl x.1 x.2 y hy
theorem v33_8 : Impl Tryd.prog G 33 G_Lslices_ContainsFunc_of__api_Input_api_Input__replace_Conflict_1 := impl_of (T := Av.tab [(73, G_Lslices_IndexFunc_of__api_Input_api_Input__replace_Conflict_1)]) mixed htt (Av.tab_ok ⟨v73_7, trivial⟩) Tryd.func33 body33 (by kernel_rfl) fun ps r ho hF => by
  obtain ⟨x, rfl, h⟩ := lift_inv hF
  obtain ⟨y, hy, rfl⟩ := Option.map_eq_some_iff.1 h
  exact w33_8 rfl x.1 x.2 y hy
theorem v13 : Impl Tryd.prog G 13 G_Lreplace_Conflict := impl_of (T := Av.tab [(33, G_Lslices_ContainsFunc_of__api_Input_api_Input__replace_Conflict_1)]) mixed htt (Av.tab_ok ⟨v33_8, trivial⟩) Tryd.func13 body13 (by kernel_rfl) fun ps r ho hF => by
  obtain ⟨x, rfl, h⟩ := lift_inv hF
  obtain ⟨y, hy, rfl⟩ := Option.map_eq_some_iff.1 h
  exact w13 rfl x.1 x.2 y hy
theorem v79 : Impl Tryd.prog G 79 G_Ltx_null := impl_of (T := Av.tab []) mixed htt (Av.tab_ok trivial) Tryd.func79 body79 (by kernel_rfl) fun ps r ho hF => by
  obtain ⟨x, rfl, h⟩ := lift_inv hF
  obtain ⟨y, hy, rfl⟩ := Option.map_eq_some_iff.1 h
  exact w79 x y hy
theorem v45 : Impl Tryd.prog G 45 G_Ltx_Coinbase := impl_of (T := Av.tab [(79, G_Ltx_null)]) mixed htt (Av.tab_ok ⟨v79, trivial⟩) Tryd.func45 body45 (by kernel_rfl) fun ps r ho hF => by
  obtain ⟨x, rfl, h⟩ := lift_inv hF
  obtain ⟨y, hy, rfl⟩ := Option.map_eq_some_iff.1 h
  exact w45 rfl x y hy
theorem v115 : Impl Tryd.prog G 115 G_Lcodec_extend := impl_of (T := Av.tab []) mixed htt (Av.tab_ok trivial) Tryd.func115 body115 (by kernel_rfl) fun ps r ho hF => by
  obtain ⟨x, rfl, h⟩ := lift_inv hF
  obtain ⟨y, hy, rfl⟩ := Option.map_eq_some_iff.1 h
  exact w115 x.1 x.2 y hy
theorem v116 : Impl Tryd.prog G 116 G_Lcodec_lowest := impl_of (T := Av.tab []) mixed htt (Av.tab_ok trivial) Tryd.func116 body116 (by kernel_rfl) fun ps r ho hF => by
  obtain ⟨x, rfl, h⟩ := lift_inv hF
  obtain ⟨y, hy, rfl⟩ := Option.map_eq_some_iff.1 h
  exact w116 x.1 x.2 y hy
theorem v106 : Impl Tryd.prog G 106 G_Lcodec_AppendU32 := impl_of (T := Av.tab [(115, G_Lcodec_extend), (116, G_Lcodec_lowest)]) mixed htt (Av.tab_ok ⟨v115, v116, trivial⟩) Tryd.func106 body106 (by kernel_rfl) fun ps r ho hF => by
  obtain ⟨x, rfl, h⟩ := lift_inv hF
  obtain ⟨y, hy, rfl⟩ := Option.map_eq_some_iff.1 h
  exact w106 rfl rfl x.1 x.2 y hy
theorem v109 : Impl Tryd.prog G 109 G_Lcodec_AppendU64 := impl_of (T := Av.tab [(115, G_Lcodec_extend), (116, G_Lcodec_lowest)]) mixed htt (Av.tab_ok ⟨v115, v116, trivial⟩) Tryd.func109 body109 (by kernel_rfl) fun ps r ho hF => by
  obtain ⟨x, rfl, h⟩ := lift_inv hF
  obtain ⟨y, hy, rfl⟩ := Option.map_eq_some_iff.1 h
  exact w109 rfl rfl x.1 x.2 y hy
theorem v117 : Impl Tryd.prog G 117 G_Lcodec_AppendU16 := impl_of (T := Av.tab [(115, G_Lcodec_extend), (116, G_Lcodec_lowest)]) mixed htt (Av.tab_ok ⟨v115, v116, trivial⟩) Tryd.func117 body117 (by kernel_rfl) fun ps r ho hF => by
  obtain ⟨x, rfl, h⟩ := lift_inv hF
  obtain ⟨y, hy, rfl⟩ := Option.map_eq_some_iff.1 h
  exact w117 rfl rfl x.1 x.2 y hy
theorem v107 : Impl Tryd.prog G 107 G_Lcodec_AppendSize := impl_of (T := Av.tab [(106, G_Lcodec_AppendU32), (109, G_Lcodec_AppendU64), (115, G_Lcodec_extend), (117, G_Lcodec_AppendU16)]) mixed htt (Av.tab_ok ⟨v106, v109, v115, v117, trivial⟩) Tryd.func107 body107 (by kernel_rfl) fun ps r ho hF => by
  obtain ⟨x, rfl, h⟩ := lift_inv hF
  obtain ⟨y, hy, rfl⟩ := Option.map_eq_some_iff.1 h
  exact w107 rfl rfl rfl rfl x.1 x.2 y hy
theorem v118 : Impl Tryd.prog G 118 G_Lcodec_AppendHash := impl_of (T := Av.tab [(115, G_Lcodec_extend)]) mixed htt (Av.tab_ok ⟨v115, trivial⟩) Tryd.func118 body118 (by kernel_rfl) fun ps r ho hF => by
  obtain ⟨x, rfl, h⟩ := lift_inv hF
  obtain ⟨y, hy, rfl⟩ := Option.map_eq_some_iff.1 h
  exact w118 rfl x.1 x.2 y hy
theorem v108 : Impl Tryd.prog G 108 G_Ltx_Point := impl_of (T := Av.tab [(106, G_Lcodec_AppendU32), (118, G_Lcodec_AppendHash)]) mixed htt (Av.tab_ok ⟨v106, v118, trivial⟩) Tryd.func108 body108 (by kernel_rfl) fun ps r ho hF => by
  obtain ⟨x, rfl, h⟩ := lift_inv hF
  obtain ⟨y, hy, rfl⟩ := Option.map_eq_some_iff.1 h
  exact w108 rfl rfl x y hy
theorem v110 : Impl Tryd.prog G 110 G_Lcodec_AppendBytes := impl_of (T := Av.tab [(107, G_Lcodec_AppendSize), (115, G_Lcodec_extend)]) mixed htt (Av.tab_ok ⟨v107, v115, trivial⟩) Tryd.func110 body110 (by kernel_rfl) fun ps r ho hF => by
  obtain ⟨x, rfl, h⟩ := lift_inv hF
  obtain ⟨y, hy, rfl⟩ := Option.map_eq_some_iff.1 h
  exact w110 rfl rfl x.1 x.2 y hy
theorem v95 : Impl Tryd.prog G 95 G_Ltx_encode := impl_of (T := Av.tab [(106, G_Lcodec_AppendU32), (107, G_Lcodec_AppendSize), (108, G_Ltx_Point), (109, G_Lcodec_AppendU64), (110, G_Lcodec_AppendBytes)]) mixed htt (Av.tab_ok ⟨v106, v107, v108, v109, v110, trivial⟩) Tryd.func95 body95 (by kernel_rfl) fun ps r ho hF => by
  obtain ⟨x, rfl, h⟩ := lift_inv hF
  obtain ⟨y, hy, rfl⟩ := Option.map_eq_some_iff.1 h
  exact w95 rfl rfl rfl rfl rfl x.1 x.2 y hy
theorem v75 : Impl Tryd.prog G 75 G_Ltx_fits := impl_of (T := Av.tab [(95, G_Ltx_encode)]) mixed htt (Av.tab_ok ⟨v95, trivial⟩) Tryd.func75 body75 (by kernel_rfl) fun ps r ho hF => by
  obtain ⟨x, rfl, h⟩ := lift_inv hF
  obtain ⟨y, hy, rfl⟩ := Option.map_eq_some_iff.1 h
  exact w75 rfl x y hy
theorem v76 : Impl Tryd.prog G 76 G_Ltx_money := impl_of (T := Av.tab []) mixed htt (Av.tab_ok trivial) Tryd.func76 body76 (by kernel_rfl) fun ps r ho hF => by
  obtain ⟨x, rfl, h⟩ := lift_inv hF
  obtain ⟨y, hy, rfl⟩ := Option.map_eq_some_iff.1 h
  exact w76 x y hy
theorem v39 : Impl Tryd.prog G 39 G_Ltx_Check := impl_of (T := Av.tab [(45, G_Ltx_Coinbase), (75, G_Ltx_fits), (76, G_Ltx_money)]) mixed htt (Av.tab_ok ⟨v45, v75, v76, trivial⟩) Tryd.func39 body39 (by kernel_rfl) fun ps r ho hF => by
  obtain ⟨x, rfl, h⟩ := lift_inv hF
  obtain ⟨y, hy, rfl⟩ := Option.map_eq_some_iff.1 h
  exact w39 rfl rfl rfl x y hy
theorem v98 : Impl Tryd.prog G 98 G_Ltx_Encode := impl_of (T := Av.tab [(75, G_Ltx_fits), (95, G_Ltx_encode)]) mixed htt (Av.tab_ok ⟨v75, v95, trivial⟩) Tryd.func98 body98 (by kernel_rfl) fun ps r ho hF => by
  obtain ⟨x, rfl, h⟩ := lift_inv hF
  obtain ⟨y, hy, rfl⟩ := Option.map_eq_some_iff.1 h
  exact w98 rfl rfl x.1 x.2 y hy
theorem v122 : Impl Tryd.prog G 122 G_Lsha_row := impl_of (T := Av.tab []) mixed htt (Av.tab_ok trivial) Tryd.func122 body122 (by kernel_rfl) fun ps r ho hF => by
  obtain ⟨x, rfl, h⟩ := lift_inv hF
  obtain ⟨y, hy, rfl⟩ := Option.map_eq_some_iff.1 h
  exact w122 x y hy
theorem v123 : Impl Tryd.prog G 123 G_Lsha_Pad := impl_of (T := Av.tab []) mixed htt (Av.tab_ok trivial) Tryd.func123 body123 (by kernel_rfl) fun ps r ho hF => by
  obtain ⟨x, rfl, h⟩ := lift_inv hF
  obtain ⟨y, hy, rfl⟩ := Option.map_eq_some_iff.1 h
  exact w123 x y hy
theorem v125 : Impl Tryd.prog G 125 G_Lmath_bits_RotateLeft32 := impl_of (T := Av.tab []) mixed htt (Av.tab_ok trivial) Tryd.func125 body125 (by kernel_rfl) fun ps r ho hF => by
  obtain ⟨x, rfl, h⟩ := lift_inv hF
  obtain ⟨y, hy, rfl⟩ := Option.map_eq_some_iff.1 h
  exact w125 x.1 x.2 y hy
theorem v127 : Impl Tryd.prog G 127 G_Lsha_rotr := impl_of (T := Av.tab [(125, G_Lmath_bits_RotateLeft32)]) mixed htt (Av.tab_ok ⟨v125, trivial⟩) Tryd.func127 body127 (by kernel_rfl) fun ps r ho hF => by
  obtain ⟨x, rfl, h⟩ := lift_inv hF
  obtain ⟨y, hy, rfl⟩ := Option.map_eq_some_iff.1 h
  exact w127 rfl x.1 x.2 y hy
theorem v126 : Impl Tryd.prog G 126 G_Lsha_schedule := impl_of (T := Av.tab [(127, G_Lsha_rotr)]) mixed htt (Av.tab_ok ⟨v127, trivial⟩) Tryd.func126 body126 (by kernel_rfl) fun ps r ho hF => by
  obtain ⟨x, rfl, h⟩ := lift_inv hF
  obtain ⟨y, hy, rfl⟩ := Option.map_eq_some_iff.1 h
  exact w126 rfl x y hy
theorem v124 : Impl Tryd.prog G 124 G_Lsha_Compress := impl_of (T := Av.tab [(126, G_Lsha_schedule), (127, G_Lsha_rotr)]) mixed htt (Av.tab_ok ⟨v126, v127, trivial⟩) Tryd.func124 body124 (by kernel_rfl) fun ps r ho hF => by
  obtain ⟨x, rfl, h⟩ := lift_inv hF
  obtain ⟨y, hy, rfl⟩ := Option.map_eq_some_iff.1 h
  exact w124 rfl rfl x.1 x.2 y hy
theorem v114 : Impl Tryd.prog G 114 G_Lsha_Sum := impl_of (T := Av.tab [(122, G_Lsha_row), (123, G_Lsha_Pad), (124, G_Lsha_Compress)]) mixed htt (Av.tab_ok ⟨v122, v123, v124, trivial⟩) Tryd.func114 body114 (by kernel_rfl) fun ps r ho hF => by
  obtain ⟨x, rfl, h⟩ := lift_inv hF
  obtain ⟨y, hy, rfl⟩ := Option.map_eq_some_iff.1 h
  exact w114 rfl rfl rfl x y hy
theorem v99 : Impl Tryd.prog G 99 G_Lsha_Double := impl_of (T := Av.tab [(114, G_Lsha_Sum)]) mixed htt (Av.tab_ok ⟨v114, trivial⟩) Tryd.func99 body99 (by kernel_rfl) fun ps r ho hF => by
  obtain ⟨x, rfl, h⟩ := lift_inv hF
  obtain ⟨y, hy, rfl⟩ := Option.map_eq_some_iff.1 h
  exact w99 rfl x y hy
theorem v78 : Impl Tryd.prog G 78 G_Ltx_digest := impl_of (T := Av.tab [(98, G_Ltx_Encode), (99, G_Lsha_Double)]) mixed htt (Av.tab_ok ⟨v98, v99, trivial⟩) Tryd.func78 body78 (by kernel_rfl) fun ps r ho hF => by
  obtain ⟨x, rfl, h⟩ := lift_inv hF
  obtain ⟨y, hy, rfl⟩ := Option.map_eq_some_iff.1 h
  exact w78 rfl rfl x.1 x.2 y hy
theorem v43 : Impl Tryd.prog G 43 G_Ltx_ID := impl_of (T := Av.tab [(78, G_Ltx_digest)]) mixed htt (Av.tab_ok ⟨v78, trivial⟩) Tryd.func43 body43 (by kernel_rfl) fun ps r ho hF => by
  obtain ⟨x, rfl, h⟩ := lift_inv hF
  obtain ⟨y, hy, rfl⟩ := Option.map_eq_some_iff.1 h
  exact w43 rfl x y hy
theorem v46 : Impl Tryd.prog G 46 G_Lreplace_money := impl_of (T := Av.tab []) mixed htt (Av.tab_ok trivial) Tryd.func46 body46 (by kernel_rfl) fun ps r ho hF => by
  obtain ⟨x, rfl, h⟩ := lift_inv hF
  obtain ⟨y, hy, rfl⟩ := Option.map_eq_some_iff.1 h
  exact w46 x y hy
theorem v47 : Impl Tryd.prog G 47 G_Lreplace_Accept_3 := impl_of (T := Av.tab [(46, G_Lreplace_money)]) mixed htt (Av.tab_ok ⟨v46, trivial⟩) Tryd.func47 body47 (by kernel_rfl) fun ps r ho hF => by
  obtain ⟨x, rfl, h⟩ := lift_inv hF
  obtain ⟨y, hy, rfl⟩ := Option.map_eq_some_iff.1 h
  exact w47 rfl x y hy
theorem v49 : Impl Tryd.prog G 49 G_Lreplace_Accept_5 := impl_of (T := Av.tab [(11, G_Lreplace_Signals)]) mixed htt (Av.tab_ok ⟨v11, trivial⟩) Tryd.func49 body49 (by kernel_rfl) fun ps r ho hF => by
  obtain ⟨x, rfl, h⟩ := lift_inv hF
  obtain ⟨y, hy, rfl⟩ := Option.map_eq_some_iff.1 h
  exact w49 rfl x y hy
theorem v66 : Impl Tryd.prog G 66 G_Ltx_Weight := impl_of (T := Av.tab [(75, G_Ltx_fits), (95, G_Ltx_encode)]) mixed htt (Av.tab_ok ⟨v75, v95, trivial⟩) Tryd.func66 body66 (by kernel_rfl) fun ps r ho hF => by
  obtain ⟨x, rfl, h⟩ := lift_inv hF
  obtain ⟨y, hy, rfl⟩ := Option.map_eq_some_iff.1 h
  exact w66 rfl rfl x y hy
theorem v67 : Impl Tryd.prog G 67 G_Lbuild_Fee := impl_of (T := Av.tab []) mixed htt (Av.tab_ok trivial) Tryd.func67 body67 (by kernel_rfl) fun ps r ho hF => by
  obtain ⟨x, rfl, h⟩ := lift_inv hF
  obtain ⟨y, hy, rfl⟩ := Option.map_eq_some_iff.1 h
  exact w67 x.1 x.2 y hy
theorem v80 : Impl Tryd.prog G 80 G_Lfees_Rate := impl_of (T := Av.tab []) mixed htt (Av.tab_ok trivial) Tryd.func80 body80 (by kernel_rfl) fun ps r ho hF => by
  obtain ⟨x, rfl, h⟩ := lift_inv hF
  obtain ⟨y, hy, rfl⟩ := Option.map_eq_some_iff.1 h
  exact w80 x.1 x.2 y hy
theorem v82 : Impl Tryd.prog G 82 G_Lreplace_rateOf := impl_of (T := Av.tab [(66, G_Ltx_Weight), (80, G_Lfees_Rate)]) mixed htt (Av.tab_ok ⟨v66, v80, trivial⟩) Tryd.func82 body82 (by kernel_rfl) fun ps r ho hF => by
  obtain ⟨x, rfl, h⟩ := lift_inv hF
  obtain ⟨y, hy, rfl⟩ := Option.map_eq_some_iff.1 h
  exact w82 rfl rfl x y hy
theorem v81_9 : Impl Tryd.prog G 81 G_Lreplace_enough_1__r := impl_of (T := Av.tab [(82, G_Lreplace_rateOf)]) mixed htt (Av.tab_ok ⟨v82, trivial⟩) Tryd.func81 body81 (by kernel_rfl) fun ps r ho hF => by
  obtain ⟨x, rfl, h⟩ := lift_inv hF
  obtain ⟨y, hy, rfl⟩ := Option.map_eq_some_iff.1 h
  exact w81_9 rfl x.1 x.2 y hy
theorem v77_10 : Impl Tryd.prog G 77 G_Lslices_IndexFunc_of__api_Entry_api_Entry__replace_enough_1 := impl_of (T := Av.tab [(81, G_Lreplace_enough_1__r)]) mixed htt (Av.tab_ok ⟨v81_9, trivial⟩) Tryd.func77 body77 (by kernel_rfl) fun ps r ho hF => by
  obtain ⟨x, rfl, h⟩ := lift_inv hF
  obtain ⟨y, hy, rfl⟩ := Option.map_eq_some_iff.1 h
  exact w77_10 rfl x.1 x.2 y hy
theorem v41_11 : Impl Tryd.prog G 41 G_Lslices_ContainsFunc_of__api_Entry_api_Entry__replace_enough_1 := impl_of (T := Av.tab [(77, G_Lslices_IndexFunc_of__api_Entry_api_Entry__replace_enough_1)]) mixed htt (Av.tab_ok ⟨v77_10, trivial⟩) Tryd.func41 body41 (by kernel_rfl) fun ps r ho hF => by
  obtain ⟨x, rfl, h⟩ := lift_inv hF
  obtain ⟨y, hy, rfl⟩ := Option.map_eq_some_iff.1 h
  exact w41_11 rfl x.1 x.2 y hy
theorem v50 : Impl Tryd.prog G 50 G_Lreplace_enough := impl_of (T := Av.tab [(41, G_Lslices_ContainsFunc_of__api_Entry_api_Entry__replace_enough_1), (66, G_Ltx_Weight), (67, G_Lbuild_Fee), (80, G_Lfees_Rate)]) mixed htt (Av.tab_ok ⟨v41_11, v66, v67, v80, trivial⟩) Tryd.func50 body50 (by kernel_rfl) fun ps r ho hF => by
  obtain ⟨x, rfl, h⟩ := lift_inv hF
  obtain ⟨y, hy, rfl⟩ := Option.map_eq_some_iff.1 h
  exact w50 rfl rfl rfl rfl x.1 x.2.1 x.2.2 y hy
theorem v77_12 : Impl Tryd.prog G 77 G_Lslices_IndexFunc_of__api_Entry_api_Entry__replace_Accept_3 := impl_of (T := Av.tab [(47, G_Lreplace_Accept_3)]) mixed htt (Av.tab_ok ⟨v47, trivial⟩) Tryd.func77 body77 (by kernel_rfl) fun ps r ho hF => by
  obtain ⟨x, rfl, h⟩ := lift_inv hF
  obtain ⟨y, hy, rfl⟩ := Option.map_eq_some_iff.1 h
  exact w77_12 rfl x y hy
theorem v41_13 : Impl Tryd.prog G 41 G_Lslices_ContainsFunc_of__api_Entry_api_Entry__replace_Accept_3 := impl_of (T := Av.tab [(77, G_Lslices_IndexFunc_of__api_Entry_api_Entry__replace_Accept_3)]) mixed htt (Av.tab_ok ⟨v77_12, trivial⟩) Tryd.func41 body41 (by kernel_rfl) fun ps r ho hF => by
  obtain ⟨x, rfl, h⟩ := lift_inv hF
  obtain ⟨y, hy, rfl⟩ := Option.map_eq_some_iff.1 h
  exact w41_13 rfl x y hy
theorem v40_14 : Impl Tryd.prog G 40 G_Lreplace_Accept_1__replace_Accept_3_p := impl_of (T := Av.tab [(41, G_Lslices_ContainsFunc_of__api_Entry_api_Entry__replace_Accept_3)]) mixed htt (Av.tab_ok ⟨v41_13, trivial⟩) Tryd.func40 body40 (by kernel_rfl) fun ps r ho hF => by
  obtain ⟨x, rfl, h⟩ := lift_inv hF
  obtain ⟨y, hy, rfl⟩ := Option.map_eq_some_iff.1 h
  exact w40_14 rfl x y hy
theorem v48_15 : Impl Tryd.prog G 48 G_Lreplace_Accept_4__r := impl_of (T := Av.tab [(13, G_Lreplace_Conflict)]) mixed htt (Av.tab_ok ⟨v13, trivial⟩) Tryd.func48 body48 (by kernel_rfl) fun ps r ho hF => by
  obtain ⟨x, rfl, h⟩ := lift_inv hF
  obtain ⟨y, hy, rfl⟩ := Option.map_eq_some_iff.1 h
  exact w48_15 rfl x.1 x.2 y hy
theorem v77_16 : Impl Tryd.prog G 77 G_Lslices_IndexFunc_of__api_Entry_api_Entry__replace_Accept_4 := impl_of (T := Av.tab [(48, G_Lreplace_Accept_4__r)]) mixed htt (Av.tab_ok ⟨v48_15, trivial⟩) Tryd.func77 body77 (by kernel_rfl) fun ps r ho hF => by
  obtain ⟨x, rfl, h⟩ := lift_inv hF
  obtain ⟨y, hy, rfl⟩ := Option.map_eq_some_iff.1 h
  exact w77_16 rfl x.1 x.2 y hy
theorem v41_17 : Impl Tryd.prog G 41 G_Lslices_ContainsFunc_of__api_Entry_api_Entry__replace_Accept_4 := impl_of (T := Av.tab [(77, G_Lslices_IndexFunc_of__api_Entry_api_Entry__replace_Accept_4)]) mixed htt (Av.tab_ok ⟨v77_16, trivial⟩) Tryd.func41 body41 (by kernel_rfl) fun ps r ho hF => by
  obtain ⟨x, rfl, h⟩ := lift_inv hF
  obtain ⟨y, hy, rfl⟩ := Option.map_eq_some_iff.1 h
  exact w41_17 rfl x.1 x.2 y hy
theorem v40_18 : Impl Tryd.prog G 40 G_Lreplace_Accept_1__replace_Accept_4_p := impl_of (T := Av.tab [(41, G_Lslices_ContainsFunc_of__api_Entry_api_Entry__replace_Accept_4)]) mixed htt (Av.tab_ok ⟨v41_17, trivial⟩) Tryd.func40 body40 (by kernel_rfl) fun ps r ho hF => by
  obtain ⟨x, rfl, h⟩ := lift_inv hF
  obtain ⟨y, hy, rfl⟩ := Option.map_eq_some_iff.1 h
  exact w40_18 rfl x.1 x.2 y hy
theorem v77_19 : Impl Tryd.prog G 77 G_Lslices_IndexFunc_of__api_Entry_api_Entry__replace_Accept_5 := impl_of (T := Av.tab [(49, G_Lreplace_Accept_5)]) mixed htt (Av.tab_ok ⟨v49, trivial⟩) Tryd.func77 body77 (by kernel_rfl) fun ps r ho hF => by
  obtain ⟨x, rfl, h⟩ := lift_inv hF
  obtain ⟨y, hy, rfl⟩ := Option.map_eq_some_iff.1 h
  exact w77_19 rfl x y hy
theorem v41_20 : Impl Tryd.prog G 41 G_Lslices_ContainsFunc_of__api_Entry_api_Entry__replace_Accept_5 := impl_of (T := Av.tab [(77, G_Lslices_IndexFunc_of__api_Entry_api_Entry__replace_Accept_5)]) mixed htt (Av.tab_ok ⟨v77_19, trivial⟩) Tryd.func41 body41 (by kernel_rfl) fun ps r ho hF => by
  obtain ⟨x, rfl, h⟩ := lift_inv hF
  obtain ⟨y, hy, rfl⟩ := Option.map_eq_some_iff.1 h
  exact w41_20 rfl x y hy
theorem v40_21 : Impl Tryd.prog G 40 G_Lreplace_Accept_1__replace_Accept_5_p := impl_of (T := Av.tab [(41, G_Lslices_ContainsFunc_of__api_Entry_api_Entry__replace_Accept_5)]) mixed htt (Av.tab_ok ⟨v41_20, trivial⟩) Tryd.func40 body40 (by kernel_rfl) fun ps r ho hF => by
  obtain ⟨x, rfl, h⟩ := lift_inv hF
  obtain ⟨y, hy, rfl⟩ := Option.map_eq_some_iff.1 h
  exact w40_21 rfl x y hy
theorem v44_22 : Impl Tryd.prog G 44 G_Lreplace_Accept_2_1__r := impl_of (T := Av.tab []) mixed htt (Av.tab_ok trivial) Tryd.func44 body44 (by kernel_rfl) fun ps r ho hF => by
  obtain ⟨x, rfl, h⟩ := lift_inv hF
  obtain ⟨y, hy, rfl⟩ := Option.map_eq_some_iff.1 h
  exact w44_22 x.1 x.2 y hy
theorem v73_23 : Impl Tryd.prog G 73 G_Lslices_IndexFunc_of__api_Input_api_Input__replace_Accept_2_1 := impl_of (T := Av.tab [(44, G_Lreplace_Accept_2_1__r)]) mixed htt (Av.tab_ok ⟨v44_22, trivial⟩) Tryd.func73 body73 (by kernel_rfl) fun ps r ho hF => by
  obtain ⟨x, rfl, h⟩ := lift_inv hF
  obtain ⟨y, hy, rfl⟩ := Option.map_eq_some_iff.1 h
  exact w73_23 rfl x.1 x.2 y hy
theorem v33_24 : Impl Tryd.prog G 33 G_Lslices_ContainsFunc_of__api_Input_api_Input__replace_Accept_2_1 := impl_of (T := Av.tab [(73, G_Lslices_IndexFunc_of__api_Input_api_Input__replace_Accept_2_1)]) mixed htt (Av.tab_ok ⟨v73_23, trivial⟩) Tryd.func33 body33 (by kernel_rfl) fun ps r ho hF => by
  obtain ⟨x, rfl, h⟩ := lift_inv hF
  obtain ⟨y, hy, rfl⟩ := Option.map_eq_some_iff.1 h
  exact w33_24 rfl x.1 x.2 y hy
theorem v42_25 : Impl Tryd.prog G 42 G_Lreplace_Accept_2__r := impl_of (T := Av.tab [(33, G_Lslices_ContainsFunc_of__api_Input_api_Input__replace_Accept_2_1), (43, G_Ltx_ID)]) mixed htt (Av.tab_ok ⟨v33_24, v43, trivial⟩) Tryd.func42 body42 (by kernel_rfl) fun ps r ho hF => by
  obtain ⟨x, rfl, h⟩ := lift_inv hF
  obtain ⟨y, hy, rfl⟩ := Option.map_eq_some_iff.1 h
  exact w42_25 rfl rfl x.1 x.2 y hy
theorem v77_26 : Impl Tryd.prog G 77 G_Lslices_IndexFunc_of__api_Entry_api_Entry__replace_Accept_2 := impl_of (T := Av.tab [(42, G_Lreplace_Accept_2__r)]) mixed htt (Av.tab_ok ⟨v42_25, trivial⟩) Tryd.func77 body77 (by kernel_rfl) fun ps r ho hF => by
  obtain ⟨x, rfl, h⟩ := lift_inv hF
  obtain ⟨y, hy, rfl⟩ := Option.map_eq_some_iff.1 h
  exact w77_26 rfl x.1 x.2 y hy
theorem v41_27 : Impl Tryd.prog G 41 G_Lslices_ContainsFunc_of__api_Entry_api_Entry__replace_Accept_2 := impl_of (T := Av.tab [(77, G_Lslices_IndexFunc_of__api_Entry_api_Entry__replace_Accept_2)]) mixed htt (Av.tab_ok ⟨v77_26, trivial⟩) Tryd.func41 body41 (by kernel_rfl) fun ps r ho hF => by
  obtain ⟨x, rfl, h⟩ := lift_inv hF
  obtain ⟨y, hy, rfl⟩ := Option.map_eq_some_iff.1 h
  exact w41_27 rfl x.1 x.2 y hy
theorem v40_28 : Impl Tryd.prog G 40 G_Lreplace_Accept_1__replace_Accept_2_p := impl_of (T := Av.tab [(41, G_Lslices_ContainsFunc_of__api_Entry_api_Entry__replace_Accept_2)]) mixed htt (Av.tab_ok ⟨v41_27, trivial⟩) Tryd.func40 body40 (by kernel_rfl) fun ps r ho hF => by
  obtain ⟨x, rfl, h⟩ := lift_inv hF
  obtain ⟨y, hy, rfl⟩ := Option.map_eq_some_iff.1 h
  exact w40_28 rfl x.1 x.2 y hy
theorem v18 : Impl Tryd.prog G 18 G_Lreplace_Accept := impl_of (T := Av.tab [(39, G_Ltx_Check), (40, (gor G_Lreplace_Accept_1__replace_Accept_2_p (gor G_Lreplace_Accept_1__replace_Accept_4_p (gor G_Lreplace_Accept_1__replace_Accept_3_p G_Lreplace_Accept_1__replace_Accept_5_p)))), (45, G_Ltx_Coinbase), (46, G_Lreplace_money), (50, G_Lreplace_enough)]) mixed htt (Av.tab_ok ⟨v39, (impl_or v40_28 (impl_or v40_18 (impl_or v40_14 v40_21))), v45, v46, v50, trivial⟩) Tryd.func18 body18 (by kernel_rfl) fun ps r ho hF => by
  obtain ⟨x, rfl, h⟩ := lift_inv hF
  obtain ⟨y, hy, rfl⟩ := Option.map_eq_some_iff.1 h
  exact w18 rfl rfl rfl rfl rfl x.1 x.2.1 x.2.2 y hy
theorem v8 : Impl Tryd.prog G 8 G_Llaw36_sane := impl_of (T := Av.tab [(11, G_Lreplace_Signals), (13, G_Lreplace_Conflict), (18, G_Lreplace_Accept)]) mixed htt (Av.tab_ok ⟨v11, v13, v18, trivial⟩) Tryd.func8 body8 (by kernel_rfl) fun ps r ho hF => by
  obtain ⟨x, rfl, h⟩ := lift_inv hF
  obtain ⟨y, hy, rfl⟩ := Option.map_eq_some_iff.1 h
  exact w8 rfl rfl rfl y hy
theorem v9 : Impl Tryd.prog G 9 G_Lmill_New := impl_of (T := Av.tab []) mixed htt (Av.tab_ok trivial) Tryd.func9 body9 (by kernel_rfl) fun ps r ho hF => by
  obtain ⟨x, rfl, h⟩ := lift_inv hF
  obtain ⟨y, hy, rfl⟩ := Option.map_eq_some_iff.1 h
  exact w9 x y hy
theorem v25 : Impl Tryd.prog G 25 G_Lmill_Mod := impl_of (T := Av.tab []) mixed htt (Av.tab_ok trivial) Tryd.func25 body25 (by kernel_rfl) fun ps r ho hF => by
  obtain ⟨x, rfl, h⟩ := lift_inv hF
  obtain ⟨y, hy, rfl⟩ := Option.map_eq_some_iff.1 h
  exact w25 x.1 x.2 y hy
theorem v38 : Impl Tryd.prog G 38 G_Lmill_Deck_Left := impl_of (T := Av.tab []) mixed htt (Av.tab_ok trivial) Tryd.func38 body38 (by kernel_rfl) fun ps r ho hF => by
  obtain ⟨x, rfl, h⟩ := lift_inv hF
  obtain ⟨y, hy, rfl⟩ := Option.map_eq_some_iff.1 h
  exact w38 x y hy
theorem v17 : Impl Tryd.prog G 17 G_Lmill_Deck_Next := impl_of (T := Av.tab [(25, G_Lmill_Mod), (38, G_Lmill_Deck_Left)]) mixed htt (Av.tab_ok ⟨v25, v38, trivial⟩) Tryd.func17 body17 (by kernel_rfl) fun ps r ho hF => by
  obtain ⟨x, rfl, h⟩ := lift_inv hF
  obtain ⟨y, hy, rfl⟩ := Option.map_eq_some_iff.1 h
  exact w17 rfl rfl x.1 x.2 y hy
theorem v23 : Impl Tryd.prog G 23 G_Lmade_Script := impl_of (T := Av.tab []) mixed htt (Av.tab_ok trivial) Tryd.func23 body23 (by kernel_rfl) fun ps r ho hF => by
  obtain ⟨x, rfl, h⟩ := lift_inv hF
  obtain ⟨y, hy, rfl⟩ := Option.map_eq_some_iff.1 h
  exact w23 x y hy
theorem v31 : Impl Tryd.prog G 31 G_Lmill_Deck_Range := impl_of (T := Av.tab [(17, G_Lmill_Deck_Next)]) mixed htt (Av.tab_ok ⟨v17, trivial⟩) Tryd.func31 body31 (by kernel_rfl) fun ps r ho hF => by
  obtain ⟨x, rfl, h⟩ := lift_inv hF
  obtain ⟨y, hy, rfl⟩ := Option.map_eq_some_iff.1 h
  exact w31 rfl x.1 x.2.1 x.2.2 y hy
theorem v32 : Impl Tryd.prog G 32 G_Lmill_Hash := impl_of (T := Av.tab [(17, G_Lmill_Deck_Next)]) mixed htt (Av.tab_ok ⟨v17, trivial⟩) Tryd.func32 body32 (by kernel_rfl) fun ps r ho hF => by
  obtain ⟨x, rfl, h⟩ := lift_inv hF
  obtain ⟨y, hy, rfl⟩ := Option.map_eq_some_iff.1 h
  exact w32 rfl x y hy
theorem v10 : Impl Tryd.prog G 10 G_Lmill_Tx := impl_of (T := Av.tab [(17, G_Lmill_Deck_Next), (23, G_Lmade_Script), (31, G_Lmill_Deck_Range), (32, G_Lmill_Hash)]) mixed htt (Av.tab_ok ⟨v17, v23, v31, v32, trivial⟩) Tryd.func10 body10 (by kernel_rfl) fun ps r ho hF => by
  obtain ⟨x, rfl, h⟩ := lift_inv hF
  obtain ⟨y, hy, rfl⟩ := Option.map_eq_some_iff.1 h
  exact w10 rfl rfl rfl rfl x y hy
theorem v12 : Impl Tryd.prog G 12 G_Lref36_Signals := impl_of (T := Av.tab []) mixed htt (Av.tab_ok trivial) Tryd.func12 body12 (by kernel_rfl) fun ps r ho hF => by
  obtain ⟨x, rfl, h⟩ := lift_inv hF
  obtain ⟨y, hy, rfl⟩ := Option.map_eq_some_iff.1 h
  exact w12 x y hy
theorem v14 : Impl Tryd.prog G 14 G_Lref36_Conflict := impl_of (T := Av.tab []) mixed htt (Av.tab_ok trivial) Tryd.func14 body14 (by kernel_rfl) fun ps r ho hF => by
  obtain ⟨x, rfl, h⟩ := lift_inv hF
  obtain ⟨y, hy, rfl⟩ := Option.map_eq_some_iff.1 h
  exact w14 x.1 x.2 y hy
theorem v3 : Impl Tryd.prog G 3 G_Llaw36_ReplaceSignals := impl_of (T := Av.tab [(8, G_Llaw36_sane), (9, G_Lmill_New), (10, G_Lmill_Tx), (11, G_Lreplace_Signals), (12, G_Lref36_Signals), (13, G_Lreplace_Conflict), (14, G_Lref36_Conflict)]) mixed htt (Av.tab_ok ⟨v8, v9, v10, v11, v12, v13, v14, trivial⟩) Tryd.func3 body3 (by kernel_rfl) fun ps r ho hF => by
  obtain ⟨x, rfl, h⟩ := lift_inv hF
  obtain ⟨y, hy, rfl⟩ := Option.map_eq_some_iff.1 h
  exact w3 rfl rfl rfl rfl rfl rfl rfl x.1 x.2.1 x.2.2 y hy
end Go.Proofs.YtconfbgcjkjnkaaDoor
