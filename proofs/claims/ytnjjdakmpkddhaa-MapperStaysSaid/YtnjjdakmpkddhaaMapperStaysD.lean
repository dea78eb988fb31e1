/- Cases of MapperStays, each by itself. -/
import Derived.Test.YtnjjdakmpkddhaaMapperStaysA
namespace Go.Proofs.Ytnjjdakmpkddhaa
open Go.ChangeShapes Go.WideShapes Go.ChangeAt Go.RowKit Go.Sx
theorem leaf_5 : T [] none K_5 := by unfold T; kernel_rfl
theorem leaf_19 : T [] none K_19 := by unfold T; kernel_rfl
theorem leaf_30 : T [] none K_30 := by unfold T; kernel_rfl
theorem leaf_42 : T [] none K_42 := by unfold T; kernel_rfl
theorem leaf_53 : T [] none K_53 := by unfold T; kernel_rfl
theorem leaf_61 : V K_61 := by unfold V; kernel_rfl
theorem leaf_69 : T [] none K_69 := by unfold T; kernel_rfl
theorem leaf_75_0 : T [(58, an_1)] (some [1, 3, 1, 1, 4]) K_75 := by unfold T; kernel_rfl
theorem leaf_75_4 : T [(58, an_1)] (some [1, 3, 1, 1, 0]) K_75 := by unfold T; kernel_rfl
theorem leaf_75_8 : T [(58, an_1)] (some [1, 3, 1, 0, 1]) K_75 := by unfold T; kernel_rfl
theorem leaf_75_12 : T [(58, an_1)] (some [1, 3, 0, 1, 2]) K_75 := by unfold T; kernel_rfl
theorem leaf_75_16 : T [(58, an_1)] (some [1, 3, 0, 0, 3]) K_75 := by unfold T; kernel_rfl
theorem leaf_75_20 : T [(58, an_1)] (some [1, 2, 1, 1, 4]) K_75 := by unfold T; kernel_rfl
theorem leaf_75_24 : T [(58, an_1)] (some [1, 2, 1, 1, 0]) K_75 := by unfold T; kernel_rfl
theorem leaf_75_28 : T [(58, an_1)] (some [1, 2, 1, 0, 1]) K_75 := by unfold T; kernel_rfl
theorem leaf_75_32 : T [(58, an_1)] (some [1, 2, 0, 1, 2]) K_75 := by unfold T; kernel_rfl
theorem leaf_75_36 : T [(58, an_1)] (some [1, 2, 0, 0, 3]) K_75 := by unfold T; kernel_rfl
theorem leaf_75_40 : T [(58, an_1)] (some [1, 1, 1, 1, 4]) K_75 := by unfold T; kernel_rfl
theorem leaf_75_44 : T [(58, an_1)] (some [1, 1, 1, 1, 0]) K_75 := by unfold T; kernel_rfl
theorem leaf_75_48 : T [(58, an_1)] (some [1, 1, 1, 0, 1]) K_75 := by unfold T; kernel_rfl
theorem leaf_75_52 : T [(58, an_1)] (some [1, 1, 0, 1, 2]) K_75 := by unfold T; kernel_rfl
theorem leaf_75_56 : T [(58, an_1)] (some [1, 1, 0, 0, 3]) K_75 := by unfold T; kernel_rfl
theorem leaf_75_60 : T [(58, an_1)] (some [1, 0, 1, 1, 4]) K_75 := by unfold T; kernel_rfl
theorem leaf_75_64 : T [(58, an_1)] (some [1, 0, 1, 1, 0]) K_75 := by unfold T; kernel_rfl
theorem leaf_75_68 : T [(58, an_1)] (some [1, 0, 1, 0, 1]) K_75 := by unfold T; kernel_rfl
theorem leaf_75_72 : T [(58, an_1)] (some [1, 0, 0, 1, 2]) K_75 := by unfold T; kernel_rfl
theorem leaf_75_76 : T [(58, an_1)] (some [1, 0, 0, 0, 3]) K_75 := by unfold T; kernel_rfl
theorem leaf_75_80 : T [(58, an_1)] (some [0, 3, 1, 1, 4]) K_75 := by unfold T; kernel_rfl
theorem leaf_75_84 : T [(58, an_1)] (some [0, 3, 1, 1, 0]) K_75 := by unfold T; kernel_rfl
theorem leaf_75_88 : T [(58, an_1)] (some [0, 3, 1, 0, 1]) K_75 := by unfold T; kernel_rfl
theorem leaf_75_92 : T [(58, an_1)] (some [0, 3, 0, 1, 2]) K_75 := by unfold T; kernel_rfl
theorem leaf_75_96 : T [(58, an_1)] (some [0, 3, 0, 0, 3]) K_75 := by unfold T; kernel_rfl
theorem leaf_75_100 : T [(58, an_1)] (some [0, 2, 1, 1, 4]) K_75 := by unfold T; kernel_rfl
theorem leaf_75_104 : T [(58, an_1)] (some [0, 2, 1, 1, 0]) K_75 := by unfold T; kernel_rfl
theorem leaf_75_108 : T [(58, an_1)] (some [0, 2, 1, 0, 1]) K_75 := by unfold T; kernel_rfl
theorem leaf_75_112 : T [(58, an_1)] (some [0, 2, 0, 1, 2]) K_75 := by unfold T; kernel_rfl
theorem leaf_75_116 : T [(58, an_1)] (some [0, 2, 0, 0, 3]) K_75 := by unfold T; kernel_rfl
theorem leaf_75_120 : T [(58, an_1)] (some [0, 1, 1, 1, 4]) K_75 := by unfold T; kernel_rfl
theorem leaf_75_124 : T [(58, an_1)] (some [0, 1, 1, 1, 0]) K_75 := by unfold T; kernel_rfl
theorem leaf_75_128 : T [(58, an_1)] (some [0, 1, 1, 0, 1]) K_75 := by unfold T; kernel_rfl
theorem leaf_75_132 : T [(58, an_1)] (some [0, 1, 0, 1, 2]) K_75 := by unfold T; kernel_rfl
theorem leaf_75_136 : T [(58, an_1)] (some [0, 1, 0, 0, 3]) K_75 := by unfold T; kernel_rfl
theorem leaf_75_140 : T [(58, an_1)] (some [0, 0, 1, 1, 4]) K_75 := by unfold T; kernel_rfl
theorem leaf_75_144 : T [(58, an_1)] (some [0, 0, 1, 1, 0]) K_75 := by unfold T; kernel_rfl
theorem leaf_75_148 : T [(58, an_1)] (some [0, 0, 1, 0, 1]) K_75 := by unfold T; kernel_rfl
theorem leaf_75_152 : T [(58, an_1)] (some [0, 0, 0, 1, 2]) K_75 := by unfold T; kernel_rfl
theorem leaf_75_156 : T [(58, an_1)] (some [0, 0, 0, 0, 3]) K_75 := by unfold T; kernel_rfl
theorem leaf_75_160 : T [(58, an_1)] none K_75 := by unfold T; kernel_rfl
theorem leaf_79_1 : T [(58, an_3)] none K_79 := by unfold T; kernel_rfl
theorem leaf_81_3 : T [(58, an_4)] (some [3, 6, 0]) K_81 := by unfold T; kernel_rfl
theorem leaf_81_7 : T [(58, an_4)] (some [3, 4, 0]) K_81 := by unfold T; kernel_rfl
theorem leaf_81_11 : T [(58, an_4)] (some [3, 2, 0]) K_81 := by unfold T; kernel_rfl
theorem leaf_81_15 : T [(58, an_4)] (some [3, 0, 0]) K_81 := by unfold T; kernel_rfl
theorem leaf_81_19 : T [(58, an_4)] (some [2, 6, 0]) K_81 := by unfold T; kernel_rfl
theorem leaf_81_23 : T [(58, an_4)] (some [2, 4, 0]) K_81 := by unfold T; kernel_rfl
theorem leaf_81_27 : T [(58, an_4)] (some [2, 2, 0]) K_81 := by unfold T; kernel_rfl
theorem leaf_81_31 : T [(58, an_4)] (some [2, 0, 0]) K_81 := by unfold T; kernel_rfl
theorem leaf_81_35 : T [(58, an_4)] (some [1, 6, 0]) K_81 := by unfold T; kernel_rfl
theorem leaf_81_39 : T [(58, an_4)] (some [1, 4, 0]) K_81 := by unfold T; kernel_rfl
theorem leaf_81_43 : T [(58, an_4)] (some [1, 2, 0]) K_81 := by unfold T; kernel_rfl
theorem leaf_81_47 : T [(58, an_4)] (some [1, 0, 0]) K_81 := by unfold T; kernel_rfl
theorem leaf_81_51 : T [(58, an_4)] (some [0, 6, 0]) K_81 := by unfold T; kernel_rfl
theorem leaf_81_55 : T [(58, an_4)] (some [0, 4, 0]) K_81 := by unfold T; kernel_rfl
theorem leaf_81_59 : T [(58, an_4)] (some [0, 2, 0]) K_81 := by unfold T; kernel_rfl
theorem leaf_81_63 : T [(58, an_4)] (some [0, 0, 0]) K_81 := by unfold T; kernel_rfl
theorem leaf_84 : V K_84 := by unfold V; kernel_rfl
theorem know_18 : X.proveE 300 1000 K_18 c_11 = true := by kernel_rfl
theorem know_29 : X.proveE 300 1000 K_29 c_14 = true := by kernel_rfl
theorem know_41 : X.proveE 300 1000 K_41 c_11 = true := by kernel_rfl
theorem know_52 : X.proveE 300 1000 K_52 c_18 = true := by kernel_rfl
end Go.Proofs.Ytnjjdakmpkddhaa
