/- Cases of MapperStays, each by itself. -/
import Derived.Test.YtnjjdakmpkddhaaMapperStaysA
namespace Go.Proofs.Ytnjjdakmpkddhaa
open Go.ChangeShapes Go.WideShapes Go.ChangeAt Go.RowKit Go.Sx
theorem leaf_3 : T [] none K_3 := by unfold T; kernel_rfl
theorem leaf_17 : T [] none K_17 := by unfold T; kernel_rfl
theorem leaf_28 : T [] none K_28 := by unfold T; kernel_rfl
theorem leaf_40 : T [] none K_40 := by unfold T; kernel_rfl
theorem leaf_51 : T [] none K_51 := by unfold T; kernel_rfl
theorem leaf_59 : V K_59 := by unfold V; kernel_rfl
theorem leaf_67 : T [] none K_67 := by unfold T; kernel_rfl
theorem leaf_73_1 : T [(58, an_0)] none K_73 := by unfold T; kernel_rfl
theorem leaf_75_3 : T [(58, an_1)] (some [1, 3, 1, 1, 1]) K_75 := by unfold T; kernel_rfl
theorem leaf_75_7 : T [(58, an_1)] (some [1, 3, 1, 0, 2]) K_75 := by unfold T; kernel_rfl
theorem leaf_75_11 : T [(58, an_1)] (some [1, 3, 0, 1, 3]) K_75 := by unfold T; kernel_rfl
theorem leaf_75_15 : T [(58, an_1)] (some [1, 3, 0, 0, 4]) K_75 := by unfold T; kernel_rfl
theorem leaf_75_19 : T [(58, an_1)] (some [1, 3, 0, 0, 0]) K_75 := by unfold T; kernel_rfl
theorem leaf_75_23 : T [(58, an_1)] (some [1, 2, 1, 1, 1]) K_75 := by unfold T; kernel_rfl
theorem leaf_75_27 : T [(58, an_1)] (some [1, 2, 1, 0, 2]) K_75 := by unfold T; kernel_rfl
theorem leaf_75_31 : T [(58, an_1)] (some [1, 2, 0, 1, 3]) K_75 := by unfold T; kernel_rfl
theorem leaf_75_35 : T [(58, an_1)] (some [1, 2, 0, 0, 4]) K_75 := by unfold T; kernel_rfl
theorem leaf_75_39 : T [(58, an_1)] (some [1, 2, 0, 0, 0]) K_75 := by unfold T; kernel_rfl
theorem leaf_75_43 : T [(58, an_1)] (some [1, 1, 1, 1, 1]) K_75 := by unfold T; kernel_rfl
theorem leaf_75_47 : T [(58, an_1)] (some [1, 1, 1, 0, 2]) K_75 := by unfold T; kernel_rfl
theorem leaf_75_51 : T [(58, an_1)] (some [1, 1, 0, 1, 3]) K_75 := by unfold T; kernel_rfl
theorem leaf_75_55 : T [(58, an_1)] (some [1, 1, 0, 0, 4]) K_75 := by unfold T; kernel_rfl
theorem leaf_75_59 : T [(58, an_1)] (some [1, 1, 0, 0, 0]) K_75 := by unfold T; kernel_rfl
theorem leaf_75_63 : T [(58, an_1)] (some [1, 0, 1, 1, 1]) K_75 := by unfold T; kernel_rfl
theorem leaf_75_67 : T [(58, an_1)] (some [1, 0, 1, 0, 2]) K_75 := by unfold T; kernel_rfl
theorem leaf_75_71 : T [(58, an_1)] (some [1, 0, 0, 1, 3]) K_75 := by unfold T; kernel_rfl
theorem leaf_75_75 : T [(58, an_1)] (some [1, 0, 0, 0, 4]) K_75 := by unfold T; kernel_rfl
theorem leaf_75_79 : T [(58, an_1)] (some [1, 0, 0, 0, 0]) K_75 := by unfold T; kernel_rfl
theorem leaf_75_83 : T [(58, an_1)] (some [0, 3, 1, 1, 1]) K_75 := by unfold T; kernel_rfl
theorem leaf_75_87 : T [(58, an_1)] (some [0, 3, 1, 0, 2]) K_75 := by unfold T; kernel_rfl
theorem leaf_75_91 : T [(58, an_1)] (some [0, 3, 0, 1, 3]) K_75 := by unfold T; kernel_rfl
theorem leaf_75_95 : T [(58, an_1)] (some [0, 3, 0, 0, 4]) K_75 := by unfold T; kernel_rfl
theorem leaf_75_99 : T [(58, an_1)] (some [0, 3, 0, 0, 0]) K_75 := by unfold T; kernel_rfl
theorem leaf_75_103 : T [(58, an_1)] (some [0, 2, 1, 1, 1]) K_75 := by unfold T; kernel_rfl
theorem leaf_75_107 : T [(58, an_1)] (some [0, 2, 1, 0, 2]) K_75 := by unfold T; kernel_rfl
theorem leaf_75_111 : T [(58, an_1)] (some [0, 2, 0, 1, 3]) K_75 := by unfold T; kernel_rfl
theorem leaf_75_115 : T [(58, an_1)] (some [0, 2, 0, 0, 4]) K_75 := by unfold T; kernel_rfl
theorem leaf_75_119 : T [(58, an_1)] (some [0, 2, 0, 0, 0]) K_75 := by unfold T; kernel_rfl
theorem leaf_75_123 : T [(58, an_1)] (some [0, 1, 1, 1, 1]) K_75 := by unfold T; kernel_rfl
theorem leaf_75_127 : T [(58, an_1)] (some [0, 1, 1, 0, 2]) K_75 := by unfold T; kernel_rfl
theorem leaf_75_131 : T [(58, an_1)] (some [0, 1, 0, 1, 3]) K_75 := by unfold T; kernel_rfl
theorem leaf_75_135 : T [(58, an_1)] (some [0, 1, 0, 0, 4]) K_75 := by unfold T; kernel_rfl
theorem leaf_75_139 : T [(58, an_1)] (some [0, 1, 0, 0, 0]) K_75 := by unfold T; kernel_rfl
theorem leaf_75_143 : T [(58, an_1)] (some [0, 0, 1, 1, 1]) K_75 := by unfold T; kernel_rfl
theorem leaf_75_147 : T [(58, an_1)] (some [0, 0, 1, 0, 2]) K_75 := by unfold T; kernel_rfl
theorem leaf_75_151 : T [(58, an_1)] (some [0, 0, 0, 1, 3]) K_75 := by unfold T; kernel_rfl
theorem leaf_75_155 : T [(58, an_1)] (some [0, 0, 0, 0, 4]) K_75 := by unfold T; kernel_rfl
theorem leaf_75_159 : T [(58, an_1)] (some [0, 0, 0, 0, 0]) K_75 := by unfold T; kernel_rfl
theorem leaf_79_0 : T [(58, an_3)] (some []) K_79 := by unfold T; kernel_rfl
theorem leaf_81_2 : T [(58, an_4)] (some [3, 6, 1]) K_81 := by unfold T; kernel_rfl
theorem leaf_81_6 : T [(58, an_4)] (some [3, 4, 1]) K_81 := by unfold T; kernel_rfl
theorem leaf_81_10 : T [(58, an_4)] (some [3, 2, 1]) K_81 := by unfold T; kernel_rfl
theorem leaf_81_14 : T [(58, an_4)] (some [3, 0, 1]) K_81 := by unfold T; kernel_rfl
theorem leaf_81_18 : T [(58, an_4)] (some [2, 6, 1]) K_81 := by unfold T; kernel_rfl
theorem leaf_81_22 : T [(58, an_4)] (some [2, 4, 1]) K_81 := by unfold T; kernel_rfl
theorem leaf_81_26 : T [(58, an_4)] (some [2, 2, 1]) K_81 := by unfold T; kernel_rfl
theorem leaf_81_30 : T [(58, an_4)] (some [2, 0, 1]) K_81 := by unfold T; kernel_rfl
theorem leaf_81_34 : T [(58, an_4)] (some [1, 6, 1]) K_81 := by unfold T; kernel_rfl
theorem leaf_81_38 : T [(58, an_4)] (some [1, 4, 1]) K_81 := by unfold T; kernel_rfl
theorem leaf_81_42 : T [(58, an_4)] (some [1, 2, 1]) K_81 := by unfold T; kernel_rfl
theorem leaf_81_46 : T [(58, an_4)] (some [1, 0, 1]) K_81 := by unfold T; kernel_rfl
theorem leaf_81_50 : T [(58, an_4)] (some [0, 6, 1]) K_81 := by unfold T; kernel_rfl
theorem leaf_81_54 : T [(58, an_4)] (some [0, 4, 1]) K_81 := by unfold T; kernel_rfl
theorem leaf_81_58 : T [(58, an_4)] (some [0, 2, 1]) K_81 := by unfold T; kernel_rfl
theorem leaf_81_62 : T [(58, an_4)] (some [0, 0, 1]) K_81 := by unfold T; kernel_rfl
theorem leaf_83_1 : T [(58, an_5)] none K_83 := by unfold T; kernel_rfl
theorem know_16 : X.proveE 300 1000 K_16 c_8 = true := by kernel_rfl
theorem know_27 : X.proveE 300 1000 K_27 c_8 = true := by kernel_rfl
theorem know_39 : X.proveE 300 1000 K_39 c_8 = true := by kernel_rfl
theorem know_50 : X.proveE 300 1000 K_50 c_8 = true := by kernel_rfl
end Go.Proofs.Ytnjjdakmpkddhaa
