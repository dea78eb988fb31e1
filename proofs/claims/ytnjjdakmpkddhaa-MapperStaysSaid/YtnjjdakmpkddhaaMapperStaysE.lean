/- Cases of MapperStays, each by itself. -/
import Derived.Test.YtnjjdakmpkddhaaMapperStaysA
namespace Go.Proofs.Ytnjjdakmpkddhaa
open Go.ChangeShapes Go.WideShapes Go.ChangeAt Go.RowKit Go.Sx
theorem leaf_12 : T [] none K_12 := by unfold T; kernel_rfl
theorem leaf_23 : T [] none K_23 := by unfold T; kernel_rfl
theorem leaf_35 : T [] none K_35 := by unfold T; kernel_rfl
theorem leaf_46 : T [] none K_46 := by unfold T; kernel_rfl
theorem leaf_55 : V K_55 := by unfold V; kernel_rfl
theorem leaf_63 : V K_63 := by unfold V; kernel_rfl
theorem leaf_71 : T [] none K_71 := by unfold T; kernel_rfl
theorem leaf_75_1 : T [(58, an_1)] (some [1, 3, 1, 1, 3]) K_75 := by unfold T; kernel_rfl
theorem leaf_75_5 : T [(58, an_1)] (some [1, 3, 1, 0, 4]) K_75 := by unfold T; kernel_rfl
theorem leaf_75_9 : T [(58, an_1)] (some [1, 3, 1, 0, 0]) K_75 := by unfold T; kernel_rfl
theorem leaf_75_13 : T [(58, an_1)] (some [1, 3, 0, 1, 1]) K_75 := by unfold T; kernel_rfl
theorem leaf_75_17 : T [(58, an_1)] (some [1, 3, 0, 0, 2]) K_75 := by unfold T; kernel_rfl
theorem leaf_75_21 : T [(58, an_1)] (some [1, 2, 1, 1, 3]) K_75 := by unfold T; kernel_rfl
theorem leaf_75_25 : T [(58, an_1)] (some [1, 2, 1, 0, 4]) K_75 := by unfold T; kernel_rfl
theorem leaf_75_29 : T [(58, an_1)] (some [1, 2, 1, 0, 0]) K_75 := by unfold T; kernel_rfl
theorem leaf_75_33 : T [(58, an_1)] (some [1, 2, 0, 1, 1]) K_75 := by unfold T; kernel_rfl
theorem leaf_75_37 : T [(58, an_1)] (some [1, 2, 0, 0, 2]) K_75 := by unfold T; kernel_rfl
theorem leaf_75_41 : T [(58, an_1)] (some [1, 1, 1, 1, 3]) K_75 := by unfold T; kernel_rfl
theorem leaf_75_45 : T [(58, an_1)] (some [1, 1, 1, 0, 4]) K_75 := by unfold T; kernel_rfl
theorem leaf_75_49 : T [(58, an_1)] (some [1, 1, 1, 0, 0]) K_75 := by unfold T; kernel_rfl
theorem leaf_75_53 : T [(58, an_1)] (some [1, 1, 0, 1, 1]) K_75 := by unfold T; kernel_rfl
theorem leaf_75_57 : T [(58, an_1)] (some [1, 1, 0, 0, 2]) K_75 := by unfold T; kernel_rfl
theorem leaf_75_61 : T [(58, an_1)] (some [1, 0, 1, 1, 3]) K_75 := by unfold T; kernel_rfl
theorem leaf_75_65 : T [(58, an_1)] (some [1, 0, 1, 0, 4]) K_75 := by unfold T; kernel_rfl
theorem leaf_75_69 : T [(58, an_1)] (some [1, 0, 1, 0, 0]) K_75 := by unfold T; kernel_rfl
theorem leaf_75_73 : T [(58, an_1)] (some [1, 0, 0, 1, 1]) K_75 := by unfold T; kernel_rfl
theorem leaf_75_77 : T [(58, an_1)] (some [1, 0, 0, 0, 2]) K_75 := by unfold T; kernel_rfl
theorem leaf_75_81 : T [(58, an_1)] (some [0, 3, 1, 1, 3]) K_75 := by unfold T; kernel_rfl
theorem leaf_75_85 : T [(58, an_1)] (some [0, 3, 1, 0, 4]) K_75 := by unfold T; kernel_rfl
theorem leaf_75_89 : T [(58, an_1)] (some [0, 3, 1, 0, 0]) K_75 := by unfold T; kernel_rfl
theorem leaf_75_93 : T [(58, an_1)] (some [0, 3, 0, 1, 1]) K_75 := by unfold T; kernel_rfl
theorem leaf_75_97 : T [(58, an_1)] (some [0, 3, 0, 0, 2]) K_75 := by unfold T; kernel_rfl
theorem leaf_75_101 : T [(58, an_1)] (some [0, 2, 1, 1, 3]) K_75 := by unfold T; kernel_rfl
theorem leaf_75_105 : T [(58, an_1)] (some [0, 2, 1, 0, 4]) K_75 := by unfold T; kernel_rfl
theorem leaf_75_109 : T [(58, an_1)] (some [0, 2, 1, 0, 0]) K_75 := by unfold T; kernel_rfl
theorem leaf_75_113 : T [(58, an_1)] (some [0, 2, 0, 1, 1]) K_75 := by unfold T; kernel_rfl
theorem leaf_75_117 : T [(58, an_1)] (some [0, 2, 0, 0, 2]) K_75 := by unfold T; kernel_rfl
theorem leaf_75_121 : T [(58, an_1)] (some [0, 1, 1, 1, 3]) K_75 := by unfold T; kernel_rfl
theorem leaf_75_125 : T [(58, an_1)] (some [0, 1, 1, 0, 4]) K_75 := by unfold T; kernel_rfl
theorem leaf_75_129 : T [(58, an_1)] (some [0, 1, 1, 0, 0]) K_75 := by unfold T; kernel_rfl
theorem leaf_75_133 : T [(58, an_1)] (some [0, 1, 0, 1, 1]) K_75 := by unfold T; kernel_rfl
theorem leaf_75_137 : T [(58, an_1)] (some [0, 1, 0, 0, 2]) K_75 := by unfold T; kernel_rfl
theorem leaf_75_141 : T [(58, an_1)] (some [0, 0, 1, 1, 3]) K_75 := by unfold T; kernel_rfl
theorem leaf_75_145 : T [(58, an_1)] (some [0, 0, 1, 0, 4]) K_75 := by unfold T; kernel_rfl
theorem leaf_75_149 : T [(58, an_1)] (some [0, 0, 1, 0, 0]) K_75 := by unfold T; kernel_rfl
theorem leaf_75_153 : T [(58, an_1)] (some [0, 0, 0, 1, 1]) K_75 := by unfold T; kernel_rfl
theorem leaf_75_157 : T [(58, an_1)] (some [0, 0, 0, 0, 2]) K_75 := by unfold T; kernel_rfl
theorem leaf_77_0 : T [(58, an_2)] (some []) K_77 := by unfold T; kernel_rfl
theorem leaf_81_0 : T [(58, an_4)] (some [3, 7, 1]) K_81 := by unfold T; kernel_rfl
theorem leaf_81_4 : T [(58, an_4)] (some [3, 5, 1]) K_81 := by unfold T; kernel_rfl
theorem leaf_81_8 : T [(58, an_4)] (some [3, 3, 1]) K_81 := by unfold T; kernel_rfl
theorem leaf_81_12 : T [(58, an_4)] (some [3, 1, 1]) K_81 := by unfold T; kernel_rfl
theorem leaf_81_16 : T [(58, an_4)] (some [2, 7, 1]) K_81 := by unfold T; kernel_rfl
theorem leaf_81_20 : T [(58, an_4)] (some [2, 5, 1]) K_81 := by unfold T; kernel_rfl
theorem leaf_81_24 : T [(58, an_4)] (some [2, 3, 1]) K_81 := by unfold T; kernel_rfl
theorem leaf_81_28 : T [(58, an_4)] (some [2, 1, 1]) K_81 := by unfold T; kernel_rfl
theorem leaf_81_32 : T [(58, an_4)] (some [1, 7, 1]) K_81 := by unfold T; kernel_rfl
theorem leaf_81_36 : T [(58, an_4)] (some [1, 5, 1]) K_81 := by unfold T; kernel_rfl
theorem leaf_81_40 : T [(58, an_4)] (some [1, 3, 1]) K_81 := by unfold T; kernel_rfl
theorem leaf_81_44 : T [(58, an_4)] (some [1, 1, 1]) K_81 := by unfold T; kernel_rfl
theorem leaf_81_48 : T [(58, an_4)] (some [0, 7, 1]) K_81 := by unfold T; kernel_rfl
theorem leaf_81_52 : T [(58, an_4)] (some [0, 5, 1]) K_81 := by unfold T; kernel_rfl
theorem leaf_81_56 : T [(58, an_4)] (some [0, 3, 1]) K_81 := by unfold T; kernel_rfl
theorem leaf_81_60 : T [(58, an_4)] (some [0, 1, 1]) K_81 := by unfold T; kernel_rfl
theorem leaf_81_64 : T [(58, an_4)] none K_81 := by unfold T; kernel_rfl
theorem know_11 : X.proveE 300 1000 K_11 c_8 = true := by kernel_rfl
theorem know_22 : X.proveE 300 1000 K_22 c_8 = true := by kernel_rfl
theorem know_34 : X.proveE 300 1000 K_34 c_8 = true := by kernel_rfl
theorem know_45 : X.proveE 300 1000 K_45 c_8 = true := by kernel_rfl
end Go.Proofs.Ytnjjdakmpkddhaa
