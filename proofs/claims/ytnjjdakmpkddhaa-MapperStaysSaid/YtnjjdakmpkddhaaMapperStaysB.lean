/- Cases of MapperStays, each by itself. -/
import Derived.Test.YtnjjdakmpkddhaaMapperStaysA
namespace Go.Proofs.Ytnjjdakmpkddhaa
open Go.ChangeShapes Go.WideShapes Go.ChangeAt Go.RowKit Go.Sx
theorem leaf_1 : T [] none K_1 := by unfold T; kernel_rfl
theorem leaf_14 : T [] none K_14 := by unfold T; kernel_rfl
theorem leaf_25 : T [] none K_25 := by unfold T; kernel_rfl
theorem leaf_37 : T [] none K_37 := by unfold T; kernel_rfl
theorem leaf_48 : T [] none K_48 := by unfold T; kernel_rfl
theorem leaf_57 : V K_57 := by unfold V; kernel_rfl
theorem leaf_65 : T [] none K_65 := by unfold T; kernel_rfl
theorem leaf_73_0 : T [(58, an_0)] (some []) K_73 := by unfold T; kernel_rfl
theorem leaf_75_2 : T [(58, an_1)] (some [1, 3, 1, 1, 2]) K_75 := by unfold T; kernel_rfl
theorem leaf_75_6 : T [(58, an_1)] (some [1, 3, 1, 0, 3]) K_75 := by unfold T; kernel_rfl
theorem leaf_75_10 : T [(58, an_1)] (some [1, 3, 0, 1, 4]) K_75 := by unfold T; kernel_rfl
theorem leaf_75_14 : T [(58, an_1)] (some [1, 3, 0, 1, 0]) K_75 := by unfold T; kernel_rfl
theorem leaf_75_18 : T [(58, an_1)] (some [1, 3, 0, 0, 1]) K_75 := by unfold T; kernel_rfl
theorem leaf_75_22 : T [(58, an_1)] (some [1, 2, 1, 1, 2]) K_75 := by unfold T; kernel_rfl
theorem leaf_75_26 : T [(58, an_1)] (some [1, 2, 1, 0, 3]) K_75 := by unfold T; kernel_rfl
theorem leaf_75_30 : T [(58, an_1)] (some [1, 2, 0, 1, 4]) K_75 := by unfold T; kernel_rfl
theorem leaf_75_34 : T [(58, an_1)] (some [1, 2, 0, 1, 0]) K_75 := by unfold T; kernel_rfl
theorem leaf_75_38 : T [(58, an_1)] (some [1, 2, 0, 0, 1]) K_75 := by unfold T; kernel_rfl
theorem leaf_75_42 : T [(58, an_1)] (some [1, 1, 1, 1, 2]) K_75 := by unfold T; kernel_rfl
theorem leaf_75_46 : T [(58, an_1)] (some [1, 1, 1, 0, 3]) K_75 := by unfold T; kernel_rfl
theorem leaf_75_50 : T [(58, an_1)] (some [1, 1, 0, 1, 4]) K_75 := by unfold T; kernel_rfl
theorem leaf_75_54 : T [(58, an_1)] (some [1, 1, 0, 1, 0]) K_75 := by unfold T; kernel_rfl
theorem leaf_75_58 : T [(58, an_1)] (some [1, 1, 0, 0, 1]) K_75 := by unfold T; kernel_rfl
theorem leaf_75_62 : T [(58, an_1)] (some [1, 0, 1, 1, 2]) K_75 := by unfold T; kernel_rfl
theorem leaf_75_66 : T [(58, an_1)] (some [1, 0, 1, 0, 3]) K_75 := by unfold T; kernel_rfl
theorem leaf_75_70 : T [(58, an_1)] (some [1, 0, 0, 1, 4]) K_75 := by unfold T; kernel_rfl
theorem leaf_75_74 : T [(58, an_1)] (some [1, 0, 0, 1, 0]) K_75 := by unfold T; kernel_rfl
theorem leaf_75_78 : T [(58, an_1)] (some [1, 0, 0, 0, 1]) K_75 := by unfold T; kernel_rfl
theorem leaf_75_82 : T [(58, an_1)] (some [0, 3, 1, 1, 2]) K_75 := by unfold T; kernel_rfl
theorem leaf_75_86 : T [(58, an_1)] (some [0, 3, 1, 0, 3]) K_75 := by unfold T; kernel_rfl
theorem leaf_75_90 : T [(58, an_1)] (some [0, 3, 0, 1, 4]) K_75 := by unfold T; kernel_rfl
theorem leaf_75_94 : T [(58, an_1)] (some [0, 3, 0, 1, 0]) K_75 := by unfold T; kernel_rfl
theorem leaf_75_98 : T [(58, an_1)] (some [0, 3, 0, 0, 1]) K_75 := by unfold T; kernel_rfl
theorem leaf_75_102 : T [(58, an_1)] (some [0, 2, 1, 1, 2]) K_75 := by unfold T; kernel_rfl
theorem leaf_75_106 : T [(58, an_1)] (some [0, 2, 1, 0, 3]) K_75 := by unfold T; kernel_rfl
theorem leaf_75_110 : T [(58, an_1)] (some [0, 2, 0, 1, 4]) K_75 := by unfold T; kernel_rfl
theorem leaf_75_114 : T [(58, an_1)] (some [0, 2, 0, 1, 0]) K_75 := by unfold T; kernel_rfl
theorem leaf_75_118 : T [(58, an_1)] (some [0, 2, 0, 0, 1]) K_75 := by unfold T; kernel_rfl
theorem leaf_75_122 : T [(58, an_1)] (some [0, 1, 1, 1, 2]) K_75 := by unfold T; kernel_rfl
theorem leaf_75_126 : T [(58, an_1)] (some [0, 1, 1, 0, 3]) K_75 := by unfold T; kernel_rfl
theorem leaf_75_130 : T [(58, an_1)] (some [0, 1, 0, 1, 4]) K_75 := by unfold T; kernel_rfl
theorem leaf_75_134 : T [(58, an_1)] (some [0, 1, 0, 1, 0]) K_75 := by unfold T; kernel_rfl
theorem leaf_75_138 : T [(58, an_1)] (some [0, 1, 0, 0, 1]) K_75 := by unfold T; kernel_rfl
theorem leaf_75_142 : T [(58, an_1)] (some [0, 0, 1, 1, 2]) K_75 := by unfold T; kernel_rfl
theorem leaf_75_146 : T [(58, an_1)] (some [0, 0, 1, 0, 3]) K_75 := by unfold T; kernel_rfl
theorem leaf_75_150 : T [(58, an_1)] (some [0, 0, 0, 1, 4]) K_75 := by unfold T; kernel_rfl
theorem leaf_75_154 : T [(58, an_1)] (some [0, 0, 0, 1, 0]) K_75 := by unfold T; kernel_rfl
theorem leaf_75_158 : T [(58, an_1)] (some [0, 0, 0, 0, 1]) K_75 := by unfold T; kernel_rfl
theorem leaf_77_1 : T [(58, an_2)] none K_77 := by unfold T; kernel_rfl
theorem leaf_81_1 : T [(58, an_4)] (some [3, 7, 0]) K_81 := by unfold T; kernel_rfl
theorem leaf_81_5 : T [(58, an_4)] (some [3, 5, 0]) K_81 := by unfold T; kernel_rfl
theorem leaf_81_9 : T [(58, an_4)] (some [3, 3, 0]) K_81 := by unfold T; kernel_rfl
theorem leaf_81_13 : T [(58, an_4)] (some [3, 1, 0]) K_81 := by unfold T; kernel_rfl
theorem leaf_81_17 : T [(58, an_4)] (some [2, 7, 0]) K_81 := by unfold T; kernel_rfl
theorem leaf_81_21 : T [(58, an_4)] (some [2, 5, 0]) K_81 := by unfold T; kernel_rfl
theorem leaf_81_25 : T [(58, an_4)] (some [2, 3, 0]) K_81 := by unfold T; kernel_rfl
theorem leaf_81_29 : T [(58, an_4)] (some [2, 1, 0]) K_81 := by unfold T; kernel_rfl
theorem leaf_81_33 : T [(58, an_4)] (some [1, 7, 0]) K_81 := by unfold T; kernel_rfl
theorem leaf_81_37 : T [(58, an_4)] (some [1, 5, 0]) K_81 := by unfold T; kernel_rfl
theorem leaf_81_41 : T [(58, an_4)] (some [1, 3, 0]) K_81 := by unfold T; kernel_rfl
theorem leaf_81_45 : T [(58, an_4)] (some [1, 1, 0]) K_81 := by unfold T; kernel_rfl
theorem leaf_81_49 : T [(58, an_4)] (some [0, 7, 0]) K_81 := by unfold T; kernel_rfl
theorem leaf_81_53 : T [(58, an_4)] (some [0, 5, 0]) K_81 := by unfold T; kernel_rfl
theorem leaf_81_57 : T [(58, an_4)] (some [0, 3, 0]) K_81 := by unfold T; kernel_rfl
theorem leaf_81_61 : T [(58, an_4)] (some [0, 1, 0]) K_81 := by unfold T; kernel_rfl
theorem leaf_83_0 : T [(58, an_5)] (some []) K_83 := by unfold T; kernel_rfl
theorem know_13 : X.proveE 300 1000 K_13 c_9 = true := by kernel_rfl
theorem know_24 : X.proveE 300 1000 K_24 c_9 = true := by kernel_rfl
theorem know_36 : X.proveE 300 1000 K_36 c_9 = true := by kernel_rfl
theorem know_47 : X.proveE 300 1000 K_47 c_9 = true := by kernel_rfl
end Go.Proofs.Ytnjjdakmpkddhaa
