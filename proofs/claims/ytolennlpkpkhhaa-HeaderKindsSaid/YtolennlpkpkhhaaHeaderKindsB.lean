/- Cases of HeaderKinds, each by itself. -/
import Derived.Test.YtolennlpkpkhhaaHeaderKindsA
namespace Go.Proofs.Ytolennlpkpkhhaa
open Go.ChangeShapes Go.WideShapes Go.ChangeAt Go.RowKit Go.Sx
theorem leaf_1 : T K_1 := by unfold T; kernel_rfl
theorem leaf_7 : T K_7 := by unfold T; kernel_rfl
theorem leaf_28 : T K_28 := by unfold T; kernel_rfl
theorem leaf_34 : T K_34 := by unfold T; kernel_rfl
theorem leaf_44 : T K_44 := by unfold T; kernel_rfl
theorem leaf_50 : T K_50 := by unfold T; kernel_rfl
theorem leaf_53 : T K_53 := by unfold T; kernel_rfl
theorem leaf_74 : T K_74 := by unfold T; kernel_rfl
theorem leaf_80 : T K_80 := by unfold T; kernel_rfl
theorem leaf_90 : T K_90 := by unfold T; kernel_rfl
theorem leaf_96 : T K_96 := by unfold T; kernel_rfl
theorem leaf_99 : T K_99 := by unfold T; kernel_rfl
theorem leaf_120 : T K_120 := by unfold T; kernel_rfl
theorem leaf_126 : T K_126 := by unfold T; kernel_rfl
theorem leaf_136 : T K_136 := by unfold T; kernel_rfl
theorem leaf_142 : T K_142 := by unfold T; kernel_rfl
theorem leaf_145 : T K_145 := by unfold T; kernel_rfl
theorem leaf_166 : T K_166 := by unfold T; kernel_rfl
theorem leaf_172 : T K_172 := by unfold T; kernel_rfl
theorem leaf_182 : T K_182 := by unfold T; kernel_rfl
theorem leaf_188 : T K_188 := by unfold T; kernel_rfl
theorem leaf_191 : T K_191 := by unfold T; kernel_rfl
theorem leaf_212 : T K_212 := by unfold T; kernel_rfl
theorem leaf_218 : T K_218 := by unfold T; kernel_rfl
theorem leaf_228 : T K_228 := by unfold T; kernel_rfl
theorem leaf_234 : T K_234 := by unfold T; kernel_rfl
theorem leaf_237 : T K_237 := by unfold T; kernel_rfl
theorem leaf_258 : T K_258 := by unfold T; kernel_rfl
theorem leaf_264 : T K_264 := by unfold T; kernel_rfl
theorem leaf_274 : T K_274 := by unfold T; kernel_rfl
theorem leaf_280 : T K_280 := by unfold T; kernel_rfl
theorem leaf_283 : T K_283 := by unfold T; kernel_rfl
theorem know_12 : X.proveE 300 1000 K_12 c_8 = true := by kernel_rfl
theorem know_24 : X.proveE 300 1000 K_24 c_18 = true := by kernel_rfl
theorem know_27 : X.proveE 300 1000 K_27 c_21 = true := by kernel_rfl
theorem know_40 : X.proveE 300 1000 K_40 c_18 = true := by kernel_rfl
theorem know_43 : X.proveE 300 1000 K_43 c_21 = true := by kernel_rfl
theorem know_57 : X.proveE 300 1000 K_57 c_7 = true := by kernel_rfl
theorem know_62 : X.proveE 300 1000 K_62 c_12 = true := by kernel_rfl
theorem know_72 : X.proveE 300 1000 K_72 c_24 = true := by kernel_rfl
theorem know_77 : X.proveE 300 1000 K_77 c_25 = true := by kernel_rfl
theorem know_88 : X.proveE 300 1000 K_88 c_24 = true := by kernel_rfl
theorem know_93 : X.proveE 300 1000 K_93 c_25 = true := by kernel_rfl
theorem know_107 : X.proveE 300 1000 K_107 c_11 = true := by kernel_rfl
theorem know_117 : X.proveE 300 1000 K_117 c_19 = true := by kernel_rfl
theorem know_122 : X.proveE 300 1000 K_122 c_27 = true := by kernel_rfl
theorem know_133 : X.proveE 300 1000 K_133 c_19 = true := by kernel_rfl
theorem know_138 : X.proveE 300 1000 K_138 c_27 = true := by kernel_rfl
theorem know_150 : X.proveE 300 1000 K_150 c_8 = true := by kernel_rfl
theorem know_162 : X.proveE 300 1000 K_162 c_18 = true := by kernel_rfl
theorem know_165 : X.proveE 300 1000 K_165 c_31 = true := by kernel_rfl
theorem know_178 : X.proveE 300 1000 K_178 c_18 = true := by kernel_rfl
theorem know_181 : X.proveE 300 1000 K_181 c_31 = true := by kernel_rfl
theorem know_195 : X.proveE 300 1000 K_195 c_7 = true := by kernel_rfl
theorem know_200 : X.proveE 300 1000 K_200 c_12 = true := by kernel_rfl
theorem know_210 : X.proveE 300 1000 K_210 c_33 = true := by kernel_rfl
theorem know_215 : X.proveE 300 1000 K_215 c_34 = true := by kernel_rfl
theorem know_226 : X.proveE 300 1000 K_226 c_33 = true := by kernel_rfl
theorem know_231 : X.proveE 300 1000 K_231 c_34 = true := by kernel_rfl
theorem know_245 : X.proveE 300 1000 K_245 c_11 = true := by kernel_rfl
theorem know_255 : X.proveE 300 1000 K_255 c_19 = true := by kernel_rfl
theorem know_260 : X.proveE 300 1000 K_260 c_36 = true := by kernel_rfl
theorem know_271 : X.proveE 300 1000 K_271 c_19 = true := by kernel_rfl
theorem know_276 : X.proveE 300 1000 K_276 c_36 = true := by kernel_rfl
end Go.Proofs.Ytolennlpkpkhhaa
