/- Cases of HeaderParts, each by itself. -/
import Derived.Test.YtolennlpkpkhhaaHeaderPartsA
namespace Go.Proofs.Ytolennlpkpkhhaa
open Go.ChangeShapes Go.WideShapes Go.ChangeAt Go.RowKit Go.Sx
theorem leaf_1 : T K_1 := by unfold T; kernel_rfl
theorem leaf_7 : T K_7 := by unfold T; kernel_rfl
theorem leaf_24 : T K_24 := by unfold T; kernel_rfl
theorem leaf_35 : T K_35 := by unfold T; kernel_rfl
theorem leaf_40 : T K_40 := by unfold T; kernel_rfl
theorem leaf_51 : T K_51 := by unfold T; kernel_rfl
theorem leaf_54 : T K_54 := by unfold T; kernel_rfl
theorem leaf_70 : T K_70 := by unfold T; kernel_rfl
theorem leaf_81 : T K_81 := by unfold T; kernel_rfl
theorem leaf_86 : T K_86 := by unfold T; kernel_rfl
theorem leaf_97 : T K_97 := by unfold T; kernel_rfl
theorem leaf_100 : T K_100 := by unfold T; kernel_rfl
theorem leaf_116 : T K_116 := by unfold T; kernel_rfl
theorem leaf_127 : T K_127 := by unfold T; kernel_rfl
theorem leaf_132 : T K_132 := by unfold T; kernel_rfl
theorem leaf_143 : T K_143 := by unfold T; kernel_rfl
theorem leaf_146 : T K_146 := by unfold T; kernel_rfl
theorem leaf_162 : T K_162 := by unfold T; kernel_rfl
theorem leaf_173 : T K_173 := by unfold T; kernel_rfl
theorem leaf_178 : T K_178 := by unfold T; kernel_rfl
theorem leaf_189 : T K_189 := by unfold T; kernel_rfl
theorem leaf_192 : T K_192 := by unfold T; kernel_rfl
theorem leaf_208 : T K_208 := by unfold T; kernel_rfl
theorem leaf_219 : T K_219 := by unfold T; kernel_rfl
theorem leaf_224 : T K_224 := by unfold T; kernel_rfl
theorem leaf_235 : T K_235 := by unfold T; kernel_rfl
theorem leaf_238 : T K_238 := by unfold T; kernel_rfl
theorem leaf_254 : T K_254 := by unfold T; kernel_rfl
theorem leaf_265 : T K_265 := by unfold T; kernel_rfl
theorem leaf_270 : T K_270 := by unfold T; kernel_rfl
theorem leaf_281 : T K_281 := by unfold T; kernel_rfl
theorem leaf_284 : T K_284 := by unfold T; kernel_rfl
theorem know_13 : X.proveE 300 1000 K_13 c_8 = true := by kernel_rfl
theorem know_18 : X.proveE 300 1000 K_18 c_13 = true := by kernel_rfl
theorem know_28 : X.proveE 300 1000 K_28 c_21 = true := by kernel_rfl
theorem know_33 : X.proveE 300 1000 K_33 c_22 = true := by kernel_rfl
theorem know_44 : X.proveE 300 1000 K_44 c_21 = true := by kernel_rfl
theorem know_49 : X.proveE 300 1000 K_49 c_22 = true := by kernel_rfl
theorem know_63 : X.proveE 300 1000 K_63 c_12 = true := by kernel_rfl
theorem know_73 : X.proveE 300 1000 K_73 c_20 = true := by kernel_rfl
theorem know_78 : X.proveE 300 1000 K_78 c_25 = true := by kernel_rfl
theorem know_89 : X.proveE 300 1000 K_89 c_20 = true := by kernel_rfl
theorem know_94 : X.proveE 300 1000 K_94 c_25 = true := by kernel_rfl
theorem know_106 : X.proveE 300 1000 K_106 c_9 = true := by kernel_rfl
theorem know_118 : X.proveE 300 1000 K_118 c_19 = true := by kernel_rfl
theorem know_121 : X.proveE 300 1000 K_121 c_29 = true := by kernel_rfl
theorem know_134 : X.proveE 300 1000 K_134 c_19 = true := by kernel_rfl
theorem know_137 : X.proveE 300 1000 K_137 c_29 = true := by kernel_rfl
theorem know_151 : X.proveE 300 1000 K_151 c_8 = true := by kernel_rfl
theorem know_156 : X.proveE 300 1000 K_156 c_13 = true := by kernel_rfl
theorem know_166 : X.proveE 300 1000 K_166 c_31 = true := by kernel_rfl
theorem know_171 : X.proveE 300 1000 K_171 c_32 = true := by kernel_rfl
theorem know_182 : X.proveE 300 1000 K_182 c_31 = true := by kernel_rfl
theorem know_187 : X.proveE 300 1000 K_187 c_32 = true := by kernel_rfl
theorem know_201 : X.proveE 300 1000 K_201 c_12 = true := by kernel_rfl
theorem know_211 : X.proveE 300 1000 K_211 c_20 = true := by kernel_rfl
theorem know_216 : X.proveE 300 1000 K_216 c_34 = true := by kernel_rfl
theorem know_227 : X.proveE 300 1000 K_227 c_20 = true := by kernel_rfl
theorem know_232 : X.proveE 300 1000 K_232 c_34 = true := by kernel_rfl
theorem know_244 : X.proveE 300 1000 K_244 c_9 = true := by kernel_rfl
theorem know_256 : X.proveE 300 1000 K_256 c_19 = true := by kernel_rfl
theorem know_259 : X.proveE 300 1000 K_259 c_38 = true := by kernel_rfl
theorem know_272 : X.proveE 300 1000 K_272 c_19 = true := by kernel_rfl
theorem know_275 : X.proveE 300 1000 K_275 c_38 = true := by kernel_rfl
end Go.Proofs.Ytolennlpkpkhhaa
