/- Cases of HeaderKinds, each by itself. -/
import Derived.Test.YtolennlpkpkhhaaHeaderKindsA
namespace Go.Proofs.Ytolennlpkpkhhaa
open Go.ChangeShapes Go.WideShapes Go.ChangeAt Go.RowKit Go.Sx
theorem leaf_3 : T K_3 := by unfold T; kernel_rfl
theorem leaf_20 : T K_20 := by unfold T; kernel_rfl
theorem leaf_32 : T K_32 := by unfold T; kernel_rfl
theorem leaf_36 : T K_36 := by unfold T; kernel_rfl
theorem leaf_48 : T K_48 := by unfold T; kernel_rfl
theorem leaf_51 : T K_51 := by unfold T; kernel_rfl
theorem leaf_66 : T K_66 := by unfold T; kernel_rfl
theorem leaf_78 : T K_78 := by unfold T; kernel_rfl
theorem leaf_82 : T K_82 := by unfold T; kernel_rfl
theorem leaf_94 : T K_94 := by unfold T; kernel_rfl
theorem leaf_97 : T K_97 := by unfold T; kernel_rfl
theorem leaf_112 : T K_112 := by unfold T; kernel_rfl
theorem leaf_124 : T K_124 := by unfold T; kernel_rfl
theorem leaf_128 : T K_128 := by unfold T; kernel_rfl
theorem leaf_140 : T K_140 := by unfold T; kernel_rfl
theorem leaf_143 : T K_143 := by unfold T; kernel_rfl
theorem leaf_158 : T K_158 := by unfold T; kernel_rfl
theorem leaf_170 : T K_170 := by unfold T; kernel_rfl
theorem leaf_174 : T K_174 := by unfold T; kernel_rfl
theorem leaf_186 : T K_186 := by unfold T; kernel_rfl
theorem leaf_189 : T K_189 := by unfold T; kernel_rfl
theorem leaf_204 : T K_204 := by unfold T; kernel_rfl
theorem leaf_216 : T K_216 := by unfold T; kernel_rfl
theorem leaf_220 : T K_220 := by unfold T; kernel_rfl
theorem leaf_232 : T K_232 := by unfold T; kernel_rfl
theorem leaf_235 : T K_235 := by unfold T; kernel_rfl
theorem leaf_250 : T K_250 := by unfold T; kernel_rfl
theorem leaf_262 : T K_262 := by unfold T; kernel_rfl
theorem leaf_266 : T K_266 := by unfold T; kernel_rfl
theorem leaf_278 : T K_278 := by unfold T; kernel_rfl
theorem leaf_281 : T K_281 := by unfold T; kernel_rfl
theorem leaf_284 : V K_284 := by unfold V; kernel_rfl
theorem know_15 : X.proveE 300 1000 K_15 c_11 = true := by kernel_rfl
theorem know_25 : X.proveE 300 1000 K_25 c_19 = true := by kernel_rfl
theorem know_30 : X.proveE 300 1000 K_30 c_20 = true := by kernel_rfl
theorem know_41 : X.proveE 300 1000 K_41 c_19 = true := by kernel_rfl
theorem know_46 : X.proveE 300 1000 K_46 c_20 = true := by kernel_rfl
theorem know_58 : X.proveE 300 1000 K_58 c_8 = true := by kernel_rfl
theorem know_70 : X.proveE 300 1000 K_70 c_18 = true := by kernel_rfl
theorem know_73 : X.proveE 300 1000 K_73 c_25 = true := by kernel_rfl
theorem know_86 : X.proveE 300 1000 K_86 c_18 = true := by kernel_rfl
theorem know_89 : X.proveE 300 1000 K_89 c_25 = true := by kernel_rfl
theorem know_103 : X.proveE 300 1000 K_103 c_7 = true := by kernel_rfl
theorem know_108 : X.proveE 300 1000 K_108 c_12 = true := by kernel_rfl
theorem know_118 : X.proveE 300 1000 K_118 c_27 = true := by kernel_rfl
theorem know_123 : X.proveE 300 1000 K_123 c_28 = true := by kernel_rfl
theorem know_134 : X.proveE 300 1000 K_134 c_27 = true := by kernel_rfl
theorem know_139 : X.proveE 300 1000 K_139 c_28 = true := by kernel_rfl
theorem know_153 : X.proveE 300 1000 K_153 c_11 = true := by kernel_rfl
theorem know_163 : X.proveE 300 1000 K_163 c_19 = true := by kernel_rfl
theorem know_168 : X.proveE 300 1000 K_168 c_30 = true := by kernel_rfl
theorem know_179 : X.proveE 300 1000 K_179 c_19 = true := by kernel_rfl
theorem know_184 : X.proveE 300 1000 K_184 c_30 = true := by kernel_rfl
theorem know_196 : X.proveE 300 1000 K_196 c_8 = true := by kernel_rfl
theorem know_208 : X.proveE 300 1000 K_208 c_18 = true := by kernel_rfl
theorem know_211 : X.proveE 300 1000 K_211 c_34 = true := by kernel_rfl
theorem know_224 : X.proveE 300 1000 K_224 c_18 = true := by kernel_rfl
theorem know_227 : X.proveE 300 1000 K_227 c_34 = true := by kernel_rfl
theorem know_241 : X.proveE 300 1000 K_241 c_7 = true := by kernel_rfl
theorem know_246 : X.proveE 300 1000 K_246 c_12 = true := by kernel_rfl
theorem know_256 : X.proveE 300 1000 K_256 c_36 = true := by kernel_rfl
theorem know_261 : X.proveE 300 1000 K_261 c_37 = true := by kernel_rfl
theorem know_272 : X.proveE 300 1000 K_272 c_36 = true := by kernel_rfl
theorem know_277 : X.proveE 300 1000 K_277 c_37 = true := by kernel_rfl
end Go.Proofs.Ytolennlpkpkhhaa
