/- Cases of HeaderParts, each by itself. -/
import Derived.Test.YtolennlpkpkhhaaHeaderPartsA
namespace Go.Proofs.Ytolennlpkpkhhaa
open Go.ChangeShapes Go.WideShapes Go.ChangeAt Go.RowKit Go.Sx
theorem leaf_3 : T K_3 := by unfold T; kernel_rfl
theorem leaf_9 : T K_9 := by unfold T; kernel_rfl
theorem leaf_30 : T K_30 := by unfold T; kernel_rfl
theorem leaf_36 : T K_36 := by unfold T; kernel_rfl
theorem leaf_46 : T K_46 := by unfold T; kernel_rfl
theorem leaf_52 : T K_52 := by unfold T; kernel_rfl
theorem leaf_55 : T K_55 := by unfold T; kernel_rfl
theorem leaf_76 : T K_76 := by unfold T; kernel_rfl
theorem leaf_82 : T K_82 := by unfold T; kernel_rfl
theorem leaf_92 : T K_92 := by unfold T; kernel_rfl
theorem leaf_98 : T K_98 := by unfold T; kernel_rfl
theorem leaf_101 : T K_101 := by unfold T; kernel_rfl
theorem leaf_122 : T K_122 := by unfold T; kernel_rfl
theorem leaf_128 : T K_128 := by unfold T; kernel_rfl
theorem leaf_138 : T K_138 := by unfold T; kernel_rfl
theorem leaf_144 : T K_144 := by unfold T; kernel_rfl
theorem leaf_147 : T K_147 := by unfold T; kernel_rfl
theorem leaf_168 : T K_168 := by unfold T; kernel_rfl
theorem leaf_174 : T K_174 := by unfold T; kernel_rfl
theorem leaf_184 : T K_184 := by unfold T; kernel_rfl
theorem leaf_190 : T K_190 := by unfold T; kernel_rfl
theorem leaf_193 : T K_193 := by unfold T; kernel_rfl
theorem leaf_214 : T K_214 := by unfold T; kernel_rfl
theorem leaf_220 : T K_220 := by unfold T; kernel_rfl
theorem leaf_230 : T K_230 := by unfold T; kernel_rfl
theorem leaf_236 : T K_236 := by unfold T; kernel_rfl
theorem leaf_239 : T K_239 := by unfold T; kernel_rfl
theorem leaf_260 : T K_260 := by unfold T; kernel_rfl
theorem leaf_266 : T K_266 := by unfold T; kernel_rfl
theorem leaf_276 : T K_276 := by unfold T; kernel_rfl
theorem leaf_282 : T K_282 := by unfold T; kernel_rfl
theorem leaf_285 : T K_285 := by unfold T; kernel_rfl
theorem know_14 : X.proveE 300 1000 K_14 c_9 = true := by kernel_rfl
theorem know_26 : X.proveE 300 1000 K_26 c_19 = true := by kernel_rfl
theorem know_29 : X.proveE 300 1000 K_29 c_22 = true := by kernel_rfl
theorem know_42 : X.proveE 300 1000 K_42 c_19 = true := by kernel_rfl
theorem know_45 : X.proveE 300 1000 K_45 c_22 = true := by kernel_rfl
theorem know_59 : X.proveE 300 1000 K_59 c_8 = true := by kernel_rfl
theorem know_64 : X.proveE 300 1000 K_64 c_13 = true := by kernel_rfl
theorem know_74 : X.proveE 300 1000 K_74 c_25 = true := by kernel_rfl
theorem know_79 : X.proveE 300 1000 K_79 c_26 = true := by kernel_rfl
theorem know_90 : X.proveE 300 1000 K_90 c_25 = true := by kernel_rfl
theorem know_95 : X.proveE 300 1000 K_95 c_26 = true := by kernel_rfl
theorem know_109 : X.proveE 300 1000 K_109 c_12 = true := by kernel_rfl
theorem know_119 : X.proveE 300 1000 K_119 c_20 = true := by kernel_rfl
theorem know_124 : X.proveE 300 1000 K_124 c_28 = true := by kernel_rfl
theorem know_135 : X.proveE 300 1000 K_135 c_20 = true := by kernel_rfl
theorem know_140 : X.proveE 300 1000 K_140 c_28 = true := by kernel_rfl
theorem know_152 : X.proveE 300 1000 K_152 c_9 = true := by kernel_rfl
theorem know_164 : X.proveE 300 1000 K_164 c_19 = true := by kernel_rfl
theorem know_167 : X.proveE 300 1000 K_167 c_32 = true := by kernel_rfl
theorem know_180 : X.proveE 300 1000 K_180 c_19 = true := by kernel_rfl
theorem know_183 : X.proveE 300 1000 K_183 c_32 = true := by kernel_rfl
theorem know_197 : X.proveE 300 1000 K_197 c_8 = true := by kernel_rfl
theorem know_202 : X.proveE 300 1000 K_202 c_13 = true := by kernel_rfl
theorem know_212 : X.proveE 300 1000 K_212 c_34 = true := by kernel_rfl
theorem know_217 : X.proveE 300 1000 K_217 c_35 = true := by kernel_rfl
theorem know_228 : X.proveE 300 1000 K_228 c_34 = true := by kernel_rfl
theorem know_233 : X.proveE 300 1000 K_233 c_35 = true := by kernel_rfl
theorem know_247 : X.proveE 300 1000 K_247 c_12 = true := by kernel_rfl
theorem know_257 : X.proveE 300 1000 K_257 c_20 = true := by kernel_rfl
theorem know_262 : X.proveE 300 1000 K_262 c_37 = true := by kernel_rfl
theorem know_273 : X.proveE 300 1000 K_273 c_20 = true := by kernel_rfl
theorem know_278 : X.proveE 300 1000 K_278 c_37 = true := by kernel_rfl
end Go.Proofs.Ytolennlpkpkhhaa
