/- Cases of HeaderBack, each by itself. -/
import Derived.Test.YtolennlpkpkhhaaHeaderBackA
namespace Go.Proofs.Ytolennlpkpkhhaa
open Go.ChangeShapes Go.WideShapes Go.ChangeAt Go.RowKit Go.Sx
theorem leaf_3 : T K_3 := by unfold T; kernel_rfl
theorem leaf_20 : T K_20 := by unfold T; kernel_rfl
theorem leaf_36 : T K_36 := by unfold T; kernel_rfl
theorem leaf_40 : T K_40 := by unfold T; kernel_rfl
theorem leaf_56 : T K_56 := by unfold T; kernel_rfl
theorem leaf_59 : T K_59 := by unfold T; kernel_rfl
theorem leaf_74 : T K_74 := by unfold T; kernel_rfl
theorem leaf_90 : T K_90 := by unfold T; kernel_rfl
theorem leaf_94 : T K_94 := by unfold T; kernel_rfl
theorem leaf_110 : T K_110 := by unfold T; kernel_rfl
theorem leaf_113 : T K_113 := by unfold T; kernel_rfl
theorem leaf_128 : T K_128 := by unfold T; kernel_rfl
theorem leaf_144 : T K_144 := by unfold T; kernel_rfl
theorem leaf_148 : T K_148 := by unfold T; kernel_rfl
theorem leaf_164 : T K_164 := by unfold T; kernel_rfl
theorem leaf_167 : T K_167 := by unfold T; kernel_rfl
theorem leaf_182 : T K_182 := by unfold T; kernel_rfl
theorem leaf_198 : T K_198 := by unfold T; kernel_rfl
theorem leaf_202 : T K_202 := by unfold T; kernel_rfl
theorem leaf_218 : T K_218 := by unfold T; kernel_rfl
theorem leaf_221 : T K_221 := by unfold T; kernel_rfl
theorem leaf_236 : T K_236 := by unfold T; kernel_rfl
theorem leaf_252 : T K_252 := by unfold T; kernel_rfl
theorem leaf_256 : T K_256 := by unfold T; kernel_rfl
theorem leaf_272 : T K_272 := by unfold T; kernel_rfl
theorem leaf_275 : T K_275 := by unfold T; kernel_rfl
theorem leaf_290 : T K_290 := by unfold T; kernel_rfl
theorem leaf_306 : T K_306 := by unfold T; kernel_rfl
theorem leaf_310 : T K_310 := by unfold T; kernel_rfl
theorem leaf_326 : T K_326 := by unfold T; kernel_rfl
theorem leaf_329 : T K_329 := by unfold T; kernel_rfl
theorem leaf_332 : V K_332 := by unfold V; kernel_rfl
theorem know_15 : X.proveE 300 1000 K_15 c_11 = true := by kernel_rfl
theorem know_25 : X.proveE 300 1000 K_25 c_19 = true := by kernel_rfl
theorem know_28 : X.proveE 300 1000 K_28 c_22 = true := by kernel_rfl
theorem know_33 : X.proveE 300 1000 K_33 c_21 = true := by kernel_rfl
theorem know_44 : X.proveE 300 1000 K_44 c_18 = true := by kernel_rfl
theorem know_47 : X.proveE 300 1000 K_47 c_21 = true := by kernel_rfl
theorem know_52 : X.proveE 300 1000 K_52 c_20 = true := by kernel_rfl
theorem know_55 : X.proveE 300 1000 K_55 c_23 = true := by kernel_rfl
theorem know_69 : X.proveE 300 1000 K_69 c_11 = true := by kernel_rfl
theorem know_79 : X.proveE 300 1000 K_79 c_19 = true := by kernel_rfl
theorem know_82 : X.proveE 300 1000 K_82 c_28 = true := by kernel_rfl
theorem know_87 : X.proveE 300 1000 K_87 c_27 = true := by kernel_rfl
theorem know_98 : X.proveE 300 1000 K_98 c_18 = true := by kernel_rfl
theorem know_101 : X.proveE 300 1000 K_101 c_27 = true := by kernel_rfl
theorem know_106 : X.proveE 300 1000 K_106 c_26 = true := by kernel_rfl
theorem know_109 : X.proveE 300 1000 K_109 c_29 = true := by kernel_rfl
theorem know_123 : X.proveE 300 1000 K_123 c_11 = true := by kernel_rfl
theorem know_133 : X.proveE 300 1000 K_133 c_19 = true := by kernel_rfl
theorem know_136 : X.proveE 300 1000 K_136 c_33 = true := by kernel_rfl
theorem know_141 : X.proveE 300 1000 K_141 c_32 = true := by kernel_rfl
theorem know_152 : X.proveE 300 1000 K_152 c_18 = true := by kernel_rfl
theorem know_155 : X.proveE 300 1000 K_155 c_32 = true := by kernel_rfl
theorem know_160 : X.proveE 300 1000 K_160 c_31 = true := by kernel_rfl
theorem know_163 : X.proveE 300 1000 K_163 c_34 = true := by kernel_rfl
theorem know_177 : X.proveE 300 1000 K_177 c_11 = true := by kernel_rfl
theorem know_187 : X.proveE 300 1000 K_187 c_19 = true := by kernel_rfl
theorem know_190 : X.proveE 300 1000 K_190 c_38 = true := by kernel_rfl
theorem know_195 : X.proveE 300 1000 K_195 c_37 = true := by kernel_rfl
theorem know_206 : X.proveE 300 1000 K_206 c_18 = true := by kernel_rfl
theorem know_209 : X.proveE 300 1000 K_209 c_37 = true := by kernel_rfl
theorem know_214 : X.proveE 300 1000 K_214 c_36 = true := by kernel_rfl
theorem know_217 : X.proveE 300 1000 K_217 c_39 = true := by kernel_rfl
theorem know_231 : X.proveE 300 1000 K_231 c_11 = true := by kernel_rfl
theorem know_241 : X.proveE 300 1000 K_241 c_19 = true := by kernel_rfl
theorem know_244 : X.proveE 300 1000 K_244 c_43 = true := by kernel_rfl
theorem know_249 : X.proveE 300 1000 K_249 c_42 = true := by kernel_rfl
theorem know_260 : X.proveE 300 1000 K_260 c_18 = true := by kernel_rfl
theorem know_263 : X.proveE 300 1000 K_263 c_42 = true := by kernel_rfl
theorem know_268 : X.proveE 300 1000 K_268 c_41 = true := by kernel_rfl
theorem know_271 : X.proveE 300 1000 K_271 c_44 = true := by kernel_rfl
theorem know_285 : X.proveE 300 1000 K_285 c_11 = true := by kernel_rfl
theorem know_295 : X.proveE 300 1000 K_295 c_19 = true := by kernel_rfl
theorem know_298 : X.proveE 300 1000 K_298 c_48 = true := by kernel_rfl
theorem know_303 : X.proveE 300 1000 K_303 c_47 = true := by kernel_rfl
theorem know_314 : X.proveE 300 1000 K_314 c_18 = true := by kernel_rfl
theorem know_317 : X.proveE 300 1000 K_317 c_47 = true := by kernel_rfl
theorem know_322 : X.proveE 300 1000 K_322 c_46 = true := by kernel_rfl
theorem know_325 : X.proveE 300 1000 K_325 c_49 = true := by kernel_rfl
end Go.Proofs.Ytolennlpkpkhhaa
