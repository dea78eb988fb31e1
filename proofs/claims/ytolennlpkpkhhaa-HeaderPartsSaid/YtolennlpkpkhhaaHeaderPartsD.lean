/- Cases of HeaderParts, each by itself. -/
import Derived.Test.YtolennlpkpkhhaaHeaderPartsA
namespace Go.Proofs.Ytolennlpkpkhhaa
open Go.ChangeShapes Go.WideShapes Go.ChangeAt Go.RowKit Go.Sx
theorem leaf_5 : T K_5 := by unfold T; kernel_rfl
theorem leaf_22 : T K_22 := by unfold T; kernel_rfl
theorem leaf_34 : T K_34 := by unfold T; kernel_rfl
theorem leaf_38 : T K_38 := by unfold T; kernel_rfl
theorem leaf_50 : T K_50 := by unfold T; kernel_rfl
theorem leaf_53 : T K_53 := by unfold T; kernel_rfl
theorem leaf_68 : T K_68 := by unfold T; kernel_rfl
theorem leaf_80 : T K_80 := by unfold T; kernel_rfl
theorem leaf_84 : T K_84 := by unfold T; kernel_rfl
theorem leaf_96 : T K_96 := by unfold T; kernel_rfl
theorem leaf_99 : T K_99 := by unfold T; kernel_rfl
theorem leaf_114 : T K_114 := by unfold T; kernel_rfl
theorem leaf_126 : T K_126 := by unfold T; kernel_rfl
theorem leaf_130 : T K_130 := by unfold T; kernel_rfl
theorem leaf_142 : T K_142 := by unfold T; kernel_rfl
theorem leaf_145 : T K_145 := by unfold T; kernel_rfl
theorem leaf_160 : T K_160 := by unfold T; kernel_rfl
theorem leaf_172 : T K_172 := by unfold T; kernel_rfl
theorem leaf_176 : T K_176 := by unfold T; kernel_rfl
theorem leaf_188 : T K_188 := by unfold T; kernel_rfl
theorem leaf_191 : T K_191 := by unfold T; kernel_rfl
theorem leaf_206 : T K_206 := by unfold T; kernel_rfl
theorem leaf_218 : T K_218 := by unfold T; kernel_rfl
theorem leaf_222 : T K_222 := by unfold T; kernel_rfl
theorem leaf_234 : T K_234 := by unfold T; kernel_rfl
theorem leaf_237 : T K_237 := by unfold T; kernel_rfl
theorem leaf_252 : T K_252 := by unfold T; kernel_rfl
theorem leaf_264 : T K_264 := by unfold T; kernel_rfl
theorem leaf_268 : T K_268 := by unfold T; kernel_rfl
theorem leaf_280 : T K_280 := by unfold T; kernel_rfl
theorem leaf_283 : T K_283 := by unfold T; kernel_rfl
theorem leaf_286 : V K_286 := by unfold V; kernel_rfl
theorem know_17 : X.proveE 300 1000 K_17 c_12 = true := by kernel_rfl
theorem know_27 : X.proveE 300 1000 K_27 c_20 = true := by kernel_rfl
theorem know_32 : X.proveE 300 1000 K_32 c_21 = true := by kernel_rfl
theorem know_43 : X.proveE 300 1000 K_43 c_20 = true := by kernel_rfl
theorem know_48 : X.proveE 300 1000 K_48 c_21 = true := by kernel_rfl
theorem know_60 : X.proveE 300 1000 K_60 c_9 = true := by kernel_rfl
theorem know_72 : X.proveE 300 1000 K_72 c_19 = true := by kernel_rfl
theorem know_75 : X.proveE 300 1000 K_75 c_26 = true := by kernel_rfl
theorem know_88 : X.proveE 300 1000 K_88 c_19 = true := by kernel_rfl
theorem know_91 : X.proveE 300 1000 K_91 c_26 = true := by kernel_rfl
theorem know_105 : X.proveE 300 1000 K_105 c_8 = true := by kernel_rfl
theorem know_110 : X.proveE 300 1000 K_110 c_13 = true := by kernel_rfl
theorem know_120 : X.proveE 300 1000 K_120 c_28 = true := by kernel_rfl
theorem know_125 : X.proveE 300 1000 K_125 c_29 = true := by kernel_rfl
theorem know_136 : X.proveE 300 1000 K_136 c_28 = true := by kernel_rfl
theorem know_141 : X.proveE 300 1000 K_141 c_29 = true := by kernel_rfl
theorem know_155 : X.proveE 300 1000 K_155 c_12 = true := by kernel_rfl
theorem know_165 : X.proveE 300 1000 K_165 c_20 = true := by kernel_rfl
theorem know_170 : X.proveE 300 1000 K_170 c_31 = true := by kernel_rfl
theorem know_181 : X.proveE 300 1000 K_181 c_20 = true := by kernel_rfl
theorem know_186 : X.proveE 300 1000 K_186 c_31 = true := by kernel_rfl
theorem know_198 : X.proveE 300 1000 K_198 c_9 = true := by kernel_rfl
theorem know_210 : X.proveE 300 1000 K_210 c_19 = true := by kernel_rfl
theorem know_213 : X.proveE 300 1000 K_213 c_35 = true := by kernel_rfl
theorem know_226 : X.proveE 300 1000 K_226 c_19 = true := by kernel_rfl
theorem know_229 : X.proveE 300 1000 K_229 c_35 = true := by kernel_rfl
theorem know_243 : X.proveE 300 1000 K_243 c_8 = true := by kernel_rfl
theorem know_248 : X.proveE 300 1000 K_248 c_13 = true := by kernel_rfl
theorem know_258 : X.proveE 300 1000 K_258 c_37 = true := by kernel_rfl
theorem know_263 : X.proveE 300 1000 K_263 c_38 = true := by kernel_rfl
theorem know_274 : X.proveE 300 1000 K_274 c_37 = true := by kernel_rfl
theorem know_279 : X.proveE 300 1000 K_279 c_38 = true := by kernel_rfl
end Go.Proofs.Ytolennlpkpkhhaa
