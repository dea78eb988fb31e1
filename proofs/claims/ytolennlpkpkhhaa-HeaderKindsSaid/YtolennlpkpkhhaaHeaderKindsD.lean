/- Cases of HeaderKinds, each by itself. -/
import Derived.Test.YtolennlpkpkhhaaHeaderKindsA
namespace Go.Proofs.Ytolennlpkpkhhaa
open Go.ChangeShapes Go.WideShapes Go.ChangeAt Go.RowKit Go.Sx
theorem leaf_5 : T K_5 := by unfold T; kernel_rfl
theorem leaf_22 : T K_22 := by unfold T; kernel_rfl
theorem leaf_33 : T K_33 := by unfold T; kernel_rfl
theorem leaf_38 : T K_38 := by unfold T; kernel_rfl
theorem leaf_49 : T K_49 := by unfold T; kernel_rfl
theorem leaf_52 : T K_52 := by unfold T; kernel_rfl
theorem leaf_68 : T K_68 := by unfold T; kernel_rfl
theorem leaf_79 : T K_79 := by unfold T; kernel_rfl
theorem leaf_84 : T K_84 := by unfold T; kernel_rfl
theorem leaf_95 : T K_95 := by unfold T; kernel_rfl
theorem leaf_98 : T K_98 := by unfold T; kernel_rfl
theorem leaf_114 : T K_114 := by unfold T; kernel_rfl
theorem leaf_125 : T K_125 := by unfold T; kernel_rfl
theorem leaf_130 : T K_130 := by unfold T; kernel_rfl
theorem leaf_141 : T K_141 := by unfold T; kernel_rfl
theorem leaf_144 : T K_144 := by unfold T; kernel_rfl
theorem leaf_160 : T K_160 := by unfold T; kernel_rfl
theorem leaf_171 : T K_171 := by unfold T; kernel_rfl
theorem leaf_176 : T K_176 := by unfold T; kernel_rfl
theorem leaf_187 : T K_187 := by unfold T; kernel_rfl
theorem leaf_190 : T K_190 := by unfold T; kernel_rfl
theorem leaf_206 : T K_206 := by unfold T; kernel_rfl
theorem leaf_217 : T K_217 := by unfold T; kernel_rfl
theorem leaf_222 : T K_222 := by unfold T; kernel_rfl
theorem leaf_233 : T K_233 := by unfold T; kernel_rfl
theorem leaf_236 : T K_236 := by unfold T; kernel_rfl
theorem leaf_252 : T K_252 := by unfold T; kernel_rfl
theorem leaf_263 : T K_263 := by unfold T; kernel_rfl
theorem leaf_268 : T K_268 := by unfold T; kernel_rfl
theorem leaf_279 : T K_279 := by unfold T; kernel_rfl
theorem leaf_282 : T K_282 := by unfold T; kernel_rfl
theorem know_11 : X.proveE 300 1000 K_11 c_7 = true := by kernel_rfl
theorem know_16 : X.proveE 300 1000 K_16 c_12 = true := by kernel_rfl
theorem know_26 : X.proveE 300 1000 K_26 c_20 = true := by kernel_rfl
theorem know_31 : X.proveE 300 1000 K_31 c_21 = true := by kernel_rfl
theorem know_42 : X.proveE 300 1000 K_42 c_20 = true := by kernel_rfl
theorem know_47 : X.proveE 300 1000 K_47 c_21 = true := by kernel_rfl
theorem know_61 : X.proveE 300 1000 K_61 c_11 = true := by kernel_rfl
theorem know_71 : X.proveE 300 1000 K_71 c_19 = true := by kernel_rfl
theorem know_76 : X.proveE 300 1000 K_76 c_24 = true := by kernel_rfl
theorem know_87 : X.proveE 300 1000 K_87 c_19 = true := by kernel_rfl
theorem know_92 : X.proveE 300 1000 K_92 c_24 = true := by kernel_rfl
theorem know_104 : X.proveE 300 1000 K_104 c_8 = true := by kernel_rfl
theorem know_116 : X.proveE 300 1000 K_116 c_18 = true := by kernel_rfl
theorem know_119 : X.proveE 300 1000 K_119 c_28 = true := by kernel_rfl
theorem know_132 : X.proveE 300 1000 K_132 c_18 = true := by kernel_rfl
theorem know_135 : X.proveE 300 1000 K_135 c_28 = true := by kernel_rfl
theorem know_149 : X.proveE 300 1000 K_149 c_7 = true := by kernel_rfl
theorem know_154 : X.proveE 300 1000 K_154 c_12 = true := by kernel_rfl
theorem know_164 : X.proveE 300 1000 K_164 c_30 = true := by kernel_rfl
theorem know_169 : X.proveE 300 1000 K_169 c_31 = true := by kernel_rfl
theorem know_180 : X.proveE 300 1000 K_180 c_30 = true := by kernel_rfl
theorem know_185 : X.proveE 300 1000 K_185 c_31 = true := by kernel_rfl
theorem know_199 : X.proveE 300 1000 K_199 c_11 = true := by kernel_rfl
theorem know_209 : X.proveE 300 1000 K_209 c_19 = true := by kernel_rfl
theorem know_214 : X.proveE 300 1000 K_214 c_33 = true := by kernel_rfl
theorem know_225 : X.proveE 300 1000 K_225 c_19 = true := by kernel_rfl
theorem know_230 : X.proveE 300 1000 K_230 c_33 = true := by kernel_rfl
theorem know_242 : X.proveE 300 1000 K_242 c_8 = true := by kernel_rfl
theorem know_254 : X.proveE 300 1000 K_254 c_18 = true := by kernel_rfl
theorem know_257 : X.proveE 300 1000 K_257 c_37 = true := by kernel_rfl
theorem know_270 : X.proveE 300 1000 K_270 c_18 = true := by kernel_rfl
theorem know_273 : X.proveE 300 1000 K_273 c_37 = true := by kernel_rfl
end Go.Proofs.Ytolennlpkpkhhaa
