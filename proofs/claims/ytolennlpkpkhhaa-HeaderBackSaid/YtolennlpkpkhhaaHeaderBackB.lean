/- Cases of HeaderBack, each by itself. -/
import Derived.Test.YtolennlpkpkhhaaHeaderBackA
namespace Go.Proofs.Ytolennlpkpkhhaa
open Go.ChangeShapes Go.WideShapes Go.ChangeAt Go.RowKit Go.Sx
theorem leaf_1 : T K_1 := by unfold T; kernel_rfl
theorem leaf_7 : T K_7 := by unfold T; kernel_rfl
theorem leaf_30 : T K_30 := by unfold T; kernel_rfl
theorem leaf_38 : T K_38 := by unfold T; kernel_rfl
theorem leaf_50 : T K_50 := by unfold T; kernel_rfl
theorem leaf_58 : T K_58 := by unfold T; kernel_rfl
theorem leaf_61 : T K_61 := by unfold T; kernel_rfl
theorem leaf_84 : T K_84 := by unfold T; kernel_rfl
theorem leaf_92 : T K_92 := by unfold T; kernel_rfl
theorem leaf_104 : T K_104 := by unfold T; kernel_rfl
theorem leaf_112 : T K_112 := by unfold T; kernel_rfl
theorem leaf_115 : T K_115 := by unfold T; kernel_rfl
theorem leaf_138 : T K_138 := by unfold T; kernel_rfl
theorem leaf_146 : T K_146 := by unfold T; kernel_rfl
theorem leaf_158 : T K_158 := by unfold T; kernel_rfl
theorem leaf_166 : T K_166 := by unfold T; kernel_rfl
theorem leaf_169 : T K_169 := by unfold T; kernel_rfl
theorem leaf_192 : T K_192 := by unfold T; kernel_rfl
theorem leaf_200 : T K_200 := by unfold T; kernel_rfl
theorem leaf_212 : T K_212 := by unfold T; kernel_rfl
theorem leaf_220 : T K_220 := by unfold T; kernel_rfl
theorem leaf_223 : T K_223 := by unfold T; kernel_rfl
theorem leaf_246 : T K_246 := by unfold T; kernel_rfl
theorem leaf_254 : T K_254 := by unfold T; kernel_rfl
theorem leaf_266 : T K_266 := by unfold T; kernel_rfl
theorem leaf_274 : T K_274 := by unfold T; kernel_rfl
theorem leaf_277 : T K_277 := by unfold T; kernel_rfl
theorem leaf_300 : T K_300 := by unfold T; kernel_rfl
theorem leaf_308 : T K_308 := by unfold T; kernel_rfl
theorem leaf_320 : T K_320 := by unfold T; kernel_rfl
theorem leaf_328 : T K_328 := by unfold T; kernel_rfl
theorem leaf_331 : T K_331 := by unfold T; kernel_rfl
theorem know_12 : X.proveE 300 1000 K_12 c_8 = true := by kernel_rfl
theorem know_24 : X.proveE 300 1000 K_24 c_18 = true := by kernel_rfl
theorem know_27 : X.proveE 300 1000 K_27 c_21 = true := by kernel_rfl
theorem know_32 : X.proveE 300 1000 K_32 c_20 = true := by kernel_rfl
theorem know_35 : X.proveE 300 1000 K_35 c_23 = true := by kernel_rfl
theorem know_46 : X.proveE 300 1000 K_46 c_20 = true := by kernel_rfl
theorem know_49 : X.proveE 300 1000 K_49 c_23 = true := by kernel_rfl
theorem know_54 : X.proveE 300 1000 K_54 c_22 = true := by kernel_rfl
theorem know_66 : X.proveE 300 1000 K_66 c_8 = true := by kernel_rfl
theorem know_78 : X.proveE 300 1000 K_78 c_18 = true := by kernel_rfl
theorem know_81 : X.proveE 300 1000 K_81 c_27 = true := by kernel_rfl
theorem know_86 : X.proveE 300 1000 K_86 c_26 = true := by kernel_rfl
theorem know_89 : X.proveE 300 1000 K_89 c_29 = true := by kernel_rfl
theorem know_100 : X.proveE 300 1000 K_100 c_26 = true := by kernel_rfl
theorem know_103 : X.proveE 300 1000 K_103 c_29 = true := by kernel_rfl
theorem know_108 : X.proveE 300 1000 K_108 c_28 = true := by kernel_rfl
theorem know_120 : X.proveE 300 1000 K_120 c_8 = true := by kernel_rfl
theorem know_132 : X.proveE 300 1000 K_132 c_18 = true := by kernel_rfl
theorem know_135 : X.proveE 300 1000 K_135 c_32 = true := by kernel_rfl
theorem know_140 : X.proveE 300 1000 K_140 c_31 = true := by kernel_rfl
theorem know_143 : X.proveE 300 1000 K_143 c_34 = true := by kernel_rfl
theorem know_154 : X.proveE 300 1000 K_154 c_31 = true := by kernel_rfl
theorem know_157 : X.proveE 300 1000 K_157 c_34 = true := by kernel_rfl
theorem know_162 : X.proveE 300 1000 K_162 c_33 = true := by kernel_rfl
theorem know_174 : X.proveE 300 1000 K_174 c_8 = true := by kernel_rfl
theorem know_186 : X.proveE 300 1000 K_186 c_18 = true := by kernel_rfl
theorem know_189 : X.proveE 300 1000 K_189 c_37 = true := by kernel_rfl
theorem know_194 : X.proveE 300 1000 K_194 c_36 = true := by kernel_rfl
theorem know_197 : X.proveE 300 1000 K_197 c_39 = true := by kernel_rfl
theorem know_208 : X.proveE 300 1000 K_208 c_36 = true := by kernel_rfl
theorem know_211 : X.proveE 300 1000 K_211 c_39 = true := by kernel_rfl
theorem know_216 : X.proveE 300 1000 K_216 c_38 = true := by kernel_rfl
theorem know_228 : X.proveE 300 1000 K_228 c_8 = true := by kernel_rfl
theorem know_240 : X.proveE 300 1000 K_240 c_18 = true := by kernel_rfl
theorem know_243 : X.proveE 300 1000 K_243 c_42 = true := by kernel_rfl
theorem know_248 : X.proveE 300 1000 K_248 c_41 = true := by kernel_rfl
theorem know_251 : X.proveE 300 1000 K_251 c_44 = true := by kernel_rfl
theorem know_262 : X.proveE 300 1000 K_262 c_41 = true := by kernel_rfl
theorem know_265 : X.proveE 300 1000 K_265 c_44 = true := by kernel_rfl
theorem know_270 : X.proveE 300 1000 K_270 c_43 = true := by kernel_rfl
theorem know_282 : X.proveE 300 1000 K_282 c_8 = true := by kernel_rfl
theorem know_294 : X.proveE 300 1000 K_294 c_18 = true := by kernel_rfl
theorem know_297 : X.proveE 300 1000 K_297 c_47 = true := by kernel_rfl
theorem know_302 : X.proveE 300 1000 K_302 c_46 = true := by kernel_rfl
theorem know_305 : X.proveE 300 1000 K_305 c_49 = true := by kernel_rfl
theorem know_316 : X.proveE 300 1000 K_316 c_46 = true := by kernel_rfl
theorem know_319 : X.proveE 300 1000 K_319 c_49 = true := by kernel_rfl
theorem know_324 : X.proveE 300 1000 K_324 c_48 = true := by kernel_rfl
end Go.Proofs.Ytolennlpkpkhhaa
