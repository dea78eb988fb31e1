/- Cases of HeaderBack, each by itself. -/
import Derived.Test.YtolennlpkpkhhaaHeaderBackA
namespace Go.Proofs.Ytolennlpkpkhhaa
open Go.ChangeShapes Go.WideShapes Go.ChangeAt Go.RowKit Go.Sx
theorem leaf_5 : T K_5 := by unfold T; kernel_rfl
theorem leaf_22 : T K_22 := by unfold T; kernel_rfl
theorem leaf_37 : T K_37 := by unfold T; kernel_rfl
theorem leaf_42 : T K_42 := by unfold T; kernel_rfl
theorem leaf_57 : T K_57 := by unfold T; kernel_rfl
theorem leaf_60 : T K_60 := by unfold T; kernel_rfl
theorem leaf_76 : T K_76 := by unfold T; kernel_rfl
theorem leaf_91 : T K_91 := by unfold T; kernel_rfl
theorem leaf_96 : T K_96 := by unfold T; kernel_rfl
theorem leaf_111 : T K_111 := by unfold T; kernel_rfl
theorem leaf_114 : T K_114 := by unfold T; kernel_rfl
theorem leaf_130 : T K_130 := by unfold T; kernel_rfl
theorem leaf_145 : T K_145 := by unfold T; kernel_rfl
theorem leaf_150 : T K_150 := by unfold T; kernel_rfl
theorem leaf_165 : T K_165 := by unfold T; kernel_rfl
theorem leaf_168 : T K_168 := by unfold T; kernel_rfl
theorem leaf_184 : T K_184 := by unfold T; kernel_rfl
theorem leaf_199 : T K_199 := by unfold T; kernel_rfl
theorem leaf_204 : T K_204 := by unfold T; kernel_rfl
theorem leaf_219 : T K_219 := by unfold T; kernel_rfl
theorem leaf_222 : T K_222 := by unfold T; kernel_rfl
theorem leaf_238 : T K_238 := by unfold T; kernel_rfl
theorem leaf_253 : T K_253 := by unfold T; kernel_rfl
theorem leaf_258 : T K_258 := by unfold T; kernel_rfl
theorem leaf_273 : T K_273 := by unfold T; kernel_rfl
theorem leaf_276 : T K_276 := by unfold T; kernel_rfl
theorem leaf_292 : T K_292 := by unfold T; kernel_rfl
theorem leaf_307 : T K_307 := by unfold T; kernel_rfl
theorem leaf_312 : T K_312 := by unfold T; kernel_rfl
theorem leaf_327 : T K_327 := by unfold T; kernel_rfl
theorem leaf_330 : T K_330 := by unfold T; kernel_rfl
theorem know_11 : X.proveE 300 1000 K_11 c_7 = true := by kernel_rfl
theorem know_16 : X.proveE 300 1000 K_16 c_12 = true := by kernel_rfl
theorem know_26 : X.proveE 300 1000 K_26 c_20 = true := by kernel_rfl
theorem know_29 : X.proveE 300 1000 K_29 c_23 = true := by kernel_rfl
theorem know_34 : X.proveE 300 1000 K_34 c_22 = true := by kernel_rfl
theorem know_45 : X.proveE 300 1000 K_45 c_19 = true := by kernel_rfl
theorem know_48 : X.proveE 300 1000 K_48 c_22 = true := by kernel_rfl
theorem know_53 : X.proveE 300 1000 K_53 c_21 = true := by kernel_rfl
theorem know_65 : X.proveE 300 1000 K_65 c_7 = true := by kernel_rfl
theorem know_70 : X.proveE 300 1000 K_70 c_12 = true := by kernel_rfl
theorem know_80 : X.proveE 300 1000 K_80 c_26 = true := by kernel_rfl
theorem know_83 : X.proveE 300 1000 K_83 c_29 = true := by kernel_rfl
theorem know_88 : X.proveE 300 1000 K_88 c_28 = true := by kernel_rfl
theorem know_99 : X.proveE 300 1000 K_99 c_19 = true := by kernel_rfl
theorem know_102 : X.proveE 300 1000 K_102 c_28 = true := by kernel_rfl
theorem know_107 : X.proveE 300 1000 K_107 c_27 = true := by kernel_rfl
theorem know_119 : X.proveE 300 1000 K_119 c_7 = true := by kernel_rfl
theorem know_124 : X.proveE 300 1000 K_124 c_12 = true := by kernel_rfl
theorem know_134 : X.proveE 300 1000 K_134 c_31 = true := by kernel_rfl
theorem know_137 : X.proveE 300 1000 K_137 c_34 = true := by kernel_rfl
theorem know_142 : X.proveE 300 1000 K_142 c_33 = true := by kernel_rfl
theorem know_153 : X.proveE 300 1000 K_153 c_19 = true := by kernel_rfl
theorem know_156 : X.proveE 300 1000 K_156 c_33 = true := by kernel_rfl
theorem know_161 : X.proveE 300 1000 K_161 c_32 = true := by kernel_rfl
theorem know_173 : X.proveE 300 1000 K_173 c_7 = true := by kernel_rfl
theorem know_178 : X.proveE 300 1000 K_178 c_12 = true := by kernel_rfl
theorem know_188 : X.proveE 300 1000 K_188 c_36 = true := by kernel_rfl
theorem know_191 : X.proveE 300 1000 K_191 c_39 = true := by kernel_rfl
theorem know_196 : X.proveE 300 1000 K_196 c_38 = true := by kernel_rfl
theorem know_207 : X.proveE 300 1000 K_207 c_19 = true := by kernel_rfl
theorem know_210 : X.proveE 300 1000 K_210 c_38 = true := by kernel_rfl
theorem know_215 : X.proveE 300 1000 K_215 c_37 = true := by kernel_rfl
theorem know_227 : X.proveE 300 1000 K_227 c_7 = true := by kernel_rfl
theorem know_232 : X.proveE 300 1000 K_232 c_12 = true := by kernel_rfl
theorem know_242 : X.proveE 300 1000 K_242 c_41 = true := by kernel_rfl
theorem know_245 : X.proveE 300 1000 K_245 c_44 = true := by kernel_rfl
theorem know_250 : X.proveE 300 1000 K_250 c_43 = true := by kernel_rfl
theorem know_261 : X.proveE 300 1000 K_261 c_19 = true := by kernel_rfl
theorem know_264 : X.proveE 300 1000 K_264 c_43 = true := by kernel_rfl
theorem know_269 : X.proveE 300 1000 K_269 c_42 = true := by kernel_rfl
theorem know_281 : X.proveE 300 1000 K_281 c_7 = true := by kernel_rfl
theorem know_286 : X.proveE 300 1000 K_286 c_12 = true := by kernel_rfl
theorem know_296 : X.proveE 300 1000 K_296 c_46 = true := by kernel_rfl
theorem know_299 : X.proveE 300 1000 K_299 c_49 = true := by kernel_rfl
theorem know_304 : X.proveE 300 1000 K_304 c_48 = true := by kernel_rfl
theorem know_315 : X.proveE 300 1000 K_315 c_19 = true := by kernel_rfl
theorem know_318 : X.proveE 300 1000 K_318 c_48 = true := by kernel_rfl
theorem know_323 : X.proveE 300 1000 K_323 c_47 = true := by kernel_rfl
end Go.Proofs.Ytolennlpkpkhhaa
