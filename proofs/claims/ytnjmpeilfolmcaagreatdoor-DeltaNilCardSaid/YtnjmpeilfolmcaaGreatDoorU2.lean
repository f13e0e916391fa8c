/- What was run ahead, as a context: level 2, printed by program. -/
import Derived.Test.YtnjmpeilfolmcaaGreatDoorV1a
namespace Go.Proofs.YtnjmpeilfolmcaaGreatDoor
open Go Go.Abs
set_option maxRecDepth 100000
noncomputable def se2n67 : List Sm := [s0, s1, s2, s3, s4, s5, s6, s7, s8, s9, s10, s12, s16, s20]
noncomputable def se2n36 : List Sm := [s14, s18, s22, s25, s27, s29, s31, s33]
noncomputable def se2n50 : List Sm := [s36, s37, s38, s56, s57, s58, s61, s62, s66, s67, s69, s70, s82, s83, s84, s85, s95, s96]
noncomputable def se2n98 : List Sm := [s39, s40, s41, s42, s43, s44, s45, s46, s47, s48, s49, s50, s51, s52, s53, s54, s60, s63, s64, s68, s73, s74, s75, s76, s77, s78, s79, s80, s81, s86, s87, s88, s89, s90, s91, s92, s93, s94, s97, s98, s99, s100, s101, s102, s103, s104, s105]
noncomputable def tb2n17 : T (List Sm) := .node (.node (.node .leaf (some se2n67) .leaf) none .leaf) none .leaf
noncomputable def tb2n8 : T (List Sm) := .node tb2n17 none .leaf
noncomputable def tb2n3 : T (List Sm) := .node .leaf none tb2n8
noncomputable def tb2n1 : T (List Sm) := .node tb2n3 none .leaf
noncomputable def tb2n25 : T (List Sm) := .node (.node .leaf (some se2n36) .leaf) none .leaf
noncomputable def tb2n12 : T (List Sm) := .node tb2n25 none .leaf
noncomputable def tb2n5 : T (List Sm) := .node .leaf none tb2n12
noncomputable def tb2n27 : T (List Sm) := .node (.node .leaf none (.node .leaf (some se2n98) .leaf)) none (.node .leaf (some se2n50) .leaf)
noncomputable def tb2n13 : T (List Sm) := .node tb2n27 none .leaf
noncomputable def tb2n6 : T (List Sm) := .node tb2n13 none .leaf
noncomputable def tb2n2 : T (List Sm) := .node tb2n5 none tb2n6
noncomputable def tb2n0 : T (List Sm) := .node tb2n1 none tb2n2
noncomputable def tb2 : T (List Sm) := tb2n0
noncomputable def tl2 : List (Nat × List Sm) := [(67, se2n67), (36, se2n36), (50, se2n50), (98, se2n98)]
noncomputable def CX2 : Ctx := ⟨Tryz.prog, fnT, allSm Tryz.prog XT tb2⟩
theorem cx2 : CtxOk Tryz.prog ENV CX2 := ctx_ok (l := tl2) (by kernel_rfl) (by kernel_rfl) (.cons (.cons (i0) (.cons (i1) (.cons (i2) (.cons (i3) (.cons (i4) (.cons (i5) (.cons (i6) (.cons (i7) (.cons (i8) (.cons (i9) (.cons (i10) (.cons (i12) (.cons (i16) (.cons (i20) (.nil))))))))))))))) (.cons (.cons (i14) (.cons (i18) (.cons (i22) (.cons (i25) (.cons (i27) (.cons (i29) (.cons (i31) (.cons (i33) (.nil))))))))) (.cons (.cons (i36) (.cons (i37) (.cons (i38) (.cons (i56) (.cons (i57) (.cons (i58) (.cons (i61) (.cons (i62) (.cons (i66) (.cons (i67) (.cons (i69) (.cons (i70) (.cons (i82) (.cons (i83) (.cons (i84) (.cons (i85) (.cons (i95) (.cons (i96) (.nil))))))))))))))))))) (.cons (.cons (i39) (.cons (i40) (.cons (i41) (.cons (i42) (.cons (i43) (.cons (i44) (.cons (i45) (.cons (i46) (.cons (i47) (.cons (i48) (.cons (i49) (.cons (i50) (.cons (i51) (.cons (i52) (.cons (i53) (.cons (i54) (.cons (i60) (.cons (i63) (.cons (i64) (.cons (i68) (.cons (i73) (.cons (i74) (.cons (i75) (.cons (i76) (.cons (i77) (.cons (i78) (.cons (i79) (.cons (i80) (.cons (i81) (.cons (i86) (.cons (i87) (.cons (i88) (.cons (i89) (.cons (i90) (.cons (i91) (.cons (i92) (.cons (i93) (.cons (i94) (.cons (i97) (.cons (i98) (.cons (i99) (.cons (i100) (.cons (i101) (.cons (i102) (.cons (i103) (.cons (i104) (.cons (i105) (.nil)))))))))))))))))))))))))))))))))))))))))))))))) (.nil)))))
end Go.Proofs.YtnjmpeilfolmcaaGreatDoor
