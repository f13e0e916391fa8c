/- What was run ahead, as a context: level 4, printed by program. -/
import Derived.Test.YtnjmpeilfolmcaaGreatDoorV3a
namespace Go.Proofs.YtnjmpeilfolmcaaGreatDoor
open Go Go.Abs
set_option maxRecDepth 100000
noncomputable def se4n67 : List Sm := [s0, s1, s2, s3, s4, s5, s6, s7, s8, s9, s10, s12, s16, s20]
noncomputable def se4n11 : List Sm := [s11]
noncomputable def se4n12 : List Sm := [s13, s17, s21, s24]
noncomputable def se4n36 : List Sm := [s14, s18, s22, s25, s27, s29, s31, s33]
noncomputable def se4n13 : List Sm := [s15, s19, s23, s26, s28, s30, s32, s34]
noncomputable def se4n43 : List Sm := [s35, s55, s59, s65, s71]
noncomputable def se4n50 : List Sm := [s36, s37, s38, s56, s57, s58, s61, s62, s66, s67, s69, s70, s82, s83, s84, s85, s95, s96]
noncomputable def se4n98 : List Sm := [s39, s40, s41, s42, s43, s44, s45, s46, s47, s48, s49, s50, s51, s52, s53, s54, s60, s63, s64, s68, s73, s74, s75, s76, s77, s78, s79, s80, s81, s86, s87, s88, s89, s90, s91, s92, s93, s94, s97, s98, s99, s100, s101, s102, s103, s104, s105]
noncomputable def se4n14 : List Sm := [s72]
noncomputable def tb4n17 : T (List Sm) := .node (.node (.node .leaf (some se4n67) .leaf) none .leaf) none .leaf
noncomputable def tb4n18 : T (List Sm) := .node (.node .leaf (some se4n43) .leaf) none .leaf
noncomputable def tb4n8 : T (List Sm) := .node tb4n17 (some se4n11) tb4n18
noncomputable def tb4n3 : T (List Sm) := .node .leaf none tb4n8
noncomputable def tb4n10 : T (List Sm) := .node .leaf (some se4n13) .leaf
noncomputable def tb4n4 : T (List Sm) := .node .leaf none tb4n10
noncomputable def tb4n1 : T (List Sm) := .node tb4n3 none tb4n4
noncomputable def tb4n25 : T (List Sm) := .node (.node .leaf (some se4n36) .leaf) none .leaf
noncomputable def tb4n12 : T (List Sm) := .node tb4n25 (some se4n12) .leaf
noncomputable def tb4n5 : T (List Sm) := .node .leaf none tb4n12
noncomputable def tb4n27 : T (List Sm) := .node (.node .leaf none (.node .leaf (some se4n98) .leaf)) none (.node .leaf (some se4n50) .leaf)
noncomputable def tb4n13 : T (List Sm) := .node tb4n27 none .leaf
noncomputable def tb4n14 : T (List Sm) := .node .leaf (some se4n14) .leaf
noncomputable def tb4n6 : T (List Sm) := .node tb4n13 none tb4n14
noncomputable def tb4n2 : T (List Sm) := .node tb4n5 none tb4n6
noncomputable def tb4n0 : T (List Sm) := .node tb4n1 none tb4n2
noncomputable def tb4 : T (List Sm) := tb4n0
noncomputable def tl4 : List (Nat × List Sm) := [(67, se4n67), (11, se4n11), (12, se4n12), (36, se4n36), (13, se4n13), (43, se4n43), (50, se4n50), (98, se4n98), (14, se4n14)]
noncomputable def CX4 : Ctx := ⟨Tryz.prog, fnT, allSm Tryz.prog XT tb4⟩
theorem cx4 : CtxOk Tryz.prog ENV CX4 := ctx_ok (l := tl4) (by kernel_rfl) (by kernel_rfl) (.cons (.cons (i0) (.cons (i1) (.cons (i2) (.cons (i3) (.cons (i4) (.cons (i5) (.cons (i6) (.cons (i7) (.cons (i8) (.cons (i9) (.cons (i10) (.cons (i12) (.cons (i16) (.cons (i20) (.nil))))))))))))))) (.cons (.cons (i11) (.nil)) (.cons (.cons (i13) (.cons (i17) (.cons (i21) (.cons (i24) (.nil))))) (.cons (.cons (i14) (.cons (i18) (.cons (i22) (.cons (i25) (.cons (i27) (.cons (i29) (.cons (i31) (.cons (i33) (.nil))))))))) (.cons (.cons (i15) (.cons (i19) (.cons (i23) (.cons (i26) (.cons (i28) (.cons (i30) (.cons (i32) (.cons (i34) (.nil))))))))) (.cons (.cons (i35) (.cons (i55) (.cons (i59) (.cons (i65) (.cons (i71) (.nil)))))) (.cons (.cons (i36) (.cons (i37) (.cons (i38) (.cons (i56) (.cons (i57) (.cons (i58) (.cons (i61) (.cons (i62) (.cons (i66) (.cons (i67) (.cons (i69) (.cons (i70) (.cons (i82) (.cons (i83) (.cons (i84) (.cons (i85) (.cons (i95) (.cons (i96) (.nil))))))))))))))))))) (.cons (.cons (i39) (.cons (i40) (.cons (i41) (.cons (i42) (.cons (i43) (.cons (i44) (.cons (i45) (.cons (i46) (.cons (i47) (.cons (i48) (.cons (i49) (.cons (i50) (.cons (i51) (.cons (i52) (.cons (i53) (.cons (i54) (.cons (i60) (.cons (i63) (.cons (i64) (.cons (i68) (.cons (i73) (.cons (i74) (.cons (i75) (.cons (i76) (.cons (i77) (.cons (i78) (.cons (i79) (.cons (i80) (.cons (i81) (.cons (i86) (.cons (i87) (.cons (i88) (.cons (i89) (.cons (i90) (.cons (i91) (.cons (i92) (.cons (i93) (.cons (i94) (.cons (i97) (.cons (i98) (.cons (i99) (.cons (i100) (.cons (i101) (.cons (i102) (.cons (i103) (.cons (i104) (.cons (i105) (.nil)))))))))))))))))))))))))))))))))))))))))))))))) (.cons (.cons (i72) (.nil)) (.nil))))))))))
end Go.Proofs.YtnjmpeilfolmcaaGreatDoor
