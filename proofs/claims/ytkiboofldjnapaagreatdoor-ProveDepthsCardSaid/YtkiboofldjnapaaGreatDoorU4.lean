/- What was run ahead, as a context: level 4, printed by program. -/
import Derived.Test.YtkiboofldjnapaaGreatDoorV3a
namespace Go.Proofs.YtkiboofldjnapaaGreatDoor
open Go Go.Abs
set_option maxRecDepth 100000
noncomputable def se4n49 : List Sm := [s0, s1, s2, s3, s4, s5, s6, s7, s8, s9, s11, s15, s19]
noncomputable def se4n7 : List Sm := [s10]
noncomputable def se4n8 : List Sm := [s12, s16, s20]
noncomputable def se4n25 : List Sm := [s13, s17, s21, s23, s25, s27]
noncomputable def se4n9 : List Sm := [s14, s18, s22, s24, s26, s28]
noncomputable def se4n84 : List Sm := [s29, s30, s32, s33, s34, s35, s36, s37, s39, s40, s41, s42, s69, s70]
noncomputable def se4n75 : List Sm := [s31, s38, s68, s71]
noncomputable def se4n76 : List Sm := [s43, s44, s45, s46, s47, s48, s49, s50, s51, s52, s53, s54, s55, s56, s57, s58, s59, s60, s61, s62, s63, s64, s65, s66]
noncomputable def se4n30 : List Sm := [s67]
noncomputable def tb4n7 : T (List Sm) := .node .leaf (some se4n7) .leaf
noncomputable def tb4n18 : T (List Sm) := .node (.node (.node .leaf (some se4n75) .leaf) none .leaf) none .leaf
noncomputable def tb4n8 : T (List Sm) := .node .leaf none tb4n18
noncomputable def tb4n3 : T (List Sm) := .node tb4n7 none tb4n8
noncomputable def tb4n19 : T (List Sm) := .node .leaf none (.node .leaf (some se4n49) .leaf)
noncomputable def tb4n20 : T (List Sm) := .node .leaf (some se4n25) .leaf
noncomputable def tb4n9 : T (List Sm) := .node tb4n19 (some se4n9) tb4n20
noncomputable def tb4n4 : T (List Sm) := .node tb4n9 none .leaf
noncomputable def tb4n1 : T (List Sm) := .node tb4n3 none tb4n4
noncomputable def tb4n11 : T (List Sm) := .node .leaf (some se4n8) .leaf
noncomputable def tb4n25 : T (List Sm) := .node .leaf none (.node (.node .leaf (some se4n84) .leaf) none .leaf)
noncomputable def tb4n26 : T (List Sm) := .node (.node (.node .leaf (some se4n76) .leaf) none .leaf) none .leaf
noncomputable def tb4n12 : T (List Sm) := .node tb4n25 none tb4n26
noncomputable def tb4n5 : T (List Sm) := .node tb4n11 none tb4n12
noncomputable def tb4n30 : T (List Sm) := .node .leaf (some se4n30) .leaf
noncomputable def tb4n14 : T (List Sm) := .node .leaf none tb4n30
noncomputable def tb4n6 : T (List Sm) := .node .leaf none tb4n14
noncomputable def tb4n2 : T (List Sm) := .node tb4n5 none tb4n6
noncomputable def tb4n0 : T (List Sm) := .node tb4n1 none tb4n2
noncomputable def tb4 : T (List Sm) := tb4n0
noncomputable def tl4 : List (Nat × List Sm) := [(49, se4n49), (7, se4n7), (8, se4n8), (25, se4n25), (9, se4n9), (84, se4n84), (75, se4n75), (76, se4n76), (30, se4n30)]
noncomputable def CX4 : Ctx := ⟨Tryz.prog, fnT, allSm Tryz.prog XT tb4⟩
theorem cx4 : CtxOk Tryz.prog ENV CX4 := ctx_ok (l := tl4) (by kernel_rfl) (by kernel_rfl) (.cons (.cons (i0) (.cons (i1) (.cons (i2) (.cons (i3) (.cons (i4) (.cons (i5) (.cons (i6) (.cons (i7) (.cons (i8) (.cons (i9) (.cons (i11) (.cons (i15) (.cons (i19) (.nil)))))))))))))) (.cons (.cons (i10) (.nil)) (.cons (.cons (i12) (.cons (i16) (.cons (i20) (.nil)))) (.cons (.cons (i13) (.cons (i17) (.cons (i21) (.cons (i23) (.cons (i25) (.cons (i27) (.nil))))))) (.cons (.cons (i14) (.cons (i18) (.cons (i22) (.cons (i24) (.cons (i26) (.cons (i28) (.nil))))))) (.cons (.cons (i29) (.cons (i30) (.cons (i32) (.cons (i33) (.cons (i34) (.cons (i35) (.cons (i36) (.cons (i37) (.cons (i39) (.cons (i40) (.cons (i41) (.cons (i42) (.cons (i69) (.cons (i70) (.nil))))))))))))))) (.cons (.cons (i31) (.cons (i38) (.cons (i68) (.cons (i71) (.nil))))) (.cons (.cons (i43) (.cons (i44) (.cons (i45) (.cons (i46) (.cons (i47) (.cons (i48) (.cons (i49) (.cons (i50) (.cons (i51) (.cons (i52) (.cons (i53) (.cons (i54) (.cons (i55) (.cons (i56) (.cons (i57) (.cons (i58) (.cons (i59) (.cons (i60) (.cons (i61) (.cons (i62) (.cons (i63) (.cons (i64) (.cons (i65) (.cons (i66) (.nil))))))))))))))))))))))))) (.cons (.cons (i67) (.nil)) (.nil))))))))))
end Go.Proofs.YtkiboofldjnapaaGreatDoor
