/- What was run ahead, as a context: level 5, printed by program. -/
import Derived.Test.YtkiboofldjnapaaGreatDoorV4a
namespace Go.Proofs.YtkiboofldjnapaaGreatDoor
open Go Go.Abs
set_option maxRecDepth 100000
noncomputable def se5n49 : List Sm := [s0, s1, s2, s3, s4, s5, s6, s7, s8, s9, s11, s15, s19]
noncomputable def se5n7 : List Sm := [s10]
noncomputable def se5n8 : List Sm := [s12, s16, s20]
noncomputable def se5n25 : List Sm := [s13, s17, s21, s23, s25, s27]
noncomputable def se5n9 : List Sm := [s14, s18, s22, s24, s26, s28]
noncomputable def se5n84 : List Sm := [s29, s30, s32, s33, s34, s35, s36, s37, s39, s40, s41, s42, s69, s70]
noncomputable def se5n75 : List Sm := [s31, s38, s68, s71]
noncomputable def se5n76 : List Sm := [s43, s44, s45, s46, s47, s48, s49, s50, s51, s52, s53, s54, s55, s56, s57, s58, s59, s60, s61, s62, s63, s64, s65, s66]
noncomputable def se5n30 : List Sm := [s67]
noncomputable def se5n10 : List Sm := [s72]
noncomputable def tb5n7 : T (List Sm) := .node .leaf (some se5n7) .leaf
noncomputable def tb5n18 : T (List Sm) := .node (.node (.node .leaf (some se5n75) .leaf) none .leaf) none .leaf
noncomputable def tb5n8 : T (List Sm) := .node .leaf none tb5n18
noncomputable def tb5n3 : T (List Sm) := .node tb5n7 none tb5n8
noncomputable def tb5n19 : T (List Sm) := .node .leaf none (.node .leaf (some se5n49) .leaf)
noncomputable def tb5n20 : T (List Sm) := .node .leaf (some se5n25) .leaf
noncomputable def tb5n9 : T (List Sm) := .node tb5n19 (some se5n9) tb5n20
noncomputable def tb5n4 : T (List Sm) := .node tb5n9 none .leaf
noncomputable def tb5n1 : T (List Sm) := .node tb5n3 none tb5n4
noncomputable def tb5n11 : T (List Sm) := .node .leaf (some se5n8) .leaf
noncomputable def tb5n25 : T (List Sm) := .node .leaf none (.node (.node .leaf (some se5n84) .leaf) none .leaf)
noncomputable def tb5n26 : T (List Sm) := .node (.node (.node .leaf (some se5n76) .leaf) none .leaf) none .leaf
noncomputable def tb5n12 : T (List Sm) := .node tb5n25 none tb5n26
noncomputable def tb5n5 : T (List Sm) := .node tb5n11 none tb5n12
noncomputable def tb5n13 : T (List Sm) := .node .leaf (some se5n10) .leaf
noncomputable def tb5n30 : T (List Sm) := .node .leaf (some se5n30) .leaf
noncomputable def tb5n14 : T (List Sm) := .node .leaf none tb5n30
noncomputable def tb5n6 : T (List Sm) := .node tb5n13 none tb5n14
noncomputable def tb5n2 : T (List Sm) := .node tb5n5 none tb5n6
noncomputable def tb5n0 : T (List Sm) := .node tb5n1 none tb5n2
noncomputable def tb5 : T (List Sm) := tb5n0
noncomputable def tl5 : List (Nat × List Sm) := [(49, se5n49), (7, se5n7), (8, se5n8), (25, se5n25), (9, se5n9), (84, se5n84), (75, se5n75), (76, se5n76), (30, se5n30), (10, se5n10)]
noncomputable def CX5 : Ctx := ⟨Tryz.prog, fnT, allSm Tryz.prog XT tb5⟩
theorem cx5 : CtxOk Tryz.prog ENV CX5 := ctx_ok (l := tl5) (by kernel_rfl) (by kernel_rfl) (.cons (.cons (i0) (.cons (i1) (.cons (i2) (.cons (i3) (.cons (i4) (.cons (i5) (.cons (i6) (.cons (i7) (.cons (i8) (.cons (i9) (.cons (i11) (.cons (i15) (.cons (i19) (.nil)))))))))))))) (.cons (.cons (i10) (.nil)) (.cons (.cons (i12) (.cons (i16) (.cons (i20) (.nil)))) (.cons (.cons (i13) (.cons (i17) (.cons (i21) (.cons (i23) (.cons (i25) (.cons (i27) (.nil))))))) (.cons (.cons (i14) (.cons (i18) (.cons (i22) (.cons (i24) (.cons (i26) (.cons (i28) (.nil))))))) (.cons (.cons (i29) (.cons (i30) (.cons (i32) (.cons (i33) (.cons (i34) (.cons (i35) (.cons (i36) (.cons (i37) (.cons (i39) (.cons (i40) (.cons (i41) (.cons (i42) (.cons (i69) (.cons (i70) (.nil))))))))))))))) (.cons (.cons (i31) (.cons (i38) (.cons (i68) (.cons (i71) (.nil))))) (.cons (.cons (i43) (.cons (i44) (.cons (i45) (.cons (i46) (.cons (i47) (.cons (i48) (.cons (i49) (.cons (i50) (.cons (i51) (.cons (i52) (.cons (i53) (.cons (i54) (.cons (i55) (.cons (i56) (.cons (i57) (.cons (i58) (.cons (i59) (.cons (i60) (.cons (i61) (.cons (i62) (.cons (i63) (.cons (i64) (.cons (i65) (.cons (i66) (.nil))))))))))))))))))))))))) (.cons (.cons (i67) (.nil)) (.cons (.cons (i72) (.nil)) (.nil)))))))))))
end Go.Proofs.YtkiboofldjnapaaGreatDoor
