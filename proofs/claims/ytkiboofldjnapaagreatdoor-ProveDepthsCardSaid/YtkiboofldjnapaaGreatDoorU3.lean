/- What was run ahead, as a context: level 3, printed by program. -/
import Derived.Test.YtkiboofldjnapaaGreatDoorV2a
namespace Go.Proofs.YtkiboofldjnapaaGreatDoor
open Go Go.Abs
set_option maxRecDepth 100000
noncomputable def se3n49 : List Sm := [s0, s1, s2, s3, s4, s5, s6, s7, s8, s9, s11, s15, s19]
noncomputable def se3n7 : List Sm := [s10]
noncomputable def se3n8 : List Sm := [s12, s16, s20]
noncomputable def se3n25 : List Sm := [s13, s17, s21, s23, s25, s27]
noncomputable def se3n9 : List Sm := [s14, s18, s22, s24, s26, s28]
noncomputable def se3n84 : List Sm := [s29, s30, s32, s33, s34, s35, s36, s37, s39, s40, s41, s42, s69, s70]
noncomputable def se3n75 : List Sm := [s31, s38, s68, s71]
noncomputable def se3n76 : List Sm := [s43, s44, s45, s46, s47, s48, s49, s50, s51, s52, s53, s54, s55, s56, s57, s58, s59, s60, s61, s62, s63, s64, s65, s66]
noncomputable def tb3n7 : T (List Sm) := .node .leaf (some se3n7) .leaf
noncomputable def tb3n18 : T (List Sm) := .node (.node (.node .leaf (some se3n75) .leaf) none .leaf) none .leaf
noncomputable def tb3n8 : T (List Sm) := .node .leaf none tb3n18
noncomputable def tb3n3 : T (List Sm) := .node tb3n7 none tb3n8
noncomputable def tb3n19 : T (List Sm) := .node .leaf none (.node .leaf (some se3n49) .leaf)
noncomputable def tb3n20 : T (List Sm) := .node .leaf (some se3n25) .leaf
noncomputable def tb3n9 : T (List Sm) := .node tb3n19 (some se3n9) tb3n20
noncomputable def tb3n4 : T (List Sm) := .node tb3n9 none .leaf
noncomputable def tb3n1 : T (List Sm) := .node tb3n3 none tb3n4
noncomputable def tb3n11 : T (List Sm) := .node .leaf (some se3n8) .leaf
noncomputable def tb3n25 : T (List Sm) := .node .leaf none (.node (.node .leaf (some se3n84) .leaf) none .leaf)
noncomputable def tb3n26 : T (List Sm) := .node (.node (.node .leaf (some se3n76) .leaf) none .leaf) none .leaf
noncomputable def tb3n12 : T (List Sm) := .node tb3n25 none tb3n26
noncomputable def tb3n5 : T (List Sm) := .node tb3n11 none tb3n12
noncomputable def tb3n2 : T (List Sm) := .node tb3n5 none .leaf
noncomputable def tb3n0 : T (List Sm) := .node tb3n1 none tb3n2
noncomputable def tb3 : T (List Sm) := tb3n0
noncomputable def tl3 : List (Nat × List Sm) := [(49, se3n49), (7, se3n7), (8, se3n8), (25, se3n25), (9, se3n9), (84, se3n84), (75, se3n75), (76, se3n76)]
noncomputable def CX3 : Ctx := ⟨Tryz.prog, fnT, allSm Tryz.prog XT tb3⟩
theorem cx3 : CtxOk Tryz.prog ENV CX3 := ctx_ok (l := tl3) (by kernel_rfl) (by kernel_rfl) (.cons (.cons (i0) (.cons (i1) (.cons (i2) (.cons (i3) (.cons (i4) (.cons (i5) (.cons (i6) (.cons (i7) (.cons (i8) (.cons (i9) (.cons (i11) (.cons (i15) (.cons (i19) (.nil)))))))))))))) (.cons (.cons (i10) (.nil)) (.cons (.cons (i12) (.cons (i16) (.cons (i20) (.nil)))) (.cons (.cons (i13) (.cons (i17) (.cons (i21) (.cons (i23) (.cons (i25) (.cons (i27) (.nil))))))) (.cons (.cons (i14) (.cons (i18) (.cons (i22) (.cons (i24) (.cons (i26) (.cons (i28) (.nil))))))) (.cons (.cons (i29) (.cons (i30) (.cons (i32) (.cons (i33) (.cons (i34) (.cons (i35) (.cons (i36) (.cons (i37) (.cons (i39) (.cons (i40) (.cons (i41) (.cons (i42) (.cons (i69) (.cons (i70) (.nil))))))))))))))) (.cons (.cons (i31) (.cons (i38) (.cons (i68) (.cons (i71) (.nil))))) (.cons (.cons (i43) (.cons (i44) (.cons (i45) (.cons (i46) (.cons (i47) (.cons (i48) (.cons (i49) (.cons (i50) (.cons (i51) (.cons (i52) (.cons (i53) (.cons (i54) (.cons (i55) (.cons (i56) (.cons (i57) (.cons (i58) (.cons (i59) (.cons (i60) (.cons (i61) (.cons (i62) (.cons (i63) (.cons (i64) (.cons (i65) (.cons (i66) (.nil))))))))))))))))))))))))) (.nil)))))))))
end Go.Proofs.YtkiboofldjnapaaGreatDoor
