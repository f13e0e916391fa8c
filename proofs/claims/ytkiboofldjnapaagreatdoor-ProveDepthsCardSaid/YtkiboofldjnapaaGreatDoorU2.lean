/- What was run ahead, as a context: level 2, printed by program. -/
import Derived.Test.YtkiboofldjnapaaGreatDoorV1a
namespace Go.Proofs.YtkiboofldjnapaaGreatDoor
open Go Go.Abs
set_option maxRecDepth 100000
noncomputable def se2n49 : List Sm := [s0, s1, s2, s3, s4, s5, s6, s7, s8, s9, s11, s15, s19]
noncomputable def se2n25 : List Sm := [s13, s17, s21, s23, s25, s27]
noncomputable def se2n84 : List Sm := [s29, s30, s32, s33, s34, s35, s36, s37, s39, s40, s41, s42, s69, s70]
noncomputable def se2n75 : List Sm := [s31, s38, s68, s71]
noncomputable def se2n76 : List Sm := [s43, s44, s45, s46, s47, s48, s49, s50, s51, s52, s53, s54, s55, s56, s57, s58, s59, s60, s61, s62, s63, s64, s65, s66]
noncomputable def tb2n18 : T (List Sm) := .node (.node (.node .leaf (some se2n75) .leaf) none .leaf) none .leaf
noncomputable def tb2n8 : T (List Sm) := .node .leaf none tb2n18
noncomputable def tb2n3 : T (List Sm) := .node .leaf none tb2n8
noncomputable def tb2n19 : T (List Sm) := .node .leaf none (.node .leaf (some se2n49) .leaf)
noncomputable def tb2n20 : T (List Sm) := .node .leaf (some se2n25) .leaf
noncomputable def tb2n9 : T (List Sm) := .node tb2n19 none tb2n20
noncomputable def tb2n4 : T (List Sm) := .node tb2n9 none .leaf
noncomputable def tb2n1 : T (List Sm) := .node tb2n3 none tb2n4
noncomputable def tb2n25 : T (List Sm) := .node .leaf none (.node (.node .leaf (some se2n84) .leaf) none .leaf)
noncomputable def tb2n26 : T (List Sm) := .node (.node (.node .leaf (some se2n76) .leaf) none .leaf) none .leaf
noncomputable def tb2n12 : T (List Sm) := .node tb2n25 none tb2n26
noncomputable def tb2n5 : T (List Sm) := .node .leaf none tb2n12
noncomputable def tb2n2 : T (List Sm) := .node tb2n5 none .leaf
noncomputable def tb2n0 : T (List Sm) := .node tb2n1 none tb2n2
noncomputable def tb2 : T (List Sm) := tb2n0
noncomputable def tl2 : List (Nat × List Sm) := [(49, se2n49), (25, se2n25), (84, se2n84), (75, se2n75), (76, se2n76)]
noncomputable def CX2 : Ctx := ⟨Tryz.prog, fnT, allSm Tryz.prog XT tb2⟩
theorem cx2 : CtxOk Tryz.prog ENV CX2 := ctx_ok (l := tl2) (by kernel_rfl) (by kernel_rfl) (.cons (.cons (i0) (.cons (i1) (.cons (i2) (.cons (i3) (.cons (i4) (.cons (i5) (.cons (i6) (.cons (i7) (.cons (i8) (.cons (i9) (.cons (i11) (.cons (i15) (.cons (i19) (.nil)))))))))))))) (.cons (.cons (i13) (.cons (i17) (.cons (i21) (.cons (i23) (.cons (i25) (.cons (i27) (.nil))))))) (.cons (.cons (i29) (.cons (i30) (.cons (i32) (.cons (i33) (.cons (i34) (.cons (i35) (.cons (i36) (.cons (i37) (.cons (i39) (.cons (i40) (.cons (i41) (.cons (i42) (.cons (i69) (.cons (i70) (.nil))))))))))))))) (.cons (.cons (i31) (.cons (i38) (.cons (i68) (.cons (i71) (.nil))))) (.cons (.cons (i43) (.cons (i44) (.cons (i45) (.cons (i46) (.cons (i47) (.cons (i48) (.cons (i49) (.cons (i50) (.cons (i51) (.cons (i52) (.cons (i53) (.cons (i54) (.cons (i55) (.cons (i56) (.cons (i57) (.cons (i58) (.cons (i59) (.cons (i60) (.cons (i61) (.cons (i62) (.cons (i63) (.cons (i64) (.cons (i65) (.cons (i66) (.nil))))))))))))))))))))))))) (.nil))))))
end Go.Proofs.YtkiboofldjnapaaGreatDoor
