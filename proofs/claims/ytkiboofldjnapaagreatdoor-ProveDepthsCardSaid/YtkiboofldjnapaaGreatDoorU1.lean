/- What was run ahead, as a context: level 1, printed by program. -/
import Derived.Test.YtkiboofldjnapaaGreatDoorV0a
namespace Go.Proofs.YtkiboofldjnapaaGreatDoor
open Go Go.Abs
set_option maxRecDepth 100000
noncomputable def se1n49 : List Sm := [s0, s1, s2, s3, s4, s5, s6, s7, s8, s9, s11, s15, s19]
noncomputable def tb1n19 : T (List Sm) := .node .leaf none (.node .leaf (some se1n49) .leaf)
noncomputable def tb1n9 : T (List Sm) := .node tb1n19 none .leaf
noncomputable def tb1n4 : T (List Sm) := .node tb1n9 none .leaf
noncomputable def tb1n1 : T (List Sm) := .node .leaf none tb1n4
noncomputable def tb1n0 : T (List Sm) := .node tb1n1 none .leaf
noncomputable def tb1 : T (List Sm) := tb1n0
noncomputable def tl1 : List (Nat × List Sm) := [(49, se1n49)]
noncomputable def CX1 : Ctx := ⟨Tryz.prog, fnT, allSm Tryz.prog XT tb1⟩
theorem cx1 : CtxOk Tryz.prog ENV CX1 := ctx_ok (l := tl1) (by kernel_rfl) (by kernel_rfl) (.cons (.cons (i0) (.cons (i1) (.cons (i2) (.cons (i3) (.cons (i4) (.cons (i5) (.cons (i6) (.cons (i7) (.cons (i8) (.cons (i9) (.cons (i11) (.cons (i15) (.cons (i19) (.nil)))))))))))))) (.nil))
end Go.Proofs.YtkiboofldjnapaaGreatDoor
