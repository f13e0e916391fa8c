/- What was run ahead, as a context: level 1, printed by program. -/
import Derived.Test.YtfaodjjgnajodaaGreatDoorV0a
namespace Go.Proofs.YtfaodjjgnajodaaGreatDoor
open Go Go.Abs
set_option maxRecDepth 100000
noncomputable def se1n79 : List Sm := [s0, s1, s2, s3, s4, s5, s6, s7, s8, s9, s10, s11, s12, s14, s18, s22, s26, s30, s31]
noncomputable def tb1n15 : T (List Sm) := .node .leaf none (.node (.node .leaf (some se1n79) .leaf) none .leaf)
noncomputable def tb1n7 : T (List Sm) := .node tb1n15 none .leaf
noncomputable def tb1n3 : T (List Sm) := .node tb1n7 none .leaf
noncomputable def tb1n1 : T (List Sm) := .node tb1n3 none .leaf
noncomputable def tb1n0 : T (List Sm) := .node tb1n1 none .leaf
noncomputable def tb1 : T (List Sm) := tb1n0
noncomputable def tl1 : List (Nat × List Sm) := [(79, se1n79)]
noncomputable def CX1 : Ctx := ⟨Tryz.prog, fnT, allSm Tryz.prog XT tb1⟩
theorem cx1 : CtxOk Tryz.prog ENV CX1 := ctx_ok (l := tl1) (by kernel_rfl) (by kernel_rfl) (.cons (.cons (i0) (.cons (i1) (.cons (i2) (.cons (i3) (.cons (i4) (.cons (i5) (.cons (i6) (.cons (i7) (.cons (i8) (.cons (i9) (.cons (i10) (.cons (i11) (.cons (i12) (.cons (i14) (.cons (i18) (.cons (i22) (.cons (i26) (.cons (i30) (.cons (i31) (.nil)))))))))))))))))))) (.nil))
end Go.Proofs.YtfaodjjgnajodaaGreatDoor
