/- What was run ahead, as a context: level 0, printed by program. -/
import Derived.Test.YtkiboofldjnapaaGreatDoorUv
namespace Go.Proofs.YtkiboofldjnapaaGreatDoor
open Go Go.Abs
set_option maxRecDepth 100000

noncomputable def tb0 : T (List Sm) := .leaf
noncomputable def tl0 : List (Nat × List Sm) := []
noncomputable def CX0 : Ctx := ⟨Tryz.prog, fnT, allSm Tryz.prog XT tb0⟩
theorem cx0 : CtxOk Tryz.prog ENV CX0 := ctx_ok (l := tl0) (by kernel_rfl) (by kernel_rfl) (.nil)
end Go.Proofs.YtkiboofldjnapaaGreatDoor
