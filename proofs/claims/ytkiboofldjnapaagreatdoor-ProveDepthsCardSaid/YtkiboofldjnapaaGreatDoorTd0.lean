/- That the functions are read so, printed by program. -/
import Derived.Test.YtkiboofldjnapaaGreatDoorChecked
import Derived.KernelRfl
import Derived.Test.YtkiboofldjnapaaGreatDoorTc
namespace Go.Proofs.YtkiboofldjnapaaGreatDoor
open Go Go.Abs
theorem cg4 : compFn ENV Tryz.f4 = some g4 := by kernel_rfl
theorem cg5 : compFn ENV Tryz.f5 = some g5 := by kernel_rfl
theorem cg7 : compFn ENV Tryz.f7 = some g7 := by kernel_rfl
theorem cg8 : compFn ENV Tryz.f8 = some g8 := by kernel_rfl
theorem cg9 : compFn ENV Tryz.f9 = some g9 := by kernel_rfl
theorem cg10 : compFn ENV Tryz.f10 = some g10 := by kernel_rfl
theorem cg11 : compFn ENV Tryz.f11 = some g11 := by kernel_rfl
theorem cg12 : compFn ENV Tryz.f12 = some g12 := by kernel_rfl
theorem cg13 : compFn ENV Tryz.f13 = some g13 := by kernel_rfl
theorem cg14 : compFn ENV Tryz.f14 = some g14 := by kernel_rfl
theorem cg15 : compFn ENV Tryz.f15 = some g15 := by kernel_rfl
theorem cg16 : compFn ENV Tryz.f16 = some g16 := by kernel_rfl
theorem cg17 : compFn ENV Tryz.f17 = some g17 := by kernel_rfl
theorem cg18 : compFn ENV Tryz.f18 = some g18 := by kernel_rfl
theorem cg19 : compFn ENV Tryz.f19 = some g19 := by kernel_rfl
theorem cg20 : compFn ENV Tryz.f20 = some g20 := by kernel_rfl
theorem cg21 : compFn ENV Tryz.f21 = some g21 := by kernel_rfl
theorem cg22 : compFn ENV Tryz.f22 = some g22 := by kernel_rfl
theorem cg23 : compFn ENV Tryz.f23 = some g23 := by kernel_rfl
theorem cg24 : compFn ENV Tryz.f24 = some g24 := by kernel_rfl
theorem cg25 : compFn ENV Tryz.f25 = some g25 := by kernel_rfl
theorem cg26 : compFn ENV Tryz.f26 = some g26 := by kernel_rfl
theorem cg27 : compFn ENV Tryz.f27 = some g27 := by kernel_rfl
theorem cg28 : compFn ENV Tryz.f28 = some g28 := by kernel_rfl
theorem cg29 : compFn ENV Tryz.f29 = some g29 := by kernel_rfl
theorem cg30 : compFn ENV Tryz.f30 = some g30 := by kernel_rfl
theorem cg31 : compFn ENV Tryz.f31 = some g31 := by kernel_rfl
theorem cg32 : compFn ENV Tryz.f32 = some g32 := by kernel_rfl
theorem cg33 : compFn ENV Tryz.f33 = some g33 := by kernel_rfl
theorem cg34 : compFn ENV Tryz.f34 = some g34 := by kernel_rfl
theorem cg35 : compFn ENV Tryz.f35 = some g35 := by kernel_rfl
theorem cg36 : compFn ENV Tryz.f36 = some g36 := by kernel_rfl
theorem cg37 : compFn ENV Tryz.f37 = some g37 := by kernel_rfl
theorem cg38 : compFn ENV Tryz.f38 = some g38 := by kernel_rfl
theorem cg39 : compFn ENV Tryz.f39 = some g39 := by kernel_rfl
theorem cg40 : compFn ENV Tryz.f40 = some g40 := by kernel_rfl
theorem cg42 : compFn ENV Tryz.f42 = some g42 := by kernel_rfl
theorem cg43 : compFn ENV Tryz.f43 = some g43 := by kernel_rfl
theorem cg44 : compFn ENV Tryz.f44 = some g44 := by kernel_rfl
theorem cg45 : compFn ENV Tryz.f45 = some g45 := by kernel_rfl
theorem cg46 : compFn ENV Tryz.f46 = some g46 := by kernel_rfl
theorem cg47 : compFn ENV Tryz.f47 = some g47 := by kernel_rfl
theorem cg48 : compFn ENV Tryz.f48 = some g48 := by kernel_rfl
theorem cg49 : compFn ENV Tryz.f49 = some g49 := by kernel_rfl
theorem cg50 : compFn ENV Tryz.f50 = some g50 := by kernel_rfl
theorem cg51 : compFn ENV Tryz.f51 = some g51 := by kernel_rfl
theorem cg52 : compFn ENV Tryz.f52 = some g52 := by kernel_rfl
theorem cg53 : compFn ENV Tryz.f53 = some g53 := by kernel_rfl
theorem cg55 : compFn ENV Tryz.f55 = some g55 := by kernel_rfl
theorem cg56 : compFn ENV Tryz.f56 = some g56 := by kernel_rfl
theorem cg57 : compFn ENV Tryz.f57 = some g57 := by kernel_rfl
theorem cg58 : compFn ENV Tryz.f58 = some g58 := by kernel_rfl
theorem cg59 : compFn ENV Tryz.f59 = some g59 := by kernel_rfl
theorem cg60 : compFn ENV Tryz.f60 = some g60 := by kernel_rfl
theorem cg61 : compFn ENV Tryz.f61 = some g61 := by kernel_rfl
theorem cg62 : compFn ENV Tryz.f62 = some g62 := by kernel_rfl
theorem cg63 : compFn ENV Tryz.f63 = some g63 := by kernel_rfl
theorem cg65 : compFn ENV Tryz.f65 = some g65 := by kernel_rfl
theorem cg66 : compFn ENV Tryz.f66 = some g66 := by kernel_rfl
theorem cg67 : compFn ENV Tryz.f67 = some g67 := by kernel_rfl
theorem cg68 : compFn ENV Tryz.f68 = some g68 := by kernel_rfl
theorem cg69 : compFn ENV Tryz.f69 = some g69 := by kernel_rfl
theorem cg70 : compFn ENV Tryz.f70 = some g70 := by kernel_rfl
theorem cg71 : compFn ENV Tryz.f71 = some g71 := by kernel_rfl
end Go.Proofs.YtkiboofldjnapaaGreatDoor
