/- That the functions are read so, printed by program. -/
import Derived.Test.YtfaodjjgnajodaaGreatDoorChecked
import Derived.KernelRfl
import Derived.Test.YtfaodjjgnajodaaGreatDoorTc
namespace Go.Proofs.YtfaodjjgnajodaaGreatDoor
open Go Go.Abs
theorem cg78 : compFn ENV Tryz.f78 = some g78 := by kernel_rfl
theorem cg79 : compFn ENV Tryz.f79 = some g79 := by kernel_rfl
theorem cg80 : compFn ENV Tryz.f80 = some g80 := by kernel_rfl
theorem cg81 : compFn ENV Tryz.f81 = some g81 := by kernel_rfl
theorem cg82 : compFn ENV Tryz.f82 = some g82 := by kernel_rfl
theorem cg83 : compFn ENV Tryz.f83 = some g83 := by kernel_rfl
theorem cg85 : compFn ENV Tryz.f85 = some g85 := by kernel_rfl
theorem cg86 : compFn ENV Tryz.f86 = some g86 := by kernel_rfl
theorem cg87 : compFn ENV Tryz.f87 = some g87 := by kernel_rfl
theorem cg88 : compFn ENV Tryz.f88 = some g88 := by kernel_rfl
theorem cg89 : compFn ENV Tryz.f89 = some g89 := by kernel_rfl
theorem cg90 : compFn ENV Tryz.f90 = some g90 := by kernel_rfl
theorem cg91 : compFn ENV Tryz.f91 = some g91 := by kernel_rfl
theorem cg92 : compFn ENV Tryz.f92 = some g92 := by kernel_rfl
theorem cg94 : compFn ENV Tryz.f94 = some g94 := by kernel_rfl
theorem cg95 : compFn ENV Tryz.f95 = some g95 := by kernel_rfl
theorem cg96 : compFn ENV Tryz.f96 = some g96 := by kernel_rfl
theorem cg97 : compFn ENV Tryz.f97 = some g97 := by kernel_rfl
theorem cg98 : compFn ENV Tryz.f98 = some g98 := by kernel_rfl
theorem cg99 : compFn ENV Tryz.f99 = some g99 := by kernel_rfl
theorem cg100 : compFn ENV Tryz.f100 = some g100 := by kernel_rfl
theorem cg101 : compFn ENV Tryz.f101 = some g101 := by kernel_rfl
theorem cg102 : compFn ENV Tryz.f102 = some g102 := by kernel_rfl
theorem cg104 : compFn ENV Tryz.f104 = some g104 := by kernel_rfl
theorem cg105 : compFn ENV Tryz.f105 = some g105 := by kernel_rfl
theorem cg106 : compFn ENV Tryz.f106 = some g106 := by kernel_rfl
theorem cg115 : compFn ENV Tryz.f115 = some g115 := by kernel_rfl
theorem cg116 : compFn ENV Tryz.f116 = some g116 := by kernel_rfl
theorem cg117 : compFn ENV Tryz.f117 = some g117 := by kernel_rfl
theorem cg118 : compFn ENV Tryz.f118 = some g118 := by kernel_rfl
theorem cg120 : compFn ENV Tryz.f120 = some g120 := by kernel_rfl
theorem cg121 : compFn ENV Tryz.f121 = some g121 := by kernel_rfl
theorem cg122 : compFn ENV Tryz.f122 = some g122 := by kernel_rfl
theorem cg123 : compFn ENV Tryz.f123 = some g123 := by kernel_rfl
theorem cg124 : compFn ENV Tryz.f124 = some g124 := by kernel_rfl
theorem cg126 : compFn ENV Tryz.f126 = some g126 := by kernel_rfl
theorem cg127 : compFn ENV Tryz.f127 = some g127 := by kernel_rfl
theorem cg128 : compFn ENV Tryz.f128 = some g128 := by kernel_rfl
theorem cg129 : compFn ENV Tryz.f129 = some g129 := by kernel_rfl
theorem cg130 : compFn ENV Tryz.f130 = some g130 := by kernel_rfl
theorem cg131 : compFn ENV Tryz.f131 = some g131 := by kernel_rfl
theorem cg133 : compFn ENV Tryz.f133 = some g133 := by kernel_rfl
theorem cg134 : compFn ENV Tryz.f134 = some g134 := by kernel_rfl
theorem cg135 : compFn ENV Tryz.f135 = some g135 := by kernel_rfl
theorem cg136 : compFn ENV Tryz.f136 = some g136 := by kernel_rfl
theorem cg137 : compFn ENV Tryz.f137 = some g137 := by kernel_rfl
theorem cg138 : compFn ENV Tryz.f138 = some g138 := by kernel_rfl
theorem cg139 : compFn ENV Tryz.f139 = some g139 := by kernel_rfl
theorem cg140 : compFn ENV Tryz.f140 = some g140 := by kernel_rfl
theorem cg141 : compFn ENV Tryz.f141 = some g141 := by kernel_rfl
theorem cg144 : compFn ENV Tryz.f144 = some g144 := by kernel_rfl
theorem cg145 : compFn ENV Tryz.f145 = some g145 := by kernel_rfl
theorem cg146 : compFn ENV Tryz.f146 = some g146 := by kernel_rfl
theorem cg147 : compFn ENV Tryz.f147 = some g147 := by kernel_rfl
theorem cg153 : compFn ENV Tryz.f153 = some g153 := by kernel_rfl
theorem cg154 : compFn ENV Tryz.f154 = some g154 := by kernel_rfl
theorem cg158 : compFn ENV Tryz.f158 = some g158 := by kernel_rfl
theorem cg159 : compFn ENV Tryz.f159 = some g159 := by kernel_rfl
theorem cg160 : compFn ENV Tryz.f160 = some g160 := by kernel_rfl
theorem cg161 : compFn ENV Tryz.f161 = some g161 := by kernel_rfl
theorem cg162 : compFn ENV Tryz.f162 = some g162 := by kernel_rfl
theorem cg163 : compFn ENV Tryz.f163 = some g163 := by kernel_rfl
end Go.Proofs.YtfaodjjgnajodaaGreatDoor
