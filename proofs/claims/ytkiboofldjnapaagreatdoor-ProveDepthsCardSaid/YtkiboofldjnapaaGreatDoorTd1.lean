/- That the functions are read so, printed by program. -/
import Derived.Test.YtkiboofldjnapaaGreatDoorChecked
import Derived.KernelRfl
import Derived.Test.YtkiboofldjnapaaGreatDoorTc
namespace Go.Proofs.YtkiboofldjnapaaGreatDoor
open Go Go.Abs
theorem cg72 : compFn ENV Tryz.f72 = some g72 := by kernel_rfl
theorem cg73 : compFn ENV Tryz.f73 = some g73 := by kernel_rfl
theorem cg74 : compFn ENV Tryz.f74 = some g74 := by kernel_rfl
theorem cg75 : compFn ENV Tryz.f75 = some g75 := by kernel_rfl
theorem cg76 : compFn ENV Tryz.f76 = some g76 := by kernel_rfl
theorem cg77 : compFn ENV Tryz.f77 = some g77 := by kernel_rfl
theorem cg78 : compFn ENV Tryz.f78 = some g78 := by kernel_rfl
theorem cg79 : compFn ENV Tryz.f79 = some g79 := by kernel_rfl
theorem cg80 : compFn ENV Tryz.f80 = some g80 := by kernel_rfl
theorem cg81 : compFn ENV Tryz.f81 = some g81 := by kernel_rfl
theorem cg82 : compFn ENV Tryz.f82 = some g82 := by kernel_rfl
theorem cg83 : compFn ENV Tryz.f83 = some g83 := by kernel_rfl
theorem cg84 : compFn ENV Tryz.f84 = some g84 := by kernel_rfl
theorem cg85 : compFn ENV Tryz.f85 = some g85 := by kernel_rfl
theorem cg86 : compFn ENV Tryz.f86 = some g86 := by kernel_rfl
theorem cg88 : compFn ENV Tryz.f88 = some g88 := by kernel_rfl
theorem cg89 : compFn ENV Tryz.f89 = some g89 := by kernel_rfl
theorem cg90 : compFn ENV Tryz.f90 = some g90 := by kernel_rfl
theorem cg91 : compFn ENV Tryz.f91 = some g91 := by kernel_rfl
theorem cg92 : compFn ENV Tryz.f92 = some g92 := by kernel_rfl
theorem cg93 : compFn ENV Tryz.f93 = some g93 := by kernel_rfl
theorem cg95 : compFn ENV Tryz.f95 = some g95 := by kernel_rfl
theorem cg96 : compFn ENV Tryz.f96 = some g96 := by kernel_rfl
theorem cg97 : compFn ENV Tryz.f97 = some g97 := by kernel_rfl
theorem cg98 : compFn ENV Tryz.f98 = some g98 := by kernel_rfl
theorem cg99 : compFn ENV Tryz.f99 = some g99 := by kernel_rfl
theorem cg101 : compFn ENV Tryz.f101 = some g101 := by kernel_rfl
theorem cg102 : compFn ENV Tryz.f102 = some g102 := by kernel_rfl
theorem cg103 : compFn ENV Tryz.f103 = some g103 := by kernel_rfl
theorem cg104 : compFn ENV Tryz.f104 = some g104 := by kernel_rfl
theorem cg105 : compFn ENV Tryz.f105 = some g105 := by kernel_rfl
theorem cg106 : compFn ENV Tryz.f106 = some g106 := by kernel_rfl
theorem cg107 : compFn ENV Tryz.f107 = some g107 := by kernel_rfl
theorem cg108 : compFn ENV Tryz.f108 = some g108 := by kernel_rfl
theorem cg110 : compFn ENV Tryz.f110 = some g110 := by kernel_rfl
theorem cg111 : compFn ENV Tryz.f111 = some g111 := by kernel_rfl
theorem cg112 : compFn ENV Tryz.f112 = some g112 := by kernel_rfl
theorem cg113 : compFn ENV Tryz.f113 = some g113 := by kernel_rfl
theorem cg114 : compFn ENV Tryz.f114 = some g114 := by kernel_rfl
theorem cg115 : compFn ENV Tryz.f115 = some g115 := by kernel_rfl
theorem cg116 : compFn ENV Tryz.f116 = some g116 := by kernel_rfl
theorem cg117 : compFn ENV Tryz.f117 = some g117 := by kernel_rfl
theorem cg118 : compFn ENV Tryz.f118 = some g118 := by kernel_rfl
theorem cg119 : compFn ENV Tryz.f119 = some g119 := by kernel_rfl
theorem cg121 : compFn ENV Tryz.f121 = some g121 := by kernel_rfl
theorem cg122 : compFn ENV Tryz.f122 = some g122 := by kernel_rfl
theorem cg123 : compFn ENV Tryz.f123 = some g123 := by kernel_rfl
theorem cg124 : compFn ENV Tryz.f124 = some g124 := by kernel_rfl
theorem cg125 : compFn ENV Tryz.f125 = some g125 := by kernel_rfl
theorem cg126 : compFn ENV Tryz.f126 = some g126 := by kernel_rfl
theorem cg127 : compFn ENV Tryz.f127 = some g127 := by kernel_rfl
theorem cg128 : compFn ENV Tryz.f128 = some g128 := by kernel_rfl
theorem cg129 : compFn ENV Tryz.f129 = some g129 := by kernel_rfl
theorem cg131 : compFn ENV Tryz.f131 = some g131 := by kernel_rfl
theorem cg140 : compFn ENV Tryz.f140 = some g140 := by kernel_rfl
theorem cg141 : compFn ENV Tryz.f141 = some g141 := by kernel_rfl
theorem cg146 : compFn ENV Tryz.f146 = some g146 := by kernel_rfl
theorem cg147 : compFn ENV Tryz.f147 = some g147 := by kernel_rfl
theorem cg148 : compFn ENV Tryz.f148 = some g148 := by kernel_rfl
theorem cg149 : compFn ENV Tryz.f149 = some g149 := by kernel_rfl
theorem cg150 : compFn ENV Tryz.f150 = some g150 := by kernel_rfl
theorem cg151 : compFn ENV Tryz.f151 = some g151 := by kernel_rfl
end Go.Proofs.YtkiboofldjnapaaGreatDoor
