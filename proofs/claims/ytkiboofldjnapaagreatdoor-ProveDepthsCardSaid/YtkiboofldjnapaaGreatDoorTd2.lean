/- That the functions are read so, printed by program. -/
import Derived.Test.YtkiboofldjnapaaGreatDoorChecked
import Derived.KernelRfl
import Derived.Test.YtkiboofldjnapaaGreatDoorTc
namespace Go.Proofs.YtkiboofldjnapaaGreatDoor
open Go Go.Abs
theorem cg152 : compFn ENV Tryz.f152 = some g152 := by kernel_rfl
theorem cg153 : compFn ENV Tryz.f153 = some g153 := by kernel_rfl
theorem cg154 : compFn ENV Tryz.f154 = some g154 := by kernel_rfl
theorem cg155 : compFn ENV Tryz.f155 = some g155 := by kernel_rfl
theorem cg156 : compFn ENV Tryz.f156 = some g156 := by kernel_rfl
theorem cg161 : compFn ENV Tryz.f161 = some g161 := by kernel_rfl
theorem cg162 : compFn ENV Tryz.f162 = some g162 := by kernel_rfl
theorem cg163 : compFn ENV Tryz.f163 = some g163 := by kernel_rfl
theorem cg164 : compFn ENV Tryz.f164 = some g164 := by kernel_rfl
theorem cg165 : compFn ENV Tryz.f165 = some g165 := by kernel_rfl
theorem cg166 : compFn ENV Tryz.f166 = some g166 := by kernel_rfl
theorem cg167 : compFn ENV Tryz.f167 = some g167 := by kernel_rfl
theorem cg168 : compFn ENV Tryz.f168 = some g168 := by kernel_rfl
theorem cg170 : compFn ENV Tryz.f170 = some g170 := by kernel_rfl
theorem cg171 : compFn ENV Tryz.f171 = some g171 := by kernel_rfl
theorem cg179 : compFn ENV Tryz.f179 = some g179 := by kernel_rfl
theorem cg186 : compFn ENV Tryz.f186 = some g186 := by kernel_rfl
theorem cg190 : compFn ENV Tryz.f190 = some g190 := by kernel_rfl
theorem cg191 : compFn ENV Tryz.f191 = some g191 := by kernel_rfl
theorem cg192 : compFn ENV Tryz.f192 = some g192 := by kernel_rfl
theorem cg193 : compFn ENV Tryz.f193 = some g193 := by kernel_rfl
theorem cg197 : compFn ENV Tryz.f197 = some g197 := by kernel_rfl
theorem cg198 : compFn ENV Tryz.f198 = some g198 := by kernel_rfl
theorem cg199 : compFn ENV Tryz.f199 = some g199 := by kernel_rfl
theorem cg200 : compFn ENV Tryz.f200 = some g200 := by kernel_rfl
theorem cg201 : compFn ENV Tryz.f201 = some g201 := by kernel_rfl
theorem cg207 : compFn ENV Tryz.f207 = some g207 := by kernel_rfl
theorem cg208 : compFn ENV Tryz.f208 = some g208 := by kernel_rfl
theorem cg212 : compFn ENV Tryz.f212 = some g212 := by kernel_rfl
theorem cg213 : compFn ENV Tryz.f213 = some g213 := by kernel_rfl
theorem cg215 : compFn ENV Tryz.f215 = some g215 := by kernel_rfl
end Go.Proofs.YtkiboofldjnapaaGreatDoor
