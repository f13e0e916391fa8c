/- That the functions are read so, printed by program. -/
import Derived.Test.YtfaodjjgnajodaaGreatDoorChecked
import Derived.KernelRfl
import Derived.Test.YtfaodjjgnajodaaGreatDoorTc
namespace Go.Proofs.YtfaodjjgnajodaaGreatDoor
open Go Go.Abs
theorem cg164 : compFn ENV Tryz.f164 = some g164 := by kernel_rfl
theorem cg165 : compFn ENV Tryz.f165 = some g165 := by kernel_rfl
theorem cg166 : compFn ENV Tryz.f166 = some g166 := by kernel_rfl
theorem cg167 : compFn ENV Tryz.f167 = some g167 := by kernel_rfl
theorem cg172 : compFn ENV Tryz.f172 = some g172 := by kernel_rfl
theorem cg173 : compFn ENV Tryz.f173 = some g173 := by kernel_rfl
theorem cg174 : compFn ENV Tryz.f174 = some g174 := by kernel_rfl
theorem cg175 : compFn ENV Tryz.f175 = some g175 := by kernel_rfl
theorem cg176 : compFn ENV Tryz.f176 = some g176 := by kernel_rfl
theorem cg177 : compFn ENV Tryz.f177 = some g177 := by kernel_rfl
theorem cg178 : compFn ENV Tryz.f178 = some g178 := by kernel_rfl
theorem cg181 : compFn ENV Tryz.f181 = some g181 := by kernel_rfl
theorem cg185 : compFn ENV Tryz.f185 = some g185 := by kernel_rfl
theorem cg186 : compFn ENV Tryz.f186 = some g186 := by kernel_rfl
theorem cg187 : compFn ENV Tryz.f187 = some g187 := by kernel_rfl
theorem cg188 : compFn ENV Tryz.f188 = some g188 := by kernel_rfl
theorem cg192 : compFn ENV Tryz.f192 = some g192 := by kernel_rfl
theorem cg193 : compFn ENV Tryz.f193 = some g193 := by kernel_rfl
theorem cg194 : compFn ENV Tryz.f194 = some g194 := by kernel_rfl
theorem cg195 : compFn ENV Tryz.f195 = some g195 := by kernel_rfl
theorem cg198 : compFn ENV Tryz.f198 = some g198 := by kernel_rfl
theorem cg200 : compFn ENV Tryz.f200 = some g200 := by kernel_rfl
theorem cg201 : compFn ENV Tryz.f201 = some g201 := by kernel_rfl
end Go.Proofs.YtfaodjjgnajodaaGreatDoor
