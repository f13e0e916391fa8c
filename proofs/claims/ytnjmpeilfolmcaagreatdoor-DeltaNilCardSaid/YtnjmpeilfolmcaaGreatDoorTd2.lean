/- That the functions are read so, printed by program. -/
import Derived.Test.YtnjmpeilfolmcaaGreatDoorChecked
import Derived.KernelRfl
import Derived.Test.YtnjmpeilfolmcaaGreatDoorTc
namespace Go.Proofs.YtnjmpeilfolmcaaGreatDoor
open Go Go.Abs
theorem cg140 : compFn ENV Tryz.f140 = some g140 := by kernel_rfl
theorem cg141 : compFn ENV Tryz.f141 = some g141 := by kernel_rfl
theorem cg142 : compFn ENV Tryz.f142 = some g142 := by kernel_rfl
theorem cg143 : compFn ENV Tryz.f143 = some g143 := by kernel_rfl
theorem cg144 : compFn ENV Tryz.f144 = some g144 := by kernel_rfl
theorem cg145 : compFn ENV Tryz.f145 = some g145 := by kernel_rfl
theorem cg146 : compFn ENV Tryz.f146 = some g146 := by kernel_rfl
theorem cg148 : compFn ENV Tryz.f148 = some g148 := by kernel_rfl
theorem cg149 : compFn ENV Tryz.f149 = some g149 := by kernel_rfl
theorem cg150 : compFn ENV Tryz.f150 = some g150 := by kernel_rfl
theorem cg151 : compFn ENV Tryz.f151 = some g151 := by kernel_rfl
theorem cg156 : compFn ENV Tryz.f156 = some g156 := by kernel_rfl
theorem cg157 : compFn ENV Tryz.f157 = some g157 := by kernel_rfl
theorem cg158 : compFn ENV Tryz.f158 = some g158 := by kernel_rfl
theorem cg159 : compFn ENV Tryz.f159 = some g159 := by kernel_rfl
theorem cg160 : compFn ENV Tryz.f160 = some g160 := by kernel_rfl
theorem cg161 : compFn ENV Tryz.f161 = some g161 := by kernel_rfl
theorem cg162 : compFn ENV Tryz.f162 = some g162 := by kernel_rfl
theorem cg163 : compFn ENV Tryz.f163 = some g163 := by kernel_rfl
theorem cg164 : compFn ENV Tryz.f164 = some g164 := by kernel_rfl
theorem cg165 : compFn ENV Tryz.f165 = some g165 := by kernel_rfl
theorem cg166 : compFn ENV Tryz.f166 = some g166 := by kernel_rfl
theorem cg171 : compFn ENV Tryz.f171 = some g171 := by kernel_rfl
theorem cg172 : compFn ENV Tryz.f172 = some g172 := by kernel_rfl
theorem cg173 : compFn ENV Tryz.f173 = some g173 := by kernel_rfl
theorem cg174 : compFn ENV Tryz.f174 = some g174 := by kernel_rfl
theorem cg175 : compFn ENV Tryz.f175 = some g175 := by kernel_rfl
theorem cg176 : compFn ENV Tryz.f176 = some g176 := by kernel_rfl
theorem cg177 : compFn ENV Tryz.f177 = some g177 := by kernel_rfl
theorem cg178 : compFn ENV Tryz.f178 = some g178 := by kernel_rfl
theorem cg179 : compFn ENV Tryz.f179 = some g179 := by kernel_rfl
theorem cg180 : compFn ENV Tryz.f180 = some g180 := by kernel_rfl
theorem cg181 : compFn ENV Tryz.f181 = some g181 := by kernel_rfl
theorem cg183 : compFn ENV Tryz.f183 = some g183 := by kernel_rfl
theorem cg185 : compFn ENV Tryz.f185 = some g185 := by kernel_rfl
theorem cg194 : compFn ENV Tryz.f194 = some g194 := by kernel_rfl
theorem cg195 : compFn ENV Tryz.f195 = some g195 := by kernel_rfl
theorem cg196 : compFn ENV Tryz.f196 = some g196 := by kernel_rfl
theorem cg198 : compFn ENV Tryz.f198 = some g198 := by kernel_rfl
theorem cg199 : compFn ENV Tryz.f199 = some g199 := by kernel_rfl
theorem cg201 : compFn ENV Tryz.f201 = some g201 := by kernel_rfl
theorem cg205 : compFn ENV Tryz.f205 = some g205 := by kernel_rfl
theorem cg206 : compFn ENV Tryz.f206 = some g206 := by kernel_rfl
theorem cg207 : compFn ENV Tryz.f207 = some g207 := by kernel_rfl
theorem cg208 : compFn ENV Tryz.f208 = some g208 := by kernel_rfl
theorem cg212 : compFn ENV Tryz.f212 = some g212 := by kernel_rfl
theorem cg213 : compFn ENV Tryz.f213 = some g213 := by kernel_rfl
theorem cg225 : compFn ENV Tryz.f225 = some g225 := by kernel_rfl
end Go.Proofs.YtnjmpeilfolmcaaGreatDoor
