/- Calls that were run ahead, printed by program. -/
import Derived.Test.YtfaodjjgnajodaaGreatDoorU3
namespace Go.Proofs.YtfaodjjgnajodaaGreatDoor
open Go Go.Abs
set_option maxRecDepth 100000
/- mandate/naive.Model -/
noncomputable def s180 : Sm := ⟨12, [v54, (.slice (some ⟨220002, 0, none⟩) 5 1267650600228229401496703205376), v3], [(10016, (.row [v69] 9 true)), (10202, (.row [v12] 137 true)), (10055, o19), (10169, o23), (220002, o16), (50013, o12), (90013, o1), (90037, o3), (130013, o8), (170013, o10), (210013, o7), (210037, o15), (90023, o1), (90035, o1), (210023, o22), (210035, o6), (2, o2)], 230000, (.tuple ⟨[(.slice (some ⟨331275, 0, none⟩) 5 5), (.bool false), v3]⟩), [(10016, some (.row [v69] 9 true)), (10202, some (.row [v12] 137 true)), (10055, some o19), (10169, some o23), (220002, some o16), (50013, some o12), (90013, some o1), (90037, some o3), (130013, some o8), (170013, some o10), (210013, some o7), (210037, some o15), (90023, some o1), (90035, some o1), (210023, some o22), (210035, some o6), (331275, some o20), (330961, some o13), (330036, some o13), (330082, some o4), (330414, some o24), (330129, some o9)], 340000⟩
theorem i180 : SmIt Tryz.prog ENV s180 := smIt mixed (n := 3000) cx3 (by kernel_rfl) (by kernel_rfl)
end Go.Proofs.YtfaodjjgnajodaaGreatDoor
