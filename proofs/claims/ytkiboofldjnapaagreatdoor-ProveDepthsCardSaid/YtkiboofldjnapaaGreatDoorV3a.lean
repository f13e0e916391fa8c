/- Calls that were run ahead, printed by program. -/
import Derived.Test.YtkiboofldjnapaaGreatDoorU3
namespace Go.Proofs.YtkiboofldjnapaaGreatDoor
open Go Go.Abs
set_option maxRecDepth 100000
/- mandate/naive.Model -/
noncomputable def s67 : Sm := ⟨30, [v44, (.slice (some ⟨140002, 0, none⟩) 3 1267650600228229401496703205376), v2], [(10016, (.row [v29] 9 true)), (10152, (.row [v13] 135 true)), (10035, o3), (10119, o1), (140002, o6), (50013, o11), (90013, o14), (130013, o7), (130037, o8), (130023, o7), (130035, o7), (2, o12)], 60000010000, (.tuple ⟨[(.slice (some ⟨60000070584, 0, none⟩) 4 4), (.bool false), v2]⟩), [(10016, some (.row [v29] 9 true)), (10152, some (.row [v13] 135 true)), (10035, some o3), (10119, some o1), (140002, some o6), (50013, some o11), (90013, some o14), (130013, some o7), (130037, some o8), (130023, some o7), (130035, some o7), (60000070584, some o15), (60000070257, some o5), (60000070313, some o0), (60000070036, some o5), (60000070074, some o0)], 60000080000⟩
theorem i67 : SmIt Tryz.prog ENV s67 := smIt mixed (n := 3000) cx3 (by kernel_rfl) (by kernel_rfl)
end Go.Proofs.YtkiboofldjnapaaGreatDoor
