/- Calls that were run ahead, printed by program. -/
import Derived.Test.YtkiboofldjnapaaGreatDoorU4
namespace Go.Proofs.YtkiboofldjnapaaGreatDoor
open Go Go.Abs
set_option maxRecDepth 100000
/- mandate/prove.Prove -/
noncomputable def s72 : Sm := ⟨10, [v44, (.slice (some ⟨140002, 0, none⟩) 3 1267650600228229401496703205376), v2, (.agg ⟨[v3, (.slice (some ⟨140003, 0, none⟩) 2 2)]⟩)], [(10016, (.row [v29] 9 true)), (10152, (.row [v13] 135 true)), (10035, o3), (10119, o1), (140002, o6), (140003, o5), (50013, o11), (90013, o14), (130013, o7), (130037, o8), (130023, o7), (130035, o7), (2, o12)], 150000, (.tuple ⟨[(.slice (some ⟨60000080206, 0, none⟩) 2 2), v2]⟩), [(10016, some (.row [v29] 9 true)), (10152, some (.row [v13] 135 true)), (10035, some o3), (10119, some o1), (140002, some o6), (140003, some o5), (50013, some o11), (90013, some o14), (130013, some o7), (130037, some o8), (130023, some o7), (130035, some o7), (60000080206, some (.row [v2, v16, (.string ⟨⟨[b112]⟩⟩), (.slice (some ⟨60000080211, 0, none⟩) 2 1267650600228229401496703205376), (.slice none 0 0), (.slice none 0 0), v2, v26, v3, (.slice (some ⟨60000080218, 0, none⟩) 2 1267650600228229401496703205376), (.slice (some ⟨60000080253, 0, none⟩) 1 1267650600228229401496703205376), (.slice (some ⟨60000080141, 0, none⟩) 1 1267650600228229401496703205376)] 30 true)), (60000080211, some o5), (60000080218, some o5), (60000080253, some (.row [v2] 3 true)), (60000080141, some (.row [v6, (.slice (some ⟨60000080125, 0, none⟩) 2 2)] 26 true)), (60000080125, some o5)], 60000090000⟩
theorem i72 : SmIt Tryz.prog ENV s72 := smIt mixed (n := 3000) cx4 (by kernel_rfl) (by kernel_rfl)
end Go.Proofs.YtkiboofldjnapaaGreatDoor
