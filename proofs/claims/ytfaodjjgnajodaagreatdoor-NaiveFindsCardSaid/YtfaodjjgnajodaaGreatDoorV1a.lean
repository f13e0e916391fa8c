/- Calls that were run ahead, printed by program. -/
import Derived.Test.YtfaodjjgnajodaaGreatDoorU1
namespace Go.Proofs.YtfaodjjgnajodaaGreatDoor
open Go Go.Abs
set_option maxRecDepth 100000
/- mandate/sound.Check -/
noncomputable def s16 : Sm := ⟨48, [v54, v3, v43], [(10016, (.row [v69] 9 true)), (10202, (.row [v12] 137 true)), (10055, o19), (10169, o23), (30041, o27), (2, o2)], 90000000000, v3, [(10016, some (.row [v69] 9 true)), (10202, some (.row [v12] 137 true)), (10055, some o19), (10169, some o23), (30041, some o27)], 0⟩
theorem i16 : SmIt Tryz.prog ENV s16 := smIt mixed (n := 3000) cx1 (by kernel_rfl) (by kernel_rfl)
/- mandate/sound.Check -/
noncomputable def s20 : Sm := ⟨48, [v54, v3, v90], [(10016, (.row [v69] 9 true)), (10202, (.row [v12] 137 true)), (10055, o19), (10169, o23), (70106, o14), (70132, o26), (70117, o14), (70130, o14), (2, o2)], 90000000000, v3, [(10016, some (.row [v69] 9 true)), (10202, some (.row [v12] 137 true)), (10055, some o19), (10169, some o23), (70106, some o14), (70132, some o26), (70117, some o14), (70130, some o14)], 0⟩
theorem i20 : SmIt Tryz.prog ENV s20 := smIt mixed (n := 3000) cx1 (by kernel_rfl) (by kernel_rfl)
/- mandate/sound.Check -/
noncomputable def s24 : Sm := ⟨48, [v54, v3, v72], [(10016, (.row [v69] 9 true)), (10202, (.row [v12] 137 true)), (10055, o19), (10169, o23), (110061, o11), (2, o2)], 90000000000, v3, [(10016, some (.row [v69] 9 true)), (10202, some (.row [v12] 137 true)), (10055, some o19), (10169, some o23), (110061, some o11)], 0⟩
theorem i24 : SmIt Tryz.prog ENV s24 := smIt mixed (n := 3000) cx1 (by kernel_rfl) (by kernel_rfl)
/- mandate/sound.Check -/
noncomputable def s28 : Sm := ⟨48, [v54, v3, v2], [(10016, (.row [v69] 9 true)), (10202, (.row [v12] 137 true)), (10055, o19), (10169, o23), (150061, o18), (2, o2)], 90000000000, v3, [(10016, some (.row [v69] 9 true)), (10202, some (.row [v12] 137 true)), (10055, some o19), (10169, some o23), (150061, some o18)], 0⟩
theorem i28 : SmIt Tryz.prog ENV s28 := smIt mixed (n := 3000) cx1 (by kernel_rfl) (by kernel_rfl)
/- mandate/sound.Check -/
noncomputable def s33 : Sm := ⟨48, [v54, v3, v109], [(10016, (.row [v69] 9 true)), (10202, (.row [v12] 137 true)), (10055, o19), (10169, o23), (190142, o0), (190178, o5), (190158, o17), (190176, o21), (2, o2)], 90000000000, v3, [(10016, some (.row [v69] 9 true)), (10202, some (.row [v12] 137 true)), (10055, some o19), (10169, some o23), (190142, some o0), (190178, some o5), (190158, some o17), (190176, some o21)], 0⟩
theorem i33 : SmIt Tryz.prog ENV s33 := smIt mixed (n := 3000) cx1 (by kernel_rfl) (by kernel_rfl)
/- mandate/sound.Check -/
noncomputable def s35 : Sm := ⟨48, [v54, v3, (.agg ⟨[(.int .u8 (.ofNat 1)), (.string ⟨⟨[]⟩⟩), (.string ⟨⟨[]⟩⟩), v3, (.string ⟨⟨[b112]⟩⟩), (.slice (some ⟨230041, 3, none⟩) 1 1267650600228229401496703205376), (.slice none 0 0)]⟩)], [(10016, (.row [v69] 9 true)), (10202, (.row [v12] 137 true)), (10055, o19), (10169, o23), (230041, o12), (2, o2)], 90000000000, v3, [(10016, some (.row [v69] 9 true)), (10202, some (.row [v12] 137 true)), (10055, some o19), (10169, some o23), (230041, some o12)], 0⟩
theorem i35 : SmIt Tryz.prog ENV s35 := smIt mixed (n := 3000) cx1 (by kernel_rfl) (by kernel_rfl)
/- mandate/sound.Check -/
noncomputable def s37 : Sm := ⟨48, [v54, v3, (.agg ⟨[(.int .u8 (.ofNat 1)), (.string ⟨⟨[]⟩⟩), (.string ⟨⟨[]⟩⟩), v3, v5, (.slice (some ⟨250020, 3, none⟩) 1 1267650600228229401496703205376), (.slice (some ⟨250036, 0, none⟩) 2 1267650600228229401496703205376)]⟩)], [(10016, (.row [v69] 9 true)), (10202, (.row [v12] 137 true)), (10055, o19), (10169, o23), (250020, o1), (250036, o28), (250026, o1), (250034, o1), (2, o2)], 90000000000, v3, [(10016, some (.row [v69] 9 true)), (10202, some (.row [v12] 137 true)), (10055, some o19), (10169, some o23), (250020, some o1), (250036, some o28), (250026, some o1), (250034, some o1)], 0⟩
theorem i37 : SmIt Tryz.prog ENV s37 := smIt mixed (n := 3000) cx1 (by kernel_rfl) (by kernel_rfl)
/- mandate/sound.Check -/
noncomputable def s39 : Sm := ⟨48, [v54, v3, (.agg ⟨[(.int .u8 (.ofNat 1)), (.string ⟨⟨[]⟩⟩), (.string ⟨⟨[]⟩⟩), v3, (.string ⟨⟨[b113]⟩⟩), (.slice (some ⟨270024, 3, none⟩) 2 1267650600228229401496703205376), (.slice none 0 0)]⟩)], [(10016, (.row [v69] 9 true)), (10202, (.row [v12] 137 true)), (10055, o19), (10169, o23), (270024, o8), (2, o2)], 90000000000, v3, [(10016, some (.row [v69] 9 true)), (10202, some (.row [v12] 137 true)), (10055, some o19), (10169, some o23), (270024, some o8)], 0⟩
theorem i39 : SmIt Tryz.prog ENV s39 := smIt mixed (n := 3000) cx1 (by kernel_rfl) (by kernel_rfl)
/- mandate/sound.Check -/
noncomputable def s41 : Sm := ⟨48, [v54, v3, (.agg ⟨[(.int .u8 (.ofNat 1)), (.string ⟨⟨[]⟩⟩), (.string ⟨⟨[]⟩⟩), v3, (.string ⟨⟨[b113]⟩⟩), (.slice (some ⟨290020, 3, none⟩) 2 1267650600228229401496703205376), (.slice none 0 0)]⟩)], [(10016, (.row [v69] 9 true)), (10202, (.row [v12] 137 true)), (10055, o19), (10169, o23), (290020, o10), (2, o2)], 90000000000, v3, [(10016, some (.row [v69] 9 true)), (10202, some (.row [v12] 137 true)), (10055, some o19), (10169, some o23), (290020, some o10)], 0⟩
theorem i41 : SmIt Tryz.prog ENV s41 := smIt mixed (n := 3000) cx1 (by kernel_rfl) (by kernel_rfl)
/- mandate/sound.Check -/
noncomputable def s43 : Sm := ⟨48, [v54, v3, (.agg ⟨[(.int .u8 (.ofNat 1)), (.string ⟨⟨[]⟩⟩), (.string ⟨⟨[]⟩⟩), v3, (.string ⟨⟨[b113]⟩⟩), (.slice (some ⟨310020, 3, none⟩) 2 1267650600228229401496703205376), (.slice (some ⟨310036, 0, none⟩) 2 1267650600228229401496703205376)]⟩)], [(10016, (.row [v69] 9 true)), (10202, (.row [v12] 137 true)), (10055, o19), (10169, o23), (310020, o7), (310036, o25), (310026, o22), (310034, o6), (2, o2)], 90000000000, v3, [(10016, some (.row [v69] 9 true)), (10202, some (.row [v12] 137 true)), (10055, some o19), (10169, some o23), (310020, some o7), (310036, some o25), (310026, some o22), (310034, some o6)], 0⟩
theorem i43 : SmIt Tryz.prog ENV s43 := smIt mixed (n := 3000) cx1 (by kernel_rfl) (by kernel_rfl)
/- mandate/lower.Text -/
noncomputable def s45 : Sm := ⟨63, [(.agg ⟨[(.string ⟨⟨[b112]⟩⟩), v32]⟩)], [(330036, o13)], 90000000000, v16, [(330036, some o13)], 0⟩
theorem i45 : SmIt Tryz.prog ENV s45 := smIt mixed (n := 3000) cx1 (by kernel_rfl) (by kernel_rfl)
/- mandate/lower.Text -/
noncomputable def s46 : Sm := ⟨63, [(.agg ⟨[(.string ⟨⟨[b113]⟩⟩), v52]⟩)], [(330082, o4)], 90000000000, v50, [(330082, some o4)], 0⟩
theorem i46 : SmIt Tryz.prog ENV s46 := smIt mixed (n := 3000) cx1 (by kernel_rfl) (by kernel_rfl)
/- mandate/lower.Text -/
noncomputable def s47 : Sm := ⟨63, [(.agg ⟨[(.string ⟨⟨[b113]⟩⟩), v51]⟩)], [(330129, o9)], 90000000000, v17, [(330129, some o9)], 0⟩
theorem i47 : SmIt Tryz.prog ENV s47 := smIt mixed (n := 3000) cx1 (by kernel_rfl) (by kernel_rfl)
/- mandate/lower.Text -/
noncomputable def s48 : Sm := ⟨63, [(.agg ⟨[(.string ⟨⟨[b112]⟩⟩), (.slice (some ⟨330219, 0, none⟩) 2 2)]⟩)], [(330219, o13)], 90000000000, v16, [(330219, some o13)], 0⟩
theorem i48 : SmIt Tryz.prog ENV s48 := smIt mixed (n := 3000) cx1 (by kernel_rfl) (by kernel_rfl)
/- mandate/lower.Text -/
noncomputable def s49 : Sm := ⟨63, [(.agg ⟨[(.string ⟨⟨[b113]⟩⟩), (.slice (some ⟨330263, 0, none⟩) 3 3)]⟩)], [(330263, o4)], 90000000000, v50, [(330263, some o4)], 0⟩
theorem i49 : SmIt Tryz.prog ENV s49 := smIt mixed (n := 3000) cx1 (by kernel_rfl) (by kernel_rfl)
/- mandate/lower.Text -/
noncomputable def s50 : Sm := ⟨63, [(.agg ⟨[(.string ⟨⟨[b113]⟩⟩), (.slice (some ⟨330305, 0, none⟩) 3 3)]⟩)], [(330305, o9)], 90000000000, v17, [(330305, some o9)], 0⟩
theorem i50 : SmIt Tryz.prog ENV s50 := smIt mixed (n := 3000) cx1 (by kernel_rfl) (by kernel_rfl)
/- mandate/lower.Text -/
noncomputable def s51 : Sm := ⟨63, [(.agg ⟨[(.string ⟨⟨[b113]⟩⟩), v76]⟩)], [(330414, o24)], 90000000000, (.tuple ⟨[(.string ⟨⟨[b97, b110, b110, b32, b115, b97, b121, b115, b32, b113, b40, b97, b44, b32, b99, b41]⟩⟩), (.bool true)]⟩), [(330414, some o24)], 0⟩
theorem i51 : SmIt Tryz.prog ENV s51 := smIt mixed (n := 3000) cx1 (by kernel_rfl) (by kernel_rfl)
/- mandate/lower.Text -/
noncomputable def s52 : Sm := ⟨63, [(.agg ⟨[(.string ⟨⟨[b112]⟩⟩), (.slice (some ⟨330519, 0, none⟩) 2 2)]⟩)], [(330519, o13)], 90000000000, v16, [(330519, some o13)], 0⟩
theorem i52 : SmIt Tryz.prog ENV s52 := smIt mixed (n := 3000) cx1 (by kernel_rfl) (by kernel_rfl)
/- mandate/lower.Text -/
noncomputable def s53 : Sm := ⟨63, [(.agg ⟨[(.string ⟨⟨[b113]⟩⟩), (.slice (some ⟨330563, 0, none⟩) 3 3)]⟩)], [(330563, o4)], 90000000000, v50, [(330563, some o4)], 0⟩
theorem i53 : SmIt Tryz.prog ENV s53 := smIt mixed (n := 3000) cx1 (by kernel_rfl) (by kernel_rfl)
/- mandate/lower.Text -/
noncomputable def s54 : Sm := ⟨63, [(.agg ⟨[(.string ⟨⟨[b113]⟩⟩), (.slice (some ⟨330605, 0, none⟩) 3 3)]⟩)], [(330605, o9)], 90000000000, v17, [(330605, some o9)], 0⟩
theorem i54 : SmIt Tryz.prog ENV s54 := smIt mixed (n := 3000) cx1 (by kernel_rfl) (by kernel_rfl)
/- mandate/lower.Text -/
noncomputable def s55 : Sm := ⟨63, [(.agg ⟨[(.string ⟨⟨[b113]⟩⟩), (.slice (some ⟨330714, 0, none⟩) 3 3)]⟩)], [(330714, o24)], 90000000000, (.tuple ⟨[(.string ⟨⟨[b97, b110, b110, b32, b115, b97, b121, b115, b32, b113, b40, b97, b44, b32, b99, b41]⟩⟩), (.bool true)]⟩), [(330714, some o24)], 0⟩
theorem i55 : SmIt Tryz.prog ENV s55 := smIt mixed (n := 3000) cx1 (by kernel_rfl) (by kernel_rfl)
/- mandate/lower.Text -/
noncomputable def s56 : Sm := ⟨63, [(.agg ⟨[v7, (.slice (some ⟨330942, 0, none⟩) 2 2)]⟩)], [(330942, o13)], 90000000000, (.tuple ⟨[(.string ⟨⟨[b97, b110, b110, b32, b115, b97, b121, b115, b32, b98, b97, b100, b40, b97, b41]⟩⟩), (.bool true)]⟩), [(330942, some o13)], 0⟩
theorem i56 : SmIt Tryz.prog ENV s56 := smIt mixed (n := 3000) cx1 (by kernel_rfl) (by kernel_rfl)
/- mandate/lower.Text -/
noncomputable def s57 : Sm := ⟨63, [(.agg ⟨[v5, v98]⟩)], [(330961, o13)], 90000000000, (.tuple ⟨[(.string ⟨⟨[b97, b110, b110, b32, b115, b97, b121, b115, b32, b111, b107, b40, b97, b41]⟩⟩), (.bool true)]⟩), [(330961, some o13)], 0⟩
theorem i57 : SmIt Tryz.prog ENV s57 := smIt mixed (n := 3000) cx1 (by kernel_rfl) (by kernel_rfl)
/- mandate/lower.Text -/
noncomputable def s58 : Sm := ⟨63, [(.agg ⟨[v7, (.slice (some ⟨331048, 0, none⟩) 2 2)]⟩)], [(331048, o13)], 90000000000, (.tuple ⟨[(.string ⟨⟨[b97, b110, b110, b32, b115, b97, b121, b115, b32, b98, b97, b100, b40, b97, b41]⟩⟩), (.bool true)]⟩), [(331048, some o13)], 0⟩
theorem i58 : SmIt Tryz.prog ENV s58 := smIt mixed (n := 3000) cx1 (by kernel_rfl) (by kernel_rfl)
/- mandate/lower.Text -/
noncomputable def s59 : Sm := ⟨63, [(.agg ⟨[v5, (.slice (some ⟨331067, 0, none⟩) 2 2)]⟩)], [(331067, o13)], 90000000000, (.tuple ⟨[(.string ⟨⟨[b97, b110, b110, b32, b115, b97, b121, b115, b32, b111, b107, b40, b97, b41]⟩⟩), (.bool true)]⟩), [(331067, some o13)], 0⟩
theorem i59 : SmIt Tryz.prog ENV s59 := smIt mixed (n := 3000) cx1 (by kernel_rfl) (by kernel_rfl)
/- slices.SortFunc[[]mandate/api.Found,mandate/api.Found] -/
noncomputable def s60 : Sm := ⟨29, [v18, v22], [(331275, (.row [(.string ⟨⟨[b112]⟩⟩), v32, v3, v61, (.string ⟨⟨[b113]⟩⟩), v52, v3, v61, (.string ⟨⟨[b113]⟩⟩), v51, v3, v61, (.string ⟨⟨[b113]⟩⟩), v76, v3, v104, v5, v98, v61, v61] 28 true)), (330036, o13), (330082, o4), (330129, o9), (330414, o24), (330961, o13)], 90000000000, (.tuple ⟨[]⟩), [(331275, some o20), (330036, some o13), (330082, some o4), (330129, some o9), (330414, some o24), (330961, some o13)], 0⟩
theorem i60 : SmIt Tryz.prog ENV s60 := smIt mixed (n := 3000) cx1 (by kernel_rfl) (by kernel_rfl)
/- slices.SortFunc[[]mandate/api.Found,mandate/api.Found] -/
noncomputable def s61 : Sm := ⟨29, [v18, v22], [(331275, (.row [(.string ⟨⟨[b112]⟩⟩), v32, v3, v61, (.string ⟨⟨[b113]⟩⟩), v52, v3, v61, (.string ⟨⟨[b113]⟩⟩), v51, v3, v61, v5, v98, v61, v61, (.string ⟨⟨[b113]⟩⟩), v76, v3, v104] 28 true)), (330036, o13), (330082, o4), (330129, o9), (330961, o13), (330414, o24)], 90000000000, (.tuple ⟨[]⟩), [(331275, some o20), (330036, some o13), (330082, some o4), (330129, some o9), (330961, some o13), (330414, some o24)], 0⟩
theorem i61 : SmIt Tryz.prog ENV s61 := smIt mixed (n := 3000) cx1 (by kernel_rfl) (by kernel_rfl)
/- slices.SortFunc[[]mandate/api.Found,mandate/api.Found] -/
noncomputable def s62 : Sm := ⟨29, [v18, v22], [(331275, (.row [(.string ⟨⟨[b112]⟩⟩), v32, v3, v61, (.string ⟨⟨[b113]⟩⟩), v52, v3, v61, (.string ⟨⟨[b113]⟩⟩), v76, v3, v104, (.string ⟨⟨[b113]⟩⟩), v51, v3, v61, v5, v98, v61, v61] 28 true)), (330036, o13), (330082, o4), (330414, o24), (330129, o9), (330961, o13)], 90000000000, (.tuple ⟨[]⟩), [(331275, some o20), (330036, some o13), (330082, some o4), (330414, some o24), (330129, some o9), (330961, some o13)], 0⟩
theorem i62 : SmIt Tryz.prog ENV s62 := smIt mixed (n := 3000) cx1 (by kernel_rfl) (by kernel_rfl)
/- slices.SortFunc[[]mandate/api.Found,mandate/api.Found] -/
noncomputable def s63 : Sm := ⟨29, [v18, v22], [(331275, (.row [(.string ⟨⟨[b112]⟩⟩), v32, v3, v61, (.string ⟨⟨[b113]⟩⟩), v52, v3, v61, (.string ⟨⟨[b113]⟩⟩), v76, v3, v104, v5, v98, v61, v61, (.string ⟨⟨[b113]⟩⟩), v51, v3, v61] 28 true)), (330036, o13), (330082, o4), (330414, o24), (330961, o13), (330129, o9)], 90000000000, (.tuple ⟨[]⟩), [(331275, some o20), (330036, some o13), (330082, some o4), (330414, some o24), (330961, some o13), (330129, some o9)], 0⟩
theorem i63 : SmIt Tryz.prog ENV s63 := smIt mixed (n := 3000) cx1 (by kernel_rfl) (by kernel_rfl)
/- slices.SortFunc[[]mandate/api.Found,mandate/api.Found] -/
noncomputable def s64 : Sm := ⟨29, [v18, v22], [(331275, (.row [(.string ⟨⟨[b112]⟩⟩), v32, v3, v61, (.string ⟨⟨[b113]⟩⟩), v52, v3, v61, v5, v98, v61, v61, (.string ⟨⟨[b113]⟩⟩), v51, v3, v61, (.string ⟨⟨[b113]⟩⟩), v76, v3, v104] 28 true)), (330036, o13), (330082, o4), (330961, o13), (330129, o9), (330414, o24)], 90000000000, (.tuple ⟨[]⟩), [(331275, some o20), (330036, some o13), (330082, some o4), (330961, some o13), (330129, some o9), (330414, some o24)], 0⟩
theorem i64 : SmIt Tryz.prog ENV s64 := smIt mixed (n := 3000) cx1 (by kernel_rfl) (by kernel_rfl)
/- slices.SortFunc[[]mandate/api.Found,mandate/api.Found] -/
noncomputable def s65 : Sm := ⟨29, [v18, v22], [(331275, (.row [(.string ⟨⟨[b112]⟩⟩), v32, v3, v61, (.string ⟨⟨[b113]⟩⟩), v52, v3, v61, v5, v98, v61, v61, (.string ⟨⟨[b113]⟩⟩), v76, v3, v104, (.string ⟨⟨[b113]⟩⟩), v51, v3, v61] 28 true)), (330036, o13), (330082, o4), (330961, o13), (330414, o24), (330129, o9)], 90000000000, (.tuple ⟨[]⟩), [(331275, some o20), (330036, some o13), (330082, some o4), (330961, some o13), (330414, some o24), (330129, some o9)], 0⟩
theorem i65 : SmIt Tryz.prog ENV s65 := smIt mixed (n := 3000) cx1 (by kernel_rfl) (by kernel_rfl)
/- slices.SortFunc[[]mandate/api.Found,mandate/api.Found] -/
noncomputable def s66 : Sm := ⟨29, [v18, v22], [(331275, (.row [(.string ⟨⟨[b112]⟩⟩), v32, v3, v61, (.string ⟨⟨[b113]⟩⟩), v51, v3, v61, (.string ⟨⟨[b113]⟩⟩), v52, v3, v61, (.string ⟨⟨[b113]⟩⟩), v76, v3, v104, v5, v98, v61, v61] 28 true)), (330036, o13), (330129, o9), (330082, o4), (330414, o24), (330961, o13)], 90000000000, (.tuple ⟨[]⟩), [(331275, some o20), (330036, some o13), (330129, some o9), (330082, some o4), (330414, some o24), (330961, some o13)], 0⟩
theorem i66 : SmIt Tryz.prog ENV s66 := smIt mixed (n := 3000) cx1 (by kernel_rfl) (by kernel_rfl)
/- slices.SortFunc[[]mandate/api.Found,mandate/api.Found] -/
noncomputable def s67 : Sm := ⟨29, [v18, v22], [(331275, (.row [(.string ⟨⟨[b112]⟩⟩), v32, v3, v61, (.string ⟨⟨[b113]⟩⟩), v51, v3, v61, (.string ⟨⟨[b113]⟩⟩), v52, v3, v61, v5, v98, v61, v61, (.string ⟨⟨[b113]⟩⟩), v76, v3, v104] 28 true)), (330036, o13), (330129, o9), (330082, o4), (330961, o13), (330414, o24)], 90000000000, (.tuple ⟨[]⟩), [(331275, some o20), (330036, some o13), (330129, some o9), (330082, some o4), (330961, some o13), (330414, some o24)], 0⟩
theorem i67 : SmIt Tryz.prog ENV s67 := smIt mixed (n := 3000) cx1 (by kernel_rfl) (by kernel_rfl)
/- slices.SortFunc[[]mandate/api.Found,mandate/api.Found] -/
noncomputable def s68 : Sm := ⟨29, [v18, v22], [(331275, (.row [(.string ⟨⟨[b112]⟩⟩), v32, v3, v61, (.string ⟨⟨[b113]⟩⟩), v51, v3, v61, (.string ⟨⟨[b113]⟩⟩), v76, v3, v104, (.string ⟨⟨[b113]⟩⟩), v52, v3, v61, v5, v98, v61, v61] 28 true)), (330036, o13), (330129, o9), (330414, o24), (330082, o4), (330961, o13)], 90000000000, (.tuple ⟨[]⟩), [(331275, some o20), (330036, some o13), (330129, some o9), (330414, some o24), (330082, some o4), (330961, some o13)], 0⟩
theorem i68 : SmIt Tryz.prog ENV s68 := smIt mixed (n := 3000) cx1 (by kernel_rfl) (by kernel_rfl)
/- slices.SortFunc[[]mandate/api.Found,mandate/api.Found] -/
noncomputable def s69 : Sm := ⟨29, [v18, v22], [(331275, (.row [(.string ⟨⟨[b112]⟩⟩), v32, v3, v61, (.string ⟨⟨[b113]⟩⟩), v51, v3, v61, (.string ⟨⟨[b113]⟩⟩), v76, v3, v104, v5, v98, v61, v61, (.string ⟨⟨[b113]⟩⟩), v52, v3, v61] 28 true)), (330036, o13), (330129, o9), (330414, o24), (330961, o13), (330082, o4)], 90000000000, (.tuple ⟨[]⟩), [(331275, some o20), (330036, some o13), (330129, some o9), (330414, some o24), (330961, some o13), (330082, some o4)], 0⟩
theorem i69 : SmIt Tryz.prog ENV s69 := smIt mixed (n := 3000) cx1 (by kernel_rfl) (by kernel_rfl)
/- slices.SortFunc[[]mandate/api.Found,mandate/api.Found] -/
noncomputable def s70 : Sm := ⟨29, [v18, v22], [(331275, (.row [(.string ⟨⟨[b112]⟩⟩), v32, v3, v61, (.string ⟨⟨[b113]⟩⟩), v51, v3, v61, v5, v98, v61, v61, (.string ⟨⟨[b113]⟩⟩), v52, v3, v61, (.string ⟨⟨[b113]⟩⟩), v76, v3, v104] 28 true)), (330036, o13), (330129, o9), (330961, o13), (330082, o4), (330414, o24)], 90000000000, (.tuple ⟨[]⟩), [(331275, some o20), (330036, some o13), (330129, some o9), (330961, some o13), (330082, some o4), (330414, some o24)], 0⟩
theorem i70 : SmIt Tryz.prog ENV s70 := smIt mixed (n := 3000) cx1 (by kernel_rfl) (by kernel_rfl)
/- slices.SortFunc[[]mandate/api.Found,mandate/api.Found] -/
noncomputable def s71 : Sm := ⟨29, [v18, v22], [(331275, (.row [(.string ⟨⟨[b112]⟩⟩), v32, v3, v61, (.string ⟨⟨[b113]⟩⟩), v51, v3, v61, v5, v98, v61, v61, (.string ⟨⟨[b113]⟩⟩), v76, v3, v104, (.string ⟨⟨[b113]⟩⟩), v52, v3, v61] 28 true)), (330036, o13), (330129, o9), (330961, o13), (330414, o24), (330082, o4)], 90000000000, (.tuple ⟨[]⟩), [(331275, some o20), (330036, some o13), (330129, some o9), (330961, some o13), (330414, some o24), (330082, some o4)], 0⟩
theorem i71 : SmIt Tryz.prog ENV s71 := smIt mixed (n := 3000) cx1 (by kernel_rfl) (by kernel_rfl)
/- slices.SortFunc[[]mandate/api.Found,mandate/api.Found] -/
noncomputable def s72 : Sm := ⟨29, [v18, v22], [(331275, (.row [(.string ⟨⟨[b112]⟩⟩), v32, v3, v61, (.string ⟨⟨[b113]⟩⟩), v76, v3, v104, (.string ⟨⟨[b113]⟩⟩), v52, v3, v61, (.string ⟨⟨[b113]⟩⟩), v51, v3, v61, v5, v98, v61, v61] 28 true)), (330036, o13), (330414, o24), (330082, o4), (330129, o9), (330961, o13)], 90000000000, (.tuple ⟨[]⟩), [(331275, some o20), (330036, some o13), (330414, some o24), (330082, some o4), (330129, some o9), (330961, some o13)], 0⟩
theorem i72 : SmIt Tryz.prog ENV s72 := smIt mixed (n := 3000) cx1 (by kernel_rfl) (by kernel_rfl)
/- slices.SortFunc[[]mandate/api.Found,mandate/api.Found] -/
noncomputable def s73 : Sm := ⟨29, [v18, v22], [(331275, (.row [(.string ⟨⟨[b112]⟩⟩), v32, v3, v61, (.string ⟨⟨[b113]⟩⟩), v76, v3, v104, (.string ⟨⟨[b113]⟩⟩), v52, v3, v61, v5, v98, v61, v61, (.string ⟨⟨[b113]⟩⟩), v51, v3, v61] 28 true)), (330036, o13), (330414, o24), (330082, o4), (330961, o13), (330129, o9)], 90000000000, (.tuple ⟨[]⟩), [(331275, some o20), (330036, some o13), (330414, some o24), (330082, some o4), (330961, some o13), (330129, some o9)], 0⟩
theorem i73 : SmIt Tryz.prog ENV s73 := smIt mixed (n := 3000) cx1 (by kernel_rfl) (by kernel_rfl)
/- slices.SortFunc[[]mandate/api.Found,mandate/api.Found] -/
noncomputable def s74 : Sm := ⟨29, [v18, v22], [(331275, (.row [(.string ⟨⟨[b112]⟩⟩), v32, v3, v61, (.string ⟨⟨[b113]⟩⟩), v76, v3, v104, (.string ⟨⟨[b113]⟩⟩), v51, v3, v61, (.string ⟨⟨[b113]⟩⟩), v52, v3, v61, v5, v98, v61, v61] 28 true)), (330036, o13), (330414, o24), (330129, o9), (330082, o4), (330961, o13)], 90000000000, (.tuple ⟨[]⟩), [(331275, some o20), (330036, some o13), (330414, some o24), (330129, some o9), (330082, some o4), (330961, some o13)], 0⟩
theorem i74 : SmIt Tryz.prog ENV s74 := smIt mixed (n := 3000) cx1 (by kernel_rfl) (by kernel_rfl)
/- slices.SortFunc[[]mandate/api.Found,mandate/api.Found] -/
noncomputable def s75 : Sm := ⟨29, [v18, v22], [(331275, (.row [(.string ⟨⟨[b112]⟩⟩), v32, v3, v61, (.string ⟨⟨[b113]⟩⟩), v76, v3, v104, (.string ⟨⟨[b113]⟩⟩), v51, v3, v61, v5, v98, v61, v61, (.string ⟨⟨[b113]⟩⟩), v52, v3, v61] 28 true)), (330036, o13), (330414, o24), (330129, o9), (330961, o13), (330082, o4)], 90000000000, (.tuple ⟨[]⟩), [(331275, some o20), (330036, some o13), (330414, some o24), (330129, some o9), (330961, some o13), (330082, some o4)], 0⟩
theorem i75 : SmIt Tryz.prog ENV s75 := smIt mixed (n := 3000) cx1 (by kernel_rfl) (by kernel_rfl)
/- slices.SortFunc[[]mandate/api.Found,mandate/api.Found] -/
noncomputable def s76 : Sm := ⟨29, [v18, v22], [(331275, (.row [(.string ⟨⟨[b112]⟩⟩), v32, v3, v61, (.string ⟨⟨[b113]⟩⟩), v76, v3, v104, v5, v98, v61, v61, (.string ⟨⟨[b113]⟩⟩), v52, v3, v61, (.string ⟨⟨[b113]⟩⟩), v51, v3, v61] 28 true)), (330036, o13), (330414, o24), (330961, o13), (330082, o4), (330129, o9)], 90000000000, (.tuple ⟨[]⟩), [(331275, some o20), (330036, some o13), (330414, some o24), (330961, some o13), (330082, some o4), (330129, some o9)], 0⟩
theorem i76 : SmIt Tryz.prog ENV s76 := smIt mixed (n := 3000) cx1 (by kernel_rfl) (by kernel_rfl)
/- slices.SortFunc[[]mandate/api.Found,mandate/api.Found] -/
noncomputable def s77 : Sm := ⟨29, [v18, v22], [(331275, (.row [(.string ⟨⟨[b112]⟩⟩), v32, v3, v61, (.string ⟨⟨[b113]⟩⟩), v76, v3, v104, v5, v98, v61, v61, (.string ⟨⟨[b113]⟩⟩), v51, v3, v61, (.string ⟨⟨[b113]⟩⟩), v52, v3, v61] 28 true)), (330036, o13), (330414, o24), (330961, o13), (330129, o9), (330082, o4)], 90000000000, (.tuple ⟨[]⟩), [(331275, some o20), (330036, some o13), (330414, some o24), (330961, some o13), (330129, some o9), (330082, some o4)], 0⟩
theorem i77 : SmIt Tryz.prog ENV s77 := smIt mixed (n := 3000) cx1 (by kernel_rfl) (by kernel_rfl)
/- slices.SortFunc[[]mandate/api.Found,mandate/api.Found] -/
noncomputable def s78 : Sm := ⟨29, [v18, v22], [(331275, (.row [(.string ⟨⟨[b112]⟩⟩), v32, v3, v61, v5, v98, v61, v61, (.string ⟨⟨[b113]⟩⟩), v52, v3, v61, (.string ⟨⟨[b113]⟩⟩), v51, v3, v61, (.string ⟨⟨[b113]⟩⟩), v76, v3, v104] 28 true)), (330036, o13), (330961, o13), (330082, o4), (330129, o9), (330414, o24)], 90000000000, (.tuple ⟨[]⟩), [(331275, some o20), (330036, some o13), (330961, some o13), (330082, some o4), (330129, some o9), (330414, some o24)], 0⟩
theorem i78 : SmIt Tryz.prog ENV s78 := smIt mixed (n := 3000) cx1 (by kernel_rfl) (by kernel_rfl)
/- slices.SortFunc[[]mandate/api.Found,mandate/api.Found] -/
noncomputable def s79 : Sm := ⟨29, [v18, v22], [(331275, (.row [(.string ⟨⟨[b112]⟩⟩), v32, v3, v61, v5, v98, v61, v61, (.string ⟨⟨[b113]⟩⟩), v52, v3, v61, (.string ⟨⟨[b113]⟩⟩), v76, v3, v104, (.string ⟨⟨[b113]⟩⟩), v51, v3, v61] 28 true)), (330036, o13), (330961, o13), (330082, o4), (330414, o24), (330129, o9)], 90000000000, (.tuple ⟨[]⟩), [(331275, some o20), (330036, some o13), (330961, some o13), (330082, some o4), (330414, some o24), (330129, some o9)], 0⟩
theorem i79 : SmIt Tryz.prog ENV s79 := smIt mixed (n := 3000) cx1 (by kernel_rfl) (by kernel_rfl)
/- slices.SortFunc[[]mandate/api.Found,mandate/api.Found] -/
noncomputable def s80 : Sm := ⟨29, [v18, v22], [(331275, (.row [(.string ⟨⟨[b112]⟩⟩), v32, v3, v61, v5, v98, v61, v61, (.string ⟨⟨[b113]⟩⟩), v51, v3, v61, (.string ⟨⟨[b113]⟩⟩), v52, v3, v61, (.string ⟨⟨[b113]⟩⟩), v76, v3, v104] 28 true)), (330036, o13), (330961, o13), (330129, o9), (330082, o4), (330414, o24)], 90000000000, (.tuple ⟨[]⟩), [(331275, some o20), (330036, some o13), (330961, some o13), (330129, some o9), (330082, some o4), (330414, some o24)], 0⟩
theorem i80 : SmIt Tryz.prog ENV s80 := smIt mixed (n := 3000) cx1 (by kernel_rfl) (by kernel_rfl)
/- slices.SortFunc[[]mandate/api.Found,mandate/api.Found] -/
noncomputable def s81 : Sm := ⟨29, [v18, v22], [(331275, (.row [(.string ⟨⟨[b112]⟩⟩), v32, v3, v61, v5, v98, v61, v61, (.string ⟨⟨[b113]⟩⟩), v51, v3, v61, (.string ⟨⟨[b113]⟩⟩), v76, v3, v104, (.string ⟨⟨[b113]⟩⟩), v52, v3, v61] 28 true)), (330036, o13), (330961, o13), (330129, o9), (330414, o24), (330082, o4)], 90000000000, (.tuple ⟨[]⟩), [(331275, some o20), (330036, some o13), (330961, some o13), (330129, some o9), (330414, some o24), (330082, some o4)], 0⟩
theorem i81 : SmIt Tryz.prog ENV s81 := smIt mixed (n := 3000) cx1 (by kernel_rfl) (by kernel_rfl)
/- slices.SortFunc[[]mandate/api.Found,mandate/api.Found] -/
noncomputable def s82 : Sm := ⟨29, [v18, v22], [(331275, (.row [(.string ⟨⟨[b112]⟩⟩), v32, v3, v61, v5, v98, v61, v61, (.string ⟨⟨[b113]⟩⟩), v76, v3, v104, (.string ⟨⟨[b113]⟩⟩), v52, v3, v61, (.string ⟨⟨[b113]⟩⟩), v51, v3, v61] 28 true)), (330036, o13), (330961, o13), (330414, o24), (330082, o4), (330129, o9)], 90000000000, (.tuple ⟨[]⟩), [(331275, some o20), (330036, some o13), (330961, some o13), (330414, some o24), (330082, some o4), (330129, some o9)], 0⟩
theorem i82 : SmIt Tryz.prog ENV s82 := smIt mixed (n := 3000) cx1 (by kernel_rfl) (by kernel_rfl)
/- slices.SortFunc[[]mandate/api.Found,mandate/api.Found] -/
noncomputable def s83 : Sm := ⟨29, [v18, v22], [(331275, (.row [(.string ⟨⟨[b112]⟩⟩), v32, v3, v61, v5, v98, v61, v61, (.string ⟨⟨[b113]⟩⟩), v76, v3, v104, (.string ⟨⟨[b113]⟩⟩), v51, v3, v61, (.string ⟨⟨[b113]⟩⟩), v52, v3, v61] 28 true)), (330036, o13), (330961, o13), (330414, o24), (330129, o9), (330082, o4)], 90000000000, (.tuple ⟨[]⟩), [(331275, some o20), (330036, some o13), (330961, some o13), (330414, some o24), (330129, some o9), (330082, some o4)], 0⟩
theorem i83 : SmIt Tryz.prog ENV s83 := smIt mixed (n := 3000) cx1 (by kernel_rfl) (by kernel_rfl)
/- slices.SortFunc[[]mandate/api.Found,mandate/api.Found] -/
noncomputable def s84 : Sm := ⟨29, [v18, v22], [(331275, (.row [(.string ⟨⟨[b113]⟩⟩), v52, v3, v61, (.string ⟨⟨[b112]⟩⟩), v32, v3, v61, (.string ⟨⟨[b113]⟩⟩), v51, v3, v61, (.string ⟨⟨[b113]⟩⟩), v76, v3, v104, v5, v98, v61, v61] 28 true)), (330082, o4), (330036, o13), (330129, o9), (330414, o24), (330961, o13)], 90000000000, (.tuple ⟨[]⟩), [(331275, some o20), (330082, some o4), (330036, some o13), (330129, some o9), (330414, some o24), (330961, some o13)], 0⟩
theorem i84 : SmIt Tryz.prog ENV s84 := smIt mixed (n := 3000) cx1 (by kernel_rfl) (by kernel_rfl)
/- slices.SortFunc[[]mandate/api.Found,mandate/api.Found] -/
noncomputable def s85 : Sm := ⟨29, [v18, v22], [(331275, (.row [(.string ⟨⟨[b113]⟩⟩), v52, v3, v61, (.string ⟨⟨[b112]⟩⟩), v32, v3, v61, (.string ⟨⟨[b113]⟩⟩), v51, v3, v61, v5, v98, v61, v61, (.string ⟨⟨[b113]⟩⟩), v76, v3, v104] 28 true)), (330082, o4), (330036, o13), (330129, o9), (330961, o13), (330414, o24)], 90000000000, (.tuple ⟨[]⟩), [(331275, some o20), (330082, some o4), (330036, some o13), (330129, some o9), (330961, some o13), (330414, some o24)], 0⟩
theorem i85 : SmIt Tryz.prog ENV s85 := smIt mixed (n := 3000) cx1 (by kernel_rfl) (by kernel_rfl)
/- slices.SortFunc[[]mandate/api.Found,mandate/api.Found] -/
noncomputable def s86 : Sm := ⟨29, [v18, v22], [(331275, (.row [(.string ⟨⟨[b113]⟩⟩), v52, v3, v61, (.string ⟨⟨[b112]⟩⟩), v32, v3, v61, (.string ⟨⟨[b113]⟩⟩), v76, v3, v104, (.string ⟨⟨[b113]⟩⟩), v51, v3, v61, v5, v98, v61, v61] 28 true)), (330082, o4), (330036, o13), (330414, o24), (330129, o9), (330961, o13)], 90000000000, (.tuple ⟨[]⟩), [(331275, some o20), (330082, some o4), (330036, some o13), (330414, some o24), (330129, some o9), (330961, some o13)], 0⟩
theorem i86 : SmIt Tryz.prog ENV s86 := smIt mixed (n := 3000) cx1 (by kernel_rfl) (by kernel_rfl)
/- slices.SortFunc[[]mandate/api.Found,mandate/api.Found] -/
noncomputable def s87 : Sm := ⟨29, [v18, v22], [(331275, (.row [(.string ⟨⟨[b113]⟩⟩), v52, v3, v61, (.string ⟨⟨[b112]⟩⟩), v32, v3, v61, (.string ⟨⟨[b113]⟩⟩), v76, v3, v104, v5, v98, v61, v61, (.string ⟨⟨[b113]⟩⟩), v51, v3, v61] 28 true)), (330082, o4), (330036, o13), (330414, o24), (330961, o13), (330129, o9)], 90000000000, (.tuple ⟨[]⟩), [(331275, some o20), (330082, some o4), (330036, some o13), (330414, some o24), (330961, some o13), (330129, some o9)], 0⟩
theorem i87 : SmIt Tryz.prog ENV s87 := smIt mixed (n := 3000) cx1 (by kernel_rfl) (by kernel_rfl)
/- slices.SortFunc[[]mandate/api.Found,mandate/api.Found] -/
noncomputable def s88 : Sm := ⟨29, [v18, v22], [(331275, (.row [(.string ⟨⟨[b113]⟩⟩), v52, v3, v61, (.string ⟨⟨[b112]⟩⟩), v32, v3, v61, v5, v98, v61, v61, (.string ⟨⟨[b113]⟩⟩), v51, v3, v61, (.string ⟨⟨[b113]⟩⟩), v76, v3, v104] 28 true)), (330082, o4), (330036, o13), (330961, o13), (330129, o9), (330414, o24)], 90000000000, (.tuple ⟨[]⟩), [(331275, some o20), (330082, some o4), (330036, some o13), (330961, some o13), (330129, some o9), (330414, some o24)], 0⟩
theorem i88 : SmIt Tryz.prog ENV s88 := smIt mixed (n := 3000) cx1 (by kernel_rfl) (by kernel_rfl)
/- slices.SortFunc[[]mandate/api.Found,mandate/api.Found] -/
noncomputable def s89 : Sm := ⟨29, [v18, v22], [(331275, (.row [(.string ⟨⟨[b113]⟩⟩), v52, v3, v61, (.string ⟨⟨[b112]⟩⟩), v32, v3, v61, v5, v98, v61, v61, (.string ⟨⟨[b113]⟩⟩), v76, v3, v104, (.string ⟨⟨[b113]⟩⟩), v51, v3, v61] 28 true)), (330082, o4), (330036, o13), (330961, o13), (330414, o24), (330129, o9)], 90000000000, (.tuple ⟨[]⟩), [(331275, some o20), (330082, some o4), (330036, some o13), (330961, some o13), (330414, some o24), (330129, some o9)], 0⟩
theorem i89 : SmIt Tryz.prog ENV s89 := smIt mixed (n := 3000) cx1 (by kernel_rfl) (by kernel_rfl)
/- slices.SortFunc[[]mandate/api.Found,mandate/api.Found] -/
noncomputable def s90 : Sm := ⟨29, [v18, v22], [(331275, (.row [(.string ⟨⟨[b113]⟩⟩), v52, v3, v61, (.string ⟨⟨[b113]⟩⟩), v51, v3, v61, (.string ⟨⟨[b112]⟩⟩), v32, v3, v61, (.string ⟨⟨[b113]⟩⟩), v76, v3, v104, v5, v98, v61, v61] 28 true)), (330082, o4), (330129, o9), (330036, o13), (330414, o24), (330961, o13)], 90000000000, (.tuple ⟨[]⟩), [(331275, some o20), (330082, some o4), (330129, some o9), (330036, some o13), (330414, some o24), (330961, some o13)], 0⟩
theorem i90 : SmIt Tryz.prog ENV s90 := smIt mixed (n := 3000) cx1 (by kernel_rfl) (by kernel_rfl)
/- slices.SortFunc[[]mandate/api.Found,mandate/api.Found] -/
noncomputable def s91 : Sm := ⟨29, [v18, v22], [(331275, (.row [(.string ⟨⟨[b113]⟩⟩), v52, v3, v61, (.string ⟨⟨[b113]⟩⟩), v51, v3, v61, (.string ⟨⟨[b112]⟩⟩), v32, v3, v61, v5, v98, v61, v61, (.string ⟨⟨[b113]⟩⟩), v76, v3, v104] 28 true)), (330082, o4), (330129, o9), (330036, o13), (330961, o13), (330414, o24)], 90000000000, (.tuple ⟨[]⟩), [(331275, some o20), (330082, some o4), (330129, some o9), (330036, some o13), (330961, some o13), (330414, some o24)], 0⟩
theorem i91 : SmIt Tryz.prog ENV s91 := smIt mixed (n := 3000) cx1 (by kernel_rfl) (by kernel_rfl)
/- slices.SortFunc[[]mandate/api.Found,mandate/api.Found] -/
noncomputable def s92 : Sm := ⟨29, [v18, v22], [(331275, (.row [(.string ⟨⟨[b113]⟩⟩), v52, v3, v61, (.string ⟨⟨[b113]⟩⟩), v51, v3, v61, (.string ⟨⟨[b113]⟩⟩), v76, v3, v104, (.string ⟨⟨[b112]⟩⟩), v32, v3, v61, v5, v98, v61, v61] 28 true)), (330082, o4), (330129, o9), (330414, o24), (330036, o13), (330961, o13)], 90000000000, (.tuple ⟨[]⟩), [(331275, some o20), (330082, some o4), (330129, some o9), (330414, some o24), (330036, some o13), (330961, some o13)], 0⟩
theorem i92 : SmIt Tryz.prog ENV s92 := smIt mixed (n := 3000) cx1 (by kernel_rfl) (by kernel_rfl)
/- slices.SortFunc[[]mandate/api.Found,mandate/api.Found] -/
noncomputable def s93 : Sm := ⟨29, [v18, v22], [(331275, (.row [(.string ⟨⟨[b113]⟩⟩), v52, v3, v61, (.string ⟨⟨[b113]⟩⟩), v51, v3, v61, (.string ⟨⟨[b113]⟩⟩), v76, v3, v104, v5, v98, v61, v61, (.string ⟨⟨[b112]⟩⟩), v32, v3, v61] 28 true)), (330082, o4), (330129, o9), (330414, o24), (330961, o13), (330036, o13)], 90000000000, (.tuple ⟨[]⟩), [(331275, some o20), (330082, some o4), (330129, some o9), (330414, some o24), (330961, some o13), (330036, some o13)], 0⟩
theorem i93 : SmIt Tryz.prog ENV s93 := smIt mixed (n := 3000) cx1 (by kernel_rfl) (by kernel_rfl)
/- slices.SortFunc[[]mandate/api.Found,mandate/api.Found] -/
noncomputable def s94 : Sm := ⟨29, [v18, v22], [(331275, (.row [(.string ⟨⟨[b113]⟩⟩), v52, v3, v61, (.string ⟨⟨[b113]⟩⟩), v51, v3, v61, v5, v98, v61, v61, (.string ⟨⟨[b112]⟩⟩), v32, v3, v61, (.string ⟨⟨[b113]⟩⟩), v76, v3, v104] 28 true)), (330082, o4), (330129, o9), (330961, o13), (330036, o13), (330414, o24)], 90000000000, (.tuple ⟨[]⟩), [(331275, some o20), (330082, some o4), (330129, some o9), (330961, some o13), (330036, some o13), (330414, some o24)], 0⟩
theorem i94 : SmIt Tryz.prog ENV s94 := smIt mixed (n := 3000) cx1 (by kernel_rfl) (by kernel_rfl)
/- slices.SortFunc[[]mandate/api.Found,mandate/api.Found] -/
noncomputable def s95 : Sm := ⟨29, [v18, v22], [(331275, (.row [(.string ⟨⟨[b113]⟩⟩), v52, v3, v61, (.string ⟨⟨[b113]⟩⟩), v51, v3, v61, v5, v98, v61, v61, (.string ⟨⟨[b113]⟩⟩), v76, v3, v104, (.string ⟨⟨[b112]⟩⟩), v32, v3, v61] 28 true)), (330082, o4), (330129, o9), (330961, o13), (330414, o24), (330036, o13)], 90000000000, (.tuple ⟨[]⟩), [(331275, some o20), (330082, some o4), (330129, some o9), (330961, some o13), (330414, some o24), (330036, some o13)], 0⟩
theorem i95 : SmIt Tryz.prog ENV s95 := smIt mixed (n := 3000) cx1 (by kernel_rfl) (by kernel_rfl)
/- slices.SortFunc[[]mandate/api.Found,mandate/api.Found] -/
noncomputable def s96 : Sm := ⟨29, [v18, v22], [(331275, (.row [(.string ⟨⟨[b113]⟩⟩), v52, v3, v61, (.string ⟨⟨[b113]⟩⟩), v76, v3, v104, (.string ⟨⟨[b112]⟩⟩), v32, v3, v61, (.string ⟨⟨[b113]⟩⟩), v51, v3, v61, v5, v98, v61, v61] 28 true)), (330082, o4), (330414, o24), (330036, o13), (330129, o9), (330961, o13)], 90000000000, (.tuple ⟨[]⟩), [(331275, some o20), (330082, some o4), (330414, some o24), (330036, some o13), (330129, some o9), (330961, some o13)], 0⟩
theorem i96 : SmIt Tryz.prog ENV s96 := smIt mixed (n := 3000) cx1 (by kernel_rfl) (by kernel_rfl)
/- slices.SortFunc[[]mandate/api.Found,mandate/api.Found] -/
noncomputable def s97 : Sm := ⟨29, [v18, v22], [(331275, (.row [(.string ⟨⟨[b113]⟩⟩), v52, v3, v61, (.string ⟨⟨[b113]⟩⟩), v76, v3, v104, (.string ⟨⟨[b112]⟩⟩), v32, v3, v61, v5, v98, v61, v61, (.string ⟨⟨[b113]⟩⟩), v51, v3, v61] 28 true)), (330082, o4), (330414, o24), (330036, o13), (330961, o13), (330129, o9)], 90000000000, (.tuple ⟨[]⟩), [(331275, some o20), (330082, some o4), (330414, some o24), (330036, some o13), (330961, some o13), (330129, some o9)], 0⟩
theorem i97 : SmIt Tryz.prog ENV s97 := smIt mixed (n := 3000) cx1 (by kernel_rfl) (by kernel_rfl)
/- slices.SortFunc[[]mandate/api.Found,mandate/api.Found] -/
noncomputable def s98 : Sm := ⟨29, [v18, v22], [(331275, (.row [(.string ⟨⟨[b113]⟩⟩), v52, v3, v61, (.string ⟨⟨[b113]⟩⟩), v76, v3, v104, (.string ⟨⟨[b113]⟩⟩), v51, v3, v61, (.string ⟨⟨[b112]⟩⟩), v32, v3, v61, v5, v98, v61, v61] 28 true)), (330082, o4), (330414, o24), (330129, o9), (330036, o13), (330961, o13)], 90000000000, (.tuple ⟨[]⟩), [(331275, some o20), (330082, some o4), (330414, some o24), (330129, some o9), (330036, some o13), (330961, some o13)], 0⟩
theorem i98 : SmIt Tryz.prog ENV s98 := smIt mixed (n := 3000) cx1 (by kernel_rfl) (by kernel_rfl)
/- slices.SortFunc[[]mandate/api.Found,mandate/api.Found] -/
noncomputable def s99 : Sm := ⟨29, [v18, v22], [(331275, (.row [(.string ⟨⟨[b113]⟩⟩), v52, v3, v61, (.string ⟨⟨[b113]⟩⟩), v76, v3, v104, (.string ⟨⟨[b113]⟩⟩), v51, v3, v61, v5, v98, v61, v61, (.string ⟨⟨[b112]⟩⟩), v32, v3, v61] 28 true)), (330082, o4), (330414, o24), (330129, o9), (330961, o13), (330036, o13)], 90000000000, (.tuple ⟨[]⟩), [(331275, some o20), (330082, some o4), (330414, some o24), (330129, some o9), (330961, some o13), (330036, some o13)], 0⟩
theorem i99 : SmIt Tryz.prog ENV s99 := smIt mixed (n := 3000) cx1 (by kernel_rfl) (by kernel_rfl)
/- slices.SortFunc[[]mandate/api.Found,mandate/api.Found] -/
noncomputable def s100 : Sm := ⟨29, [v18, v22], [(331275, (.row [(.string ⟨⟨[b113]⟩⟩), v52, v3, v61, (.string ⟨⟨[b113]⟩⟩), v76, v3, v104, v5, v98, v61, v61, (.string ⟨⟨[b112]⟩⟩), v32, v3, v61, (.string ⟨⟨[b113]⟩⟩), v51, v3, v61] 28 true)), (330082, o4), (330414, o24), (330961, o13), (330036, o13), (330129, o9)], 90000000000, (.tuple ⟨[]⟩), [(331275, some o20), (330082, some o4), (330414, some o24), (330961, some o13), (330036, some o13), (330129, some o9)], 0⟩
theorem i100 : SmIt Tryz.prog ENV s100 := smIt mixed (n := 3000) cx1 (by kernel_rfl) (by kernel_rfl)
/- slices.SortFunc[[]mandate/api.Found,mandate/api.Found] -/
noncomputable def s101 : Sm := ⟨29, [v18, v22], [(331275, (.row [(.string ⟨⟨[b113]⟩⟩), v52, v3, v61, (.string ⟨⟨[b113]⟩⟩), v76, v3, v104, v5, v98, v61, v61, (.string ⟨⟨[b113]⟩⟩), v51, v3, v61, (.string ⟨⟨[b112]⟩⟩), v32, v3, v61] 28 true)), (330082, o4), (330414, o24), (330961, o13), (330129, o9), (330036, o13)], 90000000000, (.tuple ⟨[]⟩), [(331275, some o20), (330082, some o4), (330414, some o24), (330961, some o13), (330129, some o9), (330036, some o13)], 0⟩
theorem i101 : SmIt Tryz.prog ENV s101 := smIt mixed (n := 3000) cx1 (by kernel_rfl) (by kernel_rfl)
/- slices.SortFunc[[]mandate/api.Found,mandate/api.Found] -/
noncomputable def s102 : Sm := ⟨29, [v18, v22], [(331275, (.row [(.string ⟨⟨[b113]⟩⟩), v52, v3, v61, v5, v98, v61, v61, (.string ⟨⟨[b112]⟩⟩), v32, v3, v61, (.string ⟨⟨[b113]⟩⟩), v51, v3, v61, (.string ⟨⟨[b113]⟩⟩), v76, v3, v104] 28 true)), (330082, o4), (330961, o13), (330036, o13), (330129, o9), (330414, o24)], 90000000000, (.tuple ⟨[]⟩), [(331275, some o20), (330082, some o4), (330961, some o13), (330036, some o13), (330129, some o9), (330414, some o24)], 0⟩
theorem i102 : SmIt Tryz.prog ENV s102 := smIt mixed (n := 3000) cx1 (by kernel_rfl) (by kernel_rfl)
/- slices.SortFunc[[]mandate/api.Found,mandate/api.Found] -/
noncomputable def s103 : Sm := ⟨29, [v18, v22], [(331275, (.row [(.string ⟨⟨[b113]⟩⟩), v52, v3, v61, v5, v98, v61, v61, (.string ⟨⟨[b112]⟩⟩), v32, v3, v61, (.string ⟨⟨[b113]⟩⟩), v76, v3, v104, (.string ⟨⟨[b113]⟩⟩), v51, v3, v61] 28 true)), (330082, o4), (330961, o13), (330036, o13), (330414, o24), (330129, o9)], 90000000000, (.tuple ⟨[]⟩), [(331275, some o20), (330082, some o4), (330961, some o13), (330036, some o13), (330414, some o24), (330129, some o9)], 0⟩
theorem i103 : SmIt Tryz.prog ENV s103 := smIt mixed (n := 3000) cx1 (by kernel_rfl) (by kernel_rfl)
/- slices.SortFunc[[]mandate/api.Found,mandate/api.Found] -/
noncomputable def s104 : Sm := ⟨29, [v18, v22], [(331275, (.row [(.string ⟨⟨[b113]⟩⟩), v52, v3, v61, v5, v98, v61, v61, (.string ⟨⟨[b113]⟩⟩), v51, v3, v61, (.string ⟨⟨[b112]⟩⟩), v32, v3, v61, (.string ⟨⟨[b113]⟩⟩), v76, v3, v104] 28 true)), (330082, o4), (330961, o13), (330129, o9), (330036, o13), (330414, o24)], 90000000000, (.tuple ⟨[]⟩), [(331275, some o20), (330082, some o4), (330961, some o13), (330129, some o9), (330036, some o13), (330414, some o24)], 0⟩
theorem i104 : SmIt Tryz.prog ENV s104 := smIt mixed (n := 3000) cx1 (by kernel_rfl) (by kernel_rfl)
/- slices.SortFunc[[]mandate/api.Found,mandate/api.Found] -/
noncomputable def s105 : Sm := ⟨29, [v18, v22], [(331275, (.row [(.string ⟨⟨[b113]⟩⟩), v52, v3, v61, v5, v98, v61, v61, (.string ⟨⟨[b113]⟩⟩), v51, v3, v61, (.string ⟨⟨[b113]⟩⟩), v76, v3, v104, (.string ⟨⟨[b112]⟩⟩), v32, v3, v61] 28 true)), (330082, o4), (330961, o13), (330129, o9), (330414, o24), (330036, o13)], 90000000000, (.tuple ⟨[]⟩), [(331275, some o20), (330082, some o4), (330961, some o13), (330129, some o9), (330414, some o24), (330036, some o13)], 0⟩
theorem i105 : SmIt Tryz.prog ENV s105 := smIt mixed (n := 3000) cx1 (by kernel_rfl) (by kernel_rfl)
/- slices.SortFunc[[]mandate/api.Found,mandate/api.Found] -/
noncomputable def s106 : Sm := ⟨29, [v18, v22], [(331275, (.row [(.string ⟨⟨[b113]⟩⟩), v52, v3, v61, v5, v98, v61, v61, (.string ⟨⟨[b113]⟩⟩), v76, v3, v104, (.string ⟨⟨[b112]⟩⟩), v32, v3, v61, (.string ⟨⟨[b113]⟩⟩), v51, v3, v61] 28 true)), (330082, o4), (330961, o13), (330414, o24), (330036, o13), (330129, o9)], 90000000000, (.tuple ⟨[]⟩), [(331275, some o20), (330082, some o4), (330961, some o13), (330414, some o24), (330036, some o13), (330129, some o9)], 0⟩
theorem i106 : SmIt Tryz.prog ENV s106 := smIt mixed (n := 3000) cx1 (by kernel_rfl) (by kernel_rfl)
/- slices.SortFunc[[]mandate/api.Found,mandate/api.Found] -/
noncomputable def s107 : Sm := ⟨29, [v18, v22], [(331275, (.row [(.string ⟨⟨[b113]⟩⟩), v52, v3, v61, v5, v98, v61, v61, (.string ⟨⟨[b113]⟩⟩), v76, v3, v104, (.string ⟨⟨[b113]⟩⟩), v51, v3, v61, (.string ⟨⟨[b112]⟩⟩), v32, v3, v61] 28 true)), (330082, o4), (330961, o13), (330414, o24), (330129, o9), (330036, o13)], 90000000000, (.tuple ⟨[]⟩), [(331275, some o20), (330082, some o4), (330961, some o13), (330414, some o24), (330129, some o9), (330036, some o13)], 0⟩
theorem i107 : SmIt Tryz.prog ENV s107 := smIt mixed (n := 3000) cx1 (by kernel_rfl) (by kernel_rfl)
/- slices.SortFunc[[]mandate/api.Found,mandate/api.Found] -/
noncomputable def s108 : Sm := ⟨29, [v18, v22], [(331275, (.row [(.string ⟨⟨[b113]⟩⟩), v51, v3, v61, (.string ⟨⟨[b112]⟩⟩), v32, v3, v61, (.string ⟨⟨[b113]⟩⟩), v52, v3, v61, (.string ⟨⟨[b113]⟩⟩), v76, v3, v104, v5, v98, v61, v61] 28 true)), (330129, o9), (330036, o13), (330082, o4), (330414, o24), (330961, o13)], 90000000000, (.tuple ⟨[]⟩), [(331275, some o20), (330129, some o9), (330036, some o13), (330082, some o4), (330414, some o24), (330961, some o13)], 0⟩
theorem i108 : SmIt Tryz.prog ENV s108 := smIt mixed (n := 3000) cx1 (by kernel_rfl) (by kernel_rfl)
/- slices.SortFunc[[]mandate/api.Found,mandate/api.Found] -/
noncomputable def s109 : Sm := ⟨29, [v18, v22], [(331275, (.row [(.string ⟨⟨[b113]⟩⟩), v51, v3, v61, (.string ⟨⟨[b112]⟩⟩), v32, v3, v61, (.string ⟨⟨[b113]⟩⟩), v52, v3, v61, v5, v98, v61, v61, (.string ⟨⟨[b113]⟩⟩), v76, v3, v104] 28 true)), (330129, o9), (330036, o13), (330082, o4), (330961, o13), (330414, o24)], 90000000000, (.tuple ⟨[]⟩), [(331275, some o20), (330129, some o9), (330036, some o13), (330082, some o4), (330961, some o13), (330414, some o24)], 0⟩
theorem i109 : SmIt Tryz.prog ENV s109 := smIt mixed (n := 3000) cx1 (by kernel_rfl) (by kernel_rfl)
/- slices.SortFunc[[]mandate/api.Found,mandate/api.Found] -/
noncomputable def s110 : Sm := ⟨29, [v18, v22], [(331275, (.row [(.string ⟨⟨[b113]⟩⟩), v51, v3, v61, (.string ⟨⟨[b112]⟩⟩), v32, v3, v61, (.string ⟨⟨[b113]⟩⟩), v76, v3, v104, (.string ⟨⟨[b113]⟩⟩), v52, v3, v61, v5, v98, v61, v61] 28 true)), (330129, o9), (330036, o13), (330414, o24), (330082, o4), (330961, o13)], 90000000000, (.tuple ⟨[]⟩), [(331275, some o20), (330129, some o9), (330036, some o13), (330414, some o24), (330082, some o4), (330961, some o13)], 0⟩
theorem i110 : SmIt Tryz.prog ENV s110 := smIt mixed (n := 3000) cx1 (by kernel_rfl) (by kernel_rfl)
/- slices.SortFunc[[]mandate/api.Found,mandate/api.Found] -/
noncomputable def s111 : Sm := ⟨29, [v18, v22], [(331275, (.row [(.string ⟨⟨[b113]⟩⟩), v51, v3, v61, (.string ⟨⟨[b112]⟩⟩), v32, v3, v61, (.string ⟨⟨[b113]⟩⟩), v76, v3, v104, v5, v98, v61, v61, (.string ⟨⟨[b113]⟩⟩), v52, v3, v61] 28 true)), (330129, o9), (330036, o13), (330414, o24), (330961, o13), (330082, o4)], 90000000000, (.tuple ⟨[]⟩), [(331275, some o20), (330129, some o9), (330036, some o13), (330414, some o24), (330961, some o13), (330082, some o4)], 0⟩
theorem i111 : SmIt Tryz.prog ENV s111 := smIt mixed (n := 3000) cx1 (by kernel_rfl) (by kernel_rfl)
/- slices.SortFunc[[]mandate/api.Found,mandate/api.Found] -/
noncomputable def s112 : Sm := ⟨29, [v18, v22], [(331275, (.row [(.string ⟨⟨[b113]⟩⟩), v51, v3, v61, (.string ⟨⟨[b112]⟩⟩), v32, v3, v61, v5, v98, v61, v61, (.string ⟨⟨[b113]⟩⟩), v52, v3, v61, (.string ⟨⟨[b113]⟩⟩), v76, v3, v104] 28 true)), (330129, o9), (330036, o13), (330961, o13), (330082, o4), (330414, o24)], 90000000000, (.tuple ⟨[]⟩), [(331275, some o20), (330129, some o9), (330036, some o13), (330961, some o13), (330082, some o4), (330414, some o24)], 0⟩
theorem i112 : SmIt Tryz.prog ENV s112 := smIt mixed (n := 3000) cx1 (by kernel_rfl) (by kernel_rfl)
/- slices.SortFunc[[]mandate/api.Found,mandate/api.Found] -/
noncomputable def s113 : Sm := ⟨29, [v18, v22], [(331275, (.row [(.string ⟨⟨[b113]⟩⟩), v51, v3, v61, (.string ⟨⟨[b112]⟩⟩), v32, v3, v61, v5, v98, v61, v61, (.string ⟨⟨[b113]⟩⟩), v76, v3, v104, (.string ⟨⟨[b113]⟩⟩), v52, v3, v61] 28 true)), (330129, o9), (330036, o13), (330961, o13), (330414, o24), (330082, o4)], 90000000000, (.tuple ⟨[]⟩), [(331275, some o20), (330129, some o9), (330036, some o13), (330961, some o13), (330414, some o24), (330082, some o4)], 0⟩
theorem i113 : SmIt Tryz.prog ENV s113 := smIt mixed (n := 3000) cx1 (by kernel_rfl) (by kernel_rfl)
/- slices.SortFunc[[]mandate/api.Found,mandate/api.Found] -/
noncomputable def s114 : Sm := ⟨29, [v18, v22], [(331275, (.row [(.string ⟨⟨[b113]⟩⟩), v51, v3, v61, (.string ⟨⟨[b113]⟩⟩), v52, v3, v61, (.string ⟨⟨[b112]⟩⟩), v32, v3, v61, (.string ⟨⟨[b113]⟩⟩), v76, v3, v104, v5, v98, v61, v61] 28 true)), (330129, o9), (330082, o4), (330036, o13), (330414, o24), (330961, o13)], 90000000000, (.tuple ⟨[]⟩), [(331275, some o20), (330129, some o9), (330082, some o4), (330036, some o13), (330414, some o24), (330961, some o13)], 0⟩
theorem i114 : SmIt Tryz.prog ENV s114 := smIt mixed (n := 3000) cx1 (by kernel_rfl) (by kernel_rfl)
/- slices.SortFunc[[]mandate/api.Found,mandate/api.Found] -/
noncomputable def s115 : Sm := ⟨29, [v18, v22], [(331275, (.row [(.string ⟨⟨[b113]⟩⟩), v51, v3, v61, (.string ⟨⟨[b113]⟩⟩), v52, v3, v61, (.string ⟨⟨[b112]⟩⟩), v32, v3, v61, v5, v98, v61, v61, (.string ⟨⟨[b113]⟩⟩), v76, v3, v104] 28 true)), (330129, o9), (330082, o4), (330036, o13), (330961, o13), (330414, o24)], 90000000000, (.tuple ⟨[]⟩), [(331275, some o20), (330129, some o9), (330082, some o4), (330036, some o13), (330961, some o13), (330414, some o24)], 0⟩
theorem i115 : SmIt Tryz.prog ENV s115 := smIt mixed (n := 3000) cx1 (by kernel_rfl) (by kernel_rfl)
/- slices.SortFunc[[]mandate/api.Found,mandate/api.Found] -/
noncomputable def s116 : Sm := ⟨29, [v18, v22], [(331275, (.row [(.string ⟨⟨[b113]⟩⟩), v51, v3, v61, (.string ⟨⟨[b113]⟩⟩), v52, v3, v61, (.string ⟨⟨[b113]⟩⟩), v76, v3, v104, (.string ⟨⟨[b112]⟩⟩), v32, v3, v61, v5, v98, v61, v61] 28 true)), (330129, o9), (330082, o4), (330414, o24), (330036, o13), (330961, o13)], 90000000000, (.tuple ⟨[]⟩), [(331275, some o20), (330129, some o9), (330082, some o4), (330414, some o24), (330036, some o13), (330961, some o13)], 0⟩
theorem i116 : SmIt Tryz.prog ENV s116 := smIt mixed (n := 3000) cx1 (by kernel_rfl) (by kernel_rfl)
/- slices.SortFunc[[]mandate/api.Found,mandate/api.Found] -/
noncomputable def s117 : Sm := ⟨29, [v18, v22], [(331275, (.row [(.string ⟨⟨[b113]⟩⟩), v51, v3, v61, (.string ⟨⟨[b113]⟩⟩), v52, v3, v61, (.string ⟨⟨[b113]⟩⟩), v76, v3, v104, v5, v98, v61, v61, (.string ⟨⟨[b112]⟩⟩), v32, v3, v61] 28 true)), (330129, o9), (330082, o4), (330414, o24), (330961, o13), (330036, o13)], 90000000000, (.tuple ⟨[]⟩), [(331275, some o20), (330129, some o9), (330082, some o4), (330414, some o24), (330961, some o13), (330036, some o13)], 0⟩
theorem i117 : SmIt Tryz.prog ENV s117 := smIt mixed (n := 3000) cx1 (by kernel_rfl) (by kernel_rfl)
/- slices.SortFunc[[]mandate/api.Found,mandate/api.Found] -/
noncomputable def s118 : Sm := ⟨29, [v18, v22], [(331275, (.row [(.string ⟨⟨[b113]⟩⟩), v51, v3, v61, (.string ⟨⟨[b113]⟩⟩), v52, v3, v61, v5, v98, v61, v61, (.string ⟨⟨[b112]⟩⟩), v32, v3, v61, (.string ⟨⟨[b113]⟩⟩), v76, v3, v104] 28 true)), (330129, o9), (330082, o4), (330961, o13), (330036, o13), (330414, o24)], 90000000000, (.tuple ⟨[]⟩), [(331275, some o20), (330129, some o9), (330082, some o4), (330961, some o13), (330036, some o13), (330414, some o24)], 0⟩
theorem i118 : SmIt Tryz.prog ENV s118 := smIt mixed (n := 3000) cx1 (by kernel_rfl) (by kernel_rfl)
/- slices.SortFunc[[]mandate/api.Found,mandate/api.Found] -/
noncomputable def s119 : Sm := ⟨29, [v18, v22], [(331275, (.row [(.string ⟨⟨[b113]⟩⟩), v51, v3, v61, (.string ⟨⟨[b113]⟩⟩), v52, v3, v61, v5, v98, v61, v61, (.string ⟨⟨[b113]⟩⟩), v76, v3, v104, (.string ⟨⟨[b112]⟩⟩), v32, v3, v61] 28 true)), (330129, o9), (330082, o4), (330961, o13), (330414, o24), (330036, o13)], 90000000000, (.tuple ⟨[]⟩), [(331275, some o20), (330129, some o9), (330082, some o4), (330961, some o13), (330414, some o24), (330036, some o13)], 0⟩
theorem i119 : SmIt Tryz.prog ENV s119 := smIt mixed (n := 3000) cx1 (by kernel_rfl) (by kernel_rfl)
/- slices.SortFunc[[]mandate/api.Found,mandate/api.Found] -/
noncomputable def s120 : Sm := ⟨29, [v18, v22], [(331275, (.row [(.string ⟨⟨[b113]⟩⟩), v51, v3, v61, (.string ⟨⟨[b113]⟩⟩), v76, v3, v104, (.string ⟨⟨[b112]⟩⟩), v32, v3, v61, (.string ⟨⟨[b113]⟩⟩), v52, v3, v61, v5, v98, v61, v61] 28 true)), (330129, o9), (330414, o24), (330036, o13), (330082, o4), (330961, o13)], 90000000000, (.tuple ⟨[]⟩), [(331275, some o20), (330129, some o9), (330414, some o24), (330036, some o13), (330082, some o4), (330961, some o13)], 0⟩
theorem i120 : SmIt Tryz.prog ENV s120 := smIt mixed (n := 3000) cx1 (by kernel_rfl) (by kernel_rfl)
/- slices.SortFunc[[]mandate/api.Found,mandate/api.Found] -/
noncomputable def s121 : Sm := ⟨29, [v18, v22], [(331275, (.row [(.string ⟨⟨[b113]⟩⟩), v51, v3, v61, (.string ⟨⟨[b113]⟩⟩), v76, v3, v104, (.string ⟨⟨[b112]⟩⟩), v32, v3, v61, v5, v98, v61, v61, (.string ⟨⟨[b113]⟩⟩), v52, v3, v61] 28 true)), (330129, o9), (330414, o24), (330036, o13), (330961, o13), (330082, o4)], 90000000000, (.tuple ⟨[]⟩), [(331275, some o20), (330129, some o9), (330414, some o24), (330036, some o13), (330961, some o13), (330082, some o4)], 0⟩
theorem i121 : SmIt Tryz.prog ENV s121 := smIt mixed (n := 3000) cx1 (by kernel_rfl) (by kernel_rfl)
/- slices.SortFunc[[]mandate/api.Found,mandate/api.Found] -/
noncomputable def s122 : Sm := ⟨29, [v18, v22], [(331275, (.row [(.string ⟨⟨[b113]⟩⟩), v51, v3, v61, (.string ⟨⟨[b113]⟩⟩), v76, v3, v104, (.string ⟨⟨[b113]⟩⟩), v52, v3, v61, (.string ⟨⟨[b112]⟩⟩), v32, v3, v61, v5, v98, v61, v61] 28 true)), (330129, o9), (330414, o24), (330082, o4), (330036, o13), (330961, o13)], 90000000000, (.tuple ⟨[]⟩), [(331275, some o20), (330129, some o9), (330414, some o24), (330082, some o4), (330036, some o13), (330961, some o13)], 0⟩
theorem i122 : SmIt Tryz.prog ENV s122 := smIt mixed (n := 3000) cx1 (by kernel_rfl) (by kernel_rfl)
/- slices.SortFunc[[]mandate/api.Found,mandate/api.Found] -/
noncomputable def s123 : Sm := ⟨29, [v18, v22], [(331275, (.row [(.string ⟨⟨[b113]⟩⟩), v51, v3, v61, (.string ⟨⟨[b113]⟩⟩), v76, v3, v104, (.string ⟨⟨[b113]⟩⟩), v52, v3, v61, v5, v98, v61, v61, (.string ⟨⟨[b112]⟩⟩), v32, v3, v61] 28 true)), (330129, o9), (330414, o24), (330082, o4), (330961, o13), (330036, o13)], 90000000000, (.tuple ⟨[]⟩), [(331275, some o20), (330129, some o9), (330414, some o24), (330082, some o4), (330961, some o13), (330036, some o13)], 0⟩
theorem i123 : SmIt Tryz.prog ENV s123 := smIt mixed (n := 3000) cx1 (by kernel_rfl) (by kernel_rfl)
/- slices.SortFunc[[]mandate/api.Found,mandate/api.Found] -/
noncomputable def s124 : Sm := ⟨29, [v18, v22], [(331275, (.row [(.string ⟨⟨[b113]⟩⟩), v51, v3, v61, (.string ⟨⟨[b113]⟩⟩), v76, v3, v104, v5, v98, v61, v61, (.string ⟨⟨[b112]⟩⟩), v32, v3, v61, (.string ⟨⟨[b113]⟩⟩), v52, v3, v61] 28 true)), (330129, o9), (330414, o24), (330961, o13), (330036, o13), (330082, o4)], 90000000000, (.tuple ⟨[]⟩), [(331275, some o20), (330129, some o9), (330414, some o24), (330961, some o13), (330036, some o13), (330082, some o4)], 0⟩
theorem i124 : SmIt Tryz.prog ENV s124 := smIt mixed (n := 3000) cx1 (by kernel_rfl) (by kernel_rfl)
/- slices.SortFunc[[]mandate/api.Found,mandate/api.Found] -/
noncomputable def s125 : Sm := ⟨29, [v18, v22], [(331275, (.row [(.string ⟨⟨[b113]⟩⟩), v51, v3, v61, (.string ⟨⟨[b113]⟩⟩), v76, v3, v104, v5, v98, v61, v61, (.string ⟨⟨[b113]⟩⟩), v52, v3, v61, (.string ⟨⟨[b112]⟩⟩), v32, v3, v61] 28 true)), (330129, o9), (330414, o24), (330961, o13), (330082, o4), (330036, o13)], 90000000000, (.tuple ⟨[]⟩), [(331275, some o20), (330129, some o9), (330414, some o24), (330961, some o13), (330082, some o4), (330036, some o13)], 0⟩
theorem i125 : SmIt Tryz.prog ENV s125 := smIt mixed (n := 3000) cx1 (by kernel_rfl) (by kernel_rfl)
/- slices.SortFunc[[]mandate/api.Found,mandate/api.Found] -/
noncomputable def s126 : Sm := ⟨29, [v18, v22], [(331275, (.row [(.string ⟨⟨[b113]⟩⟩), v51, v3, v61, v5, v98, v61, v61, (.string ⟨⟨[b112]⟩⟩), v32, v3, v61, (.string ⟨⟨[b113]⟩⟩), v52, v3, v61, (.string ⟨⟨[b113]⟩⟩), v76, v3, v104] 28 true)), (330129, o9), (330961, o13), (330036, o13), (330082, o4), (330414, o24)], 90000000000, (.tuple ⟨[]⟩), [(331275, some o20), (330129, some o9), (330961, some o13), (330036, some o13), (330082, some o4), (330414, some o24)], 0⟩
theorem i126 : SmIt Tryz.prog ENV s126 := smIt mixed (n := 3000) cx1 (by kernel_rfl) (by kernel_rfl)
/- slices.SortFunc[[]mandate/api.Found,mandate/api.Found] -/
noncomputable def s127 : Sm := ⟨29, [v18, v22], [(331275, (.row [(.string ⟨⟨[b113]⟩⟩), v51, v3, v61, v5, v98, v61, v61, (.string ⟨⟨[b112]⟩⟩), v32, v3, v61, (.string ⟨⟨[b113]⟩⟩), v76, v3, v104, (.string ⟨⟨[b113]⟩⟩), v52, v3, v61] 28 true)), (330129, o9), (330961, o13), (330036, o13), (330414, o24), (330082, o4)], 90000000000, (.tuple ⟨[]⟩), [(331275, some o20), (330129, some o9), (330961, some o13), (330036, some o13), (330414, some o24), (330082, some o4)], 0⟩
theorem i127 : SmIt Tryz.prog ENV s127 := smIt mixed (n := 3000) cx1 (by kernel_rfl) (by kernel_rfl)
/- slices.SortFunc[[]mandate/api.Found,mandate/api.Found] -/
noncomputable def s128 : Sm := ⟨29, [v18, v22], [(331275, (.row [(.string ⟨⟨[b113]⟩⟩), v51, v3, v61, v5, v98, v61, v61, (.string ⟨⟨[b113]⟩⟩), v52, v3, v61, (.string ⟨⟨[b112]⟩⟩), v32, v3, v61, (.string ⟨⟨[b113]⟩⟩), v76, v3, v104] 28 true)), (330129, o9), (330961, o13), (330082, o4), (330036, o13), (330414, o24)], 90000000000, (.tuple ⟨[]⟩), [(331275, some o20), (330129, some o9), (330961, some o13), (330082, some o4), (330036, some o13), (330414, some o24)], 0⟩
theorem i128 : SmIt Tryz.prog ENV s128 := smIt mixed (n := 3000) cx1 (by kernel_rfl) (by kernel_rfl)
/- slices.SortFunc[[]mandate/api.Found,mandate/api.Found] -/
noncomputable def s129 : Sm := ⟨29, [v18, v22], [(331275, (.row [(.string ⟨⟨[b113]⟩⟩), v51, v3, v61, v5, v98, v61, v61, (.string ⟨⟨[b113]⟩⟩), v52, v3, v61, (.string ⟨⟨[b113]⟩⟩), v76, v3, v104, (.string ⟨⟨[b112]⟩⟩), v32, v3, v61] 28 true)), (330129, o9), (330961, o13), (330082, o4), (330414, o24), (330036, o13)], 90000000000, (.tuple ⟨[]⟩), [(331275, some o20), (330129, some o9), (330961, some o13), (330082, some o4), (330414, some o24), (330036, some o13)], 0⟩
theorem i129 : SmIt Tryz.prog ENV s129 := smIt mixed (n := 3000) cx1 (by kernel_rfl) (by kernel_rfl)
/- slices.SortFunc[[]mandate/api.Found,mandate/api.Found] -/
noncomputable def s130 : Sm := ⟨29, [v18, v22], [(331275, (.row [(.string ⟨⟨[b113]⟩⟩), v51, v3, v61, v5, v98, v61, v61, (.string ⟨⟨[b113]⟩⟩), v76, v3, v104, (.string ⟨⟨[b112]⟩⟩), v32, v3, v61, (.string ⟨⟨[b113]⟩⟩), v52, v3, v61] 28 true)), (330129, o9), (330961, o13), (330414, o24), (330036, o13), (330082, o4)], 90000000000, (.tuple ⟨[]⟩), [(331275, some o20), (330129, some o9), (330961, some o13), (330414, some o24), (330036, some o13), (330082, some o4)], 0⟩
theorem i130 : SmIt Tryz.prog ENV s130 := smIt mixed (n := 3000) cx1 (by kernel_rfl) (by kernel_rfl)
/- slices.SortFunc[[]mandate/api.Found,mandate/api.Found] -/
noncomputable def s131 : Sm := ⟨29, [v18, v22], [(331275, (.row [(.string ⟨⟨[b113]⟩⟩), v51, v3, v61, v5, v98, v61, v61, (.string ⟨⟨[b113]⟩⟩), v76, v3, v104, (.string ⟨⟨[b113]⟩⟩), v52, v3, v61, (.string ⟨⟨[b112]⟩⟩), v32, v3, v61] 28 true)), (330129, o9), (330961, o13), (330414, o24), (330082, o4), (330036, o13)], 90000000000, (.tuple ⟨[]⟩), [(331275, some o20), (330129, some o9), (330961, some o13), (330414, some o24), (330082, some o4), (330036, some o13)], 0⟩
theorem i131 : SmIt Tryz.prog ENV s131 := smIt mixed (n := 3000) cx1 (by kernel_rfl) (by kernel_rfl)
/- slices.SortFunc[[]mandate/api.Found,mandate/api.Found] -/
noncomputable def s132 : Sm := ⟨29, [v18, v22], [(331275, (.row [(.string ⟨⟨[b113]⟩⟩), v76, v3, v104, (.string ⟨⟨[b112]⟩⟩), v32, v3, v61, (.string ⟨⟨[b113]⟩⟩), v52, v3, v61, (.string ⟨⟨[b113]⟩⟩), v51, v3, v61, v5, v98, v61, v61] 28 true)), (330414, o24), (330036, o13), (330082, o4), (330129, o9), (330961, o13)], 90000000000, (.tuple ⟨[]⟩), [(331275, some o20), (330414, some o24), (330036, some o13), (330082, some o4), (330129, some o9), (330961, some o13)], 0⟩
theorem i132 : SmIt Tryz.prog ENV s132 := smIt mixed (n := 3000) cx1 (by kernel_rfl) (by kernel_rfl)
end Go.Proofs.YtfaodjjgnajodaaGreatDoor
