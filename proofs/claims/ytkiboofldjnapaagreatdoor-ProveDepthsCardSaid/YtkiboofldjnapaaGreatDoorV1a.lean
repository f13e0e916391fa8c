/- Calls that were run ahead, printed by program. -/
import Derived.Test.YtkiboofldjnapaaGreatDoorU1
namespace Go.Proofs.YtkiboofldjnapaaGreatDoor
open Go Go.Abs
set_option maxRecDepth 100000
/- mandate/sound.Check -/
noncomputable def s13 : Sm := ⟨25, [v44, v2, v82], [(10016, (.row [v29] 9 true)), (10152, (.row [v13] 135 true)), (10035, o3), (10119, o1), (30041, o9), (2, o12)], 90000000000, v2, [(10016, some (.row [v29] 9 true)), (10152, some (.row [v13] 135 true)), (10035, some o3), (10119, some o1), (30041, some o9)], 0⟩
theorem i13 : SmIt Tryz.prog ENV s13 := smIt mixed (n := 3000) cx1 (by kernel_rfl) (by kernel_rfl)
/- mandate/sound.Check -/
noncomputable def s17 : Sm := ⟨25, [v44, v2, v12], [(10016, (.row [v29] 9 true)), (10152, (.row [v13] 135 true)), (10035, o3), (10119, o1), (70041, o13), (2, o12)], 90000000000, v2, [(10016, some (.row [v29] 9 true)), (10152, some (.row [v13] 135 true)), (10035, some o3), (10119, some o1), (70041, some o13)], 0⟩
theorem i17 : SmIt Tryz.prog ENV s17 := smIt mixed (n := 3000) cx1 (by kernel_rfl) (by kernel_rfl)
/- mandate/sound.Check -/
noncomputable def s21 : Sm := ⟨25, [v44, v2, v41], [(10016, (.row [v29] 9 true)), (10152, (.row [v13] 135 true)), (10035, o3), (10119, o1), (110106, o10), (110132, o4), (110117, o10), (110130, o10), (2, o12)], 90000000000, v2, [(10016, some (.row [v29] 9 true)), (10152, some (.row [v13] 135 true)), (10035, some o3), (10119, some o1), (110106, some o10), (110132, some o4), (110117, some o10), (110130, some o10)], 0⟩
theorem i21 : SmIt Tryz.prog ENV s21 := smIt mixed (n := 3000) cx1 (by kernel_rfl) (by kernel_rfl)
/- mandate/sound.Check -/
noncomputable def s23 : Sm := ⟨25, [v44, v2, (.agg ⟨[(.int .u8 (.ofNat 1)), (.string ⟨⟨[]⟩⟩), (.string ⟨⟨[]⟩⟩), v2, (.string ⟨⟨[b112]⟩⟩), (.slice (some ⟨60000010035, 3, none⟩) 1 1267650600228229401496703205376), (.slice none 0 0)]⟩)], [(10016, (.row [v29] 9 true)), (10152, (.row [v13] 135 true)), (10035, o3), (10119, o1), (60000010035, o11), (2, o12)], 90000000000, v2, [(10016, some (.row [v29] 9 true)), (10152, some (.row [v13] 135 true)), (10035, some o3), (10119, some o1), (60000010035, some o11)], 0⟩
theorem i23 : SmIt Tryz.prog ENV s23 := smIt mixed (n := 3000) cx1 (by kernel_rfl) (by kernel_rfl)
/- mandate/sound.Check -/
noncomputable def s25 : Sm := ⟨25, [v44, v2, (.agg ⟨[(.int .u8 (.ofNat 1)), (.string ⟨⟨[]⟩⟩), (.string ⟨⟨[]⟩⟩), v2, (.string ⟨⟨[b112]⟩⟩), (.slice (some ⟨60000030020, 3, none⟩) 1 1267650600228229401496703205376), (.slice none 0 0)]⟩)], [(10016, (.row [v29] 9 true)), (10152, (.row [v13] 135 true)), (10035, o3), (10119, o1), (60000030020, o14), (2, o12)], 90000000000, v2, [(10016, some (.row [v29] 9 true)), (10152, some (.row [v13] 135 true)), (10035, some o3), (10119, some o1), (60000030020, some o14)], 0⟩
theorem i25 : SmIt Tryz.prog ENV s25 := smIt mixed (n := 3000) cx1 (by kernel_rfl) (by kernel_rfl)
/- mandate/sound.Check -/
noncomputable def s27 : Sm := ⟨25, [v44, v2, (.agg ⟨[(.int .u8 (.ofNat 1)), (.string ⟨⟨[]⟩⟩), (.string ⟨⟨[]⟩⟩), v2, v3, (.slice (some ⟨60000050020, 3, none⟩) 1 1267650600228229401496703205376), (.slice (some ⟨60000050036, 0, none⟩) 2 1267650600228229401496703205376)]⟩)], [(10016, (.row [v29] 9 true)), (10152, (.row [v13] 135 true)), (10035, o3), (10119, o1), (60000050020, o7), (60000050036, o2), (60000050026, o7), (60000050034, o7), (2, o12)], 90000000000, v2, [(10016, some (.row [v29] 9 true)), (10152, some (.row [v13] 135 true)), (10035, some o3), (10119, some o1), (60000050020, some o7), (60000050036, some o2), (60000050026, some o7), (60000050034, some o7)], 0⟩
theorem i27 : SmIt Tryz.prog ENV s27 := smIt mixed (n := 3000) cx1 (by kernel_rfl) (by kernel_rfl)
/- mandate/lower.Text -/
noncomputable def s29 : Sm := ⟨84, [v49], [(60000070036, o5)], 90000000000, (.tuple ⟨[(.string ⟨⟨[b97, b110, b110, b32, b115, b97, b121, b115, b32, b112, b40, b97, b41]⟩⟩), (.bool true)]⟩), [(60000070036, some o5)], 0⟩
theorem i29 : SmIt Tryz.prog ENV s29 := smIt mixed (n := 3000) cx1 (by kernel_rfl) (by kernel_rfl)
/- mandate/lower.Text -/
noncomputable def s30 : Sm := ⟨84, [(.agg ⟨[(.string ⟨⟨[b112]⟩⟩), v32]⟩)], [(60000070074, o0)], 90000000000, (.tuple ⟨[(.string ⟨⟨[b97, b110, b110, b32, b115, b97, b121, b115, b32, b112, b40, b98, b41]⟩⟩), (.bool true)]⟩), [(60000070074, some o0)], 0⟩
theorem i30 : SmIt Tryz.prog ENV s30 := smIt mixed (n := 3000) cx1 (by kernel_rfl) (by kernel_rfl)
/- mandate/value.Order -/
noncomputable def s31 : Sm := ⟨75, [(.agg ⟨[(.string ⟨⟨[b112]⟩⟩), v32]⟩), v49], [(60000070074, o0), (60000070036, o5)], 90000000000, v16, [(60000070074, some o0), (60000070036, some o5)], 0⟩
theorem i31 : SmIt Tryz.prog ENV s31 := smIt mixed (n := 3000) cx1 (by kernel_rfl) (by kernel_rfl)
/- mandate/lower.Text -/
noncomputable def s32 : Sm := ⟨84, [(.agg ⟨[(.string ⟨⟨[b112]⟩⟩), (.slice (some ⟨60000070128, 0, none⟩) 2 2)]⟩)], [(60000070128, o5)], 90000000000, (.tuple ⟨[(.string ⟨⟨[b97, b110, b110, b32, b115, b97, b121, b115, b32, b112, b40, b97, b41]⟩⟩), (.bool true)]⟩), [(60000070128, some o5)], 0⟩
theorem i32 : SmIt Tryz.prog ENV s32 := smIt mixed (n := 3000) cx1 (by kernel_rfl) (by kernel_rfl)
/- mandate/lower.Text -/
noncomputable def s33 : Sm := ⟨84, [(.agg ⟨[(.string ⟨⟨[b112]⟩⟩), (.slice (some ⟨60000070164, 0, none⟩) 2 2)]⟩)], [(60000070164, o0)], 90000000000, (.tuple ⟨[(.string ⟨⟨[b97, b110, b110, b32, b115, b97, b121, b115, b32, b112, b40, b98, b41]⟩⟩), (.bool true)]⟩), [(60000070164, some o0)], 0⟩
theorem i33 : SmIt Tryz.prog ENV s33 := smIt mixed (n := 3000) cx1 (by kernel_rfl) (by kernel_rfl)
/- mandate/lower.Text -/
noncomputable def s34 : Sm := ⟨84, [(.agg ⟨[v6, (.slice (some ⟨60000070238, 0, none⟩) 2 2)]⟩)], [(60000070238, o5)], 90000000000, v57, [(60000070238, some o5)], 0⟩
theorem i34 : SmIt Tryz.prog ENV s34 := smIt mixed (n := 3000) cx1 (by kernel_rfl) (by kernel_rfl)
/- mandate/lower.Text -/
noncomputable def s35 : Sm := ⟨84, [v62], [(60000070257, o5)], 90000000000, v19, [(60000070257, some o5)], 0⟩
theorem i35 : SmIt Tryz.prog ENV s35 := smIt mixed (n := 3000) cx1 (by kernel_rfl) (by kernel_rfl)
/- mandate/lower.Text -/
noncomputable def s36 : Sm := ⟨84, [(.agg ⟨[v6, (.slice (some ⟨60000070294, 0, none⟩) 2 2)]⟩)], [(60000070294, o0)], 90000000000, (.tuple ⟨[(.string ⟨⟨[b97, b110, b110, b32, b115, b97, b121, b115, b32, b98, b97, b100, b40, b98, b41]⟩⟩), (.bool true)]⟩), [(60000070294, some o0)], 0⟩
theorem i36 : SmIt Tryz.prog ENV s36 := smIt mixed (n := 3000) cx1 (by kernel_rfl) (by kernel_rfl)
/- mandate/lower.Text -/
noncomputable def s37 : Sm := ⟨84, [(.agg ⟨[v3, v25]⟩)], [(60000070313, o0)], 90000000000, (.tuple ⟨[(.string ⟨⟨[b97, b110, b110, b32, b115, b97, b121, b115, b32, b111, b107, b40, b98, b41]⟩⟩), (.bool true)]⟩), [(60000070313, some o0)], 0⟩
theorem i37 : SmIt Tryz.prog ENV s37 := smIt mixed (n := 3000) cx1 (by kernel_rfl) (by kernel_rfl)
/- mandate/value.Order -/
noncomputable def s38 : Sm := ⟨75, [(.agg ⟨[v3, v25]⟩), v62], [(60000070313, o0), (60000070257, o5)], 90000000000, v16, [(60000070313, some o0), (60000070257, some o5)], 0⟩
theorem i38 : SmIt Tryz.prog ENV s38 := smIt mixed (n := 3000) cx1 (by kernel_rfl) (by kernel_rfl)
/- mandate/lower.Text -/
noncomputable def s39 : Sm := ⟨84, [(.agg ⟨[v6, (.slice (some ⟨60000070393, 0, none⟩) 2 2)]⟩)], [(60000070393, o5)], 90000000000, v57, [(60000070393, some o5)], 0⟩
theorem i39 : SmIt Tryz.prog ENV s39 := smIt mixed (n := 3000) cx1 (by kernel_rfl) (by kernel_rfl)
/- mandate/lower.Text -/
noncomputable def s40 : Sm := ⟨84, [(.agg ⟨[v3, (.slice (some ⟨60000070412, 0, none⟩) 2 2)]⟩)], [(60000070412, o5)], 90000000000, v19, [(60000070412, some o5)], 0⟩
theorem i40 : SmIt Tryz.prog ENV s40 := smIt mixed (n := 3000) cx1 (by kernel_rfl) (by kernel_rfl)
/- mandate/lower.Text -/
noncomputable def s41 : Sm := ⟨84, [(.agg ⟨[v6, (.slice (some ⟨60000070447, 0, none⟩) 2 2)]⟩)], [(60000070447, o0)], 90000000000, (.tuple ⟨[(.string ⟨⟨[b97, b110, b110, b32, b115, b97, b121, b115, b32, b98, b97, b100, b40, b98, b41]⟩⟩), (.bool true)]⟩), [(60000070447, some o0)], 0⟩
theorem i41 : SmIt Tryz.prog ENV s41 := smIt mixed (n := 3000) cx1 (by kernel_rfl) (by kernel_rfl)
/- mandate/lower.Text -/
noncomputable def s42 : Sm := ⟨84, [(.agg ⟨[v3, (.slice (some ⟨60000070466, 0, none⟩) 2 2)]⟩)], [(60000070466, o0)], 90000000000, (.tuple ⟨[(.string ⟨⟨[b97, b110, b110, b32, b115, b97, b121, b115, b32, b111, b107, b40, b98, b41]⟩⟩), (.bool true)]⟩), [(60000070466, some o0)], 0⟩
theorem i42 : SmIt Tryz.prog ENV s42 := smIt mixed (n := 3000) cx1 (by kernel_rfl) (by kernel_rfl)
/- slices.SortFunc[[]mandate/api.Found,mandate/api.Found] -/
noncomputable def s43 : Sm := ⟨76, [v37, v88], [(60000070584, (.row [(.string ⟨⟨[b112]⟩⟩), v60, v2, v16, (.string ⟨⟨[b112]⟩⟩), v32, v2, v16, v3, v70, v16, v16, v3, v25, v16, v16] 105 true)), (60000070036, o5), (60000070074, o0), (60000070257, o5), (60000070313, o0)], 90000000000, (.tuple ⟨[]⟩), [(60000070584, some o15), (60000070036, some o5), (60000070074, some o0), (60000070257, some o5), (60000070313, some o0)], 0⟩
theorem i43 : SmIt Tryz.prog ENV s43 := smIt mixed (n := 3000) cx1 (by kernel_rfl) (by kernel_rfl)
/- slices.SortFunc[[]mandate/api.Found,mandate/api.Found] -/
noncomputable def s44 : Sm := ⟨76, [v37, v88], [(60000070584, (.row [(.string ⟨⟨[b112]⟩⟩), v60, v2, v16, (.string ⟨⟨[b112]⟩⟩), v32, v2, v16, v3, v25, v16, v16, v3, v70, v16, v16] 105 true)), (60000070036, o5), (60000070074, o0), (60000070313, o0), (60000070257, o5)], 90000000000, (.tuple ⟨[]⟩), [(60000070584, some o15), (60000070036, some o5), (60000070074, some o0), (60000070313, some o0), (60000070257, some o5)], 0⟩
theorem i44 : SmIt Tryz.prog ENV s44 := smIt mixed (n := 3000) cx1 (by kernel_rfl) (by kernel_rfl)
/- slices.SortFunc[[]mandate/api.Found,mandate/api.Found] -/
noncomputable def s45 : Sm := ⟨76, [v37, v88], [(60000070584, (.row [(.string ⟨⟨[b112]⟩⟩), v60, v2, v16, v3, v70, v16, v16, (.string ⟨⟨[b112]⟩⟩), v32, v2, v16, v3, v25, v16, v16] 105 true)), (60000070036, o5), (60000070257, o5), (60000070074, o0), (60000070313, o0)], 90000000000, (.tuple ⟨[]⟩), [(60000070584, some o15), (60000070036, some o5), (60000070257, some o5), (60000070074, some o0), (60000070313, some o0)], 0⟩
theorem i45 : SmIt Tryz.prog ENV s45 := smIt mixed (n := 3000) cx1 (by kernel_rfl) (by kernel_rfl)
/- slices.SortFunc[[]mandate/api.Found,mandate/api.Found] -/
noncomputable def s46 : Sm := ⟨76, [v37, v88], [(60000070584, (.row [(.string ⟨⟨[b112]⟩⟩), v60, v2, v16, v3, v70, v16, v16, v3, v25, v16, v16, (.string ⟨⟨[b112]⟩⟩), v32, v2, v16] 105 true)), (60000070036, o5), (60000070257, o5), (60000070313, o0), (60000070074, o0)], 90000000000, (.tuple ⟨[]⟩), [(60000070584, some o15), (60000070036, some o5), (60000070257, some o5), (60000070313, some o0), (60000070074, some o0)], 0⟩
theorem i46 : SmIt Tryz.prog ENV s46 := smIt mixed (n := 3000) cx1 (by kernel_rfl) (by kernel_rfl)
/- slices.SortFunc[[]mandate/api.Found,mandate/api.Found] -/
noncomputable def s47 : Sm := ⟨76, [v37, v88], [(60000070584, (.row [(.string ⟨⟨[b112]⟩⟩), v60, v2, v16, v3, v25, v16, v16, (.string ⟨⟨[b112]⟩⟩), v32, v2, v16, v3, v70, v16, v16] 105 true)), (60000070036, o5), (60000070313, o0), (60000070074, o0), (60000070257, o5)], 90000000000, (.tuple ⟨[]⟩), [(60000070584, some o15), (60000070036, some o5), (60000070313, some o0), (60000070074, some o0), (60000070257, some o5)], 0⟩
theorem i47 : SmIt Tryz.prog ENV s47 := smIt mixed (n := 3000) cx1 (by kernel_rfl) (by kernel_rfl)
/- slices.SortFunc[[]mandate/api.Found,mandate/api.Found] -/
noncomputable def s48 : Sm := ⟨76, [v37, v88], [(60000070584, (.row [(.string ⟨⟨[b112]⟩⟩), v60, v2, v16, v3, v25, v16, v16, v3, v70, v16, v16, (.string ⟨⟨[b112]⟩⟩), v32, v2, v16] 105 true)), (60000070036, o5), (60000070313, o0), (60000070257, o5), (60000070074, o0)], 90000000000, (.tuple ⟨[]⟩), [(60000070584, some o15), (60000070036, some o5), (60000070313, some o0), (60000070257, some o5), (60000070074, some o0)], 0⟩
theorem i48 : SmIt Tryz.prog ENV s48 := smIt mixed (n := 3000) cx1 (by kernel_rfl) (by kernel_rfl)
/- slices.SortFunc[[]mandate/api.Found,mandate/api.Found] -/
noncomputable def s49 : Sm := ⟨76, [v37, v88], [(60000070584, (.row [(.string ⟨⟨[b112]⟩⟩), v32, v2, v16, (.string ⟨⟨[b112]⟩⟩), v60, v2, v16, v3, v70, v16, v16, v3, v25, v16, v16] 105 true)), (60000070074, o0), (60000070036, o5), (60000070257, o5), (60000070313, o0)], 90000000000, (.tuple ⟨[]⟩), [(60000070584, some o15), (60000070074, some o0), (60000070036, some o5), (60000070257, some o5), (60000070313, some o0)], 0⟩
theorem i49 : SmIt Tryz.prog ENV s49 := smIt mixed (n := 3000) cx1 (by kernel_rfl) (by kernel_rfl)
/- slices.SortFunc[[]mandate/api.Found,mandate/api.Found] -/
noncomputable def s50 : Sm := ⟨76, [v37, v88], [(60000070584, (.row [(.string ⟨⟨[b112]⟩⟩), v32, v2, v16, (.string ⟨⟨[b112]⟩⟩), v60, v2, v16, v3, v25, v16, v16, v3, v70, v16, v16] 105 true)), (60000070074, o0), (60000070036, o5), (60000070313, o0), (60000070257, o5)], 90000000000, (.tuple ⟨[]⟩), [(60000070584, some o15), (60000070074, some o0), (60000070036, some o5), (60000070313, some o0), (60000070257, some o5)], 0⟩
theorem i50 : SmIt Tryz.prog ENV s50 := smIt mixed (n := 3000) cx1 (by kernel_rfl) (by kernel_rfl)
/- slices.SortFunc[[]mandate/api.Found,mandate/api.Found] -/
noncomputable def s51 : Sm := ⟨76, [v37, v88], [(60000070584, (.row [(.string ⟨⟨[b112]⟩⟩), v32, v2, v16, v3, v70, v16, v16, (.string ⟨⟨[b112]⟩⟩), v60, v2, v16, v3, v25, v16, v16] 105 true)), (60000070074, o0), (60000070257, o5), (60000070036, o5), (60000070313, o0)], 90000000000, (.tuple ⟨[]⟩), [(60000070584, some o15), (60000070074, some o0), (60000070257, some o5), (60000070036, some o5), (60000070313, some o0)], 0⟩
theorem i51 : SmIt Tryz.prog ENV s51 := smIt mixed (n := 3000) cx1 (by kernel_rfl) (by kernel_rfl)
/- slices.SortFunc[[]mandate/api.Found,mandate/api.Found] -/
noncomputable def s52 : Sm := ⟨76, [v37, v88], [(60000070584, (.row [(.string ⟨⟨[b112]⟩⟩), v32, v2, v16, v3, v70, v16, v16, v3, v25, v16, v16, (.string ⟨⟨[b112]⟩⟩), v60, v2, v16] 105 true)), (60000070074, o0), (60000070257, o5), (60000070313, o0), (60000070036, o5)], 90000000000, (.tuple ⟨[]⟩), [(60000070584, some o15), (60000070074, some o0), (60000070257, some o5), (60000070313, some o0), (60000070036, some o5)], 0⟩
theorem i52 : SmIt Tryz.prog ENV s52 := smIt mixed (n := 3000) cx1 (by kernel_rfl) (by kernel_rfl)
/- slices.SortFunc[[]mandate/api.Found,mandate/api.Found] -/
noncomputable def s53 : Sm := ⟨76, [v37, v88], [(60000070584, (.row [(.string ⟨⟨[b112]⟩⟩), v32, v2, v16, v3, v25, v16, v16, (.string ⟨⟨[b112]⟩⟩), v60, v2, v16, v3, v70, v16, v16] 105 true)), (60000070074, o0), (60000070313, o0), (60000070036, o5), (60000070257, o5)], 90000000000, (.tuple ⟨[]⟩), [(60000070584, some o15), (60000070074, some o0), (60000070313, some o0), (60000070036, some o5), (60000070257, some o5)], 0⟩
theorem i53 : SmIt Tryz.prog ENV s53 := smIt mixed (n := 3000) cx1 (by kernel_rfl) (by kernel_rfl)
/- slices.SortFunc[[]mandate/api.Found,mandate/api.Found] -/
noncomputable def s54 : Sm := ⟨76, [v37, v88], [(60000070584, (.row [(.string ⟨⟨[b112]⟩⟩), v32, v2, v16, v3, v25, v16, v16, v3, v70, v16, v16, (.string ⟨⟨[b112]⟩⟩), v60, v2, v16] 105 true)), (60000070074, o0), (60000070313, o0), (60000070257, o5), (60000070036, o5)], 90000000000, (.tuple ⟨[]⟩), [(60000070584, some o15), (60000070074, some o0), (60000070313, some o0), (60000070257, some o5), (60000070036, some o5)], 0⟩
theorem i54 : SmIt Tryz.prog ENV s54 := smIt mixed (n := 3000) cx1 (by kernel_rfl) (by kernel_rfl)
/- slices.SortFunc[[]mandate/api.Found,mandate/api.Found] -/
noncomputable def s55 : Sm := ⟨76, [v37, v88], [(60000070584, (.row [v3, v70, v16, v16, (.string ⟨⟨[b112]⟩⟩), v60, v2, v16, (.string ⟨⟨[b112]⟩⟩), v32, v2, v16, v3, v25, v16, v16] 105 true)), (60000070257, o5), (60000070036, o5), (60000070074, o0), (60000070313, o0)], 90000000000, (.tuple ⟨[]⟩), [(60000070584, some o15), (60000070257, some o5), (60000070036, some o5), (60000070074, some o0), (60000070313, some o0)], 0⟩
theorem i55 : SmIt Tryz.prog ENV s55 := smIt mixed (n := 3000) cx1 (by kernel_rfl) (by kernel_rfl)
/- slices.SortFunc[[]mandate/api.Found,mandate/api.Found] -/
noncomputable def s56 : Sm := ⟨76, [v37, v88], [(60000070584, (.row [v3, v70, v16, v16, (.string ⟨⟨[b112]⟩⟩), v60, v2, v16, v3, v25, v16, v16, (.string ⟨⟨[b112]⟩⟩), v32, v2, v16] 105 true)), (60000070257, o5), (60000070036, o5), (60000070313, o0), (60000070074, o0)], 90000000000, (.tuple ⟨[]⟩), [(60000070584, some o15), (60000070257, some o5), (60000070036, some o5), (60000070313, some o0), (60000070074, some o0)], 0⟩
theorem i56 : SmIt Tryz.prog ENV s56 := smIt mixed (n := 3000) cx1 (by kernel_rfl) (by kernel_rfl)
/- slices.SortFunc[[]mandate/api.Found,mandate/api.Found] -/
noncomputable def s57 : Sm := ⟨76, [v37, v88], [(60000070584, (.row [v3, v70, v16, v16, (.string ⟨⟨[b112]⟩⟩), v32, v2, v16, (.string ⟨⟨[b112]⟩⟩), v60, v2, v16, v3, v25, v16, v16] 105 true)), (60000070257, o5), (60000070074, o0), (60000070036, o5), (60000070313, o0)], 90000000000, (.tuple ⟨[]⟩), [(60000070584, some o15), (60000070257, some o5), (60000070074, some o0), (60000070036, some o5), (60000070313, some o0)], 0⟩
theorem i57 : SmIt Tryz.prog ENV s57 := smIt mixed (n := 3000) cx1 (by kernel_rfl) (by kernel_rfl)
/- slices.SortFunc[[]mandate/api.Found,mandate/api.Found] -/
noncomputable def s58 : Sm := ⟨76, [v37, v88], [(60000070584, (.row [v3, v70, v16, v16, (.string ⟨⟨[b112]⟩⟩), v32, v2, v16, v3, v25, v16, v16, (.string ⟨⟨[b112]⟩⟩), v60, v2, v16] 105 true)), (60000070257, o5), (60000070074, o0), (60000070313, o0), (60000070036, o5)], 90000000000, (.tuple ⟨[]⟩), [(60000070584, some o15), (60000070257, some o5), (60000070074, some o0), (60000070313, some o0), (60000070036, some o5)], 0⟩
theorem i58 : SmIt Tryz.prog ENV s58 := smIt mixed (n := 3000) cx1 (by kernel_rfl) (by kernel_rfl)
/- slices.SortFunc[[]mandate/api.Found,mandate/api.Found] -/
noncomputable def s59 : Sm := ⟨76, [v37, v88], [(60000070584, o15), (60000070257, o5), (60000070313, o0), (60000070036, o5), (60000070074, o0)], 90000000000, (.tuple ⟨[]⟩), [(60000070584, some o15), (60000070257, some o5), (60000070313, some o0), (60000070036, some o5), (60000070074, some o0)], 0⟩
theorem i59 : SmIt Tryz.prog ENV s59 := smIt mixed (n := 3000) cx1 (by kernel_rfl) (by kernel_rfl)
/- slices.SortFunc[[]mandate/api.Found,mandate/api.Found] -/
noncomputable def s60 : Sm := ⟨76, [v37, v88], [(60000070584, (.row [v3, v70, v16, v16, v3, v25, v16, v16, (.string ⟨⟨[b112]⟩⟩), v32, v2, v16, (.string ⟨⟨[b112]⟩⟩), v60, v2, v16] 105 true)), (60000070257, o5), (60000070313, o0), (60000070074, o0), (60000070036, o5)], 90000000000, (.tuple ⟨[]⟩), [(60000070584, some o15), (60000070257, some o5), (60000070313, some o0), (60000070074, some o0), (60000070036, some o5)], 0⟩
theorem i60 : SmIt Tryz.prog ENV s60 := smIt mixed (n := 3000) cx1 (by kernel_rfl) (by kernel_rfl)
/- slices.SortFunc[[]mandate/api.Found,mandate/api.Found] -/
noncomputable def s61 : Sm := ⟨76, [v37, v88], [(60000070584, (.row [v3, v25, v16, v16, (.string ⟨⟨[b112]⟩⟩), v60, v2, v16, (.string ⟨⟨[b112]⟩⟩), v32, v2, v16, v3, v70, v16, v16] 105 true)), (60000070313, o0), (60000070036, o5), (60000070074, o0), (60000070257, o5)], 90000000000, (.tuple ⟨[]⟩), [(60000070584, some o15), (60000070313, some o0), (60000070036, some o5), (60000070074, some o0), (60000070257, some o5)], 0⟩
theorem i61 : SmIt Tryz.prog ENV s61 := smIt mixed (n := 3000) cx1 (by kernel_rfl) (by kernel_rfl)
/- slices.SortFunc[[]mandate/api.Found,mandate/api.Found] -/
noncomputable def s62 : Sm := ⟨76, [v37, v88], [(60000070584, (.row [v3, v25, v16, v16, (.string ⟨⟨[b112]⟩⟩), v60, v2, v16, v3, v70, v16, v16, (.string ⟨⟨[b112]⟩⟩), v32, v2, v16] 105 true)), (60000070313, o0), (60000070036, o5), (60000070257, o5), (60000070074, o0)], 90000000000, (.tuple ⟨[]⟩), [(60000070584, some o15), (60000070313, some o0), (60000070036, some o5), (60000070257, some o5), (60000070074, some o0)], 0⟩
theorem i62 : SmIt Tryz.prog ENV s62 := smIt mixed (n := 3000) cx1 (by kernel_rfl) (by kernel_rfl)
/- slices.SortFunc[[]mandate/api.Found,mandate/api.Found] -/
noncomputable def s63 : Sm := ⟨76, [v37, v88], [(60000070584, (.row [v3, v25, v16, v16, (.string ⟨⟨[b112]⟩⟩), v32, v2, v16, (.string ⟨⟨[b112]⟩⟩), v60, v2, v16, v3, v70, v16, v16] 105 true)), (60000070313, o0), (60000070074, o0), (60000070036, o5), (60000070257, o5)], 90000000000, (.tuple ⟨[]⟩), [(60000070584, some o15), (60000070313, some o0), (60000070074, some o0), (60000070036, some o5), (60000070257, some o5)], 0⟩
theorem i63 : SmIt Tryz.prog ENV s63 := smIt mixed (n := 3000) cx1 (by kernel_rfl) (by kernel_rfl)
/- slices.SortFunc[[]mandate/api.Found,mandate/api.Found] -/
noncomputable def s64 : Sm := ⟨76, [v37, v88], [(60000070584, (.row [v3, v25, v16, v16, (.string ⟨⟨[b112]⟩⟩), v32, v2, v16, v3, v70, v16, v16, (.string ⟨⟨[b112]⟩⟩), v60, v2, v16] 105 true)), (60000070313, o0), (60000070074, o0), (60000070257, o5), (60000070036, o5)], 90000000000, (.tuple ⟨[]⟩), [(60000070584, some o15), (60000070313, some o0), (60000070074, some o0), (60000070257, some o5), (60000070036, some o5)], 0⟩
theorem i64 : SmIt Tryz.prog ENV s64 := smIt mixed (n := 3000) cx1 (by kernel_rfl) (by kernel_rfl)
/- slices.SortFunc[[]mandate/api.Found,mandate/api.Found] -/
noncomputable def s65 : Sm := ⟨76, [v37, v88], [(60000070584, (.row [v3, v25, v16, v16, v3, v70, v16, v16, (.string ⟨⟨[b112]⟩⟩), v60, v2, v16, (.string ⟨⟨[b112]⟩⟩), v32, v2, v16] 105 true)), (60000070313, o0), (60000070257, o5), (60000070036, o5), (60000070074, o0)], 90000000000, (.tuple ⟨[]⟩), [(60000070584, some o15), (60000070313, some o0), (60000070257, some o5), (60000070036, some o5), (60000070074, some o0)], 0⟩
theorem i65 : SmIt Tryz.prog ENV s65 := smIt mixed (n := 3000) cx1 (by kernel_rfl) (by kernel_rfl)
/- slices.SortFunc[[]mandate/api.Found,mandate/api.Found] -/
noncomputable def s66 : Sm := ⟨76, [v37, v88], [(60000070584, (.row [v3, v25, v16, v16, v3, v70, v16, v16, (.string ⟨⟨[b112]⟩⟩), v32, v2, v16, (.string ⟨⟨[b112]⟩⟩), v60, v2, v16] 105 true)), (60000070313, o0), (60000070257, o5), (60000070074, o0), (60000070036, o5)], 90000000000, (.tuple ⟨[]⟩), [(60000070584, some o15), (60000070313, some o0), (60000070257, some o5), (60000070074, some o0), (60000070036, some o5)], 0⟩
theorem i66 : SmIt Tryz.prog ENV s66 := smIt mixed (n := 3000) cx1 (by kernel_rfl) (by kernel_rfl)
/- mandate/value.Order -/
noncomputable def s68 : Sm := ⟨75, [v62, (.agg ⟨[v3, (.slice (some ⟨140003, 0, none⟩) 2 2)]⟩)], [(60000070257, o5), (140003, o5)], 90000000000, v2, [(60000070257, some o5), (140003, some o5)], 0⟩
theorem i68 : SmIt Tryz.prog ENV s68 := smIt mixed (n := 3000) cx1 (by kernel_rfl) (by kernel_rfl)
/- mandate/lower.Text -/
noncomputable def s69 : Sm := ⟨84, [(.agg ⟨[v3, (.slice (some ⟨60000080010, 0, none⟩) 2 1267650600228229401496703205376)]⟩)], [(60000080010, o5)], 90000000000, v19, [(60000080010, some o5)], 0⟩
theorem i69 : SmIt Tryz.prog ENV s69 := smIt mixed (n := 3000) cx1 (by kernel_rfl) (by kernel_rfl)
/- mandate/lower.Text -/
noncomputable def s70 : Sm := ⟨84, [(.agg ⟨[v6, (.slice (some ⟨60000080125, 0, none⟩) 2 2)]⟩)], [(60000080125, o5)], 90000000000, v57, [(60000080125, some o5)], 0⟩
theorem i70 : SmIt Tryz.prog ENV s70 := smIt mixed (n := 3000) cx1 (by kernel_rfl) (by kernel_rfl)
/- mandate/value.Order -/
noncomputable def s71 : Sm := ⟨75, [v49, v49], [(60000070036, o5)], 90000000000, v2, [(60000070036, some o5)], 0⟩
theorem i71 : SmIt Tryz.prog ENV s71 := smIt mixed (n := 3000) cx1 (by kernel_rfl) (by kernel_rfl)
end Go.Proofs.YtkiboofldjnapaaGreatDoor
