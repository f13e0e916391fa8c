/- Calls that were run ahead, printed by program. -/
import Derived.Test.YtkiboofldjnapaaGreatDoorU2
namespace Go.Proofs.YtkiboofldjnapaaGreatDoor
open Go Go.Abs
set_option maxRecDepth 100000
/- mandate/config.Parse -/
noncomputable def s10 : Sm := ⟨7, [(.string ⟨⟨[b108, b97, b98, b101, b108, b32, b108, b111, b119, b10, b117, b115, b101, b114, b32, b97, b110, b110, b32, b108, b111, b119, b10, b112, b114, b101, b100, b32, b112, b32, b49, b32, b48, b10, b112, b114, b101, b100, b32, b98, b97, b100, b32, b49, b32, b48, b10, b112, b114, b101, b100, b32, b111, b107, b32, b49, b32, b49, b10, b98, b111, b117, b110, b100, b32, b50, b48, b10, b112, b117, b114, b115, b101, b32, b57, b32, b57, b48, b48]⟩⟩)], [(2, o12)], 10000, (.tuple ⟨[v44, v2, v2]⟩), [(10016, some (.row [v29] 9 true)), (10152, some (.row [v13] 135 true)), (10035, some o3), (10119, some o1)], 20000⟩
theorem i10 : SmIt Tryz.prog ENV s10 := smIt mixed (n := 3000) cx2 (by kernel_rfl) (by kernel_rfl)
/- mandate/clause.Parse -/
noncomputable def s12 : Sm := ⟨8, [(.string ⟨⟨[b112, b40, b97, b41, b46]⟩⟩)], [], 30000, (.tuple ⟨[v82, v2, v2]⟩), [(30041, some o9)], 40000⟩
theorem i12 : SmIt Tryz.prog ENV s12 := smIt mixed (n := 3000) cx2 (by kernel_rfl) (by kernel_rfl)
/- mandate/lower.Rule -/
noncomputable def s14 : Sm := ⟨9, [v44, v2, v82], [(10016, (.row [v29] 9 true)), (10152, (.row [v13] 135 true)), (10035, o3), (10119, o1), (30041, o9), (2, o12)], 50000, (.tuple ⟨[(.agg ⟨[(.int .u8 (.ofNat 1)), (.string ⟨⟨[b112]⟩⟩), v11, (.slice none 0 0)]⟩), v2]⟩), [(10016, some (.row [v29] 9 true)), (10152, some (.row [v13] 135 true)), (10035, some o3), (10119, some o1), (30041, some o9), (50013, some o11)], 60000⟩
theorem i14 : SmIt Tryz.prog ENV s14 := smIt mixed (n := 3000) cx2 (by kernel_rfl) (by kernel_rfl)
/- mandate/clause.Parse -/
noncomputable def s16 : Sm := ⟨8, [(.string ⟨⟨[b112, b40, b98, b41, b46]⟩⟩)], [], 70000, (.tuple ⟨[v12, v2, v2]⟩), [(70041, some o13)], 80000⟩
theorem i16 : SmIt Tryz.prog ENV s16 := smIt mixed (n := 3000) cx2 (by kernel_rfl) (by kernel_rfl)
/- mandate/lower.Rule -/
noncomputable def s18 : Sm := ⟨9, [v44, v2, v12], [(10016, (.row [v29] 9 true)), (10152, (.row [v13] 135 true)), (10035, o3), (10119, o1), (70041, o13), (2, o12)], 90000, (.tuple ⟨[(.agg ⟨[(.int .u8 (.ofNat 1)), (.string ⟨⟨[b112]⟩⟩), v84, (.slice none 0 0)]⟩), v2]⟩), [(10016, some (.row [v29] 9 true)), (10152, some (.row [v13] 135 true)), (10035, some o3), (10119, some o1), (70041, some o13), (90013, some o14)], 100000⟩
theorem i18 : SmIt Tryz.prog ENV s18 := smIt mixed (n := 3000) cx2 (by kernel_rfl) (by kernel_rfl)
/- mandate/clause.Parse -/
noncomputable def s20 : Sm := ⟨8, [(.string ⟨⟨[b111, b107, b40, b88, b41, b32, b58, b45, b32, b112, b40, b88, b41, b44, b32, b110, b111, b116, b32, b98, b97, b100, b40, b88, b41, b46]⟩⟩)], [], 110000, (.tuple ⟨[v41, v2, v2]⟩), [(110106, some o10), (110132, some o4), (110117, some o10), (110130, some o10)], 120000⟩
theorem i20 : SmIt Tryz.prog ENV s20 := smIt mixed (n := 3000) cx2 (by kernel_rfl) (by kernel_rfl)
/- mandate/lower.Rule -/
noncomputable def s22 : Sm := ⟨9, [v44, v2, v41], [(10016, (.row [v29] 9 true)), (10152, (.row [v13] 135 true)), (10035, o3), (10119, o1), (110106, o10), (110132, o4), (110117, o10), (110130, o10), (2, o12)], 130000, (.tuple ⟨[(.agg ⟨[(.int .u8 (.ofNat 1)), v3, v93, v72]⟩), v2]⟩), [(10016, some (.row [v29] 9 true)), (10152, some (.row [v13] 135 true)), (10035, some o3), (10119, some o1), (110106, some o10), (110132, some o4), (110117, some o10), (110130, some o10), (130013, some o7), (130037, some o8), (130023, some o7), (130035, some o7)], 140000⟩
theorem i22 : SmIt Tryz.prog ENV s22 := smIt mixed (n := 3000) cx2 (by kernel_rfl) (by kernel_rfl)
/- mandate/lower.Rule -/
noncomputable def s24 : Sm := ⟨9, [v44, v2, (.agg ⟨[(.int .u8 (.ofNat 1)), (.string ⟨⟨[]⟩⟩), (.string ⟨⟨[]⟩⟩), v2, (.string ⟨⟨[b112]⟩⟩), (.slice (some ⟨60000010035, 3, none⟩) 1 1267650600228229401496703205376), (.slice none 0 0)]⟩)], [(10016, (.row [v29] 9 true)), (10152, (.row [v13] 135 true)), (10035, o3), (10119, o1), (60000010035, o11), (2, o12)], 60000020000, (.tuple ⟨[(.agg ⟨[(.int .u8 (.ofNat 1)), (.string ⟨⟨[b112]⟩⟩), (.slice (some ⟨60000020013, 0, none⟩) 2 1267650600228229401496703205376), (.slice none 0 0)]⟩), v2]⟩), [(10016, some (.row [v29] 9 true)), (10152, some (.row [v13] 135 true)), (10035, some o3), (10119, some o1), (60000010035, some o11), (60000020013, some o11)], 60000030000⟩
theorem i24 : SmIt Tryz.prog ENV s24 := smIt mixed (n := 3000) cx2 (by kernel_rfl) (by kernel_rfl)
/- mandate/lower.Rule -/
noncomputable def s26 : Sm := ⟨9, [v44, v2, (.agg ⟨[(.int .u8 (.ofNat 1)), (.string ⟨⟨[]⟩⟩), (.string ⟨⟨[]⟩⟩), v2, (.string ⟨⟨[b112]⟩⟩), (.slice (some ⟨60000030020, 3, none⟩) 1 1267650600228229401496703205376), (.slice none 0 0)]⟩)], [(10016, (.row [v29] 9 true)), (10152, (.row [v13] 135 true)), (10035, o3), (10119, o1), (60000030020, o14), (2, o12)], 60000040000, (.tuple ⟨[(.agg ⟨[(.int .u8 (.ofNat 1)), (.string ⟨⟨[b112]⟩⟩), (.slice (some ⟨60000040013, 0, none⟩) 2 1267650600228229401496703205376), (.slice none 0 0)]⟩), v2]⟩), [(10016, some (.row [v29] 9 true)), (10152, some (.row [v13] 135 true)), (10035, some o3), (10119, some o1), (60000030020, some o14), (60000040013, some o14)], 60000050000⟩
theorem i26 : SmIt Tryz.prog ENV s26 := smIt mixed (n := 3000) cx2 (by kernel_rfl) (by kernel_rfl)
/- mandate/lower.Rule -/
noncomputable def s28 : Sm := ⟨9, [v44, v2, (.agg ⟨[(.int .u8 (.ofNat 1)), (.string ⟨⟨[]⟩⟩), (.string ⟨⟨[]⟩⟩), v2, v3, (.slice (some ⟨60000050020, 3, none⟩) 1 1267650600228229401496703205376), (.slice (some ⟨60000050036, 0, none⟩) 2 1267650600228229401496703205376)]⟩)], [(10016, (.row [v29] 9 true)), (10152, (.row [v13] 135 true)), (10035, o3), (10119, o1), (60000050020, o7), (60000050036, o2), (60000050026, o7), (60000050034, o7), (2, o12)], 60000060000, (.tuple ⟨[(.agg ⟨[(.int .u8 (.ofNat 1)), v3, (.slice (some ⟨60000060013, 0, none⟩) 2 1267650600228229401496703205376), (.slice (some ⟨60000060037, 0, none⟩) 2 1267650600228229401496703205376)]⟩), v2]⟩), [(10016, some (.row [v29] 9 true)), (10152, some (.row [v13] 135 true)), (10035, some o3), (10119, some o1), (60000050020, some o7), (60000050036, some o2), (60000050026, some o7), (60000050034, some o7), (60000060013, some o7), (60000060037, some (.row [(.int .u8 (.ofNat 1)), (.string ⟨⟨[b112]⟩⟩), (.slice (some ⟨60000060023, 0, none⟩) 2 1267650600228229401496703205376), (.int .u8 (.ofNat 2)), v6, (.slice (some ⟨60000060035, 0, none⟩) 2 1267650600228229401496703205376)] 57 true)), (60000060023, some o7), (60000060035, some o7)], 60000070000⟩
theorem i28 : SmIt Tryz.prog ENV s28 := smIt mixed (n := 3000) cx2 (by kernel_rfl) (by kernel_rfl)
end Go.Proofs.YtkiboofldjnapaaGreatDoor
