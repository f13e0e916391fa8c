/- Calls that were run ahead, printed by program. -/
import Derived.Test.YtnjmpeilfolmcaaGreatDoorU1
namespace Go.Proofs.YtnjmpeilfolmcaaGreatDoor
open Go Go.Abs
set_option maxRecDepth 100000
/- mandate/sound.Check -/
noncomputable def s14 : Sm := ⟨36, [v102, v2, v78], [(10029, o5), (10182, o3), (10065, o1), (10149, o12), (30041, o24), (2, o15)], 90000000000, v2, [(10029, some o5), (10182, some o3), (10065, some o1), (10149, some o12), (30041, some o24)], 0⟩
theorem i14 : SmIt Tryz.prog ENV s14 := smIt mixed (n := 3000) cx1 (by kernel_rfl) (by kernel_rfl)
/- mandate/sound.Check -/
noncomputable def s18 : Sm := ⟨36, [v102, v2, v103], [(10029, o5), (10182, o3), (10065, o1), (10149, o12), (70041, o17), (2, o15)], 90000000000, v2, [(10029, some o5), (10182, some o3), (10065, some o1), (10149, some o12), (70041, some o17)], 0⟩
theorem i18 : SmIt Tryz.prog ENV s18 := smIt mixed (n := 3000) cx1 (by kernel_rfl) (by kernel_rfl)
/- mandate/sound.Check -/
noncomputable def s22 : Sm := ⟨36, [v102, v2, v137], [(10029, o5), (10182, o3), (10065, o1), (10149, o12), (110106, o27), (110132, o26), (110117, o27), (110130, o27), (2, o15)], 90000000000, v2, [(10029, some o5), (10182, some o3), (10065, some o1), (10149, some o12), (110106, some o27), (110132, some o26), (110117, some o27), (110130, some o27)], 0⟩
theorem i22 : SmIt Tryz.prog ENV s22 := smIt mixed (n := 3000) cx1 (by kernel_rfl) (by kernel_rfl)
/- mandate/sound.Check -/
noncomputable def s25 : Sm := ⟨36, [v102, v2, v179], [(10029, o5), (10182, o3), (10065, o1), (10149, o12), (150041, o24), (2, o15)], 90000000000, v2, [(10029, some o5), (10182, some o3), (10065, some o1), (10149, some o12), (150041, some o24)], 0⟩
theorem i25 : SmIt Tryz.prog ENV s25 := smIt mixed (n := 3000) cx1 (by kernel_rfl) (by kernel_rfl)
/- mandate/sound.Check -/
noncomputable def s27 : Sm := ⟨36, [v102, v2, (.agg ⟨[(.int .u8 (.ofNat 1)), (.string ⟨⟨[]⟩⟩), (.string ⟨⟨[]⟩⟩), v2, (.string ⟨⟨[b112]⟩⟩), (.slice (some ⟨190039, 3, none⟩) 1 1267650600228229401496703205376), (.slice none 0 0)]⟩)], [(10029, o5), (10182, o3), (10065, o1), (10149, o12), (190039, o22), (2, o15)], 90000000000, v2, [(10029, some o5), (10182, some o3), (10065, some o1), (10149, some o12), (190039, some o22)], 0⟩
theorem i27 : SmIt Tryz.prog ENV s27 := smIt mixed (n := 3000) cx1 (by kernel_rfl) (by kernel_rfl)
/- mandate/sound.Check -/
noncomputable def s29 : Sm := ⟨36, [v102, v2, (.agg ⟨[(.int .u8 (.ofNat 1)), (.string ⟨⟨[]⟩⟩), (.string ⟨⟨[]⟩⟩), v2, (.string ⟨⟨[b112]⟩⟩), (.slice (some ⟨210020, 3, none⟩) 1 1267650600228229401496703205376), (.slice none 0 0)]⟩)], [(10029, o5), (10182, o3), (10065, o1), (10149, o12), (210020, o16), (2, o15)], 90000000000, v2, [(10029, some o5), (10182, some o3), (10065, some o1), (10149, some o12), (210020, some o16)], 0⟩
theorem i29 : SmIt Tryz.prog ENV s29 := smIt mixed (n := 3000) cx1 (by kernel_rfl) (by kernel_rfl)
/- mandate/sound.Check -/
noncomputable def s31 : Sm := ⟨36, [v102, v2, (.agg ⟨[(.int .u8 (.ofNat 1)), (.string ⟨⟨[]⟩⟩), (.string ⟨⟨[]⟩⟩), v2, v5, (.slice (some ⟨230020, 3, none⟩) 1 1267650600228229401496703205376), (.slice (some ⟨230036, 0, none⟩) 2 1267650600228229401496703205376)]⟩)], [(10029, o5), (10182, o3), (10065, o1), (10149, o12), (230020, o8), (230036, o9), (230026, o8), (230034, o8), (2, o15)], 90000000000, v2, [(10029, some o5), (10182, some o3), (10065, some o1), (10149, some o12), (230020, some o8), (230036, some o9), (230026, some o8), (230034, some o8)], 0⟩
theorem i31 : SmIt Tryz.prog ENV s31 := smIt mixed (n := 3000) cx1 (by kernel_rfl) (by kernel_rfl)
/- mandate/sound.Check -/
noncomputable def s33 : Sm := ⟨36, [v102, v2, (.agg ⟨[(.int .u8 (.ofNat 1)), (.string ⟨⟨[]⟩⟩), (.string ⟨⟨[]⟩⟩), v2, v6, (.slice (some ⟨250024, 3, none⟩) 1 1267650600228229401496703205376), (.slice none 0 0)]⟩)], [(10029, o5), (10182, o3), (10065, o1), (10149, o12), (250024, o22), (2, o15)], 90000000000, v2, [(10029, some o5), (10182, some o3), (10065, some o1), (10149, some o12), (250024, some o22)], 0⟩
theorem i33 : SmIt Tryz.prog ENV s33 := smIt mixed (n := 3000) cx1 (by kernel_rfl) (by kernel_rfl)
/- mandate/lower.Text -/
noncomputable def s36 : Sm := ⟨50, [(.agg ⟨[(.string ⟨⟨[b112]⟩⟩), (.slice (some ⟨270061, 0, none⟩) 2 2)]⟩)], [(270061, o7)], 90000000000, v17, [(270061, some o7)], 0⟩
theorem i36 : SmIt Tryz.prog ENV s36 := smIt mixed (n := 3000) cx1 (by kernel_rfl) (by kernel_rfl)
/- mandate/lower.Text -/
noncomputable def s37 : Sm := ⟨50, [(.agg ⟨[(.string ⟨⟨[b112]⟩⟩), (.slice (some ⟨270122, 0, none⟩) 2 2)]⟩)], [(270122, o10)], 90000000000, v94, [(270122, some o10)], 0⟩
theorem i37 : SmIt Tryz.prog ENV s37 := smIt mixed (n := 3000) cx1 (by kernel_rfl) (by kernel_rfl)
/- mandate/lower.Text -/
noncomputable def s38 : Sm := ⟨50, [(.agg ⟨[v6, (.slice (some ⟨270183, 0, none⟩) 2 2)]⟩)], [(270183, o7)], 90000000000, v53, [(270183, some o7)], 0⟩
theorem i38 : SmIt Tryz.prog ENV s38 := smIt mixed (n := 3000) cx1 (by kernel_rfl) (by kernel_rfl)
/- mandate/value.Order -/
noncomputable def s39 : Sm := ⟨98, [v56, v38], [(280010, o10), (280008, o7)], 90000000000, v106, [(280010, some o10), (280008, some o7)], 0⟩
theorem i39 : SmIt Tryz.prog ENV s39 := smIt mixed (n := 3000) cx1 (by kernel_rfl) (by kernel_rfl)
/- mandate/value.Order -/
noncomputable def s40 : Sm := ⟨98, [v20, v56], [(280012, o7), (280010, o10)], 90000000000, v73, [(280012, some o7), (280010, some o10)], 0⟩
theorem i40 : SmIt Tryz.prog ENV s40 := smIt mixed (n := 3000) cx1 (by kernel_rfl) (by kernel_rfl)
/- mandate/value.Order -/
noncomputable def s41 : Sm := ⟨98, [v20, v38], [(280012, o7), (280008, o7)], 90000000000, v73, [(280012, some o7), (280008, some o7)], 0⟩
theorem i41 : SmIt Tryz.prog ENV s41 := smIt mixed (n := 3000) cx1 (by kernel_rfl) (by kernel_rfl)
/- mandate/value.Order -/
noncomputable def s42 : Sm := ⟨98, [v26, v38], [(280010, o7), (280008, o7)], 90000000000, v73, [(280010, some o7), (280008, some o7)], 0⟩
theorem i42 : SmIt Tryz.prog ENV s42 := smIt mixed (n := 3000) cx1 (by kernel_rfl) (by kernel_rfl)
/- mandate/value.Order -/
noncomputable def s43 : Sm := ⟨98, [v130, v38], [(280012, o10), (280008, o7)], 90000000000, v106, [(280012, some o10), (280008, some o7)], 0⟩
theorem i43 : SmIt Tryz.prog ENV s43 := smIt mixed (n := 3000) cx1 (by kernel_rfl) (by kernel_rfl)
/- mandate/value.Order -/
noncomputable def s44 : Sm := ⟨98, [v56, v38], [(280010, o7), (280008, o10)], 90000000000, v73, [(280010, some o7), (280008, some o10)], 0⟩
theorem i44 : SmIt Tryz.prog ENV s44 := smIt mixed (n := 3000) cx1 (by kernel_rfl) (by kernel_rfl)
/- mandate/value.Order -/
noncomputable def s45 : Sm := ⟨98, [v20, v38], [(280012, o7), (280008, o10)], 90000000000, v73, [(280012, some o7), (280008, some o10)], 0⟩
theorem i45 : SmIt Tryz.prog ENV s45 := smIt mixed (n := 3000) cx1 (by kernel_rfl) (by kernel_rfl)
/- mandate/value.Order -/
noncomputable def s46 : Sm := ⟨98, [v20, v56], [(280012, o7), (280010, o7)], 90000000000, v73, [(280012, some o7), (280010, some o7)], 0⟩
theorem i46 : SmIt Tryz.prog ENV s46 := smIt mixed (n := 3000) cx1 (by kernel_rfl) (by kernel_rfl)
/- mandate/value.Order -/
noncomputable def s47 : Sm := ⟨98, [v26, v38], [(280010, o7), (280008, o10)], 90000000000, v73, [(280010, some o7), (280008, some o10)], 0⟩
theorem i47 : SmIt Tryz.prog ENV s47 := smIt mixed (n := 3000) cx1 (by kernel_rfl) (by kernel_rfl)
/- mandate/value.Order -/
noncomputable def s48 : Sm := ⟨98, [v130, v38], [(280012, o7), (280008, o10)], 90000000000, v73, [(280012, some o7), (280008, some o10)], 0⟩
theorem i48 : SmIt Tryz.prog ENV s48 := smIt mixed (n := 3000) cx1 (by kernel_rfl) (by kernel_rfl)
/- mandate/value.Order -/
noncomputable def s49 : Sm := ⟨98, [v130, v26], [(280012, o7), (280010, o7)], 90000000000, v106, [(280012, some o7), (280010, some o7)], 0⟩
theorem i49 : SmIt Tryz.prog ENV s49 := smIt mixed (n := 3000) cx1 (by kernel_rfl) (by kernel_rfl)
/- mandate/value.Order -/
noncomputable def s50 : Sm := ⟨98, [v56, v120], [(280010, o7), (280008, o7)], 90000000000, v106, [(280010, some o7), (280008, some o7)], 0⟩
theorem i50 : SmIt Tryz.prog ENV s50 := smIt mixed (n := 3000) cx1 (by kernel_rfl) (by kernel_rfl)
/- mandate/value.Order -/
noncomputable def s51 : Sm := ⟨98, [v130, v56], [(280012, o10), (280010, o7)], 90000000000, v106, [(280012, some o10), (280010, some o7)], 0⟩
theorem i51 : SmIt Tryz.prog ENV s51 := smIt mixed (n := 3000) cx1 (by kernel_rfl) (by kernel_rfl)
/- mandate/value.Order -/
noncomputable def s52 : Sm := ⟨98, [v56, v120], [(280010, o10), (280008, o7)], 90000000000, v106, [(280010, some o10), (280008, some o7)], 0⟩
theorem i52 : SmIt Tryz.prog ENV s52 := smIt mixed (n := 3000) cx1 (by kernel_rfl) (by kernel_rfl)
/- mandate/value.Order -/
noncomputable def s53 : Sm := ⟨98, [v130, v56], [(280012, o7), (280010, o10)], 90000000000, v73, [(280012, some o7), (280010, some o10)], 0⟩
theorem i53 : SmIt Tryz.prog ENV s53 := smIt mixed (n := 3000) cx1 (by kernel_rfl) (by kernel_rfl)
/- mandate/value.Order -/
noncomputable def s54 : Sm := ⟨98, [v130, v120], [(280012, o7), (280008, o7)], 90000000000, v106, [(280012, some o7), (280008, some o7)], 0⟩
theorem i54 : SmIt Tryz.prog ENV s54 := smIt mixed (n := 3000) cx1 (by kernel_rfl) (by kernel_rfl)
/- mandate/lower.Text -/
noncomputable def s56 : Sm := ⟨50, [v20], [(280012, o7)], 90000000000, v53, [(280012, some o7)], 0⟩
theorem i56 : SmIt Tryz.prog ENV s56 := smIt mixed (n := 3000) cx1 (by kernel_rfl) (by kernel_rfl)
/- mandate/lower.Text -/
noncomputable def s57 : Sm := ⟨50, [v38], [(280008, o7)], 90000000000, v17, [(280008, some o7)], 0⟩
theorem i57 : SmIt Tryz.prog ENV s57 := smIt mixed (n := 3000) cx1 (by kernel_rfl) (by kernel_rfl)
/- mandate/lower.Text -/
noncomputable def s58 : Sm := ⟨50, [v56], [(280010, o10)], 90000000000, v94, [(280010, some o10)], 0⟩
theorem i58 : SmIt Tryz.prog ENV s58 := smIt mixed (n := 3000) cx1 (by kernel_rfl) (by kernel_rfl)
/- mandate/value.Order -/
noncomputable def s60 : Sm := ⟨98, [(.agg ⟨[(.string ⟨⟨[b112]⟩⟩), (.slice (some ⟨290132, 0, none⟩) 2 1267650600228229401496703205376)]⟩), (.agg ⟨[(.string ⟨⟨[b112]⟩⟩), (.slice (some ⟨290130, 0, none⟩) 2 1267650600228229401496703205376)]⟩)], [(290132, o10), (290130, o7)], 90000000000, v106, [(290132, some o10), (290130, some o7)], 0⟩
theorem i60 : SmIt Tryz.prog ENV s60 := smIt mixed (n := 3000) cx1 (by kernel_rfl) (by kernel_rfl)
/- mandate/lower.Text -/
noncomputable def s61 : Sm := ⟨50, [(.agg ⟨[v5, (.slice (some ⟨290196, 0, none⟩) 2 2)]⟩)], [(290196, o7)], 90000000000, v18, [(290196, some o7)], 0⟩
theorem i61 : SmIt Tryz.prog ENV s61 := smIt mixed (n := 3000) cx1 (by kernel_rfl) (by kernel_rfl)
/- mandate/lower.Text -/
noncomputable def s62 : Sm := ⟨50, [(.agg ⟨[v5, (.slice (some ⟨290298, 0, none⟩) 2 2)]⟩)], [(290298, o10)], 90000000000, v89, [(290298, some o10)], 0⟩
theorem i62 : SmIt Tryz.prog ENV s62 := smIt mixed (n := 3000) cx1 (by kernel_rfl) (by kernel_rfl)
/- mandate/value.Order -/
noncomputable def s63 : Sm := ⟨98, [v86, v30], [(300008, o10), (300006, o7)], 90000000000, v106, [(300008, some o10), (300006, some o7)], 0⟩
theorem i63 : SmIt Tryz.prog ENV s63 := smIt mixed (n := 3000) cx1 (by kernel_rfl) (by kernel_rfl)
/- mandate/value.Order -/
noncomputable def s64 : Sm := ⟨98, [v86, v30], [(300008, o7), (300006, o10)], 90000000000, v73, [(300008, some o7), (300006, some o10)], 0⟩
theorem i64 : SmIt Tryz.prog ENV s64 := smIt mixed (n := 3000) cx1 (by kernel_rfl) (by kernel_rfl)
/- mandate/lower.Text -/
noncomputable def s66 : Sm := ⟨50, [v30], [(300006, o7)], 90000000000, v18, [(300006, some o7)], 0⟩
theorem i66 : SmIt Tryz.prog ENV s66 := smIt mixed (n := 3000) cx1 (by kernel_rfl) (by kernel_rfl)
/- mandate/lower.Text -/
noncomputable def s67 : Sm := ⟨50, [v86], [(300008, o10)], 90000000000, v89, [(300008, some o10)], 0⟩
theorem i67 : SmIt Tryz.prog ENV s67 := smIt mixed (n := 3000) cx1 (by kernel_rfl) (by kernel_rfl)
/- mandate/value.Order -/
noncomputable def s68 : Sm := ⟨98, [(.agg ⟨[(.string ⟨⟨[b112]⟩⟩), (.slice (some ⟨310056, 0, none⟩) 2 1267650600228229401496703205376)]⟩), (.agg ⟨[(.string ⟨⟨[b112]⟩⟩), (.slice (some ⟨310054, 0, none⟩) 2 1267650600228229401496703205376)]⟩)], [(310056, o10), (310054, o7)], 90000000000, v106, [(310056, some o10), (310054, some o7)], 0⟩
theorem i68 : SmIt Tryz.prog ENV s68 := smIt mixed (n := 3000) cx1 (by kernel_rfl) (by kernel_rfl)
/- mandate/lower.Text -/
noncomputable def s69 : Sm := ⟨50, [(.agg ⟨[(.string ⟨⟨[b112]⟩⟩), (.slice (some ⟨310054, 0, none⟩) 2 1267650600228229401496703205376)]⟩)], [(310054, o7)], 90000000000, v17, [(310054, some o7)], 0⟩
theorem i69 : SmIt Tryz.prog ENV s69 := smIt mixed (n := 3000) cx1 (by kernel_rfl) (by kernel_rfl)
/- mandate/lower.Text -/
noncomputable def s70 : Sm := ⟨50, [(.agg ⟨[(.string ⟨⟨[b112]⟩⟩), (.slice (some ⟨310056, 0, none⟩) 2 1267650600228229401496703205376)]⟩)], [(310056, o10)], 90000000000, v94, [(310056, some o10)], 0⟩
theorem i70 : SmIt Tryz.prog ENV s70 := smIt mixed (n := 3000) cx1 (by kernel_rfl) (by kernel_rfl)
/- mandate/value.Order -/
noncomputable def s73 : Sm := ⟨98, [v96, v70], [(320011, o10), (320009, o7)], 90000000000, v106, [(320011, some o10), (320009, some o7)], 0⟩
theorem i73 : SmIt Tryz.prog ENV s73 := smIt mixed (n := 3000) cx1 (by kernel_rfl) (by kernel_rfl)
/- mandate/value.Order -/
noncomputable def s74 : Sm := ⟨98, [v65, v96], [(320013, o7), (320011, o10)], 90000000000, v73, [(320013, some o7), (320011, some o10)], 0⟩
theorem i74 : SmIt Tryz.prog ENV s74 := smIt mixed (n := 3000) cx1 (by kernel_rfl) (by kernel_rfl)
/- mandate/value.Order -/
noncomputable def s75 : Sm := ⟨98, [v65, v70], [(320013, o7), (320009, o7)], 90000000000, v73, [(320013, some o7), (320009, some o7)], 0⟩
theorem i75 : SmIt Tryz.prog ENV s75 := smIt mixed (n := 3000) cx1 (by kernel_rfl) (by kernel_rfl)
/- mandate/value.Order -/
noncomputable def s76 : Sm := ⟨98, [v173, v96], [(320015, o7), (320011, o10)], 90000000000, v73, [(320015, some o7), (320011, some o10)], 0⟩
theorem i76 : SmIt Tryz.prog ENV s76 := smIt mixed (n := 3000) cx1 (by kernel_rfl) (by kernel_rfl)
/- mandate/value.Order -/
noncomputable def s77 : Sm := ⟨98, [v173, v70], [(320015, o7), (320009, o7)], 90000000000, v73, [(320015, some o7), (320009, some o7)], 0⟩
theorem i77 : SmIt Tryz.prog ENV s77 := smIt mixed (n := 3000) cx1 (by kernel_rfl) (by kernel_rfl)
/- mandate/value.Order -/
noncomputable def s78 : Sm := ⟨98, [v173, v65], [(320015, o7), (320013, o7)], 90000000000, v106, [(320015, some o7), (320013, some o7)], 0⟩
theorem i78 : SmIt Tryz.prog ENV s78 := smIt mixed (n := 3000) cx1 (by kernel_rfl) (by kernel_rfl)
/- mandate/value.Order -/
noncomputable def s79 : Sm := ⟨98, [v33, v96], [(320017, o10), (320011, o10)], 90000000000, v73, [(320017, some o10), (320011, some o10)], 0⟩
theorem i79 : SmIt Tryz.prog ENV s79 := smIt mixed (n := 3000) cx1 (by kernel_rfl) (by kernel_rfl)
/- mandate/value.Order -/
noncomputable def s80 : Sm := ⟨98, [v33, v70], [(320017, o10), (320009, o7)], 90000000000, v73, [(320017, some o10), (320009, some o7)], 0⟩
theorem i80 : SmIt Tryz.prog ENV s80 := smIt mixed (n := 3000) cx1 (by kernel_rfl) (by kernel_rfl)
/- mandate/value.Order -/
noncomputable def s81 : Sm := ⟨98, [v33, v173], [(320017, o10), (320015, o7)], 90000000000, v106, [(320017, some o10), (320015, some o7)], 0⟩
theorem i81 : SmIt Tryz.prog ENV s81 := smIt mixed (n := 3000) cx1 (by kernel_rfl) (by kernel_rfl)
/- mandate/lower.Text -/
noncomputable def s82 : Sm := ⟨50, [v65], [(320013, o7)], 90000000000, v53, [(320013, some o7)], 0⟩
theorem i82 : SmIt Tryz.prog ENV s82 := smIt mixed (n := 3000) cx1 (by kernel_rfl) (by kernel_rfl)
/- mandate/lower.Text -/
noncomputable def s83 : Sm := ⟨50, [v33], [(320017, o10)], 90000000000, v89, [(320017, some o10)], 0⟩
theorem i83 : SmIt Tryz.prog ENV s83 := smIt mixed (n := 3000) cx1 (by kernel_rfl) (by kernel_rfl)
/- mandate/lower.Text -/
noncomputable def s84 : Sm := ⟨50, [v70], [(320009, o7)], 90000000000, v17, [(320009, some o7)], 0⟩
theorem i84 : SmIt Tryz.prog ENV s84 := smIt mixed (n := 3000) cx1 (by kernel_rfl) (by kernel_rfl)
/- mandate/lower.Text -/
noncomputable def s85 : Sm := ⟨50, [v96], [(320011, o10)], 90000000000, v94, [(320011, some o10)], 0⟩
theorem i85 : SmIt Tryz.prog ENV s85 := smIt mixed (n := 3000) cx1 (by kernel_rfl) (by kernel_rfl)
/- mandate/value.Order -/
noncomputable def s86 : Sm := ⟨98, [v101, v159], [(320079, o10), (320077, o7)], 90000000000, v106, [(320079, some o10), (320077, some o7)], 0⟩
theorem i86 : SmIt Tryz.prog ENV s86 := smIt mixed (n := 3000) cx1 (by kernel_rfl) (by kernel_rfl)
/- mandate/value.Order -/
noncomputable def s87 : Sm := ⟨98, [v34, v101], [(320081, o7), (320079, o10)], 90000000000, v73, [(320081, some o7), (320079, some o10)], 0⟩
theorem i87 : SmIt Tryz.prog ENV s87 := smIt mixed (n := 3000) cx1 (by kernel_rfl) (by kernel_rfl)
/- mandate/value.Order -/
noncomputable def s88 : Sm := ⟨98, [v34, v159], [(320081, o7), (320077, o7)], 90000000000, v73, [(320081, some o7), (320077, some o7)], 0⟩
theorem i88 : SmIt Tryz.prog ENV s88 := smIt mixed (n := 3000) cx1 (by kernel_rfl) (by kernel_rfl)
/- mandate/value.Order -/
noncomputable def s89 : Sm := ⟨98, [v72, v101], [(320083, o7), (320079, o10)], 90000000000, v73, [(320083, some o7), (320079, some o10)], 0⟩
theorem i89 : SmIt Tryz.prog ENV s89 := smIt mixed (n := 3000) cx1 (by kernel_rfl) (by kernel_rfl)
/- mandate/value.Order -/
noncomputable def s90 : Sm := ⟨98, [v72, v159], [(320083, o7), (320077, o7)], 90000000000, v73, [(320083, some o7), (320077, some o7)], 0⟩
theorem i90 : SmIt Tryz.prog ENV s90 := smIt mixed (n := 3000) cx1 (by kernel_rfl) (by kernel_rfl)
/- mandate/value.Order -/
noncomputable def s91 : Sm := ⟨98, [v72, v34], [(320083, o7), (320081, o7)], 90000000000, v106, [(320083, some o7), (320081, some o7)], 0⟩
theorem i91 : SmIt Tryz.prog ENV s91 := smIt mixed (n := 3000) cx1 (by kernel_rfl) (by kernel_rfl)
/- mandate/value.Order -/
noncomputable def s92 : Sm := ⟨98, [v12, v101], [(320085, o10), (320079, o10)], 90000000000, v73, [(320085, some o10), (320079, some o10)], 0⟩
theorem i92 : SmIt Tryz.prog ENV s92 := smIt mixed (n := 3000) cx1 (by kernel_rfl) (by kernel_rfl)
/- mandate/value.Order -/
noncomputable def s93 : Sm := ⟨98, [v12, v159], [(320085, o10), (320077, o7)], 90000000000, v73, [(320085, some o10), (320077, some o7)], 0⟩
theorem i93 : SmIt Tryz.prog ENV s93 := smIt mixed (n := 3000) cx1 (by kernel_rfl) (by kernel_rfl)
/- mandate/value.Order -/
noncomputable def s94 : Sm := ⟨98, [v12, v72], [(320085, o10), (320083, o7)], 90000000000, v106, [(320085, some o10), (320083, some o7)], 0⟩
theorem i94 : SmIt Tryz.prog ENV s94 := smIt mixed (n := 3000) cx1 (by kernel_rfl) (by kernel_rfl)
/- mandate/lower.Text -/
noncomputable def s95 : Sm := ⟨50, [v72], [(320083, o7)], 90000000000, v18, [(320083, some o7)], 0⟩
theorem i95 : SmIt Tryz.prog ENV s95 := smIt mixed (n := 3000) cx1 (by kernel_rfl) (by kernel_rfl)
/- mandate/lower.Text -/
noncomputable def s96 : Sm := ⟨50, [v159], [(320077, o7)], 90000000000, v17, [(320077, some o7)], 0⟩
theorem i96 : SmIt Tryz.prog ENV s96 := smIt mixed (n := 3000) cx1 (by kernel_rfl) (by kernel_rfl)
/- mandate/value.Order -/
noncomputable def s97 : Sm := ⟨98, [v180, v19], [(320222, o10), (320220, o7)], 90000000000, v106, [(320222, some o10), (320220, some o7)], 0⟩
theorem i97 : SmIt Tryz.prog ENV s97 := smIt mixed (n := 3000) cx1 (by kernel_rfl) (by kernel_rfl)
/- mandate/value.Order -/
noncomputable def s98 : Sm := ⟨98, [v168, v180], [(320224, o7), (320222, o10)], 90000000000, v73, [(320224, some o7), (320222, some o10)], 0⟩
theorem i98 : SmIt Tryz.prog ENV s98 := smIt mixed (n := 3000) cx1 (by kernel_rfl) (by kernel_rfl)
/- mandate/value.Order -/
noncomputable def s99 : Sm := ⟨98, [v168, v19], [(320224, o7), (320220, o7)], 90000000000, v73, [(320224, some o7), (320220, some o7)], 0⟩
theorem i99 : SmIt Tryz.prog ENV s99 := smIt mixed (n := 3000) cx1 (by kernel_rfl) (by kernel_rfl)
/- mandate/value.Order -/
noncomputable def s100 : Sm := ⟨98, [v63, v180], [(320226, o7), (320222, o10)], 90000000000, v73, [(320226, some o7), (320222, some o10)], 0⟩
theorem i100 : SmIt Tryz.prog ENV s100 := smIt mixed (n := 3000) cx1 (by kernel_rfl) (by kernel_rfl)
/- mandate/value.Order -/
noncomputable def s101 : Sm := ⟨98, [v63, v19], [(320226, o7), (320220, o7)], 90000000000, v73, [(320226, some o7), (320220, some o7)], 0⟩
theorem i101 : SmIt Tryz.prog ENV s101 := smIt mixed (n := 3000) cx1 (by kernel_rfl) (by kernel_rfl)
/- mandate/value.Order -/
noncomputable def s102 : Sm := ⟨98, [v63, v168], [(320226, o7), (320224, o7)], 90000000000, v106, [(320226, some o7), (320224, some o7)], 0⟩
theorem i102 : SmIt Tryz.prog ENV s102 := smIt mixed (n := 3000) cx1 (by kernel_rfl) (by kernel_rfl)
/- mandate/value.Order -/
noncomputable def s103 : Sm := ⟨98, [v123, v180], [(320228, o10), (320222, o10)], 90000000000, v73, [(320228, some o10), (320222, some o10)], 0⟩
theorem i103 : SmIt Tryz.prog ENV s103 := smIt mixed (n := 3000) cx1 (by kernel_rfl) (by kernel_rfl)
/- mandate/value.Order -/
noncomputable def s104 : Sm := ⟨98, [v123, v19], [(320228, o10), (320220, o7)], 90000000000, v73, [(320228, some o10), (320220, some o7)], 0⟩
theorem i104 : SmIt Tryz.prog ENV s104 := smIt mixed (n := 3000) cx1 (by kernel_rfl) (by kernel_rfl)
/- mandate/value.Order -/
noncomputable def s105 : Sm := ⟨98, [v123, v63], [(320228, o10), (320226, o7)], 90000000000, v106, [(320228, some o10), (320226, some o7)], 0⟩
theorem i105 : SmIt Tryz.prog ENV s105 := smIt mixed (n := 3000) cx1 (by kernel_rfl) (by kernel_rfl)
end Go.Proofs.YtnjmpeilfolmcaaGreatDoor
