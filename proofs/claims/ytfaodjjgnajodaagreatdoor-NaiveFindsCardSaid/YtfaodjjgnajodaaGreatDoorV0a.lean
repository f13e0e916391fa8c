/- Calls that were run ahead, printed by program. -/
import Derived.Test.YtfaodjjgnajodaaGreatDoorU0
namespace Go.Proofs.YtfaodjjgnajodaaGreatDoor
open Go Go.Abs
set_option maxRecDepth 100000
/- mandate/value.Name -/
noncomputable def s0 : Sm := ⟨79, [v69], [], 100000000000, (.bool true), [], 0⟩
theorem i0 : SmIt Tryz.prog ENV s0 := smIt mixed (n := 3000) cx0 (by kernel_rfl) (by kernel_rfl)
/- mandate/value.Name -/
noncomputable def s1 : Sm := ⟨79, [v28], [], 100000000000, (.bool true), [], 0⟩
theorem i1 : SmIt Tryz.prog ENV s1 := smIt mixed (n := 3000) cx0 (by kernel_rfl) (by kernel_rfl)
/- mandate/value.Name -/
noncomputable def s2 : Sm := ⟨79, [v11], [], 100000000000, (.bool true), [], 0⟩
theorem i2 : SmIt Tryz.prog ENV s2 := smIt mixed (n := 3000) cx0 (by kernel_rfl) (by kernel_rfl)
/- mandate/value.Name -/
noncomputable def s3 : Sm := ⟨79, [(.string ⟨⟨[b112]⟩⟩)], [], 100000000000, (.bool true), [], 0⟩
theorem i3 : SmIt Tryz.prog ENV s3 := smIt mixed (n := 3000) cx0 (by kernel_rfl) (by kernel_rfl)
/- mandate/value.Name -/
noncomputable def s4 : Sm := ⟨79, [(.string ⟨⟨[b49]⟩⟩)], [], 100000000000, (.bool false), [], 0⟩
theorem i4 : SmIt Tryz.prog ENV s4 := smIt mixed (n := 3000) cx0 (by kernel_rfl) (by kernel_rfl)
/- mandate/value.Name -/
noncomputable def s5 : Sm := ⟨79, [(.string ⟨⟨[b48]⟩⟩)], [], 100000000000, (.bool false), [], 0⟩
theorem i5 : SmIt Tryz.prog ENV s5 := smIt mixed (n := 3000) cx0 (by kernel_rfl) (by kernel_rfl)
/- mandate/value.Name -/
noncomputable def s6 : Sm := ⟨79, [(.string ⟨⟨[b113]⟩⟩)], [], 100000000000, (.bool true), [], 0⟩
theorem i6 : SmIt Tryz.prog ENV s6 := smIt mixed (n := 3000) cx0 (by kernel_rfl) (by kernel_rfl)
/- mandate/value.Name -/
noncomputable def s7 : Sm := ⟨79, [(.string ⟨⟨[b50]⟩⟩)], [], 100000000000, (.bool false), [], 0⟩
theorem i7 : SmIt Tryz.prog ENV s7 := smIt mixed (n := 3000) cx0 (by kernel_rfl) (by kernel_rfl)
/- mandate/value.Name -/
noncomputable def s8 : Sm := ⟨79, [v7], [], 100000000000, (.bool true), [], 0⟩
theorem i8 : SmIt Tryz.prog ENV s8 := smIt mixed (n := 3000) cx0 (by kernel_rfl) (by kernel_rfl)
/- mandate/value.Name -/
noncomputable def s9 : Sm := ⟨79, [v5], [], 100000000000, (.bool true), [], 0⟩
theorem i9 : SmIt Tryz.prog ENV s9 := smIt mixed (n := 3000) cx0 (by kernel_rfl) (by kernel_rfl)
/- mandate/value.Name -/
noncomputable def s10 : Sm := ⟨79, [(.string ⟨⟨[b50, b48]⟩⟩)], [], 100000000000, (.bool false), [], 0⟩
theorem i10 : SmIt Tryz.prog ENV s10 := smIt mixed (n := 3000) cx0 (by kernel_rfl) (by kernel_rfl)
/- mandate/value.Name -/
noncomputable def s11 : Sm := ⟨79, [(.string ⟨⟨[b57]⟩⟩)], [], 100000000000, (.bool false), [], 0⟩
theorem i11 : SmIt Tryz.prog ENV s11 := smIt mixed (n := 3000) cx0 (by kernel_rfl) (by kernel_rfl)
/- mandate/value.Name -/
noncomputable def s12 : Sm := ⟨79, [(.string ⟨⟨[b57, b48, b48]⟩⟩)], [], 100000000000, (.bool false), [], 0⟩
theorem i12 : SmIt Tryz.prog ENV s12 := smIt mixed (n := 3000) cx0 (by kernel_rfl) (by kernel_rfl)
/- mandate/value.Name -/
noncomputable def s14 : Sm := ⟨79, [(.string ⟨⟨[b97]⟩⟩)], [], 100000000000, (.bool true), [], 0⟩
theorem i14 : SmIt Tryz.prog ENV s14 := smIt mixed (n := 3000) cx0 (by kernel_rfl) (by kernel_rfl)
/- mandate/value.Name -/
noncomputable def s18 : Sm := ⟨79, [(.string ⟨⟨[b88]⟩⟩)], [], 100000000000, (.bool false), [], 0⟩
theorem i18 : SmIt Tryz.prog ENV s18 := smIt mixed (n := 3000) cx0 (by kernel_rfl) (by kernel_rfl)
/- mandate/value.Name -/
noncomputable def s22 : Sm := ⟨79, [(.string ⟨⟨[b98]⟩⟩)], [], 100000000000, (.bool true), [], 0⟩
theorem i22 : SmIt Tryz.prog ENV s22 := smIt mixed (n := 3000) cx0 (by kernel_rfl) (by kernel_rfl)
/- mandate/value.Name -/
noncomputable def s26 : Sm := ⟨79, [(.string ⟨⟨[b99]⟩⟩)], [], 100000000000, (.bool true), [], 0⟩
theorem i26 : SmIt Tryz.prog ENV s26 := smIt mixed (n := 3000) cx0 (by kernel_rfl) (by kernel_rfl)
/- mandate/value.Name -/
noncomputable def s30 : Sm := ⟨79, [(.string ⟨⟨[b90]⟩⟩)], [], 100000000000, (.bool false), [], 0⟩
theorem i30 : SmIt Tryz.prog ENV s30 := smIt mixed (n := 3000) cx0 (by kernel_rfl) (by kernel_rfl)
/- mandate/value.Name -/
noncomputable def s31 : Sm := ⟨79, [(.string ⟨⟨[b89]⟩⟩)], [], 100000000000, (.bool false), [], 0⟩
theorem i31 : SmIt Tryz.prog ENV s31 := smIt mixed (n := 3000) cx0 (by kernel_rfl) (by kernel_rfl)
end Go.Proofs.YtfaodjjgnajodaaGreatDoor
