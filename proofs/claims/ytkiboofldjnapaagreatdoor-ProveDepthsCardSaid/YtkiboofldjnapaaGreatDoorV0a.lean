/- Calls that were run ahead, printed by program. -/
import Derived.Test.YtkiboofldjnapaaGreatDoorU0
namespace Go.Proofs.YtkiboofldjnapaaGreatDoor
open Go Go.Abs
set_option maxRecDepth 100000
/- mandate/value.Name -/
noncomputable def s0 : Sm := ⟨49, [v29], [], 100000000000, (.bool true), [], 0⟩
theorem i0 : SmIt Tryz.prog ENV s0 := smIt mixed (n := 3000) cx0 (by kernel_rfl) (by kernel_rfl)
/- mandate/value.Name -/
noncomputable def s1 : Sm := ⟨49, [v53], [], 100000000000, (.bool true), [], 0⟩
theorem i1 : SmIt Tryz.prog ENV s1 := smIt mixed (n := 3000) cx0 (by kernel_rfl) (by kernel_rfl)
/- mandate/value.Name -/
noncomputable def s2 : Sm := ⟨49, [(.string ⟨⟨[b112]⟩⟩)], [], 100000000000, (.bool true), [], 0⟩
theorem i2 : SmIt Tryz.prog ENV s2 := smIt mixed (n := 3000) cx0 (by kernel_rfl) (by kernel_rfl)
/- mandate/value.Name -/
noncomputable def s3 : Sm := ⟨49, [(.string ⟨⟨[b49]⟩⟩)], [], 100000000000, (.bool false), [], 0⟩
theorem i3 : SmIt Tryz.prog ENV s3 := smIt mixed (n := 3000) cx0 (by kernel_rfl) (by kernel_rfl)
/- mandate/value.Name -/
noncomputable def s4 : Sm := ⟨49, [(.string ⟨⟨[b48]⟩⟩)], [], 100000000000, (.bool false), [], 0⟩
theorem i4 : SmIt Tryz.prog ENV s4 := smIt mixed (n := 3000) cx0 (by kernel_rfl) (by kernel_rfl)
/- mandate/value.Name -/
noncomputable def s5 : Sm := ⟨49, [v6], [], 100000000000, (.bool true), [], 0⟩
theorem i5 : SmIt Tryz.prog ENV s5 := smIt mixed (n := 3000) cx0 (by kernel_rfl) (by kernel_rfl)
/- mandate/value.Name -/
noncomputable def s6 : Sm := ⟨49, [v3], [], 100000000000, (.bool true), [], 0⟩
theorem i6 : SmIt Tryz.prog ENV s6 := smIt mixed (n := 3000) cx0 (by kernel_rfl) (by kernel_rfl)
/- mandate/value.Name -/
noncomputable def s7 : Sm := ⟨49, [(.string ⟨⟨[b50, b48]⟩⟩)], [], 100000000000, (.bool false), [], 0⟩
theorem i7 : SmIt Tryz.prog ENV s7 := smIt mixed (n := 3000) cx0 (by kernel_rfl) (by kernel_rfl)
/- mandate/value.Name -/
noncomputable def s8 : Sm := ⟨49, [(.string ⟨⟨[b57]⟩⟩)], [], 100000000000, (.bool false), [], 0⟩
theorem i8 : SmIt Tryz.prog ENV s8 := smIt mixed (n := 3000) cx0 (by kernel_rfl) (by kernel_rfl)
/- mandate/value.Name -/
noncomputable def s9 : Sm := ⟨49, [(.string ⟨⟨[b57, b48, b48]⟩⟩)], [], 100000000000, (.bool false), [], 0⟩
theorem i9 : SmIt Tryz.prog ENV s9 := smIt mixed (n := 3000) cx0 (by kernel_rfl) (by kernel_rfl)
/- mandate/value.Name -/
noncomputable def s11 : Sm := ⟨49, [(.string ⟨⟨[b97]⟩⟩)], [], 100000000000, (.bool true), [], 0⟩
theorem i11 : SmIt Tryz.prog ENV s11 := smIt mixed (n := 3000) cx0 (by kernel_rfl) (by kernel_rfl)
/- mandate/value.Name -/
noncomputable def s15 : Sm := ⟨49, [(.string ⟨⟨[b98]⟩⟩)], [], 100000000000, (.bool true), [], 0⟩
theorem i15 : SmIt Tryz.prog ENV s15 := smIt mixed (n := 3000) cx0 (by kernel_rfl) (by kernel_rfl)
/- mandate/value.Name -/
noncomputable def s19 : Sm := ⟨49, [(.string ⟨⟨[b88]⟩⟩)], [], 100000000000, (.bool false), [], 0⟩
theorem i19 : SmIt Tryz.prog ENV s19 := smIt mixed (n := 3000) cx0 (by kernel_rfl) (by kernel_rfl)
end Go.Proofs.YtkiboofldjnapaaGreatDoor
