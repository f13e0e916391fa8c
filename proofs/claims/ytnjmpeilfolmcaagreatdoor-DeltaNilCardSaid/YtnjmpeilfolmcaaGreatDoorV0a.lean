/- Calls that were run ahead, printed by program. -/
import Derived.Test.YtnjmpeilfolmcaaGreatDoorU0
namespace Go.Proofs.YtnjmpeilfolmcaaGreatDoor
open Go Go.Abs
set_option maxRecDepth 100000
/- mandate/value.Name -/
noncomputable def s0 : Sm := ⟨67, [v119], [], 100000000000, (.bool true), [], 0⟩
theorem i0 : SmIt Tryz.prog ENV s0 := smIt mixed (n := 3000) cx0 (by kernel_rfl) (by kernel_rfl)
/- mandate/value.Name -/
noncomputable def s1 : Sm := ⟨67, [v47], [], 100000000000, (.bool true), [], 0⟩
theorem i1 : SmIt Tryz.prog ENV s1 := smIt mixed (n := 3000) cx0 (by kernel_rfl) (by kernel_rfl)
/- mandate/value.Name -/
noncomputable def s2 : Sm := ⟨67, [v48], [], 100000000000, (.bool true), [], 0⟩
theorem i2 : SmIt Tryz.prog ENV s2 := smIt mixed (n := 3000) cx0 (by kernel_rfl) (by kernel_rfl)
/- mandate/value.Name -/
noncomputable def s3 : Sm := ⟨67, [(.string ⟨⟨[b112]⟩⟩)], [], 100000000000, (.bool true), [], 0⟩
theorem i3 : SmIt Tryz.prog ENV s3 := smIt mixed (n := 3000) cx0 (by kernel_rfl) (by kernel_rfl)
/- mandate/value.Name -/
noncomputable def s4 : Sm := ⟨67, [(.string ⟨⟨[b49]⟩⟩)], [], 100000000000, (.bool false), [], 0⟩
theorem i4 : SmIt Tryz.prog ENV s4 := smIt mixed (n := 3000) cx0 (by kernel_rfl) (by kernel_rfl)
/- mandate/value.Name -/
noncomputable def s5 : Sm := ⟨67, [(.string ⟨⟨[b48]⟩⟩)], [], 100000000000, (.bool false), [], 0⟩
theorem i5 : SmIt Tryz.prog ENV s5 := smIt mixed (n := 3000) cx0 (by kernel_rfl) (by kernel_rfl)
/- mandate/value.Name -/
noncomputable def s6 : Sm := ⟨67, [v6], [], 100000000000, (.bool true), [], 0⟩
theorem i6 : SmIt Tryz.prog ENV s6 := smIt mixed (n := 3000) cx0 (by kernel_rfl) (by kernel_rfl)
/- mandate/value.Name -/
noncomputable def s7 : Sm := ⟨67, [v5], [], 100000000000, (.bool true), [], 0⟩
theorem i7 : SmIt Tryz.prog ENV s7 := smIt mixed (n := 3000) cx0 (by kernel_rfl) (by kernel_rfl)
/- mandate/value.Name -/
noncomputable def s8 : Sm := ⟨67, [(.string ⟨⟨[b50, b48]⟩⟩)], [], 100000000000, (.bool false), [], 0⟩
theorem i8 : SmIt Tryz.prog ENV s8 := smIt mixed (n := 3000) cx0 (by kernel_rfl) (by kernel_rfl)
/- mandate/value.Name -/
noncomputable def s9 : Sm := ⟨67, [(.string ⟨⟨[b57]⟩⟩)], [], 100000000000, (.bool false), [], 0⟩
theorem i9 : SmIt Tryz.prog ENV s9 := smIt mixed (n := 3000) cx0 (by kernel_rfl) (by kernel_rfl)
/- mandate/value.Name -/
noncomputable def s10 : Sm := ⟨67, [(.string ⟨⟨[b57, b48, b48]⟩⟩)], [], 100000000000, (.bool false), [], 0⟩
theorem i10 : SmIt Tryz.prog ENV s10 := smIt mixed (n := 3000) cx0 (by kernel_rfl) (by kernel_rfl)
/- mandate/value.Name -/
noncomputable def s12 : Sm := ⟨67, [(.string ⟨⟨[b97]⟩⟩)], [], 100000000000, (.bool true), [], 0⟩
theorem i12 : SmIt Tryz.prog ENV s12 := smIt mixed (n := 3000) cx0 (by kernel_rfl) (by kernel_rfl)
/- mandate/value.Name -/
noncomputable def s16 : Sm := ⟨67, [(.string ⟨⟨[b98]⟩⟩)], [], 100000000000, (.bool true), [], 0⟩
theorem i16 : SmIt Tryz.prog ENV s16 := smIt mixed (n := 3000) cx0 (by kernel_rfl) (by kernel_rfl)
/- mandate/value.Name -/
noncomputable def s20 : Sm := ⟨67, [(.string ⟨⟨[b88]⟩⟩)], [], 100000000000, (.bool false), [], 0⟩
theorem i20 : SmIt Tryz.prog ENV s20 := smIt mixed (n := 3000) cx0 (by kernel_rfl) (by kernel_rfl)
end Go.Proofs.YtnjmpeilfolmcaaGreatDoor
