/- ProveDepths, part 2: the fixed run for every world that holds the program's table of bits; the law's own walk. -/
import Derived.Test.YtkiboofldjnapaaGreatDoorW1
import Derived.Test.YtkiboofldjnapaaGreatDoorVz
set_option linter.unusedSimpArgs false
set_option linter.unusedVariables false
set_option linter.unnecessarySimpa false

namespace Go.Proofs.YtkiboofldjnapaaGreatDoor
open Go Go.Abs Go.RowKit
/-- What the fixed run asks of the world: the program's variables are there; the table of bits holds its numbers. -/
def VarsOk (w : World) : Prop := 5 ≤ w.heap.size ∧ ∃ cs : Array Value, w.heap[2]? = some (.cells cs 302 (0, 0)) ∧ cs.toList = [.int .u8 (.ofNat 0), .int .u8 (.ofNat 1), .int .u8 (.ofNat 56), .int .u8 (.ofNat 2), .int .u8 (.ofNat 57), .int .u8 (.ofNat 49), .int .u8 (.ofNat 28), .int .u8 (.ofNat 3), .int .u8 (.ofNat 61), .int .u8 (.ofNat 58), .int .u8 (.ofNat 42), .int .u8 (.ofNat 50), .int .u8 (.ofNat 38), .int .u8 (.ofNat 29), .int .u8 (.ofNat 17), .int .u8 (.ofNat 4), .int .u8 (.ofNat 62), .int .u8 (.ofNat 47), .int .u8 (.ofNat 59), .int .u8 (.ofNat 36), .int .u8 (.ofNat 45), .int .u8 (.ofNat 43), .int .u8 (.ofNat 51), .int .u8 (.ofNat 22), .int .u8 (.ofNat 53), .int .u8 (.ofNat 39), .int .u8 (.ofNat 33), .int .u8 (.ofNat 30), .int .u8 (.ofNat 24), .int .u8 (.ofNat 18), .int .u8 (.ofNat 12), .int .u8 (.ofNat 5), .int .u8 (.ofNat 63), .int .u8 (.ofNat 55), .int .u8 (.ofNat 48), .int .u8 (.ofNat 27), .int .u8 (.ofNat 60), .int .u8 (.ofNat 41), .int .u8 (.ofNat 37), .int .u8 (.ofNat 16), .int .u8 (.ofNat 46), .int .u8 (.ofNat 35), .int .u8 (.ofNat 44), .int .u8 (.ofNat 21), .int .u8 (.ofNat 52), .int .u8 (.ofNat 32), .int .u8 (.ofNat 23), .int .u8 (.ofNat 11), .int .u8 (.ofNat 54), .int .u8 (.ofNat 26), .int .u8 (.ofNat 40), .int .u8 (.ofNat 15), .int .u8 (.ofNat 34), .int .u8 (.ofNat 20), .int .u8 (.ofNat 31), .int .u8 (.ofNat 10), .int .u8 (.ofNat 25), .int .u8 (.ofNat 14), .int .u8 (.ofNat 19), .int .u8 (.ofNat 9), .int .u8 (.ofNat 13), .int .u8 (.ofNat 8), .int .u8 (.ofNat 7), .int .u8 (.ofNat 6)]

theorem VarsOk.later {w w' : World} (h : VarsOk w) (hb : Below w.heap.size w w') : VarsOk w' := by
  obtain ⟨h1, cs, h2, h3⟩ := h
  exact ⟨Nat.le_trans h1 hb.size, cs, (hb.block 2 (by omega)).trans h2, h3⟩

set_option maxRecDepth 100000 in
theorem fixed_any {w : World} (h : VarsOk w) : Calls Tryz.prog 4 #[] w fun e w' => e = .returned (.bool true) ∧ Below w.heap.size w w' := by
  obtain ⟨h1, cs, h2, h3⟩ := h
  have hlen : cs.size = 64 := by
    have := congrArg List.length h3
    simpa using this
  let m0 : M := fun b => if b < 5 then some ⟨b, 0, 64, 64, 64⟩ else none
  have hm0 : ∀ b L, m0 b = some L → b < 5 ∧ L = ⟨b, 0, 64, 64, 64⟩ := by
    intro b L hm
    simp only [m0] at hm
    split at hm
    · cases hm; exact ⟨by assumption, rfl⟩
    · cases hm
  have hget : ∀ b x, b < 5 → H0.get b = some x → b = 2 ∧ ∃ l, x = .row l 302 false ∧ hl0 = [(2, .row l 302 false)] := by
    intro b x hb hx
    have := hOf_get (l := hl0) (fun y hy => by
      simp only [hl0, List.mem_singleton] at hy
      subst hy; show 2 < 2 ^ 40; omega) b x (by omega) hx
    simp only [hl0, List.mem_singleton, Prod.mk.injEq] at this
    obtain ⟨e1, e2⟩ := this
    exact ⟨e1, _, e2, rfl⟩
  have rel : Rel Tryz.prog ENV m0 H0 w := by
    refine ⟨?_, ?_, ?_, ?_, ?_, ?_⟩
    · intro b L x hm hx
      obtain ⟨hb, rfl⟩ := hm0 b L hm
      obtain ⟨rfl, l, rfl, hl⟩ := hget b x hb hx
      have hl : l = cs.toList := by
        rw [h3]
        simp only [hl0, List.cons.injEq, Prod.mk.injEq, AObj.row.injEq] at hl
        exact hl.1.2.1.symm
      subst hl
      refine ⟨cs, (0, 0), h2, hlen, by kernel_rfl, by simpa using hlen, by simp, ?_, fun h => by cases h⟩
      simp only [List.drop_zero]
      rw [List.take_of_length_le (by simp [hlen])]
      exact noAddrs_refl _ _ (by rw [h3]; rfl)
    · intro b L hm
      obtain ⟨hb, rfl⟩ := hm0 b L hm
      exact ⟨by show b < w.heap.size; omega, hb⟩
    · intro b b' L L' x x' hm hm' hx hx' hmut _
      obtain ⟨hb, rfl⟩ := hm0 b L hm
      obtain ⟨rfl, l, rfl, _⟩ := hget b x hb hx
      cases hmut
    · show 5 < 2 ^ 40; omega
    · intro g hg
      refine ⟨⟨g, 0, 64, 64, 64⟩, ?_, rfl, rfl⟩
      have hg : g < 5 := hg
      simp only [m0]
      rw [if_pos hg]
    · intro b L hm
      obtain ⟨hb, rfl⟩ := hm0 b L hm
      rfl
  refine (run_calls mixed cx5 fixed_run .nil rel (run_callFunc (c := (Tryz.f4.body).getD .skip) Tryz.func4 (by kernel_rfl) (by kernel_rfl) _)).mono ?_
  rintro e w' ⟨r, h', m', k1, k2, k3, k4⟩
  cases k2 with
  | panic v v' hv => cases k1
  | ret v v' hv =>
    have hv1 : v = .bool true := by
      cases v <;> first | (cases k1; done) | skip
      rename_i b
      have : b = true := k1
      rw [this]
    subst hv1
    cases hv
    refine ⟨rfl, k4.os, k4.tape, k4.output, k4.size, fun B hB => k4.keep B hB ?_⟩
    intro b L x hm hx hmut
    obtain ⟨hb, rfl⟩ := hm0 b L hm
    obtain ⟨rfl, l, rfl, _⟩ := hget b x hb hx
    cases hmut
end Go.Proofs.YtkiboofldjnapaaGreatDoor

namespace Go.Proofs.YtkiboofldjnapaaGreatDoor
open Go Go.Abs Go.RowKit

set_option maxRecDepth 100000 in
set_option maxHeartbeats 8000000 in
theorem law_big {w : World} (a : Option Addr) (n c : Nat) (hn : 300 < n) (h : VarsOk w) :
    Calls Tryz.prog 3 #[.slice a n c] w fun e w' => e = .returned (.bool true) ∧ RowKit.Below w.heap.size w w' := by
  have hle : (300 : Int) < n := by omega
  go_enter Tryz.func3, Tryz.ntmps3
  go_wp2_with fail
  refine (fixed_any h).mono ?_
  rintro e w1 ⟨rfl, b1⟩
  go_wp2_with fail
  go_ret
  exact ⟨rfl, b1⟩

set_option maxRecDepth 100000 in
set_option maxHeartbeats 8000000 in
theorem law_tail {w : World} (a : Option Addr) (n c : Nat) (D : ND) (hn : n ≤ 300) (hL : Hid (NAt w a n D)) (h : VarsOk w) :
    Calls Tryz.prog 3 #[.slice a n c] w fun e w' => e = .returned (.bool true) ∧ RowKit.Below w.heap.size w w' := by
  have hle : ¬ (300 : Int) < n := by omega
  go_enter Tryz.func3, Tryz.ntmps3
  go_wp2_with fail
  refine (fixed_any h).mono ?_
  rintro e w1 ⟨rfl, b1⟩
  have hL1 : Hid (NAt w1 a n D) := ⟨hL.un.later b1 rfl⟩
  clear h
  go_wp2_with fail
  go_loopw [3] (fun i wr => ∃ k : Nat, k ≤ n ∧ i = .int .i64 k ∧ Hid (∀ j, j < k → D.ms j ≤ 20) ∧ wr = w1) (fun i _ => n - (intOf i).toNat)
  case atStart => exact ⟨0, Nat.zero_le _, rfl, ⟨fun j h => by omega⟩, rfl⟩
  case round =>
    obtain ⟨k, hk, rfl, hm, rfl⟩ := hrel
    by_cases hlt : k < n
    · obtain ⟨b, off, rfl, hr⟩ := hL1.un (by omega)
      have c4 := hr.c4 k hlt
      clear hr
      by_cases hg : D.ms k ≤ 20
      · have hg' : ¬ (20 : Int) < D.ms k := by omega
        go_wp2_with fail
        go_roundw
        case rel =>
          refine ⟨k + 1, by omega, by go_num, ⟨fun j hj => ?_⟩, trivial⟩
          by_cases hjk : j < k
          · exact hm.un j hjk
          · obtain rfl : j = k := by omega
            exact hg
        case measure => simp [intOf]; omega
      · have hg' : (20 : Int) < D.ms k := by omega
        go_wp2_with fail
        go_ret
        exact ⟨rfl, b1⟩
    · obtain rfl : k = n := by omega
      go_wp2_with fail
      refine (depth a k c D wr hn hm hL1).mono ?_
      rintro e w2 ⟨rfl, b2⟩
      have B2 := b1.trans (b2.mono b1.size)
      have hL2 : Hid (NAt w2 a k D) := ⟨hL1.un.later b2 rfl⟩
      go_wp2_with fail
      refine (rdepth a k c D w2 hn hm hL2).mono ?_
      rintro e w3 ⟨rfl, b3⟩
      have B3 := B2.trans (b3.mono B2.size)
      clear b2 b3 B2
      go_wp2_with fail
      go_ret
      exact ⟨rfl, B3⟩

theorem law_any {w : World} (a : Option Addr) (n c : Nat) (D : ND) (hL : NAt w a n D) (h : VarsOk w) :
    Calls Tryz.prog 3 #[.slice a n c] w fun e w' => e = .returned (.bool true) ∧ RowKit.Below w.heap.size w w' := by
  by_cases hn : n ≤ 300
  · exact law_tail a n c D hn ⟨hL⟩ h
  · exact law_big a n c (by omega) h
end Go.Proofs.YtkiboofldjnapaaGreatDoor
