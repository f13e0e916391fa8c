/- DeltaNil, part 1: what the law's code does: the walks of the functions that it calls at a base that is not there and at any tuple, and the fixed run, for every world that holds the program's table of bits. -/
import Derived.Test.YtnjmpeilfolmcaaGreatDoorProg
import Derived.Tactics
import Derived.Tactics2
import Derived.WalkKit
import Derived.LoopTactic
import Derived.Deep.QuietTactic
import Derived.BigQuiet
import Derived.Outline
import Derived.StillTailTactics
import Derived.KernelRfl
import Derived.Test.YtnjmpeilfolmcaaGreatDoorVz
set_option linter.unusedSimpArgs false
set_option linter.unusedVariables false

namespace Go.Proofs
open Go.RowKit
set_option maxHeartbeats 1000000 in
theorem bytes_self (s : ByteArray) (w : World) (hs : s.size ≤ maxLen) : Calls Tryz.prog 56 #[.string s, .string s] w fun e w' => e = .returned (.int .i64 0) ∧ ∃ n, w' = w.drewN n := by
  unfold maxLen at hs
  go_enter Tryz.func56, Tryz.ntmps56
  go_wp2
  go_loopw [5] (fun i wr => ∃ k : Nat, k ≤ s.size ∧ i = .int .i64 k ∧ ∃ n, wr = w.drewN n) (fun i _ => s.size - (intOf i).toNat)
  case atStart => exact ⟨0, Nat.zero_le _, rfl, 0, rfl⟩
  case round =>
    obtain ⟨k, hk, rfl, n, rfl⟩ := hrel
    by_cases hlt : k < s.size
    · have hki : (k : Int) < s.size := by omega
      go_wp2
      go_quiet (fail)
      go_wp2
      go_quiet (fail)
      go_wp2
      go_roundw
      case rel => exact ⟨k + 1, by omega, by go_num, _, rfl⟩
      case measure => simp [intOf]; omega
    · go_wp2
      go_ret
      exact ⟨rfl, n, rfl⟩

set_option maxHeartbeats 1000000 in
theorem compare_self (s : ByteArray) (n : Int) (w : World) (hs : s.size ≤ maxLen) : Calls Tryz.prog 57 #[.agg #[.string s, .int .i64 n], .agg #[.string s, .int .i64 n]] w fun e w' => e = .returned (.int .i64 0) ∧ Below w.heap.size w w' := by
  have hs' := hs
  unfold maxLen at hs
  by_cases h0 : s.size = 0
  · go_enter Tryz.func57, Tryz.ntmps57
    go_wp2_with (go_at_call 56; refine (bytes_self _ _ hs').mono ?_; rintro e w' ⟨rfl, m, rfl⟩)
    go_ret
    exact ⟨rfl, rfl, rfl, rfl, (((Below.refl _ _).alloc (Nat.le_refl _) _).alloc (by simp) _).size, (((Below.refl _ _).alloc (Nat.le_refl _) _).alloc (by simp) _).block⟩
  · go_enter Tryz.func57, Tryz.ntmps57
    go_wp2_with (go_at_call 56; refine (bytes_self _ _ hs').mono ?_; rintro e w' ⟨rfl, m, rfl⟩)
    go_ret
    exact ⟨rfl, rfl, rfl, rfl, (((Below.refl _ _).alloc (Nat.le_refl _) _).alloc (by simp) _).size, (((Below.refl _ _).alloc (Nat.le_refl _) _).alloc (by simp) _).block⟩

set_option maxRecDepth 100000 in
set_option maxHeartbeats 4000000 in
theorem order_self (p : ByteArray) (b off n c : Nat) (ss : Nat → ByteArray) (ns : Nat → Int) (w : World) (hp : p.size ≤ maxLen) (hn : n ≤ maxLen) (hb : b < w.heap.size)
    (hss : ∀ k, k < n → (ss k).size ≤ maxLen)
    (hc0 : ∀ k, k < n → w.cell? ⟨b, off + k * 2, none⟩ = some (.string (ss k)))
    (hc1 : ∀ k, k < n → w.cell? ⟨b, off + k * 2 + 1, none⟩ = some (.int .i64 (ns k))) :
    Calls Tryz.prog 23 #[.agg #[.string p, .slice (some ⟨b, off, none⟩) n c], .agg #[.string p, .slice (some ⟨b, off, none⟩) n c]] w fun e w' => e = .returned (.int .i64 0) ∧ Below w.heap.size w w' := by
  unfold maxLen at hn
  go_enter Tryz.func23, Tryz.ntmps23
  go_wp2_with (go_at_call 56; refine (bytes_self _ _ hp).mono ?_; rintro e w' ⟨rfl, m, rfl⟩)
  go_loopw [6] (fun i wr => ∃ k : Nat, k ≤ n ∧ i = .int .i64 k ∧ Below w.heap.size w wr ∧ wr.cell? ⟨w.heap.size, 0, none⟩ = some (.string p) ∧ wr.cell? ⟨w.heap.size, 1, none⟩ = some (.slice (some ⟨b, off, none⟩) n c) ∧ wr.cell? ⟨w.heap.size + 1, 0, none⟩ = some (.string p) ∧ wr.cell? ⟨w.heap.size + 1, 1, none⟩ = some (.slice (some ⟨b, off, none⟩) n c) ∧ w.heap.size + 2 ≤ wr.heap.size) (fun i _ => n - (intOf i).toNat)
  case atStart =>
    have hB : Below w.heap.size w (((w.alloc (.cells #[.string p, .slice (some ⟨b, off, none⟩) n c] 24)).alloc (.cells #[.string p, .slice (some ⟨b, off, none⟩) n c] 24)).drewN m) :=
      ⟨rfl, rfl, rfl, (((Below.refl _ _).alloc (Nat.le_refl _) _).alloc (by simp) _).size, (((Below.refl _ _).alloc (Nat.le_refl _) _).alloc (by simp) _).block⟩
    exact ⟨0, Nat.zero_le _, rfl, hB, by simp [go_sem], by simp [go_sem], by simp [go_sem], by simp [go_sem], by simp [go_sem]⟩
  case round =>
    obtain ⟨k, hk, rfl, hbe, h1, h2, h3, h4, h5⟩ := hrel
    by_cases hlt : k < n
    · have c0 := (hbe.cell (p := ⟨b, off + k * 2, none⟩) hb).trans (hc0 k hlt)
      have c1 := (hbe.cell (p := ⟨b, off + k * 2 + 1, none⟩) hb).trans (hc1 k hlt)
      have hs := hss k hlt
      go_wp2
      go_still_tail 10, (by kernel_rfl)
      go_wp2_with (go_at_call 57; refine (compare_self _ _ _ hs).mono ?_; rintro e w' ⟨rfl, hb1⟩)
      have hb2 : Below wr.heap.size wr w' := ⟨hb1.os, hb1.tape, hb1.output, hb1.size, hb1.block⟩
      clear hb1
      go_roundw
      case rel =>
        exact ⟨k + 1, by omega, by go_num, hbe.trans (hb2.mono hbe.size), (hb2.cell (p := ⟨w.heap.size, 0, none⟩) (by show w.heap.size < wr.heap.size; omega)).trans h1, (hb2.cell (p := ⟨w.heap.size, 1, none⟩) (by show w.heap.size < wr.heap.size; omega)).trans h2,
          (hb2.cell (p := ⟨w.heap.size + 1, 0, none⟩) (by show w.heap.size + 1 < wr.heap.size; omega)).trans h3, (hb2.cell (p := ⟨w.heap.size + 1, 1, none⟩) (by show w.heap.size + 1 < wr.heap.size; omega)).trans h4, by have := hb2.size; omega⟩
      case measure => simp [intOf]; omega
    · go_wp2
      go_ret
      exact ⟨rfl, hbe⟩

set_option maxRecDepth 100000 in
set_option maxHeartbeats 4000000 in
theorem order_self_nil (p : ByteArray) (a : Option Addr) (c : Nat) (w : World) (hp : p.size ≤ maxLen) :
    Calls Tryz.prog 23 #[.agg #[.string p, .slice a 0 c], .agg #[.string p, .slice a 0 c]] w fun e w' => e = .returned (.int .i64 0) ∧ Below w.heap.size w w' := by
  go_enter Tryz.func23, Tryz.ntmps23
  go_wp2_with (go_at_call 56; refine (bytes_self _ _ hp).mono ?_; rintro e w' ⟨rfl, m, rfl⟩)
  refine wp_loop_rounds 1 ?_
  rw [rounds_succ]
  go_wp2
  go_ret
  exact ⟨rfl, rfl, rfl, rfl, (((Below.refl _ _).alloc (Nat.le_refl _) _).alloc (by simp) _).size, (((Below.refl _ _).alloc (Nat.le_refl _) _).alloc (by simp) _).block⟩

/-- What a tuple's value is. -/
inductive TupV (w : World) : Value → Prop
  | nil (p : ByteArray) (a : Option Addr) (c : Nat) (hp : p.size ≤ maxLen) : TupV w (.agg #[.string p, .slice a 0 c])
  | row (p : ByteArray) (b off n c : Nat) (ss : Nat → ByteArray) (ns : Nat → Int) (hp : p.size ≤ maxLen) (hn : n ≤ maxLen) (hb : b < w.heap.size) (hss : ∀ k, k < n → (ss k).size ≤ maxLen)
    (hc0 : ∀ k, k < n → w.cell? ⟨b, off + k * 2, none⟩ = some (.string (ss k))) (hc1 : ∀ k, k < n → w.cell? ⟨b, off + k * 2 + 1, none⟩ = some (.int .i64 (ns k))) : TupV w (.agg #[.string p, .slice (some ⟨b, off, none⟩) n c])

theorem TupV.later {w w' : World} {v : Value} (h : TupV w v) (hb : Below w.heap.size w w') : TupV w' v := by
  cases h with
  | nil p a c hp => exact .nil p a c hp
  | row p b off n c ss ns hp hn hlt hss hc0 hc1 =>
    exact .row p b off n c ss ns hp hn (Nat.lt_of_lt_of_le hlt hb.size) hss (fun k hk => (hb.cell (p := ⟨b, off + k * 2, none⟩) hlt).trans (hc0 k hk)) (fun k hk => (hb.cell (p := ⟨b, off + k * 2 + 1, none⟩) hlt).trans (hc1 k hk))

theorem order_any_self {w : World} {v : Value} (h : TupV w v) : Calls Tryz.prog 23 #[v, v] w fun e w' => e = .returned (.int .i64 0) ∧ Below w.heap.size w w' := by
  cases h with
  | nil p a c hp => exact order_self_nil p a c w hp
  | row p b off n c ss ns hp hn hlt hss hc0 hc1 => exact order_self p b off n c ss ns w hp hn hlt hss hc0 hc1

set_option maxHeartbeats 1000000 in
theorem same_self {w : World} {v : Value} (h : TupV w v) : Calls Tryz.prog 10 #[v, v] w fun e w' => e = .returned (.bool true) ∧ Below w.heap.size w w' := by
  have hv : ∃ x y, v = .agg #[x, y] := by cases h <;> exact ⟨_, _, rfl⟩
  obtain ⟨x, y, rfl⟩ := hv
  have hB : Below w.heap.size w ((w.alloc (.cells #[x, y] 24)).alloc (.cells #[x, y] 24)) := ((Below.refl _ _).alloc (Nat.le_refl _) _).alloc (by simp) _
  have h' := h.later hB
  go_enter Tryz.func10, Tryz.ntmps10
  go_wp2_with (go_at_call 23; refine (order_any_self h').mono ?_; rintro e w' ⟨rfl, hb1⟩)
  go_ret
  exact ⟨rfl, hB.trans (hb1.mono hB.size)⟩
end Go.Proofs

namespace Go.Proofs
open Go.RowKit
theorem bel2 {w : World} (o1 o2 : Obj) (n : Nat) : Below w.heap.size w (((w.alloc o1).alloc o2).drewN n) :=
  ⟨rfl, rfl, rfl, (((Below.refl _ _).alloc (Nat.le_refl _) _).alloc (by simp) _).size, (((Below.refl _ _).alloc (Nat.le_refl _) _).alloc (by simp) _).block⟩
set_option maxRecDepth 100000 in
set_option maxHeartbeats 1000000 in
theorem model_nil (n : Int) (w : World) : Calls Tryz.prog 5 #[.pointer none, .int .i64 n] w fun e w' => e = .returned (.tuple #[.slice none 0 0, .bool false, .int .i64 1]) ∧ Below w.heap.size w w' := by
  go_enter Tryz.func5, Tryz.ntmps5
  go_wp2
  go_quiet (fail)
  go_wp2
  go_ret3
  exact ⟨rfl, bel2 _ _ _⟩
set_option maxHeartbeats 1000000 in
theorem over_nil (w : World) : Calls Tryz.prog 7 #[.pointer none] w fun e w' => e = .returned (.int .u64 0) ∧ w = w' := by
  go_enter Tryz.func7, Tryz.ntmps7
  go_wp2
  go_ret
  exact ⟨rfl, rfl⟩
set_option maxHeartbeats 1000000 in
theorem mask_nil (x y : Value) (w : World) : Calls Tryz.prog 8 #[.pointer none, .agg #[x, y]] w fun e w' => e = .returned (.int .u64 0) ∧ Below w.heap.size w w' := by
  go_enter Tryz.func8, Tryz.ntmps8
  go_wp2
  go_ret
  exact ⟨rfl, (Below.refl _ _).alloc (Nat.le_refl _) _⟩
set_option maxHeartbeats 1000000 in
theorem len_nil (w : World) : Calls Tryz.prog 9 #[.pointer none] w fun e w' => e = .returned (.int .i64 0) ∧ Below w.heap.size w w' := by
  go_enter Tryz.func9, Tryz.ntmps9
  go_wp2
  go_ret
  exact ⟨rfl, ((Below.refl _ _).alloc (Nat.le_refl _) _).alloc (by simp) _⟩
set_option maxHeartbeats 1000000 in
theorem select_nil (n : Int) (f : Array Value) (w : World) : Calls Tryz.prog 6 #[.pointer none, .int .i64 n, .agg f] w fun e w' => e = .returned (.tuple #[.slice none 0 0, .bool false, .int .i64 1]) ∧ Below w.heap.size w w' := by
  have hB : Below w.heap.size w (w.alloc (.cells f 36)) := (Below.refl _ _).alloc (Nat.le_refl _) _
  go_enter Tryz.func6, Tryz.ntmps6
  go_wp2_with (go_at_call 5; refine (model_nil _ _).mono ?_; rintro e w' ⟨rfl, hb1⟩)
  go_ret3
  exact ⟨rfl, hB.trans (hb1.mono hB.size)⟩

end Go.Proofs
namespace Go.Proofs.YtnjmpeilfolmcaaGreatDoor
open Go Go.Abs Go.RowKit
/-- What the fixed run asks of the world: the program's variables are there; the table of bits holds its numbers. -/
def VarsOk (w : World) : Prop := 5 ≤ w.heap.size ∧ ∃ cs : Array Value, w.heap[2]? = some (.cells cs 327 (0, 0)) ∧ cs.toList = [.int .u8 (.ofNat 0), .int .u8 (.ofNat 1), .int .u8 (.ofNat 56), .int .u8 (.ofNat 2), .int .u8 (.ofNat 57), .int .u8 (.ofNat 49), .int .u8 (.ofNat 28), .int .u8 (.ofNat 3), .int .u8 (.ofNat 61), .int .u8 (.ofNat 58), .int .u8 (.ofNat 42), .int .u8 (.ofNat 50), .int .u8 (.ofNat 38), .int .u8 (.ofNat 29), .int .u8 (.ofNat 17), .int .u8 (.ofNat 4), .int .u8 (.ofNat 62), .int .u8 (.ofNat 47), .int .u8 (.ofNat 59), .int .u8 (.ofNat 36), .int .u8 (.ofNat 45), .int .u8 (.ofNat 43), .int .u8 (.ofNat 51), .int .u8 (.ofNat 22), .int .u8 (.ofNat 53), .int .u8 (.ofNat 39), .int .u8 (.ofNat 33), .int .u8 (.ofNat 30), .int .u8 (.ofNat 24), .int .u8 (.ofNat 18), .int .u8 (.ofNat 12), .int .u8 (.ofNat 5), .int .u8 (.ofNat 63), .int .u8 (.ofNat 55), .int .u8 (.ofNat 48), .int .u8 (.ofNat 27), .int .u8 (.ofNat 60), .int .u8 (.ofNat 41), .int .u8 (.ofNat 37), .int .u8 (.ofNat 16), .int .u8 (.ofNat 46), .int .u8 (.ofNat 35), .int .u8 (.ofNat 44), .int .u8 (.ofNat 21), .int .u8 (.ofNat 52), .int .u8 (.ofNat 32), .int .u8 (.ofNat 23), .int .u8 (.ofNat 11), .int .u8 (.ofNat 54), .int .u8 (.ofNat 26), .int .u8 (.ofNat 40), .int .u8 (.ofNat 15), .int .u8 (.ofNat 34), .int .u8 (.ofNat 20), .int .u8 (.ofNat 31), .int .u8 (.ofNat 10), .int .u8 (.ofNat 25), .int .u8 (.ofNat 14), .int .u8 (.ofNat 19), .int .u8 (.ofNat 9), .int .u8 (.ofNat 13), .int .u8 (.ofNat 8), .int .u8 (.ofNat 7), .int .u8 (.ofNat 6)]

theorem VarsOk.later {w w' : World} (h : VarsOk w) (hb : Below w.heap.size w w') : VarsOk w' := by
  obtain ⟨h1, cs, h2, h3⟩ := h
  exact ⟨Nat.le_trans h1 hb.size, cs, (hb.block 2 (by omega)).trans h2, h3⟩

theorem fixed_any {w : World} (h : VarsOk w) : Calls Tryz.prog 4 #[] w fun e w' => e = .returned (.bool true) ∧ Below w.heap.size w w' := by
  obtain ⟨h1, cs, h2, h3⟩ := h
  have hlen : cs.size = 64 := by
    have := congrArg List.length h3
    simpa using this
  let m0 : M := fun b => if b < 5 then some ⟨b, 0, 64, 64, 64⟩ else none
  have hm0 : ∀ b L, m0 b = some L → b < 5 ∧ L = ⟨b, 0, 64, 64, 64⟩ := by
    intro b L hm
    simp only [m0] at hm
    split at hm
    · cases hm; exact ⟨by assumption, rfl⟩
    · cases hm
  have hget : ∀ b x, b < 5 → H0.get b = some x → b = 2 ∧ ∃ l, x = .row l 327 false ∧ hl0 = [(2, .row l 327 false)] := by
    intro b x hb hx
    have := hOf_get (l := hl0) (fun y hy => by
      simp only [hl0, List.mem_singleton] at hy
      subst hy; show 2 < 2 ^ 40; omega) b x (by omega) hx
    simp only [hl0, List.mem_singleton, Prod.mk.injEq] at this
    obtain ⟨e1, e2⟩ := this
    exact ⟨e1, _, e2, rfl⟩
  have rel : Rel Tryz.prog ENV m0 H0 w := by
    refine ⟨?_, ?_, ?_, ?_, ?_, ?_⟩
    · intro b L x hm hx
      obtain ⟨hb, rfl⟩ := hm0 b L hm
      obtain ⟨rfl, l, rfl, hl⟩ := hget b x hb hx
      have hl : l = cs.toList := by
        rw [h3]
        simp only [hl0, List.cons.injEq, Prod.mk.injEq, AObj.row.injEq] at hl
        exact hl.1.2.1.symm
      subst hl
      refine ⟨cs, (0, 0), h2, hlen, by kernel_rfl, by simpa using hlen, by simp, ?_, fun h => by cases h⟩
      simp only [List.drop_zero]
      rw [List.take_of_length_le (by simp [hlen])]
      exact noAddrs_refl _ _ (by rw [h3]; rfl)
    · intro b L hm
      obtain ⟨hb, rfl⟩ := hm0 b L hm
      exact ⟨by show b < w.heap.size; omega, hb⟩
    · intro b b' L L' x x' hm hm' hx hx' hmut _
      obtain ⟨hb, rfl⟩ := hm0 b L hm
      obtain ⟨rfl, l, rfl, _⟩ := hget b x hb hx
      cases hmut
    · show 5 < 2 ^ 40; omega
    · intro g hg
      refine ⟨⟨g, 0, 64, 64, 64⟩, ?_, rfl, rfl⟩
      have hg : g < 5 := hg
      simp only [m0]
      rw [if_pos hg]
    · intro b L hm
      obtain ⟨hb, rfl⟩ := hm0 b L hm
      rfl
  refine (run_calls mixed cx4 fixed_run .nil rel (run_callFunc (c := (Tryz.f4.body).getD .skip) Tryz.func4 (by kernel_rfl) (by kernel_rfl) _)).mono ?_
  rintro e w' ⟨r, h', m', k1, k2, k3, k4⟩
  cases k2 with
  | panic v v' hv => cases k1
  | ret v v' hv =>
    have hv1 : v = .bool true := by
      cases v <;> first | (cases k1; done) | skip
      rename_i b
      have : b = true := k1
      rw [this]
    subst hv1
    cases hv
    refine ⟨rfl, k4.os, k4.tape, k4.output, k4.size, fun B hB => k4.keep B hB ?_⟩
    intro b L x hm hx hmut
    obtain ⟨hb, rfl⟩ := hm0 b L hm
    obtain ⟨rfl, l, rfl, _⟩ := hget b x hb hx
    cases hmut
end Go.Proofs.YtnjmpeilfolmcaaGreatDoor

namespace Go.Proofs.YtnjmpeilfolmcaaGreatDoor
open Go Go.Abs Go.RowKit
theorem bcell {W w1 : World} (hb : Below W.heap.size W w1) : (∀ b o, b < W.heap.size → w1.cell? ⟨b, o, none⟩ = W.cell? ⟨b, o, none⟩) ∧ (∀ b o, b < W.heap.size → w1.frozen? ⟨b, o, none⟩ = W.frozen? ⟨b, o, none⟩) :=
  ⟨fun b o h => hb.cell (p := ⟨b, o, none⟩) h, fun b o h => hb.frozen (p := ⟨b, o, none⟩) h⟩
set_option maxRecDepth 100000 in
set_option maxHeartbeats 4000000 in
theorem law_any (n : Int) (p : ByteArray) (y : Value) (w : World) (hv : TupV w (.agg #[.string p, y])) (h : VarsOk w) : Calls Tryz.prog 3 #[.int .i64 n, .agg #[.string p, y]] w fun e w' => e = .returned (.bool true) ∧ Below w.heap.size w w' := by
  have hB0 : Below w.heap.size w (w.alloc (.cells #[.string p, y] 24)) := (Below.refl _ _).alloc (Nat.le_refl _) _
  have h0 := h.later hB0
  have hv0 := hv.later hB0
  have z0 : w.heap.size < (w.alloc (.cells #[.string p, y] 24)).heap.size := by simp
  have ha : (w.alloc (.cells #[.string p, y] 24)).cell? ⟨w.heap.size, 0, none⟩ = some (.string p) := by simp [go_sem]
  have hb : (w.alloc (.cells #[.string p, y] 24)).cell? ⟨w.heap.size, 1, none⟩ = some y := by simp [go_sem]
  generalize hw0 : w.alloc (.cells #[.string p, y] 24) = w0 at *
  go_enter Tryz.func3, Tryz.ntmps3
  go_wp2_with fail
  clear hw0
  refine (fixed_any h0).mono ?_
  rintro e w1 ⟨rfl, b1⟩
  have ha1 := (b1.cell (p := ⟨w.heap.size, 0, none⟩) z0).trans ha
  have hb1 := (b1.cell (p := ⟨w.heap.size, 1, none⟩) z0).trans hb
  have z1 := Nat.lt_of_lt_of_le z0 b1.size
  have B1 := hB0.trans (b1.mono hB0.size)
  go_wp2_with fail
  refine (model_nil _ _).mono ?_
  rintro e w2 ⟨rfl, b2⟩
  have ha2 := (b2.cell (p := ⟨w.heap.size, 0, none⟩) z1).trans ha1
  have hb2 := (b2.cell (p := ⟨w.heap.size, 1, none⟩) z1).trans hb1
  have z2 := Nat.lt_of_lt_of_le z1 b2.size
  have B2 := B1.trans (b2.mono B1.size)
  clear ha hb ha1 hb1
  go_wp2_with fail
  refine (select_nil _ _ _).mono ?_
  rintro e w3 ⟨rfl, b3⟩
  have ha3 := (b3.cell (p := ⟨w.heap.size, 0, none⟩) z2).trans ha2
  have hb3 := (b3.cell (p := ⟨w.heap.size, 1, none⟩) z2).trans hb2
  have z3 := Nat.lt_of_lt_of_le z2 b3.size
  have B3 := B2.trans (b3.mono B2.size)
  clear ha2 hb2
  go_wp2_with fail
  refine (over_nil _).mono ?_
  rintro e w4 ⟨rfl, rfl⟩
  go_wp2_with fail
  refine (mask_nil _ _ _).mono ?_
  rintro e w5 ⟨rfl, b5⟩
  have ha5 := (b5.cell (p := ⟨w.heap.size, 0, none⟩) z3).trans ha3
  have hb5 := (b5.cell (p := ⟨w.heap.size, 1, none⟩) z3).trans hb3
  have z5 := Nat.lt_of_lt_of_le z3 b5.size
  have B5 := B3.trans (b5.mono B3.size)
  clear ha3 hb3
  go_wp2_with fail
  refine (len_nil _).mono ?_
  rintro e w6 ⟨rfl, b6⟩
  have ha6 := (b6.cell (p := ⟨w.heap.size, 0, none⟩) z5).trans ha5
  have hb6 := (b6.cell (p := ⟨w.heap.size, 1, none⟩) z5).trans hb5
  have B6 := B5.trans (b6.mono B5.size)
  have hv6 := hv.later B6
  clear ha5 hb5
  go_wp2_with fail
  refine (same_self hv6).mono ?_
  rintro e w7 ⟨rfl, b7⟩
  have B7 := B6.trans (b7.mono B6.size)
  go_wp2_with fail
  go_ret
  exact ⟨rfl, B7⟩
end Go.Proofs.YtnjmpeilfolmcaaGreatDoor
