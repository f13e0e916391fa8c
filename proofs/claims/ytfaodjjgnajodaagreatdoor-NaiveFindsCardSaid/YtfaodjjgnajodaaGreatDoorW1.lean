/- NaiveFinds, part 1: walks: the two orders of tuples, where a tuple is in a list, naive.Find: each for every tuple and list that lies in memory. -/
import Derived.Test.YtfaodjjgnajodaaGreatDoorProg
import Derived.Tactics
import Derived.Tactics2
import Derived.WalkKit
import Derived.LoopTactic
import Derived.Deep.QuietTactic
import Derived.BigQuiet
import Derived.Outline
import Derived.StillTailTactics
import Derived.KernelRfl
import Derived.WideShapes
import Derived.Laws.Cover1
import Derived.ArgAppend
import Derived.OwnWalk
import Derived.Deep.AppendLies
import Derived.Deep.Upon
import Derived.Lib.SliceRun
import Derived.Lib.Walk
import Derived.Laws.OwnMore
set_option linter.unusedSimpArgs false
set_option linter.unusedVariables false

namespace Go.Proofs.YtfaodjjgnajodaaGreatDoor
open Go Go.RowKit

/-- A fact that simp is not to see. -/
structure Hid (p : Prop) : Prop where
  un : p

theorem bytesLess_self : ∀ l : List UInt8, Op.bytesLess l l = false
  | [] => rfl
  | a :: x => by simp [Op.bytesLess, bytesLess_self x]

theorem toList_iff (a b : ByteArray) : a.toList = b.toList ↔ a = b := by
  constructor
  · intro h
    rw [ByteArray.toList_eq, ByteArray.toList_eq] at h
    exact Go.WideShapes.bytes_inj h
  · rintro rfl; rfl

set_option maxRecDepth 100000 in
set_option maxHeartbeats 1000000 in
theorem bytes_ext {s t : ByteArray} (h : s.size = t.size) (he : ∀ j, j < s.size → s[j]? = t[j]?) : s = t := by
  apply ByteArray.ext_getElem h
  intro i h1 h2
  have := he i h1
  rw [ByteArray.getElem?_lt' _ _ h1, ByteArray.getElem?_lt' _ _ h2] at this
  exact Option.some.inj this

set_option maxRecDepth 100000 in
set_option maxHeartbeats 1000000 in
theorem sign_str (a b : ByteArray) (w : World) : Calls Tryz.prog 32 #[.string a, .string b] w fun e w' => (∃ z : Int, e = .returned (.int .i64 z) ∧ (z = 0 ↔ a = b)) ∧ w' = w := by
  by_cases h1 : Op.bytesLess a.toList b.toList = true
  · have hne : a ≠ b := by
      rintro rfl; rw [bytesLess_self] at h1; cases h1
    go_enter Tryz.func32, Tryz.ntmps32
    go_wp2
    go_ret
    exact ⟨⟨-1, rfl, by simp [hne]⟩, rfl⟩
  · have h1 : Op.bytesLess a.toList b.toList = false := by simpa using h1
    by_cases h2 : a = b
    · subst h2
      have h3 : (a.toList == a.toList) = true := by simp
      go_enter Tryz.func32, Tryz.ntmps32
      go_wp2
      go_ret
      exact ⟨⟨0, rfl, by simp⟩, rfl⟩
    · have h3 : (a.toList == b.toList) = false := by
        rw [beq_eq_false_iff_ne]; exact fun h => h2 ((toList_iff a b).1 h)
      go_enter Tryz.func32, Tryz.ntmps32
      go_wp2
      go_ret
      exact ⟨⟨1, rfl, by simp [h2]⟩, rfl⟩

set_option maxRecDepth 100000 in
set_option maxHeartbeats 1000000 in
theorem sign_int (a b : Int) (w : World) : Calls Tryz.prog 33 #[.int .i64 a, .int .i64 b] w fun e w' => (∃ z : Int, e = .returned (.int .i64 z) ∧ (z = 0 ↔ a = b)) ∧ w' = w := by
  by_cases h1 : a < b
  · go_enter Tryz.func33, Tryz.ntmps33
    go_wp2
    go_ret
    exact ⟨⟨-1, rfl, by omega⟩, rfl⟩
  · by_cases h2 : b < a
    · go_enter Tryz.func33, Tryz.ntmps33
      go_wp2
      go_ret
      exact ⟨⟨1, rfl, by omega⟩, rfl⟩
    · go_enter Tryz.func33, Tryz.ntmps33
      go_wp2
      go_ret
      exact ⟨⟨0, rfl, by omega⟩, rfl⟩

set_option maxRecDepth 100000 in
set_option maxHeartbeats 1000000 in
theorem sign_i64 (a b : Int) (w : World) : Calls Tryz.prog 67 #[.int .i64 a, .int .i64 b] w fun e w' => (∃ z : Int, e = .returned (.int .i64 z) ∧ (z = 0 ↔ a = b)) ∧ w' = w := by
  by_cases h1 : a < b
  · go_enter Tryz.func67, Tryz.ntmps67
    go_wp2
    go_ret
    exact ⟨⟨-1, rfl, by omega⟩, rfl⟩
  · by_cases h2 : b < a
    · go_enter Tryz.func67, Tryz.ntmps67
      go_wp2
      go_ret
      exact ⟨⟨1, rfl, by omega⟩, rfl⟩
    · go_enter Tryz.func67, Tryz.ntmps67
      go_wp2
      go_ret
      exact ⟨⟨0, rfl, by omega⟩, rfl⟩

set_option maxRecDepth 100000 in
set_option maxHeartbeats 1000000 in
theorem compare (a b : ByteArray) (m n : Int) (w : World) : Calls Tryz.prog 34 #[.agg #[.string a, .int .i64 m], .agg #[.string b, .int .i64 n]] w fun e w' => (∃ z : Int, e = .returned (.int .i64 z) ∧ (z = 0 ↔ a = b ∧ m = n)) ∧ Below w.heap.size w w' := by
  have hB : Below w.heap.size w ((w.alloc (.cells #[.string a, .int .i64 m] 51)).alloc (.cells #[.string b, .int .i64 n] 51)) := ((Below.refl _ _).alloc (Nat.le_refl _) _).alloc (by simp) _
  go_enter Tryz.func34, Tryz.ntmps34
  go_wp2_with (fail)
  refine (sign_str _ _ _).mono ?_
  rintro e w' ⟨⟨z, rfl, hz⟩, rfl⟩
  by_cases h0 : z = 0
  · have hab : Hid (a = b) := ⟨hz.1 h0⟩
    clear hz
    subst h0
    go_wp2_with (fail)
    refine (sign_i64 _ _ _).mono ?_
    rintro e w' ⟨⟨z2, rfl, hz2⟩, rfl⟩
    have hz2' : z2 = 0 ↔ a = b ∧ m = n := by rw [hz2]; simp [hab.un]
    have hz2' := Hid.mk hz2'
    clear hz2 hab
    go_wp2_with (fail)
    go_ret
    exact ⟨⟨z2, rfl, hz2'.un⟩, hB⟩
  · have hab : a ≠ b := fun h => h0 (hz.2 h)
    clear hz
    go_wp2
    go_ret
    exact ⟨⟨z, rfl, by constructor; (intro h; exact absurd h h0); (rintro ⟨h, _⟩; exact absurd h hab)⟩, hB⟩

set_option maxRecDepth 100000 in
set_option maxHeartbeats 1000000 in
theorem bytes (s t : ByteArray) (w : World) (hs : s.size ≤ maxLen) (ht : t.size ≤ maxLen) : Calls Tryz.prog 68 #[.string s, .string t] w fun e w' => (∃ z : Int, e = .returned (.int .i64 z) ∧ (z = 0 ↔ s = t)) ∧ ∃ n, w' = w.drewN n := by
  unfold maxLen at hs ht
  go_enter Tryz.func68, Tryz.ntmps68
  go_wp2
  go_loopw [5] (fun i wr => ∃ k : Nat, k ≤ s.size ∧ k ≤ t.size ∧ i = .int .i64 k ∧ (∀ j, j < k → s[j]? = t[j]?) ∧ ∃ n, wr = w.drewN n) (fun i _ => s.size - (intOf i).toNat)
  case atStart => exact ⟨0, Nat.zero_le _, Nat.zero_le _, rfl, fun j h => by omega, 0, rfl⟩
  case round =>
    obtain ⟨k, hk, hk2, rfl, heq, n, rfl⟩ := hrel
    by_cases hlt : k < s.size
    · have hki : (k : Int) < s.size := by omega
      by_cases hlt2 : k < t.size
      · have hki2 : (k : Int) < t.size := by omega
        go_wp2
        go_quiet (fail)
        by_cases l1 : s[k].toNat < t[k].toNat
        · go_wp2
          go_ret
          refine ⟨⟨-1, rfl, by constructor; (intro h; omega); (rintro rfl; exact absurd l1 (Nat.lt_irrefl _))⟩, _, by first | (rw [World.drewN_drewN, World.drewN_drewN]; done) | (rw [World.drewN_drewN]; done) | rfl⟩
        · go_wp2
          go_quiet (fail)
          by_cases l2 : t[k].toNat < s[k].toNat
          · go_wp2
            go_ret
            refine ⟨⟨1, rfl, by constructor; (intro h; omega); (rintro rfl; exact absurd l2 (Nat.lt_irrefl _))⟩, _, by first | (rw [World.drewN_drewN, World.drewN_drewN]; done) | (rw [World.drewN_drewN]; done) | rfl⟩
          · go_wp2
            go_roundw
            case rel =>
              refine ⟨k + 1, by omega, by omega, by go_num, ?_, _, by first | (rw [World.drewN_drewN, World.drewN_drewN]; done) | (rw [World.drewN_drewN]; done) | rfl⟩
              intro j hj
              by_cases hjk : j < k
              · exact heq j hjk
              · obtain rfl : j = k := by omega
                rw [ByteArray.getElem?_lt' _ _ hlt, ByteArray.getElem?_lt' _ _ hlt2]
                congr 1
                apply UInt8.toNat_inj.1
                omega
            case measure => simp [intOf]; omega
      · have e : k = t.size := by omega
        subst e
        go_wp2
        have l1 : ¬ ((s.size : Int) < t.size) := by omega
        have l2 : (t.size : Int) < s.size := by omega
        go_wp2
        go_ret
        refine ⟨⟨1, rfl, by constructor; (intro h; omega); (rintro rfl; omega)⟩, _, rfl⟩
    · have e : k = s.size := by omega
      subst e
      by_cases l1 : (s.size : Int) < t.size
      · go_wp2
        go_ret
        refine ⟨⟨-1, rfl, by constructor; (intro h; omega); (rintro rfl; omega)⟩, _, rfl⟩
      · have l2 : ¬ ((t.size : Int) < s.size) := by omega
        go_wp2
        go_ret
        refine ⟨⟨0, rfl, by constructor; (intro _; exact bytes_ext (by omega) heq); (intro _; rfl)⟩, _, rfl⟩

set_option maxRecDepth 100000 in
set_option maxHeartbeats 1000000 in
theorem rcompare (a b : ByteArray) (m n : Int) (w : World) (ha : a.size ≤ maxLen) (hb : b.size ≤ maxLen) : Calls Tryz.prog 69 #[.agg #[.string a, .int .i64 m], .agg #[.string b, .int .i64 n]] w fun e w' => (∃ z : Int, e = .returned (.int .i64 z) ∧ (z = 0 ↔ a = b ∧ m = n)) ∧ Below w.heap.size w w' := by
  have ha' := ha
  have hb' := hb
  unfold maxLen at ha hb
  have hB : ∀ n', Below w.heap.size w (((w.alloc (.cells #[.string a, .int .i64 m] 51)).alloc (.cells #[.string b, .int .i64 n] 51)).drewN n') := fun n' =>
    ⟨rfl, rfl, rfl, (((Below.refl _ _).alloc (Nat.le_refl _) _).alloc (by simp) _).size, (((Below.refl _ _).alloc (Nat.le_refl _) _).alloc (by simp) _).block⟩
  by_cases h1 : a.size = 0 ∧ 0 < b.size
  · obtain ⟨h1, h2⟩ := h1
    have h3 : (0 : Int) < b.size := by omega
    go_enter Tryz.func69, Tryz.ntmps69
    go_wp2_with (fail)
    go_ret
    exact ⟨⟨-1, rfl, by constructor; (intro h; omega); (rintro ⟨rfl, _⟩; omega)⟩, hB 0⟩
  · by_cases h2 : 0 < a.size ∧ b.size = 0
    · obtain ⟨h2, h3⟩ := h2
      have h4 : (0 : Int) < a.size := by omega
      have h5 : ¬ a.size = 0 := by omega
      go_enter Tryz.func69, Tryz.ntmps69
      go_wp2_with (fail)
      go_ret
      exact ⟨⟨1, rfl, by constructor; (intro h; omega); (rintro ⟨rfl, _⟩; omega)⟩, hB 0⟩
    · have tail : ∀ Q : World → Prop, True → (a.size = 0 ∧ b.size = 0) ∨ (0 < a.size ∧ 0 < b.size) := fun _ _ => by omega
      rcases tail (fun _ => True) trivial with ⟨k1, k2⟩ | ⟨k1, k2⟩
      · clear h1 h2 tail
        go_enter Tryz.func69, Tryz.ntmps69
        go_wp2_with (fail)
        refine (bytes _ _ _ ha' hb').mono ?_
        rintro e w' ⟨⟨z, rfl, hz⟩, q, rfl⟩
        by_cases h0 : z = 0
        · have hab : Hid (a = b) := ⟨hz.1 h0⟩
          clear hz
          subst h0
          by_cases l1 : m < n
          · go_wp2_with (fail)
            go_ret
            exact ⟨⟨-1, rfl, by constructor; (intro h; omega); (rintro ⟨_, h⟩; omega)⟩, hB q⟩
          · by_cases l2 : n < m
            · go_wp2_with (fail)
              go_ret
              exact ⟨⟨1, rfl, by constructor; (intro h; omega); (rintro ⟨_, h⟩; omega)⟩, hB q⟩
            · go_wp2_with (fail)
              go_ret
              exact ⟨⟨0, rfl, by constructor; (intro _; exact ⟨hab.un, by omega⟩); (intro _; rfl)⟩, hB q⟩
        · have hab : a ≠ b := fun h => h0 (hz.2 h)
          clear hz
          go_wp2
          go_ret
          exact ⟨⟨z, rfl, by constructor; (intro h; exact absurd h h0); (rintro ⟨h, _⟩; exact absurd h hab)⟩, hB q⟩
      · clear h1 h2 tail
        have k3 : (0 : Int) < a.size := by omega
        have k4 : (0 : Int) < b.size := by omega
        have k5 : ¬ a.size = 0 := by omega
        have k6 : ¬ b.size = 0 := by omega
        go_enter Tryz.func69, Tryz.ntmps69
        go_wp2_with (fail)
        refine (bytes _ _ _ ha' hb').mono ?_
        rintro e w' ⟨⟨z, rfl, hz⟩, q, rfl⟩
        by_cases h0 : z = 0
        · have hab : Hid (a = b) := ⟨hz.1 h0⟩
          clear hz
          subst h0
          by_cases l1 : m < n
          · go_wp2_with (fail)
            go_ret
            exact ⟨⟨-1, rfl, by constructor; (intro h; omega); (rintro ⟨_, h⟩; omega)⟩, hB q⟩
          · by_cases l2 : n < m
            · go_wp2_with (fail)
              go_ret
              exact ⟨⟨1, rfl, by constructor; (intro h; omega); (rintro ⟨_, h⟩; omega)⟩, hB q⟩
            · go_wp2_with (fail)
              go_ret
              exact ⟨⟨0, rfl, by constructor; (intro _; exact ⟨hab.un, by omega⟩); (intro _; rfl)⟩, hB q⟩
        · have hab : a ≠ b := fun h => h0 (hz.2 h)
          clear hz
          go_wp2
          go_ret
          exact ⟨⟨z, rfl, by constructor; (intro h; exact absurd h h0); (rintro ⟨h, _⟩; exact absurd h hab)⟩, hB q⟩
end Go.Proofs.YtfaodjjgnajodaaGreatDoor

namespace Go.Proofs.YtfaodjjgnajodaaGreatDoor
open Go Go.RowKit

/-- What a tuple says. -/
structure TD where
  p : ByteArray
  n : Nat
  ss : Nat → ByteArray
  ns : Nat → Int

structure TD.ok (d : TD) : Prop where
  hp : d.p.size ≤ maxLen
  hn : d.n ≤ maxLen
  h24 : d.n * 24 ≤ 140737488351232
  hs : ∀ k, k < d.n → (d.ss k).size ≤ maxLen

def TD.same (x y : TD) : Prop := x.p = y.p ∧ x.n = y.n ∧ ∀ k, k < x.n → x.ss k = y.ss k ∧ x.ns k = y.ns k

theorem TD.same_refl (x : TD) : x.same x := ⟨rfl, rfl, fun _ _ => ⟨rfl, rfl⟩⟩

/-- A slice of values, as it lies. -/
inductive ArgsAt (w : World) (d : TD) : Value → Prop
  | nil (h : d.n = 0) : ArgsAt w d (.slice none 0 0)
  | empty (a : Addr) (c : Nat) (h : d.n = 0) : ArgsAt w d (.slice (some a) 0 c)
  | row (b off c : Nat) (h : 0 < d.n) (hb : b < w.heap.size) (hc0 : ∀ k, k < d.n → w.cell? ⟨b, off + k * 2, none⟩ = some (.string (d.ss k)))
      (hc1 : ∀ k, k < d.n → w.cell? ⟨b, off + k * 2 + 1, none⟩ = some (.int .i64 (d.ns k))) : ArgsAt w d (.slice (some ⟨b, off, none⟩) d.n c)

theorem ArgsAt.later {w w' : World} {d : TD} {v : Value} {base : Nat} (h : ArgsAt w d v) (hb : Below base w w') (hs : w.heap.size = base) : ArgsAt w' d v := by
  subst hs
  cases h with
  | nil h => exact .nil h
  | empty a c h => exact .empty a c h
  | row b off c h hlt h0 h1 =>
    exact .row b off c h (Nat.lt_of_lt_of_le hlt hb.size) (fun k hk => (hb.cell (p := ⟨b, off + k * 2, none⟩) hlt).trans (h0 k hk)) (fun k hk => (hb.cell (p := ⟨b, off + k * 2 + 1, none⟩) hlt).trans (h1 k hk))

theorem ArgsAt.form {w : World} {d : TD} {v : Value} (h : ArgsAt w d v) : ∃ a c, v = .slice a d.n c ∧
    (0 < d.n → ∃ b off, a = some ⟨b, off, none⟩ ∧ b < w.heap.size ∧ (∀ k, k < d.n → w.cell? ⟨b, off + k * 2, none⟩ = some (.string (d.ss k))) ∧ (∀ k, k < d.n → w.cell? ⟨b, off + k * 2 + 1, none⟩ = some (.int .i64 (d.ns k)))) := by
  cases h with
  | nil h => exact ⟨none, 0, by rw [h], fun h' => by omega⟩
  | empty a c h => exact ⟨some a, c, by rw [h], fun h' => by omega⟩
  | row b off c h hlt h0 h1 => exact ⟨some ⟨b, off, none⟩, c, rfl, fun _ => ⟨b, off, rfl, hlt, h0, h1⟩⟩

theorem upto {f : Nat → Prop} {k : Nat} (h : ∀ j, j < k → f j) (hk : f k) : ∀ j, j < k + 1 → f j := by
  intro j hj
  by_cases hl : j < k
  · exact h j hl
  · obtain rfl : j = k := by omega
    exact hk

theorem below2 {w : World} (o1 o2 : Obj) : Below w.heap.size w ((w.alloc o1).alloc o2) := ((Below.refl _ _).alloc (Nat.le_refl _) _).alloc (by simp) _

set_option maxRecDepth 100000 in
set_option maxHeartbeats 4000000 in
theorem order_row (p q : ByteArray) (n b off c b' off' c' : Nat) (ss ss' : Nat → ByteArray) (ns ns' : Nat → Int) (w : World)
    (hn : n ≤ maxLen) (hb : b < w.heap.size) (hb' : b' < w.heap.size)
    (hc0 : Hid (∀ k, k < n → w.cell? ⟨b, off + k * 2, none⟩ = some (.string (ss k)))) (hc1 : Hid (∀ k, k < n → w.cell? ⟨b, off + k * 2 + 1, none⟩ = some (.int .i64 (ns k))))
    (hd0 : Hid (∀ k, k < n → w.cell? ⟨b', off' + k * 2, none⟩ = some (.string (ss' k)))) (hd1 : Hid (∀ k, k < n → w.cell? ⟨b', off' + k * 2 + 1, none⟩ = some (.int .i64 (ns' k)))) :
    Calls Tryz.prog 15 #[.agg #[.string p, .slice (some ⟨b, off, none⟩) n c], .agg #[.string q, .slice (some ⟨b', off', none⟩) n c']] w fun e w' =>
      (∃ z : Int, e = .returned (.int .i64 z) ∧ (z = 0 ↔ p = q ∧ ∀ k, k < n → ss k = ss' k ∧ ns k = ns' k)) ∧ Below w.heap.size w w' := by
  unfold maxLen at hn
  go_enter Tryz.func15, Tryz.ntmps15
  go_wp2_with (fail)
  refine (sign_str _ _ _).mono ?_
  rintro e w' ⟨⟨z, rfl, hz⟩, rfl⟩
  by_cases h0 : z = 0
  · have hpq : Hid (p = q) := ⟨hz.1 h0⟩
    clear hz
    subst h0
    go_wp2_with (fail)
    refine (sign_int _ _ _).mono ?_
    rintro e w' ⟨⟨z, rfl, hz⟩, rfl⟩
    have hz0 : z = 0 := hz.2 rfl
    clear hz
    subst hz0
    go_wp2_with (fail)
    go_loopw [30] (fun i wr => ∃ k : Nat, k ≤ n ∧ i = .int .i64 k ∧ Hid (∀ j, j < k → ss j = ss' j ∧ ns j = ns' j) ∧ Below w.heap.size w wr ∧ wr.cell? ⟨w.heap.size, 0, none⟩ = some (.string p) ∧ wr.cell? ⟨w.heap.size, 1, none⟩ = some (.slice (some ⟨b, off, none⟩) n c) ∧ wr.cell? ⟨w.heap.size + 1, 0, none⟩ = some (.string q) ∧ wr.cell? ⟨w.heap.size + 1, 1, none⟩ = some (.slice (some ⟨b', off', none⟩) n c') ∧ w.heap.size + 2 ≤ wr.heap.size) (fun i _ => n - (intOf i).toNat)
    case atStart =>
      exact ⟨0, Nat.zero_le _, rfl, ⟨fun j h => by omega⟩, below2 _ _, by simp [go_sem], by simp [go_sem], by simp [go_sem], by simp [go_sem], by simp [go_sem]⟩
    case round =>
      obtain ⟨k, hk, rfl, heq, hbe, h1, h2, h3, h4, h5⟩ := hrel
      by_cases hlt : k < n
      · have c0 := (hbe.cell (p := ⟨b, off + k * 2, none⟩) hb).trans (hc0.un k hlt)
        have c1 := (hbe.cell (p := ⟨b, off + k * 2 + 1, none⟩) hb).trans (hc1.un k hlt)
        have d0 := (hbe.cell (p := ⟨b', off' + k * 2, none⟩) hb').trans (hd0.un k hlt)
        have d1 := (hbe.cell (p := ⟨b', off' + k * 2 + 1, none⟩) hb').trans (hd1.un k hlt)
        go_wp2
        go_still_tail 10, (by kernel_rfl)
        go_wp2_with (fail)
        refine (compare _ _ _ _ _).mono ?_
        rintro e w' ⟨⟨z, rfl, hz⟩, hb1⟩
        have hb2 : Below wr.heap.size wr w' := ⟨hb1.os, hb1.tape, hb1.output, hb1.size, hb1.block⟩
        clear hb1
        by_cases hz0 : z = 0
        · have hkk : Hid (ss k = ss' k ∧ ns k = ns' k) := ⟨hz.1 hz0⟩
          clear hz
          subst hz0
          go_wp2_with (fail)
          go_roundw
          case rel =>
            exact ⟨k + 1, by omega, by go_num, ⟨upto heq.un hkk.un⟩, hbe.trans (hb2.mono hbe.size), (hb2.cell (p := ⟨w.heap.size, 0, none⟩) (by show w.heap.size < wr.heap.size; omega)).trans h1, (hb2.cell (p := ⟨w.heap.size, 1, none⟩) (by show w.heap.size < wr.heap.size; omega)).trans h2,
              (hb2.cell (p := ⟨w.heap.size + 1, 0, none⟩) (by show w.heap.size + 1 < wr.heap.size; omega)).trans h3, (hb2.cell (p := ⟨w.heap.size + 1, 1, none⟩) (by show w.heap.size + 1 < wr.heap.size; omega)).trans h4, by have := hb2.size; omega⟩
          case measure => simp [intOf]; omega
        · have hne : ¬ (ss k = ss' k ∧ ns k = ns' k) := fun h => hz0 (hz.2 h)
          have hne : Hid (¬ (ss k = ss' k ∧ ns k = ns' k)) := ⟨hne⟩
          clear hz
          go_wp2_with (fail)
          go_ret
          exact ⟨⟨z, rfl, by constructor; (intro h; exact absurd h hz0); (rintro ⟨_, h⟩; exact absurd (h k hlt) hne.un)⟩, hbe.trans (hb2.mono hbe.size)⟩
      · go_wp2
        go_ret
        exact ⟨⟨0, rfl, by constructor; (intro _; exact ⟨hpq.un, fun j hj => heq.un j (by omega)⟩); (intro _; rfl)⟩, hbe⟩
  · have hne : Hid (p ≠ q) := ⟨fun h => h0 (hz.2 h)⟩
    clear hz
    go_wp2
    go_ret
    exact ⟨⟨z, rfl, by constructor; (intro h; exact absurd h h0); (rintro ⟨h, _⟩; exact absurd h hne.un)⟩, below2 _ _⟩

set_option maxRecDepth 100000 in
set_option maxHeartbeats 4000000 in
theorem order_other (p q : ByteArray) (a a' : Option Addr) (n n' c c' : Nat) (w : World) (h : ¬ n = n' ∨ n' = 0) :
    Calls Tryz.prog 15 #[.agg #[.string p, .slice a n c], .agg #[.string q, .slice a' n' c']] w fun e w' =>
      (∃ z : Int, e = .returned (.int .i64 z) ∧ (z = 0 ↔ p = q ∧ n = n')) ∧ Below w.heap.size w w' := by
  go_enter Tryz.func15, Tryz.ntmps15
  go_wp2_with (fail)
  refine (sign_str _ _ _).mono ?_
  rintro e w' ⟨⟨z, rfl, hz⟩, rfl⟩
  by_cases h0 : z = 0
  · have hpq : Hid (p = q) := ⟨hz.1 h0⟩
    clear hz
    subst h0
    go_wp2_with (fail)
    refine (sign_int _ _ _).mono ?_
    rintro e w' ⟨⟨z, rfl, hz⟩, rfl⟩
    by_cases hz0 : z = 0
    · have hnn : (n : Int) = n' := hz.1 hz0
      have hnn : n = n' := by omega
      clear hz
      subst hz0
      subst hnn
      have hn0 : n = 0 := by rcases h with h | h; exact absurd rfl h; exact h
      clear h
      subst hn0
      go_wp2_with (fail)
      refine wp_loop_rounds 1 ?_
      rw [rounds_succ]
      go_wp2
      go_ret
      exact ⟨⟨0, rfl, by simp [hpq.un]⟩, below2 _ _⟩
    · have hne : Hid (n ≠ n') := ⟨fun h' => hz0 (hz.2 (by rw [h']))⟩
      clear hz
      go_wp2
      go_ret
      exact ⟨⟨z, rfl, by constructor; (intro h; exact absurd h hz0); (rintro ⟨_, h⟩; exact absurd h hne.un)⟩, below2 _ _⟩
  · have hne : Hid (p ≠ q) := ⟨fun h => h0 (hz.2 h)⟩
    clear hz
    go_wp2
    go_ret
    exact ⟨⟨z, rfl, by constructor; (intro h; exact absurd h h0); (rintro ⟨h, _⟩; exact absurd h hne.un)⟩, below2 _ _⟩

theorem order {w : World} {x y : TD} {v v' : Value} (hx : x.ok) (h1 : ArgsAt w x v) (h2 : ArgsAt w y v') :
    Calls Tryz.prog 15 #[.agg #[.string x.p, v], .agg #[.string y.p, v']] w fun e w' => (∃ z : Int, e = .returned (.int .i64 z) ∧ (z = 0 ↔ x.same y)) ∧ Below w.heap.size w w' := by
  obtain ⟨a, c, rfl, ha⟩ := h1.form
  obtain ⟨a', c', rfl, ha'⟩ := h2.form
  by_cases hn : x.n = y.n
  · by_cases h0 : y.n = 0
    · refine (order_other x.p y.p a a' x.n y.n c c' w (.inr h0)).mono ?_
      rintro e w' ⟨⟨z, he, hz⟩, hb⟩
      exact ⟨⟨z, he, by rw [hz]; exact ⟨fun ⟨k1, k2⟩ => ⟨k1, k2, fun k hk => by omega⟩, fun ⟨k1, k2, _⟩ => ⟨k1, k2⟩⟩⟩, hb⟩
    · obtain ⟨b, off, rfl, hb, hc0, hc1⟩ := ha (by omega)
      obtain ⟨b', off', rfl, hb', hd0, hd1⟩ := ha' (by omega)
      rw [← hn]
      refine (order_row x.p y.p x.n b off c b' off' c' x.ss y.ss x.ns y.ns w hx.hn hb hb' ⟨hc0⟩ ⟨hc1⟩ ⟨fun k hk => hd0 k (by omega)⟩ ⟨fun k hk => hd1 k (by omega)⟩).mono ?_
      rintro e w' ⟨⟨z, he, hz⟩, hb⟩
      exact ⟨⟨z, he, by rw [hz]; exact ⟨fun ⟨k1, k2⟩ => ⟨k1, hn, k2⟩, fun ⟨k1, _, k2⟩ => ⟨k1, k2⟩⟩⟩, hb⟩
  · refine (order_other x.p y.p a a' x.n y.n c c' w (.inl hn)).mono ?_
    rintro e w' ⟨⟨z, he, hz⟩, hb⟩
    exact ⟨⟨z, he, by rw [hz]; exact ⟨fun ⟨_, k2⟩ => absurd k2 hn, fun ⟨_, k2, _⟩ => absurd k2 hn⟩⟩, hb⟩
end Go.Proofs.YtfaodjjgnajodaaGreatDoor

namespace Go.Proofs.YtfaodjjgnajodaaGreatDoor
open Go Go.RowKit

theorem below2n {w : World} (o1 o2 : Obj) (n : Nat) : Below w.heap.size w (((w.alloc o1).alloc o2).drewN n) :=
  ⟨rfl, rfl, rfl, (below2 o1 o2).size, (below2 o1 o2).block⟩

set_option maxRecDepth 100000 in
set_option maxHeartbeats 4000000 in
theorem rorder_row (p q : ByteArray) (n b off c b' off' c' : Nat) (ss ss' : Nat → ByteArray) (ns ns' : Nat → Int) (w : World)
    (hp : p.size ≤ maxLen) (hq : q.size ≤ maxLen) (hss : Hid (∀ k, k < n → (ss k).size ≤ maxLen)) (hss' : Hid (∀ k, k < n → (ss' k).size ≤ maxLen))
    (hn : n ≤ maxLen) (hb : b < w.heap.size) (hb' : b' < w.heap.size)
    (hc0 : Hid (∀ k, k < n → w.cell? ⟨b, off + k * 2, none⟩ = some (.string (ss k)))) (hc1 : Hid (∀ k, k < n → w.cell? ⟨b, off + k * 2 + 1, none⟩ = some (.int .i64 (ns k))))
    (hd0 : Hid (∀ k, k < n → w.cell? ⟨b', off' + k * 2, none⟩ = some (.string (ss' k)))) (hd1 : Hid (∀ k, k < n → w.cell? ⟨b', off' + k * 2 + 1, none⟩ = some (.int .i64 (ns' k)))) :
    Calls Tryz.prog 35 #[.agg #[.string p, .slice (some ⟨b, off, none⟩) n c], .agg #[.string q, .slice (some ⟨b', off', none⟩) n c']] w fun e w' =>
      (∃ z : Int, e = .returned (.int .i64 z) ∧ (z = 0 ↔ p = q ∧ ∀ k, k < n → ss k = ss' k ∧ ns k = ns' k)) ∧ Below w.heap.size w w' := by
  unfold maxLen at hn
  go_enter Tryz.func35, Tryz.ntmps35
  go_wp2_with (fail)
  refine (bytes _ _ _ hp hq).mono ?_
  rintro e w' ⟨⟨z, rfl, hz⟩, m, rfl⟩
  by_cases h0 : z = 0
  · have hpq : Hid (p = q) := ⟨hz.1 h0⟩
    clear hz
    subst h0
    go_wp2_with (fail)
    go_loopw [6] (fun i wr => ∃ k : Nat, k ≤ n ∧ i = .int .i64 k ∧ Hid (∀ j, j < k → ss j = ss' j ∧ ns j = ns' j) ∧ Below w.heap.size w wr ∧ wr.cell? ⟨w.heap.size, 0, none⟩ = some (.string p) ∧ wr.cell? ⟨w.heap.size, 1, none⟩ = some (.slice (some ⟨b, off, none⟩) n c) ∧ wr.cell? ⟨w.heap.size + 1, 0, none⟩ = some (.string q) ∧ wr.cell? ⟨w.heap.size + 1, 1, none⟩ = some (.slice (some ⟨b', off', none⟩) n c') ∧ w.heap.size + 2 ≤ wr.heap.size) (fun i _ => n - (intOf i).toNat)
    case atStart =>
      exact ⟨0, Nat.zero_le _, rfl, ⟨fun j h => by omega⟩, below2n _ _ _, by simp [go_sem], by simp [go_sem], by simp [go_sem], by simp [go_sem], by simp [go_sem]⟩
    case round =>
      obtain ⟨k, hk, rfl, heq, hbe, h1, h2, h3, h4, h5⟩ := hrel
      by_cases hlt : k < n
      · have c0 := (hbe.cell (p := ⟨b, off + k * 2, none⟩) hb).trans (hc0.un k hlt)
        have c1 := (hbe.cell (p := ⟨b, off + k * 2 + 1, none⟩) hb).trans (hc1.un k hlt)
        have d0 := (hbe.cell (p := ⟨b', off' + k * 2, none⟩) hb').trans (hd0.un k hlt)
        have d1 := (hbe.cell (p := ⟨b', off' + k * 2 + 1, none⟩) hb').trans (hd1.un k hlt)
        go_wp2
        go_still_tail 10, (by kernel_rfl)
        go_wp2_with (fail)
        refine (rcompare _ _ _ _ _ (hss.un k hlt) (hss'.un k hlt)).mono ?_
        rintro e w' ⟨⟨z, rfl, hz⟩, hb1⟩
        have hb2 : Below wr.heap.size wr w' := ⟨hb1.os, hb1.tape, hb1.output, hb1.size, hb1.block⟩
        clear hb1
        by_cases hz0 : z = 0
        · have hkk : Hid (ss k = ss' k ∧ ns k = ns' k) := ⟨hz.1 hz0⟩
          clear hz
          subst hz0
          go_wp2_with (fail)
          go_roundw
          case rel =>
            exact ⟨k + 1, by omega, by go_num, ⟨upto heq.un hkk.un⟩, hbe.trans (hb2.mono hbe.size), (hb2.cell (p := ⟨w.heap.size, 0, none⟩) (by show w.heap.size < wr.heap.size; omega)).trans h1, (hb2.cell (p := ⟨w.heap.size, 1, none⟩) (by show w.heap.size < wr.heap.size; omega)).trans h2,
              (hb2.cell (p := ⟨w.heap.size + 1, 0, none⟩) (by show w.heap.size + 1 < wr.heap.size; omega)).trans h3, (hb2.cell (p := ⟨w.heap.size + 1, 1, none⟩) (by show w.heap.size + 1 < wr.heap.size; omega)).trans h4, by have := hb2.size; omega⟩
          case measure => simp [intOf]; omega
        · have hne : ¬ (ss k = ss' k ∧ ns k = ns' k) := fun h => hz0 (hz.2 h)
          have hne : Hid (¬ (ss k = ss' k ∧ ns k = ns' k)) := ⟨hne⟩
          clear hz
          go_wp2_with (fail)
          go_ret
          exact ⟨⟨z, rfl, by constructor; (intro h; exact absurd h hz0); (rintro ⟨_, h⟩; exact absurd (h k hlt) hne.un)⟩, hbe.trans (hb2.mono hbe.size)⟩
      · go_wp2
        go_ret
        exact ⟨⟨0, rfl, by constructor; (intro _; exact ⟨hpq.un, fun j hj => heq.un j (by omega)⟩); (intro _; rfl)⟩, hbe⟩
  · have hne : Hid (p ≠ q) := ⟨fun h => h0 (hz.2 h)⟩
    clear hz
    go_wp2
    go_ret
    exact ⟨⟨z, rfl, by constructor; (intro h; exact absurd h h0); (rintro ⟨h, _⟩; exact absurd h hne.un)⟩, below2n _ _ _⟩

set_option maxRecDepth 100000 in
set_option maxHeartbeats 4000000 in
theorem rorder_other (p q : ByteArray) (a a' : Option Addr) (n n' c c' : Nat) (w : World) (hp : p.size ≤ maxLen) (hq : q.size ≤ maxLen) (h : ¬ n = n' ∨ n' = 0) :
    Calls Tryz.prog 35 #[.agg #[.string p, .slice a n c], .agg #[.string q, .slice a' n' c']] w fun e w' =>
      (∃ z : Int, e = .returned (.int .i64 z) ∧ (z = 0 ↔ p = q ∧ n = n')) ∧ Below w.heap.size w w' := by
  go_enter Tryz.func35, Tryz.ntmps35
  go_wp2_with (fail)
  refine (bytes _ _ _ hp hq).mono ?_
  rintro e w' ⟨⟨z, rfl, hz⟩, m, rfl⟩
  by_cases h0 : z = 0
  · have hpq : Hid (p = q) := ⟨hz.1 h0⟩
    clear hz
    subst h0
    by_cases l1 : (n : Int) < n'
    · clear h
      go_wp2_with (fail)
      go_ret
      exact ⟨⟨-1, rfl, by constructor; (intro h; omega); (rintro ⟨_, h⟩; omega)⟩, below2n _ _ _⟩
    · by_cases l2 : (n' : Int) < n
      · clear h
        go_wp2_with (fail)
        go_ret
        exact ⟨⟨1, rfl, by constructor; (intro h; omega); (rintro ⟨_, h⟩; omega)⟩, below2n _ _ _⟩
      · obtain rfl : n = 0 := by omega
        obtain rfl : n' = 0 := by omega
        clear h l1 l2
        go_wp2_with (fail)
        refine wp_loop_rounds 1 ?_
        rw [rounds_succ]
        go_wp2
        go_ret
        exact ⟨⟨0, rfl, by simp [hpq.un]⟩, below2n _ _ _⟩
  · have hne : Hid (p ≠ q) := ⟨fun h => h0 (hz.2 h)⟩
    clear hz
    go_wp2
    go_ret
    exact ⟨⟨z, rfl, by constructor; (intro h; exact absurd h h0); (rintro ⟨h, _⟩; exact absurd h hne.un)⟩, below2n _ _ _⟩

theorem rorder {w : World} {x y : TD} {v v' : Value} (hx : x.ok) (hy : y.ok) (h1 : ArgsAt w x v) (h2 : ArgsAt w y v') :
    Calls Tryz.prog 35 #[.agg #[.string x.p, v], .agg #[.string y.p, v']] w fun e w' => (∃ z : Int, e = .returned (.int .i64 z) ∧ (z = 0 ↔ x.same y)) ∧ Below w.heap.size w w' := by
  obtain ⟨a, c, rfl, ha⟩ := h1.form
  obtain ⟨a', c', rfl, ha'⟩ := h2.form
  by_cases hn : x.n = y.n
  · by_cases h0 : y.n = 0
    · refine (rorder_other x.p y.p a a' x.n y.n c c' w hx.hp hy.hp (.inr h0)).mono ?_
      rintro e w' ⟨⟨z, he, hz⟩, hb⟩
      exact ⟨⟨z, he, by rw [hz]; exact ⟨fun ⟨k1, k2⟩ => ⟨k1, k2, fun k hk => by omega⟩, fun ⟨k1, k2, _⟩ => ⟨k1, k2⟩⟩⟩, hb⟩
    · obtain ⟨b, off, rfl, hb, hc0, hc1⟩ := ha (by omega)
      obtain ⟨b', off', rfl, hb', hd0, hd1⟩ := ha' (by omega)
      rw [← hn]
      refine (rorder_row x.p y.p x.n b off c b' off' c' x.ss y.ss x.ns y.ns w hx.hp hy.hp ⟨hx.hs⟩ ⟨fun k hk => hy.hs k (by omega)⟩ hx.hn hb hb' ⟨hc0⟩ ⟨hc1⟩ ⟨fun k hk => hd0 k (by omega)⟩ ⟨fun k hk => hd1 k (by omega)⟩).mono ?_
      rintro e w' ⟨⟨z, he, hz⟩, hb⟩
      exact ⟨⟨z, he, by rw [hz]; exact ⟨fun ⟨k1, k2⟩ => ⟨k1, hn, k2⟩, fun ⟨k1, _, k2⟩ => ⟨k1, k2⟩⟩⟩, hb⟩
  · refine (rorder_other x.p y.p a a' x.n y.n c c' w hx.hp hy.hp (.inl hn)).mono ?_
    rintro e w' ⟨⟨z, he, hz⟩, hb⟩
    exact ⟨⟨z, he, by rw [hz]; exact ⟨fun ⟨_, k2⟩ => absurd k2 hn, fun ⟨_, k2, _⟩ => absurd k2 hn⟩⟩, hb⟩

set_option maxRecDepth 100000 in
set_option maxHeartbeats 1000000 in
theorem same {w : World} {x y : TD} {v v' : Value} (hx : x.ok) (hy : y.ok) (h1 : ArgsAt w x v) (h2 : ArgsAt w y v') :
    Calls Tryz.prog 17 #[.agg #[.string x.p, v], .agg #[.string y.p, v']] w fun e w' => (∃ z : Bool, e = .returned (.bool z) ∧ (z = true ↔ x.same y)) ∧ Below w.heap.size w w' := by
  have hB : Below w.heap.size w ((w.alloc (.cells #[.string x.p, v] 25)).alloc (.cells #[.string y.p, v'] 25)) := below2 _ _
  have k1 := h1.later hB rfl
  have k2 := h2.later hB rfl
  go_enter Tryz.func17, Tryz.ntmps17
  go_wp2_with (fail)
  refine (rorder hx hy k1 k2).mono ?_
  rintro e w' ⟨⟨z, rfl, hz⟩, hb1⟩
  have hz := Hid.mk hz
  have hb := hB.trans (hb1.mono hB.size)
  clear hb1 hB k1 k2
  go_wp2_with (fail)
  go_ret
  exact ⟨⟨_, rfl, by simpa using hz.un⟩, hb⟩
end Go.Proofs.YtfaodjjgnajodaaGreatDoor

namespace Go.Proofs.YtfaodjjgnajodaaGreatDoor
open Go Go.RowKit

theorem ArgsAt.heap {w w' : World} {d : TD} {v : Value} (h : ArgsAt w d v) (hh : w'.heap = w.heap) : ArgsAt w' d v := by
  have hcell : ∀ p, w'.cell? p = w.cell? p := fun p => by unfold World.cell?; rw [hh]
  cases h with
  | nil h => exact .nil h
  | empty a c h => exact .empty a c h
  | row b off c h hlt h0 h1 => exact .row b off c h (by rw [hh]; exact hlt) (fun k hk => (hcell _).trans (h0 k hk)) (fun k hk => (hcell _).trans (h1 k hk))

/-- A list of what was found, as it lies: n elements of four cells. -/
structure LRow (w : World) (b off n : Nat) (ds : Nat → TD) (V : Nat → Value) (st ro : Nat → Int) : Prop where
  hb : b < w.heap.size
  c0 : ∀ k, k < n → w.cell? ⟨b, off + k * 4, none⟩ = some (.string (ds k).p)
  c1 : ∀ k, k < n → w.cell? ⟨b, off + k * 4 + 1, none⟩ = some (V k)
  c2 : ∀ k, k < n → w.cell? ⟨b, off + k * 4 + 2, none⟩ = some (.int .i64 (st k))
  c3 : ∀ k, k < n → w.cell? ⟨b, off + k * 4 + 3, none⟩ = some (.int .i64 (ro k))
  args : ∀ k, k < n → ArgsAt w (ds k) (V k)
  ok : ∀ k, k < n → (ds k).ok

theorem LRow.later {w w' : World} {b off n base : Nat} {ds : Nat → TD} {V : Nat → Value} {st ro : Nat → Int} (h : LRow w b off n ds V st ro) (hb : Below base w w') (hs : w.heap.size = base) : LRow w' b off n ds V st ro := by
  subst hs
  exact ⟨Nat.lt_of_lt_of_le h.hb hb.size, fun k hk => (hb.cell (p := ⟨b, _, none⟩) h.hb).trans (h.c0 k hk), fun k hk => (hb.cell (p := ⟨b, _, none⟩) h.hb).trans (h.c1 k hk),
    fun k hk => (hb.cell (p := ⟨b, _, none⟩) h.hb).trans (h.c2 k hk), fun k hk => (hb.cell (p := ⟨b, _, none⟩) h.hb).trans (h.c3 k hk), fun k hk => (h.args k hk).later hb rfl, h.ok⟩

def LAt (w : World) (a : Option Addr) (n : Nat) (ds : Nat → TD) (V : Nat → Value) (st ro : Nat → Int) : Prop := 0 < n → ∃ b off, a = some ⟨b, off, none⟩ ∧ LRow w b off n ds V st ro

theorem LAt.later {w w' : World} {a : Option Addr} {n base : Nat} {ds : Nat → TD} {V : Nat → Value} {st ro : Nat → Int} (h : LAt w a n ds V st ro) (hb : Below base w w') (hs : w.heap.size = base) : LAt w' a n ds V st ro := by
  intro hn
  obtain ⟨b, off, e, hr⟩ := h hn
  exact ⟨b, off, e, hr.later hb hs⟩

/-- Where the first is that meets a test; -1: none does. -/
def IsIdx (n : Nat) (p : Nat → Prop) (z : Int) : Prop := (z = -1 ∧ ∀ k, k < n → ¬ p k) ∨ ∃ k : Nat, k < n ∧ z = k ∧ p k ∧ ∀ j, j < k → ¬ p j

theorem IsIdx.uniq {n : Nat} {p : Nat → Prop} {z z' : Int} (h : IsIdx n p z) (h' : IsIdx n p z') : z = z' := by
  rcases h with ⟨rfl, h⟩ | ⟨k, hk, rfl, hp, hj⟩ <;> rcases h' with ⟨rfl, h'⟩ | ⟨k', hk', rfl, hp', hj'⟩
  · rfl
  · exact absurd hp' (h k' hk')
  · exact absurd hp (h' k hk)
  · rcases Nat.lt_trichotomy k k' with l | l | l
    · exact absurd hp (hj' k l)
    · rw [l]
    · exact absurd hp' (hj k' l)

set_option maxRecDepth 100000 in
set_option maxHeartbeats 4000000 in
theorem rin (t : TD) (tv : Value) (a : Option Addr) (n c : Nat) (ds : Nat → TD) (V : Nat → Value) (st ro : Nat → Int) (w : World) (hn : n ≤ 200) (hL : Hid (LAt w a n ds V st ro)) (ht : t.ok) (hT : ArgsAt w t tv) :
    Calls Tryz.prog 6 #[.slice a n c, .agg #[.string t.p, tv]] w fun e w' => (∃ z : Int, e = .returned (.int .i64 z) ∧ IsIdx n (fun k => (ds k).same t) z) ∧ Below w.heap.size w w' := by
  have hB : Below w.heap.size w (w.alloc (.cells #[.string t.p, tv] 25)) := (Below.refl _ _).alloc (Nat.le_refl _) _
  go_enter Tryz.func6, Tryz.ntmps6
  go_wp2_with (fail)
  go_loopw [5] (fun i wr => ∃ k : Nat, k ≤ n ∧ i = .int .i64 k ∧ Hid (∀ j, j < k → ¬ (ds j).same t) ∧ Below w.heap.size w wr ∧ wr.cell? ⟨w.heap.size, 0, none⟩ = some (.string t.p) ∧ wr.cell? ⟨w.heap.size, 1, none⟩ = some tv ∧ w.heap.size + 1 ≤ wr.heap.size) (fun i _ => n - (intOf i).toNat)
  case atStart =>
    exact ⟨0, Nat.zero_le _, rfl, ⟨fun j h => by omega⟩, hB, by simp [go_sem], by simp [go_sem], by simp [go_sem]⟩
  case round =>
    obtain ⟨k, hk, rfl, heq, hbe, h1, h2, h5⟩ := hrel
    clear hB
    by_cases hlt : k < n
    · obtain ⟨b, off, rfl, hr⟩ := hL.un (by omega)
      have hr' := hr.later hbe rfl
      have c0 := hr'.c0 k hlt
      have c1 := hr'.c1 k hlt
      have hA := hr'.args k hlt
      have hok := hr'.ok k hlt
      have hT' := hT.later hbe rfl
      go_wp2
      go_still_tail 6, (by kernel_rfl)
      go_wp2_with (fail)
      refine (same (w := wr.drew) hok ht (hA.heap rfl) (hT'.heap rfl)).mono ?_
      rintro e w' ⟨⟨z, rfl, hz⟩, hb1⟩
      have hb2 : Below wr.heap.size wr w' := ⟨hb1.os, hb1.tape, hb1.output, hb1.size, hb1.block⟩
      have hz := Hid.mk hz
      have hbb := hbe.trans (hb2.mono hbe.size)
      clear hb1 hr hr' c0 c1 hA hT'
      cases z with
      | true =>
        have hs : Hid ((ds k).same t) := ⟨hz.un.1 rfl⟩
        clear hz
        go_wp2
        go_ret
        exact ⟨⟨k, rfl, .inr ⟨k, hlt, rfl, hs.un, heq.un⟩⟩, hbb⟩
      | false =>
        have hs : Hid (¬ (ds k).same t) := ⟨fun h => by have := hz.un.2 h; cases this⟩
        clear hz
        go_wp2
        go_roundw
        case rel =>
          exact ⟨k + 1, by omega, by go_num, ⟨upto heq.un hs.un⟩, hbb, (hb2.cell (p := ⟨w.heap.size, 0, none⟩) (by show w.heap.size < wr.heap.size; omega)).trans h1, (hb2.cell (p := ⟨w.heap.size, 1, none⟩) (by show w.heap.size < wr.heap.size; omega)).trans h2, by have := hb2.size; omega⟩
        case measure => simp [intOf]; omega
    · go_wp2
      go_ret
      exact ⟨⟨-1, rfl, .inl ⟨rfl, fun j hj => heq.un j (by omega)⟩⟩, hbe⟩

set_option maxRecDepth 100000 in
set_option maxHeartbeats 1000000 in
theorem find1 {w : World} {t x : TD} {tv v : Value} {st ro : Int} {cb : Nat} (hx : x.ok) (h1 : ArgsAt w x v) (h2 : ArgsAt w t tv) (hcb : cb < w.heap.size) (hc0 : w.cell? ⟨cb, 0, none⟩ = some (.string t.p)) (hc1 : w.cell? ⟨cb, 1, none⟩ = some tv) :
    Calls Tryz.prog 14 #[.agg #[.string x.p, v, .int .i64 st, .int .i64 ro], .pointer (some ⟨cb, 0, none⟩)] w fun e w' => (∃ z : Bool, e = .returned (.bool z) ∧ (z = true ↔ x.same t)) ∧ Below w.heap.size w w' := by
  have hB : Below w.heap.size w (w.alloc (.cells #[.string x.p, v, .int .i64 st, .int .i64 ro] 28)) := (Below.refl _ _).alloc (Nat.le_refl _) _
  have k1 := h1.later hB rfl
  have k2 := h2.later hB rfl
  go_enter Tryz.func14, Tryz.ntmps14
  go_wp2_with (fail)
  refine (order hx k1 k2).mono ?_
  rintro e w' ⟨⟨z, rfl, hz⟩, hb1⟩
  have hz := Hid.mk hz
  have hb := hB.trans (hb1.mono hB.size)
  clear hb1 hB k1 k2
  go_wp2_with (fail)
  go_ret
  exact ⟨⟨_, rfl, by simpa using hz.un⟩, hb⟩
end Go.Proofs.YtfaodjjgnajodaaGreatDoor

namespace Go.Proofs.YtfaodjjgnajodaaGreatDoor
open Go Go.RowKit

set_option maxRecDepth 100000 in
set_option maxHeartbeats 4000000 in
theorem indexFunc (t : TD) (tv : Value) (cb : Nat) (a : Option Addr) (n c : Nat) (ds : Nat → TD) (V : Nat → Value) (st ro : Nat → Int) (w : World) (hn : n ≤ 200) (hL : Hid (LAt w a n ds V st ro)) (hT : ArgsAt w t tv)
    (hcb : cb < w.heap.size) (hc0 : Hid (w.cell? ⟨cb, 0, none⟩ = some (.string t.p))) (hc1 : Hid (w.cell? ⟨cb, 1, none⟩ = some tv)) :
    Calls Tryz.prog 13 #[.slice a n c, .func (.func 14) #[] #[.pointer (some ⟨cb, 0, none⟩)]] w fun e w' => (∃ z : Int, e = .returned (.int .i64 z) ∧ IsIdx n (fun k => (ds k).same t) z) ∧ Below w.heap.size w w' := by
  go_enter Tryz.func13, Tryz.ntmps13
  go_wp2_with (fail)
  go_loopw [8] (fun i wr => ∃ k : Nat, k ≤ n ∧ i = .int .i64 k ∧ Hid (∀ j, j < k → ¬ (ds j).same t) ∧ Below w.heap.size w wr) (fun i _ => n - (intOf i).toNat)
  case atStart =>
    exact ⟨0, Nat.zero_le _, rfl, ⟨fun j h => by omega⟩, Below.refl _ _⟩
  case round =>
    obtain ⟨k, hk, rfl, heq, hbe⟩ := hrel
    by_cases hlt : k < n
    · obtain ⟨b, off, rfl, hr⟩ := hL.un (by omega)
      have hr' := hr.later hbe rfl
      have c0 := hr'.c0 k hlt
      have c1 := hr'.c1 k hlt
      have c2 := hr'.c2 k hlt
      have c3 := hr'.c3 k hlt
      have hA := hr'.args k hlt
      have hok := hr'.ok k hlt
      have hT' := hT.later hbe rfl
      go_wp2_with (fail)
      have hc0' := (hbe.cell (p := ⟨cb, 0, none⟩) hcb).trans hc0.un
      have hc1' := (hbe.cell (p := ⟨cb, 1, none⟩) hcb).trans hc1.un
      refine (find1 hok hA hT' (Nat.lt_of_lt_of_le hcb hbe.size) hc0' hc1').mono ?_
      rintro e w' ⟨⟨z, rfl, hz⟩, hb2⟩
      have hz := Hid.mk hz
      have hbb := hbe.trans (hb2.mono hbe.size)
      clear hr hr' c0 c1 c2 c3 hA hT' hc0' hc1'
      cases z with
      | true =>
        have hs : Hid ((ds k).same t) := ⟨hz.un.1 rfl⟩
        clear hz
        go_wp2
        go_ret
        exact ⟨⟨k, rfl, .inr ⟨k, hlt, rfl, hs.un, heq.un⟩⟩, hbb⟩
      | false =>
        have hs : Hid (¬ (ds k).same t) := ⟨fun h => by have := hz.un.2 h; cases this⟩
        clear hz
        go_wp2
        go_roundw
        case rel =>
          exact ⟨k + 1, by omega, by go_num, ⟨upto heq.un hs.un⟩, hbb⟩
        case measure => simp [intOf]; omega
    · go_wp2
      go_ret
      exact ⟨⟨-1, rfl, .inl ⟨rfl, fun j hj => heq.un j (by omega)⟩⟩, hbe⟩
end Go.Proofs.YtfaodjjgnajodaaGreatDoor

namespace Go.Proofs.YtfaodjjgnajodaaGreatDoor
open Go Go.RowKit

theorem info51 : (Tryz.prog.info? 51).map (fun i => (i.zero, i.size, i.bytes)) = some (some (.agg #[.string .empty, .int .i64 0]), 2, 24) := by kernel_rfl

/-- The cells of a tuple's values. -/
def TD.cells (d : TD) : List Value := (List.range (d.n * 2)).map fun j => if j % 2 = 0 then .string (d.ss (j / 2)) else .int .i64 (d.ns (j / 2))

theorem TD.cells_length (d : TD) : d.cells.length = d.n * 2 := by simp [TD.cells]
theorem TD.cells_at (d : TD) (j : Nat) (h : j < d.n * 2) : d.cells[j]? = some (if j % 2 = 0 then .string (d.ss (j / 2)) else .int .i64 (d.ns (j / 2))) := by
  simp [TD.cells, List.getElem?_map, List.getElem?_range h]
theorem TD.cells_one (d : TD) : ∀ u ∈ d.cells, u.oneCell' = true := by
  intro u hu
  obtain ⟨j, _, rfl⟩ := List.mem_map.1 hu
  split <;> rfl

theorem TD.cells_lie {w : World} {d : TD} {b off : Nat} (hc0 : ∀ k, k < d.n → w.cell? ⟨b, off + k * 2, none⟩ = some (.string (d.ss k))) (hc1 : ∀ k, k < d.n → w.cell? ⟨b, off + k * 2 + 1, none⟩ = some (.int .i64 (d.ns k))) :
    ∀ j u, d.cells[j]? = some u → w.cell? ((⟨b, off, none⟩ : Addr).add j) = some u := by
  intro j u hj
  have hlt : j < d.n * 2 := by
    have := (List.getElem?_eq_some_iff.1 hj).1
    rwa [TD.cells_length] at this
  rw [TD.cells_at d j hlt] at hj
  rw [Addr.add_lit, ← Option.some.inj hj]
  split
  · rename_i h
    have := hc0 (j / 2) (by omega)
    rwa [show off + j / 2 * 2 = off + j by omega] at this
  · rename_i h
    have := hc1 (j / 2) (by omega)
    rwa [show off + j / 2 * 2 + 1 = off + j by omega] at this

theorem ArgsAt.of_owns {w : World} {d : TD} {v : Value} {base : Nat} (hn : 0 < d.n) (h : w.ownsRow base 51 2 v d.n d.cells) : ArgsAt w d v := by
  obtain ⟨g, cap, rfl, _, hlt⟩ := h.form hn
  refine .row g 0 cap hn hlt (fun k hk => ?_) (fun k hk => ?_)
  · rw [h.cellAt _ (by omega), TD.cells_at d _ (by omega), if_pos (by omega)]
    congr 3; omega
  · rw [h.cellAt _ (by omega), TD.cells_at d _ (by omega), if_neg (by omega)]
    congr 3; omega


/-- A slice that lies in new memory. -/
def LiesFrom (base : Nat) (v : Value) : Prop := ∀ a n c, v = .slice (some a) n c → base ≤ a.block

theorem LiesFrom.of_owns {w : World} {base n size : Nat} {e : TypeId} {v : Value} {xs : List Value} (h : w.ownsRow base e size v n xs) : LiesFrom base v := by
  intro a n' c' hv
  rcases h.2 with ⟨rfl, _⟩ | ⟨g, cap, cur, rfl, hg, _⟩
  · cases hv
  · cases hv; exact hg

theorem ArgsAt.setCell {w : World} {d : TD} {v : Value} {base : Nat} (h : ArgsAt w d v) (hl : LiesFrom base v) {p : Addr} (hp : p.block < base) (u : Value) : ArgsAt (w.setCell p u) d v := by
  cases h with
  | nil h => exact .nil h
  | empty a c h => exact .empty a c h
  | row b off c h hlt h0 h1 =>
    have hne : b ≠ p.block := by have : base ≤ b := hl _ _ _ rfl; omega
    have hh := Below.heap_setCell w p u b hne
    have hc : ∀ o, (w.setCell p u).cell? ⟨b, o, none⟩ = w.cell? ⟨b, o, none⟩ := fun o => World.cell?_of_block (w := w) hh
    exact .row b off c h (by simpa using hlt) (fun k hk => (hc _).trans (h0 k hk)) (fun k hk => (hc _).trans (h1 k hk))

theorem below_grown2 {w w' : World} {o : Obj} {n : Nat} {c : Nat} (h : (w.alloc o).grownBy w' (Value.slice (some ⟨w.heap.size, 0, none⟩) n c).ownBlock) : Below w.heap.size w w' :=
  ((Below.refl _ w).alloc (Nat.le_refl _) _).grown h (by simp) (by intro k hk; simp [Value.ownBlock] at hk; omega)

set_option maxRecDepth 100000 in
set_option maxHeartbeats 2000000 in
theorem clone {w : World} {d : TD} {v : Value} (hd : d.ok) (h : ArgsAt w d v) : Calls Tryz.prog 16 #[v] w fun e w' => (∃ v', e = .returned v' ∧ ArgsAt w' d v' ∧ LiesFrom w.heap.size v') ∧ Below w.heap.size w w' := by
  obtain ⟨i0, hi, hz0, hz1, hz2⟩ := info_parts info51
  have q23 : ∀ (w : World) (a : Option Addr) (n c n' c' : Nat), (binOp .eql 23 (.slice a n c) (.slice none n' c')).run Tryz.prog w = .ok (.bool a.isNone) w := fun w a n c n' c' => Lib.run_eql_slice_nil w _ _ a n c n' c' Tryz.underlying23
  cases h with
  | nil h =>
    go_enter Tryz.func16, Tryz.ntmps16
    go_wp2
    go_ret
    exact ⟨⟨_, rfl, .nil h, fun a n c h => by cases h⟩, Below.refl _ _⟩
  | empty a c h =>
    go_enter Tryz.func16, Tryz.ntmps16
    go_wp2_with (at_builtin; refine wpList_append_own _ rfl _ _ 23 rfl w.heap.size 51 i0 (.agg #[.string .empty, .int .i64 0]) 2 24 Tryz.underlying23 hi hz0 hz1 hz2 rfl (by decide) _ _ _ rfl (World.ownsRow_made w #[] 0 (Nat.le_refl _) (Nat.zero_le _) rfl) a 0 c [] rfl rfl (fun j u hj => by simp at hj) (fun u hu => by cases hu) (by unfold maxLen; omega) (by omega) (by simp) ?_; intro v' w1 hown hgrow hnil)
    go_wp2
    go_ret
    refine ⟨⟨v', rfl, ?_, LiesFrom.of_owns hown⟩, below_grown2 hgrow⟩
    rcases hown.2 with ⟨rfl, _⟩ | ⟨g, cap, cur, rfl, _⟩
    · exact .nil h
    · exact .empty _ _ h
  | row b off c h hb h0 h1 =>
    have hl := TD.cells_length d
    have h1c := TD.cells_one d
    have hbytes := hd.h24
    have hmax := hd.hn
    have hlie := Hid.mk (TD.cells_lie h0 h1)
    have hcs := Hid.mk (rfl : d.cells = d.cells)
    clear h0 h1
    go_enter Tryz.func16, Tryz.ntmps16
    have hlie' : ∀ j u, d.cells[j]? = some u → (w.alloc (.cells #[] 51)).cell? ((⟨b, off, none⟩ : Addr).add j) = some u := by
      intro j u hj
      rw [Addr.add_lit]
      refine Lib.cell?_alloc_some _ ?_
      have := hlie.un j u hj
      rwa [Addr.add_lit] at this
    have hlie2 := Hid.mk hlie'
    clear hlie'
    go_wp2_with (at_builtin; refine wpList_append_own _ rfl _ _ 23 rfl w.heap.size 51 i0 (.agg #[.string .empty, .int .i64 0]) 2 24 Tryz.underlying23 hi hz0 hz1 hz2 rfl (by decide) _ _ _ rfl (World.ownsRow_made w #[] 0 (Nat.le_refl _) (Nat.zero_le _) rfl) ⟨b, off, none⟩ d.n c d.cells rfl hl hlie2.un h1c (by omega) (by omega) (by simp) ?_; intro v' w1 hown hgrow hnil)
    go_wp2
    go_ret
    exact ⟨⟨v', rfl, ArgsAt.of_owns h (by simpa using hown), LiesFrom.of_owns hown⟩, below_grown2 hgrow⟩
end Go.Proofs.YtfaodjjgnajodaaGreatDoor

namespace Go.Proofs.YtfaodjjgnajodaaGreatDoor
open Go Go.RowKit

/-- What 'naive.Find' tells. -/
def FindSays (w' : World) (n : Nat) (ds : Nat → TD) (st ro : Nat → Int) (t : TD) (e : Value) : Prop :=
  (e = .tuple #[.agg #[.string ⟨#[]⟩, .slice none 0 0, .int .i64 0, .int .i64 0], .bool false] ∧ IsIdx n (fun k => (ds k).same t) (-1)) ∨
  ∃ (k : Nat) (v' : Value), k < n ∧ e = .tuple #[.agg #[.string (ds k).p, v', .int .i64 (st k), .int .i64 (ro k)], .bool true] ∧ ArgsAt w' (ds k) v' ∧ IsIdx n (fun k => (ds k).same t) k

/-- A row of four cells that may be written. -/
structure Four (w : World) (q : Nat) (x0 x1 x2 x3 : Value) : Prop where
  c0 : w.cell? ⟨q, 0, none⟩ = some x0
  c1 : w.cell? ⟨q, 1, none⟩ = some x1
  c2 : w.cell? ⟨q, 2, none⟩ = some x2
  c3 : w.cell? ⟨q, 3, none⟩ = some x3
  f0 : w.frozen? ⟨q, 0, none⟩ = false
  f1 : w.frozen? ⟨q, 1, none⟩ = false
  f2 : w.frozen? ⟨q, 2, none⟩ = false
  f3 : w.frozen? ⟨q, 3, none⟩ = false
  lt : q < w.heap.size

theorem Four.later {w w' : World} {q : Nat} {x0 x1 x2 x3 : Value} {base : Nat} (h : Four w q x0 x1 x2 x3) (hb : Below base w w') (hq : w.heap.size = base) : Four w' q x0 x1 x2 x3 := by
  subst hq
  have lt := h.lt
  exact ⟨(hb.cell (p := ⟨q, 0, none⟩) lt).trans h.c0, (hb.cell (p := ⟨q, 1, none⟩) lt).trans h.c1, (hb.cell (p := ⟨q, 2, none⟩) lt).trans h.c2, (hb.cell (p := ⟨q, 3, none⟩) lt).trans h.c3,
    (hb.frozen (p := ⟨q, 0, none⟩) lt).trans h.f0, (hb.frozen (p := ⟨q, 1, none⟩) lt).trans h.f1, (hb.frozen (p := ⟨q, 2, none⟩) lt).trans h.f2, (hb.frozen (p := ⟨q, 3, none⟩) lt).trans h.f3, Nat.lt_of_lt_of_le lt hb.size⟩

theorem Four.new (w : World) (x0 x1 x2 x3 : Value) (t : TypeId) : Four (w.alloc (.cells #[x0, x1, x2, x3] t)) w.heap.size x0 x1 x2 x3 :=
  ⟨by simp [go_sem], by simp [go_sem], by simp [go_sem], by simp [go_sem], by simp [go_sem], by simp [go_sem], by simp [go_sem], by simp [go_sem], by simp⟩

set_option maxRecDepth 100000 in
set_option maxHeartbeats 4000000 in
theorem find (t : TD) (tv : Value) (a : Option Addr) (n c : Nat) (ds : Nat → TD) (V : Nat → Value) (st ro : Nat → Int) (w : World) (hn : n ≤ 200) (hL : Hid (LAt w a n ds V st ro)) (hT : ArgsAt w t tv) :
    Calls Tryz.prog 5 #[.slice a n c, .agg #[.string t.p, tv]] w fun e w' => (∃ r, e = .returned r ∧ FindSays w' n ds st ro t r) ∧ Below w.heap.size w w' := by
  have hB : Below w.heap.size w ((w.alloc (.cells #[.string t.p, tv] 25)).alloc (.cells #[.string ⟨#[]⟩, .slice none 0 0, .int .i64 0, .int .i64 0] 28)) := below2 _ _
  have ha : ((w.alloc (.cells #[.string t.p, tv] 25)).alloc (.cells #[.string ⟨#[]⟩, .slice none 0 0, .int .i64 0, .int .i64 0] 28)).cell? ⟨w.heap.size, 0, none⟩ = some (.string t.p) := by simp [go_sem]
  have hb : ((w.alloc (.cells #[.string t.p, tv] 25)).alloc (.cells #[.string ⟨#[]⟩, .slice none 0 0, .int .i64 0, .int .i64 0] 28)).cell? ⟨w.heap.size, 1, none⟩ = some tv := by simp [go_sem]
  have hsz : ((w.alloc (.cells #[.string t.p, tv] 25)).alloc (.cells #[.string ⟨#[]⟩, .slice none 0 0, .int .i64 0, .int .i64 0] 28)).heap.size = w.heap.size + 2 := by simp
  have hrow := Four.new (w.alloc (.cells #[.string t.p, tv] 25)) (.string ⟨#[]⟩) (.slice none 0 0) (.int .i64 0) (.int .i64 0) 28
  rw [show (w.alloc (.cells #[.string t.p, tv] 25)).heap.size = w.heap.size + 1 by simp] at hrow
  have hL1 : Hid (LAt _ a n ds V st ro) := ⟨hL.un.later hB rfl⟩
  have hT1 := hT.later hB rfl
  go_enter Tryz.func5, Tryz.ntmps5
  go_wp2_with (fail)
  generalize ((w.alloc (.cells #[.string t.p, tv] 25)).alloc (.cells #[.string ⟨#[]⟩, .slice none 0 0, .int .i64 0, .int .i64 0] 28)) = w1 at *
  refine (indexFunc t tv w.heap.size a n c ds V st ro w1 hn hL1 hT1 (by omega) ⟨ha⟩ ⟨hb⟩).mono ?_
  rintro e w2 ⟨⟨z, rfl, hz⟩, hb2⟩
  have hrow2 := hrow.later hb2 rfl
  have hB2 := hB.trans (hb2.mono hB.size)
  have hz := Hid.mk hz
  have hle : w.heap.size + 2 ≤ w2.heap.size := by have := hb2.size; omega
  clear ha hb hrow hL1 hT1 hB hT
  have hz' : z = -1 ∨ ∃ k : Nat, k < n ∧ z = k := by
    rcases hz.un with ⟨h, _⟩ | ⟨k, h1, h2, _⟩
    · exact .inl h
    · exact .inr ⟨k, h1, h2⟩
  rcases hz' with rfl | ⟨k, hk, rfl⟩
  · obtain ⟨c0, c1, c2, c3, f0, f1, f2, f3, lt⟩ := hrow2
    go_wp2_with (fail)
    refine bodyPost_ret_by (v := .tuple #[.agg #[.string ⟨#[]⟩, .slice none 0 0, .int .i64 0, .int .i64 0], .bool false]) ?_ rfl ?_
    · rw [results_cell_tmp rfl]
      go_simp
    · refine ⟨⟨_, rfl, .inl ⟨rfl, hz.un⟩⟩, (((hB2.setCell ?_ _).setCell ?_ _).setCell ?_ _).setCell ?_ _⟩ <;> exact Nat.le_succ _
  · obtain ⟨b, off, rfl, hr⟩ := hL.un (by omega)
    have hr' := hr.later hB2 rfl
    have g0 := hr'.c0 k hk
    have g1 := hr'.c1 k hk
    have g2 := hr'.c2 k hk
    have g3 := hr'.c3 k hk
    have hA := hr'.args k hk
    have hok := hr'.ok k hk
    clear hr hr'
    obtain ⟨a', c', hV, _⟩ := hA.form
    rw [hV] at g1 hA
    generalize hq : (ds k).n = q at *
    clear hV
    have hsz2 : w2.heap.size < (w2.alloc (.cells #[.string (ds k).p, .slice a' q c', .int .i64 (st k), .int .i64 (ro k)] 28)).heap.size := by simp
    have hB3 : Below w2.heap.size w2 (w2.alloc (.cells #[.string (ds k).p, .slice a' q c', .int .i64 (st k), .int .i64 (ro k)] 28)) := (Below.refl _ _).alloc (Nat.le_refl _) _
    have hrow3 := hrow2.later hB3 rfl
    have hnew3 := Four.new w2 (.string (ds k).p) (.slice a' q c') (.int .i64 (st k)) (.int .i64 (ro k)) 28
    have hA3 := hA.later hB3 rfl
    go_wp2_with (fail)
    refine (clone hok hA3).mono ?_
    rintro e w4 ⟨⟨v', rfl, hv', hlies⟩, hb4⟩
    have hv'' := Hid.mk hv'
    obtain ⟨a2, c2', rfl, _⟩ := hv'.form
    clear hv'
    have hrow4 := hrow3.later hb4 rfl
    have hnew4 := hnew3.later hb4 rfl
    have hB4 := hB2.trans ((hB3.trans (hb4.mono hB3.size)).mono hB2.size)
    clear g0 g1 g2 g3 hrow2 hrow3 hnew3 hA hA3 hB3 hb4 hb2
    have hne : (w.heap.size + 1 = w2.heap.size) = False := by simp; omega
    have hne' : (w2.heap.size = w.heap.size + 1) = False := by simp; omega
    obtain ⟨c0, c1, c2, c3, f0, f1, f2, f3, lt⟩ := hrow4
    obtain ⟨d0, d1, d2, d3, e0, e1, e2, e3, lt'⟩ := hnew4
    go_wp2_with (fail)
    refine bodyPost_ret_by (v := .tuple #[.agg #[.string (ds k).p, .slice a2 q c2', .int .i64 (st k), .int .i64 (ro k)], .bool true]) ?_ rfl ?_
    · rw [results_cell_tmp rfl]
      go_simp
    · have hl1 : w.heap.size ≤ w2.heap.size := by omega
      have hl2 : w.heap.size ≤ w.heap.size + 1 := Nat.le_succ _
      have m1 : w2.heap.size < (w2.alloc (.cells #[.string (ds k).p, .slice a' q c', .int .i64 (st k), .int .i64 (ro k)] 28)).heap.size := hsz2
      have m2 : w.heap.size + 1 < (w2.alloc (.cells #[.string (ds k).p, .slice a' q c', .int .i64 (st k), .int .i64 (ro k)] 28)).heap.size := by omega
      refine ⟨⟨_, rfl, .inr ⟨k, _, hk, rfl, ?_, hz.un⟩⟩, ((((hB4.setCell hl1 _).setCell hl2 _).setCell hl2 _).setCell hl2 _).setCell hl2 _⟩
      have hv3 := hv''.un
      rw [hq] at hv3 hlies
      refine ((((hv3.setCell hlies ?_ _).setCell hlies ?_ _).setCell hlies ?_ _).setCell hlies ?_ _).setCell hlies ?_ _ <;> first | exact m1 | exact m2
end Go.Proofs.YtfaodjjgnajodaaGreatDoor
