/- ProveDepths, part 1: how deep a proof is, in plain words; walks: prove.Depth and the reference's Depth, for every list of at most 300 nodes of at most 20 kids. -/
import Derived.Test.YtkiboofldjnapaaGreatDoorProg
import Derived.Tactics
import Derived.Tactics2
import Derived.WalkKit
import Derived.LoopTactic
import Derived.Deep.QuietTactic
import Derived.BigQuiet
import Derived.Outline
import Derived.StillTailTactics
import Derived.KernelRfl
import Derived.WideShapes
import Derived.ArgAppend
import Derived.OwnWalk
import Derived.Deep.AppendLies
import Derived.Laws.OwnMore
import Derived.Lib.SliceRun
import Derived.Lib.Walk
set_option linter.unusedSimpArgs false
set_option linter.unusedVariables false
set_option linter.unnecessarySimpa false

namespace Go.Proofs.YtkiboofldjnapaaGreatDoor
open Go Go.RowKit

/-- A fact that simp is not to see. -/
structure Hid (p : Prop) : Prop where
  un : p

/-- A slice of numbers, as it lies. -/
def KAt (w : World) (a : Option Addr) (m : Nat) (f : Nat → Int) : Prop := 0 < m → ∃ b off, a = some ⟨b, off, none⟩ ∧ b < w.heap.size ∧ ∀ k, k < m → w.cell? ⟨b, off + k, none⟩ = some (.int .i64 (f k))

theorem KAt.later {w w' : World} {a : Option Addr} {m base : Nat} {f : Nat → Int} (h : KAt w a m f) (hb : Below base w w') (hs : w.heap.size = base) : KAt w' a m f := by
  subst hs
  intro hm
  obtain ⟨b, off, e, hlt, hc⟩ := h hm
  exact ⟨b, off, e, Nat.lt_of_lt_of_le hlt hb.size, fun k hk => (hb.cell (p := ⟨b, _, none⟩) hlt).trans (hc k hk)⟩

def Bad (i : Nat) (x : Int) : Prop := x < 0 ∨ (i : Int) ≤ x
instance (i : Nat) (x : Int) : Decidable (Bad i x) := by unfold Bad; infer_instance

set_option maxRecDepth 100000 in
set_option maxHeartbeats 1000000 in
theorem depth1 {w : World} (x : Int) (i cb : Nat) (hc : w.cell? ⟨cb, 0, none⟩ = some (.int .i64 i)) :
    Calls Tryz.prog 12 #[.int .i64 x, .pointer (some ⟨cb, 0, none⟩)] w fun e w' => e = .returned (.bool (decide (Bad i x))) ∧ w' = w := by
  by_cases h1 : x < 0
  · have hb : decide (Bad i x) = true := by simp [Bad, h1]
    go_enter Tryz.func12, Tryz.ntmps12
    go_wp2
    go_ret
    exact ⟨by first | rfl | (rw [hb]; rfl), rfl⟩
  · by_cases h2 : (i : Int) ≤ x
    · have hb : decide (Bad i x) = true := by simp [Bad, h2]
      go_enter Tryz.func12, Tryz.ntmps12
      go_wp2
      go_ret
      exact ⟨by first | rfl | (rw [hb]; rfl), rfl⟩
    · have hb : decide (Bad i x) = false := decide_eq_false (by unfold Bad; omega)
      go_enter Tryz.func12, Tryz.ntmps12
      go_wp2
      go_ret
      exact ⟨by first | rfl | (rw [hb]; rfl), rfl⟩

set_option maxRecDepth 100000 in
set_option maxHeartbeats 2000000 in
theorem indexFunc {w : World} (i cb m c : Nat) (a : Option Addr) (f : Nat → Int) (hm : m ≤ 20) (hK : Hid (KAt w a m f)) (hc : w.cell? ⟨cb, 0, none⟩ = some (.int .i64 i)) :
    Calls Tryz.prog 39 #[.slice a m c, .func (.func 12) #[] #[.pointer (some ⟨cb, 0, none⟩)]] w fun e w' => (∃ z : Int, e = .returned (.int .i64 z) ∧ ((0 ≤ z) ↔ ∃ k, k < m ∧ Bad i (f k))) ∧ w' = w := by
  go_enter Tryz.func39, Tryz.ntmps39
  go_wp2_with (fail)
  go_loopw [8] (fun j wr => ∃ k : Nat, k ≤ m ∧ j = .int .i64 k ∧ Hid (∀ j, j < k → ¬ Bad i (f j)) ∧ wr = w) (fun j _ => m - (intOf j).toNat)
  case atStart =>
    exact ⟨0, Nat.zero_le _, rfl, ⟨fun j h => by omega⟩, rfl⟩
  case round =>
    obtain ⟨k, hk, rfl, hno, rfl⟩ := hrel
    by_cases hlt : k < m
    · obtain ⟨b, off, rfl, hb, hcs⟩ := hK.un (by omega)
      have c0 := hcs k hlt
      have hcs := Hid.mk hcs
      go_wp2_with (fail)
      refine (depth1 (f k) i cb hc).mono ?_
      rintro e w' ⟨rfl, rfl⟩
      by_cases hbad : Bad i (f k)
      · have hd : decide (Bad i (f k)) = true := by simp [hbad]
        rw [hd]
        go_wp2
        go_ret
        exact ⟨⟨k, rfl, ⟨fun _ => ⟨k, hlt, hbad⟩, fun _ => by omega⟩⟩, rfl⟩
      · have hd : decide (Bad i (f k)) = false := by simp [hbad]
        rw [hd]
        have hbad := Hid.mk hbad
        go_wp2
        go_roundw
        case rel =>
          refine ⟨k + 1, by omega, by go_num, ⟨fun j hj => ?_⟩, trivial⟩
          by_cases hjk : j < k
          · exact hno.un j hjk
          · obtain rfl : j = k := by omega
            exact hbad.un
        case measure => simp [intOf]; omega
    · go_wp2
      go_ret
      exact ⟨⟨-1, rfl, ⟨fun h => by omega, fun ⟨j, hj, hb⟩ => absurd hb (hno.un j (by omega))⟩⟩, rfl⟩

set_option maxRecDepth 100000 in
set_option maxHeartbeats 2000000 in
theorem containsFunc {w : World} (i cb m c : Nat) (a : Option Addr) (f : Nat → Int) (hm : m ≤ 20) (hK : KAt w a m f) (hc : w.cell? ⟨cb, 0, none⟩ = some (.int .i64 i)) :
    Calls Tryz.prog 11 #[.slice a m c, .func (.func 12) #[] #[.pointer (some ⟨cb, 0, none⟩)]] w fun e w' => (∃ z : Bool, e = .returned (.bool z) ∧ (z = true ↔ ∃ k, k < m ∧ Bad i (f k))) ∧ w' = w := by
  have hK := Hid.mk hK
  go_enter Tryz.func11, Tryz.ntmps11
  go_wp2_with (fail)
  refine (indexFunc i cb m c a f hm hK hc).mono ?_
  rintro e w' ⟨⟨z, rfl, hz⟩, rfl⟩
  have hz := Hid.mk hz
  go_wp2_with (fail)
  go_ret
  exact ⟨⟨_, rfl, by simpa using hz.un⟩, rfl⟩
end Go.Proofs.YtkiboofldjnapaaGreatDoor

namespace Go.Proofs.YtkiboofldjnapaaGreatDoor
open Go

/-- How deep a node is whose first k kids were looked at. -/
def acc (D : Nat → Int) (f : Nat → Int) : Nat → Int
  | 0 => 1
  | k + 1 => max (acc D f k) (D (f k).toNat + 1)

theorem acc_congr {D D' : Nat → Int} {f : Nat → Int} : ∀ {k : Nat}, (∀ j, j < k → D (f j).toNat = D' (f j).toNat) → acc D f k = acc D' f k
  | 0, _ => rfl
  | k + 1, h => by
    unfold acc
    rw [acc_congr (fun j hj => h j (by omega)), h k (by omega)]

section
variable (ms : Nat → Nat) (fs : Nat → Nat → Int)
open Classical in
/-- How deep the first i nodes are. -/
noncomputable def DL : Nat → List Int
  | 0 => []
  | i + 1 => DL i ++ [if ∃ k, k < ms i ∧ Bad i (fs i k) then 0 else acc (fun j => (DL i).getD j 0) (fs i) (ms i)]

noncomputable def dv (i : Nat) : Int := (DL ms fs (i + 1)).getD i 0
noncomputable def MX : Nat → Int
  | 0 => 0
  | i + 1 => max (MX i) (dv ms fs i)

theorem DL_length : ∀ i, (DL ms fs i).length = i
  | 0 => rfl
  | i + 1 => by unfold DL; simp [DL_length i]

theorem DL_get (j : Nat) : ∀ i, j < i → (DL ms fs i).getD j 0 = dv ms fs j
  | 0, h => by omega
  | i + 1, h => by
    by_cases hj : j = i
    · subst hj; rfl
    · have hl := DL_length ms fs i
      have : (DL ms fs (i + 1)).getD j 0 = (DL ms fs i).getD j 0 := by
        conv => lhs; unfold DL
        simp [List.getD, List.getElem?_append_left (show j < (DL ms fs i).length by omega)]
      rw [this]
      exact DL_get j i (by omega)

theorem dv_bad {i : Nat} (h : ∃ k, k < ms i ∧ Bad i (fs i k)) : dv ms fs i = 0 := by
  unfold dv DL
  simp only [if_pos h]
  simp [List.getD, DL_length ms fs i]

theorem dv_good {i : Nat} (h : ∀ k, k < ms i → ¬ Bad i (fs i k)) : dv ms fs i = acc (dv ms fs) (fs i) (ms i) := by
  have hn : ¬ ∃ k, k < ms i ∧ Bad i (fs i k) := fun ⟨k, h1, h2⟩ => h k h1 h2
  have e : acc (fun j => (DL ms fs i).getD j 0) (fs i) (ms i) = acc (dv ms fs) (fs i) (ms i) := by
    refine acc_congr fun j hj => ?_
    have := h j hj
    unfold Bad at this
    exact DL_get ms fs _ i (by omega)
  rw [← e]
  show (DL ms fs (i + 1)).getD i 0 = _
  conv => lhs; unfold DL
  rw [if_neg hn]
  simp [List.getD, DL_length ms fs i]

theorem acc_bound {D : Nat → Int} {f : Nat → Int} {i : Nat} (hD : ∀ j, j < i → 0 ≤ D j ∧ D j ≤ j + 1) : ∀ {k : Nat}, (∀ j, j < k → ¬ Bad i (f j)) → 1 ≤ acc D f k ∧ acc D f k ≤ i + 1
  | 0, _ => by unfold acc; omega
  | k + 1, h => by
    have h1 := acc_bound hD (k := k) (fun j hj => h j (by omega))
    have h2 := h k (by omega)
    unfold Bad at h2
    have h3 := hD (f k).toNat (by omega)
    unfold acc
    omega

theorem dv_bound : ∀ i, ∀ j, j < i → 0 ≤ dv ms fs j ∧ dv ms fs j ≤ j + 1
  | 0, j, h => by omega
  | i + 1, j, h => by
    by_cases hj : j < i
    · exact dv_bound i j hj
    · obtain rfl : j = i := by omega
      by_cases hb : ∃ k, k < ms j ∧ Bad j (fs j k)
      · rw [dv_bad ms fs hb]; omega
      · have hg : ∀ k, k < ms j → ¬ Bad j (fs j k) := fun k hk hh => hb ⟨k, hk, hh⟩
        rw [dv_good ms fs hg]
        have := acc_bound (dv_bound j) hg
        omega

theorem MX_bound : ∀ i, 0 ≤ MX ms fs i ∧ MX ms fs i ≤ i
  | 0 => by unfold MX; omega
  | i + 1 => by
    have h1 := MX_bound i
    have h2 := dv_bound ms fs (i + 1) i (by omega)
    unfold MX
    omega
end
end Go.Proofs.YtkiboofldjnapaaGreatDoor

namespace Go.Proofs.YtkiboofldjnapaaGreatDoor
open Go Go.RowKit

/-- What a list of nodes holds. -/
structure ND where
  ms : Nat → Nat
  fs : Nat → Nat → Int
  ka : Nat → Option Addr
  kc : Nat → Nat
  us : Nat → Int
  ns : Nat → Int
  ps : Nat → ByteArray
  av : Nat → Option Addr
  an : Nat → Nat
  ac : Nat → Nat
  tv : Nat → Option Addr
  tn : Nat → Nat
  tc : Nat → Nat

/-- A list of nodes, as it lies: n elements of six cells. -/
structure NRow (w : World) (b off n : Nat) (D : ND) : Prop where
  hb : b < w.heap.size
  c0 : ∀ k, k < n → w.cell? ⟨b, off + k * 6, none⟩ = some (.int .i64 (D.us k))
  c1 : ∀ k, k < n → w.cell? ⟨b, off + k * 6 + 1, none⟩ = some (.int .i64 (D.ns k))
  c2 : ∀ k, k < n → w.cell? ⟨b, off + k * 6 + 2, none⟩ = some (.string (D.ps k))
  c3 : ∀ k, k < n → w.cell? ⟨b, off + k * 6 + 3, none⟩ = some (.slice (D.av k) (D.an k) (D.ac k))
  c4 : ∀ k, k < n → w.cell? ⟨b, off + k * 6 + 4, none⟩ = some (.slice (D.ka k) (D.ms k) (D.kc k))
  c5 : ∀ k, k < n → w.cell? ⟨b, off + k * 6 + 5, none⟩ = some (.slice (D.tv k) (D.tn k) (D.tc k))
  kids : ∀ k, k < n → KAt w (D.ka k) (D.ms k) (D.fs k)

theorem NRow.later {w w' : World} {b off n base : Nat} {D : ND} (h : NRow w b off n D) (hb : Below base w w') (hs : w.heap.size = base) : NRow w' b off n D := by
  subst hs
  exact ⟨Nat.lt_of_lt_of_le h.hb hb.size, fun k hk => (hb.cell (p := ⟨b, _, none⟩) h.hb).trans (h.c0 k hk), fun k hk => (hb.cell (p := ⟨b, _, none⟩) h.hb).trans (h.c1 k hk),
    fun k hk => (hb.cell (p := ⟨b, _, none⟩) h.hb).trans (h.c2 k hk), fun k hk => (hb.cell (p := ⟨b, _, none⟩) h.hb).trans (h.c3 k hk), fun k hk => (hb.cell (p := ⟨b, _, none⟩) h.hb).trans (h.c4 k hk),
    fun k hk => (hb.cell (p := ⟨b, _, none⟩) h.hb).trans (h.c5 k hk), fun k hk => (h.kids k hk).later hb rfl⟩

def NAt (w : World) (a : Option Addr) (n : Nat) (D : ND) : Prop := 0 < n → ∃ b off, a = some ⟨b, off, none⟩ ∧ NRow w b off n D

theorem NAt.later {w w' : World} {a : Option Addr} {n base : Nat} {D : ND} (h : NAt w a n D) (hb : Below base w w') (hs : w.heap.size = base) : NAt w' a n D := by
  intro hn
  obtain ⟨b, off, e, hr⟩ := h hn
  exact ⟨b, off, e, hr.later hb hs⟩

noncomputable def dcells (D : ND) (i : Nat) : List Value := (List.range i).map fun j => .int .i64 (dv D.ms D.fs j)
theorem dcells_length (D : ND) (i : Nat) : (dcells D i).length = i := by simp [dcells]
theorem dcells_at (D : ND) (i j : Nat) (h : j < i) : (dcells D i)[j]? = some (.int .i64 (dv D.ms D.fs j)) := by simp [dcells, List.getElem?_map, List.getElem?_range h]
theorem dcells_succ (D : ND) (i : Nat) : dcells D (i + 1) = dcells D i ++ [.int .i64 (dv D.ms D.fs i)] := by simp [dcells, List.range_succ]

theorem info3 : (Tryz.prog.info? 3).map (fun i => (i.zero, i.size, i.bytes)) = some (some (.int .i64 0), 1, 8) := by kernel_rfl

set_option maxRecDepth 100000 in
set_option maxHeartbeats 8000000 in
theorem rdepth (a : Option Addr) (n c : Nat) (D : ND) (w : World) (hn : n ≤ 300) (hm : Hid (∀ k, k < n → D.ms k ≤ 20)) (hL : Hid (NAt w a n D)) :
    Calls Tryz.prog 6 #[.slice a n c] w fun e w' => e = .returned (.int .i64 (MX D.ms D.fs n)) ∧ Below w.heap.size w w' := by
  obtain ⟨i0, hi, hz0, hz1, hz2⟩ := info_parts info3
  go_enter Tryz.func6, Tryz.ntmps6
  go_wp2_with (fail)
  go_loopw [3, 4, 5] (fun v mx ix wr => ∃ i : Nat, i ≤ n ∧ ix = .int .i64 i ∧ mx = .int .i64 (MX D.ms D.fs i) ∧ (∃ ao cv, v = .slice ao i cv) ∧ wr.ownsRow w.heap.size 3 1 v i (dcells D i) ∧ Below w.heap.size w wr) (fun _ _ ix _ => n - (intOf ix).toNat)
  case atStart =>
    exact ⟨0, Nat.zero_le _, rfl, rfl, ⟨none, 0, rfl⟩, World.ownsRow_nil _ _ _ _, Below.refl _ _⟩
  case round =>
    obtain ⟨i, hi', rfl, rfl, ⟨ao, cv, rfl⟩, hown, hbe⟩ := hrel
    by_cases hlt : i < n
    · obtain ⟨b, off, rfl, hr⟩ := hL.un (by omega)
      have hr' := hr.later hbe rfl
      have c4 := hr'.c4 i hlt
      have hK := Hid.mk (hr'.kids i hlt)
      have hm20 := hm.un i hlt
      have hsz := hbe.size
      have hMX := MX_bound D.ms D.fs i
      clear hr hr'
      go_wp2_with (fail)
      go_loopw [6, 7] (fun d kx wq => ∃ k : Nat, k ≤ D.ms i ∧ kx = .int .i64 k ∧ d = .int .i64 (acc (dv D.ms D.fs) (D.fs i) k) ∧ Hid (∀ j, j < k → ¬ Bad i (D.fs i j)) ∧ wq = wr) (fun _ kx _ => D.ms i - (intOf kx).toNat)
      case atStart => exact ⟨0, Nat.zero_le _, rfl, rfl, ⟨fun j h => by omega⟩, rfl⟩
      case round =>
        obtain ⟨k, hk, rfl, rfl, hno, rfl⟩ := hrel
        have hgt : ¬ MX D.ms D.fs i < 0 := by omega
        by_cases hlk : k < D.ms i
        · obtain ⟨bk, ok, e, hbk, hck⟩ := hK.un (by omega)
          have hx := hck k hlk
          rw [e] at c4
          clear hck
          by_cases h1 : D.fs i k < 0
          · have hdv : Hid (dv D.ms D.fs i = 0) := ⟨dv_bad _ _ ⟨k, hlk, .inl h1⟩⟩
            go_wp2_with (at_builtin; refine wpList_append_own _ rfl _ _ 27 rfl w.heap.size 3 i0 (.int .i64 0) 1 8 Tryz.underlying27 hi hz0 hz1 hz2 rfl (by decide) _ _ _ rfl (hown.alloc _) ⟨wr.heap.size, 0, none⟩ 1 1 [.int .i64 (0)] rfl rfl (cell_one_new _ _ _) (fun u hu => by simp at hu; subst hu; rfl) (by unfold maxLen; omega) (by omega) (by simp; omega) ?_; intro v' w1 hown' hgrow hnil)
            have hgrow : (wr.alloc (.cells #[.int .i64 (0)] 3)).grownBy w1 (Value.slice ao i cv).ownBlock := hgrow
            have hform : ∃ ao cv, v' = .slice ao (i + 1) cv := by
              obtain ⟨g, cap, e, _⟩ := hown'.form (by omega)
              exact ⟨_, _, e⟩
            refine ⟨⟨i + 1, by omega, by go_num, ?_, hform, ?_, ?_⟩, by simp [intOf]; omega⟩
            · show Value.int .i64 _ = Value.int .i64 (max (MX D.ms D.fs i) (dv D.ms D.fs i))
              have := hdv.un
              congr 1
              omega
            · rw [dcells_succ, hdv.un]
              exact hown'
            · exact (hbe.trans (((Below.refl _ _).alloc (Nat.le_refl _) _).mono hsz)).grown hgrow (by simp; omega) (fun q hq => (hown.lt q hq).1)
          · by_cases h2 : (i : Int) ≤ D.fs i k
            · have hdv : Hid (dv D.ms D.fs i = 0) := ⟨dv_bad _ _ ⟨k, hlk, .inr h2⟩⟩
              go_wp2_with (at_builtin; refine wpList_append_own _ rfl _ _ 27 rfl w.heap.size 3 i0 (.int .i64 0) 1 8 Tryz.underlying27 hi hz0 hz1 hz2 rfl (by decide) _ _ _ rfl (hown.alloc _) ⟨wr.heap.size, 0, none⟩ 1 1 [.int .i64 (0)] rfl rfl (cell_one_new _ _ _) (fun u hu => by simp at hu; subst hu; rfl) (by unfold maxLen; omega) (by omega) (by simp; omega) ?_; intro v' w1 hown' hgrow hnil)
              have hgrow : (wr.alloc (.cells #[.int .i64 (0)] 3)).grownBy w1 (Value.slice ao i cv).ownBlock := hgrow
              have hform : ∃ ao cv, v' = .slice ao (i + 1) cv := by
                obtain ⟨g, cap, e, _⟩ := hown'.form (by omega)
                exact ⟨_, _, e⟩
              refine ⟨⟨i + 1, by omega, by go_num, ?_, hform, ?_, ?_⟩, by simp [intOf]; omega⟩
              · show Value.int .i64 _ = Value.int .i64 (max (MX D.ms D.fs i) (dv D.ms D.fs i))
                have := hdv.un
                congr 1
                omega
              · rw [dcells_succ, hdv.un]
                exact hown'
              · exact (hbe.trans (((Below.refl _ _).alloc (Nat.le_refl _) _).mono hsz)).grown hgrow (by simp; omega) (fun q hq => (hown.lt q hq).1)
            · obtain ⟨q, hq⟩ : ∃ q : Nat, D.fs i k = q := ⟨(D.fs i k).toNat, by omega⟩
              have hqi : q < i := by omega
              have hacc : acc (dv D.ms D.fs) (D.fs i) (k + 1) = max (acc (dv D.ms D.fs) (D.fs i) k) (dv D.ms D.fs q + 1) := by
                show max _ _ = _
                rw [hq]; rfl
              have hno' : Hid (∀ j, j < k + 1 → ¬ Bad i (D.fs i j)) := ⟨fun j hj => by
                by_cases hjk : j < k
                · exact hno.un j hjk
                · obtain rfl : j = k := by omega
                  unfold Bad; omega⟩
              rw [hq] at hx
              clear h1 h2
              have hbd := dv_bound D.ms D.fs i q hqi
              obtain ⟨g, cap, eg, _, _⟩ := hown.form (by omega)
              obtain ⟨rfl, rfl⟩ : ao = some ⟨g, 0, none⟩ ∧ cv = cap := by simpa using eg
              have hd : wr.cell? ⟨g, q, none⟩ = some (.int .i64 (dv D.ms D.fs q)) := by rw [hown.cellAt _ (by omega), dcells_at _ _ _ hqi]
              have hacc := Hid.mk hacc
              generalize hA : acc (dv D.ms D.fs) (D.fs i) k = A at *
              generalize hB : dv D.ms D.fs q = B at *
              clear eg hq
              by_cases hge : A ≤ B
              · go_wp2_with (fail)
                go_roundw
                case rel =>
                  exact ⟨k + 1, by omega, by go_num, by rw [hacc.un]; go_num, hno', trivial⟩
                case measure => simp [intOf]; omega
              · go_wp2_with (fail)
                go_roundw
                case rel =>
                  exact ⟨k + 1, by omega, by go_num, by rw [hacc.un]; congr 1; omega, hno', trivial⟩
                case measure => simp [intOf]; omega
        · obtain rfl : k = D.ms i := by omega
          have hdv : Hid (dv D.ms D.fs i = acc (dv D.ms D.fs) (D.fs i) (D.ms i)) := ⟨dv_good _ _ hno.un⟩
          have hab := acc_bound (dv_bound D.ms D.fs i) hno.un
          generalize hA : acc (dv D.ms D.fs) (D.fs i) (D.ms i) = A at *
          by_cases hgt : MX D.ms D.fs i < A
          · skip
            go_wp2_with (at_builtin; refine wpList_append_own _ rfl _ _ 27 rfl w.heap.size 3 i0 (.int .i64 0) 1 8 Tryz.underlying27 hi hz0 hz1 hz2 rfl (by decide) _ _ _ rfl (hown.alloc _) ⟨wr.heap.size, 0, none⟩ 1 1 [.int .i64 (A)] rfl rfl (cell_one_new _ _ _) (fun u hu => by simp at hu; subst hu; rfl) (by unfold maxLen; omega) (by omega) (by simp; omega) ?_; intro v' w1 hown' hgrow hnil)
            have hgrow : (wr.alloc (.cells #[.int .i64 (A)] 3)).grownBy w1 (Value.slice ao i cv).ownBlock := hgrow
            have hform : ∃ ao cv, v' = .slice ao (i + 1) cv := by
              obtain ⟨g, cap, e, _⟩ := hown'.form (by omega)
              exact ⟨_, _, e⟩
            refine ⟨⟨i + 1, by omega, by go_num, ?_, hform, ?_, ?_⟩, by simp [intOf]; omega⟩
            · show Value.int .i64 _ = Value.int .i64 (max (MX D.ms D.fs i) (dv D.ms D.fs i))
              have := hdv.un
              congr 1
              omega
            · rw [dcells_succ, hdv.un]
              exact hown'
            · exact (hbe.trans (((Below.refl _ _).alloc (Nat.le_refl _) _).mono hsz)).grown hgrow (by simp; omega) (fun q hq => (hown.lt q hq).1)
          · skip
            go_wp2_with (at_builtin; refine wpList_append_own _ rfl _ _ 27 rfl w.heap.size 3 i0 (.int .i64 0) 1 8 Tryz.underlying27 hi hz0 hz1 hz2 rfl (by decide) _ _ _ rfl (hown.alloc _) ⟨wr.heap.size, 0, none⟩ 1 1 [.int .i64 (A)] rfl rfl (cell_one_new _ _ _) (fun u hu => by simp at hu; subst hu; rfl) (by unfold maxLen; omega) (by omega) (by simp; omega) ?_; intro v' w1 hown' hgrow hnil)
            have hgrow : (wr.alloc (.cells #[.int .i64 (A)] 3)).grownBy w1 (Value.slice ao i cv).ownBlock := hgrow
            have hform : ∃ ao cv, v' = .slice ao (i + 1) cv := by
              obtain ⟨g, cap, e, _⟩ := hown'.form (by omega)
              exact ⟨_, _, e⟩
            refine ⟨⟨i + 1, by omega, by go_num, ?_, hform, ?_, ?_⟩, by simp [intOf]; omega⟩
            · show Value.int .i64 _ = Value.int .i64 (max (MX D.ms D.fs i) (dv D.ms D.fs i))
              have := hdv.un
              congr 1
              omega
            · rw [dcells_succ, hdv.un]
              exact hown'
            · exact (hbe.trans (((Below.refl _ _).alloc (Nat.le_refl _) _).mono hsz)).grown hgrow (by simp; omega) (fun q hq => (hown.lt q hq).1)
    · go_wp2
      go_ret
      obtain rfl : i = n := by omega
      exact ⟨rfl, hbe⟩
end Go.Proofs.YtkiboofldjnapaaGreatDoor

namespace Go.Proofs.YtkiboofldjnapaaGreatDoor
open Go Go.RowKit

/-- A row of numbers that may be written. -/
def Nums (w : World) (B n : Nat) (f : Nat → Int) : Prop := B < w.heap.size ∧ ∀ j, j < n → w.cell? ⟨B, j, none⟩ = some (.int .i64 (f j)) ∧ w.frozen? ⟨B, j, none⟩ = false

theorem Nums.later {w w' : World} {B n base : Nat} {f : Nat → Int} (h : Nums w B n f) (hb : Below base w w') (hs : w.heap.size = base) : Nums w' B n f := by
  subst hs
  exact ⟨Nat.lt_of_lt_of_le h.1 hb.size, fun j hj => ⟨(hb.cell (p := ⟨B, j, none⟩) h.1).trans (h.2 j hj).1, (hb.frozen (p := ⟨B, j, none⟩) h.1).trans (h.2 j hj).2⟩⟩

theorem Nums.set {w : World} {B n i : Nat} {f : Nat → Int} (h : Nums w B n f) (x : Int) : Nums (w.setCell ⟨B, i, none⟩ (.int .i64 x)) B n (fun j => if j = i then x else f j) := by
  refine ⟨by simpa using h.1, fun j hj => ?_⟩
  obtain ⟨h1, h2⟩ := h.2 j hj
  by_cases hji : j = i
  · subst hji
    simp only [if_true]
    exact ⟨World.cell?_setCell_same _ _ _ h1, by simpa using h2⟩
  · simp only [if_neg hji]
    exact ⟨by rw [World.cell?_setCell_other _ _ _ _ (by intro e; cases e; exact hji rfl)]; exact h1, by simpa using h2⟩

theorem Nums.congr {w : World} {B n : Nat} {f g : Nat → Int} (h : Nums w B n f) (e : ∀ j, j < n → f j = g j) : Nums w B n g := ⟨h.1, fun j hj => by rw [← e j hj]; exact h.2 j hj⟩

theorem idx_lem (B n i : Nat) (h : i < n) (w : World) : (Instr.indexAt 27 (.slice (some ⟨B, 0, none⟩) n n) (.int .i64 i)).run Tryz.prog w = Result.ok (.pointer (some ⟨B, i, none⟩)) w := by
  have h1 : (i : Int) < n := by omega
  have h2 : (0 : Int) ≤ i := by omega
  have h3 := Tryz.underlying27
  go_simp

set_option maxRecDepth 100000 in
set_option maxHeartbeats 8000000 in
theorem depth (a : Option Addr) (n c : Nat) (D : ND) (w : World) (hn : n ≤ 300) (hm : Hid (∀ k, k < n → D.ms k ≤ 20)) (hL : Hid (NAt w a n D)) :
    Calls Tryz.prog 5 #[.slice a n c] w fun e w' => e = .returned (.int .i64 (MX D.ms D.fs n)) ∧ Below w.heap.size w w' := by
  obtain ⟨i0, hi, hz0, hz1, hz2⟩ := info_parts info3
  go_enter Tryz.func5, Tryz.ntmps5
  go_wp2_with (at_make; refine wpList_make_full _ rfl _ _ 27 rfl w.heap.size 3 i0 (.int .i64 0) 1 Tryz.underlying27 hi hz0 hz1 .i64 .i64 n n n rfl rfl rfl rfl (by rw [hz2]; omega) (by unfold maxLen; omega) (Nat.le_refl _) ?_; intro w1 hown1 hgrow1)
  have hlt1 : w.heap.size < w1.heap.size := (hown1.lt w.heap.size rfl).2
  have hbe1 : Below w.heap.size w w1 := ⟨hgrow1.os, hgrow1.tape, hgrow1.output, hgrow1.size, fun i hi => hgrow1.block i hi (by simp)⟩
  have hnums : Nums w1 w.heap.size n (fun _ => 0) := by
    refine ⟨hlt1, fun j hj => ⟨?_, hown1.frozenAt j⟩⟩
    rw [hown1.cellAt j (by omega)]
    rw [show (Value.int IntKind.i64 0).cells = #[Value.int .i64 0] from rfl, toList_madeCells_one]
    simp [hj]
  go_loopw [4, 14] (fun mx ix wr => ∃ i : Nat, i ≤ n ∧ ix = .int .i64 i ∧ mx = .int .i64 (MX D.ms D.fs i) ∧ Hid (Nums wr w.heap.size n (fun j => if j < i then dv D.ms D.fs j else 0)) ∧ Below w.heap.size w wr) (fun _ ix _ => n - (intOf ix).toNat)
  case atStart =>
    exact ⟨0, Nat.zero_le _, rfl, rfl, ⟨by simpa using hnums⟩, hbe1⟩
  case round =>
    obtain ⟨i, hi', rfl, rfl, hN, hbe⟩ := hrel
    clear hown1 hgrow1 hlt1 hbe1 hnums
    by_cases hlt : i < n
    · obtain ⟨b, off, rfl, hr⟩ := hL.un (by omega)
      have hr' := hr.later hbe rfl
      have c0 := hr'.c0 i hlt
      have c1 := hr'.c1 i hlt
      have c2 := hr'.c2 i hlt
      have c3 := hr'.c3 i hlt
      have c4 := hr'.c4 i hlt
      have c5 := hr'.c5 i hlt
      have hK := Hid.mk (hr.kids i hlt)
      have hm20 := hm.un i hlt
      have hMX := MX_bound D.ms D.fs i
      have hsz := hbe.size
      have hBlt := hN.un.1
      have hBi := (hN.un.2 i hlt).1
      have hBf := (hN.un.2 i hlt).2
      have hne : (w.heap.size = wr.heap.size) = False := by simp; omega
      have hne' : (wr.heap.size = w.heap.size) = False := by simp; omega
      clear hr hr'
      have hK0 := hK
      go_wp2_with (fail)
      have hBel : Below w.heap.size w (((wr.setCell ⟨w.heap.size, i, none⟩ (.int .i64 1)).alloc (.cells #[.int .i64 i] 3)).alloc (.cells #[.int .i64 (D.us i), .int .i64 (D.ns i), .string (D.ps i), .slice (D.av i) (D.an i) (D.ac i), .slice (D.ka i) (D.ms i) (D.kc i), .slice (D.tv i) (D.tn i) (D.tc i)] 30)) :=
        ((hbe.setCell (Nat.le_refl _) _).alloc (by simp; omega) _).alloc (by simp; omega) _
      have hN2 : Nums (((wr.setCell ⟨w.heap.size, i, none⟩ (.int .i64 1)).alloc (.cells #[.int .i64 i] 3)).alloc (.cells #[.int .i64 (D.us i), .int .i64 (D.ns i), .string (D.ps i), .slice (D.av i) (D.an i) (D.ac i), .slice (D.ka i) (D.ms i) (D.kc i), .slice (D.tv i) (D.tn i) (D.tc i)] 30)) w.heap.size n (fun j => if j = i then 1 else if j < i then dv D.ms D.fs j else 0) :=
        ((hN.un.set 1).later ((Below.refl _ _).alloc (Nat.le_refl _) _) rfl).later ((Below.refl _ _).alloc (Nat.le_refl _) _) rfl
      have hQ : (((wr.setCell ⟨w.heap.size, i, none⟩ (.int .i64 1)).alloc (.cells #[.int .i64 i] 3)).alloc (.cells #[.int .i64 (D.us i), .int .i64 (D.ns i), .string (D.ps i), .slice (D.av i) (D.an i) (D.ac i), .slice (D.ka i) (D.ms i) (D.kc i), .slice (D.tv i) (D.tn i) (D.tc i)] 30)).cell? ⟨wr.heap.size, 0, none⟩ = some (.int .i64 i) := by simp [go_sem]
      have hQ4 : (((wr.setCell ⟨w.heap.size, i, none⟩ (.int .i64 1)).alloc (.cells #[.int .i64 i] 3)).alloc (.cells #[.int .i64 (D.us i), .int .i64 (D.ns i), .string (D.ps i), .slice (D.av i) (D.an i) (D.ac i), .slice (D.ka i) (D.ms i) (D.kc i), .slice (D.tv i) (D.tn i) (D.tc i)] 30)).cell? ⟨wr.heap.size + 1, 4, none⟩ = some (.slice (D.ka i) (D.ms i) (D.kc i)) := by simp [go_sem]
      have hsz2 : wr.heap.size + 2 ≤ (((wr.setCell ⟨w.heap.size, i, none⟩ (.int .i64 1)).alloc (.cells #[.int .i64 i] 3)).alloc (.cells #[.int .i64 (D.us i), .int .i64 (D.ns i), .string (D.ps i), .slice (D.av i) (D.an i) (D.ac i), .slice (D.ka i) (D.ms i) (D.kc i), .slice (D.tv i) (D.tn i) (D.tc i)] 30)).heap.size := by simp
      generalize (((wr.setCell ⟨w.heap.size, i, none⟩ (.int .i64 1)).alloc (.cells #[.int .i64 i] 3)).alloc (.cells #[.int .i64 (D.us i), .int .i64 (D.ns i), .string (D.ps i), .slice (D.av i) (D.an i) (D.ac i), .slice (D.ka i) (D.ms i) (D.kc i), .slice (D.tv i) (D.tn i) (D.tc i)] 30)) = w2 at *
      clear c0 c1 c2 c3 c4 c5 hBi hBf
      have hK2 := hK.un.later hBel rfl
      refine (containsFunc i wr.heap.size (D.ms i) (D.kc i) (D.ka i) (D.fs i) hm20 hK2 hQ).mono ?_
      rintro e w3 ⟨⟨z, rfl, hz⟩, rfl⟩
      replace hz := Hid.mk hz
      replace hK2 := Hid.mk hK2
      replace hN2 := Hid.mk hN2
      have hBi := (hN2.un.2 i hlt).1
      have hBf := (hN2.un.2 i hlt).2
      simp only [if_true] at hBi
      have hii : (i : Int) < n := by omega
      have hix := idx_lem w.heap.size n i hlt
      have hlt3 : Hid (wr.heap.size < w3.heap.size) := ⟨by omega⟩
      clear hne hne' hsz2
      have hii0 : (0 : Int) ≤ i := by omega
      cases z with
      | true =>
        have hdv : Hid (dv D.ms D.fs i = 0) := ⟨dv_bad _ _ (hz.un.1 rfl)⟩
        go_wp2_with (fail)
        refine ⟨⟨i + 1, by omega, by go_num, ?_, ⟨(hN2.un.set 0).congr fun j hj => ?_⟩, hBel.setCell (Nat.le_refl _) _⟩, by simp [intOf]; omega⟩
        · show Value.int .i64 _ = Value.int .i64 (max (MX D.ms D.fs i) (dv D.ms D.fs i))
          have := hdv.un
          congr 1
          omega
        · by_cases hji : j = i
          · subst hji; simp [hdv.un]
          · simp only [if_neg hji]
            by_cases hjl : j < i
            · rw [if_pos hjl, if_pos (by omega)]
            · rw [if_neg hjl, if_neg (by omega)]
      | false =>
        have hno : Hid (∀ k, k < D.ms i → ¬ Bad i (D.fs i k)) := ⟨fun k hk hb => by have := hz.un.2 ⟨k, hk, hb⟩; cases this⟩
        have hdv : Hid (dv D.ms D.fs i = acc (dv D.ms D.fs) (D.fs i) (D.ms i)) := ⟨dv_good _ _ hno.un⟩
        go_wp2_with (fail)
        clear hBi hBf hz
        generalize hka : D.ka i = ka at *
        go_loopw [32] (fun kx wq => ∃ k : Nat, k ≤ D.ms i ∧ kx = .int .i64 k ∧ Hid (Nums wq w.heap.size n (fun j => if j = i then acc (dv D.ms D.fs) (D.fs i) k else if j < i then dv D.ms D.fs j else 0)) ∧ Below w.heap.size w wq ∧ wq.cell? ⟨wr.heap.size, 0, none⟩ = some (.int .i64 i) ∧ wr.heap.size < wq.heap.size) (fun kx _ => D.ms i - (intOf kx).toNat)
        case atStart => exact ⟨0, Nat.zero_le _, rfl, ⟨hN2.un⟩, hBel, hQ, hlt3.un⟩
        case round =>
          obtain ⟨k, hk, rfl, hNq, hBq, hQq, hltq⟩ := hrel
          have hBi := (hNq.un.2 i hlt).1
          have hBf := (hNq.un.2 i hlt).2
          simp only [if_true] at hBi
          have hab := acc_bound (dv_bound D.ms D.fs i) (k := k) (fun j hj => hno.un j (by omega))
          clear hN2 hBel hQ hlt3 hQ4 hK2
          by_cases hlk : k < D.ms i
          · obtain ⟨bk, ok, rfl, hbk, hck⟩ := (hK0.un.later hBq rfl) (by omega)
            have hx := hck k hlk
            have hnb := hno.un k hlk
            unfold Bad at hnb
            obtain ⟨q, hq⟩ : ∃ q : Nat, D.fs i k = q := ⟨(D.fs i k).toNat, by omega⟩
            have hqi : q < i := by omega
            have hbd := dv_bound D.ms D.fs i q hqi
            have hqc := (hNq.un.2 q (by omega)).1
            simp only [if_neg (show ¬ q = i by omega), if_pos hqi] at hqc
            have hacc : Hid (acc (dv D.ms D.fs) (D.fs i) (k + 1) = max (acc (dv D.ms D.fs) (D.fs i) k) (dv D.ms D.fs q + 1)) := ⟨by
              show max _ _ = _
              rw [hq]; rfl⟩
            have hixq := idx_lem w.heap.size n q (by omega)
            rw [hq] at hx
            replace hck := Hid.mk hck
            clear hnb hck
            generalize hA : acc (dv D.ms D.fs) (D.fs i) k = A at *
            generalize hB : dv D.ms D.fs q = C at *
            clear hq
            go_wp2_with (fail)
            go_still_tail 13, (by kernel_rfl)
            go_wp2_with (fail)
            go_roundw
            case rel =>
              refine ⟨k + 1, by omega, by go_num, ⟨((show Nums wr.drew w.heap.size n _ from hNq.un).set (max A (C + 1))).congr fun j hj => ?_⟩, ?_, ?_, ?_⟩
              · by_cases hji : j = i
                · subst hji; simp [hacc.un]
                · simp only [if_neg hji]
              · exact (hBq.drew).setCell (Nat.le_refl _) _
              · refine (World.cell?_setCell_other wr _ _ _ ?_).trans hQq
                intro e
                have := congrArg Addr.block e
                simp at this
                omega
              · simpa using hltq
            case measure => simp [intOf]; omega
          · obtain rfl : k = D.ms i := by omega
            go_wp2_with (fail)
            refine ⟨⟨i + 1, by omega, by go_num, ?_, ⟨hNq.un.congr fun j hj => ?_⟩, hBq⟩, by simp [intOf]; omega⟩
            · show Value.int .i64 _ = Value.int .i64 (max (MX D.ms D.fs i) (dv D.ms D.fs i))
              rw [hdv.un]
            · by_cases hji : j = i
              · subst hji; simp [hdv.un]
              · simp only [if_neg hji]
                by_cases hjl : j < i
                · rw [if_pos hjl, if_pos (by omega)]
                · rw [if_neg hjl, if_neg (by omega)]
    · go_wp2
      go_ret
      obtain rfl : i = n := by omega
      exact ⟨rfl, hbe⟩
end Go.Proofs.YtkiboofldjnapaaGreatDoor
