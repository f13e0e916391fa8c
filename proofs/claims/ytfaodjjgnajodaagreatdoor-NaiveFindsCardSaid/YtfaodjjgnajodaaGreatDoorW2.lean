/- NaiveFinds, part 2: walks: the tuples of a list (naive.Tuples and the reference's), lists of tuples alike, one found alike. -/
import Derived.Test.YtfaodjjgnajodaaGreatDoorW1
import Derived.Deep.RegionHeldLaw
import Derived.Deep.RegionHeld
import Derived.Lib.QuietBelow
set_option linter.unusedSimpArgs false
set_option linter.unusedVariables false

namespace Go.Proofs.YtfaodjjgnajodaaGreatDoor
open Go Go.RowKit

/-- The cells of k tuples. -/
def rowCells (ds : Nat → TD) (vs : Nat → Value) (k : Nat) : List Value := (List.range (k * 2)).map fun j => if j % 2 = 0 then .string (ds (j / 2)).p else vs (j / 2)

theorem rowCells_length (ds : Nat → TD) (vs : Nat → Value) (k : Nat) : (rowCells ds vs k).length = k * 2 := by simp [rowCells]
theorem rowCells_at (ds : Nat → TD) (vs : Nat → Value) (k j : Nat) (h : j < k * 2) : (rowCells ds vs k)[j]? = some (if j % 2 = 0 then .string (ds (j / 2)).p else vs (j / 2)) := by
  simp [rowCells, List.getElem?_map, List.getElem?_range h]
theorem rowCells_succ (ds : Nat → TD) (vs vs' : Nat → Value) (k : Nat) (v : Value) (hv : vs' k = v) (h : ∀ j, j < k → vs' j = vs j) : rowCells ds vs' (k + 1) = rowCells ds vs k ++ [.string (ds k).p, v] := by
  unfold rowCells
  rw [show (k + 1) * 2 = k * 2 + 1 + 1 by omega, List.range_succ, List.range_succ]
  simp only [List.map_append, List.map_cons, List.map_nil, List.append_assoc, List.cons_append, List.nil_append]
  congr 1
  · apply List.map_congr_left
    intro j hj
    have hj : j < k * 2 := List.mem_range.1 hj
    split
    · rfl
    · exact h _ (by omega)
  · rw [if_pos (by omega), if_neg (by omega), show k * 2 / 2 = k by omega, show (k * 2 + 1) / 2 = k by omega, hv]

/-- A list of tuples, as it lies. -/
def Tups (w : World) (n : Nat) (ds : Nat → TD) (v : Value) : Prop := ∃ a cap, v = .slice a n cap ∧
  (0 < n → ∃ (b : Nat) (VS : Nat → Value), a = some ⟨b, 0, none⟩ ∧ b < w.heap.size ∧ (∀ k, k < n → w.cell? ⟨b, k * 2, none⟩ = some (.string (ds k).p)) ∧ (∀ k, k < n → w.cell? ⟨b, k * 2 + 1, none⟩ = some (VS k)) ∧ ∀ k, k < n → ArgsAt w (ds k) (VS k))

theorem Tups.later {w w' : World} {n : Nat} {ds : Nat → TD} {v : Value} {base : Nat} (h : Tups w n ds v) (hb : Below base w w') (hs : w.heap.size = base) : Tups w' n ds v := by
  subst hs
  obtain ⟨a, cap, hv, h⟩ := h
  refine ⟨a, cap, hv, fun hn => ?_⟩
  obtain ⟨b, VS, ha, hlt, h0, h1, h2⟩ := h hn
  exact ⟨b, VS, ha, Nat.lt_of_lt_of_le hlt hb.size, fun k hk => (hb.cell (p := ⟨b, _, none⟩) hlt).trans (h0 k hk), fun k hk => (hb.cell (p := ⟨b, _, none⟩) hlt).trans (h1 k hk), fun k hk => (h2 k hk).later hb rfl⟩

theorem Tups.of_owns {w : World} {n base : Nat} {ds : Nat → TD} {v : Value} {VS : Nat → Value} (h : w.ownsRow base 25 2 v n (rowCells ds VS n)) (hA : ∀ k, k < n → ArgsAt w (ds k) (VS k)) : Tups w n ds v := by
  by_cases hn : 0 < n
  · obtain ⟨g, cap, rfl, _, hlt⟩ := h.form hn
    refine ⟨_, _, rfl, fun _ => ⟨g, VS, rfl, hlt, fun k hk => ?_, fun k hk => ?_, hA⟩⟩
    · rw [h.cellAt _ (by omega), rowCells_at _ _ _ _ (by omega), if_pos (by omega), show k * 2 / 2 = k by omega]
    · rw [h.cellAt _ (by omega), rowCells_at _ _ _ _ (by omega), if_neg (by omega), show (k * 2 + 1) / 2 = k by omega]
  · rcases h.2 with ⟨rfl, rfl⟩ | ⟨g, cap, cur, rfl, _⟩
    · exact ⟨_, _, rfl, fun h => absurd h hn⟩
    · exact ⟨_, _, rfl, fun h => absurd h hn⟩

theorem ArgsAt.grown {w w' : World} {d : TD} {v : Value} {B : Nat} (h : ArgsAt w d v) (hl : LiesFrom (B + 1) v) (hg : w.grownBy w' (some B)) : ArgsAt w' d v := by
  cases h with
  | nil h => exact .nil h
  | empty a c h => exact .empty a c h
  | row b off c h hlt h0 h1 =>
    have hne : B + 1 ≤ b := hl _ _ _ rfl
    have hh := hg.block b hlt (by intro e; have := Option.some.inj e; omega)
    have hc : ∀ o, w'.cell? ⟨b, o, none⟩ = w.cell? ⟨b, o, none⟩ := fun o => World.cell?_of_block (w := w) hh
    exact .row b off c h (Nat.lt_of_lt_of_le hlt hg.size) (fun k hk => (hc _).trans (h0 k hk)) (fun k hk => (hc _).trans (h1 k hk))

theorem ArgsAt.one {w : World} {d : TD} {v : Value} (h : ArgsAt w d v) : v.oneCell' = true := by cases h <;> rfl

theorem info25 : (Tryz.prog.info? 25).map (fun i => (i.zero, i.size, i.bytes)) = some (some (.agg #[.string .empty, .slice none 0 0]), 2, 40) := by kernel_rfl

theorem two_new (w : World) (x y : Value) (t : TypeId) : ∀ j u, [x, y][j]? = some u → (w.alloc (.cells #[x, y] t)).cell? ((⟨w.heap.size, 0, none⟩ : Addr).add j) = some u := by
  intro j u hj
  match j, hj with
  | 0, hj => simp at hj; subst hj; simp [Addr.add_lit, go_sem]
  | 1, hj => simp at hj; subst hj; simp [Addr.add_lit, go_sem]
  | j + 2, hj => simp at hj

set_option maxRecDepth 100000 in
set_option maxHeartbeats 4000000 in
theorem rtuples (a : Option Addr) (n c : Nat) (ds : Nat → TD) (V : Nat → Value) (st ro : Nat → Int) (w : World) (hn : n ≤ 200) (hL : Hid (LAt w a n ds V st ro)) :
    Calls Tryz.prog 10 #[.slice a n c] w fun e w' => (∃ v, e = .returned v ∧ Tups w' n ds v) ∧ Below w.heap.size w w' := by
  obtain ⟨i0, hi, hz0, hz1, hz2⟩ := info_parts info25
  go_enter Tryz.func10, Tryz.ntmps10
  go_wp2_with (fail)
  go_loopw [3, 4] (fun v i wr => ∃ k : Nat, k ≤ n ∧ i = .int .i64 k ∧ (∃ ao cv, v = .slice ao k cv) ∧ wr.ownsRow w.heap.size 25 2 v k (rowCells ds V k) ∧ Below w.heap.size w wr) (fun _ i _ => n - (intOf i).toNat)
  case atStart =>
    exact ⟨0, Nat.zero_le _, rfl, ⟨none, 0, rfl⟩, World.ownsRow_nil _ _ _ _, Below.refl _ _⟩
  case round =>
    obtain ⟨k, hk, rfl, ⟨ao, cv, rfl⟩, hown, hbe⟩ := hrel
    by_cases hlt : k < n
    · obtain ⟨b, off, rfl, hr⟩ := hL.un (by omega)
      have hr' := hr.later hbe rfl
      have c0 := hr'.c0 k hlt
      have c1 := hr'.c1 k hlt
      have h1 := (hr'.args k hlt).one
      have hsz := hbe.size
      clear hr hr'
      go_wp2_with (at_builtin; refine wpList_append_own _ rfl _ _ 34 rfl w.heap.size 25 i0 (.agg #[.string .empty, .slice none 0 0]) 2 40 Tryz.underlying34 hi hz0 hz1 hz2 rfl (by decide) _ _ _ rfl (hown.alloc _) ⟨wr.heap.size, 0, none⟩ 1 1 [.string (ds k).p, V k] rfl rfl (two_new _ _ _ _) (fun u hu => by simp at hu; rcases hu with rfl | rfl <;> first | rfl | exact h1) (by unfold maxLen; omega) (by omega) (by simp; omega) ?_; intro v' w1 hown' hgrow hnil)
      have hgrow : (wr.alloc (.cells #[.string (ds k).p, V k] 25)).grownBy w1 (Value.slice ao k cv).ownBlock := hgrow
      have hform : ∃ ao cv, v' = .slice ao (k + 1) cv := by
        obtain ⟨g, cap, e, _⟩ := hown'.form (by omega)
        exact ⟨_, _, e⟩
      refine ⟨⟨k + 1, by omega, by go_num, hform, ?_, ?_⟩, by simp [intOf]; omega⟩
      · rw [rowCells_succ ds V V k (V k) rfl (fun _ _ => rfl)]
        exact hown'
      · exact (hbe.trans (((Below.refl _ _).alloc (Nat.le_refl _) _).mono hsz)).grown hgrow (by simp; omega) (fun q hq => (hown.lt q hq).1)
    · go_wp2
      go_ret
      obtain rfl : k = n := by omega
      refine ⟨⟨_, rfl, Tups.of_owns hown fun j hj => ?_⟩, hbe⟩
      obtain ⟨b, off, rfl, hr⟩ := hL.un (by omega)
      exact (hr.later hbe rfl).args j hj
end Go.Proofs.YtfaodjjgnajodaaGreatDoor

namespace Go.Proofs.YtfaodjjgnajodaaGreatDoor
open Go Go.RowKit

theorem LiesFrom.mono {b b' : Nat} {v : Value} (h : LiesFrom b v) (hb : b' ≤ b) : LiesFrom b' v := fun a n c e => Nat.le_trans hb (h a n c e)

theorem undrew {w w' : World} (h : Below w.drew.heap.size w.drew w') : Below w.heap.size w w' := ⟨h.os, h.tape, h.output, h.size, h.block⟩

theorem owns_below {w w' : World} {b base size n : Nat} {e : TypeId} {v : Value} {xs : List Value} (h : w.ownsRow b e size v n xs) (hb : Below base w w') (hs : w.heap.size = base) : w'.ownsRow b e size v n xs := by
  subst hs
  exact h.kept (row := none) ⟨hb.os, hb.tape, hb.output, hb.size, fun k hk _ => hb.block k hk⟩ (by cases v.ownBlock <;> simp)

/-- 'append' within the capacity, at a step of a region that draws its order. -/
theorem step_append_fits {P : Program} {ops : Array Oper} {o : Oper} {a : Act} {w : World} {K : Act → World → Prop} {Q : Exit → Act → World → Prop} {E : Prop}
    (hg : o.guard = none) (s x : Operand) (t : TypeId) (hop : o.op = Op.call { callee := Callee.builtin Builtin.append, args := #[s, x], argTypes := #[t, t] })
    (base : Nat) (e : TypeId) (i : TypeInfo) (size : Nat) (h1 : P.underlying t = some (.slice e)) (h2 : P.info? e = some i) (h4 : i.size = size)
    (g k cap : Nat) (xs : List Value) (hs : a.eval s = .slice (some ⟨g, 0, none⟩) k cap) (hown : w.ownsRow base e size (.slice (some ⟨g, 0, none⟩) k cap) k xs) (ad : Addr) (m c : Nat) (news : List Value) (hx : a.eval x = .slice (some ad) m c) (hn : news.length = m * size)
    (hc : ∀ j u, news[j]? = some u → w.cell? (ad.add j) = some u) (h1c : ∀ u ∈ news, u.oneCell' = true) (b1 : k + m ≤ cap)
    (hK : ∀ w', w'.ownsRow base e size (.slice (some ⟨g, 0, none⟩) (k + m) cap) (k + m) (xs ++ news) → w.grownBy w' (some g) → K (a.put o.dst (.slice (some ⟨g, 0, none⟩) (k + m) cap)) w') :
    if Region.wanted o (yielded ops a.tmps) = true then Oper.wp P o a w K Q else E := by
  have hw : Region.wanted o (yielded ops a.tmps) = true := by simp [Region.wanted, hg]
  rw [if_pos hw]
  obtain ⟨w', hrun, r1, r2⟩ := run_append_fits (P := P) w base t o.type e i size h1 h2 h4 g k cap xs hown ad m c news hn hc h1c b1
  unfold Oper.wp
  simp [execOp, hop, resolve, invoke, builtin, hs, hx, hrun, Result.andThen]
  exact hK w' r1 r2

set_option maxRecDepth 100000 in
set_option maxHeartbeats 4000000 in
theorem tuples (a : Option Addr) (n c : Nat) (ds : Nat → TD) (V : Nat → Value) (st ro : Nat → Int) (w : World) (hn : n ≤ 200) (hL : Hid (LAt w a n ds V st ro)) :
    Calls Tryz.prog 9 #[.slice a n c] w fun e w' => (∃ v, e = .returned v ∧ Tups w' n ds v) ∧ Below w.heap.size w w' := by
  obtain ⟨i0, hi, hz0, hz1, hz2⟩ := info_parts info25
  go_enter Tryz.func9, Tryz.ntmps9
  go_wp2_with (at_make; refine wpList_make_own _ rfl _ _ 34 rfl w.heap.size 25 i0 (.agg #[.string .empty, .slice none 0 0]) 2 Tryz.underlying34 hi hz0 hz1 .i64 .i64 n n rfl rfl rfl (by rw [hz2]; omega) (by unfold maxLen; omega) (Nat.le_refl _) ?_; intro w1 hown1 hgrow1)
  have hlt1 : w.heap.size < w1.heap.size := (hown1.lt w.heap.size rfl).2
  have hbe1 : Below w.heap.size w w1 := ⟨hgrow1.os, hgrow1.tape, hgrow1.output, hgrow1.size, fun i hi => hgrow1.block i hi (by simp)⟩
  go_loopw [3, 11] (fun v i wr => ∃ k : Nat, k ≤ n ∧ i = .int .i64 k ∧ v = .slice (some ⟨w.heap.size, 0, none⟩) k n ∧ Hid (∃ vs : Nat → Value, wr.ownsRow w.heap.size 25 2 (.slice (some ⟨w.heap.size, 0, none⟩) k n) k (rowCells ds vs k) ∧ ∀ j, j < k → ArgsAt wr (ds j) (vs j) ∧ LiesFrom (w.heap.size + 1) (vs j)) ∧ Below w.heap.size w wr ∧ w.heap.size < wr.heap.size) (fun _ i _ => n - (intOf i).toNat)
  case atStart =>
    exact ⟨0, Nat.zero_le _, rfl, rfl, ⟨fun _ => .nilFunc, hown1, fun j hj => by omega⟩, hbe1, hlt1⟩
  case round =>
    obtain ⟨k, hk, rfl, rfl, hvs, hbe, hin⟩ := hrel
    clear hown1 hgrow1 hbe1 hlt1
    by_cases hlt : k < n
    · obtain ⟨b, off, rfl, hr⟩ := hL.un (by omega)
      have hr' := hr.later hbe rfl
      have c0 := hr'.c0 k hlt
      have c1 := hr'.c1 k hlt
      have c2 := hr'.c2 k hlt
      have c3 := hr'.c3 k hlt
      have hA := hr'.args k hlt
      have hok := hr'.ok k hlt
      have hsz := hbe.size
      clear hr hr'
      obtain ⟨a', c', hV, _⟩ := hA.form
      rw [hV] at c1 hA
      generalize hq : (ds k).n = q at *
      clear hV
      have hsz3 : wr.heap.size < (wr.alloc (.cells #[.string (ds k).p, .slice a' q c', .int .i64 (st k), .int .i64 (ro k)] 28)).heap.size := by simp
      have hB3 : Below wr.heap.size wr (wr.alloc (.cells #[.string (ds k).p, .slice a' q c', .int .i64 (st k), .int .i64 (ro k)] 28)) := (Below.refl _ _).alloc (Nat.le_refl _) _
      have hnew3 := Four.new wr (.string (ds k).p) (.slice a' q c') (.int .i64 (st k)) (.int .i64 (ro k)) 28
      have hA3 := hA.later hB3 rfl
      go_wp2_with (fail)
      generalize hw3 : wr.alloc (.cells #[.string (ds k).p, .slice a' q c', .int .i64 (st k), .int .i64 (ro k)] 28) = w3 at *
      clear hw3
      obtain ⟨d0, d1, d2, d3, e0, e1, e2, e3, lt'⟩ := hnew3
      obtain ⟨vs, hown, hvA⟩ := hvs.un
      have hvA := Hid.mk hvA
      clear hvs
      go_region_held_law (fun w' => w'.cell? ⟨wr.heap.size, 0, none⟩ = some (.string (ds k).p) ∧ w'.cell? ⟨wr.heap.size, 1, none⟩ = some (.slice a' q c'))
        (first
          | exact ⟨d0, d1⟩
          | exact ⟨(hb4.cell (p := ⟨wr.heap.size, 0, none⟩) lt').trans d0, (hb4.cell (p := ⟨wr.heap.size, 1, none⟩) lt').trans d1⟩
          | exact ⟨(hgrow5.cell_far ⟨wr.heap.size, 0, none⟩ (Nat.lt_of_lt_of_le lt' (Nat.le_trans hb4.size (by simp))) (by intro e; have := Option.some.inj e; simp at this; omega)).trans (Lib.cell?_alloc_some _ ((hb4.cell (p := ⟨wr.heap.size, 0, none⟩) lt').trans d0)), (hgrow5.cell_far ⟨wr.heap.size, 1, none⟩ (Nat.lt_of_lt_of_le lt' (Nat.le_trans hb4.size (by simp))) (by intro e; have := Option.some.inj e; simp at this; omega)).trans (Lib.cell?_alloc_some _ ((hb4.cell (p := ⟨wr.heap.size, 1, none⟩) lt').trans d1))⟩
          | exact ⟨Lib.cell?_alloc_some _ ((hb4.cell (p := ⟨wr.heap.size, 0, none⟩) lt').trans d0), Lib.cell?_alloc_some _ ((hb4.cell (p := ⟨wr.heap.size, 1, none⟩) lt').trans d1)⟩)
        (first
          | (go_at_call 16; refine (clone hok ?_).mono ?_; exact hA3.heap rfl; rintro e w4 ⟨⟨v', rfl, hv', hlies⟩, hb4⟩; have hv'' := Hid.mk hv'; obtain ⟨a2, c2', rfl, _⟩ := hv'.form; clear hv')
          | (refine step_append_fits rfl _ _ 34 rfl w.heap.size 25 i0 2 Tryz.underlying34 hi hz1 w.heap.size k n _ rfl ((owns_below (owns_below hown hB3 rfl) (undrew hb4) rfl).alloc _) ⟨w4.heap.size, 0, none⟩ 1 1 [.string (ds k).p, .slice a2 q c2'] rfl rfl (two_new _ _ _ _) (fun u hu => by simp at hu; rcases hu with rfl | rfl <;> rfl) (by omega) ?_; intro w5 hown5 hgrow5))
      go_wp2
      have hb4' := undrew hb4
      have hB34 := hB3.trans (hb4'.mono hB3.size)
      have hBw4 := hbe.trans (hB34.mono hbe.size)
      have hBw5 : Below w.heap.size w w5 := (hBw4.alloc (Nat.le_trans hsz hB34.size) _).grown hgrow5 (by have := hB34.size; simp; omega) (by intro q hq; cases hq; exact Nat.le_refl _)
      go_roundw
      case rel =>
        refine ⟨k + 1, by omega, by go_num, rfl, ⟨fun j => if j = k then .slice a2 q c2' else vs j, ?_, ?_⟩, hBw5, ?_⟩
        · rw [rowCells_succ ds vs _ k (.slice a2 q c2') (by simp) (fun j hj => by simp; omega)]
          exact hown5
        · intro j hj
          by_cases hjk : j = k
          · subst hjk
            simp only [if_true]
            have h4 := hv''.un
            rw [hq] at h4 hlies
            have hl' := hlies.mono (show w.heap.size + 1 ≤ w3.drew.heap.size from Nat.le_trans hin (Nat.le_of_lt lt'))
            exact ⟨(h4.later ((Below.refl _ _).alloc (Nat.le_refl _) _) rfl).grown hl' hgrow5, hl'⟩
          · simp only [if_neg hjk]
            obtain ⟨m1, m2⟩ := hvA.un j (by omega)
            exact ⟨(((m1.later hB34 rfl).later ((Below.refl _ _).alloc (Nat.le_refl _) _) rfl).grown m2 hgrow5), m2⟩
        · exact Nat.lt_of_lt_of_le hin (Nat.le_trans hB34.size (Nat.le_trans (by simp) hgrow5.size))
      case measure => simp [intOf]; omega
    · go_wp2
      go_ret
      obtain rfl : k = n := by omega
      obtain ⟨vs, hown, hA⟩ := hvs.un
      exact ⟨⟨_, rfl, Tups.of_owns hown fun j hj => (hA j hj).1⟩, hbe⟩
end Go.Proofs.YtfaodjjgnajodaaGreatDoor

namespace Go.Proofs.YtfaodjjgnajodaaGreatDoor
open Go Go.RowKit

set_option maxRecDepth 100000 in
set_option maxHeartbeats 4000000 in
theorem sameAll (n : Nat) (ds : Nat → TD) (hok : Hid (∀ k, k < n → (ds k).ok)) (v v' : Value) (w : World) (hn : n ≤ 200) (h1 : Hid (Tups w n ds v)) (h2 : Hid (Tups w n ds v')) :
    Calls Tryz.prog 8 #[v, v'] w fun e w' => e = .returned (.bool true) ∧ Below w.heap.size w w' := by
  obtain ⟨a, c, rfl, ha⟩ := h1.un
  obtain ⟨a', c', rfl, ha'⟩ := h2.un
  have ha := Hid.mk ha
  have ha' := Hid.mk ha'
  clear h1 h2
  go_enter Tryz.func8, Tryz.ntmps8
  go_wp2_with (fail)
  go_loopw [5] (fun i wr => ∃ k : Nat, k ≤ n ∧ i = .int .i64 k ∧ Below w.heap.size w wr) (fun i _ => n - (intOf i).toNat)
  case atStart => exact ⟨0, Nat.zero_le _, rfl, Below.refl _ _⟩
  case round =>
    obtain ⟨k, hk, rfl, hbe⟩ := hrel
    by_cases hlt : k < n
    · obtain ⟨b, VS, rfl, hb, x0, x1, x2⟩ := ha.un (by omega)
      obtain ⟨b', VS', rfl, hb', y0, y1, y2⟩ := ha'.un (by omega)
      have c0 := (hbe.cell (p := ⟨b, k * 2, none⟩) hb).trans (x0 k hlt)
      have c1 := (hbe.cell (p := ⟨b, k * 2 + 1, none⟩) hb).trans (x1 k hlt)
      have d0 := (hbe.cell (p := ⟨b', k * 2, none⟩) hb').trans (y0 k hlt)
      have d1 := (hbe.cell (p := ⟨b', k * 2 + 1, none⟩) hb').trans (y1 k hlt)
      have hA := (x2 k hlt).later hbe rfl
      have hA' := (y2 k hlt).later hbe rfl
      have hk' := hok.un k hlt
      clear x0 x1 x2 y0 y1 y2
      go_wp2
      go_still_tail 8, (by kernel_rfl)
      go_wp2_with (fail)
      refine (same (w := wr.drew) hk' hk' (hA.heap rfl) (hA'.heap rfl)).mono ?_
      rintro e w' ⟨⟨z, rfl, hz⟩, hb1⟩
      obtain rfl : z = true := hz.2 (TD.same_refl _)
      have hbb := hbe.trans ((undrew hb1).mono hbe.size)
      clear hz
      go_wp2
      go_roundw
      case rel => exact ⟨k + 1, by omega, by go_num, hbb⟩
      case measure => simp [intOf]; omega
    · go_wp2
      go_ret
      exact ⟨rfl, hbe⟩

end Go.Proofs.YtfaodjjgnajodaaGreatDoor

namespace Go.Proofs.YtfaodjjgnajodaaGreatDoor
open Go Go.RowKit Go.Sort

set_option maxRecDepth 100000 in
set_option maxHeartbeats 4000000 in
theorem same1 (x y : TD) (v v' : Value) (s r : Int) (b off c b' off' c' : Nat) (w : World) (hx : x.ok) (hy : y.ok) (hxy : Hid (x.same y)) (hA : ArgsAt w x v) (hA' : ArgsAt w y v')
    (c0 : w.cell? ⟨b, off, none⟩ = some (.string x.p)) (c1 : w.cell? ⟨b, off + 1, none⟩ = some v) (c2 : w.cell? ⟨b, off + 2, none⟩ = some (.int .i64 s)) (c3 : w.cell? ⟨b, off + 3, none⟩ = some (.int .i64 r))
    (d0 : w.cell? ⟨b', off', none⟩ = some (.string y.p)) (d1 : w.cell? ⟨b', off' + 1, none⟩ = some v') (d2 : w.cell? ⟨b', off' + 2, none⟩ = some (.int .i64 s)) (d3 : w.cell? ⟨b', off' + 3, none⟩ = some (.int .i64 r)) :
    Calls Tryz.prog 7 #[.slice (some ⟨b, off, none⟩) 1 c, .slice (some ⟨b', off', none⟩) 1 c'] w fun e w' => e = .returned (.bool true) ∧ Below w.heap.size w w' := by
  have cQ : ∀ d os, Calls Tryz.prog 17 #[.agg #[.string x.p, v], .agg #[.string y.p, v']] (grow (redrawn w d) os) fun e w'' => e = .returned (.bool true) ∧ ∃ p : Regrown, w'' = grow (redrawn w p.d) p.os := by
    intro d os
    refine Calls.regrown_of ((same hx hy (hA.later (below_regrown w d os) rfl) (hA'.later (below_regrown w d os) rfl)).mono ?_)
    rintro e w' ⟨⟨z, rfl, hz⟩, hb⟩
    obtain rfl : z = true := hz.2 hxy.un
    exact ⟨rfl, hb⟩
  have c0' := cell_regrown c0
  have c1' := cell_regrown c1
  have c2' := cell_regrown c2
  have c3' := cell_regrown c3
  have d0' := cell_regrown d0
  have d1' := cell_regrown d1
  have d2' := cell_regrown d2
  have d3' := cell_regrown d3
  go_enter Tryz.func7, Tryz.ntmps7
  go_wp2_with (fail)
  refine wp_loop_rounds 2 ?_
  rw [rounds_succ]
  go_wp2_with (fail)
  refine wp_region_quiet_below (by kernel_rfl) (by kernel_rfl) ?_
  repeat (quiet_step (exact cQ _ _))
  refine wpQuiet_nil ?_
  intro _ hw'
  obtain ⟨⟨dq, osq⟩, hw''⟩ := hw'
  subst hw''
  go_wp2
  rw [rounds_succ]
  go_wp2
  go_ret
  exact ⟨rfl, below_regrown w dq osq⟩
end Go.Proofs.YtfaodjjgnajodaaGreatDoor
