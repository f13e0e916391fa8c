/- PROVED: NaiveFindsCardSaid: for every input mandatelaw11.NaiveFinds returns true and each argument reads as before. CONDITIONS: the card's own (the listed package-level variables start as the program's text lays them; the tie is given). -/
import Derived.Test.YtfaodjjgnajodaaGreatDoorW3
import Derived.Test.YtfaodjjgnajodaaGreatDoorCards
import Derived.Test.YtfaodjjgnajodaaGreatDoorTie
import Derived.ProofKit
import Derived.OpenShut
import Derived.Carry
import Derived.Lay
import Derived.LaidHandle
import Derived.Deep.Slices
import Derived.Deep.Fields
import Derived.Deep.SlicePairs
import Derived.SizedLaws
import Derived.ChangeSame
import Derived.Deep.DeepHandedRow
import Derived.Lib.LaidTab
import Derived.Lib.SmallJoins
import Derived.SevenTiedAt
set_option linter.unusedSimpArgs false
set_option linter.unusedVariables false

namespace Go.Proofs.YtfaodjjgnajodaaGreatDoor
open Go Go.ChangeShapes Go.WideShapes Go.ChangeAt Go.RowKit Go.Deep

set_option maxRecDepth 100000 in
set_option maxHeartbeats 8000000 in
theorem law_big {w : World} (x y : Value) (a : Option Addr) (n c : Nat) (hn : 200 < n) (h : VarsOk w) :
    Calls Tryz.prog 3 #[.slice a n c, .agg #[x, y]] w fun e w' => e = .returned (.bool true) ∧ RowKit.Below w.heap.size w w' := by
  have hB0 : RowKit.Below w.heap.size w (w.alloc (.cells #[x, y] 25)) := (Below.refl _ _).alloc (Nat.le_refl _) _
  have h0 := h.later hB0
  have hle : (200 : Int) < n := by omega
  clear h
  go_enter Tryz.func3, Tryz.ntmps3
  go_wp2_with fail
  refine (fixed_any h0).mono ?_
  rintro e w1 ⟨rfl, b1⟩
  have B1 := hB0.trans (b1.mono hB0.size)
  clear hB0 b1 h0
  go_wp2_with fail
  go_ret
  exact ⟨rfl, B1⟩

theorem own : ownKnob Tryz.prog.godebug = none := by kernel_rfl
theorem laidOut : laidOutB Tryz.prog = true := by kernel_rfl
theorem gTab : Tryz.prog.globalNamed "math/bits.deBruijn64tab" = some 2 := by kernel_rfl
theorem gTabType : (Tryz.prog.globals[2]?).map (·.type) = some 292 := by kernel_rfl
theorem u292 : Tryz.prog.underlying 292 = some (.array 64 5) := by kernel_rfl
theorem u5 : Tryz.prog.underlying 5 = some (.int .u8) := by kernel_rfl
theorem c292 : Tryz.prog.cellsOf 292 = 64 := by kernel_rfl
theorem c5 : Tryz.prog.cellsOf 5 = 1 := by kernel_rfl

def tabZ : List Int := [0, 1, 56, 2, 57, 49, 28, 3, 61, 58, 42, 50, 38, 29, 17, 4, 62, 47, 59, 36, 45, 43, 51, 22, 53, 39, 33, 30, 24, 18, 12, 5, 63, 55, 48, 27, 60, 41, 37, 16, 46, 35, 44, 21, 52, 32, 23, 11, 54, 26, 40, 15, 34, 20, 31, 10, 25, 14, 19, 9, 13, 8, 7, 6]

theorem laid_filter : (Rows.naiveFindsRow.laid.filter fun x => x.2.handleName?.isNone) = [("math/bits.deBruijn64tab", Lib.tabData .u8 tabZ), ("unicode/utf8.acceptRanges", Rows.laid_unicode_utf8_acceptRanges), ("unicode/utf8.first", Rows.laid_unicode_utf8_first)] := by kernel_rfl

theorem laid_handles : (Rows.naiveFindsRow.laid.filter fun x => x.2.handleName?.isSome) = [("errors.errorType", Rows.laid_errors_errorType)] := by kernel_rfl

theorem table {W : World} (h : laidMetH Tryz.prog Rows.naiveFindsRow.laid W) : Lib.TabIs Tryz.prog W "math/bits.deBruijn64tab" .u8 tabZ := by
  unfold laidMetH at h
  rw [laid_handles, laid_filter] at h
  exact Lib.tabIs_of_head gTab gTabType u292 u5 c5 c292 h.1

theorem begin2 : (((begin Tryz.prog (fun _ _ => 0) default).world.heap[2]?).bind Obj.row?).map (·.2) = some 292 := by kernel_rfl
theorem begin4 : (((begin Tryz.prog (fun _ _ => 0) default).world.heap[4]?).bind Obj.row?).isSome = true := by kernel_rfl
theorem globals5 : Tryz.prog.globals.size = 5 := by kernel_rfl

theorem vars_ok {W : World} (hL : laidMetH Tryz.prog Rows.naiveFindsRow.laid W) (hS : W.ShapedOpen Tryz.prog) : VarsOk W := by
  obtain ⟨h1, _⟩ := hS
  refine ⟨?_, ?_⟩
  · cases h : ((begin Tryz.prog (fun _ _ => 0) default).world.heap[4]?).bind Obj.row? with
    | none => have := begin4; rw [h] at this; cases this
    | some x =>
      obtain ⟨cs, hcs, _⟩ := h1 4 x.1 x.2 (by rw [globals5]; omega) h
      have := (Array.getElem?_eq_some_iff.1 hcs).1
      omega
  · cases h : ((begin Tryz.prog (fun _ _ => 0) default).world.heap[2]?).bind Obj.row? with
    | none => have := begin2; rw [h] at this; cases this
    | some x =>
      have e : x.2 = 292 := by have := begin2; rw [h] at this; simpa using this
      obtain ⟨cs, hcs, _⟩ := h1 2 x.1 x.2 (by rw [globals5]; omega) h
      rw [e] at hcs
      have ht : W.var? Tryz.prog "math/bits.deBruijn64tab" = some ((tabZ.map fun z => Value.int .u8 z).toArray) := table hL
      unfold World.var? at ht
      rw [gTab] at ht
      simp only [Option.bind_some, hcs, Option.some.injEq] at ht
      exact ⟨cs, hcs, by rw [ht]; rfl⟩

theorem cc25 : Tryz.prog.cellsOf 25 = 2 := by kernel_rfl
theorem cc28 : Tryz.prog.cellsOf 28 = 4 := by kernel_rfl
theorem cc51 : Tryz.prog.cellsOf 51 = 2 := by kernel_rfl
theorem cc9 : Tryz.prog.cellsOf 9 = 1 := by kernel_rfl
theorem cc23 : Tryz.prog.cellsOf 23 = 1 := by kernel_rfl
theorem cc3 : Tryz.prog.cellsOf 3 = 1 := by kernel_rfl
theorem cc2 : Tryz.prog.cellsOf 2 = 1 := by kernel_rfl
theorem uu2 : Tryz.prog.underlying 2 = some (.int .i64) := by kernel_rfl
theorem by51 : Tryz.prog.bytesOf 51 = 24 := by kernel_rfl

/-- An address by its parts. -/
theorem add_at {a : Addr} {w : World} {v : Value} {k : Nat} (h : w.cell? (a.add k) = some v) (hs : a.spot = none) : w.cell? ⟨a.block, a.off + k, none⟩ = some v := by
  unfold Addr.add at h
  obtain ⟨b, o, s⟩ := a
  simp only at hs
  subst hs
  split at h
  · rename_i h0; subst h0; exact h
  · exact h

theorem spot_none {a : Addr} {w : World} {v : Value} (c0 : w.cell? a = some v) : a.spot = none ∧ a.block < w.heap.size := by
  constructor
  · cases hq : a.spot with
    | none => rfl
    | some z =>
      unfold World.cell? at c0
      rw [hq] at c0
      split at c0 <;> simp at c0
  · unfold World.cell? at c0
    split at c0
    · rename_i hq; exact (Array.getElem?_eq_some_iff.1 hq).1
    · cases c0

set_option maxRecDepth 100000 in
/-- A slice of values that came in. -/
theorem open_args {H : Type} {enc : TypeId × Value → H} {W : World} {base : Nat} {sp : Nat → Bool} {hd : Bool} {n : Nat} {v : Value} {d : DataW H} {ps : List MemPlace} (p : ByteArray) (hp : p.size ≤ maxLen)
    (h : DataW.trod enc Tryz.prog W base sp hd n 23 [v] = some (d, ps)) (hw : ∀ q ∈ d.weights Tryz.prog 23, q ≤ reachBytes) : ∃ t : TD, t.p = p ∧ t.ok ∧ ArgsAt W t v := by
  rcases open_slice_pairs Tryz.underlying23 Tryz.underlying51 cc51 rfl rfl cc9 cc2 h with ⟨e, _⟩ | ⟨a, len, cap, m, n2, V0, V1, D0, D1, P0, P1, e, _, hl, hm, hmm, hx, hi⟩
  · obtain rfl : v = .slice none 0 0 := by simpa using e
    exact ⟨⟨p, 0, fun _ => .empty, fun _ => 0⟩, rfl, ⟨hp, Nat.zero_le _, by simp, fun k hk => absurd hk (Nat.not_lt_zero k)⟩, .nil rfl⟩
  · obtain rfl : v = .slice (some a) len cap := by simpa using e
    have hlm : len ≤ m := by rw [hmm]; split <;> omega
    have hmx : len ≤ maxLen := Nat.le_trans hl hm
    by_cases h0 : len = 0
    · subst h0
      exact ⟨⟨p, 0, fun _ => .empty, fun _ => 0⟩, rfl, ⟨hp, Nat.zero_le _, by simp, fun k hk => absurd hk (Nat.not_lt_zero k)⟩, .empty a cap rfl⟩
    · have c0 := (hi 0 (by omega)).1
      have hadd : a.add (0 * 2) = a := by simp [Addr.add]
      rw [hadd] at c0
      obtain ⟨hsp, hblk⟩ := spot_none c0
      have hS : ∀ k, k < len → ∃ t : ByteArray, V0 k = .string t ∧ t.size ≤ maxLen := by
        intro k hk
        obtain ⟨t, e, _, ht⟩ := DataW.trod_string Tryz.underlying9 (hi k (by omega)).2.2.1
        exact ⟨t, by simpa using e, ht⟩
      have hN : ∀ k, k < len → ∃ z : Int, V1 k = .int .i64 z := by
        intro k hk
        obtain ⟨z, e, _⟩ := DataW.trod_int uu2 (hi k (by omega)).2.2.2
        exact ⟨z, by simpa using e⟩
      have h24 : len * 24 ≤ 140737488351232 := by
        have hd : d = _ := (Prod.mk.inj hx).1
        subst hd
        have hq := hw ((len + (m - len)) * 24) (by simp [DataW.weights, Tryz.underlying23, by51])
        unfold reachBytes at hq
        omega
      obtain ⟨b, off, spt⟩ := a
      simp only at hsp hblk
      subst hsp
      refine ⟨⟨p, len, fun k => if h : k < len then (hS k h).choose else .empty, fun k => if h : k < len then (hN k h).choose else 0⟩, rfl, ⟨hp, hmx, h24, ?_⟩, .row b off cap (by show 0 < len; omega) hblk ?_ ?_⟩
      · intro k hk
        simp only [dif_pos (show k < len from hk)]
        exact (hS k hk).choose_spec.2
      · intro k hk
        simp only [dif_pos (show k < len from hk)]
        rw [← (hS k hk).choose_spec.1]
        exact add_at (hi k (Nat.lt_of_lt_of_le hk hlm)).1 rfl
      · intro k hk
        simp only [dif_pos (show k < len from hk)]
        rw [← (hN k hk).choose_spec]
        have := add_at (hi k (Nat.lt_of_lt_of_le hk hlm)).2.1 rfl
        simpa [Nat.add_assoc] using this

set_option maxRecDepth 100000 in
/-- A tuple's two cells. -/
theorem open_tup {H : Type} {enc : TypeId × Value → H} {W : World} {base : Nat} {sp : Nat → Bool} {hd : Bool} {n : Nat} {v0 v1 : Value} {x : DataW H × List MemPlace} (h : DataW.trod enc Tryz.prog W base sp hd n 25 [v0, v1] = some x) (hw : ∀ q ∈ x.1.weights Tryz.prog 25, q ≤ reachBytes) :
    ∃ t : TD, v0 = .string t.p ∧ t.ok ∧ ArgsAt W t v1 := by
  obtain ⟨xs, k, hk, hxy, _, hxl, hf⟩ := DataW.trod_struct Tryz.underlying25 h
  match xs, hxl with
  | [y0, y1], _ =>
    have g0 := hf 0 _ rfl
    have g1 := hf 1 _ rfl
    simp [cc9, cc23] at g0 g1
    obtain ⟨s, e, _, hs⟩ := DataW.trod_string Tryz.underlying9 g0
    obtain rfl : v0 = .string s := by simpa using e
    subst hxy
    have hw1 : ∀ q ∈ y1.1.weights Tryz.prog 23, q ≤ reachBytes := fun q hq => hw q (by simp [DataW.weights, Tryz.underlying25, DataW.weightsEach, hq])
    obtain ⟨t, ht, hok, hA⟩ := open_args s hs (d := y1.1) (ps := y1.2) g1 hw1
    exact ⟨t, by rw [ht], hok, hA⟩
end Go.Proofs.YtfaodjjgnajodaaGreatDoor

namespace Go.Proofs.YtfaodjjgnajodaaGreatDoor
open Go Go.ChangeShapes Go.WideShapes Go.ChangeAt Go.RowKit Go.Deep

instance : Inhabited TD := ⟨⟨.empty, 0, fun _ => .empty, fun _ => 0⟩⟩
instance : Inhabited Value := ⟨.nilFunc⟩

theorem mem_weightsAll {H : Type} {P : Program} {e : TypeId} {d : DataW H} {q : Nat} (hq : q ∈ d.weights P e) : ∀ {l : List (DataW H)}, d ∈ l → q ∈ DataW.weightsAll P e l
  | x :: r, h => by
    simp only [DataW.weightsAll, List.mem_append]
    rcases List.mem_cons.1 h with rfl | h
    · exact .inl hq
    · exact .inr (mem_weightsAll hq h)
  | [], h => by cases h

set_option maxRecDepth 100000 in
/-- One that was found: its four cells. -/
theorem open_found {H : Type} {enc : TypeId × Value → H} {W : World} {base : Nat} {sp : Nat → Bool} {hd : Bool} {n : Nat} {v0 v1 v2 v3 : Value} {x : DataW H × List MemPlace} (h : DataW.trod enc Tryz.prog W base sp hd n 28 [v0, v1, v2, v3] = some x) (hw : ∀ q ∈ x.1.weights Tryz.prog 28, q ≤ reachBytes) :
    ∃ (t : TD) (s r : Int), v0 = .string t.p ∧ v2 = .int .i64 s ∧ v3 = .int .i64 r ∧ t.ok ∧ ArgsAt W t v1 := by
  obtain ⟨xs, k, hk, hxy, _, hxl, hf⟩ := DataW.trod_struct Tryz.underlying28 h
  match xs, hxl with
  | [y0, y1, y2], _ =>
    have g0 := hf 0 _ rfl
    have g1 := hf 1 _ rfl
    have g2 := hf 2 _ rfl
    simp [cc25, cc3] at g0 g1 g2
    subst hxy
    have hw1 : ∀ q ∈ y0.1.weights Tryz.prog 25, q ≤ reachBytes := fun q hq => hw q (by simp [DataW.weights, Tryz.underlying28, DataW.weightsEach, hq])
    obtain ⟨t, e0, hok, hA⟩ := open_tup g0 hw1
    obtain ⟨z, e1, _⟩ := DataW.trod_int Tryz.underlying3 g1
    obtain ⟨z2, e2, _⟩ := DataW.trod_int Tryz.underlying3 g2
    exact ⟨t, z, z2, e0, by simpa using e1, by simpa using e2, hok, hA⟩

set_option maxRecDepth 100000 in
set_option maxHeartbeats 1000000 in
/-- A list of what was found that came in. -/
theorem open_list {H : Type} {enc : TypeId × Value → H} {W : World} {b0 : Nat} {v : Value} {d : DataW H} {ps : List MemPlace} (hv : Value.okWide Tryz.prog W .any b0 22 v)
    (h : DataW.Trod enc Tryz.prog W 0 (fun _ => true) true 22 v d ps) (hw : ∀ q ∈ d.weights Tryz.prog 22, q ≤ reachBytes) :
    ∃ (a : Option Addr) (n c : Nat) (ds : Nat → TD) (V : Nat → Value) (st ro : Nat → Int), v = .slice a n c ∧ n ≤ c ∧ LAt W a n ds V st ro ∧ ∀ k, k < n → (ds k).ok := by
  obtain ⟨a0, len0, cap0, rfl⟩ := okWide_slice Tryz.underlying22 hv
  obtain ⟨fuel, hf⟩ := h
  rcases open_slice Tryz.underlying22 hf with ⟨e, _⟩ | ⟨a, len, cap, m, n, D, Pl, e, _, hl, hm, hmm, hx, hi⟩
  · obtain ⟨rfl, rfl, rfl⟩ : a0 = none ∧ len0 = 0 ∧ cap0 = 0 := by simpa [Value.cells] using e
    exact ⟨none, 0, 0, fun _ => ⟨.empty, 0, fun _ => .empty, fun _ => 0⟩, fun _ => .nilFunc, fun _ => 0, fun _ => 0, rfl, Nat.le_refl _, fun h => absurd h (Nat.lt_irrefl _), fun k hk => absurd hk (Nat.not_lt_zero k)⟩
  · obtain ⟨rfl, rfl, rfl⟩ : a0 = some a ∧ len0 = len ∧ cap0 = cap := by simpa [Value.cells] using e
    have hlm : len0 ≤ m := by rw [hmm]; split <;> omega
    have hd : d = _ := (Prod.mk.inj hx).1
    have each : ∀ k, k < len0 → ∃ q : TD × Value × Int × Int, W.cell? (a.add (k * 4)) = some (.string q.1.p) ∧ W.cell? (a.add (k * 4 + 1)) = some q.2.1 ∧ W.cell? (a.add (k * 4 + 2)) = some (.int .i64 q.2.2.1) ∧ W.cell? (a.add (k * 4 + 3)) = some (.int .i64 q.2.2.2) ∧ q.1.ok ∧ ArgsAt W q.1 q.2.1 := by
      intro k hk
      obtain ⟨cs', hcs, htr⟩ := hi k (by omega)
      rw [cc28] at hcs
      obtain ⟨_, hlen, hcell⟩ := World.cells?_some hcs
      match cs', hlen with
      | [v0, v1, v2, v3], _ =>
        have hwk : ∀ q ∈ (D k).weights Tryz.prog 28, q ≤ reachBytes := by
          intro q hq
          refine hw q ?_
          rw [hd]
          simp only [DataW.weights, Tryz.underlying22, List.mem_cons, List.mem_append]
          exact .inr (.inl (mem_weightsAll hq (List.mem_map.2 ⟨k, List.mem_range.2 hk, rfl⟩)))
        obtain ⟨t, s, r, rfl, rfl, rfl, hok, hA⟩ := open_found htr hwk
        have e0 := hcell 0 (by omega)
        have e1 := hcell 1 (by omega)
        have e2 := hcell 2 (by omega)
        have e3 := hcell 3 (by omega)
        rw [add_add] at e0 e1 e2 e3
        exact ⟨(t, v1, s, r), by simpa using e0, by simpa using e1, by simpa using e2, by simpa using e3, hok, hA⟩
    obtain ⟨q, hq⟩ := choose_lt (α := TD × Value × Int × Int) (n := len0) (p := fun k q => W.cell? (a.add (k * 4)) = some (.string q.1.p) ∧ W.cell? (a.add (k * 4 + 1)) = some q.2.1 ∧ W.cell? (a.add (k * 4 + 2)) = some (.int .i64 q.2.2.1) ∧ W.cell? (a.add (k * 4 + 3)) = some (.int .i64 q.2.2.2) ∧ q.1.ok ∧ ArgsAt W q.1 q.2.1) each
    refine ⟨some a, len0, cap0, fun k => (q k).1, fun k => (q k).2.1, fun k => (q k).2.2.1, fun k => (q k).2.2.2, rfl, hl, ?_, fun k hk => (hq k hk).2.2.2.2.1⟩
    intro hpos
    have h0 := (hq 0 hpos).1
    have hadd : a.add (0 * 4) = a := by simp [Addr.add]
    rw [hadd] at h0
    obtain ⟨hsp, hblk⟩ := spot_none h0
    obtain ⟨b, off, spt⟩ := a
    simp only at hsp hblk
    subst hsp
    exact ⟨b, off, rfl, hblk, fun k hk => add_at (hq k hk).1 rfl, fun k hk => add_at (hq k hk).2.1 rfl, fun k hk => add_at (hq k hk).2.2.1 rfl, fun k hk => add_at (hq k hk).2.2.2.1 rfl, fun k hk => (hq k hk).2.2.2.2.2, fun k hk => (hq k hk).2.2.2.2.1⟩
end Go.Proofs.YtfaodjjgnajodaaGreatDoor

namespace Go.Proofs.YtfaodjjgnajodaaGreatDoor
open Go Go.ChangeShapes Go.WideShapes Go.ChangeAt Go.RowKit Go.Deep

theorem law_any {w : World} (t : TD) (tv : Value) (a : Option Addr) (n c : Nat) (ds : Nat → TD) (V : Nat → Value) (st ro : Nat → Int) (hc : n ≤ c) (hL : LAt w a n ds V st ro) (hok : ∀ k, k < n → (ds k).ok) (ht : t.ok) (hT : ArgsAt w t tv) (h : VarsOk w) :
    Calls Tryz.prog 3 #[.slice a n c, .agg #[.string t.p, tv]] w fun e w' => e = .returned (.bool true) ∧ RowKit.Below w.heap.size w w' := by
  by_cases hn : n ≤ 200
  · exact law_tail t tv a n c ds V st ro hn hc ⟨hL⟩ ⟨hok⟩ ht hT h
  · exact law_big _ tv a n c (by omega) h

set_option maxRecDepth 100000 in
theorem contract (H : Type) (enc : TypeId × Value → H) (W : World) (base : Nat) (args : Array Value) (ds gs : List (DataW H)) (before : List MemPlace)
    (hval : ∀ (j : Nat) t v, Tryz.f3.params[j]? = some t → args[j]? = some v → Value.okWide Tryz.prog W .any base t v)
    (hW : DataW.Whole enc Tryz.prog Tryz.f3.params.toList Rows.naiveFindsSpec.vars false W args.toList ds gs before)
    (hsz : (DataW.weightsEach Tryz.prog (Tryz.f3.params.toList ++ (OpenSpec.ofChange Rows.naiveFindsSpec).bare.plain.varTypes Tryz.prog) (ds ++ gs)).all (· ≤ reachBytes) = true)
    (hL : laidMetH Tryz.prog Rows.naiveFindsRow.laid W) (hS : W.ShapedOpen Tryz.prog) :
    Calls Tryz.prog 3 args W fun e W' => ∃ v, e = .returned v ∧ Rows.naiveFindsSpec.post enc Tryz.prog Tryz.f3 false true false false W args v W' := by
  have hW' := hW
  obtain ⟨pp, q, hA0, hV, rfl, hfz, hnd⟩ := hW
  have hA : DataW.TrodAll enc Tryz.prog W 0 (fun _ => true) true Tryz.f3.params.toList args.toList ds pp := hA0
  rw [Tryz.params3] at hA hval hsz
  obtain ⟨v0, v1, d0, d1, p0, p1, rfl, rfl, rfl, h0, h1⟩ := trodAll_two hA
  obtain ⟨rfl, rfl⟩ := trodVars_none hV
  have hall := List.all_eq_true.1 hsz
  have hw0 : ∀ q ∈ d0.weights Tryz.prog 22, q ≤ reachBytes := fun q hq => by
    have := hall q (DataW.weights_mem_each (j := 0) rfl rfl q hq)
    simpa using this
  have hw1 : ∀ q ∈ d1.weights Tryz.prog 25, q ≤ reachBytes := fun q hq => by
    have := hall q (DataW.weights_mem_each (j := 1) rfl rfl q hq)
    simpa using this
  have h0k := h0
  have h1k := h1
  obtain ⟨a, n, c, dd, V, st, ro, rfl, hc, hLA, hok⟩ := open_list (hval 0 22 v0 rfl rfl) h0 hw0
  have hv1 := hval 1 25 v1 rfl rfl
  obtain ⟨cs, rfl, hcs⟩ := okWide_struct Tryz.underlying25 hv1
  obtain ⟨x0, x1, rfl⟩ := Joins.array2 (hcs.trans cc25)
  obtain ⟨fuel, hf⟩ := h1
  obtain ⟨t, rfl, ht, hT⟩ := open_tup (x := (d1, p1)) (v0 := x0) (v1 := x1) hf hw1
  clear hA0
  have hlt : ∀ x ∈ p0 ++ p1, x.block < W.heap.size := fun x hx => hW'.lt x (by simpa using hx)
  refine (law_any t x1 a n c dd V st ro hc hLA hok ht hT (vars_ok hL hS)).mono fun e W' ⟨he, hb⟩ => ?_
  subst he
  have e1 : Rows.naiveFindsSpec.fn H ([d0, d1] ++ []) = { results := [.lit (.bool true)], args := [d0, d1] } := by simp [Rows.naiveFindsSpec]
  refine ⟨_, rfl, _, _, _, [], p0 ++ p1, [], hW', ?_, ?_, ?_, ?_, fun h => by cases h⟩
  · rw [e1]; exact trodAll_mk1 (shut_bool Tryz.underlying4 true)
  · rw [e1]; exact trodAll_mk2 (Below.trod laidOut (by kernel_rfl) (of_decide_eq_true (by kernel_rfl)) h0k hb (fun x hx => hlt x (by simp [hx]))) (Below.trod laidOut (by kernel_rfl) (of_decide_eq_true (by kernel_rfl)) h1k hb (fun x hx => hlt x (by simp [hx])))
  · rw [e1]; rfl
  · exact hb.frame _

/-- What is laid into the world of the witness. -/
def laidData : List (String × DataW Unit) := [("math/bits.deBruijn64tab", Lib.tabData .u8 tabZ), ("unicode/utf8.acceptRanges", Rows.laid_unicode_utf8_acceptRanges), ("unicode/utf8.first", Rows.laid_unicode_utf8_first)]
/-- The settled world, with the handle of the type 'error' in its variable. -/
noncomputable def handWorld (os : Os) : World :=
  { World.holding Tryz.prog os ⟨#[], #[], []⟩ with heap := (World.holding Tryz.prog os ⟨#[], #[], []⟩).heap.modify 0 fun
      | .cells _ t frozen => .cells #[.iface 295 (.agg #[.pointer (some ⟨5, 184, none⟩)])] t frozen
      | o => o }
noncomputable def laidWorld (os : Os) : World := (handWorld os).layVars Tryz.prog laidData
theorem laidWorld_os (os : Os) : (laidWorld os).os = os := (World.layVars_os _ _ _).trans rfl
def wArgs : Array Value := #[.slice none 0 0, .agg #[.string .empty, .slice none 0 0]]
set_option maxRecDepth 100000 in
theorem laid_met (os : Os) : laidMetH Tryz.prog Rows.naiveFindsRow.laid ((laidWorld os).forCall (fun _ _ => 0) ⟨#[], wArgs, []⟩).memory := by
  refine laidMetH_of_parts ?_ ?_
  · rw [laid_filter]
    refine laidMet.of_heap (w := laidWorld os) (by simp [World.memory, World.forCall, Input.heap]) ?_
    have e1 : (laidData.filter fun x => (laidData.map (·.1)).contains x.1) = laidData := List.filter_eq_self.2 fun x hx => List.contains_iff_mem.2 (List.mem_map.2 ⟨x, hx, rfl⟩)
    have e2 : (laidData.filter fun x => !(laidData.map (·.1)).contains x.1) = [] := List.filter_eq_nil_iff.2 fun x hx => by rw [List.contains_iff_mem.2 (List.mem_map.2 ⟨x, hx, rfl⟩)]; simp
    exact laidMet_layVars (w0 := handWorld os) (laid := laidData) (laidData.map (·.1)) [] (by rw [e1]; rfl) (by rw [e1]; kernel_rfl) (by rw [e1]; kernel_rfl) (by rw [e2]; exact LaidIn.none)
  · rw [laid_handles]
    kernel_rfl
end Go.Proofs.YtfaodjjgnajodaaGreatDoor

namespace Go.Proofs.YtfaodjjgnajodaaGreatDoor
open Go Go.ChangeShapes Go.WideShapes Go.ChangeAt Go.RowKit Go.Deep

theorem reads (os : Os) {H : Type} (enc : TypeId × Value → H) : ∃ places, DataW.whole enc Tryz.prog ((laidWorld os).forCall (fun _ _ => 0) ⟨#[], wArgs, []⟩).memory Tryz.f3.params.toList Rows.naiveFindsSpec.vars false wArgs.toList 8 = some ([.nil, .agg [.lit (.string []), .nil]], [], places) :=
  ⟨[], by kernel_rfl⟩

set_option maxRecDepth 100000 in
theorem lifted (os : Os) (started : os.Started) (H : Type) (enc : TypeId × Value → H) (F : Stop.Interp) :
    ReturnsInHanded {} Tryz.checked os 3 .any ((OpenSpec.ofChange Rows.naiveFindsSpec).preRow enc Tryz.prog Tryz.f3 Rows.naiveFindsRow.domain false Rows.naiveFindsRow.laid) (((OpenSpec.ofChange Rows.naiveFindsSpec).at F).post enc Tryz.prog Tryz.f3 false true false false) := by
  obtain ⟨places, hx⟩ := reads os enc
  refine returnsInHanded_of_row (C := Tryz.checked) (s := OpenSpec.ofChange Rows.naiveFindsSpec) own started (by kernel_rfl) Tryz.func3
    (witness_row_at (enc := enc) (C := Tryz.checked) false (laidWorld os) wArgs (laidWorld_os os) (by kernel_rfl) (by kernel_rfl) (by kernel_rfl)
      (OpenSpec.preRow_of_cond 8 hx (by kernel_rfl) (fun k hk => by cases hk) (by kernel_rfl) (laid_met os))) ?_
  intro W base args ds gs before hval hW _ _ hsz hL hS _
  exact contract H enc W base args ds gs before hval hW hsz hL hS

theorem said : Rows.NaiveFindsSaid :=
  OpenClaim.holds_of_cond 3 Tryz.f3 rfl rfl rfl rfl rfl rfl rfl ⟨rfl, rfl, rfl, rfl, rfl⟩ rfl rfl rfl rfl rfl (by kernel_rfl) Tryz.func3 (by kernel_rfl)
    (of_decide_eq_true (by kernel_rfl)) (by unfold Func.isWrapper; first | (rw [if_pos (by decide +kernel)]; kernel_rfl) | (rw [if_neg (by decide +kernel)]; exact ⟨rfl, rfl⟩))
    (fun os started H enc _ F => by rw [OpenClaim.pre_eq_preRow]; exact lifted os started H enc F)

theorem plain (f : FuncId) (fn : Func) (hf : Tryz.pinned.checked.prog.funcNamed "mandate/mandatelaw11.NaiveFinds" = some f) (hfn : Tryz.pinned.checked.prog.funcs[f]? = some fn) :
    true = Tryz.pinned.checked.prog.looks [] ∧ ∀ (j : Nat) t, fn.params[j]? = some t → Tryz.pinned.checked.prog.wantsStandIn t = false := by
  obtain rfl : f = 3 := Option.some.inj ((show Tryz.prog.funcNamed "mandate/mandatelaw11.NaiveFinds" = some 3 by kernel_rfl).symm.trans hf) |>.symm
  obtain rfl : fn = Tryz.f3 := (Option.some.inj (Tryz.func3.symm.trans hfn)).symm
  refine ⟨by kernel_rfl, fun j t ht => ?_⟩
  rw [Tryz.params3] at ht
  have h : t = 22 ∨ t = 25 := by simpa using Array.mem_of_getElem? ht
  rcases h with rfl | rfl
  · exact (show Tryz.prog.wantsStandIn 22 = false by kernel_rfl)
  · exact (show Tryz.prog.wantsStandIn 25 = false by kernel_rfl)

theorem card : Rows.NaiveFindsCardSaid :=
  Claim7.holds_tied_plain_at .later [] _ _ _ _ said (fun _ h => by cases h) (by kernel_rfl) (fun _ h => by cases h) naiveFinds_row_tie rfl ⟨rfl, rfl⟩ (by kernel_rfl) rfl plain (by kernel_rfl)
#print axioms card
end Go.Proofs.YtfaodjjgnajodaaGreatDoor
