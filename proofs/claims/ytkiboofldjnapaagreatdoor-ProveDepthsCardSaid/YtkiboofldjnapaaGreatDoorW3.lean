/- PROVED: ProveDepthsCardSaid: for every input mandatelaw15.ProveDepths returns true and its argument reads as before. CONDITIONS: the card's own (the listed package-level variables start as the program's text lays them; the tie is given). -/
import Derived.Test.YtkiboofldjnapaaGreatDoorW2
import Derived.Test.YtkiboofldjnapaaGreatDoorCards
import Derived.Test.YtkiboofldjnapaaGreatDoorTie
import Derived.ProofKit
import Derived.OpenShut
import Derived.Carry
import Derived.Lay
import Derived.LaidHandle
import Derived.Deep.Slices
import Derived.Deep.Fields
import Derived.Deep.SlicePairs
import Derived.SizedLaws
import Derived.ChangeSame
import Derived.Deep.DeepHandedRow
import Derived.Lib.LaidTab
import Derived.Lib.SmallJoins
import Derived.SevenTiedAt
set_option linter.unusedSimpArgs false
set_option linter.unusedVariables false
set_option linter.unnecessarySimpa false

namespace Go.Proofs.YtkiboofldjnapaaGreatDoor
open Go Go.ChangeShapes Go.WideShapes Go.ChangeAt Go.RowKit Go.Deep

theorem own : ownKnob Tryz.prog.godebug = none := by kernel_rfl
theorem laidOut : laidOutB Tryz.prog = true := by kernel_rfl
theorem gTab : Tryz.prog.globalNamed "math/bits.deBruijn64tab" = some 2 := by kernel_rfl
theorem gTabType : (Tryz.prog.globals[2]?).map (·.type) = some 302 := by kernel_rfl
theorem u302 : Tryz.prog.underlying 302 = some (.array 64 5) := by kernel_rfl
theorem u5 : Tryz.prog.underlying 5 = some (.int .u8) := by kernel_rfl
theorem c302 : Tryz.prog.cellsOf 302 = 64 := by kernel_rfl
theorem c5 : Tryz.prog.cellsOf 5 = 1 := by kernel_rfl

def tabZ : List Int := [0, 1, 56, 2, 57, 49, 28, 3, 61, 58, 42, 50, 38, 29, 17, 4, 62, 47, 59, 36, 45, 43, 51, 22, 53, 39, 33, 30, 24, 18, 12, 5, 63, 55, 48, 27, 60, 41, 37, 16, 46, 35, 44, 21, 52, 32, 23, 11, 54, 26, 40, 15, 34, 20, 31, 10, 25, 14, 19, 9, 13, 8, 7, 6]

theorem laid_filter : (Rows.proveDepthsRow.laid.filter fun x => x.2.handleName?.isNone) = [("math/bits.deBruijn64tab", Lib.tabData .u8 tabZ), ("unicode/utf8.acceptRanges", Rows.laid_unicode_utf8_acceptRanges), ("unicode/utf8.first", Rows.laid_unicode_utf8_first)] := by kernel_rfl

theorem laid_handles : (Rows.proveDepthsRow.laid.filter fun x => x.2.handleName?.isSome) = [("errors.errorType", Rows.laid_errors_errorType)] := by kernel_rfl

theorem table {W : World} (h : laidMetH Tryz.prog Rows.proveDepthsRow.laid W) : Lib.TabIs Tryz.prog W "math/bits.deBruijn64tab" .u8 tabZ := by
  unfold laidMetH at h
  rw [laid_handles, laid_filter] at h
  exact Lib.tabIs_of_head gTab gTabType u302 u5 c5 c302 h.1

theorem begin2 : (((begin Tryz.prog (fun _ _ => 0) default).world.heap[2]?).bind Obj.row?).map (·.2) = some 302 := by kernel_rfl
theorem begin4 : (((begin Tryz.prog (fun _ _ => 0) default).world.heap[4]?).bind Obj.row?).isSome = true := by kernel_rfl
theorem globals5 : Tryz.prog.globals.size = 5 := by kernel_rfl

theorem vars_ok {W : World} (hL : laidMetH Tryz.prog Rows.proveDepthsRow.laid W) (hS : W.ShapedOpen Tryz.prog) : VarsOk W := by
  obtain ⟨h1, _⟩ := hS
  refine ⟨?_, ?_⟩
  · cases h : ((begin Tryz.prog (fun _ _ => 0) default).world.heap[4]?).bind Obj.row? with
    | none => have := begin4; rw [h] at this; cases this
    | some x =>
      obtain ⟨cs, hcs, _⟩ := h1 4 x.1 x.2 (by rw [globals5]; omega) h
      have := (Array.getElem?_eq_some_iff.1 hcs).1
      omega
  · cases h : ((begin Tryz.prog (fun _ _ => 0) default).world.heap[2]?).bind Obj.row? with
    | none => have := begin2; rw [h] at this; cases this
    | some x =>
      have e : x.2 = 302 := by have := begin2; rw [h] at this; simpa using this
      obtain ⟨cs, hcs, _⟩ := h1 2 x.1 x.2 (by rw [globals5]; omega) h
      rw [e] at hcs
      have ht : W.var? Tryz.prog "math/bits.deBruijn64tab" = some ((tabZ.map fun z => Value.int .u8 z).toArray) := table hL
      unfold World.var? at ht
      rw [gTab] at ht
      simp only [Option.bind_some, hcs, Option.some.injEq] at ht
      exact ⟨cs, hcs, by rw [ht]; rfl⟩

/-- An address by its parts. -/
theorem add_at {a : Addr} {w : World} {v : Value} {k : Nat} (h : w.cell? (a.add k) = some v) (hs : a.spot = none) : w.cell? ⟨a.block, a.off + k, none⟩ = some v := by
  unfold Addr.add at h
  obtain ⟨b, o, s⟩ := a
  simp only at hs
  subst hs
  split at h
  · rename_i h0; subst h0; exact h
  · exact h

theorem spot_none {a : Addr} {w : World} {v : Value} (c0 : w.cell? a = some v) : a.spot = none ∧ a.block < w.heap.size := by
  constructor
  · cases hq : a.spot with
    | none => rfl
    | some z =>
      unfold World.cell? at c0
      rw [hq] at c0
      split at c0 <;> simp at c0
  · unfold World.cell? at c0
    split at c0
    · rename_i hq; exact (Array.getElem?_eq_some_iff.1 hq).1
    · cases c0

theorem cc30 : Tryz.prog.cellsOf 30 = 6 := by kernel_rfl
theorem cc26 : Tryz.prog.cellsOf 26 = 2 := by kernel_rfl
theorem cc27 : Tryz.prog.cellsOf 27 = 1 := by kernel_rfl
theorem cc28 : Tryz.prog.cellsOf 28 = 1 := by kernel_rfl
theorem cc24 : Tryz.prog.cellsOf 24 = 1 := by kernel_rfl
theorem cc9 : Tryz.prog.cellsOf 9 = 1 := by kernel_rfl
theorem cc3 : Tryz.prog.cellsOf 3 = 1 := by kernel_rfl
theorem uu24 : ∃ e, Tryz.prog.underlying 24 = some (.slice e) := ⟨_, Tryz.underlying24⟩
theorem uu28 : ∃ e, Tryz.prog.underlying 28 = some (.slice e) := ⟨_, Tryz.underlying28⟩

section
variable {H : Type} {enc : TypeId × Value → H} {W : World} {base : Nat} {sp : Nat → Bool} {hd : Bool}

/-- A slice that came in: how it looks. -/
theorem open_form {n : Nat} {t : TypeId} {v : Value} {x : DataW H × List MemPlace} (ht : ∃ e, Tryz.prog.underlying t = some (.slice e)) (h : DataW.trod enc Tryz.prog W base sp hd n t [v] = some x) : ∃ a l c, v = .slice a l c := by
  obtain ⟨e, ht⟩ := ht
  rcases open_slice ht h with ⟨e, _⟩ | ⟨a, len, cap, m, n, D, Pl, e, _⟩
  · exact ⟨none, 0, 0, by simpa using e⟩
  · exact ⟨some a, len, cap, by simpa using e⟩

set_option maxRecDepth 100000 in
/-- A slice of numbers that came in. -/
theorem open_kids {n : Nat} {v : Value} {x : DataW H × List MemPlace} (h : DataW.trod enc Tryz.prog W base sp hd n 27 [v] = some x) : ∃ a m c f, v = .slice a m c ∧ KAt W a m f := by
  rcases open_slice1 Tryz.underlying27 cc3 h with ⟨e, _⟩ | ⟨a, len, cap, m, n2, V, D, Pl, e, _, hl, hm, hmm, hx, hi⟩
  · exact ⟨none, 0, 0, fun _ => 0, by simpa using e, fun h => absurd h (Nat.lt_irrefl _)⟩
  · have hlm : len ≤ m := by rw [hmm]; split <;> omega
    have hN : ∀ k, k < len → ∃ z : Int, V k = .int .i64 z := by
      intro k hk
      obtain ⟨z, e, _⟩ := DataW.trod_int Tryz.underlying3 (hi k (by omega)).2
      exact ⟨z, by simpa using e⟩
    refine ⟨some a, len, cap, fun k => if h : k < len then (hN k h).choose else 0, by simpa using e, fun hpos => ?_⟩
    have c0 := (hi 0 (by omega)).1
    have hadd : a.add 0 = a := by simp [Addr.add]
    rw [hadd] at c0
    obtain ⟨hsp, hblk⟩ := spot_none c0
    obtain ⟨b, off, spt⟩ := a
    simp only at hsp hblk
    subst hsp
    refine ⟨b, off, rfl, hblk, fun k hk => ?_⟩
    simp only [dif_pos hk]
    rw [← (hN k hk).choose_spec]
    exact add_at (hi k (Nat.lt_of_lt_of_le hk hlm)).1 rfl

structure N1 where
  m : Nat
  f : Nat → Int
  ka : Option Addr
  kc : Nat
  u : Int
  n : Int
  p : ByteArray
  av : Option Addr
  an : Nat
  ac : Nat
  tv : Option Addr
  tn : Nat
  tc : Nat
instance : Inhabited N1 := ⟨⟨0, fun _ => 0, none, 0, 0, 0, .empty, none, 0, 0, none, 0, 0⟩⟩

set_option maxRecDepth 100000 in
/-- A node: its six cells. -/
theorem open_node {n : Nat} {v0 v1 v2 v3 v4 v5 : Value} {x : DataW H × List MemPlace} (h : DataW.trod enc Tryz.prog W base sp hd n 30 [v0, v1, v2, v3, v4, v5] = some x) :
    ∃ q : N1, v0 = .int .i64 q.u ∧ v1 = .int .i64 q.n ∧ v2 = .string q.p ∧ v3 = .slice q.av q.an q.ac ∧ v4 = .slice q.ka q.m q.kc ∧ v5 = .slice q.tv q.tn q.tc ∧ KAt W q.ka q.m q.f := by
  obtain ⟨xs, k, hk, hxy, _, hxl, hf⟩ := DataW.trod_struct Tryz.underlying30 h
  match xs, hxl with
  | [y0, y1, y2, y3, y4], _ =>
    have g0 := hf 0 _ rfl
    have g1 := hf 1 _ rfl
    have g2 := hf 2 _ rfl
    have g3 := hf 3 _ rfl
    have g4 := hf 4 _ rfl
    simp [cc26, cc27, cc28, cc3] at g0 g1 g2 g3 g4
    obtain ⟨z0, e0, _⟩ := DataW.trod_int Tryz.underlying3 g0
    obtain ⟨z1, e1, _⟩ := DataW.trod_int Tryz.underlying3 g1
    obtain ⟨ws, k2, _, _, _, hwl, hg⟩ := DataW.trod_struct Tryz.underlying26 g2
    match ws, hwl with
    | [w0, w1], _ =>
      have q0 := hg 0 _ rfl
      have q1 := hg 1 _ rfl
      simp [cc9, cc24] at q0 q1
      obtain ⟨s, e2, _, _⟩ := DataW.trod_string Tryz.underlying9 q0
      obtain ⟨a3, l3, c3, e3⟩ := open_form uu24 q1
      obtain ⟨a5, l5, c5, e5⟩ := open_form uu28 g4
      obtain ⟨a4, m4, c4, f4, e4, hK⟩ := open_kids g3
      exact ⟨⟨m4, f4, a4, c4, z0, z1, s, a3, l3, c3, a5, l5, c5⟩, by simpa using e0, by simpa using e1, by simpa using e2, e3, e4, e5, hK⟩
end

set_option maxRecDepth 100000 in
set_option maxHeartbeats 1000000 in
/-- A list of nodes that came in. -/
theorem open_nodes {H : Type} {enc : TypeId × Value → H} {W : World} {b0 : Nat} {v : Value} {d : DataW H} {ps : List MemPlace} (hv : Value.okWide Tryz.prog W .any b0 22 v)
    (h : DataW.Trod enc Tryz.prog W 0 (fun _ => true) true 22 v d ps) : ∃ (a : Option Addr) (n c : Nat) (D : ND), v = .slice a n c ∧ NAt W a n D := by
  obtain ⟨a0, len0, cap0, rfl⟩ := okWide_slice Tryz.underlying22 hv
  obtain ⟨fuel, hf⟩ := h
  rcases open_slice Tryz.underlying22 hf with ⟨e, _⟩ | ⟨a, len, cap, m, n, D, Pl, e, _, hl, hm, hmm, hx, hi⟩
  · obtain ⟨rfl, rfl, rfl⟩ : a0 = none ∧ len0 = 0 ∧ cap0 = 0 := by simpa [Value.cells] using e
    exact ⟨none, 0, 0, ⟨fun _ => 0, fun _ _ => 0, fun _ => none, fun _ => 0, fun _ => 0, fun _ => 0, fun _ => .empty, fun _ => none, fun _ => 0, fun _ => 0, fun _ => none, fun _ => 0, fun _ => 0⟩, rfl, fun h => absurd h (Nat.lt_irrefl _)⟩
  · obtain ⟨rfl, rfl, rfl⟩ : a0 = some a ∧ len0 = len ∧ cap0 = cap := by simpa [Value.cells] using e
    have hlm : len0 ≤ m := by rw [hmm]; split <;> omega
    have each : ∀ k, k < len0 → ∃ q : N1, W.cell? (a.add (k * 6)) = some (.int .i64 q.u) ∧ W.cell? (a.add (k * 6 + 1)) = some (.int .i64 q.n) ∧ W.cell? (a.add (k * 6 + 2)) = some (.string q.p) ∧ W.cell? (a.add (k * 6 + 3)) = some (.slice q.av q.an q.ac) ∧ W.cell? (a.add (k * 6 + 4)) = some (.slice q.ka q.m q.kc) ∧ W.cell? (a.add (k * 6 + 5)) = some (.slice q.tv q.tn q.tc) ∧ KAt W q.ka q.m q.f := by
      intro k hk
      obtain ⟨cs', hcs, htr⟩ := hi k (by omega)
      rw [cc30] at hcs
      obtain ⟨_, hlen, hcell⟩ := World.cells?_some hcs
      match cs', hlen with
      | [v0, v1, v2, v3, v4, v5], _ =>
        obtain ⟨q, rfl, rfl, rfl, rfl, rfl, rfl, hK⟩ := open_node htr
        have e0 := hcell 0 (by omega)
        have e1 := hcell 1 (by omega)
        have e2 := hcell 2 (by omega)
        have e3 := hcell 3 (by omega)
        have e4 := hcell 4 (by omega)
        have e5 := hcell 5 (by omega)
        rw [add_add] at e0 e1 e2 e3 e4 e5
        exact ⟨q, by simpa using e0, by simpa using e1, by simpa using e2, by simpa using e3, by simpa using e4, by simpa using e5, hK⟩
    obtain ⟨q, hq⟩ := choose_lt (α := N1) (n := len0) (p := fun k q => W.cell? (a.add (k * 6)) = some (.int .i64 q.u) ∧ W.cell? (a.add (k * 6 + 1)) = some (.int .i64 q.n) ∧ W.cell? (a.add (k * 6 + 2)) = some (.string q.p) ∧ W.cell? (a.add (k * 6 + 3)) = some (.slice q.av q.an q.ac) ∧ W.cell? (a.add (k * 6 + 4)) = some (.slice q.ka q.m q.kc) ∧ W.cell? (a.add (k * 6 + 5)) = some (.slice q.tv q.tn q.tc) ∧ KAt W q.ka q.m q.f) each
    refine ⟨some a, len0, cap0, ⟨fun k => (q k).m, fun k => (q k).f, fun k => (q k).ka, fun k => (q k).kc, fun k => (q k).u, fun k => (q k).n, fun k => (q k).p, fun k => (q k).av, fun k => (q k).an, fun k => (q k).ac, fun k => (q k).tv, fun k => (q k).tn, fun k => (q k).tc⟩, rfl, ?_⟩
    intro hpos
    have h0 := (hq 0 hpos).1
    have hadd : a.add (0 * 6) = a := by simp [Addr.add]
    rw [hadd] at h0
    obtain ⟨hsp, hblk⟩ := spot_none h0
    obtain ⟨b, off, spt⟩ := a
    simp only at hsp hblk
    subst hsp
    exact ⟨b, off, rfl, hblk, fun k hk => add_at (hq k hk).1 rfl, fun k hk => add_at (hq k hk).2.1 rfl, fun k hk => add_at (hq k hk).2.2.1 rfl, fun k hk => add_at (hq k hk).2.2.2.1 rfl, fun k hk => add_at (hq k hk).2.2.2.2.1 rfl, fun k hk => add_at (hq k hk).2.2.2.2.2.1 rfl, fun k hk => (hq k hk).2.2.2.2.2.2⟩

set_option maxRecDepth 100000 in
theorem contract (H : Type) (enc : TypeId × Value → H) (W : World) (base : Nat) (args : Array Value) (ds gs : List (DataW H)) (before : List MemPlace)
    (hval : ∀ (j : Nat) t v, Tryz.f3.params[j]? = some t → args[j]? = some v → Value.okWide Tryz.prog W .any base t v)
    (hW : DataW.Whole enc Tryz.prog Tryz.f3.params.toList Rows.proveDepthsSpec.vars false W args.toList ds gs before)
    (hL : laidMetH Tryz.prog Rows.proveDepthsRow.laid W) (hS : W.ShapedOpen Tryz.prog) :
    Calls Tryz.prog 3 args W fun e W' => ∃ v, e = .returned v ∧ Rows.proveDepthsSpec.post enc Tryz.prog Tryz.f3 false true false false W args v W' := by
  have hW' := hW
  obtain ⟨pp, q, hA0, hV, rfl, hfz, hnd⟩ := hW
  have hA : DataW.TrodAll enc Tryz.prog W 0 (fun _ => true) true Tryz.f3.params.toList args.toList ds pp := hA0
  rw [Tryz.params3] at hA hval
  obtain ⟨v0, d0, rfl, rfl, h0⟩ := trodAll_one hA
  obtain ⟨rfl, rfl⟩ := trodVars_none hV
  have h0k := h0
  obtain ⟨a, n, c, D, rfl, hN⟩ := open_nodes (hval 0 22 v0 rfl rfl) h0
  clear hA0
  have hlt : ∀ x ∈ pp, x.block < W.heap.size := fun x hx => hW'.lt x (by simpa using hx)
  refine (law_any a n c D hN (vars_ok hL hS)).mono fun e W' ⟨he, hb⟩ => ?_
  subst he
  have e1 : Rows.proveDepthsSpec.fn H ([d0] ++ []) = { results := [.lit (.bool true)], args := [d0] } := by simp [Rows.proveDepthsSpec]
  refine ⟨_, rfl, _, _, _, [], pp, [], hW', ?_, ?_, ?_, ?_, fun h => by cases h⟩
  · rw [e1]; exact trodAll_mk1 (shut_bool Tryz.underlying4 true)
  · rw [e1]; exact trodAll_mk1 (Below.trod laidOut (by kernel_rfl) (of_decide_eq_true (by kernel_rfl)) h0k hb hlt)
  · rw [e1]; rfl
  · exact hb.frame _

/-- What is laid into the world of the witness. -/
def laidData : List (String × DataW Unit) := [("math/bits.deBruijn64tab", Lib.tabData .u8 tabZ), ("unicode/utf8.acceptRanges", Rows.laid_unicode_utf8_acceptRanges), ("unicode/utf8.first", Rows.laid_unicode_utf8_first)]
/-- The settled world, with the handle of the type 'error' in its variable. -/
noncomputable def handWorld (os : Os) : World :=
  { World.holding Tryz.prog os ⟨#[], #[], []⟩ with heap := (World.holding Tryz.prog os ⟨#[], #[], []⟩).heap.modify 0 fun
      | .cells _ t frozen => .cells #[.iface 305 (.agg #[.pointer (some ⟨5, 155, none⟩)])] t frozen
      | o => o }
noncomputable def laidWorld (os : Os) : World := (handWorld os).layVars Tryz.prog laidData
theorem laidWorld_os (os : Os) : (laidWorld os).os = os := (World.layVars_os _ _ _).trans rfl
def wArgs : Array Value := #[.slice none 0 0]
set_option maxRecDepth 100000 in
theorem laid_met (os : Os) : laidMetH Tryz.prog Rows.proveDepthsRow.laid ((laidWorld os).forCall (fun _ _ => 0) ⟨#[], wArgs, []⟩).memory := by
  refine laidMetH_of_parts ?_ ?_
  · rw [laid_filter]
    refine laidMet.of_heap (w := laidWorld os) (by simp [World.memory, World.forCall, Input.heap]) ?_
    have e1 : (laidData.filter fun x => (laidData.map (·.1)).contains x.1) = laidData := List.filter_eq_self.2 fun x hx => List.contains_iff_mem.2 (List.mem_map.2 ⟨x, hx, rfl⟩)
    have e2 : (laidData.filter fun x => !(laidData.map (·.1)).contains x.1) = [] := List.filter_eq_nil_iff.2 fun x hx => by rw [List.contains_iff_mem.2 (List.mem_map.2 ⟨x, hx, rfl⟩)]; simp
    exact laidMet_layVars (w0 := handWorld os) (laid := laidData) (laidData.map (·.1)) [] (by rw [e1]; rfl) (by rw [e1]; kernel_rfl) (by rw [e1]; kernel_rfl) (by rw [e2]; exact LaidIn.none)
  · rw [laid_handles]
    kernel_rfl
end Go.Proofs.YtkiboofldjnapaaGreatDoor

namespace Go.Proofs.YtkiboofldjnapaaGreatDoor
open Go Go.ChangeShapes Go.WideShapes Go.ChangeAt Go.RowKit Go.Deep

theorem reads (os : Os) {H : Type} (enc : TypeId × Value → H) : ∃ places, DataW.whole enc Tryz.prog ((laidWorld os).forCall (fun _ _ => 0) ⟨#[], wArgs, []⟩).memory Tryz.f3.params.toList Rows.proveDepthsSpec.vars false wArgs.toList 8 = some ([.nil], [], places) :=
  ⟨[], by kernel_rfl⟩

set_option maxRecDepth 100000 in
theorem lifted (os : Os) (started : os.Started) (H : Type) (enc : TypeId × Value → H) (F : Stop.Interp) :
    ReturnsInHanded {} Tryz.checked os 3 .any ((OpenSpec.ofChange Rows.proveDepthsSpec).preRow enc Tryz.prog Tryz.f3 Rows.proveDepthsRow.domain false Rows.proveDepthsRow.laid) (((OpenSpec.ofChange Rows.proveDepthsSpec).at F).post enc Tryz.prog Tryz.f3 false true false false) := by
  obtain ⟨places, hx⟩ := reads os enc
  refine returnsInHanded_of_row (C := Tryz.checked) (s := OpenSpec.ofChange Rows.proveDepthsSpec) own started (by kernel_rfl) Tryz.func3
    (witness_row_at (enc := enc) (C := Tryz.checked) false (laidWorld os) wArgs (laidWorld_os os) (by kernel_rfl) (by kernel_rfl) (by kernel_rfl)
      (OpenSpec.preRow_of_cond 8 hx (by kernel_rfl) (fun k hk => by cases hk) (by kernel_rfl) (laid_met os))) ?_
  intro W base args ds gs before hval hW _ _ _ hL hS _
  exact contract H enc W base args ds gs before hval hW hL hS

theorem said : Rows.ProveDepthsSaid :=
  OpenClaim.holds_of_cond 3 Tryz.f3 rfl rfl rfl rfl rfl rfl rfl ⟨rfl, rfl, rfl, rfl, rfl⟩ rfl rfl rfl rfl rfl (by kernel_rfl) Tryz.func3 (by kernel_rfl)
    (of_decide_eq_true (by kernel_rfl)) (by unfold Func.isWrapper; first | (rw [if_pos (by decide +kernel)]; kernel_rfl) | (rw [if_neg (by decide +kernel)]; exact ⟨rfl, rfl⟩))
    (fun os started H enc _ F => by rw [OpenClaim.pre_eq_preRow]; exact lifted os started H enc F)

theorem plain (f : FuncId) (fn : Func) (hf : Tryz.pinned.checked.prog.funcNamed "mandate/mandatelaw15.ProveDepths" = some f) (hfn : Tryz.pinned.checked.prog.funcs[f]? = some fn) :
    true = Tryz.pinned.checked.prog.looks [] ∧ ∀ (j : Nat) t, fn.params[j]? = some t → Tryz.pinned.checked.prog.wantsStandIn t = false := by
  obtain rfl : f = 3 := Option.some.inj ((show Tryz.prog.funcNamed "mandate/mandatelaw15.ProveDepths" = some 3 by kernel_rfl).symm.trans hf) |>.symm
  obtain rfl : fn = Tryz.f3 := (Option.some.inj (Tryz.func3.symm.trans hfn)).symm
  refine ⟨by kernel_rfl, fun j t ht => ?_⟩
  rw [Tryz.params3] at ht
  have h : t = 22 := by simpa using Array.mem_of_getElem? ht
  subst h
  exact (show Tryz.prog.wantsStandIn 22 = false by kernel_rfl)

theorem card : Rows.ProveDepthsCardSaid :=
  Claim7.holds_tied_plain_at .later [] _ _ _ _ said (fun _ h => by cases h) (by kernel_rfl) (fun _ h => by cases h) proveDepths_row_tie rfl ⟨rfl, rfl⟩ (by kernel_rfl) rfl plain (by kernel_rfl)
#print axioms card
end Go.Proofs.YtkiboofldjnapaaGreatDoor
