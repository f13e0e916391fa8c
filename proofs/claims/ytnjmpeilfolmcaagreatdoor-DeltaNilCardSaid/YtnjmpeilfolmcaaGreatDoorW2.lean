/- PROVED: DeltaNilCardSaid: for every input mandatelaw14.DeltaNil returns true and each argument reads as before. CONDITIONS: the card's own (the listed package-level variables start as the program's text lays them; the tie is given). -/
import Derived.Test.YtnjmpeilfolmcaaGreatDoorW1
import Derived.Test.YtnjmpeilfolmcaaGreatDoorCards
import Derived.Test.YtnjmpeilfolmcaaGreatDoorTie
import Derived.ProofKit
import Derived.OpenShut
import Derived.Carry
import Derived.Lay
import Derived.LaidHandle
import Derived.Deep.Slices
import Derived.Deep.Fields
import Derived.Deep.SlicePairs
import Derived.ChangeSame
import Derived.Deep.DeepHandedRow
import Derived.Lib.LaidTab
import Derived.Lib.SmallJoins
import Derived.SevenTiedAt
set_option linter.unusedSimpArgs false
set_option linter.unusedVariables false

namespace Go.Proofs.YtnjmpeilfolmcaaGreatDoor
open Go Go.ChangeShapes Go.WideShapes Go.ChangeAt Go.RowKit Go.Deep

theorem own : ownKnob Tryz.prog.godebug = none := by kernel_rfl
theorem laidOut : laidOutB Tryz.prog = true := by kernel_rfl
theorem gTab : Tryz.prog.globalNamed "math/bits.deBruijn64tab" = some 2 := by kernel_rfl
theorem gTabType : (Tryz.prog.globals[2]?).map (·.type) = some 327 := by kernel_rfl
theorem u327 : Tryz.prog.underlying 327 = some (.array 64 5) := by kernel_rfl
theorem u5 : Tryz.prog.underlying 5 = some (.int .u8) := by kernel_rfl
theorem c327 : Tryz.prog.cellsOf 327 = 64 := by kernel_rfl
theorem c5 : Tryz.prog.cellsOf 5 = 1 := by kernel_rfl

def tabZ : List Int := [0, 1, 56, 2, 57, 49, 28, 3, 61, 58, 42, 50, 38, 29, 17, 4, 62, 47, 59, 36, 45, 43, 51, 22, 53, 39, 33, 30, 24, 18, 12, 5, 63, 55, 48, 27, 60, 41, 37, 16, 46, 35, 44, 21, 52, 32, 23, 11, 54, 26, 40, 15, 34, 20, 31, 10, 25, 14, 19, 9, 13, 8, 7, 6]

theorem laid_filter : (Rows.deltaNilRow.laid.filter fun x => x.2.handleName?.isNone) = [("math/bits.deBruijn64tab", Lib.tabData .u8 tabZ), ("unicode/utf8.acceptRanges", Rows.laid_unicode_utf8_acceptRanges), ("unicode/utf8.first", Rows.laid_unicode_utf8_first)] := by kernel_rfl

theorem laid_handles : (Rows.deltaNilRow.laid.filter fun x => x.2.handleName?.isSome) = [("errors.errorType", Rows.laid_errors_errorType)] := by kernel_rfl

theorem table {W : World} (h : laidMetH Tryz.prog Rows.deltaNilRow.laid W) : Lib.TabIs Tryz.prog W "math/bits.deBruijn64tab" .u8 tabZ := by
  unfold laidMetH at h
  rw [laid_handles, laid_filter] at h
  exact Lib.tabIs_of_head gTab gTabType u327 u5 c5 c327 h.1

theorem begin2 : (((begin Tryz.prog (fun _ _ => 0) default).world.heap[2]?).bind Obj.row?).map (·.2) = some 327 := by kernel_rfl
theorem begin4 : (((begin Tryz.prog (fun _ _ => 0) default).world.heap[4]?).bind Obj.row?).isSome = true := by kernel_rfl
theorem globals5 : Tryz.prog.globals.size = 5 := by kernel_rfl

theorem vars_ok {W : World} (hL : laidMetH Tryz.prog Rows.deltaNilRow.laid W) (hS : W.ShapedOpen Tryz.prog) : VarsOk W := by
  obtain ⟨h1, _⟩ := hS
  refine ⟨?_, ?_⟩
  · cases h : ((begin Tryz.prog (fun _ _ => 0) default).world.heap[4]?).bind Obj.row? with
    | none => have := begin4; rw [h] at this; cases this
    | some x =>
      obtain ⟨cs, hcs, _⟩ := h1 4 x.1 x.2 (by rw [globals5]; omega) h
      have := (Array.getElem?_eq_some_iff.1 hcs).1
      omega
  · cases h : ((begin Tryz.prog (fun _ _ => 0) default).world.heap[2]?).bind Obj.row? with
    | none => have := begin2; rw [h] at this; cases this
    | some x =>
      have e : x.2 = 327 := by have := begin2; rw [h] at this; simpa using this
      obtain ⟨cs, hcs, _⟩ := h1 2 x.1 x.2 (by rw [globals5]; omega) h
      rw [e] at hcs
      have ht : W.var? Tryz.prog "math/bits.deBruijn64tab" = some ((tabZ.map fun z => Value.int .u8 z).toArray) := table hL
      unfold World.var? at ht
      rw [gTab] at ht
      simp only [Option.bind_some, hcs, Option.some.injEq] at ht
      exact ⟨cs, hcs, by rw [ht]; rfl⟩

theorem c24 : Tryz.prog.cellsOf 24 = 2 := by kernel_rfl
theorem c55 : Tryz.prog.cellsOf 55 = 2 := by kernel_rfl
theorem c9 : Tryz.prog.cellsOf 9 = 1 := by kernel_rfl
theorem c2 : Tryz.prog.cellsOf 2 = 1 := by kernel_rfl
theorem u2 : Tryz.prog.underlying 2 = some (.int .i64) := by kernel_rfl

/-- An address by its parts. -/
theorem add_at {a : Addr} {w : World} {v : Value} {k : Nat} (h : w.cell? (a.add k) = some v) (hs : a.spot = none) : w.cell? ⟨a.block, a.off + k, none⟩ = some v := by
  unfold Addr.add at h
  obtain ⟨b, o, s⟩ := a
  simp only at hs
  subst hs
  split at h
  · rename_i h0; subst h0; exact h
  · exact h

set_option maxRecDepth 100000 in
/-- A tuple that came in. -/
theorem open_tup {H : Type} {enc : TypeId × Value → H} {W : World} {base b0 : Nat} {sp : Nat → Bool} {hd : Bool} {v : Value} {d : DataW H} {ps : List MemPlace} (hv : Value.okWide Tryz.prog W .any b0 24 v) (h : DataW.Trod enc Tryz.prog W base sp hd 24 v d ps) :
    ∃ (p : ByteArray) (y : Value), v = .agg #[.string p, y] ∧ TupV W v := by
  obtain ⟨v0, v1, y0, y1, n, rfl, _, _, h0, h1⟩ := Joins.open_agg2 Tryz.underlying24 (by kernel_rfl) c24 hv h
  obtain ⟨s, e, _, hs⟩ := DataW.trod_string Tryz.underlying9 h0
  obtain rfl : v0 = .string s := by simpa using e
  rcases open_slice_pairs Tryz.underlying22 Tryz.underlying55 c55 rfl rfl c9 c2 h1 with ⟨e, _⟩ | ⟨a, len, cap, m, n2, V0, V1, D0, D1, P0, P1, e, _, hl, hm, hmm, _, hi⟩
  · obtain rfl : v1 = .slice none 0 0 := by simpa using e
    exact ⟨s, _, rfl, .nil s none 0 hs⟩
  · obtain rfl : v1 = .slice (some a) len cap := by simpa using e
    refine ⟨s, _, rfl, ?_⟩
    have hlm : len ≤ m := by rw [hmm]; split <;> omega
    by_cases h0 : len = 0
    · subst h0; exact .nil s (some a) cap hs
    · have c0 := (hi 0 (by omega)).1
      have hadd : a.add (0 * 2) = a := by simp [Addr.add]
      rw [hadd] at c0
      have hsp : a.spot = none := by
        cases hq : a.spot with
        | none => rfl
        | some z =>
          unfold World.cell? at c0
          rw [hq] at c0
          split at c0 <;> simp at c0
      have hblk : a.block < W.heap.size := by
        unfold World.cell? at c0
        split at c0
        · rename_i hq; exact (Array.getElem?_eq_some_iff.1 hq).1
        · cases c0
      have hS : ∀ k, k < len → ∃ t : ByteArray, V0 k = .string t ∧ t.size ≤ maxLen := by
        intro k hk
        obtain ⟨t, e, _, ht⟩ := DataW.trod_string Tryz.underlying9 (hi k (by omega)).2.2.1
        exact ⟨t, by simpa using e, ht⟩
      have hN : ∀ k, k < len → ∃ z : Int, V1 k = .int .i64 z := by
        intro k hk
        obtain ⟨z, e, _⟩ := DataW.trod_int u2 (hi k (by omega)).2.2.2
        exact ⟨z, by simpa using e⟩
      obtain ⟨b, off, spt⟩ := a
      simp only at hsp hblk
      subst hsp
      refine .row s b off len cap (fun k => if h : k < len then (hS k h).choose else .empty) (fun k => if h : k < len then (hN k h).choose else 0) hs (by omega) hblk ?_ ?_ ?_
      · intro k hk
        simp only [dif_pos hk]
        exact (hS k hk).choose_spec.2
      · intro k hk
        simp only [dif_pos hk]
        rw [← (hS k hk).choose_spec.1]
        exact add_at (hi k (by omega)).1 rfl
      · intro k hk
        simp only [dif_pos hk]
        rw [← (hN k hk).choose_spec]
        have := add_at (hi k (by omega)).2.1 rfl
        simpa [Nat.add_assoc] using this
end Go.Proofs.YtnjmpeilfolmcaaGreatDoor

namespace Go.Proofs.YtnjmpeilfolmcaaGreatDoor
open Go Go.ChangeShapes Go.WideShapes Go.ChangeAt Go.RowKit Go.Deep

set_option maxRecDepth 100000 in
theorem contract (H : Type) (enc : TypeId × Value → H) (W : World) (base : Nat) (args : Array Value) (ds gs : List (DataW H)) (before : List MemPlace)
    (hval : ∀ (j : Nat) t v, Tryz.f3.params[j]? = some t → args[j]? = some v → Value.okWide Tryz.prog W .any base t v)
    (hW : DataW.Whole enc Tryz.prog Tryz.f3.params.toList Rows.deltaNilSpec.vars false W args.toList ds gs before) (hL : laidMetH Tryz.prog Rows.deltaNilRow.laid W) (hS : W.ShapedOpen Tryz.prog) :
    Calls Tryz.prog 3 args W fun e W' => ∃ v, e = .returned v ∧ Rows.deltaNilSpec.post enc Tryz.prog Tryz.f3 false true false false W args v W' := by
  have hW' := hW
  obtain ⟨pp, q, hA0, hV, rfl, hfz, hnd⟩ := hW
  have hA : DataW.TrodAll enc Tryz.prog W 0 (fun _ => true) true Tryz.f3.params.toList args.toList ds pp := hA0
  rw [Tryz.params3] at hA hval
  obtain ⟨v0, v1, d0, d1, p0, p1, rfl, rfl, rfl, h0, h1⟩ := trodAll_two hA
  obtain ⟨rfl, rfl⟩ := trodVars_none hV
  have h1k := h1
  obtain ⟨n, rfl, rfl, rfl, hwn⟩ := open_int Tryz.underlying3 (hval 0 3 v0 rfl rfl) h0
  obtain ⟨p, y, rfl, hT⟩ := open_tup (hval 1 24 v1 rfl rfl) h1
  clear hA0
  have hlt : ∀ x ∈ p1, x.block < W.heap.size := fun x hx => hW'.lt x (by simp [hx])
  refine (law_any n p y W hT (vars_ok hL hS)).mono fun e W' ⟨he, hb⟩ => ?_
  subst he
  have e1 : Rows.deltaNilSpec.fn H ([.lit (.int .i64 n), d1] ++ []) = { results := [.lit (.bool true)], args := [.lit (.int .i64 n), d1] } := by simp [Rows.deltaNilSpec]
  refine ⟨_, rfl, _, _, _, [], [] ++ p1, [], hW', ?_, ?_, ?_, ?_, fun h => by cases h⟩
  · rw [e1]; exact trodAll_mk1 (shut_bool Tryz.underlying4 true)
  · rw [e1]; exact trodAll_mk2 (shut_int Tryz.underlying3 hwn) (Below.trod laidOut (by kernel_rfl) (of_decide_eq_true (by kernel_rfl)) h1k hb hlt)
  · rw [e1]; rfl
  · exact hb.frame _

/-- What is laid into the world of the witness. -/
def laidData : List (String × DataW Unit) := [("math/bits.deBruijn64tab", Lib.tabData .u8 tabZ), ("unicode/utf8.acceptRanges", Rows.laid_unicode_utf8_acceptRanges), ("unicode/utf8.first", Rows.laid_unicode_utf8_first)]
/-- The settled world, with the handle of the type 'error' in its variable. -/
noncomputable def handWorld (os : Os) : World :=
  { World.holding Tryz.prog os ⟨#[], #[], []⟩ with heap := (World.holding Tryz.prog os ⟨#[], #[], []⟩).heap.modify 0 fun
      | .cells _ t frozen => .cells #[.iface 330 (.agg #[.pointer (some ⟨5, 186, none⟩)])] t frozen
      | o => o }
noncomputable def laidWorld (os : Os) : World := (handWorld os).layVars Tryz.prog laidData
theorem laidWorld_os (os : Os) : (laidWorld os).os = os := (World.layVars_os _ _ _).trans rfl
def wArgs : Array Value := #[.int .i64 0, .agg #[.string .empty, .slice none 0 0]]
set_option maxRecDepth 100000 in
theorem laid_met (os : Os) : laidMetH Tryz.prog Rows.deltaNilRow.laid ((laidWorld os).forCall (fun _ _ => 0) ⟨#[], wArgs, []⟩).memory := by
  refine laidMetH_of_parts ?_ ?_
  · rw [laid_filter]
    refine laidMet.of_heap (w := laidWorld os) (by simp [World.memory, World.forCall, Input.heap]) ?_
    have e1 : (laidData.filter fun x => (laidData.map (·.1)).contains x.1) = laidData := List.filter_eq_self.2 fun x hx => List.contains_iff_mem.2 (List.mem_map.2 ⟨x, hx, rfl⟩)
    have e2 : (laidData.filter fun x => !(laidData.map (·.1)).contains x.1) = [] := List.filter_eq_nil_iff.2 fun x hx => by rw [List.contains_iff_mem.2 (List.mem_map.2 ⟨x, hx, rfl⟩)]; simp
    exact laidMet_layVars (w0 := handWorld os) (laid := laidData) (laidData.map (·.1)) [] (by rw [e1]; rfl) (by rw [e1]; kernel_rfl) (by rw [e1]; kernel_rfl) (by rw [e2]; exact LaidIn.none)
  · rw [laid_handles]
    kernel_rfl
end Go.Proofs.YtnjmpeilfolmcaaGreatDoor

namespace Go.Proofs.YtnjmpeilfolmcaaGreatDoor
open Go Go.ChangeShapes Go.WideShapes Go.ChangeAt Go.RowKit Go.Deep

theorem reads (os : Os) {H : Type} (enc : TypeId × Value → H) : ∃ places, DataW.whole enc Tryz.prog ((laidWorld os).forCall (fun _ _ => 0) ⟨#[], wArgs, []⟩).memory Tryz.f3.params.toList Rows.deltaNilSpec.vars false wArgs.toList 8 = some ([.lit (.int .i64 0), .agg [.lit (.string []), .nil]], [], places) :=
  ⟨[], by kernel_rfl⟩

set_option maxRecDepth 100000 in
theorem lifted (os : Os) (started : os.Started) (H : Type) (enc : TypeId × Value → H) (F : Stop.Interp) :
    ReturnsInHanded {} Tryz.checked os 3 .any ((OpenSpec.ofChange Rows.deltaNilSpec).preRow enc Tryz.prog Tryz.f3 Rows.deltaNilRow.domain false Rows.deltaNilRow.laid) (((OpenSpec.ofChange Rows.deltaNilSpec).at F).post enc Tryz.prog Tryz.f3 false true false false) := by
  obtain ⟨places, hx⟩ := reads os enc
  refine returnsInHanded_of_row (C := Tryz.checked) (s := OpenSpec.ofChange Rows.deltaNilSpec) own started (by kernel_rfl) Tryz.func3
    (witness_row_at (enc := enc) (C := Tryz.checked) false (laidWorld os) wArgs (laidWorld_os os) (by kernel_rfl) (by kernel_rfl) (by kernel_rfl)
      (OpenSpec.preRow_of_cond 8 hx (by kernel_rfl) (fun k hk => by cases hk) (by kernel_rfl) (laid_met os))) ?_
  intro W base args ds gs before hval hW _ _ _ hL hS _
  exact contract H enc W base args ds gs before hval hW hL hS

theorem said : Rows.DeltaNilSaid :=
  OpenClaim.holds_of_cond 3 Tryz.f3 rfl rfl rfl rfl rfl rfl rfl ⟨rfl, rfl, rfl, rfl, rfl⟩ rfl rfl rfl rfl rfl (by kernel_rfl) Tryz.func3 (by kernel_rfl)
    (of_decide_eq_true (by kernel_rfl)) (by unfold Func.isWrapper; first | (rw [if_pos (by decide +kernel)]; kernel_rfl) | (rw [if_neg (by decide +kernel)]; exact ⟨rfl, rfl⟩))
    (fun os started H enc _ F => by rw [OpenClaim.pre_eq_preRow]; exact lifted os started H enc F)

theorem plain (f : FuncId) (fn : Func) (hf : Tryz.pinned.checked.prog.funcNamed "mandate/mandatelaw14.DeltaNil" = some f) (hfn : Tryz.pinned.checked.prog.funcs[f]? = some fn) :
    true = Tryz.pinned.checked.prog.looks [] ∧ ∀ (j : Nat) t, fn.params[j]? = some t → Tryz.pinned.checked.prog.wantsStandIn t = false := by
  obtain rfl : f = 3 := Option.some.inj ((show Tryz.prog.funcNamed "mandate/mandatelaw14.DeltaNil" = some 3 by kernel_rfl).symm.trans hf) |>.symm
  obtain rfl : fn = Tryz.f3 := (Option.some.inj (Tryz.func3.symm.trans hfn)).symm
  refine ⟨by kernel_rfl, fun j t ht => ?_⟩
  rw [Tryz.params3] at ht
  have h : t = 3 ∨ t = 24 := by simpa using Array.mem_of_getElem? ht
  rcases h with rfl | rfl
  · exact (show Tryz.prog.wantsStandIn 3 = false by kernel_rfl)
  · exact (show Tryz.prog.wantsStandIn 24 = false by kernel_rfl)

theorem card : Rows.DeltaNilCardSaid :=
  Claim7.holds_tied_plain_at .later [] _ _ _ _ said (fun _ h => by cases h) (by kernel_rfl) (fun _ h => by cases h) deltaNil_row_tie rfl ⟨rfl, rfl⟩ (by kernel_rfl) rfl plain (by kernel_rfl)
#print axioms card
end Go.Proofs.YtnjmpeilfolmcaaGreatDoor
