/- NaiveFinds, part 3: the fixed run for every world that holds the program's table of bits; the law's own walk for lists of at most 200. -/
import Derived.Test.YtfaodjjgnajodaaGreatDoorW2
import Derived.Test.YtfaodjjgnajodaaGreatDoorVz
set_option linter.unusedSimpArgs false
set_option linter.unusedVariables false

namespace Go.Proofs.YtfaodjjgnajodaaGreatDoor
open Go Go.Abs Go.RowKit
/-- What the fixed run asks of the world: the program's variables are there; the table of bits holds its numbers. -/
def VarsOk (w : World) : Prop := 5 ≤ w.heap.size ∧ ∃ cs : Array Value, w.heap[2]? = some (.cells cs 292 (0, 0)) ∧ cs.toList = [.int .u8 (.ofNat 0), .int .u8 (.ofNat 1), .int .u8 (.ofNat 56), .int .u8 (.ofNat 2), .int .u8 (.ofNat 57), .int .u8 (.ofNat 49), .int .u8 (.ofNat 28), .int .u8 (.ofNat 3), .int .u8 (.ofNat 61), .int .u8 (.ofNat 58), .int .u8 (.ofNat 42), .int .u8 (.ofNat 50), .int .u8 (.ofNat 38), .int .u8 (.ofNat 29), .int .u8 (.ofNat 17), .int .u8 (.ofNat 4), .int .u8 (.ofNat 62), .int .u8 (.ofNat 47), .int .u8 (.ofNat 59), .int .u8 (.ofNat 36), .int .u8 (.ofNat 45), .int .u8 (.ofNat 43), .int .u8 (.ofNat 51), .int .u8 (.ofNat 22), .int .u8 (.ofNat 53), .int .u8 (.ofNat 39), .int .u8 (.ofNat 33), .int .u8 (.ofNat 30), .int .u8 (.ofNat 24), .int .u8 (.ofNat 18), .int .u8 (.ofNat 12), .int .u8 (.ofNat 5), .int .u8 (.ofNat 63), .int .u8 (.ofNat 55), .int .u8 (.ofNat 48), .int .u8 (.ofNat 27), .int .u8 (.ofNat 60), .int .u8 (.ofNat 41), .int .u8 (.ofNat 37), .int .u8 (.ofNat 16), .int .u8 (.ofNat 46), .int .u8 (.ofNat 35), .int .u8 (.ofNat 44), .int .u8 (.ofNat 21), .int .u8 (.ofNat 52), .int .u8 (.ofNat 32), .int .u8 (.ofNat 23), .int .u8 (.ofNat 11), .int .u8 (.ofNat 54), .int .u8 (.ofNat 26), .int .u8 (.ofNat 40), .int .u8 (.ofNat 15), .int .u8 (.ofNat 34), .int .u8 (.ofNat 20), .int .u8 (.ofNat 31), .int .u8 (.ofNat 10), .int .u8 (.ofNat 25), .int .u8 (.ofNat 14), .int .u8 (.ofNat 19), .int .u8 (.ofNat 9), .int .u8 (.ofNat 13), .int .u8 (.ofNat 8), .int .u8 (.ofNat 7), .int .u8 (.ofNat 6)]

theorem VarsOk.later {w w' : World} (h : VarsOk w) (hb : Below w.heap.size w w') : VarsOk w' := by
  obtain ⟨h1, cs, h2, h3⟩ := h
  exact ⟨Nat.le_trans h1 hb.size, cs, (hb.block 2 (by omega)).trans h2, h3⟩

theorem fixed_any {w : World} (h : VarsOk w) : Calls Tryz.prog 4 #[] w fun e w' => e = .returned (.bool true) ∧ Below w.heap.size w w' := by
  obtain ⟨h1, cs, h2, h3⟩ := h
  have hlen : cs.size = 64 := by
    have := congrArg List.length h3
    simpa using this
  let m0 : M := fun b => if b < 5 then some ⟨b, 0, 64, 64, 64⟩ else none
  have hm0 : ∀ b L, m0 b = some L → b < 5 ∧ L = ⟨b, 0, 64, 64, 64⟩ := by
    intro b L hm
    simp only [m0] at hm
    split at hm
    · cases hm; exact ⟨by assumption, rfl⟩
    · cases hm
  have hget : ∀ b x, b < 5 → H0.get b = some x → b = 2 ∧ ∃ l, x = .row l 292 false ∧ hl0 = [(2, .row l 292 false)] := by
    intro b x hb hx
    have := hOf_get (l := hl0) (fun y hy => by
      simp only [hl0, List.mem_singleton] at hy
      subst hy; show 2 < 2 ^ 40; omega) b x (by omega) hx
    simp only [hl0, List.mem_singleton, Prod.mk.injEq] at this
    obtain ⟨e1, e2⟩ := this
    exact ⟨e1, _, e2, rfl⟩
  have rel : Rel Tryz.prog ENV m0 H0 w := by
    refine ⟨?_, ?_, ?_, ?_, ?_, ?_⟩
    · intro b L x hm hx
      obtain ⟨hb, rfl⟩ := hm0 b L hm
      obtain ⟨rfl, l, rfl, hl⟩ := hget b x hb hx
      have hl : l = cs.toList := by
        rw [h3]
        simp only [hl0, List.cons.injEq, Prod.mk.injEq, AObj.row.injEq] at hl
        exact hl.1.2.1.symm
      subst hl
      refine ⟨cs, (0, 0), h2, hlen, by kernel_rfl, by simpa using hlen, by simp, ?_, fun h => by cases h⟩
      simp only [List.drop_zero]
      rw [List.take_of_length_le (by simp [hlen])]
      exact noAddrs_refl _ _ (by rw [h3]; rfl)
    · intro b L hm
      obtain ⟨hb, rfl⟩ := hm0 b L hm
      exact ⟨by show b < w.heap.size; omega, hb⟩
    · intro b b' L L' x x' hm hm' hx hx' hmut _
      obtain ⟨hb, rfl⟩ := hm0 b L hm
      obtain ⟨rfl, l, rfl, _⟩ := hget b x hb hx
      cases hmut
    · show 5 < 2 ^ 40; omega
    · intro g hg
      refine ⟨⟨g, 0, 64, 64, 64⟩, ?_, rfl, rfl⟩
      have hg : g < 5 := hg
      simp only [m0]
      rw [if_pos hg]
    · intro b L hm
      obtain ⟨hb, rfl⟩ := hm0 b L hm
      rfl
  refine (run_calls mixed cx4 fixed_run .nil rel (run_callFunc (c := (Tryz.f4.body).getD .skip) Tryz.func4 (by kernel_rfl) (by kernel_rfl) _)).mono ?_
  rintro e w' ⟨r, h', m', k1, k2, k3, k4⟩
  cases k2 with
  | panic v v' hv => cases k1
  | ret v v' hv =>
    have hv1 : v = .bool true := by
      cases v <;> first | (cases k1; done) | skip
      rename_i b
      have : b = true := k1
      rw [this]
    subst hv1
    cases hv
    refine ⟨rfl, k4.os, k4.tape, k4.output, k4.size, fun B hB => k4.keep B hB ?_⟩
    intro b L x hm hx hmut
    obtain ⟨hb, rfl⟩ := hm0 b L hm
    obtain ⟨rfl, l, rfl, _⟩ := hget b x hb hx
    cases hmut
end Go.Proofs.YtfaodjjgnajodaaGreatDoor

namespace Go.Proofs.YtfaodjjgnajodaaGreatDoor
open Go Go.Abs Go.RowKit Go.Sort

theorem slice_one (b off n c k : Nat) (w : World) (hkc : ¬ c = k) (s2 : (k : Int) + 1 ≤ (c : Int)) : (Instr.sliceAt 22 (.slice (some ⟨b, off, none⟩) n c) (some (.int .i64 k)) (some (.int .i64 (k + 1))) none).run Tryz.prog w = Result.ok (.slice (some ⟨b, off + k * 4, none⟩) 1 (c - k)) w := by
  have s0 : (0 : Int) ≤ k := by omega
  have s1 : (k : Int) ≤ (k : Int) + 1 := by omega
  have h1 := Tryz.underlying22
  have h2 : Tryz.prog.cellsOf 28 = 4 := by kernel_rfl
  go_simp

set_option maxRecDepth 100000 in
set_option maxHeartbeats 8000000 in
theorem law_tail {w : World} (t : TD) (tv : Value) (a : Option Addr) (n c : Nat) (ds : Nat → TD) (V : Nat → Value) (st ro : Nat → Int) (hn : n ≤ 200) (hc : n ≤ c) (hL : Hid (LAt w a n ds V st ro)) (hok : Hid (∀ k, k < n → (ds k).ok)) (ht : t.ok) (hT : ArgsAt w t tv) (h : VarsOk w) :
    Calls Tryz.prog 3 #[.slice a n c, .agg #[.string t.p, tv]] w fun e w' => e = .returned (.bool true) ∧ RowKit.Below w.heap.size w w' := by
  have hB0 : RowKit.Below w.heap.size w (w.alloc (.cells #[.string t.p, tv] 25)) := (Below.refl _ _).alloc (Nat.le_refl _) _
  have h0 := h.later hB0
  have z0 : w.heap.size < (w.alloc (.cells #[.string t.p, tv] 25)).heap.size := by simp
  have ha : (w.alloc (.cells #[.string t.p, tv] 25)).cell? ⟨w.heap.size, 0, none⟩ = some (.string t.p) := by simp [go_sem]
  have hb : (w.alloc (.cells #[.string t.p, tv] 25)).cell? ⟨w.heap.size, 1, none⟩ = some tv := by simp [go_sem]
  have hle : ¬ (200 : Int) < n := by omega
  clear h
  generalize hw0 : w.alloc (.cells #[.string t.p, tv] 25) = w0 at *
  go_enter Tryz.func3, Tryz.ntmps3
  go_wp2_with fail
  clear hw0
  refine (fixed_any h0).mono ?_
  rintro e w1 ⟨rfl, b1⟩
  have ha1 := (b1.cell (p := ⟨w.heap.size, 0, none⟩) z0).trans ha
  have hb1 := (b1.cell (p := ⟨w.heap.size, 1, none⟩) z0).trans hb
  have z1 := Nat.lt_of_lt_of_le z0 b1.size
  have B1 := hB0.trans (b1.mono hB0.size)
  clear ha hb hB0 b1 z0 h0
  go_wp2_with fail
  refine (find t tv a n c ds V st ro w1 hn ⟨hL.un.later B1 rfl⟩ (hT.later B1 rfl)).mono ?_
  rintro e w2 ⟨⟨r, rfl, hr⟩, b2⟩
  have ha2 := (b2.cell (p := ⟨w.heap.size, 0, none⟩) z1).trans ha1
  have hb2 := (b2.cell (p := ⟨w.heap.size, 1, none⟩) z1).trans hb1
  have z2 := Nat.lt_of_lt_of_le z1 b2.size
  have B2 := B1.trans (b2.mono B1.size)
  clear ha1 hb1 b2
  rcases hr with ⟨rfl, hidx⟩ | ⟨k, v', hk, rfl, hv', hidx⟩
  · have hidx := Hid.mk hidx
    have hB3 : RowKit.Below w2.heap.size w2 (w2.alloc (.cells #[.string ⟨#[]⟩, .slice none 0 0, .int .i64 0, .int .i64 0] 28)) := (Below.refl _ _).alloc (Nat.le_refl _) _
    have ha3 := (hB3.cell (p := ⟨w.heap.size, 0, none⟩) z2).trans ha2
    have hb3 := (hB3.cell (p := ⟨w.heap.size, 1, none⟩) z2).trans hb2
    have hnew := Four.new w2 (.string ⟨#[]⟩) (.slice none 0 0) (.int .i64 0) (.int .i64 0) 28
    have B3 := B2.trans (hB3.mono B2.size)
    go_wp2_with fail
    clear hb2 ha2
    generalize hw3 : w2.alloc (.cells #[.string ⟨#[]⟩, .slice none 0 0, .int .i64 0, .int .i64 0] 28) = w3 at *
    clear hw3
    refine (rin t tv a n c ds V st ro w3 hn ⟨hL.un.later B3 rfl⟩ ht (hT.later B3 rfl)).mono ?_
    rintro e w4 ⟨⟨z, rfl, hz⟩, b4⟩
    obtain rfl : z = -1 := hz.uniq hidx.un
    clear hz
    have hn4 := hnew.later b4 rfl
    have B4 := B3.trans (b4.mono B3.size)
    obtain ⟨d0, d1, d2, d3, _, _, _, _, _⟩ := hn4
    clear hidx hnew b4 ha3 hb3 hB3
    go_wp2_with fail
    go_quiet (fail)
    have B5 : RowKit.Below w.heap.size w (w4.drewN nq) := ⟨B4.os, B4.tape, B4.output, B4.size, B4.block⟩
    go_wp2_with fail
    refine (tuples a n c ds V st ro _ hn ⟨hL.un.later B5 rfl⟩).mono ?_
    rintro e w6 ⟨⟨vt, rfl, hT6⟩, b6⟩
    have B6 := B5.trans (b6.mono B5.size)
    clear b6
    go_wp2_with fail
    refine (rtuples a n c ds V st ro w6 hn ⟨hL.un.later B6 rfl⟩).mono ?_
    rintro e w7 ⟨⟨vr, rfl, hR7⟩, b7⟩
    have B7 := B6.trans (b7.mono B6.size)
    go_wp2_with fail
    refine (sameAll n ds hok vt vr w7 hn ⟨hT6.later b7 rfl⟩ ⟨hR7⟩).mono ?_
    rintro e w8 ⟨rfl, b8⟩
    have B8 := B7.trans (b8.mono B7.size)
    clear b7 b8
    go_wp2_with fail
    go_ret
    exact ⟨rfl, B8⟩
  · have hidx := Hid.mk hidx
    have hv'' := Hid.mk hv'
    obtain ⟨a2, c2, rfl, _⟩ := hv'.form
    clear hv'
    have hB3 : RowKit.Below w2.heap.size w2 (w2.alloc (.cells #[.string (ds k).p, .slice a2 (ds k).n c2, .int .i64 (st k), .int .i64 (ro k)] 28)) := (Below.refl _ _).alloc (Nat.le_refl _) _
    have ha3 := (hB3.cell (p := ⟨w.heap.size, 0, none⟩) z2).trans ha2
    have hb3 := (hB3.cell (p := ⟨w.heap.size, 1, none⟩) z2).trans hb2
    have hnew := Four.new w2 (.string (ds k).p) (.slice a2 (ds k).n c2) (.int .i64 (st k)) (.int .i64 (ro k)) 28
    have B3 := B2.trans (hB3.mono B2.size)
    have hv3 := hv''.un.later hB3 rfl
    go_wp2_with fail
    clear hb2 ha2
    generalize hw3 : w2.alloc (.cells #[.string (ds k).p, .slice a2 (ds k).n c2, .int .i64 (st k), .int .i64 (ro k)] 28) = w3 at *
    clear hw3
    refine (rin t tv a n c ds V st ro w3 hn ⟨hL.un.later B3 rfl⟩ ht (hT.later B3 rfl)).mono ?_
    rintro e w4 ⟨⟨z, rfl, hz⟩, b4⟩
    obtain rfl : z = k := hz.uniq hidx.un
    clear hz
    have hn4 := hnew.later b4 rfl
    have hv4 := hv3.later b4 rfl
    have B4 := B3.trans (b4.mono B3.size)
    obtain ⟨d0, d1, d2, d3, _, _, _, _, hlt5⟩ := hn4
    clear hidx hnew b4 ha3 hb3 hB3 hv3 hv''
    have hk0 : (0 : Int) ≤ k := by omega
    obtain ⟨b, off, rfl, hr⟩ := hL.un (by omega)
    have hr4 := Hid.mk (hr.later B4 rfl)
    clear hr
    go_wp2_with fail
    have BB : ∀ o, RowKit.Below w4.heap.size w4 ((w4.alloc o).drew) := fun o => ((Below.refl _ w4).alloc (Nat.le_refl _) o).drew
    have hokk := hok.un k hk
    have hkc : ¬ c = k := by omega
    have s1 : (k : Int) ≤ (k : Int) + 1 := by omega
    have s2 : (k : Int) + 1 ≤ (c : Int) := by omega
    have hwr : IntKind.i64.wrap ((k : Int) + 1) = (k : Int) + 1 := by
      have hk200 : k < 200 := by omega
      simp [IntKind.wrap, IntKind.bits, IntKind.signed]
      omega
    have hsl := fun w => slice_one b off n c k w hkc s2
    go_region_held (fun w' => w'.cell? ⟨w2.heap.size, 0, none⟩ = some (.string (ds k).p) ∧ w'.cell? ⟨w2.heap.size, 1, none⟩ = some (.slice a2 (ds k).n c2) ∧ w'.cell? ⟨w2.heap.size, 2, none⟩ = some (.int .i64 (st k)) ∧ w'.cell? ⟨w2.heap.size, 3, none⟩ = some (.int .i64 (ro k)))
      (first
        | exact ⟨d0, d1, d2, d3⟩
        | exact ⟨((BB _).cell (p := ⟨w2.heap.size, 0, none⟩) hlt5).trans d0, ((BB _).cell (p := ⟨w2.heap.size, 1, none⟩) hlt5).trans d1, ((BB _).cell (p := ⟨w2.heap.size, 2, none⟩) hlt5).trans d2, ((BB _).cell (p := ⟨w2.heap.size, 3, none⟩) hlt5).trans d3⟩
        | exact ⟨(Bz.cell (p := ⟨w2.heap.size, 0, none⟩) hlt5).trans d0, (Bz.cell (p := ⟨w2.heap.size, 1, none⟩) hlt5).trans d1, (Bz.cell (p := ⟨w2.heap.size, 2, none⟩) hlt5).trans d2, (Bz.cell (p := ⟨w2.heap.size, 3, none⟩) hlt5).trans d3⟩)
      ((go_at_call 7; refine (same1 (ds k) (ds k) (.slice a2 (ds k).n c2) (V k) (st k) (ro k) _ _ _ _ _ _ _ hokk hokk ⟨TD.same_refl _⟩ ?_ ?_ ?_ ?_ ?_ ?_ ?_ ?_ ?_ ?_).mono ?_; exact hv4.later (BB _) rfl; exact (hr4.un.args k hk).later (BB _) rfl; simp [go_sem]; simp [go_sem]; simp [go_sem]; simp [go_sem]; exact ((BB _).cell (p := ⟨b, _, none⟩) hr4.un.hb).trans (hr4.un.c0 k hk); exact ((BB _).cell (p := ⟨b, _, none⟩) hr4.un.hb).trans (hr4.un.c1 k hk); exact ((BB _).cell (p := ⟨b, _, none⟩) hr4.un.hb).trans (hr4.un.c2 k hk); exact ((BB _).cell (p := ⟨b, _, none⟩) hr4.un.hb).trans (hr4.un.c3 k hk); rintro e w5 ⟨rfl, b5⟩; have Bz := (BB _).trans (b5.mono (BB _).size)))
    have B5 := B4.trans (Bz.mono B4.size)
    clear Bz b5 hsl hwr BB hr4 hv4 d0 d1 d2 d3
    go_wp2_with fail
    refine (tuples (some ⟨b, off, none⟩) n c ds V st ro _ hn ⟨hL.un.later B5 rfl⟩).mono ?_
    rintro e w6 ⟨⟨vt, rfl, hT6⟩, b6⟩
    have B6 := B5.trans (b6.mono B5.size)
    clear b6
    go_wp2_with fail
    refine (rtuples (some ⟨b, off, none⟩) n c ds V st ro w6 hn ⟨hL.un.later B6 rfl⟩).mono ?_
    rintro e w7 ⟨⟨vr, rfl, hR7⟩, b7⟩
    have B7 := B6.trans (b7.mono B6.size)
    go_wp2_with fail
    refine (sameAll n ds hok vt vr w7 hn ⟨hT6.later b7 rfl⟩ ⟨hR7⟩).mono ?_
    rintro e w8 ⟨rfl, b8⟩
    have B8 := B7.trans (b8.mono B7.size)
    clear b7 b8
    go_wp2_with fail
    go_ret
    exact ⟨rfl, B8⟩
end Go.Proofs.YtfaodjjgnajodaaGreatDoor
