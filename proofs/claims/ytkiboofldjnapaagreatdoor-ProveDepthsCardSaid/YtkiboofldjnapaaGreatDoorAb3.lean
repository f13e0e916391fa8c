/- THE INTERPRETER IS SOUND, part 2: every operation without a call. -/
import Derived.Test.YtkiboofldjnapaaGreatDoorAb2
import Derived.Laws.Append
set_option linter.unusedSimpArgs false
set_option linter.unusedVariables false

/- Slice expressions; pointers seen as others; lengths; bytes. -/
namespace Go.Abs
variable {P : Program} {E : Env}
section
variable {nt : Nat} {m : M} {st : St} {a : Act} {w : World} {κ : KO}

theorem of_bndK {v : Option Value} {d n : Nat} {κ : Nat → Bool} (h : bndK v d n κ = true) : (v = none ∧ κ d = true) ∨ ∃ k i, v = some (.int k (.ofNat i)) ∧ i ≤ n ∧ κ i = true := by
  cases v with
  | none => exact .inl ⟨rfl, h⟩
  | some v =>
    obtain ⟨k, i, h1, h2, h3⟩ := of_idxK (show idxK v (Nat.succ n) κ = true from h)
    exact .inr ⟨k, i, by rw [h1], by omega, h3⟩

theorem opdo_none {x : Option Operand} {y : Option Opd} (h : opdo E nt x = some y) {tm : T Value} (hn : y.map (ev tm) = none) : x = none := by
  cases x with
  | none => rfl
  | some x =>
    simp only [opdo] at h
    split at h
    · simp only [Option.some.injEq] at h; subst h; simp at hn
    · cases h

theorem opdo_int {x : Option Operand} {y : Option Opd} (h : opdo E nt x = some y) {tm : T Value} {a : Act} (ht : TR m nt tm a.tmps) (hg : GR E m) {k : IntKind} {i : Nat}
    (hn : y.map (ev tm) = some (.int k (.ofNat i))) : x.map a.eval = some (.int k (.ofNat i)) := by
  cases x with
  | none => simp only [opdo, Option.some.injEq] at h; subst h; simp at hn
  | some x =>
    simp only [opdo] at h
    split at h
    · rename_i z hz
      simp only [Option.some.injEq] at h; subst h
      simp only [Option.map_some, Option.some.injEq] at hn
      have := opd_rel ht hg hz
      rw [hn] at this
      simp [int_of this]
    · cases h

theorem run_sliceBound {k : IntKind} {j y : Nat} (h : j ≤ y) (c : BoundsCode) : (Instr.sliceBound (.int k (j : Int)) y c).run P w = .ok j w := by
  have h0 : (0 : Int) ≤ (j : Int) ∧ (j : Int) ≤ (y : Int) := ⟨Int.natCast_nonneg j, by omega⟩
  simp only [Instr.sliceBound, asIntOf, pure_bind, h0, and_self, if_true]; rfl

theorem mul_split {l c : Nat} (s : Nat) (h : l ≤ c) : l * s + (c - l) * s = c * s := by rw [← Nat.add_mul]; congr 1; omega

theorem run_bounds (isS : Bool) (len cap : Nat) {lo hi mx : Option Value} {l h mm : Nat} (hm : (mx = none ∧ mm = cap) ∨ ∃ k, mx = some (.int k (.ofNat mm)) ∧ mm ≤ cap)
    (hh : (hi = none ∧ mx = none ∧ h = len) ∨ ∃ k, hi = some (.int k (.ofNat h)) ∧ h ≤ mm) (hl : (lo = none ∧ l = 0) ∨ ∃ k, lo = some (.int k (.ofNat l)) ∧ l ≤ h) :
    (Instr.sliceBounds isS len cap lo hi mx).run P w = .ok (l, h, mm) w := by
  unfold Instr.sliceBounds
  rcases hm with ⟨rfl, rfl⟩ | ⟨k1, rfl, g1⟩
  · rcases hh with ⟨rfl, _, rfl⟩ | ⟨k2, rfl, g2⟩
    · rcases hl with ⟨rfl, rfl⟩ | ⟨k3, rfl, g3⟩
      · simp
      · simp [run_sliceBound g3]
    · rcases hl with ⟨rfl, rfl⟩ | ⟨k3, rfl, g3⟩
      · simp [run_sliceBound g2]
      · simp [run_sliceBound g2, run_sliceBound g3]
  · rcases hh with ⟨_, h2, _⟩ | ⟨k2, rfl, g2⟩
    · cases h2
    · rcases hl with ⟨rfl, rfl⟩ | ⟨k3, rfl, g3⟩
      · simp [run_sliceBound g1, run_sliceBound g2]
      · simp [run_sliceBound g1, run_sliceBound g2, run_sliceBound g3]

theorem d_slStr (sr : SR P E nt m st a w) (T : TyOk P E.ty) {t : Nat} {z : List Value} {s b : Nat} (ht : E.ty t = some ⟨.string, z, s, b⟩) {x : Operand} {lo hi : Option Operand} {x' : Opd} {lo' hi' : Option Opd}
    (hx : opd E nt x = some x') (hlo : opdo E nt lo = some lo') (hhi : opdo E nt hi = some hi') {C : Ctx} {ex : Ex} (hr : opRun (.slStr x' lo' hi') C ex st κ = true) :
    Did P E m st w (do pure (.value (← Instr.sliceAt t (a.eval x) (lo.map a.eval) (hi.map a.eval) none))) κ := by
  simp only [opRun, fSl, evK_eq, evoK_eq, kSlStr] at hr
  have rx := sr.op hx
  split at hr
  · rename_i q e1
    have hx' := noAddr_eq rx (by rw [e1]; rfl)
    rw [e1] at hx'
    have fin : ∀ l h, l ≤ h → h ≤ q.size → ((hi.map a.eval = none ∧ h = q.size) ∨ ∃ k, hi.map a.eval = some (.int k (.ofNat h)) ∧ h ≤ q.size) →
        ((lo.map a.eval = none ∧ l = 0) ∨ ∃ k, lo.map a.eval = some (.int k (.ofNat l)) ∧ l ≤ h) → vK st κ (.string ⟨⟨(q.data.toList.drop l).take (Nat.sub h l)⟩⟩) = true →
        Did P E m st w (do pure (.value (← Instr.sliceAt t (a.eval x) (lo.map a.eval) (hi.map a.eval) none))) κ := by
      intro l h h1 h2 c1 c2 hk
      refine did_val (v' := .string (q.extract l h)) hk ?_ ?_ sr.rel
      · rw [← hx']
        have hb : (Instr.sliceBounds false q.size q.size (lo.map a.eval) (hi.map a.eval) none).run P w = .ok (l, h, q.size) w := by
          refine run_bounds false q.size q.size (.inl ⟨rfl, rfl⟩) ?_ c2
          rcases c1 with ⟨c1, c1'⟩ | c1
          · exact .inl ⟨c1, rfl, c1'⟩
          · exact .inr c1
        simp only [Instr.sliceAt, Sem.run_bind, und T ht, Result.andThen_ok, Instr.slice, Option.isSome_none, Bool.false_eq_true, if_false, pure_bind, hb]
        rfl
      · have : q.extract l h = ⟨⟨(q.data.toList.drop l).take (Nat.sub h l)⟩⟩ := by
          apply ByteArray.ext
          apply Array.ext'
          simp [ByteArray.data_extract]
        rw [this]; exact .string _
    rcases of_bndK hr with ⟨e2, hr⟩ | ⟨k2, h, e2, hh, hr⟩
    · have n2 := opdo_none hhi e2
      rcases of_bndK hr with ⟨e3, hr⟩ | ⟨k3, l, e3, hl, hr⟩
      · have n3 := opdo_none hlo e3
        exact fin 0 q.size (Nat.zero_le _) (Nat.le_refl _) (.inl ⟨by rw [n2]; rfl, rfl⟩) (.inl ⟨by rw [n3]; rfl, rfl⟩) hr
      · have n3 := opdo_int hlo sr.tm sr.rel.gl e3
        exact fin l q.size hl (Nat.le_refl _) (.inl ⟨by rw [n2]; rfl, rfl⟩) (.inr ⟨k3, n3, hl⟩) hr
    · have n2 := opdo_int hhi sr.tm sr.rel.gl e2
      rcases of_bndK hr with ⟨e3, hr⟩ | ⟨k3, l, e3, hl, hr⟩
      · have n3 := opdo_none hlo e3
        exact fin 0 h (Nat.zero_le _) hh (.inr ⟨k2, n2, hh⟩) (.inl ⟨by rw [n3]; rfl, rfl⟩) hr
      · have n3 := opdo_int hlo sr.tm sr.rel.gl e3
        exact fin l h hl hh (.inr ⟨k2, n2, hh⟩) (.inr ⟨k3, n3, hl⟩) hr
  · simp at hr

/-- The model's slice of a slice. -/
theorem run_slice_slice (T : TyOk P E.ty) {t e : Nat} {z : List Value} {s b : Nat} {te : TI} (ht : E.ty t = some ⟨.slice e, z, s, b⟩) (hte : E.ty e = some te) {A : Option Addr} {len cap : Nat} {lo hi mx : Option Value} {l h mm : Nat}
    (hb : (Instr.sliceBounds true len cap lo hi mx).run P w = .ok (l, h, mm) w) :
    (Instr.sliceAt t (.slice A len cap) lo hi mx).run P w = .ok (.slice (if mm = l then A else A.map (·.add (l * te.size))) (h - l) (mm - l)) w := by
  simp only [Instr.sliceAt, Sem.run_bind, und T ht, Result.andThen_ok, Instr.slice, hb, siz T hte]; rfl

theorem d_slSl (sr : SR P E nt m st a w) (T : TyOk P E.ty) {t e : Nat} {z : List Value} {s b : Nat} {te : TI} (ht : E.ty t = some ⟨.slice e, z, s, b⟩) (hte : E.ty e = some te) {x : Operand} {lo hi mx : Option Operand} {x' : Opd}
    {lo' hi' mx' : Option Opd} (hx : opd E nt x = some x') (hlo : opdo E nt lo = some lo') (hhi : opdo E nt hi = some hi') (hmx : opdo E nt mx = some mx') (hmh : ∀ v, mx' = some v → hi' ≠ none) {C : Ctx} {ex : Ex}
    (hr : opRun (.slSl e te.size x' lo' hi' mx') C ex st κ = true) :
    Did P E m st w (do pure (.value (← Instr.sliceAt t (a.eval x) (lo.map a.eval) (hi.map a.eval) (mx.map a.eval)))) κ := by
  simp only [opRun, fSl, evK_eq, evoK_eq, kSlSl] at hr
  have rx := sr.op hx
  generalize hxv : a.eval x = xv at rx
  -- a bound of the model's
  have bd : ∀ {y : Option Operand} {y' : Option Opd} {d n : Nat} {κ : Nat → Bool}, opdo E nt y = some y' → bndK (y'.map (ev st.tm)) d n κ = true →
      ∃ i, κ i = true ∧ ((y.map a.eval = none ∧ i = d) ∨ ∃ k, y.map a.eval = some (.int k (.ofNat i)) ∧ i ≤ n) := by
    intro y y' d n κ hy h
    rcases of_bndK h with ⟨e1, h⟩ | ⟨k, i, e1, hi, h⟩
    · exact ⟨d, h, .inl ⟨by rw [opdo_none hy e1]; rfl, rfl⟩⟩
    · exact ⟨i, h, .inr ⟨k, opdo_int hy sr.tm sr.rel.gl e1, hi⟩⟩
  have hmh' : mx'.map (ev st.tm) ≠ none → hi'.map (ev st.tm) ≠ none := by
    intro h1 h2
    cases hmv : mx' with
    | none => rw [hmv] at h1; exact h1 rfl
    | some v =>
      have := hmh v hmv
      cases hhv : hi' with
      | none => exact this hhv
      | some u => rw [hhv] at h2; cases h2
  have hno : ∀ {y : Option Operand} {y' : Option Opd}, opdo E nt y = some y' → y.map a.eval = none → y'.map (ev st.tm) = none := by
    intro y y' hy h
    cases y with
    | none => simp only [opdo, Option.some.injEq] at hy; subst hy; rfl
    | some y => simp at h
  split at hr
  · rename_i n1 c1 e1
    rw [e1] at rx hr
    cases rx
    obtain ⟨i1, hr, b1⟩ := bd hhi hr
    obtain ⟨i2, hr, b2⟩ := bd hlo hr
    obtain ⟨i3, hr, b3⟩ := bd hmx hr
    refine did_val (v' := .slice none 0 0) hr ?_ .sl0 sr.rel
    have hb : (Instr.sliceBounds true 0 0 (lo.map a.eval) (hi.map a.eval) (mx.map a.eval)).run P w = .ok (0, 0, 0) w := by
      refine run_bounds true 0 0 ?_ ?_ ?_
      · rcases b3 with ⟨c3, _⟩ | ⟨k3, c3, d3⟩
        · exact .inl ⟨c3, rfl⟩
        · have : i3 = 0 := by omega
          subst this; exact .inr ⟨k3, c3, d3⟩
      · rcases b1 with ⟨c1, _⟩ | ⟨k1, c1, d1⟩
        · refine .inl ⟨c1, ?_, rfl⟩
          rcases b3 with ⟨c3, _⟩ | ⟨k3, c3, d3⟩
          · exact c3
          · exact absurd (hno hhi c1) (hmh' (fun h => by
              have := opdo_none hmx h; subst this; simp at c3))
        · have : i1 = 0 := by omega
          subst this; exact .inr ⟨k1, c1, d1⟩
      · rcases b2 with ⟨c2, _⟩ | ⟨k2, c2, d2⟩
        · exact .inl ⟨c2, rfl⟩
        · have : i2 = 0 := by omega
          subst this; exact .inr ⟨k2, c2, d2⟩
    rw [run_slice_slice T ht hte hb]; simp
  · rename_i b' o len cap e1
    rw [e1] at rx
    obtain ⟨cs, e', rw_, hg, hr⟩ := of_rowK hr
    split at hr
    · simp at hr
    · rename_i hee
      simp only [Bool.and_eq_true] at hee
      obtain ⟨⟨⟨hee, hbu⟩, hcapu⟩, hlenu⟩ := hee
      have hbu := blt_of hbu
      have hcapu := ble_of hcapu
      have hlenu := blt_of hlenu
      have hee := beq_of hee; subst hee
      cases rx with
      | slE A c cc hc => omega
      | sl _ _ _ _ cc L hm hn ht' hu hc =>
        obtain ⟨ccs, fz, q1, q2, q3, q4, q5, q6, q7⟩ := sr.rel.obj b' L _ hm hg
        have hsz : L.sz = te.size := by obtain ⟨_, _, _, _, _, _, _, _, _, h9⟩ := inf T hte; rw [← q3, h9]
        rw [hsz] at ht' hu
        -- the result, with its capacity
        have res : ∀ l h mm : Nat, l ≤ h → h ≤ mm → mm ≤ cc → ∀ c', (c' = unk → L.rl ≤ o + mm * te.size) → (c' ≠ unk → c' = mm - l) → mm ≠ l →
            VR m (.slice (some ⟨b', o + l * te.size, none⟩) (h - l) c') (.slice (some ⟨L.blk, L.off + o + l * te.size, none⟩) (h - l) (mm - l)) := by
          intro l h mm h1 h2 h3 c' g1 g2 _
          have e2 := mul_split te.size (show l ≤ mm by omega)
          have e3 : mm * te.size ≤ cc * te.size := Nat.mul_le_mul_right _ h3
          have := VR.sl (m := m) b' (o + l * te.size) (h - l) c' (mm - l) L hm (by omega) (by rw [hsz]; omega) (fun hc' => by have := g1 hc'; rw [hsz]; omega) g2
          rw [← Nat.add_assoc] at this; exact this
        have fin : ∀ l h mm : Nat, l ≤ h → h ≤ mm → mm ≤ cc → (Instr.sliceBounds true len cc (lo.map a.eval) (hi.map a.eval) (mx.map a.eval)).run P w = .ok (l, h, mm) w → ∀ v, vK st κ v = true →
            VR m v (.slice (some (if mm = l then ⟨L.blk, L.off + o, none⟩ else ⟨L.blk, L.off + o + l * te.size, none⟩)) (h - l) (mm - l)) →
            Did P E m st w (do pure (.value (← Instr.sliceAt t (.slice (some ⟨L.blk, L.off + o, none⟩) len cc) (lo.map a.eval) (hi.map a.eval) (mx.map a.eval)))) κ := by
          intro l h mm h1 h2 h3 hb v hk hv
          refine did_val hk ?_ hv sr.rel
          rw [run_slice_slice T ht hte hb]
          split <;> simp [Addr.add_lit]
        have empty : ∀ l : Nat, l ≤ cc → VR m (.slice (some ⟨b', o, none⟩) 0 0) (.slice (some ⟨L.blk, L.off + o, none⟩) (l - l) (l - l)) := by
          intro l hl
          have := VR.sl (m := m) b' o 0 0 0 L hm (Nat.le_refl _) (by omega) (fun e => by unfold unk at e; omega) (fun _ => rfl)
          simpa using this
        split at hr
        · rename_i hcu
          have hcu := beq_of hcu
          split at hr
          · rename_i hmn
            have hmx0 : mx.map a.eval = none := by rw [opdo_none hmx hmn]; rfl
            obtain ⟨h, hr1, b1⟩ := bd hhi hr
            obtain ⟨l, hr2, b2⟩ := bd hlo hr1
            have hh : h ≤ len := by rcases b1 with ⟨_, c1⟩ | ⟨_, _, c1⟩ <;> omega
            have hl : l ≤ h := by rcases b2 with ⟨_, c2⟩ | ⟨_, _, c2⟩ <;> omega
            have hb : (Instr.sliceBounds true len cc (lo.map a.eval) (hi.map a.eval) (mx.map a.eval)).run P w = .ok (l, h, cc) w := by
              refine run_bounds true len cc (.inl ⟨hmx0, rfl⟩) ?_ ?_
              · rcases b1 with ⟨c1, c1'⟩ | ⟨k1, c1, d1⟩
                · exact .inl ⟨c1, hmx0, c1'⟩
                · exact .inr ⟨k1, c1, by omega⟩
              · rcases b2 with ⟨c2, c2'⟩ | ⟨k2, c2, d2⟩
                · exact .inl ⟨c2, c2'⟩
                · exact .inr ⟨k2, c2, d2⟩
            split at hr2
            · rename_i hlt
              simp only [natK_eq] at hr2
              refine fin l h cc hl (by omega) (Nat.le_refl _) hb _ hr2 ?_
              by_cases hcl : cc = l
              · rw [if_pos hcl]
                have hl0 : l = 0 := by
                  simp only [Bool.or_eq_true] at hlt
                  rcases hlt with h1 | h1
                  · have := blt_of h1; omega
                  · exact beq_of h1
                subst hl0
                have h0 : h = 0 := by omega
                have := VR.sl (m := m) b' (o + 0 * te.size) (h - 0) unk (cc - 0) L hm (by omega) (by rw [hsz]; simp; omega) (fun _ => by rw [hsz]; have := hu hcu; simp; omega) (fun e => absurd rfl e)
                simpa using this
              · rw [if_neg hcl]
                exact res l h cc hl (by omega) (Nat.le_refl _) unk (fun _ => hu hcu) (fun e => absurd rfl e) hcl
            · rename_i hlt
              simp only [Bool.or_eq_false_iff] at hlt
              have h1 := blt_ne hlt.1
              have e0 : h - l = 0 := by omega
              refine fin l h cc hl (by omega) (Nat.le_refl _) hb _ hr2 ?_
              rw [e0]
              exact .slE _ unk _ (fun e => absurd rfl e)
          · rename_i mv hmv
            have hmx1 : ∃ v, mx' = some v := by
              cases hq : mx' with
              | none => rw [hq] at hmv; cases hmv
              | some v => exact ⟨v, rfl⟩
            obtain ⟨k, mm, hk1, hmm, hr⟩ := of_idxK hr
            rw [hk1] at hmv
            have hmxr := opdo_int hmx sr.tm sr.rel.gl hmv
            obtain ⟨h, hr1, b1⟩ := bd hhi hr
            obtain ⟨l, hr2, b2⟩ := bd hlo hr1
            have hh : h ≤ mm := by rcases b1 with ⟨_, c1⟩ | ⟨_, _, c1⟩ <;> omega
            have hl : l ≤ h := by rcases b2 with ⟨_, c2⟩ | ⟨_, _, c2⟩ <;> omega
            have hb : (Instr.sliceBounds true len cc (lo.map a.eval) (hi.map a.eval) (mx.map a.eval)).run P w = .ok (l, h, mm) w := by
              refine run_bounds true len cc (.inr ⟨k, hmxr, by omega⟩) ?_ ?_
              · rcases b1 with ⟨c1, c1'⟩ | ⟨k1, c1, d1⟩
                · obtain ⟨v, hv⟩ := hmx1
                  exact absurd (hno hhi c1) (hmh' (by rw [hv]; simp))
                · exact .inr ⟨k1, c1, by omega⟩
              · rcases b2 with ⟨c2, c2'⟩ | ⟨k2, c2, d2⟩
                · exact .inl ⟨c2, c2'⟩
                · exact .inr ⟨k2, c2, d2⟩
            split at hr2
            · rename_i hml
              have hml := beq_of hml; subst hml
              have : h = mm := by omega
              subst this
              refine fin h h h hl hh (by omega) hb _ hr2 ?_
              rw [if_pos rfl]; exact empty h (by omega)
            · rename_i hml
              have hml := beq_ne hml
              simp only [natK_eq] at hr2
              refine fin l h mm hl hh (by omega) hb _ hr2 ?_
              rw [if_neg hml]
              refine res l h mm hl hh (by omega) (mm - l) (fun hc' => ?_) (fun _ => rfl) hml
              omega
        · rename_i hcu
          have hcu := beq_ne hcu
          have hcc := hc hcu
          subst hcc
          obtain ⟨mm, hr, b3⟩ := bd hmx hr
          have hmm : mm ≤ cap := by rcases b3 with ⟨_, c1⟩ | ⟨_, _, c1⟩ <;> omega
          obtain ⟨h, hr1, b1⟩ := bd hhi hr
          obtain ⟨l, hr2, b2⟩ := bd hlo hr1
          have hh : h ≤ mm := by
            rcases b1 with ⟨c1, c1'⟩ | ⟨_, _, c1⟩
            · rcases b3 with ⟨c3, c3'⟩ | ⟨_, c3, _⟩
              · have := hno hmx c3
                rw [this] at c1'; simp only at c1'; omega
              · exact absurd (hno hhi c1) (hmh' (fun hq => by have := opdo_none hmx hq; subst this; simp at c3))
            · omega
          have hl : l ≤ h := by rcases b2 with ⟨_, c2⟩ | ⟨_, _, c2⟩ <;> omega
          have hb : (Instr.sliceBounds true len cap (lo.map a.eval) (hi.map a.eval) (mx.map a.eval)).run P w = .ok (l, h, mm) w := by
            refine run_bounds true len cap ?_ ?_ ?_
            · rcases b3 with ⟨c3, c3'⟩ | ⟨k3, c3, d3⟩
              · exact .inl ⟨c3, c3'⟩
              · exact .inr ⟨k3, c3, d3⟩
            · rcases b1 with ⟨c1, c1'⟩ | ⟨k1, c1, d1⟩
              · rcases b3 with ⟨c3, c3'⟩ | ⟨_, c3, _⟩
                · have := hno hmx c3
                  rw [this] at c1'; exact .inl ⟨c1, c3, c1'⟩
                · exact absurd (hno hhi c1) (hmh' (fun hq => by have := opdo_none hmx hq; subst this; simp at c3))
              · exact .inr ⟨k1, c1, by omega⟩
            · rcases b2 with ⟨c2, c2'⟩ | ⟨k2, c2, d2⟩
              · exact .inl ⟨c2, c2'⟩
              · exact .inr ⟨k2, c2, d2⟩
          split at hr2
          · rename_i hml
            have hml := beq_of hml; subst hml
            have : h = mm := by omega
            subst this
            refine fin h h h hl hh hmm hb _ hr2 ?_
            rw [if_pos rfl]; exact empty h hmm
          · rename_i hml
            have hml := beq_ne hml
            simp only [natK_eq] at hr2
            refine fin l h mm hl hh hmm hb _ hr2 ?_
            rw [if_neg hml]
            refine res l h mm hl hh hmm (mm - l) (fun hc' => ?_) (fun _ => rfl) hml
            omega
  · simp at hr

end
end Go.Abs

/- append, copy, clear; lengths. -/
namespace Go.Abs
variable {P : Program} {E : Env}
section
variable {nt : Nat} {m : M} {st : St} {a : Act} {w : World} {κ : KO}

/-- What is appended or copied, in the model. -/
theorem src_run {te : TI} {h : AH} (rel : Rel P E m h w) {x x' : Value} (rx : VR m x x') {κ : Nat → List Value → Bool} (hk : srcK te.size x h κ = true) :
    ∃ n new new', κ n new = true ∧ (Builtin.lenOf x').run P w = .ok n w ∧ (∀ w2 : World, w2.heap = w.heap → (Builtin.firstCells te.size n x').run P w2 = .ok ⟨new'⟩ w2) ∧ VRs m new new' ∧ new.length = n * te.size := by
  unfold srcK at hk
  split at hk
  · cases rx
    exact ⟨0, [], [], hk, rfl, fun _ _ => rfl, .nil, by simp⟩
  · rename_i b o n c
    split at hk
    · rename_i h0
      have h0 := beq_of h0; subst h0
      cases rx with
      | sl _ _ _ _ cc L hm hn ht hu hc => exact ⟨0, [], [], hk, rfl, fun _ _ => by simp [Builtin.firstCells, loadCells, loadCellsFrom], .nil, by simp⟩
      | slE A _ cc _ => exact ⟨0, [], [], hk, rfl, fun _ _ => by simp [Builtin.firstCells, loadCells, loadCellsFrom], .nil, by simp⟩
    · rename_i h0
      have h0 := beq_ne h0
      obtain ⟨cs, e', rw_, hg, hk⟩ := of_rowK hk
      obtain ⟨hl, hk⟩ := of_segK hk
      cases rx with
      | sl _ _ _ _ cc L hm hn ht hu hc =>
        obtain ⟨vs, g1, g2⟩ := row_load (rel.obj b L _ hm hg) hl
        refine ⟨n, _, vs, hk, rfl, g1, g2, ?_⟩
        have hl' : o + n * te.size ≤ cs.length := hl
        show ((cs.drop o).take (n * te.size)).length = _
        rw [List.length_take, List.length_drop]; omega
      | slE A _ cc _ => exact absurd rfl h0
  · rename_i t
    split at hk
    · rename_i h1
      have h1 := beq_of h1
      cases rx
      refine ⟨t.size, _, ofBytes t.data.toList, hk, rfl, fun w2 _ => ?_, ?_, ?_⟩
      · have : t.extract 0 t.size = t := by
          apply ByteArray.ext; simp
        simp only [Builtin.firstCells, this]
        show Result.ok _ w2 = Result.ok _ w2
        congr 1
        apply Array.ext'
        simp [ofBytes]
      · exact noAddrs_refl m _ (by
          have : ∀ l : List UInt8, noAddrs (ofBytes l) = true := by
            intro l; induction l with
            | nil => rfl
            | cons c l ih => simp only [ofBytes, List.map_cons, noAddrs, noAddr, Bool.true_and]; exact ih
          exact this _)
      · rw [h1]; simp [ofBytes]
    · simp at hk
  · simp at hk

theorem zeros_cells (z : Array Value) (k : Nat) : (Builtin.zeroCells z k).toList = rep z.toList k := by
  have := rep_zeros z.toList k
  have e : Builtin.zeroCells z k = (Array.range (k * z.toList.length)).map (fun i => (⟨z.toList⟩ : Array Value)[i % z.toList.length]!) := by
    simp [Builtin.zeroCells]
  rw [e, this]

/-- The head of an append, in the model: what it comes to once its operands are known. -/
theorem append_head (T : TyOk P E.ty) {ts : Array TypeId} {t u e : Nat} {te tu : TI} {z : List Value} {s b : Nat} (h0 : ts[0]? = some t) (h1 : ts[1]? = some u) (ht : E.ty t = some ⟨.slice e, z, s, b⟩) (hte : E.ty e = some te)
    (htu : E.ty u = some tu) (hni : ∀ k, tu.k ≠ .int k) (hby : te.bytes ≤ 65536) {ty : TypeId} {base : Option Addr} {len cap n : Nat} {x' : Value} {new' : List Value}
    (hlen : (Builtin.lenOf x').run P w = .ok n w) (hnew : (Builtin.firstCells te.size n x').run P w = .ok ⟨new'⟩ w) (hn : n ≤ maxN) (hl : len ≤ maxN) :
    (len + n ≤ cap → ∀ w', (∀ A, base = some A → (storeCells (A.add (len * te.size)) new').run P w = .ok () w') → (base = none → w' = w) →
      (Builtin.append_ ts ty #[.slice base len cap, x']).run P w = .ok (.slice base (len + n) cap) w') ∧
    (¬ len + n ≤ cap → ∀ old', (Builtin.firstCells te.size len (.slice base len cap)).run P w = .ok ⟨old'⟩ w → (Builtin.firstCells te.size len (.slice base len cap)).run P w.drew = .ok ⟨old'⟩ w.drew →
      (Builtin.firstCells te.size n x').run P w.drew = .ok ⟨new'⟩ w.drew →
      ∃ nc, len + n ≤ nc ∧ (Builtin.append_ ts ty #[.slice base len cap, x']).run P w =
        .ok (.slice (some ⟨w.heap.size, 0, none⟩) (len + n) nc) (w.drew.alloc (.cells ⟨old' ++ new' ++ rep te.zero (nc - (len + n))⟩ e))) := by
  obtain ⟨i, zv, i1, i2, i3, i4, i5, i6, i7, i8⟩ := inf T hte
  have hz : (do pure ((← underlying u) matches .int _) : Sem Bool).run P w = .ok false w := by
    simp only [Sem.run_bind, und T htu, Result.andThen_ok]
    revert hni
    cases tu.k <;> intro hni <;> first | rfl | exact absurd rfl (hni _)
  constructor
  · intro hroom w' hst hno
    cases base with
    | none =>
      have := hno rfl; subst this
      simp [Builtin.append_, h0, h1, und T ht, und T htu, siz T hte, hlen, hroom, hnew]
    | some A =>
      simp [Builtin.append_, h0, h1, und T ht, und T htu, siz T hte, hlen, hroom, hnew, hst A rfl]
  · intro hroom old' ho ho' hn'
    have hm : len + n ≤ 33554432 := by unfold maxN at hn hl; omega
    have h63 : ¬ ((9223372036854775807 : Int) < ((len : Int) + (n : Int))) := by omega
    have h48 : ¬ (281474976710656 < Builtin.nextslicecap (len + n) cap * te.bytes) := by
      have := growslice_fits (need := len + n) (old := cap) (bytes := te.bytes) (by omega) (by
        calc (len + n) * te.bytes ≤ 33554432 * 65536 := Nat.mul_le_mul hm hby
          _ ≤ 140737488355328 := by omega)
      omega
    refine ⟨grownCap w (len + n) cap e, ?_, ?_⟩
    · unfold grownCap; simp only [Question.cut]; omega
    · have hzz : zv.cells.toList = te.zero := i5
      simp [Builtin.append_, h0, h1, und T ht, und T htu, siz T hte, i1, i3, i4, hlen, hroom, h63, h48, Question.forced, ho', hn', newRow, grownCap]
      congr 2
      apply Array.ext'
      simp [zeros_cells, hzz]

end
end Go.Abs

/- append, copy, clear: side by side. -/
namespace Go.Abs
variable {P : Program} {E : Env}
section
variable {nt : Nat} {m : M} {st : St} {a : Act} {w : World} {κ : KO}

def DidH (P : Program) (E : Env) (m : M) (h : AH) (w : World) (s : Sem Value) (κ : KH) : Prop :=
  ∃ v h' m' w' v', κ v h' = true ∧ s.run P w = .ok v' w' ∧ VR m' v v' ∧ Rel P E m' h' w' ∧ Ev m h w m' h' w'

theorem DidH.did {s : Sem Value} (h : DidH P E m st.h w s (hK st κ)) : Did P E m st w (do pure (.value (← s))) κ := by
  obtain ⟨v, h', m', w', v', h1, h2, h3, h4, h5⟩ := h
  exact did_heap h1 h2 h3 h4 h5

/-- A slice over a new row of an append: of how much room is not known. -/
theorem grow_row {h : AH} (rel : Rel P E m h w) (hn : h.nx < 2 ^ 40 - 1) {e : TypeId} {te : TI} (T : TyOk P E.ty) (hte : E.ty e = some te) (hg : good te = true) {cs cs' : List Value} (hv : VRs m cs cs')
    {n nc : Nat} (hl : cs.length = n * te.size) (hnc : n ≤ nc) :
    ∃ m', VR m' (.slice (some ⟨h.nx, 0, none⟩) n unk) (.slice (some ⟨w.heap.size, 0, none⟩) n nc) ∧
      Rel P E m' (h.new (.row cs e true)) (w.drew.alloc (.cells ⟨cs' ++ rep te.zero (nc - n)⟩ e)) ∧ Ev m h w m' (h.new (.row cs e true)) (w.drew.alloc (.cells ⟨cs' ++ rep te.zero (nc - n)⟩ e)) := by
  obtain ⟨hsz, _, hz, hzl, _⟩ := good_of hg
  obtain ⟨_, _, _, _, _, _, _, _, _, hcell⟩ := inf T hte
  have hlen := hv.length
  have htot : (cs' ++ rep te.zero (nc - n)).length = nc * te.size := by
    rw [List.length_append, rep_length, hzl, ← hlen, hl, mul_split _ hnc]
  let L : Loc := ⟨w.heap.size, 0, nc * te.size, te.size, cs.length⟩
  obtain ⟨r, ev, le⟩ := rel_new (L := L) (x := .row cs e true) (o := .cells ⟨cs' ++ rep te.zero (nc - n)⟩ e) (w' := w.drew.alloc (.cells ⟨cs' ++ rep te.zero (nc - n)⟩ e)) rel hn rfl rfl rfl rfl rfl (Nat.zero_mod _)
    (fun hle => ⟨⟨cs' ++ rep te.zero (nc - n)⟩, (0, 0), by
        show (w.heap.push _)[w.heap.size]? = _
        simp, by show (cs' ++ _).length = _; rw [htot], hcell, rfl, by
        show 0 + cs.length ≤ nc * te.size
        rw [hl, Nat.zero_add]; exact Nat.mul_le_mul_right _ hnc, by
        show VRs _ cs (((cs' ++ rep te.zero (nc - n)).drop 0).take cs.length)
        rw [List.drop_zero, List.take_append_of_le_length (by omega), List.take_of_length_le (by omega)]
        exact hv.mono hle, fun _ j _ _ => by simp⟩)
  refine ⟨_, ?_, r, ev⟩
  have := VR.sl (m := upd m h.nx L) h.nx 0 n unk nc L (upd_same _ _ _) hnc (by show 0 + 0 + nc * te.size ≤ nc * te.size; omega)
    (fun _ => by show cs.length ≤ 0 + nc * te.size; rw [hl, Nat.zero_add]; exact Nat.mul_le_mul_right _ hnc) (fun e => absurd rfl e)
  simpa using this

/-- A slice's value, taken apart. -/
theorem sl_of {b i n c : Nat} {v' : Value} (h : VR m (.slice (some ⟨b, i, none⟩) n c) v') :
    (∃ L cc, m b = some L ∧ n ≤ cc ∧ L.off + i + cc * L.sz ≤ L.tot ∧ (c = unk → L.rl ≤ i + cc * L.sz) ∧ (c ≠ unk → c = cc) ∧ v' = .slice (some ⟨L.blk, L.off + i, none⟩) n cc) ∨
    (b = unk ∧ i = 0 ∧ n = 0 ∧ ∃ A cc, (c ≠ unk → c = cc) ∧ v' = .slice (some A) 0 cc) := by
  cases h with
  | sl _ _ _ _ cc L hm hn ht hu hc => exact .inl ⟨L, cc, hm, hn, ht, hu, hc, rfl⟩
  | slE A _ cc hc => exact .inr ⟨rfl, rfl, rfl, A, cc, hc, rfl⟩

theorem segs_len {cs : List Value} {o k : Nat} (h : o + k ≤ cs.length) : ((cs.drop o).take k).length = k := by
  rw [List.length_take, List.length_drop]; omega

theorem k_append (T : TyOk P E.ty) {ts : Array TypeId} {t u e : Nat} {te tu : TI} {z : List Value} {s b : Nat} (h0 : ts[0]? = some t) (h1 : ts[1]? = some u) (ht : E.ty t = some ⟨.slice e, z, s, b⟩) (hte : E.ty e = some te)
    (hg : good te = true) (htu : E.ty u = some tu) (hni : ∀ k, tu.k ≠ .int k) {ty : TypeId} {h : AH} (rel : Rel P E m h w) {x y x' y' : Value} (rx : VR m x x') (ry : VR m y y') {κ : KH} (hk : kAppend e te.size x y h κ = true) :
    DidH P E m h w (Builtin.append_ ts ty #[x', y']) κ := by
  unfold kAppend at hk
  obtain ⟨n, new, new', hk1, s1, s2, s3, s4⟩ := src_run rel ry hk
  clear hk
  have hk := hk1
  clear hk1
  obtain ⟨hsz, hby, hz, hzl, _⟩ := good_of hg
  split at hk
  · simp at hk
  · rename_i hc
    simp only [Bool.and_eq_true] at hc
    have hn := ble_of hc.1
    have hone := hc.2
    -- the head, for whatever slice
    have head := fun (base : Option Addr) (len cap : Nat) (hl : len ≤ maxN) => append_head (w := w) T h0 h1 ht hte htu hni hby (ty := ty) (base := base) (len := len) (cap := cap) s1 (s2 w rfl) hn hl
    -- it grows
    have grow : ∀ (base : Option Addr) (len cap : Nat) (old old' : List Value), len ≤ maxN → ¬ len + n ≤ cap → VRs m old old' → old.length = len * te.size →
        (∀ w2 : World, w2.heap = w.heap → (Builtin.firstCells te.size len (.slice base len cap)).run P w2 = .ok ⟨old'⟩ w2) →
        ∀ (h2 : AH), Rel P E m h2 w → Ev m h w m h2 w → h2.nx < 2 ^ 40 - 1 → κ (.slice (some ⟨h2.nx, 0, none⟩) (len + n) unk) (h2.new (.row (old ++ new) e true)) = true →
        DidH P E m h w (Builtin.append_ ts ty #[.slice base len cap, y']) κ := by
      intro base len cap old old' hl hno ho hol hfc h2 rel2 ev2 hnx hkk
      obtain ⟨nc, hnc, hrun⟩ := (head base len cap hl).2 hno old' (hfc w rfl) (hfc w.drew rfl) (s2 w.drew rfl)
      obtain ⟨m', v1, r1, e1⟩ := grow_row rel2 hnx T hte hg (ho.append s3) (n := len + n) (nc := nc) (by rw [List.length_append, hol, s4, Nat.add_mul]) hnc
      exact ⟨_, _, m', _, _, hkk, hrun, v1, r1, ev2.trans e1⟩
    split at hk
    · rename_i hn0
      have hn0 := beq_of hn0; subst hn0
      have hnew : new' = [] := by
        have := s3.length; rw [s4, Nat.zero_mul] at this; exact List.eq_nil_of_length_eq_zero this.symm
      subst hnew
      split at hk
      · rename_i A0 n0 c0 q0
        cases rx with
        | sl0 =>
          have := (head none 0 0 (Nat.zero_le _)).1 (Nat.le_refl _) w (fun A hA => by cases hA) (fun _ => rfl)
          exact ⟨_, h, m, w, _, hk, this, .sl0, rel, Ev.refl _ _ _⟩
        | sl bb i _ _ cc L hm hn' ht' hu hc' =>
          refine ⟨_, h, m, w, .slice (some ⟨L.blk, L.off + i, none⟩) _ cc, hk, ?_, .sl bb i _ _ cc L hm hn' ht' hu hc', rel, Ev.refl _ _ _⟩
          simp [Builtin.append_, h0, h1, und T ht, und T htu, siz T hte, s1, hn', s2 w rfl, storeCells]
        | slE A _ cc hc' =>
          refine ⟨_, h, m, w, .slice (some A) 0 cc, hk, ?_, .slE A _ cc hc', rel, Ev.refl _ _ _⟩
          exact (head (some A) 0 cc (Nat.zero_le _)).1 (Nat.zero_le _) w (fun A _ => rfl) (fun hA => by cases hA)
      · simp at hk
    · rename_i hn0
      have hn0 := beq_ne hn0
      split at hk
      · cases rx
        obtain ⟨hnx, hk⟩ := of_newK (show newK h (.row new e true) _ = true from hk)
        refine grow none 0 0 [] [] (Nat.zero_le _) (by omega) .nil (by simp) (fun _ _ => rfl) h rel (Ev.refl _ _ _) hnx ?_
        simpa using hk
      · rename_i b' o len cap
        split at hk
        · rename_i hlb
          simp only [Bool.and_eq_true] at hlb
          have hl := ble_of hlb.1
          have hbu := blt_of hlb.2
          rcases sl_of rx with ⟨L, cc, hm, hn', ht', hu, hc', rfl⟩ | ⟨hb0, _⟩
          case inr => omega
          case inl =>
            unfold appendAt at hk
            obtain ⟨cs, e', rw_, hgb, hk⟩ := of_rowK hk
            split at hk
            · simp at hk
            · rename_i hee
              have hee := beq_of hee; subst hee
              have ob := rel.obj b' L _ hm hgb
              obtain ⟨ccs, fz, q1, q2, q3, q4, q5, q6, q7⟩ := ob
              have hLs : L.sz = te.size := by obtain ⟨_, _, _, _, _, _, _, _, _, h9⟩ := inf T hte; rw [← q3, h9]
              rw [hLs] at ht' hu
              have hadd : (⟨L.blk, L.off + o, none⟩ : Addr).add (len * te.size) = ⟨L.blk, L.off + (o + len * te.size), none⟩ := by rw [Addr.add_lit, Nat.add_assoc]
              -- it stays where it is, within the row
              have inrow : rw_ = true → ∀ c, (len + n ≤ cc) → (c = unk → L.rl ≤ o + cc * te.size) → (c ≠ unk → c = cc) → o + len * te.size + new.length ≤ cs.length →
                  κ (.slice (some ⟨b', o, none⟩) (len + n) c) (h.set b' (some (.row (cs.take (o + len * te.size) ++ new ++ cs.drop (o + len * te.size + new.length)) e true))) = true →
                  DidH P E m h w (Builtin.append_ ts ty #[.slice (some ⟨L.blk, L.off + o, none⟩) len cc, y']) κ := by
                intro hrw c hroom hu' hc'' hsp hkk
                subst hrw
                obtain ⟨w', g1, g2, g3⟩ := row_store rel hm hgb hsp s3 hone
                refine ⟨_, _, m, w', _, hkk, (head (some ⟨L.blk, L.off + o, none⟩) len cc hl).1 hroom w' (fun A hA => by cases hA; rw [hadd]; exact g1) (fun hA => by cases hA), ?_, g2, g3⟩
                exact .sl b' o (len + n) c cc L hm hroom (by rw [hLs]; exact ht') (by rw [hLs]; exact hu') hc''
              split at hk
              · rename_i hcu
                have hcu := beq_of hcu
                cases rw_ with
                | false => simp at hk
                | true =>
                cases d2 : Nat.ble (Nat.add o (Nat.mul (Nat.add len n) te.size)) cs.length with
                | true =>
                  rw [d2] at hk
                  have d2 := ble_of d2
                  obtain ⟨hsp, hk⟩ := of_spliceK hk
                  rw [setObjK_eq, natK_eq] at hk
                  have hroom : len + n ≤ cc := by
                    have h1 := hu hcu
                    have h2 : o + (len + n) * te.size ≤ cs.length := d2
                    have h3 : (len + n) * te.size ≤ cc * te.size := by omega
                    exact Nat.le_of_mul_le_mul_right h3 (Nat.pos_of_ne_zero hsz)
                  exact inrow rfl unk hroom (fun _ => hu hcu) (fun e => absurd rfl e) hsp hk
                | false =>
                cases d3 : Nat.beq (Nat.add o (Nat.mul len te.size)) cs.length with
                | false => rw [d2, d3] at hk; exact nomatch (show false = true from hk)
                | true =>
                  rw [d2, d3] at hk
                  cases d4 : Nat.beq (Nat.mod o te.size) 0 with
                  | false => rw [d4] at hk; exact nomatch (show false = true from hk)
                  | true =>
                  rw [d4] at hk
                  have d4 : o % te.size = 0 := beq_of d4
                  have hal : (L.off + o) % te.size = 0 := by
                    have := rel.al b' L hm
                    rw [hLs] at this
                    rw [Nat.add_mod, this, d4]; simp
                  have d3 := beq_of d3
                  have d3 : o + len * te.size = cs.length := d3
                  obtain ⟨hsg, hk⟩ := of_segK hk
                  rw [appK_eq, setObjK_eq, natK_eq] at hk
                  obtain ⟨hnx, hk⟩ := of_newK (show newK (h.set b' none) (.row ((cs.drop o).take (len * te.size) ++ new) e true) _ = true from hk)
                  obtain ⟨old', o1, o2⟩ := row_load (P := P) (E := E) (m := m) (w := w) (L := L) (cs := cs) (e := e) (rw_ := true) ⟨ccs, fz, q1, q2, q3, q4, q5, q6, q7⟩ hsg
                  by_cases hroom : len + n ≤ cc
                  · -- in place, beyond what was known
                    have hnew : new'.length = n * te.size := by rw [← s3.length, s4]
                    have htt : o + len * te.size + n * te.size ≤ o + cc * te.size := by
                      have : (len + n) * te.size ≤ cc * te.size := Nat.mul_le_mul_right _ hroom
                      rw [Nat.add_mul] at this; omega
                    have hones : ∀ v ∈ new', oneCell v = true := fun v hmem => by
                      obtain ⟨j, hj⟩ := List.getElem?_of_mem hmem
                      cases hvj : new[j]? with
                      | none =>
                        rw [List.getElem?_eq_none_iff] at hvj
                        have := (List.getElem?_eq_some_iff.1 hj).1; omega
                      | some v1 =>
                        obtain ⟨u', p1, p2⟩ := s3.get hvj
                        rw [hj] at p1; cases p1
                        rw [p2.oneCell]
                        exact List.all_eq_true.1 hone v1 (List.mem_of_getElem? hvj)
                    obtain ⟨w', ccs', g1, W, g2⟩ := run_storeCells (P := P) (B := L.blk) (e := e) (fz := fz) (L.off + (o + len * te.size)) new' 0 w ccs q1 (by omega)
                      (fun j hj hj' => q7 rfl j (by omega) (by omega)) hones
                    have hlen : ccs'.size = ccs.size := by
                      have := congrArg List.length g2
                      rw [Array.length_toList] at this
                      rw [this, List.length_append, List.length_append, List.length_take, List.length_drop, Array.length_toList]; omega
                    let L' : Loc := ⟨L.blk, L.off + o, L.tot, te.size, (len + n) * te.size⟩
                    have hsegl : ((cs.drop o).take (len * te.size) ++ new).length = (len + n) * te.size := by
                      have hsg' : o + len * te.size ≤ cs.length := hsg
                      rw [List.length_append, segs_len hsg', s4, Nat.add_mul]
                    obtain ⟨r1, e1, l1⟩ := rel_move (L' := L') (y := .row ((cs.drop o).take (len * te.size) ++ new) e true) (w' := w') rel hm hgb rfl hnx rfl hal W.size W.os W.tape W.output W.rest
                      (fun hle => ⟨ccs', fz, W.at_, by show ccs'.size = L.tot; omega, by show P.cellsOf e = te.size; rw [q3, hLs], hsegl, by
                        show L.off + o + (len + n) * te.size ≤ L.tot
                        have : (len + n) * te.size ≤ cc * te.size := Nat.mul_le_mul_right _ hroom
                        omega, by
                        show VRs _ _ ((ccs'.toList.drop (L.off + o)).take ((len + n) * te.size))
                        rw [g2, Nat.add_zero, ← Nat.add_assoc]
                        rw [splice_seg ccs.toList new' (L.off + o) ((len + n) * te.size) (len * te.size) (by rw [hnew, Nat.add_mul]; exact Nat.le_refl _) (by
                          rw [Array.length_toList]
                          have : (len + n) * te.size ≤ cc * te.size := Nat.mul_le_mul_right _ hroom
                          omega)]
                        have hd : List.drop (len * te.size + new'.length) ((ccs.toList.drop (L.off + o)).take ((len + n) * te.size)) = [] := by
                          apply List.drop_eq_nil_of_le
                          rw [List.length_take, hnew, Nat.add_mul]; omega
                        rw [hd, List.append_nil]
                        refine VRs.append ?_ (s3.mono hle)
                        have h6 := (q6.seg o (len * te.size)).mono hle
                        rw [seg_seg _ L.off L.rl o (len * te.size) (by omega)] at h6
                        have : ((ccs.toList.drop (L.off + o)).take ((len + n) * te.size)).take (len * te.size) = (ccs.toList.drop (L.off + o)).take (len * te.size) := by
                          rw [List.take_take]; congr 1; rw [Nat.add_mul]; omega
                        rw [this]; exact h6, fun hrw j hj hj' => q7 rfl j (by
                          have hj : L.off + o ≤ j := hj
                          omega) hj'⟩)
                    refine ⟨_, _, _, w', _, hk, (head (some ⟨L.blk, L.off + o, none⟩) len cc hl).1 hroom w' (fun A hA => by cases hA; rw [hadd]; exact g1) (fun hA => by cases hA), ?_, r1, e1⟩
                    have := VR.sl (m := upd m h.nx L') h.nx 0 (len + n) unk cc L' (upd_same _ _ _) hroom (by show L.off + o + 0 + cc * te.size ≤ L.tot; omega)
                      (fun _ => by show (len + n) * te.size ≤ 0 + cc * te.size; rw [Nat.zero_add]; exact Nat.mul_le_mul_right _ hroom) (fun e => absurd rfl e)
                    rw [Nat.add_zero] at this; exact this
                  · obtain ⟨rd, ed⟩ := rel_del rel (rel.lt b' L hm).2
                    exact grow (some ⟨L.blk, L.off + o, none⟩) len cc _ old' hl hroom o2 (segs_len hsg) o1 (h.set b' none) rd ed hnx hk
              · rename_i hcu
                have hcu := beq_ne hcu
                have hcc := hc' hcu
                subst hcc
                cases d1 : Nat.ble (Nat.add len n) cap with
                | true =>
                  cases rw_ with
                  | false => rw [d1] at hk; exact nomatch (show false = true from hk)
                  | true =>
                  rw [d1] at hk
                  have d1 := ble_of d1
                  obtain ⟨hsp, hk⟩ := of_spliceK hk
                  rw [setObjK_eq, natK_eq] at hk
                  exact inrow rfl cap d1 (fun e => absurd e hcu) (fun _ => rfl) hsp hk
                | false =>
                  have hk2 : segK o (Nat.mul len te.size) cs (fun old => appK old new fun cs => natK (Nat.add len n) fun m => appendNew e h m cs κ) = true := by
                    rw [d1] at hk; cases rw_ <;> exact hk
                  clear hk
                  have hk := hk2
                  clear hk2
                  have d1 := ble_ne d1
                  have d1 : cap < len + n := d1
                  obtain ⟨hsg, hk⟩ := of_segK hk
                  rw [appK_eq, natK_eq] at hk
                  obtain ⟨hnx, hk⟩ := of_newK (show newK h (.row ((cs.drop o).take (len * te.size) ++ new) e true) _ = true from hk)
                  obtain ⟨old', o1, o2⟩ := row_load (P := P) (E := E) (m := m) (w := w) (L := L) (cs := cs) (e := e) (rw_ := rw_) ⟨ccs, fz, q1, q2, q3, q4, q5, q6, q7⟩ hsg
                  exact grow (some ⟨L.blk, L.off + o, none⟩) len cap _ old' hl (by omega) o2 (segs_len hsg) o1 h rel (Ev.refl _ _ _) hnx hk
        · simp at hk
      · simp at hk

end
end Go.Abs

/- copy, clear, lengths, bytes and strings, pointers seen as others. -/
namespace Go.Abs
variable {P : Program} {E : Env}
section
variable {nt : Nat} {m : M} {st : St} {a : Act} {w : World} {κ : KO}

theorem run_getObj {w : World} {r : Nat} {o : Obj} (h : w.heap[r]? = some o) (hn : ∀ c e f, o ≠ .cells c e f) : (getObj r).run P w = .ok o w := by
  cases o with
  | cells c e f => exact absurd rfl (hn c e f)
  | _ => simp only [getObj, Sem.run, h]

theorem run_setObj {w : World} {r : Nat} {o : Obj} (h : w.heap[r]? = some o) (hn : ∀ c e f, o ≠ .cells c e f) (o' : Obj) :
    ∃ w', (setObj r o').run P w = .ok () w' ∧ Wr w w' r o' := by
  have hr : (setObj r o').run P w = .ok () { w with heap := w.heap.setIfInBounds r o' } := by
    cases o with
    | cells c e f => exact absurd rfl (hn c e f)
    | _ => simp only [setObj, Sem.run, h]
  refine ⟨_, hr, ?_, ?_, ?_, rfl, rfl, rfl⟩
  · have := (Array.getElem?_eq_some_iff.1 h).1
    simp [Array.getElem?_setIfInBounds, this]
  · simp
  · intro c hc; simp only [Array.getElem?_setIfInBounds]; rw [if_neg (fun e => hc e.symm)]

theorem DidH.val {h : AH} {s : Sem Value} {κ : KH} {v v' : Value} (rel : Rel P E m h w) (hk : κ v h = true) (hr : s.run P w = .ok v' w) (hv : VR m v v') : DidH P E m h w s κ :=
  ⟨v, h, m, w, v', hk, hr, hv, rel, Ev.refl _ _ _⟩

theorem map_of {b : Nat} {v' : Value} (h : VR m (.map (some b)) v') : ∃ L, m b = some L ∧ v' = .map (some L.blk) := by
  cases h with
  | map _ L h => exact ⟨L, h, rfl⟩

/-- A map's object. -/
theorem mapOb {L : Loc} {es : List MapEntry} {c : Nat} (h : ObR P E m w L (.map es c)) : ∃ ces : Array MapEntry, w.heap[L.blk]? = some (.map ces c) ∧ ERs m es ces.toList := h

theorem k_len (T : TyOk P E.ty) {ts : Array TypeId} {t q : Nat} {ti : TI} (h0 : ts[0]? = some t) (ht : E.ty t = some ti)
    (hq : (q = 0 ∧ ti.k = .string) ∨ (q = 1 ∧ ∃ e, ti.k = .slice e) ∨ (q = 2 ∧ ∃ k e, ti.k = .map k e)) {ty : TypeId} {h : AH} (rel : Rel P E m h w) {x x' : Value} (rx : VR m x x') {κ : KH} (hk : kLen q x h κ = true) :
    DidH P E m h w (Builtin.len_ ts ty #[x']) κ := by
  unfold kLen at hk
  split at hk
  · split at hk
    · rcases hq with ⟨_, hq⟩ | ⟨h1, _⟩ | ⟨h1, _⟩
      · cases rx
        exact DidH.val rel hk (by simp [Builtin.len_, h0, und T ht, hq]; rfl) (.int _ _)
      · cases h1
      · cases h1
    · simp at hk
  · split at hk
    · rcases hq with ⟨h1, _⟩ | ⟨_, e, hq⟩ | ⟨h1, _⟩
      · cases h1
      · cases rx <;> exact DidH.val rel hk (by simp [Builtin.len_, h0, und T ht, hq]; rfl) (.int _ _)
      · cases h1
    · simp at hk
  · split at hk
    · rcases hq with ⟨h1, _⟩ | ⟨h1, _⟩ | ⟨_, k, e, hq⟩
      · cases h1
      · cases h1
      · cases rx
        exact DidH.val rel hk (by simp [Builtin.len_, h0, und T ht, hq]; rfl) (.int _ _)
    · simp at hk
  · split at hk
    · rcases hq with ⟨h1, _⟩ | ⟨h1, _⟩ | ⟨_, k, e, hq⟩
      · cases h1
      · cases h1
      · obtain ⟨L, hm, rfl⟩ := map_of rx
        obtain ⟨es, c, hg, hk⟩ := of_mapK hk
        obtain ⟨ces, g1, g2⟩ := mapOb (rel.obj _ L _ hm hg)
        refine DidH.val rel hk ?_ (.int _ _)
        have := g2.length
        simp [Builtin.len_, h0, und T ht, hq, run_getObj g1, goInt]
        rw [this]; simp
    · simp at hk
  · simp at hk

theorem k_cap (T : TyOk P E.ty) {ts : Array TypeId} {t : Nat} {e : Nat} {z : List Value} {s b : Nat} (h0 : ts[0]? = some t) (ht : E.ty t = some ⟨.slice e, z, s, b⟩)
    {ty : TypeId} {h : AH} (rel : Rel P E m h w) {x x' : Value} (rx : VR m x x') {κ : KH} (hk : kCap x h κ = true) :
    DidH P E m h w (Builtin.cap_ ts ty #[x']) κ := by
  unfold kCap at hk
  split at hk
  · cases rx
    exact DidH.val rel hk (by simp [Builtin.cap_, h0, und T ht]; rfl) (.int _ _)
  · split at hk
    · simp at hk
    · rename_i hc
      have hc := beq_ne hc
      cases rx with
      | sl _ _ _ _ cc L hm hn ht' hu hc' =>
        have := hc' hc; subst this
        exact DidH.val rel hk (by simp [Builtin.cap_, h0, und T ht]; rfl) (.int _ _)
      | slE A _ cc hc' =>
        have := hc' hc; subst this
        exact DidH.val rel hk (by simp [Builtin.cap_, h0, und T ht]; rfl) (.int _ _)
  · simp at hk

/-- What is copied, in the model: as much of it as one likes. -/
theorem src_runk {te : TI} {h : AH} (rel : Rel P E m h w) {x x' : Value} (rx : VR m x x') {κ : Nat → List Value → Bool} (hk : srcK te.size x h κ = true) :
    ∃ n new, κ n new = true ∧ (Builtin.lenOf x').run P w = .ok n w ∧ new.length = n * te.size ∧
      ∀ k, k ≤ n → ∃ new', (Builtin.firstCells te.size k x').run P w = .ok ⟨new'⟩ w ∧ VRs m (new.take (k * te.size)) new' := by
  unfold srcK at hk
  split at hk
  · cases rx
    exact ⟨0, [], hk, rfl, by simp, fun k hk0 => ⟨[], rfl, by simp; exact .nil⟩⟩
  · rename_i b o n c
    split at hk
    · rename_i h0
      have h0 := beq_of h0; subst h0
      cases rx with
      | sl _ _ _ _ cc L hm hn ht hu hc =>
        exact ⟨0, [], hk, rfl, by simp, fun k hk0 => by
          have : k = 0 := by omega
          subst this
          exact ⟨[], by simp [Builtin.firstCells, loadCells, loadCellsFrom], by simp; exact .nil⟩⟩
      | slE A _ cc _ =>
        exact ⟨0, [], hk, rfl, by simp, fun k hk0 => by
          have : k = 0 := by omega
          subst this
          exact ⟨[], by simp [Builtin.firstCells, loadCells, loadCellsFrom], by simp; exact .nil⟩⟩
    · rename_i h0
      have h0 := beq_ne h0
      obtain ⟨cs, e', rw_, hg, hk⟩ := of_rowK hk
      obtain ⟨hl, hk⟩ := of_segK hk
      have hl' : o + n * te.size ≤ cs.length := hl
      cases rx with
      | sl _ _ _ _ cc L hm hn ht hu hc =>
        refine ⟨n, _, hk, rfl, segs_len hl', fun k hkn => ?_⟩
        have hkn' : k * te.size ≤ n * te.size := Nat.mul_le_mul_right _ hkn
        obtain ⟨vs, g1, g2⟩ := row_load (P := P) (rel.obj b L _ hm hg) (i := o) (n := k * te.size) (by omega)
        refine ⟨vs, g1 w rfl, ?_⟩
        rw [List.take_take]
        have : min (k * te.size) (n.mul te.size) = k * te.size := Nat.min_eq_left hkn'
        rw [this]; exact g2
      | slE A _ cc _ => exact absurd rfl h0
  · rename_i t
    split at hk
    · rename_i h1
      have h1 := beq_of h1
      cases rx
      refine ⟨t.size, ofBytes t.data.toList, hk, rfl, by rw [h1]; simp [ofBytes], fun k hkn => ?_⟩
      refine ⟨ofBytes (t.data.toList.take k), ?_, ?_⟩
      · simp only [Builtin.firstCells]
        show Result.ok _ w = Result.ok _ w
        congr 1
        apply Array.ext'
        simp [ofBytes, ByteArray.data_extract]
      · rw [h1, Nat.mul_one]
        have : (ofBytes t.data.toList).take k = ofBytes (t.data.toList.take k) := by simp [ofBytes]
        rw [this]
        exact noAddrs_refl m _ (by
          have : ∀ l : List UInt8, noAddrs (ofBytes l) = true := by
            intro l; induction l with
            | nil => rfl
            | cons c l ih => simp only [ofBytes, List.map_cons, noAddrs, noAddr, Bool.true_and]; exact ih
          exact this _)
    · simp at hk
  · simp at hk

theorem all_take {l : List Value} (k : Nat) (h : l.all oneCell = true) : (l.take k).all oneCell = true := by
  rw [List.all_eq_true] at h ⊢
  exact fun x hx => h x (List.mem_of_mem_take hx)

theorem k_copy (T : TyOk P E.ty) {ts : Array TypeId} {t e : Nat} {te : TI} {z : List Value} {s b : Nat} (h0 : ts[0]? = some t) (ht : E.ty t = some ⟨.slice e, z, s, b⟩) (hte : E.ty e = some te)
    {ty : TypeId} {h : AH} (rel : Rel P E m h w) {x y x' y' : Value} (rx : VR m x x') (ry : VR m y y') {κ : KH} (hk : kCopy e te.size x y h κ = true) :
    DidH P E m h w (Builtin.copy_ ts ty #[x', y']) κ := by
  unfold kCopy at hk
  obtain ⟨n, new, hk1, s1, s2, s3⟩ := src_runk rel ry hk
  clear hk
  have hk := hk1
  clear hk1
  split at hk
  · cases rx
    obtain ⟨new', q1, q2⟩ := s3 0 (Nat.zero_le _)
    refine DidH.val rel hk (v' := .int .i64 0) ?_ (.int _ _)
    simp [Builtin.copy_, h0, und T ht, siz T hte, s1, q1, goInt]
  · rename_i b' o len cap
    simp only at hk
    have hmin : minN n len = Nat.min n len := by
      unfold minN
      cases hb : Nat.ble n len with
      | true => exact (Nat.min_eq_left (ble_of hb)).symm
      | false => exact (Nat.min_eq_right (Nat.le_of_lt (ble_ne hb))).symm
    rw [hmin] at hk
    obtain ⟨new', q1, q2⟩ := s3 (Nat.min n len) (Nat.min_le_left _ _)
    split at hk
    · rename_i hz
      have hz := beq_of hz
      rw [hz, Nat.zero_mul, List.take_zero] at q2
      rw [hz] at q1
      cases q2
      have : ∀ A cc, x' = .slice (some A) len cc → (Builtin.copy_ ts ty #[x', y']).run P w = .ok (.int .i64 0) w := by
        rintro A cc rfl
        simp [Builtin.copy_, h0, und T ht, siz T hte, s1, hz, q1, goInt, storeCells]
      cases rx with
      | sl _ _ _ _ cc L hm hn ht' hu hc' => exact DidH.val rel hk (this _ _ rfl) (.int _ _)
      | slE A _ cc hc' => exact DidH.val rel hk (this _ _ rfl) (.int _ _)
    · rename_i hz
      have hz := beq_ne hz
      obtain ⟨cs, e', rw_, hgb, hk⟩ := of_rowK hk
      split at hk
      · simp at hk
      · rename_i hc
        simp only [Bool.and_eq_true] at hc
        obtain ⟨⟨hrw, hee⟩, hone⟩ := hc
        subst hrw
        have hee := beq_of hee; subst hee
        obtain ⟨_, hk⟩ := of_takeK hk
        obtain ⟨hsp, hk⟩ := of_spliceK hk
        rw [setObjK_eq] at hk
        rcases sl_of rx with ⟨L, cc, hm, hn', ht', hu, hc', rfl⟩ | ⟨_, _, h2, _⟩
        · obtain ⟨w', g1, g2, g3⟩ := row_store rel hm hgb hsp q2 (all_take _ hone)
          refine ⟨_, _, m, w', .int .i64 (Nat.min n len : Nat), hk, ?_, .int _ _, g2, g3⟩
          simp [Builtin.copy_, h0, und T ht, siz T hte, s1, q1, goInt, g1]
        · subst h2
          exact absurd (Nat.min_zero n) hz
  · simp at hk

theorem rep_all {z : List Value} (h : z.all oneCell = true) : ∀ n, (rep z n).all oneCell = true
  | 0 => rfl
  | n + 1 => by simp only [rep, List.all_append, h, rep_all h n, Bool.and_self]

theorem k_clear (T : TyOk P E.ty) {ts : Array TypeId} {t e : Nat} {ti : TI} {z : List Value} {mp : Bool} (h0 : ts[0]? = some t) (ht : E.ty t = some ti)
    (hsl : mp = false → ∃ te, ti.k = .slice e ∧ E.ty e = some te ∧ te.zero = z ∧ good te = true)
    {ty : TypeId} {h : AH} (rel : Rel P E m h w) {x x' : Value} (rx : VR m x x') {κ : KH} (hk : kClear mp e z x h κ = true) :
    DidH P E m h w (Builtin.clear_ ts ty #[x']) κ := by
  have vt : VR m (.tuple ⟨[]⟩) (.tuple #[]) := .tuple [] [] .nil
  unfold kClear at hk
  split at hk
  · cases rx
    exact DidH.val rel hk (by simp [Builtin.clear_, h0, und T ht]) vt
  · cases rx
    exact DidH.val rel hk (by simp [Builtin.clear_, h0, und T ht]) vt
  · obtain ⟨L, hm, rfl⟩ := map_of rx
    obtain ⟨es, c, hg, hk⟩ := of_mapK hk
    obtain ⟨ces, g1, g2⟩ := mapOb (rel.obj _ L _ hm hg)
    rw [setObjK_eq] at hk
    obtain ⟨w', r1, W⟩ := run_setObj (P := P) g1 (fun _ _ _ => by simp) (.map #[] c)
    obtain ⟨r2, e2⟩ := rel_set (w' := w') (y := .map [] c) rel hm hg rfl W.size W.os W.tape W.output W.rest ⟨#[], W.at_, .nil⟩
    refine ⟨_, _, m, w', .tuple #[], hk, ?_, vt, r2, e2⟩
    simp [Builtin.clear_, h0, und T ht, run_getObj g1, r1]
  · rename_i b o n cap
    split at hk
    · rename_i hz
      have hz := beq_of hz; subst hz
      cases rx <;> exact DidH.val rel hk (by simp [Builtin.clear_, h0, und T ht]) vt
    · rename_i hz
      have hz := beq_ne hz
      obtain ⟨cs, e', rw_, hgb, hk⟩ := of_rowK hk
      split at hk
      · simp at hk
      · rename_i hc
        simp only [Bool.and_eq_true, Bool.not_eq_true'] at hc
        obtain ⟨⟨⟨hmp, hrw⟩, hee⟩, hone⟩ := hc
        subst hrw
        have hee := beq_of hee; subst hee
        obtain ⟨te, hk1, hte, htz, hgo⟩ := hsl hmp
        obtain ⟨hsz, hby, hza, hzl, _⟩ := good_of hgo
        rw [replK_eq] at hk
        obtain ⟨hsp, hk⟩ := of_spliceK hk
        rw [setObjK_eq] at hk
        rcases sl_of rx with ⟨L, cc, hm, hn', ht', hu, hc', rfl⟩ | ⟨_, _, h2, _⟩
        · have hna : noAddrs (rep z n) = true := noAddrs_rep (all_noAddrs (htz ▸ hza)) n
          have hon : (rep z n).all oneCell = true := rep_all hone n
          obtain ⟨w', g1, g2, g3⟩ := row_store rel hm hgb hsp (noAddrs_refl m _ hna) hon
          refine ⟨_, _, m, w', .tuple #[], hk, ?_, vt, g2, g3⟩
          obtain ⟨i, zv, _, _, h3, _, h5, _, _, _⟩ := inf T hte
          have : (Builtin.zeroCells zv.cells n).toList = rep z n := by rw [zeros_cells, h5, htz]
          have hnz : ∀ A cc, Value.slice A n cc ≠ .slice A 0 cc := fun A cc hh => hz (by cases hh; rfl)
          cases n with
          | zero => exact absurd rfl hz
          | succ n => simp [Builtin.clear_, h0, und T ht, hk1, h3, this, g1]
        · exact absurd h2 hz
  · simp at hk

theorem k_sdata {ts : Array TypeId} {ty : TypeId} {h : AH} (rel : Rel P E m h w) {x x' : Value} (rx : VR m x x') {κ : KH} (hk : fSdata x (fun v => κ v h) = true) :
    DidH P E m h w (Builtin.unsafeSliceData_ ts ty #[x']) κ := by
  unfold fSdata at hk
  split at hk
  · cases rx
    exact DidH.val rel hk rfl .ptr0
  · split at hk
    · simp at hk
    · rename_i hz
      have hz := beq_ne hz
      rcases sl_of rx with ⟨L, cc, hm, hn', ht', hu, hc', rfl⟩ | ⟨_, _, h2, _⟩
      · refine DidH.val rel hk (v' := .pointer (some ⟨L.blk, L.off + _, none⟩)) ?_ (.ptr _ _ L hm)
        have : cc ≠ 0 := by omega
        show Sem.run P (if cc ≠ 0 then pure (Value.pointer (some ⟨L.blk, L.off + _, none⟩)) else _) w = _
        rw [if_pos this]; rfl
      · exact absurd h2 hz
  · simp at hk

/-- A row lies where its own type's variables lie. -/
theorem lies_same {e off cells n : Nat} (hs : P.cellsOf e ≠ 0) (ho : off % P.cellsOf e = 0) (hn : off / P.cellsOf e + n ≤ cells / P.cellsOf e) :
    liesAt P P.depth e (cells / P.cellsOf e) off e n = true := by
  have hd : P.depth = (2 * (P.types.size + Made.depth) + 1) + 1 := rfl
  rw [hd]
  have h1 : sameLayout P ((2 * (P.types.size + Made.depth) + 1) + 1) e e = true := by simp [sameLayout]
  simp only [liesAt, rowAt, hd, h1, hs, if_false, ho, hn]
  simp

theorem run_vars {B : Nat} {ccs : Array Value} {e off n : Nat} {fz : Nat × Nat} (h : w.heap[B]? = some (.cells ccs e fz)) (hs : P.cellsOf e ≠ 0) (ho : off % P.cellsOf e = 0)
    (hn : off / P.cellsOf e + n ≤ ccs.size / P.cellsOf e) : (variablesAt ⟨B, off, none⟩ e n).run P w = .ok true w := by
  simp [variablesAt, World.shape?, h, lies_same hs ho hn]

theorem run_loadBytes {B : Nat} {ccs : Array Value} {e : TypeId} {fz : Nat × Nat} (h : w.heap[B]? = some (.cells ccs e fz)) :
    ∀ (n off : Nat) (l : List UInt8) (acc : ByteArray), bytesOf ((ccs.toList.drop off).take n) = some l → off + n ≤ ccs.size →
      (loadBytes ⟨B, off, none⟩ acc n).run P w = .ok ⟨⟨acc.data.toList ++ l⟩⟩ w
  | 0, off, l, acc, hl, _ => by
    simp [bytesOf] at hl; subst hl
    show Result.ok acc w = _
    congr 1
    apply ByteArray.ext; apply Array.ext'; simp
  | n + 1, off, l, acc, hl, hn => by
    have hlt : off < ccs.size := by omega
    have hd : ccs.toList.drop off = ccs[off] :: ccs.toList.drop (off + 1) := by
      rw [List.drop_eq_getElem_cons (by simpa using hlt)]; simp
    rw [hd, List.take_succ_cons] at hl
    have hc : w.cell? ⟨B, off, none⟩ = some ccs[off] := by rw [cell_of h]; exact Array.getElem?_eq_getElem hlt
    unfold bytesOf at hl
    split at hl
    · cases ‹_ = []›
    · rename_i c vs he
      simp only [List.cons.injEq] at he
      obtain ⟨he1, he2⟩ := he
      split at hl
      · rename_i l' hl'
        simp only [Option.some.injEq] at hl
        subst hl
        rw [← he2] at hl'
        simp only [loadBytes, Sem.run_bind, run_load, hc, Result.andThen_ok, he1, Addr.add_lit]
        rw [run_loadBytes h n (off + 1) l' _ hl' (by omega)]
        congr 1
        apply ByteArray.ext; apply Array.ext'
        simp [ByteArray.data_push]
      · cases hl
    · cases hl

theorem bytes_same : ∀ {l l' : List Value} {s : List UInt8}, VRs m l l' → bytesOf l = some s → bytesOf l' = some s
  | _, _, s, .nil, h => h
  | _, _, s, .cons v v' l l' hv hl, h => by
    unfold bytesOf at h
    split at h
    · cases ‹_ = []›
    · rename_i c vs he
      simp only [List.cons.injEq] at he
      obtain ⟨rfl, rfl⟩ := he
      split at h
      · rename_i l1 h1
        simp only [Option.some.injEq] at h; subst h
        have := noAddr_eq hv rfl
        subst this
        simp only [bytesOf, bytes_same hl h1]
      · cases h
    · cases h

/-- Bytes of a row that a string is made of. -/
theorem k_ustr (T : TyOk P E.ty) {ts : Array TypeId} {t e : Nat} {te : TI} {z : List Value} {s b : Nat} (h0 : ts[0]? = some t) (ht : E.ty t = some ⟨.pointer e, z, s, b⟩) (hte : E.ty e = some te) (hsz : te.size = 1)
    {ty : TypeId} {h : AH} (rel : Rel P E m h w) {x y x' y' : Value} (rx : VR m x x') (ry : VR m y y') {κ : KH} (hk : unsafeK e x y h κ = true) :
    DidH P E m h w (Builtin.unsafeString_ ts ty #[x', y']) κ := by
  unfold unsafeK at hk
  obtain ⟨_, _, _, _, _, _, _, _, _, hcell⟩ := inf T hte
  split at hk
  · split at hk
    · rename_i k n _ hn
      have hn := beq_of hn; subst hn
      cases rx
      have := int_of ry; subst this
      refine DidH.val rel hk ?_ (.string _)
      show Sem.run P (asInt (Value.int k (Int.ofNat 0)) >>= _) w = _
      simp [asInt, asIntOf, h0]
    · simp at hk
  · rename_i b' o k n
    obtain ⟨cs, e', rw_, hgb, hk⟩ := of_rowK hk
    split at hk
    · simp at hk
    · rename_i hc
      simp only [Bool.and_eq_true, Bool.not_eq_true'] at hc
      obtain ⟨⟨⟨hrw, hee⟩, hnm⟩, hz⟩ := hc
      subst hrw
      have hee := beq_of hee; subst hee
      have hnm := ble_of hnm
      have hz := beq_ne hz
      obtain ⟨hsg, hk⟩ := of_segK hk
      split at hk
      · rename_i l hl
        rw [setObjK_eq] at hk
        obtain ⟨L, hm, rfl⟩ := ptr_of rx
        have := int_of ry; subst this
        obtain ⟨ccs, fz, q1, q2, q3, q4, q5, q6, q7⟩ := rel.obj b' L _ hm hgb
        have hbt := bytes_same (q6.seg o n) hl
        rw [seg_seg _ L.off L.rl o n (by omega)] at hbt
        obtain ⟨r2, e2⟩ := rel_kill (w' := w.freeze ⟨L.blk, L.off + o, none⟩ n) rel hm hgb rfl (by simp [World.freeze, hz]) (by simp [World.freeze, hz]) (by simp [World.freeze, hz]) (by simp [World.freeze, hz]) (fun B hB => by
          simp only [World.freeze, hz, if_false, Array.getElem?_modify]; rw [if_neg (fun e => hB e.symm)])
        refine ⟨_, _, m, w.freeze ⟨L.blk, L.off + o, none⟩ n, .string ⟨⟨l⟩⟩, hk, ?_, .string _, r2, e2⟩
        have hv : (variablesAt ⟨L.blk, L.off + o, none⟩ e n).run P w = .ok true w := run_vars q1 (by rw [hcell, hsz]; omega) (by rw [hcell, hsz]; exact Nat.mod_one _) (by rw [hcell, hsz, Nat.div_one, Nat.div_one]; omega)
        have hb := run_loadBytes (P := P) q1 n (L.off + o) l .empty hbt (by omega)
        show Sem.run P (asInt (Value.int k (Int.ofNat n)) >>= _) w = _
        have hn2 : ¬ ((9223372036854775807 : Int) < (n : Int)) := by unfold maxN at hnm; omega
        have hn3 : ¬ ((n : Int) < 0) := by omega
        simp [asInt, asIntOf, h0, hn2, hn3, hz, elemOf, und T ht, hv, hb]
      · simp at hk
  · simp at hk

end
end Go.Abs

/- Conversions; new maps and slices. -/
namespace Go.Abs
variable {P : Program} {E : Env}
section
variable {nt : Nat} {m : M} {st : St} {a : Act} {w : World} {κ : KO}

theorem run_seenAt {A : Addr} {ccs : Array Value} {e : TypeId} {fz : Nat × Nat} (h : w.heap[A.block]? = some (.cells ccs e fz)) : (Conv.seenAt A).run P w = .ok A w := by
  simp [Conv.seenAt, viewAt, World.shape?, h]

theorem k_cvPtr (T : TyOk P E.ty) {s d e : Nat} {ts td te : TI} (hs : E.ty s = some ts) (hd : E.ty d = some td) (hsk : ts.k = .pointer e) (hdk : td.k = .unsafePointer) (hte : E.ty e = some te) (hsz : te.size ≠ 0)
    {h : AH} (rel : Rel P E m h w) {x x' : Value} (rx : VR m x x') {κ : KH} {n : Nat} (hk : fCvPtr n x h (fun v => κ v h) = true) : DidH P E m h w (convert s d x') κ := by
  unfold fCvPtr at hk
  obtain ⟨b, i, rfl, hk⟩ := of_ptrK hk
  obtain ⟨cs, e', rw_, hg, hk⟩ := of_rowK hk
  split at hk
  · rename_i hi
    have hi := blt_of hi
    obtain ⟨L, hm, rfl⟩ := ptr_of rx
    obtain ⟨ccs, fz, q1, q2, q3, q4, q5, q6, q7⟩ := rel.obj b L _ hm hg
    refine DidH.val rel hk ?_ rx
    have hlt : ¬ ccs.size ≤ L.off + i := by omega
    simp [convert, und T hs, und T hd, hsk, hdk, Conv.unsafePointer, run_seenAt (A := ⟨L.blk, L.off + i, none⟩) q1, cellsIn, World.shape?, q1, siz T hte, hsz, hlt]
  · simp at hk

theorem k_cvBack (T : TyOk P E.ty) {s d e : Nat} {ts td te : TI} (hs : E.ty s = some ts) (hd : E.ty d = some td) (hsk : ts.k = .unsafePointer) (hdk : td.k = .pointer e) (hte : E.ty e = some te) (hsz : te.size ≠ 0)
    {h : AH} (rel : Rel P E m h w) {x x' : Value} (rx : VR m x x') {κ : KH} (hk : fCvBack e te.size x h (fun v => κ v h) = true) : DidH P E m h w (convert s d x') κ := by
  unfold fCvBack at hk
  obtain ⟨b, i, rfl, hk⟩ := of_ptrK hk
  obtain ⟨cs, e', rw_, hg, hk⟩ := of_rowK hk
  split at hk
  · rename_i hc
    simp only [Bool.and_eq_true] at hc
    obtain ⟨⟨hi, hee⟩, hl⟩ := hc
    have hi := beq_of hi; subst hi
    have hee := beq_of hee; subst hee
    have hl := beq_of hl
    obtain ⟨L, hm, rfl⟩ := ptr_of rx
    obtain ⟨ccs, fz, q1, q2, q3, q4, q5, q6, q7⟩ := rel.obj b L _ hm hg
    obtain ⟨_, _, _, _, _, _, _, _, _, hcell⟩ := inf T hte
    have hal := rel.al b L hm
    refine DidH.val rel hk ?_ rx
    have hLs : L.sz = te.size := by rw [← q3, hcell]
    have hv : (variablesAt ⟨L.blk, L.off + 0, none⟩ e 1).run P w = .ok true w := run_vars q1 (by rw [hcell]; exact hsz) (by rw [hcell, ← hLs]; exact hal) (by
      rw [hcell, Nat.add_zero]
      have hpos : 0 < te.size := Nat.pos_of_ne_zero hsz
      have h1 : L.off + te.size ≤ ccs.size := by omega
      have h2 : (L.off + te.size) / te.size ≤ ccs.size / te.size := Nat.div_le_div_right h1
      rw [Nat.add_div_right _ hpos] at h2; exact h2)
    rw [Nat.add_zero] at hv
    simp [convert, und T hs, und T hd, hsk, hdk, Conv.unsafePointer, run_seenAt (A := ⟨L.blk, L.off, none⟩) q1, siz T hte, hsz, hv]
  · simp at hk

/-- Bytes pushed one by one. -/
theorem run_pushAll {f : Value → ByteArray → Sem (ForInStep ByteArray)} (hf : ∀ c r, f (.int .u8 c) r = pure (.yield (r.push (UInt8.ofNat c.toNat)))) :
    ∀ (l : List Value) (s : List UInt8) (acc : ByteArray), bytesOf l = some s → ∀ w : World, (forIn (m := Sem) l acc f).run P w = .ok ⟨⟨acc.data.toList ++ s⟩⟩ w
  | [], s, acc, h, w => by
    simp [bytesOf] at h; subst h
    simp only [List.forIn_nil]
    show Result.ok acc w = _
    congr 1
    apply ByteArray.ext; apply Array.ext'; simp
  | v :: l, s, acc, h, w => by
    unfold bytesOf at h
    split at h
    · cases ‹_ = []›
    · rename_i c vs he
      simp only [List.cons.injEq] at he
      obtain ⟨rfl, rfl⟩ := he
      split at h
      · rename_i l1 h1
        simp only [Option.some.injEq] at h; subst h
        simp only [List.forIn_cons, Sem.run_bind, hf, Sem.run_pure, Result.andThen_ok]
        rw [run_pushAll hf l l1 _ h1 w]
        congr 1
        apply ByteArray.ext; apply Array.ext'
        simp [ByteArray.data_push]
      · cases h
    · cases h

theorem k_cvStr (T : TyOk P E.ty) {s d e : Nat} {ts td : TI} (hs : E.ty s = some ts) (hd : E.ty d = some td) (hsk : ts.k = .slice e) (hdk : td.k = .string) {te : TI} (hte : E.ty e = some te) (htk : te.k = .int .u8)
    {h : AH} (rel : Rel P E m h w) {x x' : Value} (rx : VR m x x') {κ : KH} (hk : fCvStr x h (fun v => κ v h) = true) : DidH P E m h w (convert s d x') κ := by
  unfold fCvStr at hk
  split at hk
  · cases rx
    refine DidH.val rel hk ?_ (.string _)
    simp [convert, und T hs, und T hd, hsk, hdk, und T hte, htk, Conv.bytesToString]
  · rename_i b o n c
    have go : ∀ A cc l s', (loadCells A n).run P w = .ok ⟨l⟩ w → bytesOf l = some s' → (convert s d (.slice (some A) n cc)).run P w = .ok (.string ⟨⟨s'⟩⟩) w := by
      intro A cc l s' h1 h2
      simp only [convert, Sem.run_bind, und T hs, und T hd, hsk, hdk, und T hte, htk, Conv.bytesToString, Result.andThen_ok, h1]
      rw [← Array.forIn_toList, run_pushAll (fun c r => rfl) l s' .empty h2 w]
      simp [ByteArray.empty, ByteArray.emptyWithCapacity]
      rfl
    split at hk
    · rename_i hz
      have hz := beq_of hz; subst hz
      cases rx with
      | sl _ _ _ _ cc L hm hn ht hu hc => exact DidH.val rel hk (go _ _ [] [] (by simp [loadCells, loadCellsFrom]) rfl) (.string _)
      | slE A _ cc _ => exact DidH.val rel hk (go _ _ [] [] (by simp [loadCells, loadCellsFrom]) rfl) (.string _)
    · rename_i hz
      have hz := beq_ne hz
      obtain ⟨cs, e', rw_, hg, hk⟩ := of_rowK hk
      obtain ⟨hl, hk⟩ := of_segK hk
      split at hk
      · rename_i l hl'
        rcases sl_of rx with ⟨L, cc, hm, hn', ht', hu, hc', rfl⟩ | ⟨_, _, h2, _⟩
        · obtain ⟨vs, g1, g2⟩ := row_load (rel.obj b L _ hm hg) hl
          exact DidH.val rel hk (go _ _ vs l (g1 w rfl) (bytes_same g2 hl')) (.string _)
        · exact absurd h2 hz
      · simp at hk
  · simp at hk

theorem k_cvBytes (T : TyOk P E.ty) {s d e : Nat} {ts td : TI} (hs : E.ty s = some ts) (hd : E.ty d = some td) (hsk : ts.k = .string) (hdk : td.k = .slice e) {te : TI} (hte : E.ty e = some te) (htk : te.k = .int .u8) (hsz : te.size = 1)
    {h : AH} (rel : Rel P E m h w) {x x' : Value} (rx : VR m x x') {κ : KH} (hk : fCvBytes e x h κ = true) : DidH P E m h w (convert s d x') κ := by
  unfold fCvBytes at hk
  split at hk
  · rename_i q
    cases rx
    obtain ⟨hn, hk⟩ := of_newK hk
    obtain ⟨i, zv, i1, i2, i3, i4, i5, _, _, hcell⟩ := inf T hte
    have hna : noAddrs (ofBytes q.data.toList) = true := by
      have : ∀ l : List UInt8, noAddrs (ofBytes l) = true := by
        intro l; induction l with
        | nil => rfl
        | cons c l ih => simp only [ofBytes, List.map_cons, noAddrs, noAddr, Bool.true_and]; exact ih
      exact this _
    have hlen : (ofBytes q.data.toList).length = q.size := by simp [ofBytes]
    let c0 := (Question.appendCap q.size 0 e).cut (w.tape w.drawn (Question.appendCap q.size 0 e))
    have hc0 : q.size ≤ c0 := by show q.size ≤ Question.cut _ _; simp only [Question.cut]; omega
    let row : List Value := ofBytes q.data.toList ++ List.replicate (c0 - q.size) (.int .u8 0)
    have hrl : row.length = c0 := by simp only [row, List.length_append, hlen, List.length_replicate]; omega
    let o : Obj := .cells ⟨row⟩ e (c0, c0 + 1)
    obtain ⟨r, ev, le⟩ := rel_new (L := ⟨w.heap.size, 0, c0, te.size, q.size⟩) (x := .row (ofBytes q.data.toList) e true) (o := o) (w' := w.drew.alloc o) rel hn rfl rfl rfl rfl rfl (Nat.zero_mod _)
      (fun hle => ⟨⟨row⟩, (c0, c0 + 1), by
        show (w.heap.push _)[w.heap.size]? = _
        simp [o], by show row.length = c0; exact hrl, hcell, hlen, by
        show 0 + q.size ≤ c0; omega, by
        show VRs _ _ ((row.drop 0).take q.size)
        have : (row.drop 0).take q.size = ofBytes q.data.toList := by
          rw [List.drop_zero, ← hlen, List.take_left']; rfl
        rw [this]; exact noAddrs_refl _ _ hna, fun _ j hj hj' => by
          have hj' : j < c0 := hj'
          show ¬ (c0 ≤ j ∧ j < c0 + 1); omega⟩)
    refine ⟨_, _, _, w.drew.alloc o, .slice (some ⟨w.heap.size, 0, none⟩) q.size c0, hk, ?_, ?_, r, ev⟩
    · have hs1 : (Question.appendCap q.size 0 e).forced = false := rfl
      simp only [convert, Sem.run_bind, und T hs, und T hd, hsk, hdk, und T hte, htk, Result.andThen_ok, Conv.stringToBytes, run_choose, hs1]
      have harr : (Array.map (fun b : UInt8 => Value.int IntKind.u8 (b.toNat : Int)) q.data ++ Array.replicate (c0 - q.size) (Value.int IntKind.u8 0)) = ⟨row⟩ := by
        apply Array.ext'; simp [row, ofBytes]
      have hw : ((w.drew.alloc (.cells ⟨row⟩ e)).freeze ⟨w.heap.size, c0, none⟩ 1) = w.drew.alloc o := by
        simp only [World.freeze, World.alloc, World.drew, if_neg (Nat.one_ne_zero)]
        congr 1
        apply Array.ext_getElem?
        intro j
        simp only [Array.getElem?_modify, Array.getElem?_push]
        by_cases hj : j = w.heap.size
        · subst hj; simp [o]
        · rw [if_neg (fun e => hj e.symm), if_neg hj, if_neg hj]
      rw [if_neg (by simp), Result.andThen_ok]
      rw [show ((Question.appendCap q.size 0 e).cut (w.tape w.drawn (Question.appendCap q.size 0 e))) = c0 from rfl, harr]
      simp only [newRow, Sem.run_bind, run_newObj, Result.andThen_ok, Sem.run_pure]
      have hsh : World.shape? (w.drew.alloc (.cells ⟨row⟩ e)) w.heap.size = some (e, c0) := by
        simp only [World.shape?, World.alloc, World.drew]
        rw [Array.getElem?_push, if_pos rfl]
        show some (e, row.length) = _
        rw [hrl]
      show (Result.andThen (Sem.run P (markStringish ⟨w.heap.size, 0, none⟩) (w.drew.alloc (.cells ⟨row⟩ e))) _) = _
      simp only [markStringish, Sem.run_bind, run_shape, hsh, Result.andThen_ok, run_freeze, hw]
    · have := VR.sl (m := upd m h.nx ⟨w.heap.size, 0, c0, te.size, q.size⟩) h.nx 0 q.size unk c0 _ (upd_same _ _ _) hc0 (by show 0 + 0 + c0 * te.size ≤ c0; rw [hsz]; omega)
        (fun _ => by show q.size ≤ 0 + c0 * te.size; rw [hsz]; omega) (fun e => absurd rfl e)
      exact this
  · simp at hk

theorem k_mkMap {t : TypeId} {h : AH} (rel : Rel P E m h w) {κ : KH} (hk : (newK h (.map [] 0) fun h' => κ (.map (some h.nx)) h') = true) : DidH P E m h w (Instr.makeMap t none) κ := by
  obtain ⟨hn, hk⟩ := of_newK hk
  obtain ⟨r1, e1, l1⟩ := rel_new (L := ⟨w.heap.size, 0, 0, 0, 0⟩) (x := .map [] 0) (o := .map #[] 0) (w' := w.alloc (.map #[] 0)) rel hn rfl rfl rfl rfl rfl rfl
    (fun hle => ⟨#[], by show (w.heap.push _)[w.heap.size]? = _; simp, .nil⟩)
  refine ⟨_, _, _, _, .map (some w.heap.size), hk, ?_, ?_, r1, e1⟩
  · simp [Instr.makeMap]
  · exact .map h.nx ⟨w.heap.size, 0, 0, 0, 0⟩ (upd_same _ _ _)

theorem k_mkSlice (T : TyOk P E.ty) {t e : Nat} {te : TI} {z : List Value} {s b : Nat} (ht : E.ty t = some ⟨.slice e, z, s, b⟩) (hte : E.ty e = some te) (hg : good te = true)
    {h : AH} (rel : Rel P E m h w) {x y x' y' : Value} (rx : VR m x x') (ry : VR m y y') {κ : KH} (hk : fMkSlice e te.zero x y h κ = true) : DidH P E m h w (Instr.makeSlice t x' y') κ := by
  unfold fMkSlice at hk
  split at hk
  · rename_i l c
    split at hk
    · rename_i hc
      simp only [Bool.and_eq_true] at hc
      have h1 := ble_of hc.1
      have h2 := ble_of hc.2
      have := int_of rx; subst this
      have := int_of ry; subst this
      rw [replK_eq] at hk
      obtain ⟨hn, hk⟩ := of_newK hk
      obtain ⟨hsz, hby, hza, hzl, _⟩ := good_of hg
      obtain ⟨i, zv, i1, i2, i3, i4, i5, _, _, _⟩ := inf T hte
      have hzz : zv.cells.toList = te.zero := i5
      obtain ⟨r1, v1, l1⟩ := new_row (w' := w.alloc (.cells ⟨rep te.zero c⟩ e)) rel hn T hte (noAddrs_refl m _ (noAddrs_rep (all_noAddrs hza) c)) rfl rfl rfl rfl
      have hl : (rep te.zero c).length = c * te.size := by rw [rep_length, hzl]
      refine ⟨_, _, _, _, .slice (some ⟨w.heap.size, 0, none⟩) l c, hk, ?_, new_slice (te := te) (cs := rep te.zero c) l c _ h1 (by unfold unk; omega) (by rw [hl]; exact Nat.le_refl _), r1, v1⟩
      have c1 : ¬ ((281474976710656 : Int) < (te.bytes : Int) * (c : Int)) := by
        have : te.bytes * c ≤ 65536 * 1048576 := Nat.mul_le_mul hby h2
        omega
      have w1 : IntKind.i64.wrap (l : Int) = l := IntWalk.i64_in _ (by omega)
      have w2 : IntKind.i64.wrap (c : Int) = c := IntWalk.i64_in _ (by omega)
      have n1 : ¬ ((c : Int) < 0) := by omega
      have n2 : ¬ ((l : Int) < 0) := by omega
      have n3 : ¬ ((c : Int) < (l : Int)) := by omega
      have hzs : zv.cells.size = te.size := by rw [← Array.length_toList, hzz, hzl]
      have hza2 : zv.cells = ⟨te.zero⟩ := Array.ext' i5
      have hmk : (Array.range (c * te.size)).map (fun i => zv.cells[i % zv.cells.size]!) = ⟨rep te.zero c⟩ := by
        rw [hza2]; show Array.map (fun i => (⟨te.zero⟩ : Array Value)[i % te.zero.length]!) _ = _
        rw [← hzl, rep_zeros]
      by_cases h0 : c * te.size = 0
      · have hc0 : c = 0 := by
          rcases Nat.mul_eq_zero.1 h0 with h | h
          · exact h
          · exact absurd h hsz
        subst hc0
        have hl0 : l = 0 := by omega
        subst hl0
        have w3 : IntKind.i64.wrap 0 = 0 := by decide
        have hr0 : (Array.range 0).map (fun i => (#[] : Array Value)[i % (#[] : Array Value).size]!) = ⟨rep te.zero 0⟩ := by simp [rep]
        simp [Instr.makeSlice, und T ht, asInt, asIntOf, i1, i4, c1, w3, i2, newRow, rep]
        rw [Array.range_zero', Array.map_empty]
      · simp [Instr.makeSlice, und T ht, asInt, asIntOf, i1, i4, c1, w1, w2, n1, n2, n3, i2, h0, i3, newRow]
        rw [hmk]
    · simp at hk
  · simp at hk

end
end Go.Abs

/- Maps and iterators. -/
namespace Go.Abs
variable {P : Program} {E : Env}
section
variable {nt : Nat} {m : M} {st : St} {a : Act} {w : World} {κ : KO}

theorem pureRun_bind' {α β : Type} (f : α → Sem β) : ∀ x : Sem α, pureRun P (x.bind f) = (pureRun P x).bind fun a => pureRun P (f a)
  | .pure a => rfl
  | .program k => by simp only [Sem.bind, pureRun]; exact pureRun_bind' f (k P)
  | .mark _ k => by simp only [Sem.bind, pureRun]; exact pureRun_bind' f k
  | .load _ _ _ => rfl
  | .store _ _ _ _ => rfl
  | .new _ _ => rfl
  | .shape _ _ => rfl
  | .freeze _ _ _ => rfl
  | .frozen _ _ => rfl
  | .getObj _ _ => rfl
  | .setObj _ _ _ => rfl
  | .choose _ _ => rfl
  | .sys _ _ => rfl
  | .halt _ => rfl

theorem pureRun_bind {α β : Type} (x : Sem α) (f : α → Sem β) : pureRun P (x >>= f) = (pureRun P x).bind fun a => pureRun P (f a) := pureRun_bind' f x

/-- What is found, side by side. -/
inductive FR (m : M) : Option (Nat × Value) → Option (Nat × Value) → Prop
  | none : FR m none none
  | some (i : Nat) (v v' : Value) (h : VR m v v') : FR m (some (i, v)) (some (i, v'))

theorem findNow_rel {kind : TypeDesc} {k : Value} : ∀ {es ces : List MapEntry} (i : Nat), ERs m es ces → (∀ e ∈ es, noAddr e.key = true) →
    (Instr.findNow kind k es i = none ∧ Instr.findNow kind k ces i = none) ∨ ∃ r r', Instr.findNow kind k es i = some r ∧ Instr.findNow kind k ces i = some r' ∧ FR m r r'
  | _, _, i, .nil, _ => .inr ⟨none, none, rfl, rfl, .none⟩
  | _, _, i, .cons _ _ l l' (.mk ek ek' v v' b hk hv) hl, hn => by
    have := noAddr_eq hk (hn ⟨ek, v, b⟩ (List.mem_cons_self ..)); subst this
    have ih := findNow_rel (kind := kind) (k := k) (i + 1) hl (fun e he => hn e (by simp [he]))
    simp only [Instr.findNow]
    cases Instr.sameNow kind k ek with
    | none => exact .inl ⟨rfl, rfl⟩
    | some q =>
      cases q with
      | true => exact .inr ⟨_, _, rfl, rfl, .some i v v' hv⟩
      | false => exact ih

theorem findAsking_rel {kt : TypeId} {k : Value} : ∀ {es ces : List MapEntry} (i : Nat), ERs m es ces → (∀ e ∈ es, noAddr e.key = true) → ∀ {r}, pureRun P (Instr.findAsking kt k es i) = some r →
    ∃ r', pureRun P (Instr.findAsking kt k ces i) = some r' ∧ FR m r r'
  | _, _, i, .nil, _, r, h => by
    simp only [Instr.findAsking] at h ⊢
    cases h
    exact ⟨none, rfl, .none⟩
  | _, _, i, .cons _ _ l l' (.mk ek ek' v v' b hk hv) hl, hn, r, h => by
    have := noAddr_eq hk (hn ⟨ek, v, b⟩ (List.mem_cons_self ..)); subst this
    simp only [Instr.findAsking, pureRun_bind] at h ⊢
    cases he : pureRun P (Op.equal kt k ek) with
    | none => rw [he] at h; cases h
    | some q =>
      rw [he] at h
      cases q with
      | true =>
        simp only [Option.bind_some, if_true] at h ⊢
        cases h
        exact ⟨_, rfl, .some i v v' hv⟩
      | false =>
        simp only [Option.bind_some, Bool.false_eq_true, if_false] at h ⊢
        exact findAsking_rel (i + 1) hl (fun e he => hn e (by simp [he])) h

theorem findKey_rel {kt : TypeId} {k : Value} {es ces : List MapEntry} (hl : ERs m es ces) (hn : ∀ e ∈ es, noAddr e.key = true) {r} (h : pureRun P (Instr.findKey kt k es) = some r) :
    ∃ r', pureRun P (Instr.findKey kt k ces) = some r' ∧ FR m r r' := by
  simp only [Instr.findKey, pureRun_bind] at h ⊢
  cases hu : pureRun P (underlying kt) with
  | none => rw [hu] at h; cases h
  | some d =>
    rw [hu] at h
    simp only [Option.bind_some] at h ⊢
    rcases findNow_rel (kind := d) (k := k) 0 hl hn with ⟨e1, e2⟩ | ⟨q, q', e1, e2, e3⟩
    · rw [e1] at h; rw [e2]
      exact findAsking_rel 0 hl hn h
    · rw [e1] at h; rw [e2]
      cases h
      exact ⟨q', rfl, e3⟩

theorem of_findK {kt : TypeId} {k : Value} {es : List MapEntry} {κ : Option (Nat × Value) → Bool} (h : findK P kt k es κ = true) :
    ∃ r, κ r = true ∧ noAddr k = true ∧ (∀ e ∈ es, noAddr e.key = true) ∧ (∃ u, pureRun P (Instr.checkKey es.isEmpty 10000 kt k) = some u) ∧ (∃ u, pureRun P (Instr.checkKey false 10000 kt k) = some u) ∧
      pureRun P (Instr.findKey kt k es) = some r := by
  unfold findK at h
  split at h
  · simp at h
  · rename_i hk
    simp only [keyOk, Bool.and_eq_true] at hk
    obtain ⟨⟨⟨h1, h2⟩, h3⟩, h4⟩ := hk
    split at h
    · rename_i r hr
      exact ⟨r, h, h1, List.all_eq_true.1 h2, Option.isSome_iff_exists.1 h3, Option.isSome_iff_exists.1 h4, hr⟩
    · simp at h

/-- What the model finds. -/
theorem run_find {kt : TypeId} {k k' : Value} {es : List MapEntry} {ces : List MapEntry} (hk : VR m k k') (hl : ERs m es ces) {κ : Option (Nat × Value) → Bool} (h : findK P kt k es κ = true) :
    ∃ r r', κ r = true ∧ k' = k ∧ noAddr k = true ∧ FR m r r' ∧ (∀ w : World, (Instr.checkKey ces.isEmpty 10000 kt k).run P w = .ok () w) ∧ (∀ w : World, (Instr.checkKey false 10000 kt k).run P w = .ok () w) ∧
      (∀ w : World, (Instr.findKey kt k ces).run P w = .ok r' w) ∧ pureRun P (Instr.findKey kt k es) = some r := by
  obtain ⟨r, h1, h2, h3, ⟨_, h4⟩, ⟨_, h5⟩, h6⟩ := of_findK h
  obtain ⟨r', g1, g2⟩ := findKey_rel hl h3 h6
  have he : es.isEmpty = ces.isEmpty := by cases hl <;> rfl
  exact ⟨r, r', h1, (noAddr_eq hk h2).symm, h2, g2, he ▸ pureRun_run h4, pureRun_run h5, pureRun_run g1, h6⟩

theorem findKey_nil {kt : TypeId} {k : Value} {r} (h : pureRun P (Instr.findKey kt k []) = some r) : r = none := by
  simp only [Instr.findKey, pureRun_bind, Instr.findNow] at h
  cases hu : pureRun P (underlying kt) with
  | none => rw [hu] at h; cases h
  | some d => rw [hu] at h; cases h; rfl

theorem okV_rel {v v' : Value} (h : VR m v v') (ok is : Bool) : VR m (okV ok v is) (if ok then .tuple #[v', .bool is] else v') := by
  cases ok with
  | true => exact .tuple _ _ (.cons _ _ _ _ h (.cons _ _ _ _ (.bool is) .nil))
  | false => exact h

theorem k_lookup (T : TyOk P E.ty) {t kt et : Nat} {z : Value} {zl : List Value} {s b : Nat} (ht : E.ty t = some ⟨.map kt et, zl, s, b⟩) (hz : zeroOf E et = some z) (hza : noAddr z = true) {ok : Bool}
    {h : AH} (rel : Rel P E m h w) {x y x' y' : Value} (rx : VR m x x') (ry : VR m y y') {κ : KH} (hk : kLookup P kt z ok x y h κ = true) : DidH P E m h w (Instr.lookup t x' y' ok) κ := by
  unfold kLookup at hk
  have hzr := noAddr_refl m z hza
  split at hk
  · cases rx
    obtain ⟨r, r', h1, rfl, h3, h4, h5, h6, h7, h8⟩ := run_find ry .nil hk
    have := findKey_nil h8
    subst this
    cases h4
    refine DidH.val rel h1 ?_ (okV_rel hzr ok false)
    have h5 : (Instr.checkKey true 10000 kt y').run P w = .ok () w := h5 w
    have h7 := h7 w
    simp [Instr.lookup, und T ht, h5, h7, zeroOf_of T hz]
  · rename_i b'
    obtain ⟨L, hm, rfl⟩ := map_of rx
    obtain ⟨es, c, hg, hk⟩ := of_mapK hk
    obtain ⟨ces, g1, g2⟩ := mapOb (rel.obj _ L _ hm hg)
    obtain ⟨r, r', h1, rfl, h3, h4, h5, h6, h7, h8⟩ := run_find ry g2 hk
    have he : ces.isEmpty = ces.toList.isEmpty := by simp
    have h5 := h5 w
    rw [← he] at h5
    have h7 := h7 w
    cases h4 with
    | none =>
      refine DidH.val rel h1 ?_ (okV_rel hzr ok false)
      simp [Instr.lookup, und T ht, run_getObj g1, h5, h7, zeroOf_of T hz]
    | some i v v' hv =>
      refine DidH.val rel h1 ?_ (okV_rel hv ok true)
      simp [Instr.lookup, und T ht, run_getObj g1, h5, h7]
  · simp at hk

theorem of_setEntry {f : MapEntry → MapEntry} : ∀ {i : Nat} {es : List MapEntry} {κ : List MapEntry → Bool}, setEntry f i es κ = true → κ (es.modify i f) = true
  | _, [], _, h => by simp [setEntry] at h
  | 0, e :: es, κ, h => by simpa [setEntry] using h
  | i + 1, e :: es, κ, h => by
    have := of_setEntry (i := i) (es := es) (by simpa only [setEntry] using h)
    simpa using this

theorem pushEntry_eq (x : MapEntry) : ∀ (es : List MapEntry) (κ : List MapEntry → Bool), pushEntry x es κ = κ (es ++ [x])
  | [], κ => rfl
  | e :: es, κ => by simp only [pushEntry, pushEntry_eq x es, List.cons_append]

theorem ERs.modify {f g : MapEntry → MapEntry} (hfg : ∀ e e', ER m e e' → ER m (f e) (g e')) : ∀ {es ces : List MapEntry} (i : Nat), ERs m es ces → ERs m (es.modify i f) (ces.modify i g)
  | _, _, i, .nil => by simp; exact .nil
  | _, _, 0, .cons e e' l l' h hl => by simp; exact .cons _ _ _ _ (hfg _ _ h) hl
  | _, _, i + 1, .cons e e' l l' h hl => by simp; exact .cons _ _ _ _ h (ERs.modify hfg i hl)

/-- A map is written. -/
theorem map_write {h : AH} (rel : Rel P E m h w) {b : Nat} {L : Loc} {es es' : List MapEntry} {c c' : Nat} (hm : m b = some L) (hg : h.get b = some (.map es c)) {ces ces' : Array MapEntry}
    (g1 : w.heap[L.blk]? = some (.map ces c)) (hl : ERs m es' ces'.toList) :
    ∃ w', (setObj L.blk (.map ces' c')).run P w = .ok () w' ∧ Rel P E m (h.set b (some (.map es' c'))) w' ∧ Ev m h w m (h.set b (some (.map es' c'))) w' := by
  obtain ⟨w', r1, W⟩ := run_setObj (P := P) g1 (fun _ _ _ => by simp) (.map ces' c')
  obtain ⟨r2, e2⟩ := rel_set (w' := w') (y := .map es' c') rel hm hg rfl W.size W.os W.tape W.output W.rest ⟨ces', W.at_, hl⟩
  exact ⟨w', r1, r2, e2⟩

/-- The entry that is found, in the model. -/
theorem key_stays {es : List MapEntry} {ces : Array MapEntry} (hl : ERs m es ces.toList) (hn : ∀ e ∈ es, noAddr e.key = true) {i : Nat} {k : Value} (hs : sameKey i k es = true) :
    ∃ e e', es[i]? = some e ∧ ces[i]? = some e' ∧ ER m e e' ∧ (Instr.keyThatStays (((ces[i]?).map (·.key)).getD k) k).run P w = .ok k w := by
  unfold sameKey at hs
  split at hs
  · rename_i e he
    obtain ⟨e', h1, h2⟩ := hl.get he
    have h1' : ces[i]? = some e' := by rw [← Array.getElem?_toList]; exact h1
    have hmem := hn e (List.mem_of_getElem? he)
    refine ⟨e, e', he, h1', h2, ?_⟩
    obtain ⟨ek, ek', v, v', b, hk, hv⟩ := h2
    have := noAddr_eq hk hmem; subst this
    simp only at hs
    simp [h1', Instr.keyThatStays, hs]
  · simp at hs

theorem k_mapUpd (T : TyOk P E.ty) {t kt et : Nat} {zl : List Value} {s b : Nat} (ht : E.ty t = some ⟨.map kt et, zl, s, b⟩)
    {h : AH} (rel : Rel P E m h w) {x y u x' y' u' : Value} (rx : VR m x x') (ry : VR m y y') (ru : VR m u u') {κ : KH} (hk : kMapUpd P kt x y u h κ = true) :
    ∃ h' m' w', κ undef h' = true ∧ (Instr.mapUpdate t x' y' u').run P w = .ok () w' ∧ Rel P E m' h' w' ∧ Ev m h w m' h' w' := by
  unfold kMapUpd at hk
  split at hk
  · rename_i b'
    obtain ⟨L, hm, rfl⟩ := map_of rx
    obtain ⟨es, c, hg, hk⟩ := of_mapK hk
    obtain ⟨ces, g1, g2⟩ := mapOb (rel.obj _ L _ hm hg)
    have hnk := (of_findK hk)
    obtain ⟨_, _, _, hnk, _⟩ := hnk
    obtain ⟨r, r', hk, rfl, h3, h4, h5, h6, h7, h8⟩ := run_find ry g2 hk
    have h6 := h6 w
    have h7 := h7 w
    cases h4 with
    | some i v v' hv =>
      simp only at hk
      split at hk
      · simp at hk
      · rename_i hs
        have hk := of_setEntry hk
        rw [setObjK_eq] at hk
        obtain ⟨e, e', q1, q2, q3, q4⟩ := key_stays (P := P) (w := w) g2 hnk hs
        obtain ⟨w', r1, r2, r3⟩ := map_write (c' := c) (es' := es.modify i fun e => ⟨y', u, e.born⟩) (ces' := ces.modify i fun e => ⟨y', u', e.born⟩) rel hm hg g1 (by
          rw [Array.toList_modify]
          exact ERs.modify (fun e e' he => by cases he; exact .mk _ _ _ _ _ ry ru) i g2)
        refine ⟨_, m, w', hk, ?_, r2, r3⟩
        simp [Instr.mapUpdate, und T ht, run_getObj g1, h6, h7, q4, r1]
    | none =>
      simp only at hk
      rw [pushEntry_eq, setObjK_eq] at hk
      obtain ⟨w', r1, r2, r3⟩ := map_write (c' := c + 1) (es' := es ++ [⟨y', u, c⟩]) (ces' := ces.push ⟨y', u', c⟩) rel hm hg g1 (by
        rw [Array.toList_push]
        exact g2.append (.cons _ _ _ _ (.mk _ _ _ _ _ ry ru) .nil))
      refine ⟨_, m, w', hk, ?_, r2, r3⟩
      simp [Instr.mapUpdate, und T ht, run_getObj g1, h6, h7, r1]
  · simp at hk

theorem k_mapEnt (T : TyOk P E.ty) {t kt et : Nat} {z : Value} {zl : List Value} {s b : Nat} (ht : E.ty t = some ⟨.map kt et, zl, s, b⟩) (hz : zeroOf E et = some z) (hza : noAddr z = true)
    {h : AH} (rel : Rel P E m h w) {x y x' y' : Value} (rx : VR m x x') (ry : VR m y y') {κ : KH} (hk : kMapEnt P kt z x y h κ = true) : DidH P E m h w (Instr.mapEntry t x' y') κ := by
  unfold kMapEnt at hk
  have hzr := noAddr_refl m z hza
  split at hk
  · rename_i b'
    obtain ⟨L, hm, rfl⟩ := map_of rx
    obtain ⟨es, c, hg, hk⟩ := of_mapK hk
    obtain ⟨ces, g1, g2⟩ := mapOb (rel.obj _ L _ hm hg)
    have hnk := (of_findK hk)
    obtain ⟨_, _, _, hnk, _⟩ := hnk
    obtain ⟨r, r', hk, rfl, h3, h4, h5, h6, h7, h8⟩ := run_find ry g2 hk
    have h6 := h6 w
    have h7 := h7 w
    cases h4 with
    | some i v v' hv =>
      simp only at hk
      split at hk
      · rename_i e0 hs he0
        have hk := of_setEntry hk
        rw [setObjK_eq] at hk
        obtain ⟨e, e', q1, q2, q3, q4⟩ := key_stays (P := P) (w := w) g2 hnk hs
        rw [he0] at q1; cases q1
        obtain ⟨w', r1, r2, r3⟩ := map_write (c' := c) (es' := es.modify i fun e => ⟨y', e.val, e.born⟩) (ces' := ces.modify i fun e => ⟨y', e.val, e.born⟩) rel hm hg g1 (by
          rw [Array.toList_modify]
          exact ERs.modify (fun e e' he => by cases he; exact .mk _ _ _ _ _ ry (by assumption)) i g2)
        obtain ⟨ek, ek', ev, ev', bb, hk1, hv1⟩ := q3
        refine ⟨_, _, m, w', .tuple #[v', .int .i64 bb], hk, ?_, .tuple _ _ (.cons _ _ _ _ hv (.cons _ _ _ _ (.int _ _) .nil)), r2, r3⟩
        simp only [q2, Option.map_some, Option.getD_some] at q4
        simp [Instr.mapEntry, und T ht, run_getObj g1, h6, h7, q4, r1, q2, goInt]
      · simp at hk
    | none =>
      simp only at hk
      rw [pushEntry_eq, setObjK_eq] at hk
      obtain ⟨w', r1, r2, r3⟩ := map_write (c' := c + 1) (es' := es ++ [⟨y', z, c⟩]) (ces' := ces.push ⟨y', z, c⟩) rel hm hg g1 (by
        rw [Array.toList_push]
        exact g2.append (.cons _ _ _ _ (.mk _ _ _ _ _ ry hzr) .nil))
      refine ⟨_, _, m, w', .tuple #[z, .int .i64 c], hk, ?_, .tuple _ _ (.cons _ _ _ _ hzr (.cons _ _ _ _ (.int _ _) .nil)), r2, r3⟩
      simp [Instr.mapEntry, und T ht, run_getObj g1, h6, h7, r1, zeroOf_of T hz, goInt]
  · simp at hk

theorem findIdx_born {n : Nat} : ∀ {es ces : List MapEntry}, ERs m es ces → ces.findIdx? (fun e => (e.born : Int) == (n : Int)) = es.findIdx? (fun e => Nat.beq e.born n)
  | _, _, .nil => rfl
  | _, _, .cons _ _ l l' (.mk k k' v v' b hk hv) hl => by
    simp only [List.findIdx?_cons]
    have : ((b : Int) == (n : Int)) = Nat.beq b n := by
      cases hb : Nat.beq b n with
      | true => rw [beq_of hb]; simp
      | false =>
        have := beq_ne hb
        simp; omega
    rw [this, findIdx_born hl]

theorem k_entSt {t : TypeId} {h : AH} (rel : Rel P E m h w) {x y u x' y' u' : Value} (rx : VR m x x') (ry : VR m y y') (ru : VR m u u') {κ : KH} (hk : kEntSt x y u h κ = true) :
    ∃ h' m' w', κ undef h' = true ∧ (Instr.entryStore t x' y' u').run P w = .ok () w' ∧ Rel P E m' h' w' ∧ Ev m h w m' h' w' := by
  unfold kEntSt at hk
  split at hk
  · rename_i b' k n
    obtain ⟨L, hm, rfl⟩ := map_of rx
    have := int_of ry; subst this
    obtain ⟨es, c, hg, hk⟩ := of_mapK hk
    obtain ⟨ces, g1, g2⟩ := mapOb (rel.obj _ L _ hm hg)
    split at hk
    · rename_i i hi
      have hk := of_setEntry hk
      rw [setObjK_eq] at hk
      obtain ⟨w', r1, r2, r3⟩ := map_write (c' := c) (es' := es.modify i fun e => ⟨e.key, u, e.born⟩) (ces' := ces.modify i fun e => ⟨e.key, u', e.born⟩) rel hm hg g1 (by
        rw [Array.toList_modify]
        exact ERs.modify (fun e e' he => by cases he; exact .mk _ _ _ _ _ (by assumption) ru) i g2)
      refine ⟨_, m, w', hk, ?_, r2, r3⟩
      have hf : ces.findIdx? (fun e => (e.born : Int) == (n : Int)) = some i := by
        have : ces.findIdx? (fun e => (e.born : Int) == (n : Int)) = ces.toList.findIdx? (fun e => (e.born : Int) == (n : Int)) := by
          obtain ⟨ces⟩ := ces; simp
        rw [this, findIdx_born g2]; exact hi
      simp [Instr.entryStore, run_getObj g1, asInt, asIntOf, hf, r1]
    · simp at hk
  · simp at hk

theorem k_rangeS (T : TyOk P E.ty) {t : Nat} {zl : List Value} {s b : Nat} (ht : E.ty t = some ⟨.string, zl, s, b⟩) {h : AH} (rel : Rel P E m h w) {x x' : Value} (rx : VR m x x') {κ : KH} (hk : fRangeS x h κ = true) :
    DidH P E m h w (Instr.range t x') κ := by
  unfold fRangeS at hk
  split at hk
  · rename_i q
    cases rx
    obtain ⟨hn, hk⟩ := of_newK hk
    obtain ⟨r1, e1, l1⟩ := rel_new (L := ⟨w.heap.size, 0, 0, 0, 0⟩) (x := .str q 0) (o := .stringIter q 0) (w' := w.alloc (.stringIter q 0)) rel hn rfl rfl rfl rfl rfl rfl
      (fun hle => ⟨by show (w.heap.push _)[w.heap.size]? = _; simp, rfl⟩)
    refine ⟨_, _, _, _, .pointer (some ⟨w.heap.size, 0, none⟩), hk, ?_, ?_, r1, e1⟩
    · simp [Instr.range, und T ht]
    · exact .ptr h.nx 0 ⟨w.heap.size, 0, 0, 0, 0⟩ (upd_same _ _ _)
  · simp at hk

theorem k_rangeM (T : TyOk P E.ty) {t kt et : Nat} {zl : List Value} {s b : Nat} (ht : E.ty t = some ⟨.map kt et, zl, s, b⟩) {h : AH} (rel : Rel P E m h w) {x x' : Value} (rx : VR m x x') {κ : KH} (hk : kRangeM x h κ = true) :
    DidH P E m h w (Instr.range t x') κ := by
  unfold kRangeM at hk
  split at hk
  · cases rx
    obtain ⟨hn, hk⟩ := of_newK hk
    obtain ⟨r1, e1, l1⟩ := rel_new (L := ⟨w.heap.size, 0, 0, 0, 0⟩) (x := .mapNil) (o := .mapIter none 0 #[] 0) (w' := w.alloc (.mapIter none 0 #[] 0)) rel hn rfl rfl rfl rfl rfl rfl
      (fun hle => ⟨rfl, by show (w.heap.push _)[w.heap.size]? = _; simp⟩)
    refine ⟨_, _, _, _, .pointer (some ⟨w.heap.size, 0, none⟩), hk, ?_, ?_, r1, e1⟩
    · simp [Instr.range, und T ht]
    · exact .ptr h.nx 0 ⟨w.heap.size, 0, 0, 0, 0⟩ (upd_same _ _ _)
  · obtain ⟨Lb, hm, rfl⟩ := map_of rx
    obtain ⟨es, c, hg, hk⟩ := of_mapK hk
    obtain ⟨ces, g1, g2⟩ := mapOb (rel.obj _ Lb _ hm hg)
    obtain ⟨hn, hk⟩ := of_newK hk
    obtain ⟨r1, e1, l1⟩ := rel_new (L := ⟨w.heap.size, 0, 0, 0, 0⟩) (x := .mapIt _ c [] c) (o := .mapIter (some Lb.blk) c #[] c) (w' := w.alloc (.mapIter (some Lb.blk) c #[] c)) rel hn rfl rfl rfl rfl rfl rfl
      (fun hle => ⟨rfl, Lb, hle _ _ hm, by show (w.heap.push _)[w.heap.size]? = _; simp⟩)
    refine ⟨_, _, _, _, .pointer (some ⟨w.heap.size, 0, none⟩), hk, ?_, ?_, r1, e1⟩
    · simp [Instr.range, und T ht, run_getObj g1]
    · exact .ptr h.nx 0 ⟨w.heap.size, 0, 0, 0, 0⟩ (upd_same _ _ _)
  · simp at hk

theorem k_nextS {ty : TypeId} {h : AH} (rel : Rel P E m h w) {x x' : Value} (rx : VR m x x') {κ : KH} (hk : kNextS x h κ = true) : DidH P E m h w (Instr.next x' true ty) κ := by
  unfold kNextS at hk
  split at hk
  · rename_i r
    obtain ⟨L, hm, rfl⟩ := ptr_of rx
    split at hk
    · rename_i q p hg
      obtain ⟨g1, g2⟩ := rel.obj r L _ hm hg
      split at hk
      · rename_i hp
        have hp := blt_of hp
        simp only [natK_eq, setObjK_eq] at hk
        obtain ⟨w', r1, W⟩ := run_setObj (P := P) g1 (fun _ _ _ => by simp) (.stringIter q (p + (Utf8.decode q p).2))
        obtain ⟨r2, e2⟩ := rel_set (w' := w') (y := .str q (p + (Utf8.decode q p).2)) rel hm hg rfl W.size W.os W.tape W.output W.rest ⟨W.at_, g2⟩
        refine ⟨_, _, m, w', .tuple #[.bool true, .int .i64 p, .int .i32 (Utf8.decode q p).1], hk, ?_, .tuple _ _ (.cons _ _ _ _ (.bool _) (.cons _ _ _ _ (.int _ _) (.cons _ _ _ _ (.int _ _) .nil))), r2, e2⟩
        simp [Instr.next, g2, run_getObj g1, hp, r1, goInt]
      · rename_i hp
        have hp := blt_ne hp
        refine DidH.val rel hk (v' := .tuple #[.bool false]) ?_ (.tuple _ _ (.cons _ _ _ _ (.bool _) .nil))
        simp [Instr.next, g2, run_getObj g1, Nat.not_lt.2 hp]
    · simp at hk
  · simp at hk

theorem fresh_rel {seen : List Nat} : ∀ {es ces : List MapEntry}, ERs m es ces → ERs m (fresh es seen) (ces.filter fun e => !seen.contains e.born)
  | _, _, .nil => .nil
  | _, _, .cons _ _ l l' (.mk k k' v v' b hk hv) hl => by
    unfold fresh
    have ih := fresh_rel (seen := seen) hl
    unfold fresh at ih
    simp only [List.filter_cons]
    cases hb : seen.contains b with
    | true => simpa only [Bool.not_true, Bool.false_eq_true, if_false] using ih
    | false => simp only [Bool.not_false, if_true]; exact .cons _ _ _ _ (.mk k k' v v' b hk hv) ih

theorem eachK_mem {κ : MapEntry → Bool} : ∀ {es : List MapEntry}, eachK es κ = true → ∀ e ∈ es, κ e = true
  | [], _, e, he => by cases he
  | x :: es, h, e, he => by
    simp only [eachK, Bool.and_eq_true] at h
    rcases List.mem_cons.1 he with r | r
    · subst r; exact h.1
    · exact eachK_mem h.2 e r

theorem ERs.born {es ces : List MapEntry} (h : ERs m es ces) {e' : MapEntry} (he : e' ∈ ces) : ∃ e ∈ es, ER m e e' ∧ e.born = e'.born := by
  obtain ⟨i, hi⟩ := List.getElem?_of_mem he
  cases hj : es[i]? with
  | none =>
    rw [List.getElem?_eq_none_iff] at hj
    have := (List.getElem?_eq_some_iff.1 hi).1
    have := h.length; omega
  | some e =>
    obtain ⟨e1, h1, h2⟩ := h.get hj
    rw [hi] at h1; cases h1
    exact ⟨e, List.mem_of_getElem? hj, h2, by cases h2; rfl⟩

theorem k_nextM {ty : TypeId} {h : AH} (rel : Rel P E m h w) {x x' : Value} (rx : VR m x x') {κ : KH} (hk : kNextM x h κ = true) : DidH P E m h w (Instr.next x' false ty) κ := by
  unfold kNextM at hk
  split at hk
  · rename_i r
    obtain ⟨L, hm, rfl⟩ := ptr_of rx
    split at hk
    · rename_i hg
      obtain ⟨g2, g1⟩ := rel.obj r L _ hm hg
      refine DidH.val rel hk (v' := .tuple #[.bool false]) ?_ (.tuple _ _ (.cons _ _ _ _ (.bool _) .nil))
      simp [Instr.next, g2, run_getObj g1]
    · rename_i b since seen stepped hg
      obtain ⟨g2, Lb, hmb, g1⟩ := rel.obj r L _ hm hg
      obtain ⟨es, c, hgb, hk⟩ := of_mapK hk
      obtain ⟨ces, b1, b2⟩ := mapOb (rel.obj b Lb _ hmb hgb)
      split at hk
      · simp at hk
      · rename_i hc
        simp only [Bool.and_eq_true] at hc
        obtain ⟨⟨hc1, hc2⟩, hc3⟩ := hc
        have hc1 := beq_of hc1; subst hc1
        have hc2 := beq_of hc2; subst hc2
        have hlt : ∀ e ∈ ces.toList, e.born < c := fun e he => by
          obtain ⟨e0, h1, _, h3⟩ := b2.born he
          rw [← h3]
          exact blt_of (List.all_eq_true.1 hc3 e0 h1)
        -- what is left
        have hfr := fresh_rel (seen := seen) b2
        generalize hleft : ces.filter (fun e => !(⟨seen.reverse⟩ : Array Nat).contains e.born) = left
        have hll : left.toList = ces.toList.filter fun e => !seen.contains e.born := by
          rw [← hleft, Array.toList_filter]
          congr 1
          funext e
          simp
        rw [← hll] at hfr
        have hold : left.filter (·.born < c) = left := by
          apply Array.ext'
          rw [Array.toList_filter, List.filter_eq_self]
          intro e he
          rw [hll] at he
          have := hlt e (List.mem_filter.1 he).1
          simpa using this
        have hnew : left.filter (·.born ≥ c) = #[] := by
          apply Array.ext'
          rw [Array.toList_filter]
          apply List.filter_eq_nil_iff.2
          intro e he
          rw [hll] at he
          have := hlt e (List.mem_filter.1 he).1
          simp; omega
        have hguard : (!(⟨seen.reverse⟩ : Array Nat).isEmpty && !ces.isEmpty && ces.all (·.born ≥ c)) = false := by
          cases hce : ces.isEmpty with
          | true => simp
          | false =>
            have hne : ces.toList ≠ [] := by
              intro h0
              have : ces = #[] := Array.ext' h0
              rw [this] at hce; simp at hce
            obtain ⟨e, l, hel⟩ := List.exists_cons_of_ne_nil hne
            have hmem : e ∈ ces.toList := by rw [hel]; simp
            have h1 := hlt e hmem
            have : ces.all (·.born ≥ c) = false := by
              rw [← Array.all_toList, hel]
              simp only [List.all_cons]
              have : decide (e.born ≥ c) = false := by simp; omega
              rw [this]; rfl
            rw [this]; simp
        split at hk
        · rename_i hf
          rw [hf] at hfr
          have hl0 : left = #[] := by
            apply Array.ext'
            have := hfr.length
            exact List.eq_nil_of_length_eq_zero this.symm
          refine DidH.val rel hk (v' := .tuple #[.bool false]) ?_ (.tuple _ _ (.cons _ _ _ _ (.bool _) .nil))
          simp only [Instr.next, g2, Nat.add_zero, Sem.run_bind, run_getObj g1 (fun _ _ _ => by simp), Result.andThen_ok, run_getObj b1 (fun _ _ _ => by simp), hguard]
          simp only [Bool.false_eq_true, if_false, pure_bind]
          rw [hleft, hold, hnew, Array.append_empty]
          rw [hl0]
          simp [Question.forced]
        · rename_i hf
          have hne : left.isEmpty = false := by
            cases hle : left.isEmpty with
            | false => rfl
            | true =>
              have h0 : left.toList = [] := by simpa using hle
              rw [h0] at hfr
              have := hfr.length
              exact absurd (List.eq_nil_of_length_eq_zero this) hf
          have hsz : left.size ≠ 0 := by
            intro h0
            have : left = #[] := Array.eq_empty_of_size_eq_zero h0
            rw [this] at hne; simp at hne
          obtain ⟨i, w1, hch, hi, sam⟩ : ∃ i w1, (choose (.mapNext left.size)).run P w = .ok i w1 ∧ i < left.size ∧ Sam w w1 := by
            rw [run_choose]
            by_cases hfo : (Question.mapNext left.size).forced = true
            · exact ⟨0, w, by rw [if_pos hfo], by omega, Sam.refl w⟩
            · exact ⟨_, w.drew, by rw [if_neg hfo]; rfl, Nat.mod_lt _ (by omega), Sam.drew w⟩
          have hli : left.toList[i]? = some left[i] := by simp [hi]
          obtain ⟨j, hj⟩ : ∃ j, (fresh es seen)[i]? = some j := by
            cases hq : (fresh es seen)[i]? with
            | some j => exact ⟨j, rfl⟩
            | none =>
              rw [List.getElem?_eq_none_iff] at hq
              have := hfr.length
              simp at this; omega
          obtain ⟨e', q1, q2⟩ := hfr.get hj
          rw [hli] at q1
          simp only [Option.some.injEq] at q1
          have hke := eachK_mem hk j (List.mem_of_getElem? hj)
          rw [setObjK_eq] at hke
          have rel1 := rel.same sam
          have g1' : w1.heap[L.blk]? = some (.mapIter (some Lb.blk) c ⟨seen.reverse⟩ c) := by rw [sam.heap]; exact g1
          obtain ⟨w', r1, W⟩ := run_setObj (P := P) g1' (fun _ _ _ => by simp) (.mapIter (some Lb.blk) c ((⟨seen.reverse⟩ : Array Nat).push left[i].born) c)
          have hborn : j.born = left[i].born := by rw [q1]; cases q2; rfl
          obtain ⟨r2, e2⟩ := rel_set (w' := w') (y := .mapIt b c (j.born :: seen) c) rel1 hm hg rfl W.size W.os W.tape W.output W.rest ⟨g2, Lb, hmb, by
            rw [W.at_, hborn]
            congr 2
            apply Array.ext'; simp⟩
          have hv : VR m (.tuple ⟨[.bool true, j.key, j.val]⟩) (.tuple #[.bool true, left[i].key, left[i].val]) := by
            rw [q1]
            cases q2; exact .tuple _ _ (.cons _ _ _ _ (.bool _) (.cons _ _ _ _ (by assumption) (.cons _ _ _ _ (by assumption) .nil)))
          refine ⟨_, _, m, w', _, hke, ?_, hv, r2, (Ev.same sam).trans e2⟩
          have hcand : ((if left.isEmpty = true then #[none] else #[]) ++ Array.map some left) = Array.map some left := by rw [hne]; simp
          simp only [Instr.next, g2, Nat.add_zero, Sem.run_bind, run_getObj g1 (fun _ _ _ => by simp), Result.andThen_ok, run_getObj b1 (fun _ _ _ => by simp), hguard]
          simp only [Bool.false_eq_true, if_false, pure_bind]
          rw [hleft, hold, hnew, Array.append_empty]
          rw [hcand]
          simp only [Sem.run_bind, Array.size_map, hch, Result.andThen_ok]
          have : (Array.map some left)[i]? = some (some left[i]) := by simp [hi]
          rw [this]
          simp only [Sem.run_bind, r1, Result.andThen_ok, Sem.run_pure]
    · simp at hk
  · simp at hk

theorem of_findBorn {n : Nat} : ∀ {es ces : List MapEntry}, ERs m es ces → ∀ {κ : MapEntry → Bool}, findBorn n es κ = true → ∃ e e', ces.find? (·.born == n) = some e' ∧ ER m e e' ∧ κ e = true
  | _, _, .nil, κ, h => by simp [findBorn] at h
  | _, _, .cons _ _ l l' (.mk k k' v v' b hk hv) hl, κ, h => by
    unfold findBorn at h
    split at h
    · rename_i hb
      have hb := beq_of hb
      have hb : b = n := hb
      subst hb
      exact ⟨⟨k, v, b⟩, ⟨k', v', b⟩, by simp, .mk k k' v v' b hk hv, h⟩
    · rename_i hb
      have hb : b ≠ n := beq_ne hb
      obtain ⟨e, e', h1, h2, h3⟩ := of_findBorn hl h
      exact ⟨e, e', by simpa [hb] using h1, h2, h3⟩

theorem k_entry {h : AH} (rel : Rel P E m h w) {x x' : Value} (rx : VR m x x') {κ : KH} (hk : kEntry x h κ = true) : DidH P E m h w (Instr.entry x') κ := by
  unfold kEntry at hk
  split at hk
  · rename_i r
    obtain ⟨L, hm, rfl⟩ := ptr_of rx
    split at hk
    · rename_i b since s seen stepped hg
      obtain ⟨g2, Lb, hmb, g1⟩ := rel.obj r L _ hm hg
      obtain ⟨es, c, hgb, hk2⟩ := of_mapK hk
      clear hk
      obtain ⟨ces, b1, b2⟩ := mapOb (rel.obj b Lb _ hmb hgb)
      split at hk2
      · rename_i hc
        have hc := beq_of hc; subst hc
        obtain ⟨e, e', h1, h2, hk⟩ := of_findBorn b2 hk2
        have hv : VR m (.tuple ⟨[e.key, e.val]⟩) (.tuple #[e'.key, e'.val]) := by
          cases h2; exact .tuple _ _ (.cons _ _ _ _ (by assumption) (.cons _ _ _ _ (by assumption) .nil))
        refine DidH.val rel hk ?_ hv
        have hb : (⟨(s :: seen).reverse⟩ : Array Nat).back? = some s := by simp
        have hf : ces.find? (·.born == s) = some e' := by
          obtain ⟨ces⟩ := ces; simpa using h1
        simp only [Instr.entry, g2, Nat.add_zero, Sem.run_bind, run_getObj g1 (fun _ _ _ => by simp), Result.andThen_ok, hb, run_getObj b1 (fun _ _ _ => by simp)]
        simp [hf]
      · simp at hk2
    · simp at hk
  · simp at hk

end
end Go.Abs

/- Every operation that makes no call. -/
namespace Go.Abs
variable {P : Program} {E : Env}
section
variable {nt : Nat} {m : M} {st : St} {a : Act} {w : World} {κ : KO}

/-- An operation that is done without a call. -/
noncomputable def plain : IK → Bool
  | .call _ _ | .callF _ _ | .recover | .defer _ _ | .panic _ | .bad => false
  | _ => true

theorem Did.of (_sr : SR P E nt m st a w) {s : Sem Value} {o : Oper} (he : execOp a.eval o = (do pure (.value (← s)))) (h : DidH P E m st.h w s (hK st κ)) : Did P E m st w (execOp a.eval o) κ := by
  rw [he]; exact h.did

theorem withOpds_of : ∀ {xs : List Operand} {l : List (Operand × Opd)}, withOpds E nt xs = some l → (∀ x ∈ l, opd E nt x.1 = some x.2) ∧ l.map (·.1) = xs
  | [], l, h => by simp only [withOpds, Option.some.injEq] at h; subst h; exact ⟨fun x hx => (by cases hx), rfl⟩
  | x :: xs, l, h => by
    simp only [withOpds] at h
    split at h
    · rename_i y ys h1 h2
      cases h
      obtain ⟨g1, g2⟩ := withOpds_of h2
      refine ⟨fun z hz => ?_, by simp [g2]⟩
      rcases List.mem_cons.1 hz with e | e
      · subst e; exact h1
      · exact g1 z e
    · cases h

theorem pure_ok (sr : SR P E nt m st a w) {o : Oper} (hs : ∀ cs b, o.op ≠ .select cs b) {xs : List Operand} {k : IK} (h : compPure E nt o xs = some k) (hall : ∀ x ∈ o.op.operands, x ∈ xs)
    {C : Ctx} (hP : C.P = P) {ex : Ex} (hr : opRun k C ex st κ = true) : Did P E m st w (execOp a.eval o) κ := by
  unfold compPure at h
  split at h
  · rename_i l hl
    cases h
    obtain ⟨g1, g2⟩ := withOpds_of hl
    exact d_pure sr hs g1 (by rw [g2]; exact hall) hP (ex := ex) hr
  · cases h

theorem bin_ok (sr : SR P E nt m st a w) (T : TyOk P E.ty) {o : Oper} {op : BinOp} {t yt : TypeId} {x y : Operand} (ho : o.op = .binOp op t x y yt) {k : IK} (h : compBin E nt o op t x y = some k)
    {C : Ctx} (hP : C.P = P) {ex : Ex} (hr : opRun k C ex st κ = true) : Did P E m st w (execOp a.eval o) κ := by
  unfold compBin at h
  split at h
  · rename_i x' y' ti hx hy ht
    have g (op : BinOp) (k : IntKind) (p q : Int) : (eqGuard op t x y (.int k p) (.int k q)) = pure () := by rw [eqGuard_at_int]
    split at h
    · cases h; exact d_add sr ho hx hy hP hr
    · cases h; exact d_sub sr ho hx hy hP hr
    · cases h; exact d_cmp sr ho hx hy hP (fun k p q w => by rw [g]; simp [binOp, Op.intCmp, ltInt_eq]) hr
    · cases h; exact d_cmp sr ho hx hy hP (fun k p q w => by rw [g]; simp [binOp, Op.intCmp, ltInt_eq, ← decide_not, Int.not_lt]) hr
    · cases h; exact d_cmp sr ho hx hy hP (fun k p q w => by rw [g]; simp [binOp, Op.intCmp, ltInt_eq]) hr
    · cases h; exact d_cmp sr ho hx hy hP (fun k p q w => by rw [g]; simp [binOp, Op.intCmp, ltInt_eq, ← decide_not, Int.not_lt]) hr
    · cases h; exact d_eq sr T (neg := false) ht ho hx hy hP hr
    · cases h; exact d_eq sr T (neg := true) ht ho hx hy hP hr
    · cases h
      exact d_pure sr (fun cs b e => by rw [ho] at e; cases e) (xs := [(x, x'), (y, y')]) (fun z hz => by
        rcases List.mem_cons.1 hz with e | e
        · subst e; exact hx
        · rcases List.mem_cons.1 e with e | e
          · subst e; exact hy
          · cases e) (by rw [ho]; simp [Op.operands]) hP (ex := ex) hr
  · cases h

theorem conv_ok (sr : SR P E nt m st a w) (T : TyOk P E.ty) {o : Oper} {s d : TypeId} {x : Operand} (ho : o.op = .convert s d x) {k : IK} (h : compConv E nt o s d x = some k)
    {C : Ctx} (hP : C.P = P) {ex : Ex} (hr : opRun k C ex st κ = true) : Did P E m st w (execOp a.eval o) κ := by
  unfold compConv at h
  have he : execOp a.eval o = (do pure (.value (← convert s d (a.eval x)))) := by unfold execOp; rw [ho]
  split at h
  · rename_i ts td x' hs hd hx
    split at h
    · rename_i e hsk hdk
      split at h
      · rename_i te hg
        cases h
        obtain ⟨hte, hgo⟩ := goodOf_of hg
        simp only [opRun, h1, hv, evK_eq] at hr
        exact Did.of sr he (k_cvPtr T hs hd hsk hdk hte (good_of hgo).1 sr.rel (sr.op hx) hr)
      · cases h
    · rename_i e hsk hdk
      split at h
      · rename_i te hg
        cases h
        obtain ⟨hte, hgo⟩ := goodOf_of hg
        simp only [opRun, h1, hv, evK_eq] at hr
        exact Did.of sr he (k_cvBack T hs hd hsk hdk hte (good_of hgo).1 sr.rel (sr.op hx) hr)
      · cases h
    · rename_i e hsk hdk
      split at h
      · rename_i z s1 b1 hte
        cases h
        simp only [opRun, h1, hv, evK_eq] at hr
        exact Did.of sr he (k_cvStr T hs hd hsk hdk hte rfl sr.rel (sr.op hx) hr)
      · cases h
    · rename_i e hsk hdk
      split at h
      · rename_i z b1 hte
        cases h
        simp only [opRun, h1, evK_eq] at hr
        exact Did.of sr he (k_cvBytes T hs hd hsk hdk hte rfl rfl sr.rel (sr.op hx) hr)
      · cases h
    · cases h
      exact d_pure sr (fun cs b e => by rw [ho] at e; cases e) (xs := [(x, x')]) (fun z hz => by
        rcases List.mem_cons.1 hz with e | e
        · subst e; exact hx
        · cases e) (by rw [ho]; simp [Op.operands]) hP (ex := ex) hr
  · cases h

theorem slice_ok (sr : SR P E nt m st a w) (T : TyOk P E.ty) {o : Oper} {t : TypeId} {x : Operand} {lo hi mx : Option Operand} (ho : o.op = .slice t x lo hi mx) {k : IK} (h : compSlice E nt t x lo hi mx = some k)
    {C : Ctx} {ex : Ex} (hr : opRun k C ex st κ = true) : Did P E m st w (execOp a.eval o) κ := by
  unfold compSlice at h
  have he : execOp a.eval o = (do pure (.value (← Instr.sliceAt t (a.eval x) (lo.map a.eval) (hi.map a.eval) (mx.map a.eval)))) := by unfold execOp; rw [ho]
  rw [he]
  split at h
  · rename_i ti x' lo' hi' mx' ht hx hlo hhi hmx
    obtain ⟨tk, tz, ts, tb⟩ := ti
    simp only at h
    split at h
    · split at h
      · cases h
        have hm : mx = none := opdo_none (tm := st.tm) hmx rfl
        subst hm
        exact d_slStr sr T ht hx hlo hhi hr
      · cases h
    · rename_i e
      split at h
      · rename_i te hg
        split at h
        · cases h
        · rename_i hne
          cases h
          exact d_slSl sr T ht (goodOf_of hg).1 hx hlo hhi hmx (fun v hv hn => hne v hv hn) hr
      · cases h
    · cases h
  · cases h

theorem map1 (f : Operand → Value) (x : Operand) : Array.map f ⟨[x]⟩ = #[f x] := by simp
theorem map2 (f : Operand → Value) (x y : Operand) : Array.map f ⟨[x, y]⟩ = #[f x, f y] := by simp

theorem builtin_ok (sr : SR P E nt m st a w) (T : TyOk P E.ty) {o : Oper} {b : Builtin} {xs : Array Operand} {ts : Array TypeId} (ho : o.op = .call { callee := .builtin b, args := xs, argTypes := ts }) {k : IK}
    (h : compBuiltin E nt o b ts xs.toList = some k) (hp : plain k = true) {C : Ctx} (hP : C.P = P) {ex : Ex} (hr : opRun k C ex st κ = true) : Did P E m st w (execOp a.eval o) κ := by
  have he : execOp a.eval o = builtin b ts o.type (xs.map fun | .const _ => true | _ => false) (xs.map a.eval) := by unfold execOp; rw [ho]; rfl
  have pu : compPure E nt o xs.toList = some k → Did P E m st w (execOp a.eval o) κ := fun h =>
    pure_ok sr (fun cs b e => by rw [ho] at e; cases e) h (by rw [ho]; simp [Op.operands, Call.operands]) hP hr
  obtain ⟨xs⟩ := xs
  unfold compBuiltin at h
  split at h
  · rename_i x y hxs
    have hxs : xs = [x, y] := hxs
    subst hxs
    split at h
    · rename_i t u x' y' h0 h1 hx hy
      split at h
      · rename_i e te tu ht htu
        obtain ⟨z, s, b, ht, hte⟩ := elemOfSl_of ht
        split at h
        · cases h
        · rename_i hg hni
          cases h
          simp only [opRun, h2, evK_eq] at hr
          exact Did.of sr (by rw [he, map2]; rfl) (k_append T h0 h1 ht hte hg htu (fun k hk => hni k hk) sr.rel (sr.op hx) (sr.op hy) hr)
        · cases h
      · cases h
    · cases h
  · rename_i x y hxs
    have hxs : xs = [x, y] := hxs
    subst hxs
    split at h
    · rename_i t x' y' h0 hx hy
      split at h
      · rename_i e te ht
        obtain ⟨z, s, b, ht, hte⟩ := elemOfSl_of ht
        split at h
        · cases h
          simp only [opRun, h2, evK_eq] at hr
          exact Did.of sr (by rw [he, map2]; rfl) (k_copy T h0 ht hte sr.rel (sr.op hx) (sr.op hy) hr)
        · cases h
      · cases h
    · cases h
  · rename_i x hxs
    have hxs : xs = [x] := hxs
    subst hxs
    split at h
    · rename_i t x' h0 hx
      split at h
      · rename_i ti ht
        split at h
        · rename_i hk
          cases h
          simp only [opRun, h1, evK_eq] at hr
          exact Did.of sr (by rw [he, map1]; rfl) (k_len T h0 ht (.inl ⟨rfl, hk⟩) sr.rel (sr.op hx) hr)
        · rename_i e hk
          cases h
          simp only [opRun, h1, evK_eq] at hr
          exact Did.of sr (by rw [he, map1]; rfl) (k_len T h0 ht (.inr (.inl ⟨rfl, e, hk⟩)) sr.rel (sr.op hx) hr)
        · rename_i k e hk
          cases h
          simp only [opRun, h1, evK_eq] at hr
          exact Did.of sr (by rw [he, map1]; rfl) (k_len T h0 ht (.inr (.inr ⟨rfl, k, e, hk⟩)) sr.rel (sr.op hx) hr)
        · cases h
      · cases h
    · cases h
  · rename_i x hxs
    have hxs : xs = [x] := hxs
    subst hxs
    split at h
    · rename_i t x' h0 hx
      split at h
      · rename_i e z s b ht
        cases h
        simp only [opRun, h1, evK_eq] at hr
        exact Did.of sr (by rw [he, map1]; rfl) (k_cap T h0 ht sr.rel (sr.op hx) hr)
      · cases h
    · cases h
  · rename_i x hxs
    have hxs : xs = [x] := hxs
    subst hxs
    split at h
    · rename_i t x' h0 hx
      split at h
      · rename_i k e z s b ht
        cases h
        simp only [opRun, h1, evK_eq] at hr
        exact Did.of sr (by rw [he, map1]; rfl) (k_clear T h0 ht (fun hm => by cases hm) sr.rel (sr.op hx) hr)
      · rename_i e z s b ht
        split at h
        · rename_i te hg
          cases h
          obtain ⟨hte, hgo⟩ := goodOf_of hg
          simp only [opRun, h1, evK_eq] at hr
          exact Did.of sr (by rw [he, map1]; rfl) (k_clear T h0 ht (fun _ => ⟨te, rfl, hte, rfl, hgo⟩) sr.rel (sr.op hx) hr)
        · cases h
      · cases h
    · cases h
  · rename_i x hxs
    have hxs : xs = [x] := hxs
    subst hxs
    cases hx : opd E nt x with
    | none => rw [hx] at h; cases h
    | some x' =>
      rw [hx] at h; cases h
      simp only [opRun, r1, evK_eq] at hr
      exact Did.of sr (by rw [he, map1]; rfl) (k_sdata (κ := hK st κ) sr.rel (sr.op hx) hr)
  · rename_i x n hxs
    have hxs : xs = [x, n] := hxs
    subst hxs
    split at h
    · rename_i t x' n' h0 hx hn
      split at h
      · rename_i e z s b ht
        split at h
        · rename_i z1 b1 hte
          cases h
          simp only [opRun, h2, evK_eq] at hr
          exact Did.of sr (by rw [he, map2]; rfl) (k_ustr T h0 ht hte rfl sr.rel (sr.op hx) (sr.op hn) hr)
        · cases h
      · cases h
    · cases h
  · cases h; cases hp
  · exact pu h
  · exact pu h
  · exact pu h
  · exact pu h
  · exact pu h
  · cases h

theorem op_ok (sr : SR P E nt m st a w) (T : TyOk P E.ty) {o : Oper} {k : IK} (h : compIK E nt o = some k) (hp : plain k = true) {C : Ctx} (hP : C.P = P) {ex : Ex} (hr : opRun k C ex st κ = true) :
    Did P E m st w (execOp a.eval o) κ := by
  unfold compIK at h
  split at h
  case h_1 x ho =>
    cases hx : opd E nt x with
    | none => rw [hx] at h; cases h
    | some y =>
      rw [hx] at h; cases h
      unfold execOp; rw [ho]; exact d_move sr hx hr
  case h_2 x ho =>
    cases hx : opd E nt x with
    | none => rw [hx] at h; cases h
    | some y =>
      rw [hx] at h; cases h
      unfold execOp; rw [ho]; exact d_move sr hx hr
  case h_3 x y z ho =>
    split at h
    · rename_i h1 h2 h3
      cases h
      unfold execOp; rw [ho]; exact d_pick sr h1 h2 h3 hr
    · cases h
  case h_4 e ho =>
    split at h
    · rename_i h1
      cases h
      unfold execOp; rw [ho]; exact d_alloc sr T h1 hr
    · cases h
  case h_5 e x ho =>
    split at h
    · rename_i h1 h2
      cases h
      unfold execOp; rw [ho]; exact d_box sr T h1 h2 hr
    · cases h
  case h_6 t ps ho =>
    split at h
    · rename_i fs z sz bs ht
      split at h
      · rename_i l h1 h2
        cases h
        simp only [Bool.and_eq_true] at h1
        have hfs : ∀ fd ∈ fs.toList, ∃ ti, E.ty fd.type = some ti := fun fd hfd => Option.isSome_iff_exists.1 (List.all_eq_true.1 h1.2 fd hfd)
        unfold execOp; rw [ho]; exact d_buildS sr T ht h1.1 hfs h2 hr
      · cases h
    · rename_i n e z sz bs ht
      split at h
      · rename_i te h1 h2
        cases h3 : partsA E nt te.size ps.toList with
        | none => rw [h3] at h; cases h
        | some l =>
          rw [h3] at h; cases h
          unfold execOp; rw [ho]; exact d_buildA sr T ht h2 (goodOf_of h1).1 h3 hr
      · cases h
    · cases h
  case h_7 t n ps ho =>
    split at h
    · rename_i e te ht
      split at h
      · rename_i l h1 h2
        cases h
        simp only [Bool.and_eq_true] at h1
        unfold execOp; rw [ho]; exact d_bslice sr T ht h1.1 (ble_of h1.2) h2 hr
      · cases h
    · cases h
  case h_8 t x ho =>
    split at h
    · rename_i ti y ht hx
      split at h
      · rename_i hag
        cases h
        unfold execOp; rw [ho]; exact d_ldn sr T ht hag hx hr
      · rename_i hag
        cases h
        unfold execOp; rw [ho]; exact d_ld1 sr T ht hag hx hr
    · cases h
  case h_9 t x y ho =>
    split at h
    · rename_i ti y' u' ht hx hy
      cases h
      unfold execOp; rw [ho]; exact d_store sr T ht hx hy hr
    · cases h
  case h_10 x ho =>
    cases hx : opd E nt x with
    | none => rw [hx] at h; cases h
    | some y =>
      rw [hx] at h; cases h
      exact d_nil sr hx hr o ho
  case h_11 op t x y yt ho =>
    exact bin_ok sr T ho h hP hr
  case h_12 t x ho =>
    cases hx : opd E nt x with
    | none => rw [hx] at h; cases h
    | some y =>
      rw [hx] at h; cases h
      exact d_not sr hx hr ho
  case h_13 op t x hno ho =>
    exact pure_ok sr (fun cs b e => by rw [ho] at e; cases e) h (by rw [ho]; simp [Op.operands]) hP (ex := ex) hr
  case h_14 s d x ho =>
    exact conv_ok sr T ho h hP hr
  case h_15 t x ho =>
    split at h
    · rename_i ti y ht hx
      split at h
      · cases h
      · rename_i hn
        cases h
        unfold execOp; rw [ho]; exact d_mkIface sr T ht hn hx hr
    · cases h
  case h_16 f x y ho =>
    split at h
    · rename_i x' y' hx hy
      cases h
      unfold execOp; rw [ho]; exact d_mkFunc sr hx hy hr
    · cases h
  case h_17 t ho =>
    cases h
    simp only [opRun, fMkMap] at hr
    exact Did.of sr (by unfold execOp; rw [ho]; rfl) (k_mkMap sr.rel hr)
  case h_18 t x y ho =>
    split at h
    · rename_i e te x' y' ht hx hy
      split at h
      · rename_i hg
        cases h
        obtain ⟨z, s, b, ht, hte⟩ := elemOfSl_of ht
        simp only [opRun, h2, evK_eq] at hr
        exact Did.of sr (by unfold execOp; rw [ho]) (k_mkSlice T ht hte hg sr.rel (sr.op hx) (sr.op hy) hr)
      · cases h
    · cases h
  case h_19 t x lo hi mx ho =>
    exact slice_ok sr T ho h hr
  case h_20 t x f ho =>
    split at h
    · rename_i off ti x' hf hx
      split at h
      · cases h
      · rename_i h0
        cases h
        unfold execOp; rw [ho]; exact d_fadr sr T hf (beq_ne h0) hx hr
    · cases h
  case h_21 t x f ho =>
    split at h
    · rename_i off ti x' hf hx
      split at h
      · rename_i hag
        cases h
        unfold execOp; rw [ho]; exact d_fldn sr T hf hag hx hr
      · rename_i hag
        cases h
        unfold execOp; rw [ho]; exact d_fld1 sr T hf hag hx hr
    · cases h
  case h_22 t x i ho =>
    split at h
    · rename_i e z s b x' i' ht hx hi
      split at h
      · rename_i te hte
        cases h
        unfold execOp; rw [ho]; exact d_ixAS sr T ht hte hx hi hr
      · cases h
    · rename_i n e z s b x' i' ht hx hi
      split at h
      · rename_i te hte
        cases h
        unfold execOp; rw [ho]; exact d_ixAA sr T ht hte hx hi hr
      · cases h
    · cases h
  case h_23 t x i ho =>
    split at h
    · rename_i z s b x' i' ht hx hi
      cases h
      unfold execOp; rw [ho]; exact d_ixStr sr T ht hx hi hr
    · rename_i n e z s b x' i' ht hx hi
      split at h
      · rename_i te hte
        split at h
        · rename_i hag
          cases h
          unfold execOp; rw [ho]; exact d_ixAn sr T ht hte hag hx hi hr
        · rename_i hag
          cases h
          unfold execOp; rw [ho]; exact d_ixA1 sr T ht hte hag hx hi hr
      · cases h
    · cases h
  case h_24 t x y ok ho =>
    split at h
    · rename_i kt et z s b x' y' ht hx hy
      split at h
      · rename_i z' hz
        split at h
        · rename_i hza
          cases h
          simp only [opRun, fLookup, evK_eq, hP] at hr
          exact Did.of sr (by unfold execOp; rw [ho]) (k_lookup T ht hz hza sr.rel (sr.op hx) (sr.op hy) hr)
        · cases h
      · cases h
    · cases h
  case h_25 t x y u ho =>
    split at h
    · rename_i kt et z s b x' y' u' ht hx hy hu
      cases h
      simp only [opRun, fMapUpd, evK_eq, hP] at hr
      obtain ⟨h', m', w', q1, q2, q3, q4⟩ := k_mapUpd T ht sr.rel (sr.op hx) (sr.op hy) (sr.op hu) hr
      unfold execOp; rw [ho]; exact did_unit q1 q2 q3 q4
    · cases h
  case h_26 t x y u ho =>
    split at h
    · rename_i kt et z s b x' y' u' ht hx hy hu
      cases h
      simp only [opRun, fMapUpd, evK_eq, hP] at hr
      obtain ⟨h', m', w', q1, q2, q3, q4⟩ := k_mapUpd T ht sr.rel (sr.op hx) (sr.op hy) (sr.op hu) hr
      unfold execOp; rw [ho]; exact did_unit q1 q2 q3 q4
    · cases h
  case h_27 t x y ho =>
    split at h
    · rename_i kt et z s b x' y' ht hx hy
      split at h
      · rename_i z' hz
        split at h
        · rename_i hza
          cases h
          simp only [opRun, fMapEnt, evK_eq, hP] at hr
          exact Did.of sr (by unfold execOp; rw [ho]) (k_mapEnt T ht hz hza sr.rel (sr.op hx) (sr.op hy) hr)
        · cases h
      · cases h
    · cases h
  case h_28 t x y u ho =>
    split at h
    · rename_i x' y' u' hx hy hu
      cases h
      simp only [opRun, fEntSt, evK_eq] at hr
      obtain ⟨h', m', w', q1, q2, q3, q4⟩ := k_entSt sr.rel (sr.op hx) (sr.op hy) (sr.op hu) hr
      unfold execOp; rw [ho]; exact did_unit q1 q2 q3 q4
    · cases h
  case h_29 t x ho =>
    split at h
    · rename_i z s b x' ht hx
      cases h
      simp only [opRun, h1, evK_eq] at hr
      exact Did.of sr (by unfold execOp; rw [ho]) (k_rangeS T ht sr.rel (sr.op hx) hr)
    · rename_i kt et z s b x' ht hx
      cases h
      simp only [opRun, h1, evK_eq] at hr
      exact Did.of sr (by unfold execOp; rw [ho]) (k_rangeM T ht sr.rel (sr.op hx) hr)
    · cases h
  case h_30 x ho =>
    cases hx : opd E nt x with
    | none => rw [hx] at h; cases h
    | some y =>
      rw [hx] at h; cases h
      simp only [opRun, h1, evK_eq] at hr
      exact Did.of sr (by unfold execOp; rw [ho]) (k_nextS sr.rel (sr.op hx) hr)
  case h_31 x ho =>
    cases hx : opd E nt x with
    | none => rw [hx] at h; cases h
    | some y =>
      rw [hx] at h; cases h
      simp only [opRun, h1, evK_eq] at hr
      exact Did.of sr (by unfold execOp; rw [ho]) (k_nextM sr.rel (sr.op hx) hr)
  case h_32 x ho =>
    cases hx : opd E nt x with
    | none => rw [hx] at h; cases h
    | some y =>
      rw [hx] at h; cases h
      simp only [opRun, h1, evK_eq] at hr
      exact Did.of sr (by unfold execOp; rw [ho]) (k_entry sr.rel (sr.op hx) hr)
  case h_33 x xt t ok ho =>
    split at h
    · rename_i ti x' z ht hx hz
      split at h
      · cases h
      · rename_i hza hn
        cases h
        unfold execOp; rw [ho]; exact d_tassert sr T ht hn hz hza hx hr
      · cases h
    · cases h
  case h_34 x i ho =>
    cases hx : opd E nt x with
    | none => rw [hx] at h; cases h
    | some y =>
      rw [hx] at h; cases h
      unfold execOp; rw [ho]; exact d_extr sr hx hr
  case h_35 f xs ats ho =>
    exfalso
    cases hx : opds E nt xs.toList with
    | none => rw [hx] at h; cases h
    | some y => rw [hx] at h; cases h; cases hp
  case h_36 f xs ats hnf ho =>
    exfalso
    split at h
    · cases h; cases hp
    · cases h
  case h_37 b xs ats ho =>
    exact builtin_ok sr T ho h hp hP hr
  case h_38 f xs ats ho =>
    exfalso
    split at h
    · cases h; cases hp
    · cases h
  case h_39 x ho =>
    exfalso
    cases hx : opd E nt x with
    | none => rw [hx] at h; cases h
    | some y => rw [hx] at h; cases h; cases hp
  case h_40 => cases h
end
end Go.Abs
