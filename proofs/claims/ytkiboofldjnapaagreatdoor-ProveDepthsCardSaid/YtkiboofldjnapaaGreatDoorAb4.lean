/- THE INTERPRETER IS SOUND, part 3: calls, loops, ranges over functions, regions in a fixed order, all code. -/
import Derived.Test.YtkiboofldjnapaaGreatDoorAb3
import Derived.AtR
import Derived.RangeFuncLeaves
import Derived.Recover
set_option linter.unusedSimpArgs false
set_option linter.unusedVariables false

/- The machine's level: frames, calls. -/
namespace Go.Abs
variable {P : Program} {E : Env} {w : World}

inductive XR (m : M) : AX → Exit → Prop
  | normal : XR m .normal .normal
  | exit (id : Nat) : XR m (.exit id) (.exit id)
  | goto (l : Nat) : XR m (.goto l) (.goto l)
  | ret : XR m .ret .ret
  | panic (v v' : Value) (h : VR m v v') : XR m (.panic v) (.panic [{ v := v', recovered := false }])

/-- Where a piece of code has come to. -/
def ArrR (P : Program) (M0 : Machine) (b : Frame) (k : List Item) (cs : List Frame) : Exit → Act → World → Prop
  | .normal, a, w => Steps P M0 (lone (b.atR a k) cs w)
  | .exit id, a, w => ∃ todo, exitTo id todo = exitTo id k ∧ Steps P M0 (lone (b.atR a (.code (.exit id) :: todo)) cs w)
  | .goto l, a, w => ∃ todo, gotoIn l todo = gotoIn l k ∧ Steps P M0 (lone (b.atR a (.code (.goto l) :: todo)) cs w)
  | .ret, a, w => ∃ todo, Steps P M0 (lone (b.atR a (.code .ret :: todo)) cs w)
  | .panic ch, a, w => ∃ todo, Steps P M0 (lone { b.atR a todo with mode := .panicking ch } cs w)
  | .outgrown, _, _ => False

theorem ArrR.of_steps {M0 M1 : Machine} {b : Frame} {k : List Item} {cs : List Frame} {e : Exit} {a : Act} {w : World} (h : Steps P M0 M1) (h' : ArrR P M1 b k cs e a w) : ArrR P M0 b k cs e a w := by
  cases e with
  | normal => exact h.trans h'
  | exit id => obtain ⟨t, h1, h2⟩ := h'; exact ⟨t, h1, h.trans h2⟩
  | goto l => obtain ⟨t, h1, h2⟩ := h'; exact ⟨t, h1, h.trans h2⟩
  | ret => obtain ⟨t, h2⟩ := h'; exact ⟨t, h.trans h2⟩
  | panic ch => obtain ⟨t, h2⟩ := h'; exact ⟨t, h.trans h2⟩
  | outgrown => exact h'

inductive UmR (m : M) (b : Frame) : UM → List Frame → Prop
  | na (cs : List Frame) (h : b.roundOf = none) (hk : b.kind = .normal) : UmR m b .na cs
  | rnd (cs : List Frame) (l : Nat) (h : b.roundOf = some l) (hk : b.kind = .normal) : UmR m b .rnd cs
  | idle (c : Frame) (cs : List Frame) (h : b.roundOf = none) (hk : b.kind = .deferred) (hc : c.mode = .returning) : UmR m b .idle (c :: cs)
  | pan (c : Frame) (cs : List Frame) (v v' : Value) (h : b.roundOf = none) (hk : b.kind = .deferred) (hc : c.mode = .panicking [{ v := v', recovered := false }]) (hv : VR m v v') : UmR m b (.pan v) (c :: cs)
  | recd (c : Frame) (cs : List Frame) (v v' : Value) (h : b.roundOf = none) (hk : b.kind = .deferred) (hc : c.mode = .panicking [{ v := v', recovered := true }]) : UmR m b (.recd v) (c :: cs)

theorem UmR.mono {m m' : M} (hm : Le m m') {b : Frame} {u : UM} {cs : List Frame} : UmR m b u cs → UmR m' b u cs
  | .na cs h hk => .na cs h hk
  | .rnd cs l h hk => .rnd cs l h hk
  | .idle c cs h hk hc => .idle c cs h hk hc
  | .pan c cs v v' h hk hc hv => .pan c cs v v' h hk hc (hv.mono hm)
  | .recd c cs v v' h hk hc => .recd c cs v v' h hk hc

theorem UmR.kind {m : M} {b : Frame} {u : UM} {cs : List Frame} (h : UmR m b u cs) : b.kind ≠ .early := by
  cases h <;> (rename_i hk; intro e; simp_all)

/-- The callers, of which a deferred call may change the first one's mode. -/
def CsR (b : Frame) (cs cs' : List Frame) : Prop := cs' = cs ∨ (b.kind = .deferred ∧ ∃ c u rest, cs = c :: rest ∧ cs' = { c with mode := u } :: rest)

theorem CsR.refl (b : Frame) (cs : List Frame) : CsR b cs cs := .inl rfl
theorem CsR.trans {b : Frame} {x y z : List Frame} (h : CsR b x y) (k : CsR b y z) : CsR b x z := by
  rcases h with rfl | ⟨hk, c, u, rest, rfl, rfl⟩
  · exact k
  · rcases k with rfl | ⟨_, c', u', rest', h1, rfl⟩
    · exact .inr ⟨hk, c, u, rest, rfl, rfl⟩
    · simp only [List.cons.injEq] at h1
      obtain ⟨rfl, rfl⟩ := h1
      exact .inr ⟨hk, c, u', rest, rfl, rfl⟩
theorem CsR.eq {b : Frame} {x y : List Frame} (h : CsR b x y) (hk : b.kind = .normal) : y = x := by
  rcases h with h | ⟨h, _⟩
  · exact h
  · rw [hk] at h; cases h

inductive DfR (m : M) : List ADef → List Deferred → Prop
  | nil : DfR m [] []
  | call (f : FuncId) (args : List Value) (cap dargs : Array Value) (ds : List ADef) (ds' : List Deferred) (ha : VRs m args (dargs ++ cap).toList) (hd : DfR m ds ds') :
      DfR m (.call f args :: ds) ({ target := .fn (.func f) cap, args := dargs } :: ds')
  | coll (b : Nat) (L : Loc) (args : Array Value) (ds : List ADef) (ds' : List Deferred) (h : m b = some L) (hd : DfR m ds ds') : DfR m (.coll b :: ds) ({ target := .collected L.blk, args := args } :: ds')

theorem DfR.mono {m m' : M} (hm : Le m m') : ∀ {a : List ADef} {b : List Deferred}, DfR m a b → DfR m' a b
  | _, _, .nil => .nil
  | _, _, .call f args cap dargs ds ds' ha hd => .call f args cap dargs ds ds' (ha.mono hm) (hd.mono hm)
  | _, _, .coll b L args ds ds' h hd => .coll b L args ds ds' (hm _ _ h) (hd.mono hm)

/-- A state of a frame, side by side. -/
structure StR (P : Program) (E : Env) (nt : Nat) (m : M) (b : Frame) (st : St) (a : Act) (cs : List Frame) (w : World) : Prop where
  tm : TR m nt st.tm a.tmps
  rel : Rel P E m st.h w
  um : UmR m b st.um cs
  df : DfR m st.df a.defers

theorem StR.sr {nt : Nat} {m : M} {b : Frame} {st : St} {a : Act} {cs : List Frame} {w : World} (s : StR P E nt m b st a cs w) : SR P E nt m st a w := ⟨s.tm, s.rel⟩

/-- What a piece of code comes to. -/
def Fin (P : Program) (E : Env) (nt : Nat) (b : Frame) (k : List Item) (cs : List Frame) (m : M) (h : AH) (w : World) (κ : KX) (M0 : Machine) : Prop :=
  ∃ x st' m' e a' cs' w', κ x st' = true ∧ XR m' x e ∧ StR P E nt m' b st' a' cs' w' ∧ Ev m h w m' st'.h w' ∧ CsR b cs cs' ∧ ArrR P M0 b k cs' e a' w'

theorem Fin.of_steps {nt : Nat} {b : Frame} {k : List Item} {cs : List Frame} {m : M} {h : AH} {w : World} {κ : KX} {M0 M1 : Machine} (hs : Steps P M0 M1) (hf : Fin P E nt b k cs m h w κ M1) : Fin P E nt b k cs m h w κ M0 := by
  obtain ⟨x, st', m', e, a', cs', w', h1, h2, h3, h4, h5, h6⟩ := hf
  exact ⟨x, st', m', e, a', cs', w', h1, h2, h3, h4, h5, h6.of_steps hs⟩

theorem Fin.after {nt : Nat} {b : Frame} {k : List Item} {cs cs1 : List Frame} {m m1 : M} {h h1 : AH} {w w1 : World} {κ : KX} {M0 : Machine} (ev : Ev m h w m1 h1 w1) (hc : CsR b cs cs1)
    (hf : Fin P E nt b k cs1 m1 h1 w1 κ M0) : Fin P E nt b k cs m h w κ M0 := by
  obtain ⟨x, st', m', e, a', cs', w', q1, q2, q3, q4, q5, q6⟩ := hf
  exact ⟨x, st', m', e, a', cs', w', q1, q2, q3, ev.trans q4, hc.trans q5, q6⟩

theorem Fin.mk {nt : Nat} {b : Frame} {k : List Item} {cs : List Frame} {m : M} {st : St} {a : Act} {w : World} {κ : KX} {M0 : Machine} {x : AX} {e : Exit} (hk : κ x st = true) (hx : XR m x e)
    (s : StR P E nt m b st a cs w) (ha : ArrR P M0 b k cs e a w) : Fin P E nt b k cs m st.h w κ M0 :=
  ⟨x, st, m, e, a, cs, w, hk, hx, s, Ev.refl _ _ _, CsR.refl _ _, ha⟩

/-- What the interpreter's runs stand for. -/
def ExOk (P : Program) (E : Env) (ex : Ex) : Prop :=
  ∀ (nt : Nat) (c0 : Code) (N : Nat) (c : IC) (st : St) (κ : KX) (m : M) (a : Act) (b : Frame) (cs : List Frame) (w : World) (k : List Item),
    ex c st κ = true → comp E nt N c0 = some c → nt < 2 ^ 40 → StR P E nt m b st a cs w → Fin P E nt b k cs m st.h w κ (lone (b.atR a (.code c0 :: k)) cs w)

/-! ### Calls -/

inductive RR (m : M) : CR → Ending → Prop
  | ret (v v' : Value) (h : VR m v v') : RR m (.ret v) (.returned v')
  | panic (v v' : Value) (h : VR m v v') : RR m (.panic v) (.panicked [{ v := v', recovered := false }])

/-- What a call comes to. -/
def CallFin (P : Program) (E : Env) (f : FuncId) (args' : Array Value) (m : M) (h : AH) (w : World) (κ : KR) (cs : List Frame) : Prop :=
  ∃ r h' m' w' e, κ r h' = true ∧ RR m' r e ∧ Rel P E m' h' w' ∧ Ev m h w m' h' w' ∧
    ((∃ v', e = .returned v' ∧ (callFunc f args').run P w = .ok (.value v') w') ∨
     ((callFunc f args').run P w = .ok (.enter f args') w ∧ ∃ fr, Steps P (lone (Frame.enter P f args' .normal) cs w) (lone fr cs w') ∧ fr.fn = f ∧ fr.leaving P w' e))

/-- What a summary must keep. -/
def SmOk (P : Program) (E : Env) (sm : Nat → List Value → AH → Option (Value × AH)) : Prop :=
  ∀ f args h v h', sm f args h = some (v, h') → ∀ m w args', Rel P E m h w → VRs m args args' → ∀ (κ : KR) cs, κ (.ret v) h' = true → CallFin P E f ⟨args'⟩ m h w κ cs

/-- What the table of functions must be. -/
def FnOk (P : Program) (E : Env) (fn : T IFn) : Prop :=
  ∀ f g, f ≤ 65535 → fn.get (pos f) = some g → ∃ F c, P.funcs[f]? = some F ∧ F.body = some c ∧ (F.name == "runtime.NumGoroutine") = false ∧ compFn E F = some g

structure CtxOk (P : Program) (E : Env) (C : Ctx) : Prop where
  prog : C.P = P
  ty : TyOk P E.ty
  fn : FnOk P E C.fn
  sm : SmOk P E C.sm

theorem of_fnK {C : Ctx} (hC : CtxOk P E C) {f : Nat} {κ : IFn → Bool} (h : fnK C f κ = true) :
    ∃ g F c n, κ g = true ∧ P.funcs[f]? = some F ∧ F.body = some c ∧ (F.name == "runtime.NumGoroutine") = false ∧ g.nt = F.ntmps ∧ F.ntmps < 1000000 ∧ comp E F.ntmps n c = some g.body ∧ compRes E F.ntmps F.results.toList = some g.res := by
  unfold fnK at h
  split at h
  · simp at h
  · rename_i hle
    split at h
    · rename_i g hg
      obtain ⟨F, c, h1, h2, h3, h4⟩ := hC.fn f g (ble_of hle) hg
      unfold compFn at h4
      rw [h2] at h4
      simp only at h4
      split at h4
      · rename_i bd rs k1 k2 k3
        cases h4
        exact ⟨_, F, c, 200, h, h1, h2, h3, rfl, blt_of k1, k2, k3⟩
      · cases h4
    · simp at h

theorem run_callFunc {f : Nat} {F : Func} {c : Code} (h1 : P.funcs[f]? = some F) (h2 : F.body = some c) (h3 : (F.name == "runtime.NumGoroutine") = false) (args : Array Value) :
    (callFunc f args).run P w = .ok (.enter f args) w := by
  have h4 : F.name ≠ "runtime.NumGoroutine" := by simpa using h3
  simp [callFunc, h1, h2, h4]

/-- Arguments, laid into the temporaries. -/
noncomputable def putAll : Nat → List Value → T Value → T Value
  | _, [], t => t
  | i, v :: vs, t => putAll (i + 1) vs (T.set (some v) (pos i) t)

theorem argsT_eq : ∀ (i : Nat) (vs : List Value) (t : T Value) (κ : T Value → Bool), argsT i vs t κ = κ (putAll i vs t)
  | _, [], _, _ => rfl
  | i, v :: vs, t, κ => by simp only [argsT, putAll, setK_eq]; exact argsT_eq (i + 1) vs _ κ

theorem get_putAll : ∀ (vs : List Value) (i : Nat) (t : T Value) (j : Nat), i + vs.length ≤ 2 ^ 40 → j < 2 ^ 40 →
    (putAll i vs t).get (pos j) = if i ≤ j ∧ j < i + vs.length then vs[j - i]? else t.get (pos j)
  | [], i, t, j, _, _ => by
    simp only [putAll, List.length_nil]
    rw [if_neg (by omega)]
  | v :: vs, i, t, j, hi, hj => by
    simp only [List.length_cons] at hi ⊢
    simp only [putAll]
    rw [get_putAll vs (i + 1) _ j (by omega) hj]
    by_cases h : i = j
    · subst h
      rw [if_neg (by omega), if_pos (by omega), get_set_same]; simp
    · rw [get_set_ne _ _ _ _ (fun e => h (pos_inj (by omega) hj e.symm))]
      by_cases h2 : i + 1 ≤ j ∧ j < i + 1 + vs.length
      · rw [if_pos h2, if_pos (by omega)]
        have : j - i = (j - (i + 1)) + 1 := by omega
        rw [this]; simp
      · rw [if_neg h2, if_neg (by omega)]

theorem tr_args {m : M} {args args' : List Value} (ha : VRs m args args') {nt : Nat} (hn : args.length ≤ nt) (hnt : nt < 2 ^ 40) :
    TR m nt (putAll 0 args .leaf) ((⟨args'⟩ : Array Value) ++ Array.replicate (nt - args'.length) undef) := by
  have hl := ha.length
  refine ⟨by simp; omega, fun t ht => ?_⟩
  unfold tget
  rw [get_putAll args 0 .leaf t (by omega) (by omega)]
  by_cases h : t < args.length
  · rw [if_pos (by omega), Nat.sub_zero]
    have h1 : t < args'.length := by omega
    obtain ⟨v', q1, q2⟩ := ha.get (List.getElem?_eq_getElem h)
    rw [List.getElem?_eq_getElem h]
    have : ((⟨args'⟩ : Array Value) ++ Array.replicate (nt - args'.length) undef).getD t undef = v' := by
      rw [Array.getD_eq_getD_getElem?, Array.getElem?_append, if_pos (by simpa using h1)]
      simp [q1]
    rw [this]; exact q2
  · rw [if_neg (by omega), get_leaf]
    have : ((⟨args'⟩ : Array Value) ++ Array.replicate (nt - args'.length) undef).getD t undef = undef := by
      rw [Array.getD_eq_getD_getElem?, Array.getElem?_append, if_neg (by simp; omega)]
      rw [Array.getElem?_replicate]
      split <;> rfl
    rw [this]; exact .tuple [] [] .nil

theorem enter_atR {f : Nat} {F : Func} {c : Code} (h1 : P.funcs[f]? = some F) (h2 : F.body = some c) (args : Array Value) (kd : CallKind) :
    Frame.enter P f args kd = Frame.atR { (default : Frame) with fn := f, kind := kd, roundOf := none } { tmps := args ++ Array.replicate (F.ntmps - args.size) undef, defers := [] } [.code c] := by
  simp [Frame.enter, Frame.atR, h1, h2]

/-- A result, read. -/
def rsem (tmps : Array Value) : ResultVar → Sem Value
  | .tmp t => pure (tmps.getD t undef)
  | .cell a t => do loadVar t (← asAddr (tmps.getD a undef))

/-- The results of a function. -/
theorem res_ok (hT : TyOk P E.ty) {nt : Nat} {m : M} {h : AH} {w : World} {tm : T Value} {tmps : Array Value} (ht : TR m nt tm tmps) (rel : Rel P E m h w) :
    ∀ (rs : List ResultVar) (is : List IRes) (κ : List Value → Bool), compRes E nt rs = some is → resK tm h is κ = true →
      ∃ vs vs', κ vs = true ∧ VRs m vs vs' ∧ (rs.mapM (rsem tmps)).run P w = .ok vs' w
  | [], is, κ, hc, hk => by
    simp only [compRes, Option.some.injEq] at hc; subst hc
    exact ⟨[], [], hk, .nil, rfl⟩
  | .tmp t :: rs, is, κ, hc, hk => by
    simp only [compRes] at hc
    split at hc
    · rename_i l h1 h2
      cases hc
      simp only [resK, evK_eq] at hk
      obtain ⟨vs, vs', q1, q2, q3⟩ := res_ok hT ht rel rs l _ h2 hk
      refine ⟨_, tmps.getD t undef :: vs', q1, .cons _ _ _ _ (ht.get t (blt_of h1)) q2, ?_⟩
      simp only [List.mapM_cons, rsem, pure_bind, Sem.run_bind, q3, Result.andThen_ok, Sem.run_pure]
    · cases hc
  | .cell a t :: rs, is, κ, hc, hk => by
    simp only [compRes] at hc
    split at hc
    · rename_i ti l h1 ht' h2
      cases hc
      have ra := ht.get a (blt_of h1)
      cases hag : isAggD ti.k with
      | true =>
        rw [hag] at hk
        simp only [resK, evK_eq, fLdn, ev] at hk
        obtain ⟨b, i, hb, hk⟩ := of_ptrK hk
        obtain ⟨cs, e, rw_, hg, hk⟩ := of_rowK hk
        obtain ⟨hi, hk⟩ := of_segK hk
        obtain ⟨vs, vs', q1, q2, q3⟩ := res_ok hT ht rel rs l _ h2 hk
        rw [hb] at ra
        obtain ⟨L, hm, hx⟩ := ptr_of ra
        obtain ⟨us, g1, g2⟩ := row_load (P := P) (rel.obj b L _ hm hg) hi
        refine ⟨_, .agg ⟨us⟩ :: vs', q1, .cons _ _ _ _ (.agg _ _ g2) q2, ?_⟩
        simp only [List.mapM_cons, rsem, hx, asAddr, pure_bind, loadVar, Sem.run_bind, isa hT ht', hag, Result.andThen_ok, if_true, siz hT ht', g1 w rfl, q3, Sem.run_pure]
      | false =>
        rw [hag] at hk
        simp only [resK, evK_eq, fLd1, ev] at hk
        obtain ⟨b, i, hb, hk⟩ := of_ptrK hk
        obtain ⟨cs, e, rw_, hg, hk⟩ := of_rowK hk
        obtain ⟨v, hi, hk⟩ := of_nthK hk
        obtain ⟨vs, vs', q1, q2, q3⟩ := res_ok hT ht rel rs l _ h2 hk
        rw [hb] at ra
        obtain ⟨L, hm, hx⟩ := ptr_of ra
        obtain ⟨v', g1, g2⟩ := row_load1 (P := P) (rel.obj b L _ hm hg) hi
        refine ⟨_, v' :: vs', q1, .cons _ _ _ _ g2 q2, ?_⟩
        simp only [List.mapM_cons, rsem, hx, asAddr, pure_bind, loadVar, Sem.run_bind, isa hT ht', hag, Result.andThen_ok, Bool.false_eq_true, if_false, g1, q3, Sem.run_pure]
    · cases hc

theorem results_ok (hT : TyOk P E.ty) {nt : Nat} {m : M} {h : AH} {w : World} {tm : T Value} {tmps : Array Value} (ht : TR m nt tm tmps) (rel : Rel P E m h w) {F : Func} {is : List IRes} {κ : List Value → Bool}
    (hc : compRes E nt F.results.toList = some is) (hk : resK tm h is κ = true) : ∃ vs v', κ vs = true ∧ VR m (oneOrTuple vs) v' ∧ (results F tmps).run P w = .ok v' w := by
  obtain ⟨vs, vs', q1, q2, q3⟩ := res_ok hT ht rel _ is κ hc hk
  refine ⟨vs, if h : (⟨vs'⟩ : Array Value).size = 1 then (⟨vs'⟩ : Array Value)[0] else .tuple ⟨vs'⟩, q1, ?_, ?_⟩
  · cases q2 with
    | nil => exact .tuple [] [] .nil
    | cons v v' l l' h hl =>
      cases hl with
      | nil => exact h
      | cons u u' l l' h2 hl => exact .tuple _ _ (.cons _ _ _ _ h (.cons _ _ _ _ h2 hl))
  · have hf : (fun (x : ResultVar) => match x with
        | .tmp t => pure (tmps.getD t undef)
        | .cell a t => do loadVar t (← asAddr (tmps.getD a undef)) : ResultVar → Sem Value) = rsem tmps := by
      funext x; cases x <;> rfl
    unfold results
    rw [Sem.run_bind]
    have hm : (F.results.mapM (rsem tmps)).run P w = .ok ⟨vs'⟩ w := by
      rw [Array.mapM_eq_mapM_toList, Sem.run_map, q3]; rfl
    erw [hf]
    rw [hm, Result.andThen_ok]
    rfl

end Go.Abs

/- Calls: a body's run, the deferred calls, the results. -/
namespace Go.Abs
variable {P : Program} {E : Env} {w : World}

theorem run_take {r : Nat} (h : w.heap[r]? = some (.deferred (some []))) : ∃ w', (Instr.takeDeferred r).run P w = .ok [] w' ∧ Wr w w' r (.deferred none) := by
  obtain ⟨w', h1, h2⟩ := run_setObj (P := P) h (fun _ _ _ => by simp) (.deferred none)
  refine ⟨w', ?_, h2⟩
  simp [Instr.takeDeferred, run_getObj h, h1]

theorem DfR.nil_inv {m : M} {d : List Deferred} (h : DfR m [] d) : d = [] := by
  generalize he : ([] : List ADef) = x at h
  cases h with
  | nil => rfl
  | call => cases he
  | coll => cases he

theorem leave_ok {C : Ctx} (hC : CtxOk P E C) {ex : Ex} (hx : ExOk P E ex) {F : Func} {g : IFn} {nt : Nat} (hres : compRes E nt F.results.toList = some g.res) {tm : T Value} {tmps : Array Value} {κ : KR} :
    ∀ (ds : List ADef) (md : Option Value) (h : AH) (ds' : List Deferred) (m : M) (w : World) (fr : Frame) (cs : List Frame), leaveK C ex g tm ds md h κ = true → DfR m ds ds' → fr.defers = ds' → fr.tmps = tmps →
      TR m nt tm tmps → P.funcs[fr.fn]? = some F → fr.kind = .normal → (md = none → fr.mode = .returning) → (∀ v, md = some v → ∃ v', VR m v v' ∧ fr.mode = .panicking [{ v := v', recovered := false }]) → Rel P E m h w →
      ∃ r h' m' w' fr' e, κ r h' = true ∧ RR m' r e ∧ Rel P E m' h' w' ∧ Ev m h w m' h' w' ∧ Steps P (lone fr cs w) (lone fr' cs w') ∧ fr'.fn = fr.fn ∧ fr'.leaving P w' e
  | [], none, h, ds', m, w, fr, cs, hk, hd, hfd, hft, ht, hF, hkd, hm1, _, rel => by
    cases hd
    simp only [leaveK] at hk
    obtain ⟨vs, v', q1, q2, q3⟩ := results_ok hC.ty ht rel hres hk
    exact ⟨_, h, m, w, fr, .returned v', q1, .ret _ _ q2, rel, Ev.refl _ _ _, Steps.refl P _, rfl, hm1 rfl, hfd, hkd, F, hF, by rw [hft]; exact q3⟩
  | [], some v, h, ds', m, w, fr, cs, hk, hd, hfd, hft, ht, hF, hkd, _, hm2, rel => by
    cases hd
    simp only [leaveK] at hk
    obtain ⟨v', q1, q2⟩ := hm2 v rfl
    exact ⟨_, h, m, w, fr, .panicked [{ v := v', recovered := false }], hk, .panic _ _ q1, rel, Ev.refl _ _ _, Steps.refl P _, rfl, q2, hfd, F, hF⟩
  | .coll b :: ds, md, h, ds', m, w, fr, cs, hk, hd, hfd, hft, ht, hF, hkd, hm1, hm2, rel => by
    simp only [leaveK] at hk
    split at hk
    · rename_i hg
      rw [setObjK_eq] at hk
      cases hd with
      | coll _ L args _ ds' hm hd =>
        have ob := rel.obj b L _ hm hg
        obtain ⟨w1, r1, W⟩ := run_take (P := P) ob
        obtain ⟨rel1, ev1⟩ := rel_kill rel hm hg rfl W.size W.os W.tape W.output W.rest
        have hrun : fr.mode ≠ .run := by
          cases md with
          | none => rw [hm1 rfl]; simp
          | some v => obtain ⟨v', _, q2⟩ := hm2 v rfl; rw [q2]; simp
        have s1 := step_collected (cs := cs) hrun hfd rfl r1
        obtain ⟨r, h', m', w', fr', e, q1, q2, q3, q4, q5, q6, q7⟩ := leave_ok hC hx hres ds md _ ds' m w1 { fr with defers := [] ++ ds' } cs hk hd rfl hft ht hF hkd hm1 hm2 rel1
        exact ⟨r, h', m', w', fr', e, q1, q2, q3, ev1.trans q4, .head s1 q5, q6, q7⟩
    · simp at hk
  | .call f args :: ds, md, h, ds', m, w, fr, cs, hk, hd, hfd, hft, ht, hF, hkd, hm1, hm2, rel => by
    simp only [leaveK] at hk
    cases hd with
    | call _ _ cap dargs _ ds' ha hd =>
      obtain ⟨g2, F2, c2, n2, hk, f1, f2, f3, f4, f5, f6, f7⟩ := of_fnK hC hk
      split at hk
      · simp at hk
      · rename_i hle
        have hle := ble_of hle
        rw [argsT_eq] at hk
        have hrun : fr.mode ≠ .run := by
          cases md with
          | none => rw [hm1 rfl]; simp
          | some v => obtain ⟨v', _, q2⟩ := hm2 v rfl; rw [q2]; simp
        have hinv : (invoke (.fn (.func f) cap) dargs).run P w = .ok (.enter f (dargs ++ cap)) w := by
          simp only [invoke]; exact run_callFunc f1 f2 f3 _
        have s1 := step_defer (cs := cs) hrun hfd rfl hinv
        rw [enter_atR f1 f2] at s1
        -- the deferred call's body
        let b2 : Frame := { (default : Frame) with fn := f, kind := .deferred, roundOf := none }
        let fr1 : Frame := { fr with defers := ds' }
        let a2 : Act := { tmps := (dargs ++ cap) ++ Array.replicate (F2.ntmps - (dargs ++ cap).size) undef, defers := [] }
        have hum : UmR m b2 (umOf md) (fr1 :: cs) := by
          cases md with
          | none => exact .idle _ _ rfl rfl (hm1 rfl)
          | some v => obtain ⟨v', p1, p2⟩ := hm2 v rfl; exact .pan _ _ v v' rfl rfl p2 p1
        have htr : TR m F2.ntmps (putAll 0 args .leaf) a2.tmps := tr_args ha (by omega) (by omega)
        obtain ⟨x, st2, m2, e2, a3, cs2, w2, k1, k2, k3, k4, k5, k6⟩ := hx F2.ntmps c2 n2 g2.body _ _ m a2 b2 (fr1 :: cs) w [] hk f6 (by omega) ⟨htr, rel, hum, .nil⟩
        simp only at k1
        split at k1
        all_goals first | (simp at k1; done) | skip
        all_goals
          rename_i hdf
          have hdefs : a3.defers = [] := by
            have := k3.df
            rw [hdf] at this
            exact this.nil_inv
          obtain ⟨vs, v', p1, p2, p3⟩ := results_ok hC.ty k3.tm k3.rel f7 k1
          -- the callers
          obtain ⟨u, hcs⟩ : ∃ u, cs2 = { fr1 with mode := u } :: cs := by
            rcases k5 with rfl | ⟨_, c, u, rest, h1, rfl⟩
            · exact ⟨fr1.mode, rfl⟩
            · cases h1; exact ⟨u, rfl⟩
          have hend : ∃ fr2 : Frame, Steps P (lone (b2.atR a2 [.code c2]) (fr1 :: cs) w) (lone fr2 cs2 w2) ∧ fr2.kind = .deferred ∧ fr2.going P w2 (.returned v') := by
            cases k2
            first
              | exact ⟨_, Steps.trans k6 (.one (stepR_end rfl)), rfl, rfl, hdefs, F2, f1, p3⟩
              | (obtain ⟨todo, k6⟩ := k6
                 exact ⟨_, Steps.trans k6 (.one (stepR_ret rfl)), rfl, rfl, hdefs, F2, f1, p3⟩)
          obtain ⟨fr2, e1, e2, e3⟩ := hend
          rw [hcs] at e1
          have s2 := step_going_returned (cs := cs) (c := { fr1 with mode := u }) e2 e3
          have hmode : ∃ md', mdOf st2.um = md' ∧ (md' = none → settle u = .returning) ∧ (∀ v, md' = some v → ∃ v', VR m2 v v' ∧ settle u = .panicking [{ v := v', recovered := false }]) := by
            have := k3.um
            rw [hcs] at this
            generalize st2.um = um at this
            cases this with
            | na _ h hk => cases hk
            | rnd _ l h hk => cases hk
            | idle c cs h hk hc =>
              have hc : u = .returning := hc
              exact ⟨none, rfl, fun _ => by rw [hc]; rfl, fun v hv => by cases hv⟩
            | pan c cs v v' h hk hc hv =>
              have hc : u = .panicking [{ v := v', recovered := false }] := hc
              exact ⟨some v, rfl, (fun h => by cases h), (fun v1 h1 => by cases h1; exact ⟨v', hv, by rw [hc]; rfl⟩)⟩
            | recd c cs v v' h hk hc =>
              have hc : u = .panicking [{ v := v', recovered := true }] := hc
              exact ⟨none, rfl, fun _ => by rw [hc]; rfl, fun v hv => by cases hv⟩
          obtain ⟨md', d1, d2, d3⟩ := hmode
          rw [d1] at p1
          have le2 := k4.le rel
          obtain ⟨r, h', m', w', fr', e, q1, q2, q3, q4, q5, q6, q7⟩ := leave_ok hC hx hres ds md' _ ds' m2 w2 { { fr1 with mode := u } with mode := settle u } cs p1 (hd.mono le2) rfl hft (ht.mono le2) hF hkd d2 d3 k3.rel
          exact ⟨r, h', m', w', fr', e, q1, q2, q3, k4.trans q4, .head s1 (Steps.trans e1 (.head s2 q5)), q6, q7⟩

theorem call_ok {C : Ctx} (hC : CtxOk P E C) {ex : Ex} (hx : ExOk P E ex) {f : FuncId} {args args' : List Value} {h : AH} {κ : KR} {m : M} (hk : callK C ex f args h κ = true) (ha : VRs m args args') (rel : Rel P E m h w) (cs : List Frame) :
    CallFin P E f ⟨args'⟩ m h w κ cs := by
  unfold callK at hk
  split at hk
  · rename_i v h' hs
    exact hC.sm f args h v h' hs m w args' rel ha κ cs hk
  · obtain ⟨g, F, c, n, hk, f1, f2, f3, f4, f5, f6, f7⟩ := of_fnK hC hk
    split at hk
    · simp at hk
    · rename_i hle
      have hle := ble_of hle
      rw [argsT_eq] at hk
      let b : Frame := { (default : Frame) with fn := f, kind := .normal, roundOf := none }
      let a0 : Act := { tmps := (⟨args'⟩ : Array Value) ++ Array.replicate (F.ntmps - args'.length) undef, defers := [] }
      have htr : TR m F.ntmps (putAll 0 args .leaf) a0.tmps := tr_args ha (by omega) (by omega)
      have henter : Frame.enter P f ⟨args'⟩ .normal = b.atR a0 [.code c] := enter_atR f1 f2 _ _
      obtain ⟨x, st2, m2, e2, a3, cs2, w2, k1, k2, k3, k4, k5, k6⟩ := hx F.ntmps c n g.body _ _ m a0 b cs w [] hk f6 (by omega) ⟨htr, rel, .na _ rfl rfl, .nil⟩
      have hcs : cs2 = cs := k5.eq rfl
      subst hcs
      rw [← henter] at k6
      have fin : ∀ (md : Option Value) (fr : Frame), leaveK C ex g st2.tm st2.df md st2.h κ = true → fr.fn = f → fr.defers = a3.defers → fr.tmps = a3.tmps → fr.kind = .normal → (md = none → fr.mode = .returning) →
          (∀ v, md = some v → ∃ v', VR m2 v v' ∧ fr.mode = .panicking [{ v := v', recovered := false }]) → Steps P (lone (Frame.enter P f ⟨args'⟩ .normal) cs2 w) (lone fr cs2 w2) → CallFin P E f ⟨args'⟩ m h w κ cs2 := by
        intro md fr hl hfn hdf htm hkd hm1 hm2 hst
        obtain ⟨r, h', m', w', fr', e, q1, q2, q3, q4, q5, q6, q7⟩ := leave_ok hC hx f7 st2.df md st2.h a3.defers m2 w2 fr cs2 hl k3.df hdf htm k3.tm (by rw [hfn]; exact f1) hkd hm1 hm2 k3.rel
        exact ⟨r, h', m', w', e, q1, q2, q3, k4.trans q4, .inr ⟨run_callFunc f1 f2 f3 _, fr', Steps.trans hst q5, by rw [q6, hfn], q7⟩⟩
      cases k2 with
      | normal => exact fin none _ k1 rfl rfl rfl rfl (fun _ => rfl) (fun v hv => by cases hv) (Steps.trans k6 (.one (stepR_end rfl)))
      | ret =>
        obtain ⟨todo, k6⟩ := k6
        exact fin none _ k1 rfl rfl rfl rfl (fun _ => rfl) (fun v hv => by cases hv) (Steps.trans k6 (.one (stepR_ret rfl)))
      | panic v v' hv =>
        obtain ⟨todo, k6⟩ := k6
        exact fin (some v) _ k1 rfl rfl rfl rfl (fun h => by cases h) (fun v1 h1 => by cases h1; exact ⟨v', hv, rfl⟩) k6
      | exit id => simp at k1
      | goto l => simp at k1

end Go.Abs

/- A value is called: a function, or a round of a loop. -/
namespace Go.Abs
variable {P : Program} {E : Env} {w : World} {m : M}

/-- A frame to which a call has come back. -/
def out (fr : Frame) : Ending → Frame
  | .returned v => fr.finish v
  | .panicked ch => fr.raise ch
  | .outgrown => fr

/-- What the application of a value comes to. -/
def ApFin (P : Program) (E : Env) (fr : Frame) (cs : List Frame) (sem : Sem Next) (m : M) (h : AH) (w : World) (κ : KR) : Prop :=
  ∃ r h' m' w' e, κ r h' = true ∧ RR m' r e ∧ Rel P E m' h' w' ∧ Ev m h w m' h' w' ∧
    ∀ fr0 w0, (stepG P true { frame := fr0, callers := cs, status := .running, dying := none } w0).bare = (stepG.apply P true fr cs none sem w).bare → Steps P (lone fr0 cs w0) (lone (out fr e) cs w')

/-- A frame that stands at an operation of a region, or at a range over a function. -/
def calling (fr : Frame) : Prop := (∃ ops l k, fr.todo = .inRegion ops l :: k) ∨ ∃ l k, fr.todo = .inRangeFunc l :: k

theorem apply_value {fr : Frame} {cs : List Frame} {sem : Sem Next} {v : Value} {w' : World} (h : sem.run P w = .ok (.value v) w') :
    (stepG.apply P true fr cs none sem w).bare = .go { frame := fr.finish v, callers := cs, status := .running, dying := none } w' := by
  simp [stepG.apply, h]

theorem apply_skip {fr : Frame} {cs : List Frame} {sem : Sem Next} {w' : World} (h : sem.run P w = .ok .skip w') :
    (stepG.apply P true fr cs none sem w).bare = .go { frame := fr.finish undef, callers := cs, status := .running, dying := none } w' := by
  simp [stepG.apply, h]

theorem apply_enter {fr : Frame} (hc : calling fr) {cs : List Frame} {sem : Sem Next} {f : FuncId} {args : Array Value} {w' : World} (h : sem.run P w = .ok (.enter f args) w') :
    (stepG.apply P true fr cs none sem w).bare = .go { frame := Frame.enter P f args .normal, callers := fr :: cs, status := .running, dying := none } w' := by
  rcases hc with ⟨ops, l, k, hc⟩ | ⟨l, k, hc⟩ <;> simp [stepG.apply, h, hc]

theorem apply_round {fr : Frame} (hc : calling fr) {cs : List Frame} {sem : Sem Next} {l : Nat} {f : FuncId} {tmps : Array Value} {assign body : Code} {w' : World} (h : sem.run P w = .ok (.round l f tmps assign body) w') :
    (stepG.apply P true fr cs none sem w).bare = .go { frame := Frame.round l f tmps assign body .normal, callers := fr :: cs, status := .running, dying := none } w' := by
  rcases hc with ⟨ops, l, k, hc⟩ | ⟨l, k, hc⟩ <;> simp [stepG.apply, h, hc]

theorem apply_panic {fr : Frame} {cs : List Frame} {sem : Sem Next} {v : Value} {w' : World} (h : sem.run P w = .halt (.panic v) w') :
    (stepG.apply P true fr cs none sem w).bare = .go { frame := fr.raise [{ v := v, recovered := false }], callers := cs, status := .running, dying := none } w' := by
  simp [stepG.apply, h]

/-- A function's value, called. -/
theorem ap_call {C : Ctx} (hC : CtxOk P E C) {ex : Ex} (hx : ExOk P E ex) {f : FuncId} {args args' : List Value} {h : AH} {κ : KR} {m : M} (hk : callK C ex f args h κ = true) (ha : VRs m args args') (rel : Rel P E m h w)
    {fr : Frame} (hc : calling fr) (cs : List Frame) {sem : Sem Next} (hs : sem.run P w = (callFunc f ⟨args'⟩).run P w) : ApFin P E fr cs sem m h w κ := by
  obtain ⟨r, h', m', w', e, q1, q2, q3, q4, q5⟩ := call_ok hC hx hk ha rel (fr :: cs)
  refine ⟨r, h', m', w', e, q1, q2, q3, q4, fun fr0 w0 hst => ?_⟩
  rcases q5 with ⟨v', rfl, hv⟩ | ⟨hv, fr', s1, s2, s3⟩
  · exact .one (step_lone_go (hst.trans (apply_value (hs.trans hv))))
  · refine .head (step_lone_go (hst.trans (apply_enter hc (hs.trans hv)))) (Steps.trans s1 (.one ?_))
    cases q2 with
    | ret v v' hvv => exact step_leave_returned s3
    | panic v v' hvv => exact step_leave_panicked s3

theorem TR.set {nt : Nat} (hnt : nt < 2 ^ 40) {m : M} {tm : T Value} {tmps : Array Value} (ht : TR m nt tm tmps) {p : Nat} (hp : p < nt) {v v' : Value} (hv : VR m v v') :
    TR m nt (T.set (some v) (pos p) tm) (tmps.setIfInBounds p v') := by
  refine ⟨by simp [ht.size], fun t h => ?_⟩
  by_cases e : t = p
  · subst e
    have : tget (T.set (some v) (pos t) tm) (pos t) = v := by unfold tget; rw [get_set_same]
    rw [this]
    have : (tmps.setIfInBounds t v').getD t undef = v' := by
      have := ht.size
      simp [Array.getElem?_setIfInBounds, this, h]
    rw [this]; exact hv
  · have : tget (T.set (some v) (pos p) tm) (pos t) = tget tm (pos t) := by
      unfold tget; rw [get_set_ne _ _ _ _ (fun q => e (pos_inj (by omega) (by omega) q))]
    rw [this]
    have : (tmps.setIfInBounds p v').getD t undef = tmps.getD t undef := by
      simp only [Array.getD_eq_getD_getElem?, Array.getElem?_setIfInBounds]
      rw [if_neg (fun q => e q.symm)]
    rw [this]; exact ht.get t h

/-- A loop's record. -/
theorem run_getLoop {r : Nat} {lp : Loop} (h : w.heap[r]? = some (.loop lp)) : (Instr.getLoop r).run P w = .ok lp w := by
  simp [Instr.getLoop, run_getObj h]

/-- A loop's record, written. -/
theorem loop_write {m : M} {h : AH} (rel : Rel P E m h w) {l : Nat} {L : Loc} {tm : T Value} {ps : List Pos} {asg body : IC} {s s2 : LoopState} {pe pe2 : AX} (hm : m l = some L) (hg : h.get l = some (.loop tm ps asg body s pe))
    {j : Option Code} (hj : jumpCode pe2 = some j) :
    ∃ lp : Loop, w.heap[L.blk]? = some (.loop lp) ∧ lp.state = s ∧ jumpCode pe = some lp.pending ∧
      ∃ w', (setObj L.blk (.loop { lp with state := s2, pending := j })).run P w = .ok () w' ∧ Rel P E m (h.set l (some (.loop tm ps asg body s2 pe2))) w' ∧ Ev m h w m (h.set l (some (.loop tm ps asg body s2 pe2))) w' := by
  obtain ⟨lp, g1, g2, g3, g4, g5, g6, g7, g8, g9⟩ := rel.obj l L _ hm hg
  obtain ⟨w', r1, W⟩ := run_setObj (P := P) g1 (fun _ _ _ => by simp) (.loop { lp with state := s2, pending := j })
  obtain ⟨r2, e2⟩ := rel_set (w' := w') (y := .loop tm ps asg body s2 pe2) rel hm hg rfl W.size W.os W.tape W.output W.rest ⟨_, W.at_, g2, g3, g4, g5, g6, g7, rfl, hj⟩
  exact ⟨lp, g1, g8, g9, w', r1, r2, e2⟩

/-- The temporaries that a round's arguments are laid into. -/
theorem setAll_ok {nt : Nat} (hnt : nt < 2 ^ 40) {m : M} : ∀ (ps : List Tmp) (qs : List Pos) (args args' : List Value) (tm : T Value) (tmps : Array Value) (κ : T Value → Bool), setAll qs args tm κ = true → ps.map pos = qs →
    (∀ p ∈ ps, p < nt) → VRs m args args' → TR m nt tm tmps →
    ∃ t, κ t = true ∧ ps.length = args'.length ∧ TR m nt t ((ps.zip args').foldl (fun tmps (x : Tmp × Value) => tmps.setIfInBounds x.1 x.2) tmps)
  | [], qs, args, args', tm, tmps, κ, hk, hq, _, ha, ht => by
    subst hq
    cases ha with
    | nil => exact ⟨tm, hk, rfl, ht⟩
    | cons => simp [setAll] at hk
  | p :: ps, qs, args, args', tm, tmps, κ, hk, hq, hp, ha, ht => by
    subst hq
    cases ha with
    | nil => simp [setAll] at hk
    | cons v v' l l' hv hl =>
      simp only [List.map_cons, setAll, setK_eq] at hk
      obtain ⟨t, q1, q2, q3⟩ := setAll_ok hnt ps _ l l' _ (tmps.setIfInBounds p v') κ hk rfl (fun q hq => hp q (by simp [hq])) hl (TR.set hnt ht (hp p (by simp)) hv)
      exact ⟨t, q1, by simp [q2], by simpa using q3⟩

theorem ap_yield {ex : Ex} (hx : ExOk P E ex) {l : Nat} {args args' : List Value} {h : AH} {κ : KR} {m : M} {L : Loc} (hk : yieldK ex l args h κ = true) (hm : m l = some L) (ha : VRs m args args') (rel : Rel P E m h w)
    {fr : Frame} (hc : calling fr) (cs : List Frame) {sem : Sem Next} (hs : sem.run P w = (Instr.yield L.blk ⟨args'⟩).run P w) : ApFin P E fr cs sem m h w κ := by
  unfold yieldK at hk
  split at hk
  · rename_i tm ps asg body0 hg
    obtain ⟨lp, g1, g2, g3, g4, g5, ⟨N1, g6⟩, ⟨N2, g7⟩, g8, g9⟩ := rel.obj l L _ hm hg
    obtain ⟨t, hk1, hlen, htr⟩ := setAll_ok g5 lp.params.toList ps args args' tm lp.tmps _ hk g3 g4 ha g2
    let b : Frame := { (default : Frame) with fn := lp.fn, kind := .normal, roundOf := some L.blk }
    let a0 : Act := { tmps := (lp.params.toList.zip args').foldl (fun tmps (x : Tmp × Value) => tmps.setIfInBounds x.1 x.2) lp.tmps, defers := [] }
    have hrun : (Instr.yield L.blk ⟨args'⟩).run P w = .ok (.round L.blk lp.fn a0.tmps lp.assign lp.body) w := by
      have hsz : ¬ (args'.length ≠ lp.params.size) := by rw [← Array.length_toList, hlen]; simp
      have hz : (lp.params.zip ⟨args'⟩).foldl (fun tmps (x : Tmp × Value) => tmps.setIfInBounds x.1 x.2) lp.tmps = a0.tmps := by
        rw [← Array.foldl_toList, Array.toList_zip]
      simp only [Instr.yield, Sem.run_bind, run_getLoop g1, Result.andThen_ok]
      show Sem.run P (if args'.length ≠ lp.params.size then _ else _) w = _
      rw [if_neg hsz]
      show Result.ok (Next.round L.blk lp.fn ((lp.params.zip ⟨args'⟩).foldl (fun tmps (x : Tmp × Value) => tmps.setIfInBounds x.1 x.2) lp.tmps) lp.assign lp.body) w = _
      rw [hz]
    have hb0 : Frame.round L.blk lp.fn a0.tmps lp.assign lp.body .normal = b.atR a0 [.code lp.assign, .beginRound, .code lp.body] := by
      simp [Frame.round, Frame.atR, b, a0]
    obtain ⟨x, st1, m1, e1, a1, cs1, w1, k1, k2, k3, k4, k5, k6⟩ := hx lp.tmps.size lp.assign N1 asg _ _ m a0 b (fr :: cs) w [.beginRound, .code lp.body] hk1 g6 g5 ⟨htr, rel, .rnd _ _ rfl rfl, .nil⟩
    have hcs : cs1 = fr :: cs := k5.eq rfl
    subst hcs
    rw [← hb0] at k6
    dsimp only at k1
    split at k1
    case h_2 => simp at k1
    case h_1 hdf =>
    cases k2
    split at k1
    case h_2 => simp at k1
    case h_1 tm1 ps1 asg1 body1 hg1 =>
    rw [setObjK_eq] at k1
    have le1 := k4.le rel
    have hm1 : m1 l = some L := le1 _ _ hm
    obtain ⟨lp1, c1, c2, c3, w2, r1, rel2, ev2⟩ := loop_write (s2 := .busy) (pe2 := .normal) k3.rel hm1 hg1 (j := none) rfl
    have hbr : (Instr.beginRound L.blk).run P w1 = .ok () w2 := by
      have hp : lp1.pending = none := by
        have := c3
        simp [jumpCode] at this; exact this.symm
      have hl : ({ lp1 with state := .busy } : Loop) = { lp1 with state := .busy, pending := none } := by rw [← hp]
      simp only [Instr.beginRound, Sem.run_bind, run_getLoop c1, Result.andThen_ok, hl, r1, c2]
      rfl
    have s1 := stepR_beginRound (P := P) (b := b) (a := a1) (k := [.code lp.body]) (cs := fr :: cs) rfl hbr
    have hd1 : a1.defers = [] := by
      have := k3.df
      rw [hdf] at this
      exact this.nil_inv
    obtain ⟨x2, st2, m2, e2, a2, cs2, w3, j1, j2, j3, j4, j5, j6⟩ := hx lp.tmps.size lp.body N2 body0 _ _ m1 a1 b (fr :: cs) w2 [] k1 g7 g5 ⟨k3.tm, rel2, .rnd _ _ rfl rfl, by rw [hd1]; exact .nil⟩
    have hcs2 : cs2 = fr :: cs := j5.eq rfl
    subst hcs2
    have hm2 : m2 l = some L := (j4.le rel2) _ _ hm1
    dsimp only at j1
    split at j1
    case h_2 => simp at j1
    case h_1 tm2 ps2 asg2 body2 hdf2 hg2 =>
    have evAll := (k4.trans ev2).trans j4
    have start := fun (fr0 : Frame) (w0 : World) (hst : (stepG P true { frame := fr0, callers := cs, status := .running, dying := none } w0).bare = (stepG.apply P true fr cs none sem w).bare) => Steps.head (step_lone_go (hst.trans (apply_round hc (hs.trans hrun)))) (Steps.trans k6 (.one s1))
    -- the end of the round
    have fin : ∀ (s3 : LoopState) (pe : AX) (j : Option Code) (v : Bool), jumpCode pe = some j → s3 = (if j.isNone then .ready else .done) → v = j.isNone →
        κ (.ret (.bool v)) (st2.h.set l (some (.loop tm2 ps2 asg2 body2 s3 pe))) = true →
        (∀ w4, (Instr.endRound L.blk j).run P w3 = .ok (.bool v) w4 → Steps P (lone (b.atR a1 [.code lp.body]) (fr :: cs) w2) (lone (fr.finish (.bool v)) cs w4)) → ApFin P E fr cs sem m h w κ := by
      intro s3 pe j v hj hs3 hv hkk hst
      obtain ⟨lp3, d1, d2, d3, w4, r4, rel4, ev4⟩ := loop_write (s2 := s3) (pe2 := pe) j3.rel hm2 hg2 hj
      refine ⟨_, _, m2, w4, .returned (.bool v), hkk, .ret _ _ (.bool v), rel4, evAll.trans ev4, fun fr0 w0 hst0 => Steps.trans (start fr0 w0 hst0) (hst w4 ?_)⟩
      simp only [Instr.endRound, Sem.run_bind, run_getLoop d1, Result.andThen_ok, ← hs3, r4, hv]
      rfl
    cases j2 with
    | panic v v' hv => simp at j1
    | normal =>
      rw [setObjK_eq] at j1
      exact fin .ready .normal none true rfl rfl rfl j1 (fun w4 he => Steps.trans j6 (.one (stepR_round_end rfl rfl he)))
    | ret =>
      dsimp only at j1
      rw [setObjK_eq] at j1
      obtain ⟨todo, j6⟩ := j6
      exact fin .done .ret (some .ret) false rfl rfl rfl j1 (fun w4 he => Steps.trans j6 (.one (stepR_round_ret rfl rfl he)))
    | exit id =>
      dsimp only at j1
      rw [setObjK_eq] at j1
      obtain ⟨todo, ht, j6⟩ := j6
      exact fin .done (.exit id) (some (.exit id)) false rfl rfl rfl j1 (fun w4 he => Steps.trans j6 (.one (stepR_round_exit rfl rfl (by rw [ht]; rfl) he)))
    | goto t =>
      dsimp only at j1
      rw [setObjK_eq] at j1
      obtain ⟨todo, ht, j6⟩ := j6
      exact fin .done (.goto t) (some (.goto t)) false rfl rfl rfl j1 (fun w4 he => Steps.trans j6 (.one (stepR_round_goto rfl rfl (by rw [ht]; rfl) he)))
  · simp at hk

theorem func_of {g : Fn} {a b : List Value} {v' : Value} (h : VR m (.func g ⟨a⟩ ⟨b⟩) v') :
    (∃ f a' b', g = .func f ∧ v' = .func (.func f) ⟨a'⟩ ⟨b'⟩ ∧ VRs m a a' ∧ VRs m b b') ∨ (∃ l L, g = .yield l ∧ a = [] ∧ b = [] ∧ m l = some L ∧ v' = .func (.yield L.blk) ⟨[]⟩ ⟨[]⟩) := by
  generalize he : Value.func g ⟨a⟩ ⟨b⟩ = x at h
  cases h <;> try (cases he; done)
  · rename_i f a1 b1 a' b' ha hb
    cases he
    exact .inl ⟨f, a', b', rfl, rfl, ha, hb⟩
  · rename_i l L hl
    cases he
    exact .inr ⟨l, L, rfl, rfl, rfl, hl, rfl⟩

/-- The application of a value. -/
theorem ap_ok {C : Ctx} (hC : CtxOk P E C) {ex : Ex} (hx : ExOk P E ex) {fv fv' : Value} {args args' : List Value} {h : AH} {κ : KR} {m : M} (hk : applyK C ex fv args h κ = true) (hf : VR m fv fv') (ha : VRs m args args')
    (rel : Rel P E m h w) {fr : Frame} (hc : calling fr) (cs : List Frame) : ApFin P E fr cs (do let d ← Deferred.ofValue fv' ⟨args'⟩; invoke d.target d.args) m h w κ := by
  unfold applyK at hk
  split at hk
  · rename_i f a b
    rcases func_of hf with ⟨f1, a', b', e1, rfl, ha1, hb1⟩ | ⟨l, L, e1, _⟩
    · cases e1
      exact ap_call hC hx hk ((ha1.append ha).append hb1) rel hc cs (by
        simp only [Deferred.ofValue, pure_bind, invoke]
        congr 2
        apply Array.ext'; simp)
    · cases e1
  · rename_i l
    rcases func_of hf with ⟨f1, a', b', e1, _⟩ | ⟨l1, L, e1, _, _, hm, rfl⟩
    · cases e1
    · cases e1
      exact ap_yield hx hk hm ha rel hc cs (by
        simp only [Deferred.ofValue, pure_bind, invoke]
        congr 2
        apply Array.ext'; simp)
  · simp at hk

end Go.Abs

/- Regions whose order is fixed. -/
namespace Go.Abs
variable {P : Program} {E : Env} {w : World} {m : M} {nt : Nat}

/-- The operations that are no plain ones. -/
theorem comp_inv {o : Oper} {k : IK} (h : compIK E nt o = some k) (hp : plain k = false) :
    (∃ f xs f0 as at', k = .call f xs ∧ o.op = .call { callee := .value f0, args := as, argTypes := at' } ∧ opd E nt f0 = some f ∧ opds E nt as.toList = some xs) ∨
    (∃ f xs as at', k = .callF f xs ∧ o.op = .call { callee := .value (.func f), args := as, argTypes := at' } ∧ opds E nt as.toList = some xs) ∨
    (k = .recover ∧ ∃ at', o.op = .call { callee := .builtin .recover, args := #[], argTypes := at' }) ∨
    (∃ f xs f0 as at', k = .defer f xs ∧ o.op = .defer { callee := .value f0, args := as, argTypes := at' } ∧ opd E nt f0 = some f ∧ opds E nt as.toList = some xs) ∨
    (∃ x x0, k = .panic x ∧ o.op = .panic x0 ∧ opd E nt x0 = some x) := by
  unfold compIK at h
  split at h
  case h_35 f as at' ho =>
    cases hx : opds E nt as.toList with
    | none => rw [hx] at h; cases h
    | some y => rw [hx] at h; cases h; exact .inr (.inl ⟨f, y, as, at', rfl, ho, hx⟩)
  case h_36 f as at' hnf ho =>
    split at h
    · rename_i f' y h1 h2
      cases h
      exact .inl ⟨f', y, f, as, at', rfl, ho, h1, h2⟩
    · cases h
  case h_38 f as at' ho =>
    split at h
    · rename_i f' y h1 h2
      cases h
      exact .inr (.inr (.inr (.inl ⟨f', y, f, as, at', rfl, ho, h1, h2⟩)))
    · cases h
  case h_39 x ho =>
    cases hx : opd E nt x with
    | none => rw [hx] at h; cases h
    | some y => rw [hx] at h; cases h; exact .inr (.inr (.inr (.inr ⟨y, x, rfl, ho, hx⟩)))
  case h_37 bi as at' ho =>
    unfold compBuiltin at h
    split at h
    case h_8 hxs =>
      cases h
      have : as = #[] := Array.ext' hxs
      subst this
      exact .inr (.inr (.inl ⟨rfl, at', ho⟩))
    all_goals (exfalso; try simp only [compPure, Option.map_eq_some_iff] at h)
    all_goals repeat' (split at h)
    all_goals try simp only [Option.map_eq_some_iff] at h
    all_goals first | (cases h; done) | (cases h; cases hp; done) | (obtain ⟨_, _, h⟩ := h; cases h; cases hp; done) | skip
  all_goals (exfalso; try simp only [compBin, compPure, compConv, compSlice, Option.map_eq_some_iff] at h)
  all_goals repeat' (split at h)
  all_goals try simp only [Option.map_eq_some_iff] at h
  all_goals first | (cases h; done) | (cases h; cases hp; done) | (obtain ⟨_, _, h⟩ := h; cases h; cases hp; done) | skip

theorem compOp_k {ops : Array Oper} {o : Oper} {o' : IOp} {k : IK}
    (h : (match (match o.dst with | none => some none | some d => (match Nat.blt d nt with | true => some (some (pos d)) | false => none)),
      (match o.guard with | none => some none | some (j, w) => (match ops[j]? with | some oj => (match oj.dst with | some d => some (some (pos d, w)) | none => none) | none => none)) with
    | some d, some g => some (⟨d, g, k⟩ : IOp)
    | _, _ => none) = some o') :
    o'.k = k ∧ (o.dst = none ∧ o'.dst = none ∨ ∃ d, o.dst = some d ∧ d < nt ∧ o'.dst = some (pos d)) ∧
    (o.guard = none ∧ o'.g = none ∨ ∃ j wt oj d, o.guard = some (j, wt) ∧ ops[j]? = some oj ∧ oj.dst = some d ∧ o'.g = some (pos d, wt)) := by
  split at h
  · rename_i d g hd hg
    cases h
    refine ⟨rfl, ?_, ?_⟩
    · split at hd
      · rename_i h1; cases hd; exact .inl ⟨h1, rfl⟩
      · rename_i d' h1
        split at hd
        · rename_i h2; cases hd; exact .inr ⟨d', h1, blt_of h2, rfl⟩
        · cases hd
    · split at hg
      · rename_i h1; cases hg; exact .inl ⟨h1, rfl⟩
      · rename_i j wt h1
        split at hg
        · rename_i oj h2
          split at hg
          · rename_i d' h3; cases hg; exact .inr ⟨j, wt, oj, d', h1, h2, h3, rfl⟩
          · cases hg
        · cases hg
  · cases h

/-- What is known of an operation that is compiled. -/
theorem compOp_of {ops : Array Oper} {o : Oper} {o' : IOp} (h : compOp E nt ops o = some o') :
    (o'.k = .bad ∨ compIK E nt (slim o) = some o'.k) ∧ (o.dst = none ∧ o'.dst = none ∨ ∃ d, o.dst = some d ∧ d < nt ∧ o'.dst = some (pos d)) ∧
    (o.guard = none ∧ o'.g = none ∨ ∃ j wt oj d, o.guard = some (j, wt) ∧ ops[j]? = some oj ∧ oj.dst = some d ∧ o'.g = some (pos d, wt)) := by
  unfold compOp at h
  cases hc : compIK E nt (slim o) with
  | none =>
    rw [hc] at h
    obtain ⟨h1, h2⟩ := compOp_k h
    exact ⟨.inl h1, h2⟩
  | some k =>
    rw [hc] at h
    obtain ⟨h1, h2⟩ := compOp_k h
    exact ⟨.inr (by rw [h1]), h2⟩

/-- Is an operation asked for? -/
theorem want_ok {tm : T Value} {tmps : Array Value} (ht : TR m nt tm tmps) {ops : Array Oper} (hall : ∀ (j : Nat) (oj : Oper) (d : Nat), ops[j]? = some oj → oj.dst = some d → d < nt) {o : Oper} {o' : IOp} (h : compOp E nt ops o = some o')
    {yes no : Unit → Bool} (hk : wantK tm o'.g yes no = true) : (Region.wanted o (yielded ops tmps) = true ∧ yes () = true) ∨ (Region.wanted o (yielded ops tmps) = false ∧ no () = true) := by
  obtain ⟨_, _, hg⟩ := compOp_of h
  rcases hg with ⟨g1, g2⟩ | ⟨j, wt, oj, d, g1, g2, g3, g4⟩
  · rw [g2] at hk
    exact .inl ⟨by simp [Region.wanted, g1], hk⟩
  · rw [g4] at hk
    have hd := hall j oj d g2 g3
    have rd := ht.get d hd
    have hy : ∀ v, tmps.getD d undef = v → yielded ops tmps j = (match v with | .bool b => some b | _ => none) := by
      intro v hv
      have hlt : d < tmps.size := by rw [ht.size]; exact hd
      have : tmps[d]? = some v := by
        rw [Array.getElem?_eq_getElem hlt]
        congr 1
        rw [← hv]; simp [hlt]
      simp only [yielded, g2, g3, Option.bind_some, this]
      cases v <;> rfl
    unfold wantK at hk
    simp only at hk
    split at hk
    · rename_i bb hbb
      have h1 : tget tm (pos d) = .bool bb := by unfold tget; rw [hbb]
      rw [h1] at rd
      have h2 := hy _ (noAddr_eq rd rfl).symm
      simp only at h2
      split at hk
      · exact .inl ⟨by simp [Region.wanted, g1, h2], hk⟩
      · exact .inl ⟨by simp [Region.wanted, g1, h2], hk⟩
      · rename_i hne1 hne2
        refine .inr ⟨?_, hk⟩
        simp only [Region.wanted, g1, h2]
        cases bb <;> cases wt <;> first | rfl | exact (hne1 rfl rfl).elim | exact (hne2 rfl rfl).elim
    · rename_i hne
      refine .inr ⟨?_, hk⟩
      have h3 : ∀ bb, tget tm (pos d) ≠ .bool bb := by
        intro bb e
        unfold tget at e
        cases hq : tm.get (pos d) with
        | none => rw [hq] at e; simp [undef] at e
        | some v => rw [hq] at e; simp only at e; subst e; exact hne bb hq
      have h2 := hy _ rfl
      have : yielded ops tmps j = none := by
        rw [h2]
        split
        · rename_i bb hb
          rw [hb] at rd
          generalize tget tm (pos d) = z at rd h3
          cases rd
          exact absurd rfl (h3 _)
        · rfl
      simp [Region.wanted, g1, this]

/-- A value is put into a temporary. -/
theorem put_ok (hnt : nt < 2 ^ 40) {st : St} {a : Act} (ht : TR m nt st.tm a.tmps) {o : Oper} {o' : IOp} (hd : o.dst = none ∧ o'.dst = none ∨ ∃ d, o.dst = some d ∧ d < nt ∧ o'.dst = some (pos d)) {v v' : Value} (hv : VR m v v')
    {κ : St → Bool} (hk : putK st o'.dst v κ = true) : ∃ st', κ st' = true ∧ st'.df = st.df ∧ st'.um = st.um ∧ st'.h = st.h ∧ TR m nt st'.tm (a.put o.dst v').tmps ∧ (a.put o.dst v').defers = a.defers := by
  rcases hd with ⟨h1, h2⟩ | ⟨d, h1, h2, h3⟩
  · rw [h2] at hk; rw [h1]
    exact ⟨st, hk, rfl, rfl, rfl, ht, rfl⟩
  · rw [h3] at hk; rw [h1]
    obtain ⟨tm, df, um, h⟩ := st
    simp only [putK, setK_eq] at hk
    exact ⟨_, hk, rfl, rfl, rfl, TR.set hnt ht h2 hv, rfl⟩

theorem execOp_slim (ρ : Operand → Value) (o : Oper) : execOp ρ (slim o) = execOp ρ o := rfl

theorem map_list (f : Operand → Value) (as : Array Operand) : as.map f = ⟨as.toList.map f⟩ := by
  apply Array.ext'; simp

/-- One operation of a region. -/
theorem step_ok {C : Ctx} (hC : CtxOk P E C) {ex : Ex} (hx : ExOk P E ex) (hnt : nt < 2 ^ 40) {ops : Array Oper} (hall : ∀ (j : Nat) (oj : Oper) (d : Nat), ops[j]? = some oj → oj.dst = some d → d < nt) {o : Oper} {o' : IOp} (hcomp : compOp E nt ops o = some o')
    {i : Nat} (ho : ops[i]? = some o) (rest : List Nat) {b : Frame} {st : St} {a : Act} {cs : List Frame} (s : StR P E nt m b st a cs w) (k : List Item) {κ : KX} (hk : stepK C ex o' st κ = true) :
    Fin P E nt b (.inRegion ops rest :: k) cs m st.h w κ (lone (b.atR a (.inRegion ops (i :: rest) :: k)) cs w) := by
  obtain ⟨hik, hdst, _⟩ := compOp_of hcomp
  have hfin : ∀ v, (b.atR a (.inRegion ops (i :: rest) :: k)).finish v = b.atR (a.put o.dst v) (.inRegion ops rest :: k) := by
    intro v; rw [Frame.finish_atR, ho]; rfl
  unfold stepK at hk
  rcases want_ok s.tm hall hcomp hk with ⟨hw, hk⟩ | ⟨hw, hk⟩
  · have hg := stepGR_op (P := P) (b := b) (a := a) (k := k) (cs := cs) (w := w) (rest := rest) ho hw
    -- what is done once the value is there
    have don : ∀ {m' : M} {st1 : St} {a1 : Act} {cs1 : List Frame} {w' : World} {v v' : Value}, StR P E nt m' b st1 a1 cs1 w' → VR m' v v' → Ev m st.h w m' st1.h w' → CsR b cs cs1 →
        (match (OR.val v) with
          | .val v => putK st1 o'.dst v fun st => κ .normal st
          | .panic v => κ (.panic v) st1) = true →
        Steps P (lone (b.atR a (.inRegion ops (i :: rest) :: k)) cs w) (lone (b.atR (a1.put o.dst v') (.inRegion ops rest :: k)) cs1 w') →
        Fin P E nt b (.inRegion ops rest :: k) cs m st.h w κ (lone (b.atR a (.inRegion ops (i :: rest) :: k)) cs w) := by
      intro m' st1 a1 cs1 w' v v' s1 hv ev hcs hkk hst
      obtain ⟨st2, q1, q2, q3, q4, q5, q6⟩ := put_ok hnt s1.tm hdst hv hkk
      exact ⟨.normal, st2, m', .normal, _, cs1, w', q1, .normal, ⟨q5, by rw [q4]; exact s1.rel, by rw [q3]; exact s1.um, by rw [q2, q6]; exact s1.df⟩, by rw [q4]; exact ev, hcs, hst⟩
    -- what a call comes to
    let κ0 : KO := fun r st => match r with
      | .val v => putK st o'.dst v fun st => κ .normal st
      | .panic v => κ (.panic v) st
    have called : ∀ {fv fv' : Value} {xs xs' : List Value}, VR m fv fv' → VRs m xs xs' → applyK C ex fv xs st.h (retK st κ0) = true → execOp a.eval o = (do let d ← Deferred.ofValue fv' ⟨xs'⟩; invoke d.target d.args) → (∀ c, o.op ≠ .defer c) →
        Fin P E nt b (.inRegion ops rest :: k) cs m st.h w κ (lone (b.atR a (.inRegion ops (i :: rest) :: k)) cs w) := by
      intro fv fv' xs xs' hf ha hap hex hno
      rw [Oper.semAt_eq _ _ _ hno, hex] at hg
      obtain ⟨r, h', m', w', e, q1, q2, q3, q4, q5⟩ := ap_ok hC hx hap hf ha s.rel (fr := b.atR a (.inRegion ops (i :: rest) :: k)) (.inl ⟨_, _, _, rfl⟩) cs
      have st1 := q5 _ w (by rw [hg])
      have le := q4.le s.rel
      cases q2 with
      | ret v v' hv =>
        rw [show out (b.atR a (.inRegion ops (i :: rest) :: k)) (.returned v') = (b.atR a (.inRegion ops (i :: rest) :: k)).finish v' from rfl, hfin] at st1
        exact don (st1 := st.setH h') (a1 := a) (cs1 := cs) ⟨s.tm.mono le, q3, s.um.mono le, s.df.mono le⟩ hv q4 (CsR.refl _ _) q1 st1
      | panic v v' hv =>
        rw [show out (b.atR a (.inRegion ops (i :: rest) :: k)) (.panicked [{ v := v', recovered := false }]) = (b.atR a (.inRegion ops (i :: rest) :: k)).raise [{ v := v', recovered := false }] from rfl, Frame.raise_atR] at st1
        exact ⟨.panic v, st.setH h', m', .panic _, a, cs, w', q1, .panic _ _ hv, ⟨s.tm.mono le, q3, s.um.mono le, s.df.mono le⟩, q4, CsR.refl _ _, _, st1⟩
    rcases hik with hbad | hik
    · rw [hbad] at hk; simp [opRun] at hk
    cases hp : plain o'.k with
    | true =>
      have hno : ∀ c, o.op ≠ .defer c := by
        intro c hc
        unfold compIK at hik
        rw [show (slim o).op = o.op from rfl, hc] at hik
        split at hik
        all_goals first | (rename_i hq; cases hq; done) | skip
        · split at hik
          · simp only [Option.some.injEq] at hik
            rw [← hik] at hp; cases hp
          · cases hik
        · cases hik
      rw [Oper.semAt_eq _ _ _ hno] at hg
      obtain ⟨v, h', m', w', n, v', q1, q2, q3, q4, q5, q6⟩ := op_ok s.sr hC.ty hik hp hC.prog hk
      refine don (st1 := st.setH h') (a1 := a) (cs1 := cs) ⟨s.tm.mono (q6.le s.rel), q5, s.um.mono (q6.le s.rel), s.df.mono (q6.le s.rel)⟩ q4 q6 (CsR.refl _ _) q1 (.one (step_lone_go ?_))
      rw [hg, ← hfin]
      rcases q3 with rfl | ⟨rfl, rfl⟩
      · exact apply_value q2
      · exact apply_skip q2
    | false =>
      rcases comp_inv (o := slim o) hik hp with ⟨f, xs, f0, as, at', e1, e2, e3, e4⟩ | ⟨f, xs, as, at', e1, e2, e4⟩ | ⟨e1, at', e2⟩ | ⟨f, xs, f0, as, at', e1, e2, e3, e4⟩ | ⟨x, x0, e1, e2, e3⟩
      · -- a call
        have e2 : o.op = _ := e2
        rw [e1] at hk
        simp only [opRun, fCall, evK_eq, evsK_eq] at hk
        exact called (s.sr.op e3) (opds_of e4 s.tm s.rel.gl) hk (by unfold execOp; rw [e2]; simp only [resolve, map_list]) (fun c hc => by rw [e2] at hc; cases hc)
      · -- a call of a function
        have e2 : o.op = _ := e2
        rw [e1] at hk
        simp only [opRun, fCallF, evsK_eq] at hk
        refine called (.func f [] [] [] [] .nil .nil) (opds_of e4 s.tm s.rel.gl) (show applyK C ex (.func (.func f) ⟨[]⟩ ⟨[]⟩) _ st.h _ = true from ?_) (by unfold execOp; rw [e2]; simp only [resolve, map_list]; rfl) (fun c hc => by rw [e2] at hc; cases hc)
        simp only [applyK, List.nil_append, List.append_nil]
        exact hk
      · -- recover
        have e2 : o.op = _ := e2
        rw [e1] at hk
        simp only [opRun, fRecover] at hk
        have hno : ∀ c, o.op ≠ .defer c := fun c hc => by rw [e2] at hc; cases hc
        rw [Oper.semAt_eq _ _ _ hno] at hg
        have hex : (execOp a.eval o).run P w = .ok .recover w := by unfold execOp; rw [e2]; rfl
        have hum := s.um
        generalize hu : st.um = um at hk hum
        have none_ : b.roundOf = none → b.kind = .deferred → recoverD cs = none → κ0 (.val .nilIface) st = true → Fin P E nt b (.inRegion ops rest :: k) cs m st.h w κ (lone (b.atR a (.inRegion ops (i :: rest) :: k)) cs w) := by
          intro hro hkd hrec hkk
          refine don s (.iface0) (Ev.refl _ _ _) (CsR.refl _ _) hkk (.one (step_lone_go ?_))
          rw [hg, ← hfin]
          have htr := tryRecover_deferred (fr := b.atR a (.inRegion ops (i :: rest) :: k)) hkd cs
          simp only [Frame.atR, hro] at htr ⊢
          simp [stepG.apply, hex, htr, hrec]
        cases hum with
        | na _ h hkd => simp at hk
        | rnd _ l h hkd => simp at hk
        | idle c cs1 h hkd hc => exact none_ h hkd (by simp [recoverD, hc]) hk
        | recd c cs1 v v' h hkd hc => exact none_ h hkd (by simp [recoverD, hc]) hk
        | pan c cs1 v v' h hkd hc hv =>
          have hrec : recoverD (c :: cs1) = some (v', { c with mode := .panicking [{ v := v', recovered := true }] } :: cs1) := by simp [recoverD, hc]
          refine don (st1 := ⟨st.tm, st.df, .recd v, st.h⟩) (a1 := a) (cs1 := { c with mode := .panicking [{ v := v', recovered := true }] } :: cs1) ⟨s.tm, s.rel, .recd _ _ v v' h hkd rfl, s.df⟩ hv (Ev.refl _ _ _) (.inr ⟨hkd, c, _, cs1, rfl, rfl⟩) hk (.one (step_lone_go ?_))
          rw [hg, ← hfin]
          have htr := tryRecover_deferred (fr := b.atR a (.inRegion ops (i :: rest) :: k)) hkd (c :: cs1)
          simp only [Frame.atR, h] at htr ⊢
          simp [stepG.apply, hex, htr, hrec]
      · -- defer
        have e2 : o.op = _ := e2
        rw [e1] at hk
        simp only [opRun, fDefer, evK_eq, evsK_eq] at hk
        split at hk
        · rename_i g a1 b1 hu hfv
          have rf := s.sr.op e3
          rw [hfv] at rf
          rcases func_of rf with ⟨f1, a', b', e5, e6, ha1, hb1⟩ | ⟨l, L, e5, _⟩
          · cases e5
            have hum := s.um
            rw [hu] at hum
            have hro : b.roundOf = none := by cases hum; assumption
            rw [hro, Oper.semAt_none] at hg
            have hex : (execOp a.eval o).run P w = .ok (.defer { target := .fn (.func g) ⟨b'⟩, args := ⟨a'⟩ ++ as.map a.eval }) w := by
              unfold execOp; rw [e2]; simp only [resolve, e6]; rfl
            have hargs := opds_of e4 s.tm s.rel.gl
            let d : Deferred := { target := .fn (.func g) ⟨b'⟩, args := ⟨a'⟩ ++ as.map a.eval }
            refine don (st1 := ⟨st.tm, .call g (a1 ++ xs.map (ev st.tm) ++ b1) :: st.df, st.um, st.h⟩) (a1 := { a with defers := d :: a.defers }) (cs1 := cs) ⟨s.tm, s.rel, s.um, .call _ _ _ _ _ _ ?_ s.df⟩ (.tuple [] [] .nil) (Ev.refl _ _ _) (CsR.refl _ _) hk (.one (step_lone_go ?_))
            · have := (ha1.append hargs).append hb1
              simpa using this
            · have hf2 : ({ b.atR a (.inRegion ops (i :: rest) :: k) with defers := d :: a.defers } : Frame).finish undef = b.atR ({ a with defers := d :: a.defers }.put o.dst undef) (.inRegion ops rest :: k) := by
                have := Frame.finish_atR b { a with defers := d :: a.defers } ops i rest k undef
                rw [ho] at this; exact this
              rw [hg]; simp only [stepG.apply, Sem.runT_eq, hex, GStep.bare_after]
              exact congrArg (fun fr => GStep.go { frame := fr, callers := cs, status := .running, dying := none } w) hf2
          · cases e5
        · simp at hk
      · -- panic
        have e2 : o.op = _ := e2
        rw [e1] at hk
        simp only [opRun, fPanic, evK_eq] at hk
        have hno : ∀ c, o.op ≠ .defer c := fun c hc => by rw [e2] at hc; cases hc
        rw [Oper.semAt_eq _ _ _ hno] at hg
        split at hk
        · rename_i t v hv
          have rx := s.sr.op e3
          rw [hv] at rx
          generalize hxv : a.eval x0 = xv at rx
          cases rx with
          | iface _ _ v' hvv =>
            have hex : (execOp a.eval o).run P w = .halt (.panic (.iface t v')) w := by unfold execOp; rw [e2]; simp only [hxv]; rfl
            exact ⟨.panic _, st, m, .panic [{ v := .iface t v', recovered := false }], a, cs, w, hk, .panic _ _ (.iface t _ _ hvv), s, Ev.refl _ _ _, CsR.refl _ _, _, .one (step_lone_go (by
              rw [hg, apply_panic hex, Frame.raise_atR]))⟩
        · simp at hk
  · obtain ⟨st', q1, q2, q3, q4, q5, q6⟩ := put_ok hnt s.tm hdst (.tuple [] [] .nil : VR m undef undef) hk
    have hs := stepR_op_skip (P := P) (b := b) (a := a) (k := k) (cs := cs) (w := w) (ops := ops) (i := i) (rest := rest) (by simp [ho, hw])
    simp only [ho, Option.bind_some] at hs
    exact ⟨.normal, st', m, .normal, _, cs, w, q1, .normal, ⟨q5, by rw [q4]; exact s.rel, by rw [q3]; exact s.um, by rw [q2, q6]; exact s.df⟩, by rw [q4]; exact Ev.refl _ _ _, CsR.refl _ _, .one hs⟩

end Go.Abs

/- Code. -/
namespace Go.Abs
variable {P : Program} {E : Env} {w : World} {m : M} {nt : Nat}

theorem compOps_get {ops : Array Oper} : ∀ {os : List Oper} {l : List IOp}, compOps E nt ops os = some l → os.length = l.length ∧ ∀ (i : Nat) (o : Oper), os[i]? = some o → ∃ o', l[i]? = some o' ∧ compOp E nt ops o = some o'
  | [], l, h => by simp only [compOps, Option.some.injEq] at h; subst h; exact ⟨rfl, fun i o h => by simp at h⟩
  | o :: os, l, h => by
    simp only [compOps] at h
    split at h
    · rename_i x xs h1 h2
      cases h
      obtain ⟨g1, g2⟩ := compOps_get h2
      refine ⟨by simp [g1], fun i o2 hi => ?_⟩
      cases i with
      | zero => simp at hi; subst hi; exact ⟨x, by simp, h1⟩
      | succ i => simp at hi; obtain ⟨o', q1, q2⟩ := g2 i o2 hi; exact ⟨o', by simpa using q1, q2⟩
    · cases h

theorem compOps_dst {ops : Array Oper} {l : List IOp} (h : compOps E nt ops ops.toList = some l) (j : Nat) (oj : Oper) (d : Nat) (hj : ops[j]? = some oj) (hd : oj.dst = some d) : d < nt := by
  obtain ⟨_, g⟩ := compOps_get h
  obtain ⟨o', q1, q2⟩ := g j oj (by rw [Array.getElem?_toList]; exact hj)
  obtain ⟨_, hh, _⟩ := compOp_of q2
  rcases hh with ⟨h1, _⟩ | ⟨d', h1, h2, _⟩
  · rw [h1] at hd; cases hd
  · rw [h1] at hd; cases hd; exact h2

/-- What stands behind is handed on. -/
theorem ArrR.pass {M0 : Machine} {b : Frame} {x : Item} {k : List Item} {cs : List Frame} {e : Exit} {a : Act} {w : World} (hx : x.plain = true) (hn : e ≠ .normal) (h : ArrR P M0 b (x :: k) cs e a w) : ArrR P M0 b k cs e a w := by
  cases e with
  | normal => exact absurd rfl hn
  | exit id => obtain ⟨t, h1, h2⟩ := h; exact ⟨t, by rw [h1]; cases x <;> simp_all [exitTo, Item.plain], h2⟩
  | goto l => obtain ⟨t, h1, h2⟩ := h; exact ⟨t, by rw [h1]; cases x <;> simp_all [gotoIn, Item.plain], h2⟩
  | ret => exact h
  | panic ch => exact h
  | outgrown => exact h

/-- One after the other. -/
theorem Fin.bind {b : Frame} {x0 : Item} {k : List Item} {cs : List Frame} {h : AH} {κ κ2 : KX} {M0 : Machine} (hx0 : x0.plain = true) (hf : Fin P E nt b (x0 :: k) cs m h w κ2 M0)
    (h2 : ∀ x st, κ2 x st = true → x ≠ .normal → κ x st = true)
    (hn : ∀ (m1 : M) (st1 : St) (a1 : Act) (cs1 : List Frame) (w1 : World), κ2 .normal st1 = true → StR P E nt m1 b st1 a1 cs1 w1 → Fin P E nt b k cs1 m1 st1.h w1 κ (lone (b.atR a1 (x0 :: k)) cs1 w1)) : Fin P E nt b k cs m h w κ M0 := by
  obtain ⟨x, st1, m1, e1, a1, cs1, w1, q1, q2, q3, q4, q5, q6⟩ := hf
  cases q2 with
  | normal => exact Fin.after q4 q5 (Fin.of_steps q6 (hn m1 st1 a1 cs1 w1 q1 q3))
  | exit id => exact ⟨_, st1, m1, _, a1, cs1, w1, h2 _ _ q1 (by simp), .exit id, q3, q4, q5, q6.pass hx0 (by simp)⟩
  | goto l => exact ⟨_, st1, m1, _, a1, cs1, w1, h2 _ _ q1 (by simp), .goto l, q3, q4, q5, q6.pass hx0 (by simp)⟩
  | ret => exact ⟨_, st1, m1, _, a1, cs1, w1, h2 _ _ q1 (by simp), .ret, q3, q4, q5, q6.pass hx0 (by simp)⟩
  | panic v v' hv => exact ⟨_, st1, m1, _, a1, cs1, w1, h2 _ _ q1 (by simp), .panic v v' hv, q3, q4, q5, q6.pass hx0 (by simp)⟩

theorem reg_ok {C : Ctx} (hC : CtxOk P E C) {ex : Ex} (hx : ExOk P E ex) (hnt : nt < 2 ^ 40) {ops : Array Oper} {L : List IOp} (hcomp : compOps E nt ops ops.toList = some L) {b : Frame} (k : List Item) {κ : KX} :
    ∀ (l : List IOp) (i : Nat) (m : M) (st : St) (a : Act) (cs : List Frame) (w : World), L.drop i = l → regK C ex l st κ = true → StR P E nt m b st a cs w →
      Fin P E nt b k cs m st.h w κ (lone (b.atR a (.inRegion ops (List.range' i (ops.size - i)) :: k)) cs w)
  | [], i, m, st, a, cs, w, hl, hk, s => by
    obtain ⟨g1, _⟩ := compOps_get hcomp
    have hi : ops.size - i = 0 := by
      have := congrArg List.length hl
      simp at this g1; omega
    rw [hi]
    exact Fin.mk hk .normal s (.one stepR_region_end)
  | o' :: l, i, m, st, a, cs, w, hl, hk, s => by
    obtain ⟨g1, g2⟩ := compOps_get hcomp
    have hi : i < ops.size := by
      have := congrArg List.length hl
      simp at this g1; omega
    have hsz : ops.size - i = (ops.size - (i + 1)) + 1 := by omega
    obtain ⟨o2, q1, q2⟩ := g2 i ops[i] (by simp [hi])
    have : o2 = o' := by
      have h1 : L[i]? = (L.drop i)[0]? := by simp
      rw [hl] at h1
      rw [q1] at h1
      simpa using h1
    subst this
    rw [hsz, List.range'_succ]
    simp only [regK] at hk
    refine Fin.bind (x0 := .inRegion ops (List.range' (i + 1) (ops.size - (i + 1)))) rfl (step_ok hC hx hnt (compOps_dst hcomp) q2 (by simp [hi]) _ s k hk) ?_ ?_
    · intro x st1 h1 h2
      cases x <;> first | exact absurd rfl h2 | exact h1
    · intro m1 st1 a1 cs1 w1 h1 s1
      exact reg_ok hC hx hnt hcomp k l (i + 1) m1 st1 a1 cs1 w1 (by rw [← List.drop_drop, hl]; simp) h1 s1

section
variable {b : Frame} {a : Act} {k : List Item} {cs : List Frame}
theorem stepR_scope {c : Code} : step P (lone (b.atR a (.code (.scope c) :: k)) cs w) = .next (lone (b.atR a (.code c :: .inScope c :: k)) cs w) :=
  step_lone_go (by simp [stepG, stepG.exec, Frame.atR])
theorem stepR_inScope {c : Code} : step P (lone (b.atR a (.inScope c :: k)) cs w) = .next (lone (b.atR a k) cs w) :=
  step_lone_go (by simp [stepG, stepG.exec, Frame.atR])
end

/-- What drawn regions must keep. -/
def DrawOk (P : Program) (E : Env) (C : Ctx) (ex : Ex) : Prop :=
  ∀ (nt : Nat) (ops : Array Oper) (id : Nat) (l : List (Nat × IOp × Cls)) (N : Nat) (st : St) (κ : KX) (m : M) (a : Act) (b : Frame) (cs : List Frame) (w : World) (k : List Item),
    cDraw l C ex N st κ = true → compDraw E nt ops = some l → nt < 2 ^ 40 → StR P E nt m b st a cs w → Fin P E nt b k cs m st.h w κ (lone (b.atR a (.code (.region id ops true) :: k)) cs w)

theorem loop_ok {C : Ctx} {ex : Ex} (hx : ExOk P E ex) (hnt : nt < 2 ^ 40) {c0 : Code} {c : IC} {N : Nat} (hc : comp E nt N c0 = some c) {b : Frame} (k : List Item) {κ : KX} :
    ∀ (n : Nat) (m : M) (st : St) (a : Act) (cs : List Frame) (w : World), loopK ex c n st κ = true → StR P E nt m b st a cs w → Fin P E nt b k cs m st.h w κ (lone (b.atR a (.code c0 :: .inLoop c0 :: k)) cs w)
  | 0, m, st, a, cs, w, hk, s => by simp [loopK] at hk
  | n + 1, m, st, a, cs, w, hk, s => by
    simp only [loopK] at hk
    refine Fin.bind (x0 := .inLoop c0) rfl (hx nt c0 N c st _ m a b cs w (.inLoop c0 :: k) hk hc hnt s) ?_ ?_
    · intro x st1 h1 h2
      cases x <;> first | exact absurd rfl h2 | exact h1
    · intro m1 st1 a1 cs1 w1 h1 s1
      exact Fin.of_steps (.one stepR_inLoop) (loop_ok (C := C) hx hnt hc k n m1 st1 a1 cs1 w1 h1 s1)

end Go.Abs

/- Scopes, ranges over functions; all of the code. -/
namespace Go.Abs
variable {P : Program} {E : Env} {w : World} {m : M} {nt : Nat}

theorem findLabel_mem : ∀ {c : Code} {l : Nat} {r : Code}, findLabel c l = some r → l ∈ labelsOf c := by
  intro c
  induction c with
  | seq x y ihx ihy =>
    intro l r h
    simp only [findLabel] at h
    simp only [labelsOf, List.mem_append]
    cases hx : findLabel x l with
    | some rx => exact .inl (ihx hx)
    | none => rw [hx] at h; exact .inr (ihy h)
  | label l' =>
    intro l r h
    simp only [findLabel] at h
    split at h
    · rename_i he
      simp only [labelsOf, List.mem_singleton]
      have : l' = l := by simpa using he
      exact this.symm
    · cases h
  | _ => intro l r h; simp [findLabel] at h

theorem mapM_some {α β : Type} {f : α → Option β} : ∀ {l : List α} {r : List β}, l.mapM f = some r → ∀ x ∈ l, ∃ y ∈ r, f x = some y
  | [], r, h, x, hx => by cases hx
  | a :: l, r, h, x, hx => by
    simp only [List.mapM_cons, Option.bind_eq_bind, Option.bind_eq_some_iff] at h
    obtain ⟨y, h1, ys, h2, h3⟩ := h
    cases h3
    rcases List.mem_cons.1 hx with e | e
    · subst e; exact ⟨y, by simp, h1⟩
    · obtain ⟨z, q1, q2⟩ := mapM_some h2 x e
      exact ⟨z, by simp [q1], q2⟩

theorem mapM_some' {α β : Type} {f : α → Option β} : ∀ {l : List α} {r : List β}, l.mapM f = some r → ∀ y ∈ r, ∃ x ∈ l, f x = some y
  | [], r, h, y, hy => by
    simp at h; subst h; cases hy
  | a :: l, r, h, y, hy => by
    simp only [List.mapM_cons, Option.bind_eq_bind, Option.bind_eq_some_iff] at h
    obtain ⟨z, h1, ys, h2, h3⟩ := h
    cases h3
    rcases List.mem_cons.1 hy with e | e
    · subst e; exact ⟨a, by simp, h1⟩
    · obtain ⟨x, q1, q2⟩ := mapM_some' h2 y e
      exact ⟨x, by simp [q1], q2⟩

theorem labelOf_some {l : Nat} : ∀ {ls : List (Nat × IC)} {r : IC}, labelOf l ls = some r → (l, r) ∈ ls
  | [], _, h => by cases h
  | (q, c) :: ls, r, h => by
    simp only [labelOf] at h
    split at h
    · rename_i hb
      have := beq_of hb; subst this
      cases h; simp
    · simp [labelOf_some h]

theorem labelOf_none {l : Nat} : ∀ {ls : List (Nat × IC)}, labelOf l ls = none → ∀ r, (l, r) ∉ ls
  | [], _, r => by simp
  | (q, c) :: ls, h, r => by
    simp only [labelOf] at h
    split at h
    · cases h
    · rename_i hb
      have := beq_ne hb
      simp only [List.mem_cons, not_or]
      exact ⟨fun e => by cases e; exact this rfl, labelOf_none h r⟩

theorem scope_ok {ex : Ex} (hx : ExOk P E ex) (hnt : nt < 2 ^ 40) {body : Code} {N : Nat} {ls : List (Nat × IC)}
    (hls : (labelsOf body).mapM (fun l => (findLabel body l).bind fun r => (comp E nt N r).map fun r => (l, r)) = some ls) {b : Frame} (k : List Item) {κ : KX} :
    ∀ (n : Nat) (c0 : Code) (c : IC) (m : M) (st : St) (a : Act) (cs : List Frame) (w : World), comp E nt N c0 = some c → scopeK ex ls n c st κ = true → StR P E nt m b st a cs w →
      Fin P E nt b k cs m st.h w κ (lone (b.atR a (.code c0 :: .inScope body :: k)) cs w)
  | 0, c0, c, m, st, a, cs, w, hc, hk, s => by simp [scopeK] at hk
  | n + 1, c0, c, m, st, a, cs, w, hc, hk, s => by
    simp only [scopeK] at hk
    obtain ⟨x, st1, m1, e1, a1, cs1, w1, q1, q2, q3, q4, q5, q6⟩ := hx nt c0 N c st _ m a b cs w (.inScope body :: k) hk hc hnt s
    cases q2 with
    | normal => exact ⟨.normal, st1, m1, .normal, a1, cs1, w1, q1, .normal, q3, q4, q5, Steps.trans q6 (.one stepR_inScope)⟩
    | exit id => obtain ⟨t, h1, h2⟩ := q6; exact ⟨_, st1, m1, _, a1, cs1, w1, q1, .exit id, q3, q4, q5, t, by rw [h1]; simp [exitTo], h2⟩
    | ret => exact ⟨_, st1, m1, _, a1, cs1, w1, q1, .ret, q3, q4, q5, q6⟩
    | panic v v' hv => exact ⟨_, st1, m1, _, a1, cs1, w1, q1, .panic v v' hv, q3, q4, q5, q6⟩
    | goto l =>
      obtain ⟨t, h1, h2⟩ := q6
      dsimp only at q1
      split at q1
      · rename_i rest hl
        obtain ⟨l2, hl2, hf⟩ := mapM_some' hls _ (labelOf_some hl)
        simp only [Option.bind_eq_some_iff, Option.map_eq_some_iff, Prod.mk.injEq] at hf
        obtain ⟨r0, hr0, r1, hr1, rfl, rfl⟩ := hf
        have hg : gotoIn l2 t = some (.code r0 :: .inScope body :: k) := by rw [h1]; simp [gotoIn, hr0]
        exact Fin.after q4 q5 (Fin.of_steps (Steps.trans h2 (.one (stepR_goto hg))) (scope_ok hx hnt hls k n r0 r1 m1 st1 a1 cs1 w1 hr1 q1 q3))
      · rename_i hl
        have hn : findLabel body l = none := by
          cases hf : findLabel body l with
          | none => rfl
          | some r0 =>
            obtain ⟨y, hy, hfy⟩ := mapM_some hls l (findLabel_mem hf)
            simp only [Option.bind_eq_some_iff, Option.map_eq_some_iff] at hfy
            obtain ⟨_, _, r1, _, rfl⟩ := hfy
            exact absurd hy (labelOf_none hl r1)
        exact ⟨.goto l, st1, m1, .goto l, a1, cs1, w1, q1, .goto l, q3, q4, q5, t, by rw [h1]; simp [gotoIn, hn], h2⟩

theorem run_enterLoop {fn : FuncId} {tmps : Array Value} {ps : Array Tmp} {assign body : Code} :
    (Instr.enterLoop fn tmps ps assign body none).run P w = .ok (w.heap.size + 1, [{ target := .collected w.heap.size, args := #[] }])
      ((w.alloc (.deferred (some []))).alloc (.loop { state := .ready, pending := none, fn, tmps, params := ps, assign, body, defers := w.heap.size })) := by
  simp [Instr.enterLoop]

theorem range_ok {C : Ctx} (hC : CtxOk P E C) {ex : Ex} (hx : ExOk P E ex) (hnt : nt < 2 ^ 40) {f0 : Operand} {f : Opd} {ps : Array Tmp} {assign body : Code} {N : Nat} {x y : IC} (hf : opd E nt f0 = some f)
    (h1 : comp E nt N assign = some x) (h2 : comp E nt N body = some y) (hps : ps.all (Nat.blt · nt) = true) {b : Frame} (k : List Item) {κ : KX} {n : Nat} {st : St} {a : Act} {cs : List Frame}
    (hk : cRange f (ps.toList.map pos) x y C ex n st κ = true) (s : StR P E nt m b st a cs w) : Fin P E nt b k cs m st.h w κ (lone (b.atR a (.code (.rangeFunc f0 ps assign body) :: k)) cs w) := by
  unfold cRange at hk
  split at hk
  · rename_i hum
    have hu := s.um
    rw [hum] at hu
    have hro : b.roundOf = none := by cases hu; assumption
    simp only [evK_eq] at hk
    obtain ⟨hn1, hk⟩ := of_newK hk
    obtain ⟨hn2, hk⟩ := of_newK hk
    -- the two blocks
    let w1 := w.alloc (.deferred (some []))
    let lp : Loop := { state := .ready, pending := none, fn := b.fn, tmps := a.tmps, params := ps, assign, body, defers := w.heap.size }
    let w2 := w1.alloc (.loop lp)
    obtain ⟨rel1, ev1, le1⟩ := rel_new (L := ⟨w.heap.size, 0, 0, 0, 0⟩) (x := .defs) (o := .deferred (some [])) (w' := w1) s.rel hn1 rfl rfl rfl rfl rfl rfl
      (fun hle => by show (w.heap.push _)[w.heap.size]? = _; simp)
    have hsz1 : w1.heap.size = w.heap.size + 1 := by simp [w1]
    have htm : lp.tmps.size = nt := s.tm.size
    obtain ⟨rel2, ev2, le2⟩ := rel_new (L := ⟨w1.heap.size, 0, 0, 0, 0⟩) (x := .loop st.tm (ps.toList.map pos) x y .ready .normal) (o := .loop lp) (w' := w2) rel1 hn2 rfl rfl rfl rfl rfl rfl
      (fun hle => ⟨lp, by show (w1.heap.push _)[w1.heap.size]? = _; simp, by rw [htm]; exact (s.tm.mono le1).mono hle, rfl, fun p hp => by
        rw [htm]
        exact blt_of (by simpa using (Array.all_eq_true_iff_forall_mem.1 hps) p (by simpa using hp)), by rw [htm]; exact hnt, ⟨N, by rw [htm]; exact h1⟩, ⟨N, by rw [htm]; exact h2⟩, rfl, rfl⟩)
    have evW := ev1.trans ev2
    have leW := le1.trans le2
    have hl2 : upd (upd m st.h.nx ⟨w.heap.size, 0, 0, 0, 0⟩) (st.h.new .defs).nx ⟨w1.heap.size, 0, 0, 0, 0⟩ (st.h.new .defs).nx = some ⟨w1.heap.size, 0, 0, 0, 0⟩ := upd_same _ _ _
    have hl1 : upd (upd m st.h.nx ⟨w.heap.size, 0, 0, 0, 0⟩) (st.h.new .defs).nx ⟨w1.heap.size, 0, 0, 0, 0⟩ st.h.nx = some ⟨w.heap.size, 0, 0, 0, 0⟩ := le2 _ _ (upd_same _ _ _)
    let a2 : Act := { a with defers := [{ target := .collected w.heap.size, args := #[] }] ++ a.defers }
    let fr : Frame := b.atR a2 (.inRangeFunc w1.heap.size :: k)
    obtain ⟨r, h', m', w', e, q1, q2, q3, q4, q5⟩ := ap_ok hC hx hk ((s.sr.op hf).mono leW) (.cons _ _ _ _ (.yield _ _ hl2) .nil) rel2 (fr := fr) (.inr ⟨_, _, rfl⟩) cs
    have st0 := q5 (b.atR a (.code (.rangeFunc f0 ps assign body) :: k)) w (by
      have he := run_enterLoop (P := P) (w := w) (fn := b.fn) (tmps := a.tmps) (ps := ps) (assign := assign) (body := body)
      have hev := Frame.eval_atR b a2 (.inRangeFunc w1.heap.size :: k)
      simp only [Frame.atR, a2] at hev
      simp only [stepG, stepG.exec, Frame.atR, hro, Sem.runT_eq, he, GStep.bare_after]
      simp only [fr, Frame.atR, hro, a2, resolve, hev, hsz1]
      have h3 : ∀ (g : Operand → Value) (v : Value), g (.const v) = v → Array.map g #[.const v] = ⟨[v]⟩ := by intro g v hg; simp [hg]
      rw [h3 _ _ rfl]
      cases f0 <;> rfl)
    cases q2 with
    | panic v v' hv => simp at q1
    | ret v v' hv =>
      dsimp only at q1
      have leA : Le m m' := leW.trans (q4.le rel2)
      have hm1 : m' st.h.nx = some ⟨w.heap.size, 0, 0, 0, 0⟩ := (q4.le rel2) _ _ hl1
      have hm2 : m' (st.h.new .defs).nx = some ⟨w1.heap.size, 0, 0, 0, 0⟩ := (q4.le rel2) _ _ hl2
      rw [show out fr (.returned v') = fr.finish v' from rfl, finish_atR_inRangeFunc] at st0
      split at q1
      · rename_i tm3 ps3 asg3 body3 s3 p3 hg3
        split at q1
        · simp at q1
        · rename_i hbusy
          rw [setObjK_eq] at q1
          obtain ⟨lp0, g1, _, _, _, _, _, _, _, g9⟩ := q3.obj _ _ _ hm2 hg3
          obtain ⟨lp3, d1, d2, d3, w4, r4, rel4, ev4⟩ := loop_write (s2 := .exhausted) (pe2 := p3) q3 hm2 hg3 g9
          have hlp : lp0 = lp3 := by
            rw [d1] at g1
            simpa using g1.symm
          subst hlp
          have hend : (Instr.endLoop w1.heap.size).run P w' = .ok lp0.pending w4 := by
            have hb : (lp0.state == LoopState.busy) = false := by
              rw [d2]
              cases s3 <;> first | rfl | exact absurd rfl hbusy
            have hpp : ({ lp0 with state := .exhausted, pending := lp0.pending } : Loop) = { lp0 with state := .exhausted } := rfl
            rw [hpp] at r4
            simp only [Instr.endLoop, Sem.run_bind, run_getLoop d1, Result.andThen_ok, hb, Bool.false_eq_true, if_false, pure_bind, r4, Sem.run_pure]
          have st1 := Steps.trans st0 (.one (stepR_endRangeFunc (b := b) (a := a2) (k := k) (cs := cs) hend))
          have sEnd : StR P E nt m' b ⟨st.tm, .coll st.h.nx :: st.df, .na, h'.set (st.h.new .defs).nx (some (.loop tm3 ps3 asg3 body3 .exhausted p3))⟩ a2 cs w4 :=
            ⟨s.tm.mono leA, rel4, by cases hu; exact .na _ ‹_› ‹_›, .coll _ _ _ _ _ hm1 (s.df.mono leA)⟩
          have evEnd := (evW.trans q4).trans ev4
          cases p3 with
          | panic v => simp [jumpCode] at d3
          | normal =>
            have hj : lp0.pending = none := by simpa [jumpCode] using d3.symm
            rw [hj] at st1
            exact ⟨_, _, m', .normal, a2, cs, w4, q1, .normal, sEnd, evEnd, CsR.refl _ _, st1⟩
          | ret =>
            have hj : lp0.pending = some .ret := by simpa [jumpCode] using d3.symm
            rw [hj] at st1
            exact ⟨_, _, m', .ret, a2, cs, w4, q1, .ret, sEnd, evEnd, CsR.refl _ _, k, st1⟩
          | exit id =>
            have hj : lp0.pending = some (.exit id) := by simpa [jumpCode] using d3.symm
            rw [hj] at st1
            exact ⟨_, _, m', .exit id, a2, cs, w4, q1, .exit id, sEnd, evEnd, CsR.refl _ _, k, rfl, st1⟩
          | goto l =>
            have hj : lp0.pending = some (.goto l) := by simpa [jumpCode] using d3.symm
            rw [hj] at st1
            exact ⟨_, _, m', .goto l, a2, cs, w4, q1, .goto l, sEnd, evEnd, CsR.refl _ _, k, rfl, st1⟩
      · simp at q1
  · simp at hk

theorem opd_cond {f0 : Operand} {f : Opd} (hf : opd E nt f0 = some f) {b : Frame} {st : St} {a : Act} {cs : List Frame} (s : StR P E nt m b st a cs w) {t : Bool} (h : ev st.tm f = .bool t) : a.eval f0 = .bool t := by
  have := s.sr.op hf
  rw [h] at this
  exact (noAddr_eq this rfl).symm

theorem code_ok {C : Ctx} (hC : CtxOk P E C) {ex : Ex} (hx : ExOk P E ex) (hd : DrawOk P E C ex) (n : Nat) : ExOk P E (fun c st κ => codeRun c C ex n st κ) := by
  intro nt c0 N c st κ m a b cs w k hk hc hnt s
  cases N with
  | zero => cases hc
  | succ N =>
    unfold comp at hc
    split at hc
    · cases hc; exact Fin.mk hk .normal s (.one stepR_skip)
    · cases hc; exact Fin.mk hk .normal s (.one stepR_label)
    · rename_i id ops
      cases hl : compOps E nt ops ops.toList with
      | none => rw [hl] at hc; cases hc
      | some l =>
        rw [hl] at hc; cases hc
        refine Fin.of_steps (.one stepR_region) ?_
        have := reg_ok hC hx hnt hl (b := b) k l 0 m st a cs w (by simp) hk s
        rw [List.range_eq_range', show List.range' 0 ops.size = List.range' 0 (ops.size - 0) from by simp]
        exact this
    · rename_i id ops
      cases hl : compDraw E nt ops with
      | none => rw [hl] at hc; cases hc
      | some l =>
        rw [hl] at hc; cases hc
        exact hd nt ops id l n st κ m a b cs w k hk hl hnt s
    · rename_i x y
      split at hc
      · rename_i x' y' h1 h2
        cases hc
        refine Fin.of_steps (.one stepR_seq) ?_
        refine Fin.bind (x0 := .code y) rfl (hx nt x N x' st _ m a b cs w (.code y :: k) (show ex x' st _ = true from hk) h1 hnt s) ?_ ?_
        · intro x st1 h1 h2
          cases x <;> first | exact absurd rfl h2 | exact h1
        · intro m1 st1 a1 cs1 w1 q1 s1
          exact hx nt y N y' st1 κ m1 a1 b cs1 w1 k q1 h2 hnt s1
      · cases hc
    · rename_i f x y
      split at hc
      · rename_i f' x' y' hf h1 h2
        cases hc
        have hk : cCond f' x' y' C ex n st κ = true := hk
        simp only [cCond, evK_eq] at hk
        split at hk
        · rename_i hv
          exact Fin.of_steps (.one (stepR_cond (opd_cond hf s hv))) (hx nt x N x' st κ m a b cs w k hk h1 hnt s)
        · rename_i hv
          exact Fin.of_steps (.one (stepR_cond (opd_cond hf s hv))) (hx nt y N y' st κ m a b cs w k hk h2 hnt s)
        · simp at hk
      · cases hc
    · rename_i id x
      cases h1 : comp E nt N x with
      | none => rw [h1] at hc; cases hc
      | some x' =>
        rw [h1] at hc; cases hc
        have hk : cBlock id x' C ex n st κ = true := hk
        simp only [cBlock] at hk
        obtain ⟨y, st1, m1, e1, a1, cs1, w1, q1, q2, q3, q4, q5, q6⟩ := Fin.of_steps (.one stepR_block) (hx nt x N x' st _ m a b cs w (.inBlock id :: k) hk h1 hnt s)
        cases q2 with
        | normal => exact ⟨.normal, st1, m1, .normal, a1, cs1, w1, q1, .normal, q3, q4, q5, Steps.trans q6 (.one stepR_inBlock)⟩
        | exit j =>
          obtain ⟨t, g1, g2⟩ := q6
          dsimp only at q1
          split at q1
          · rename_i hb
            have := beq_of hb; subst this
            exact ⟨.normal, st1, m1, .normal, a1, cs1, w1, q1, .normal, q3, q4, q5, Steps.trans g2 (.one (stepR_exit (by rw [g1]; simp [exitTo])))⟩
          · rename_i hb
            have hne := beq_ne hb
            have : (id == j) = false := by simp; exact fun e => hne e.symm
            exact ⟨.exit j, st1, m1, .exit j, a1, cs1, w1, q1, .exit j, q3, q4, q5, t, by rw [g1]; simp [exitTo, this], g2⟩
        | goto l => obtain ⟨t, g1, g2⟩ := q6; exact ⟨_, st1, m1, _, a1, cs1, w1, q1, .goto l, q3, q4, q5, t, by rw [g1]; simp [gotoIn], g2⟩
        | ret => exact ⟨_, st1, m1, _, a1, cs1, w1, q1, .ret, q3, q4, q5, q6⟩
        | panic v v' hv => exact ⟨_, st1, m1, _, a1, cs1, w1, q1, .panic v v' hv, q3, q4, q5, q6⟩
    · rename_i x
      cases h1 : comp E nt N x with
      | none => rw [h1] at hc; cases hc
      | some x' =>
        rw [h1] at hc; cases hc
        exact Fin.of_steps (.one stepR_loop) (loop_ok (C := C) hx hnt h1 k n m st a cs w hk s)
    · rename_i id
      cases hc; exact Fin.mk hk (.exit id) s ⟨k, rfl, Steps.refl P _⟩
    · rename_i l
      cases hc; exact Fin.mk hk (.goto l) s ⟨k, rfl, Steps.refl P _⟩
    · cases hc; exact Fin.mk hk .ret s ⟨k, Steps.refl P _⟩
    · rename_i x
      split at hc
      · rename_i x' ls h1 h2
        cases hc
        exact Fin.of_steps (.one stepR_scope) (scope_ok hx hnt h2 k n x x' m st a cs w h1 hk s)
      · cases hc
    · rename_i f ps x y
      split at hc
      · rename_i f' x' y' hf h1 h2 h3
        cases hc
        exact range_ok hC hx hnt hf h1 h2 h3 k (n := n) hk s
      · cases hc
    · cases hc; cases hk

end Go.Abs

/- What an operation looks at. -/
namespace Go.Abs

theorem evpK_congr {tm tm2 : T Value} : ∀ {xs : List (Operand × Opd)} {κ : List (Operand × Value) → Bool}, (∀ x ∈ xs.map (·.2), ev tm x = ev tm2 x) → evpK tm xs κ = evpK tm2 xs κ
  | [], _, _ => rfl
  | (o, x) :: xs, κ, h => by
    simp only [evpK, evK_eq]
    rw [h x (by simp)]
    cases noAddr (ev tm2 x) with
    | true => exact evpK_congr fun y hy => h y (by simp at hy ⊢; exact .inr hy)
    | false => rfl

theorem fillK_congr {tm tm2 : T Value} : ∀ {ps : List (Nat × Nat × Opd)} {cs : List Value} {κ : List Value → Bool}, (∀ x ∈ ps.map (·.2.2), ev tm x = ev tm2 x) → fillK tm cs ps κ = fillK tm2 cs ps κ
  | [], _, _, _ => rfl
  | (off, size, x) :: ps, cs, κ, h => by
    simp only [fillK, evK_eq]
    rw [h x (by simp)]
    cases Nat.beq (cellsL (ev tm2 x)).length size with
    | true =>
      show spliceK off cs (cellsL (ev tm2 x)) _ = spliceK off cs (cellsL (ev tm2 x)) _
      congr 1
      funext cs2
      exact fillK_congr fun y hy => h y (by simp at hy ⊢; exact .inr hy)
    | false => rfl

theorem map_congr {tm tm2 : T Value} {xs : List Opd} (h : ∀ x ∈ xs, ev tm x = ev tm2 x) : xs.map (ev tm) = xs.map (ev tm2) := List.map_congr_left h

theorem omap_congr {tm tm2 : T Value} {x : Option Opd} (h : ∀ y ∈ x.toList, ev tm y = ev tm2 y) : x.map (ev tm) = x.map (ev tm2) := by
  cases x with
  | none => rfl
  | some y => simp [h y (by simp)]

/-- An operation asks nothing of the temporaries but its operands. -/
theorem opRun_local {k : IK} {C : Ctx} {ex : Ex} {tm tm2 : T Value} {df : List ADef} {um : UM} {h : AH} {κ κ2 : KO} (ho : ∀ x ∈ kOpds k, ev tm x = ev tm2 x)
    (hκ : ∀ r df um h, κ r ⟨tm, df, um, h⟩ = κ2 r ⟨tm2, df, um, h⟩) : opRun k C ex ⟨tm, df, um, h⟩ κ = opRun k C ex ⟨tm2, df, um, h⟩ κ2 := by
  have hv1 : ∀ df um h, vK ⟨tm, df, um, h⟩ κ = vK ⟨tm2, df, um, h⟩ κ2 := fun df um h => by funext v; exact hκ _ _ _ _
  have hh1 : ∀ df um h, hK ⟨tm, df, um, h⟩ κ = hK ⟨tm2, df, um, h⟩ κ2 := fun df um h => by funext v h'; exact hκ _ _ _ _
  have hr1 : ∀ df um h, retK ⟨tm, df, um, h⟩ κ = retK ⟨tm2, df, um, h⟩ κ2 := fun df um h => by funext r h'; cases r <;> exact hκ _ _ _ _
  have hp : ∀ (xs : List (Operand × Opd)) (o : Oper), (∀ x ∈ xs.map (·.2), ev tm x = ev tm2 x) → rPure xs o C ex ⟨tm, df, um, h⟩ κ = rPure xs o C ex ⟨tm2, df, um, h⟩ κ2 := by
    intro xs o hx
    simp only [rPure, hv1]
    exact evpK_congr hx
  have hxs : ∀ (o : Oper) (x y : Opd), ev tm x = ev tm2 x → ev tm y = ev tm2 y → rPure (xsOf o x y) o C ex ⟨tm, df, um, h⟩ κ = rPure (xsOf o x y) o C ex ⟨tm2, df, um, h⟩ κ2 := by
    intro o x y h1 h2
    apply hp
    intro z hz
    unfold xsOf at hz
    split at hz
    · simp at hz
      rcases hz with rfl | rfl
      · exact h1
      · exact h2
    · simp at hz
  cases k
  all_goals simp only [kOpds, List.mem_cons, List.not_mem_nil, or_false, forall_eq_or_imp, forall_eq, List.mem_append] at ho
  case build z ps =>
    simp only [opRun, fBuild]
    rw [fillK_congr ho]
    congr 1
    funext cs
    exact hκ _ _ _ _
  case bslice e z n ps =>
    simp only [opRun, fBslice]
    congr 1
    funext cs
    rw [fillK_congr ho]
    congr 1
    funext cs
    rw [hh1]
  case add x y o =>
    simp only [opRun, rAdd, evK_eq, ho.1, ho.2]
    rw [hxs o x y ho.1 ho.2]
    split
    · split
      · simp only [natK_eq, hκ]
      · rfl
    · rfl
  case sub x y o =>
    simp only [opRun, rSub, evK_eq, ho.1, ho.2]
    rw [hxs o x y ho.1 ho.2]
    split
    · split
      · simp only [natK_eq, hκ]
      · rfl
    · rfl
  case lss x y o => simp only [opRun, rCmp, evK_eq, ho.1, ho.2, hxs o x y ho.1 ho.2, hκ]
  case leq x y o => simp only [opRun, rCmp, evK_eq, ho.1, ho.2, hxs o x y ho.1 ho.2, hκ]
  case gtr x y o => simp only [opRun, rCmp, evK_eq, ho.1, ho.2, hxs o x y ho.1 ho.2, hκ]
  case geq x y o => simp only [opRun, rCmp, evK_eq, ho.1, ho.2, hxs o x y ho.1 ho.2, hκ]
  case eql n x y o => simp only [opRun, rEq, evK_eq, ho.1, ho.2, hxs o x y ho.1 ho.2, hκ]
  case neq n x y o => simp only [opRun, rEq, evK_eq, ho.1, ho.2, hxs o x y ho.1 ho.2, hκ]
  case pure xs o => exact hp xs o ho
  all_goals simp only [opRun, r1, r2, h1, h2, fPick, fAlloc, fMkFunc, fMkMap, fSl, fLookup, fMapUpd, fMapEnt, fEntSt, fCall, fCallF, fRecover, fDefer, fPanic, evK_eq, evsK_eq, evoK_eq, hv1, hh1, hr1]
  all_goals first | rfl | (simp only [ho]; done) | skip
  case mkFunc f a b =>
    rw [map_congr fun x hx => ho x (.inl hx), map_congr fun x hx => ho x (.inr hx)]
    exact hκ _ _ _ _
  case slStr x lo hi =>
    obtain ⟨h1, h2⟩ := ho
    rw [h1, omap_congr fun y hy => h2 y (.inl hy), omap_congr fun y hy => h2 y (.inr hy)]
  case slSl e n x lo hi mx =>
    obtain ⟨h1, h2⟩ := ho
    rw [h1, omap_congr fun y hy => h2 y (.inl (.inl hy)), omap_congr fun y hy => h2 y (.inl (.inr hy)), omap_congr fun y hy => h2 y (.inr hy)]
  case call f xs =>
    obtain ⟨h1, h2⟩ := ho
    rw [h1, map_congr h2]
  case callF f xs => rw [map_congr ho]
  case recover => cases um <;> first | rfl | exact hκ _ _ _ _
  case defer f xs =>
    obtain ⟨h1, h2⟩ := ho
    rw [h1, map_congr h2]
    split <;> first | rfl | exact hκ _ _ _ _
  case panic x =>
    rw [ho]
    split <;> first | rfl | exact hκ _ _ _ _

end Go.Abs

/- Operations that leave the heap as it is: each has one answer, or none. -/
namespace Go.Abs

/-- One answer, or none. -/
def Det {α : Type} (F : (α → Bool) → Bool) : Prop := ∃ r : Option α, ∀ κ, F κ = match r with | some v => κ v | none => false

theorem Det.one {α : Type} (v : α) : Det (fun κ : α → Bool => κ v) := ⟨some v, fun _ => rfl⟩
theorem Det.none {α : Type} : Det (fun _ : α → Bool => false) := ⟨Option.none, fun _ => rfl⟩
theorem Det.bind {α β : Type} {F : (α → Bool) → Bool} {G : α → (β → Bool) → Bool} (hF : Det F) (hG : ∀ a, Det (G a)) : Det (fun κ => F fun a => G a κ) := by
  obtain ⟨r, hr⟩ := hF
  cases r with
  | none => exact ⟨Option.none, fun κ => hr _⟩
  | some a =>
    obtain ⟨s, hs⟩ := hG a
    exact ⟨s, fun κ => (hr _).trans (hs κ)⟩

theorem det_take : ∀ (n : Nat) (l : List Value), Det (takeK n l)
  | 0, l => ⟨some [], fun κ => by cases l <;> rfl⟩
  | n + 1, [] => ⟨Option.none, fun κ => rfl⟩
  | n + 1, v :: vs => by
    obtain ⟨r, hr⟩ := det_take n vs
    refine ⟨r.map (v :: ·), fun κ => ?_⟩
    simp only [takeK, hr]
    cases r <;> rfl
theorem det_seg : ∀ (i n : Nat) (l : List Value), Det (segK i n l)
  | 0, n, l => det_take n l
  | i + 1, n, [] => ⟨Option.none, fun κ => rfl⟩
  | i + 1, n, _ :: vs => det_seg i n vs
theorem det_nth : ∀ (i : Nat) (l : List Value), Det (nthK i l)
  | _, [] => ⟨Option.none, fun κ => by simp [nthK]⟩
  | 0, v :: _ => ⟨some v, fun κ => rfl⟩
  | i + 1, _ :: vs => det_nth i vs
theorem det_over : ∀ (cs vs : List Value), Det (overK cs vs)
  | cs, [] => ⟨some cs, fun κ => by cases cs <;> rfl⟩
  | [], _ :: _ => ⟨Option.none, fun κ => rfl⟩
  | _ :: cs, v :: vs => by
    obtain ⟨r, hr⟩ := det_over cs vs
    refine ⟨r.map (v :: ·), fun κ => ?_⟩
    simp only [overK, hr]
    cases r <;> rfl
theorem det_splice : ∀ (i : Nat) (cs vs : List Value), Det (spliceK i cs vs)
  | 0, cs, vs => det_over cs vs
  | i + 1, [], vs => ⟨Option.none, fun κ => rfl⟩
  | i + 1, c :: cs, vs => by
    obtain ⟨r, hr⟩ := det_splice i cs vs
    refine ⟨r.map (c :: ·), fun κ => ?_⟩
    simp only [spliceK, hr]
    cases r <;> rfl
theorem det_fill {tm : T Value} : ∀ (ps : List (Nat × Nat × Opd)) (cs : List Value), Det (fillK tm cs ps)
  | [], cs => ⟨some cs, fun κ => rfl⟩
  | (off, size, x) :: ps, cs => by
    cases hb : Nat.beq (cellsL (ev tm x)).length size with
    | false => exact ⟨Option.none, fun κ => by simp only [fillK, evK_eq, hb]⟩
    | true =>
      obtain ⟨r, hr⟩ := Det.bind (det_splice off cs (cellsL (ev tm x))) (fun cs => det_fill (tm := tm) ps cs)
      exact ⟨r, fun κ => by simp only [fillK, evK_eq, hb]; exact hr κ⟩
theorem det_idx (v : Value) (n : Nat) : Det (idxK v n) := by
  unfold idxK
  split
  · rename_i k i
    cases hb : Nat.blt i n with
    | true => exact ⟨some i, fun κ => rfl⟩
    | false => exact ⟨Option.none, fun κ => rfl⟩
  · exact ⟨Option.none, fun κ => rfl⟩
theorem det_bnd (v : Option Value) (d n : Nat) : Det (bndK v d n) := by
  cases v with
  | none => exact ⟨some d, fun κ => rfl⟩
  | some v => exact det_idx v _

/-- The two parts of an address. -/
theorem det_ptr {β : Type} (v : Value) {G : Nat → Nat → (β → Bool) → Bool} (h : ∀ b i, Det (G b i)) : Det (fun κ => ptrK v fun b i => G b i κ) := by
  unfold ptrK
  split
  · exact h _ _
  · exact Det.none
theorem det_row {β : Type} (H : AH) (b : Nat) {G : List Value → TypeId → Bool → (β → Bool) → Bool} (h : ∀ cs e r, Det (G cs e r)) : Det (fun κ => rowK H b fun cs e r => G cs e r κ) := by
  unfold rowK
  split
  · exact h _ _ _
  · exact Det.none
theorem det_map {β : Type} (H : AH) (b : Nat) {G : List MapEntry → Nat → (β → Bool) → Bool} (h : ∀ es c, Det (G es c)) : Det (fun κ => mapK H b fun es c => G es c κ) := by
  unfold mapK
  split
  · exact h _ _
  · exact Det.none
theorem det_nat {β : Type} (n : Nat) {G : Nat → (β → Bool) → Bool} (h : ∀ n, Det (G n)) : Det (fun κ => natK n fun n => G n κ) := by
  simp only [natK_eq]; exact h n
theorem det_find (P : Program) (kt : TypeId) (k : Value) (es : List MapEntry) : Det (findK P kt k es) := by
  unfold findK
  split
  · exact Det.none
  · split
    · exact Det.one _
    · exact Det.none

theorem det_evp {tm : T Value} : ∀ (xs : List (Operand × Opd)), Det (evpK tm xs)
  | [] => ⟨some [], fun κ => rfl⟩
  | (o, x) :: xs => by
    cases hb : noAddr (ev tm x) with
    | false => exact ⟨Option.none, fun κ => by simp only [evpK, evK_eq, hb]⟩
    | true =>
      obtain ⟨r, hr⟩ := det_evp (tm := tm) xs
      refine ⟨r.map ((o, ev tm x) :: ·), fun κ => ?_⟩
      simp only [evpK, evK_eq, hb, hr]
      cases r <;> rfl
theorem det_pure (P : Program) (o : Oper) (l : List (Operand × Value)) : Det (kPure P o l) := by
  unfold kPure
  split
  · split
    · exact Det.one _
    · exact Det.none
  · exact Det.none

/-- Operations of the classes 0 and 1: one answer, or none; all else stays. -/
def OpDet (k : IK) (C : Ctx) (tm : T Value) (h : AH) : Prop :=
  ∃ r : Option Value, ∀ ex df um (κ : KO), opRun k C ex ⟨tm, df, um, h⟩ κ = match r with | some v => κ (.val v) ⟨tm, df, um, h⟩ | none => false

theorem OpDet.of {k : IK} {C : Ctx} {tm : T Value} {h : AH} {F : KV → Bool} (hF : Det F) (he : ∀ ex df um (κ : KO), opRun k C ex ⟨tm, df, um, h⟩ κ = F (fun v => κ (.val v) ⟨tm, df, um, h⟩)) : OpDet k C tm h := by
  obtain ⟨r, hr⟩ := hF
  exact ⟨r, fun ex df um κ => by rw [he, hr]; cases r <;> rfl⟩

/-- The pure part of a sum or a comparison. -/
theorem det_rpure {C : Ctx} {tm : T Value} {h : AH} (xs : List (Operand × Opd)) (o : Oper) :
    ∃ F : KV → Bool, Det F ∧ ∀ ex df um (κ : KO), rPure xs o C ex ⟨tm, df, um, h⟩ κ = F (fun v => κ (.val v) ⟨tm, df, um, h⟩) :=
  ⟨fun κ => evpK tm xs fun l => kPure C.P o l κ, Det.bind (det_evp xs) (fun l => det_pure C.P o l), fun _ _ _ _ => rfl⟩

theorem det_slSl (e s : Nat) (x : Value) (lo hi mx : Option Value) (h : AH) : Det (kSlSl e s x lo hi mx h) := by
  unfold kSlSl
  split
  · exact Det.bind (det_bnd _ _ _) fun _ => Det.bind (det_bnd _ _ _) fun _ => Det.bind (det_bnd _ _ _) fun _ => Det.one _
  · refine det_row h _ fun cs e' r => ?_
    split
    · exact Det.none
    · split
      · split
        · refine Det.bind (det_bnd _ _ _) fun a => Det.bind (det_bnd _ _ _) fun b => ?_
          split
          · exact det_nat _ fun _ => det_nat _ fun _ => Det.one _
          · exact Det.one _
        · refine Det.bind (det_idx _ _) fun m => Det.bind (det_bnd _ _ _) fun a => Det.bind (det_bnd _ _ _) fun b => ?_
          split
          · exact Det.one _
          · exact det_nat _ fun _ => det_nat _ fun _ => det_nat _ fun _ => Det.one _
      · refine Det.bind (det_bnd _ _ _) fun m => Det.bind (det_bnd _ _ _) fun a => Det.bind (det_bnd _ _ _) fun b => ?_
        split
        · exact Det.one _
        · exact det_nat _ fun _ => det_nat _ fun _ => det_nat _ fun _ => Det.one _
  · exact Det.none
theorem det_slStr (x : Value) (lo hi : Option Value) : Det (kSlStr x lo hi) := by
  unfold kSlStr
  split
  · exact Det.bind (det_bnd _ _ _) fun a => Det.bind (det_bnd _ _ _) fun b => Det.one _
  · exact Det.none

theorem det_born (n : Nat) : ∀ es : List MapEntry, Det (findBorn n es)
  | [] => ⟨Option.none, fun κ => rfl⟩
  | e :: es => by
    cases hb : Nat.beq e.born n with
    | true => exact ⟨some e, fun κ => by simp only [findBorn, hb]⟩
    | false =>
      obtain ⟨r, hr⟩ := det_born n es
      exact ⟨r, fun κ => by simp only [findBorn, hb]; exact hr κ⟩

theorem det_fld1 (off : Nat) (x : Value) : Det (fFld1 off x) := by
  unfold fFld1
  split
  · exact det_nth _ _
  · exact Det.none
theorem det_fldn (off n : Nat) (x : Value) : Det (fFldn off n x) := by
  unfold fFldn
  split
  · exact Det.bind (det_seg _ _ _) fun l => Det.one _
  · exact Det.none

theorem det_cmp {k : IK} {C : Ctx} {tm : T Value} {h : AH} (f : Int → Int → Bool) (x y : Opd) (o : Oper) (he : ∀ ex df um (κ : KO), opRun k C ex ⟨tm, df, um, h⟩ κ = rCmp f x y o C ex ⟨tm, df, um, h⟩ κ) : OpDet k C tm h := by
  obtain ⟨F, hF, hq⟩ := det_rpure (C := C) (tm := tm) (h := h) (xsOf o x y) o
  cases hv : ev tm x with
  | int k1 a =>
    cases hw : ev tm y with
    | int k2 b =>
      cases hd : decide (k1 = k2) with
      | true => exact .of (Det.one (.bool (f a b))) fun _ _ _ _ => by simp only [he, rCmp, evK_eq, hv, hw, hd]
      | false => exact .of Det.none fun _ _ _ _ => by simp only [he, rCmp, evK_eq, hv, hw, hd]
    | _ => exact .of hF fun _ _ _ _ => by simp only [he, rCmp, evK_eq, hv, hw, hq]
  | _ => exact .of hF fun _ _ _ _ => by simp only [he, rCmp, evK_eq, hv, hq]

theorem det_eq {k : IK} {C : Ctx} {tm : T Value} {h : AH} (neg : Bool) (n : Nat) (x y : Opd) (o : Oper) (he : ∀ ex df um (κ : KO), opRun k C ex ⟨tm, df, um, h⟩ κ = rEq neg n x y o C ex ⟨tm, df, um, h⟩ κ) : OpDet k C tm h := by
  obtain ⟨F, hF, hq⟩ := det_rpure (C := C) (tm := tm) (h := h) (xsOf o x y) o
  refine .of (F := fun κ => match ev tm x, ev tm y with
    | .int k a, .int k' b => match decide (k = k') with
      | true => κ (.bool (xor neg (eqInt a b)))
      | false => false
    | .string a, .string b => κ (.bool (xor neg (eqBytes a.data.toList b.data.toList)))
    | v, w => match eqNil n v w with
      | some b => κ (.bool (xor neg b))
      | none => F κ) ?_ fun ex df um κ => ?_
  · split
    · split
      · exact Det.one _
      · exact Det.none
    · exact Det.one _
    · split
      · exact Det.one _
      · exact hF
  · simp only [he, rEq, evK_eq, hq]
    rfl

theorem op_det {k : IK} (hc : clsOf k ≤ 1) {C : Ctx} {tm : T Value} {h : AH} : OpDet k C tm h := by
  cases k
  all_goals first | (exfalso; simp [clsOf] at hc; done) | skip
  case mv x => exact .of (Det.one (ev tm x)) fun _ _ _ _ => by simp only [opRun, r1, evK_eq, vK]
  case pick c a b =>
    cases hcv : ev tm c with
    | bool t =>
      cases t with
      | true => exact .of (Det.one (ev tm a)) fun _ _ _ _ => by simp only [opRun, fPick, evK_eq, hcv, vK]
      | false => exact .of (Det.one (ev tm b)) fun _ _ _ _ => by simp only [opRun, fPick, evK_eq, hcv, vK]
    | _ => exact .of Det.none fun _ _ _ _ => by simp only [opRun, fPick, evK_eq, hcv]
  case build z ps => exact .of (Det.bind (det_fill (tm := tm) ps z) fun cs => Det.one (.agg ⟨cs⟩)) fun _ _ _ _ => by simp only [opRun, fBuild]
  case ld1 a => exact .of (det_ptr (ev tm a) fun b i => det_row h b fun cs _ _ => det_nth i cs) fun _ _ _ _ => by simp only [opRun, h1, hv, evK_eq, fLd1, hK]
  case ldn n a => exact .of (det_ptr (ev tm a) fun b i => det_row h b fun cs _ _ => Det.bind (det_seg i n cs) fun l => Det.one (.agg ⟨l⟩)) fun _ _ _ _ => by simp only [opRun, h1, hv, evK_eq, fLdn, hK]
  case nilchk x =>
    refine .of (F := fNil (ev tm x)) ?_ fun _ _ _ _ => by simp only [opRun, r1, evK_eq]; rfl
    unfold fNil
    split <;> first | exact Det.none | exact Det.one _
  case add x y o =>
    obtain ⟨F, hF, he⟩ := det_rpure (C := C) (tm := tm) (h := h) (xsOf o x y) o
    refine .of (F := fun κ => match ev tm x, ev tm y with
      | .int .i64 a, .int .i64 b => match addInt a b with
        | some n => κ (.int .i64 (.ofNat n))
        | none => F κ
      | _, _ => F κ) ?_ fun ex df um κ => ?_
    · split
      · split
        · exact Det.one _
        · exact hF
      · exact hF
    · simp only [opRun, rAdd, evK_eq, natK_eq, he]
      rfl
  case sub x y o =>
    obtain ⟨F, hF, he⟩ := det_rpure (C := C) (tm := tm) (h := h) (xsOf o x y) o
    refine .of (F := fun κ => match ev tm x, ev tm y with
      | .int .i64 a, .int .i64 b => match subInt a b with
        | some n => κ (.int .i64 (.ofNat n))
        | none => F κ
      | _, _ => F κ) ?_ fun ex df um κ => ?_
    · split
      · split
        · exact Det.one _
        · exact hF
      · exact hF
    · simp only [opRun, rSub, evK_eq, natK_eq, he]
      rfl
  case lss x y o => exact det_cmp _ _ _ _ fun _ _ _ _ => rfl
  case leq x y o => exact det_cmp _ _ _ _ fun _ _ _ _ => rfl
  case gtr x y o => exact det_cmp _ _ _ _ fun _ _ _ _ => rfl
  case geq x y o => exact det_cmp _ _ _ _ fun _ _ _ _ => rfl
  case eql n x y o => exact det_eq _ _ _ _ _ fun _ _ _ _ => rfl
  case neq n x y o => exact det_eq _ _ _ _ _ fun _ _ _ _ => rfl
  case not x =>
    refine .of (F := fNot (ev tm x)) ?_ fun _ _ _ _ => by simp only [opRun, r1, evK_eq]; rfl
    unfold fNot
    split <;> first | exact Det.none | exact Det.one _
  case pure xs o =>
    obtain ⟨F, hF, he⟩ := det_rpure (C := C) (tm := tm) (h := h) xs o
    exact .of hF fun ex df um κ => he ex df um κ
  case mkIface t x => exact .of (Det.one (.iface t (ev tm x))) fun _ _ _ _ => by simp only [opRun, r1, evK_eq, vK]
  case mkFunc f a b => exact .of (Det.one (.func (.func f) ⟨a.map (ev tm)⟩ ⟨b.map (ev tm)⟩)) fun _ _ _ _ => by simp only [opRun, fMkFunc, evsK_eq]
  case slStr x lo hi => exact .of (det_slStr (ev tm x) (lo.map (ev tm)) (hi.map (ev tm))) fun _ _ _ _ => by simp only [opRun, fSl, evK_eq, evoK_eq]; rfl
  case slSl e n x lo hi mx => exact .of (det_slSl e n (ev tm x) (lo.map (ev tm)) (hi.map (ev tm)) (mx.map (ev tm)) h) fun _ _ _ _ => by simp only [opRun, fSl, evK_eq, evoK_eq]; rfl
  case fadr off x => exact .of (det_ptr (ev tm x) fun b i => Det.one (ptrTo b (i + off))) fun _ _ _ _ => by simp only [opRun, r1, fFadr, natK_eq, evK_eq, vK]; rfl
  case fld1 off x => exact .of (det_fld1 off (ev tm x)) fun _ _ _ _ => by simp only [opRun, r1, evK_eq]; rfl
  case fldn off n x => exact .of (det_fldn off n (ev tm x)) fun _ _ _ _ => by simp only [opRun, r1, evK_eq]; rfl
  case ixAS n x i =>
    refine .of (F := kIxAS n (ev tm x) (ev tm i)) ?_ fun _ _ _ _ => by simp only [opRun, r2, evK_eq]; rfl
    unfold kIxAS
    split
    · exact Det.bind (det_idx _ _) fun j => det_nat _ fun o => Det.one _
    · exact Det.none
  case ixAA n s x i => exact .of (det_ptr (ev tm x) fun b o => Det.bind (det_idx (ev tm i) n) fun j => det_nat (Nat.add o (Nat.mul j s)) fun o => Det.one (ptrTo b o)) fun _ _ _ _ => by simp only [opRun, r2, evK_eq, fIxAA, vK]
  case ixA1 n s x i => exact .of (Det.bind (det_idx (ev tm i) n) fun j => det_fld1 (Nat.mul j s) (ev tm x)) fun _ _ _ _ => by simp only [opRun, r2, evK_eq, fIxA1]; rfl
  case ixAn n s x i => exact .of (Det.bind (det_idx (ev tm i) n) fun j => det_fldn (Nat.mul j s) s (ev tm x)) fun _ _ _ _ => by simp only [opRun, r2, evK_eq, fIxAn]; rfl
  case ixStr x i =>
    refine .of (F := kIxStr (ev tm x) (ev tm i)) ?_ fun _ _ _ _ => by simp only [opRun, r2, evK_eq]; rfl
    unfold kIxStr
    split
    · refine Det.bind (det_idx _ _) fun j => ?_
      split
      · exact det_nat _ fun n => Det.one _
      · exact Det.none
    · exact Det.none
  case tassert a z ok x =>
    refine .of (F := fTassert a z ok (ev tm x)) ?_ fun _ _ _ _ => by simp only [opRun, r1, evK_eq]; rfl
    unfold fTassert
    split
    · split
      · exact Det.one _
      · cases ok <;> first | exact Det.one _ | exact Det.none
    · cases ok <;> first | exact Det.one _ | exact Det.none
    · exact Det.none
  case extr x i =>
    refine .of (F := fExtr i (ev tm x)) ?_ fun _ _ _ _ => by simp only [opRun, r1, evK_eq]; rfl
    unfold fExtr
    split
    · exact det_nth _ _
    · exact Det.none
  case lookup kt z m k ok =>
    refine .of (F := fun κ => kLookup C.P kt z ok (ev tm m) (ev tm k) h fun v _ => κ v) ?_ fun ex df um κ => ?_
    · unfold kLookup
      split
      · exact Det.bind (det_find _ _ _ _) fun r => Det.one _
      · refine det_map h _ fun es c => Det.bind (det_find _ _ _ _) fun r => ?_
        cases r with
        | none => exact Det.one _
        | some r => exact Det.one _
      · exact Det.none
    · simp only [opRun, fLookup, evK_eq, kLookup, hK]
  case len q x =>
    refine .of (F := fun κ => kLen q (ev tm x) h fun v _ => κ v) ?_ fun ex df um κ => ?_
    · unfold kLen
      split
      · split
        · exact Det.one _
        · exact Det.none
      · split
        · exact Det.one _
        · exact Det.none
      · split
        · exact Det.one _
        · exact Det.none
      · split
        · exact det_map h _ fun es c => Det.one _
        · exact Det.none
      · exact Det.none
    · simp only [opRun, h1, evK_eq, kLen, hK]
  case cap x =>
    refine .of (F := fun κ => kCap (ev tm x) h fun v _ => κ v) ?_ fun ex df um κ => ?_
    · unfold kCap
      split
      · exact Det.one _
      · split
        · exact Det.none
        · exact Det.one _
      · exact Det.none
    · simp only [opRun, h1, evK_eq, kCap, hK]
  case entry x =>
    refine .of (F := fun κ => kEntry (ev tm x) h fun v _ => κ v) ?_ fun ex df um κ => ?_
    · unfold kEntry
      split
      · split
        · refine det_map h _ fun es c => ?_
          split
          · exact Det.bind (det_born _ es) fun e => Det.one _
          · exact Det.none
        · exact Det.none
      · exact Det.none
    · simp only [opRun, h1, evK_eq, kEntry, hK]

end Go.Abs

/- Operations that do not look at the heap. -/
namespace Go.Abs

theorem opRun_heap {k : IK} (hc : clsOf k = 0) {C : Ctx} {ex : Ex} {tm : T Value} {df : List ADef} {um : UM} {h h' : AH} {κ κ2 : KO}
    (hκ : ∀ r, κ r ⟨tm, df, um, h⟩ = κ2 r ⟨tm, df, um, h'⟩) : opRun k C ex ⟨tm, df, um, h⟩ κ = opRun k C ex ⟨tm, df, um, h'⟩ κ2 := by
  have hv1 : vK ⟨tm, df, um, h⟩ κ = vK ⟨tm, df, um, h'⟩ κ2 := by funext v; exact hκ _
  cases k
  all_goals first | (exfalso; simp [clsOf] at hc; done) | skip
  all_goals simp only [opRun, r1, r2, h1, h2, fPick, fBuild, rAdd, rSub, rCmp, rEq, rPure, fMkFunc, fSl, evK_eq, evsK_eq, evoK_eq, hv1, hκ]
  case cap x => unfold kCap; split <;> first | rfl | exact hκ _ | (split <;> first | rfl | exact hκ _)

end Go.Abs
