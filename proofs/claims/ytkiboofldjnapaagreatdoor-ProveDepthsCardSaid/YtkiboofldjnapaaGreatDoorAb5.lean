/- THE INTERPRETER IS SOUND, part 4: regions whose order is open; all runs; summaries; tables. -/
import Derived.Test.YtkiboofldjnapaaGreatDoorAb4
import Derived.Orders
import Derived.Test.YtkiboofldjnapaaGreatDoorAb1
set_option linter.unusedSimpArgs false
set_option linter.unusedVariables false

/- Regions whose order is open: the order in which the operations are taken. -/
namespace Go.Abs
variable {P : Program} {E : Env} {nt : Nat}

theorem posBeq_eq : ∀ {p q : Pos}, Pos.beq p q = true → p = q
  | .h, .h, _ => rfl
  | .o p, .o q, h => by rw [posBeq_eq (p := p) (q := q) h]
  | .i p, .i q, h => by rw [posBeq_eq (p := p) (q := q) h]
  | .h, .o _, h => by cases h
  | .h, .i _, h => by cases h
  | .o _, .h, h => by cases h
  | .o _, .i _, h => by cases h
  | .i _, .h, h => by cases h
  | .i _, .o _, h => by cases h

theorem posBeq_refl : ∀ p : Pos, Pos.beq p p = true
  | .h => rfl
  | .o p => posBeq_refl p
  | .i p => posBeq_refl p

theorem hasP_iff {p : Pos} : ∀ {l : List Pos}, hasP p l = true ↔ p ∈ l
  | [] => by simp [hasP]
  | q :: qs => by
    unfold hasP
    cases h : Pos.beq p q with
    | true => have := posBeq_eq h; subst this; simp
    | false =>
      have hne : p ≠ q := fun e => by subst e; rw [posBeq_refl] at h; cases h
      simp only [List.mem_cons, hne, false_or]
      exact hasP_iff

theorem hasD_iff {d : Option Pos} {l : List Pos} : hasD d l = true ↔ ∃ p, d = some p ∧ p ∈ l := by
  cases d with
  | none => simp [hasD]
  | some p => simp [hasD, hasP_iff]

theorem hasN_iff {i : Nat} : ∀ {l : List Nat}, hasN i l = true ↔ i ∈ l
  | [] => by simp [hasN]
  | j :: js => by
    unfold hasN
    cases h : Nat.beq i j with
    | true => have := beq_of h; subst this; simp
    | false => simp only [List.mem_cons, beq_ne h, false_or]; exact hasN_iff

theorem mem_opdPos {p : Pos} : ∀ {xs : List Opd}, p ∈ opdPos xs ↔ .t p ∈ xs
  | [] => by simp [opdPos]
  | .t q :: xs => by simp [opdPos, mem_opdPos (xs := xs)]
  | .c v :: xs => by simp [opdPos, mem_opdPos (xs := xs)]

abbrev Ent := Nat × IOp × Cls

theorem idxIn_iff {i : Nat} : ∀ {l : List Ent}, idxIn i l = true ↔ ∃ x ∈ l, x.1 = i
  | [] => by simp [idxIn]
  | (j, y) :: r => by
    unfold idxIn
    cases h : Nat.beq i j with
    | true => have := beq_of h; subst this; simp
    | false =>
      have := beq_ne h
      simp only [List.mem_cons, exists_eq_or_imp]
      rw [idxIn_iff]
      exact ⟨fun h => .inr h, fun h => h.resolve_left fun e => this e.symm⟩

mutual
theorem veq_eq : ∀ {v w : Value}, veq v w = true → v = w
  | .bool a, w, h => by cases w <;> first | (cases h; done) | skip
                        rename_i b; cases a <;> cases b <;> first | rfl | (cases h; done)
  | .int k a, w, h => by
    cases w <;> first | (cases h; done) | skip
    simp only [veq, Bool.and_eq_true, decide_eq_true_eq, eqInt_eq, beq_iff_eq] at h
    rw [h.1, h.2]
  | .float k a, w, h => by
    cases w <;> first | (cases h; done) | skip
    simp only [veq, Bool.and_eq_true, decide_eq_true_eq] at h
    rw [h.1, beq_of h.2]
  | .complex k a c, w, h => by
    cases w <;> first | (cases h; done) | skip
    simp only [veq, Bool.and_eq_true, decide_eq_true_eq] at h
    rw [h.1.1, beq_of h.1.2, beq_of h.2]
  | .string a, w, h => by
    cases w <;> first | (cases h; done) | skip
    rename_i b
    have h : eqBytes a.data.toList b.data.toList = true := h
    rw [eqBytes_eq, beq_iff_eq] at h
    have : a.data = b.data := Array.ext' h
    cases a; cases b; cases this; rfl
  | .pointer none, w, h => by
    cases w <;> first | (cases h; done) | skip
    rename_i b; cases b <;> first | rfl | (cases h; done)
  | .pointer (some ⟨a, i, none⟩), w, h => by
    cases w <;> first | (cases h; done) | skip
    rename_i b
    rcases b with _ | ⟨b, j, _ | s⟩ <;> first | (cases h; done) | skip
    simp only [veq, Bool.and_eq_true] at h
    rw [beq_of h.1, beq_of h.2]
  | .pointer (some ⟨a, i, some s⟩), w, h => by cases w <;> cases h
  | .slice none n c, w, h => by
    cases w <;> first | (cases h; done) | skip
    rename_i b m d
    cases b <;> first | (cases h; done) | skip
    simp only [veq, Bool.and_eq_true] at h
    rw [beq_of h.1, beq_of h.2]
  | .slice (some ⟨a, i, none⟩) n c, w, h => by
    cases w <;> first | (cases h; done) | skip
    rename_i b m d
    rcases b with _ | ⟨b, j, _ | s⟩ <;> first | (cases h; done) | skip
    simp only [veq, Bool.and_eq_true] at h
    rw [beq_of h.1.1.1, beq_of h.1.1.2, beq_of h.1.2, beq_of h.2]
  | .slice (some ⟨a, i, some s⟩) n c, w, h => by cases w <;> cases h
  | .map none, w, h => by
    cases w <;> first | (cases h; done) | skip
    rename_i b; cases b <;> first | rfl | (cases h; done)
  | .map (some a), w, h => by
    cases w <;> first | (cases h; done) | skip
    rename_i b; cases b <;> first | (cases h; done) | skip
    simp only [veq] at h
    rw [beq_of h]
  | .chan r, w, h => by cases w <;> cases h
  | .nilFunc, w, h => by cases w <;> first | rfl | (cases h; done)
  | .func (.func f) ⟨a⟩ ⟨c⟩, w, h => by
    cases w <;> first | (cases h; done) | skip
    rename_i g b d
    obtain ⟨b⟩ := b; obtain ⟨d⟩ := d
    cases g <;> first | (cases h; done) | skip
    simp only [veq, Bool.and_eq_true] at h
    rw [beq_of h.1.1, veqs_eq h.1.2, veqs_eq h.2]
  | .func (.yield f) ⟨[]⟩ ⟨[]⟩, w, h => by
    cases w <;> first | (cases h; done) | skip
    rename_i g b d
    obtain ⟨b⟩ := b; obtain ⟨d⟩ := d
    cases g <;> first | (cases h; done) | skip
    cases b <;> cases d <;> first | (cases h; done) | skip
    simp only [veq] at h
    rw [beq_of h]
  | .func (.yield f) ⟨_ :: _⟩ c, w, h => by cases w <;> cases h
  | .func (.yield f) ⟨[]⟩ ⟨_ :: _⟩, w, h => by cases w <;> cases h
  | .func (.method _) _ _, w, h => by cases w <;> cases h
  | .func (.methodOf _ _) _ _, w, h => by cases w <;> cases h
  | .func (.via _ _ _ _) _ _, w, h => by cases w <;> cases h
  | .iface t v, w, h => by
    cases w <;> first | (cases h; done) | skip
    simp only [veq, Bool.and_eq_true] at h
    rw [beq_of h.1, veq_eq h.2]
  | .nilIface, w, h => by cases w <;> first | rfl | (cases h; done)
  | .agg ⟨a⟩, w, h => by
    cases w <;> first | (cases h; done) | skip
    rename_i b
    obtain ⟨b⟩ := b
    simp only [veq] at h
    rw [veqs_eq h]
  | .tuple ⟨a⟩, w, h => by
    cases w <;> first | (cases h; done) | skip
    rename_i b
    obtain ⟨b⟩ := b
    simp only [veq] at h
    rw [veqs_eq h]
theorem veqs_eq : ∀ {v w : List Value}, veqs v w = true → v = w
  | [], w, h => by cases w <;> first | rfl | (cases h; done)
  | v :: vs, w, h => by
    cases w <;> first | (cases h; done) | skip
    simp only [veqs, Bool.and_eq_true] at h
    rw [veq_eq h.1, veqs_eq h.2]
end

/-- Is an operation asked for? -/
noncomputable def wantB (tm : T Value) (g : Option (Pos × Bool)) : Bool :=
  match g with
  | none => true
  | some (p, w) => match tget tm p with
    | .bool b => b == w
    | _ => false

theorem wantK_cond (tm : T Value) (g : Option (Pos × Bool)) (yes no : Unit → Bool) : wantK tm g yes no = cond (wantB tm g) (yes ()) (no ()) := by
  cases g with
  | none => rfl
  | some pw =>
    obtain ⟨p, w⟩ := pw
    show (match tm.get p with
      | some (.bool b) => match b, w with
        | true, true => yes ()
        | false, false => yes ()
        | _, _ => no ()
      | _ => no ()) = cond (match (match tm.get p with | some v => v | none => undef) with
        | .bool b => b == w
        | _ => false) (yes ()) (no ())
    generalize tm.get p = z
    cases z with
    | none => rfl
    | some v => cases v <;> first | rfl | (rename_i b; cases b <;> cases w <;> rfl)

theorem wantK_yes {tm : T Value} {g : Option (Pos × Bool)} {yes no : Unit → Bool} (h : wantB tm g = true) : wantK tm g yes no = yes () := by rw [wantK_cond, h]; rfl
theorem wantK_no {tm : T Value} {g : Option (Pos × Bool)} {yes no : Unit → Bool} (h : wantB tm g = false) : wantK tm g yes no = no () := by rw [wantK_cond, h]; rfl

theorem wantB_congr {tm tm2 : T Value} {o : IOp} (h : ∀ p ∈ looks o, tget tm p = tget tm2 p) : wantB tm o.g = wantB tm2 o.g := by
  unfold wantB
  cases hg : o.g with
  | none => rfl
  | some pw =>
    obtain ⟨p, w⟩ := pw
    simp only
    rw [h p (by simp [looks, hg])]

theorem ev_congr {tm tm2 : T Value} {o : IOp} (h : ∀ p ∈ looks o, tget tm p = tget tm2 p) : ∀ x ∈ kOpds o.k, ev tm x = ev tm2 x := by
  intro x hx
  cases x with
  | c v => rfl
  | t p => exact h p (by simp only [looks, List.mem_append]; exact .inr (mem_opdPos.2 hx))

/-- A value is put into a temporary. -/
noncomputable def putT (d : Option Pos) (v : Value) (tm : T Value) : T Value :=
  match d with
  | none => tm
  | some p => T.set (some v) p tm

theorem putK_eq (st : St) (d : Option Pos) (v : Value) (κ : St → Bool) : putK st d v κ = κ ⟨putT d v st.tm, st.df, st.um, st.h⟩ := by
  cases d with
  | none => rfl
  | some p => obtain ⟨tm, df, um, h⟩ := st; simp only [putK, setK_eq, putT]

theorem tget_putT_same {d : Option Pos} {p : Pos} (h : d = some p) (v : Value) (tm : T Value) : tget (putT d v tm) p = v := by
  subst h; unfold tget putT; simp only [get_set_same]

theorem tget_putT_ne {d : Option Pos} {p : Pos} (h : d ≠ some p) (v : Value) (tm : T Value) : tget (putT d v tm) p = tget tm p := by
  cases d with
  | none => rfl
  | some q =>
    unfold tget putT
    simp only
    rw [get_set_ne _ _ _ _ (fun e => h (by rw [e]))]

/-! ### The order -/

/-- An operation, and one that is taken before. -/
structure PairP (b : Array Nat) (x y : Ent) : Prop where
  ne : x.1 ≠ y.1
  dst : ∀ p, y.2.1.dst = some p → x.2.1.dst ≠ some p
  look : ∀ p, y.2.1.dst = some p → p ∈ looks x.2.1 → ahead b y.1 x.1 = true
  back : ∀ p, x.2.1.dst = some p → p ∈ looks y.2.1 → ahead b y.1 x.1 = true
  not : ahead b x.1 y.1 = false
  big : isBig y.2.2 = true → ahead b y.1 x.1 = true
  re : ∀ re, x.2.2 = .big re → (∃ n, y.2.2 = .read n ∨ y.2.2 = .free n) → ahead b y.1 x.1 = true ∨ y.1 ∈ re
  free : ∀ n k, x.2.2 = .free n → y.2.2 ≠ .read k

theorem not_hasD {d : Option Pos} {l : List Pos} (h : (!(hasD d l)) = true) : ∀ p, d = some p → p ∉ l := by
  intro p hp hm
  have : hasD d l = true := hasD_iff.2 ⟨p, hp, hm⟩
  rw [this] at h; cases h

theorem pairOk_iff {b : Array Nat} {x y : Ent} (h : pairOk b x.1 x.2.1 x.2.2 y.1 y.2.1 y.2.2 = true) : PairP b x y := by
  obtain ⟨i, o, c⟩ := x
  obtain ⟨j, oj, cj⟩ := y
  simp only [pairOk, Bool.and_eq_true] at h
  obtain ⟨⟨⟨⟨⟨⟨h1, h2⟩, h3⟩, h4⟩, h5⟩, h6⟩, h7⟩ := h
  refine ⟨?_, ?_, ?_, ?_, ?_, ?_, ?_, ?_⟩
  · intro e
    have e : i = j := e
    subst e
    simp at h1
  · intro p hp hq
    have := not_hasD h2 p hp
    simp only at hq
    rw [hq] at this
    simp at this
  · intro p hp hq
    have : hasD oj.dst (looks o) = true := hasD_iff.2 ⟨p, hp, hq⟩
    rw [this] at h3; simpa using h3
  · intro p hp hq
    have : hasD o.dst (looks oj) = true := hasD_iff.2 ⟨p, hp, hq⟩
    rw [this] at h4; simpa using h4
  · simpa using h5
  · intro hb
    have hb : isBig cj = true := hb
    rw [hb] at h6; simpa using h6
  · intro re hre hy
    have hre : c = .big re := hre
    subst hre
    obtain ⟨n, hy | hy⟩ := hy
    all_goals
      have hy : cj = _ := hy
      subst hy
      simp only [Bool.or_eq_true] at h7
      exact h7.imp id hasN_iff.1
  · intro n k hx hy
    have hx : c = .free n := hx
    have hy : cj = .read k := hy
    subst hx; subst hy
    simp at h7

structure Head (n : Nat) (b : Array Nat) (pre : List Ent) (x : Ent) : Prop where
  lt : x.1 < n
  cls : clsOk x.2.2 x.2.1.k = true
  own : ∀ p, x.2.1.dst = some p → p ∉ looks x.2.1
  irr : ahead b x.1 x.1 = false
  pred : ∀ j, j < n → ahead b j x.1 = true → ∃ y ∈ pre, y.1 = j
  pair : ∀ y ∈ pre, PairP b x y

theorem entsOk_cons {n : Nat} {b : Array Nat} {pre rest : List Ent} {x : Ent} (h : entsOk n b pre (x :: rest) = true) : Head n b pre x ∧ entsOk n b (x :: pre) rest = true := by
  obtain ⟨i, o, c⟩ := x
  simp only [entsOk, Bool.and_eq_true] at h
  obtain ⟨⟨⟨⟨⟨⟨h1, h2⟩, h3⟩, h4⟩, h5⟩, h6⟩, h7⟩ := h
  refine ⟨⟨blt_of h1, h2, not_hasD h3, by simpa using h4, ?_, ?_⟩, h7⟩
  · intro j hj ha
    rw [List.all_eq_true] at h5
    have := h5 j (List.mem_range.2 hj)
    have ha : ahead b j i = true := ha
    rw [ha] at this
    exact idxIn_iff.1 (by simpa using this)
  · intro y hy
    rw [List.all_eq_true] at h6
    exact pairOk_iff (x := (i, o, c)) (h6 y hy)

inductive PreOk (n : Nat) (b : Array Nat) : List Ent → Prop
  | nil : PreOk n b []
  | cons (x : Ent) (pre : List Ent) (h : Head n b pre x) (hp : PreOk n b pre) : PreOk n b (x :: pre)

theorem PreOk.head {n : Nat} {b : Array Nat} {pre : List Ent} (h : PreOk n b pre) : ∀ x ∈ pre, x.1 < n ∧ clsOk x.2.2 x.2.1.k = true ∧ (∀ p, x.2.1.dst = some p → p ∉ looks x.2.1) ∧ ahead b x.1 x.1 = false ∧ (∀ j, j < n → ahead b j x.1 = true → ∃ y ∈ pre, y.1 = j) := by
  induction h with
  | nil => intro x hx; cases hx
  | cons z pre h hp ih =>
    intro x hx
    rcases List.mem_cons.1 hx with e | e
    · subst e
      exact ⟨h.lt, h.cls, h.own, h.irr, fun j hj ha => let ⟨y, q1, q2⟩ := h.pred j hj ha; ⟨y, List.mem_cons_of_mem _ q1, q2⟩⟩
    · obtain ⟨q1, q2, q3, q4, q5⟩ := ih x e
      exact ⟨q1, q2, q3, q4, fun j hj ha => let ⟨y, q1, q2⟩ := q5 j hj ha; ⟨y, List.mem_cons_of_mem _ q1, q2⟩⟩

/-- Of two operations one is taken before the other. -/
theorem PreOk.two {n : Nat} {b : Array Nat} {pre : List Ent} (h : PreOk n b pre) : ∀ x ∈ pre, ∀ y ∈ pre, x = y ∨ PairP b x y ∨ PairP b y x := by
  induction h with
  | nil => intro x hx; cases hx
  | cons z pre h hp ih =>
    intro x hx y hy
    rcases List.mem_cons.1 hx with e | e
    · rcases List.mem_cons.1 hy with f | f
      · exact .inl (e.trans f.symm)
      · subst e; exact .inr (.inl (h.pair y f))
    · rcases List.mem_cons.1 hy with f | f
      · subst f; exact .inr (.inr (h.pair x e))
      · exact ih x e y f

theorem PreOk.uniq {n : Nat} {b : Array Nat} {pre : List Ent} (h : PreOk n b pre) {x y : Ent} (hx : x ∈ pre) (hy : y ∈ pre) (e : x.1 = y.1) : x = y := by
  rcases h.two x hx y hy with q | q | q
  · exact q
  · exact absurd e q.ne
  · exact absurd e.symm q.ne

theorem PreOk.dst {n : Nat} {b : Array Nat} {pre : List Ent} (h : PreOk n b pre) {x y : Ent} (hx : x ∈ pre) (hy : y ∈ pre) (hne : x.1 ≠ y.1) {p : Pos} (hp : x.2.1.dst = some p) : y.2.1.dst ≠ some p := by
  rcases h.two x hx y hy with q | q | q
  · subst q; exact absurd rfl hne
  · exact fun e => q.dst p e hp
  · exact q.dst p hp

theorem PreOk.look {n : Nat} {b : Array Nat} {pre : List Ent} (h : PreOk n b pre) {x y : Ent} (hx : x ∈ pre) (hy : y ∈ pre) (hne : x.1 ≠ y.1) {p : Pos} (hp : y.2.1.dst = some p) (hl : p ∈ looks x.2.1) :
    ahead b y.1 x.1 = true ∨ ahead b x.1 y.1 = true := by
  rcases h.two x hx y hy with q | q | q
  · subst q; exact absurd rfl hne
  · exact .inl (q.look p hp hl)
  · exact .inr (q.back p hp hl)

/-- What is great and taken is ahead of all that comes. -/
theorem entsOk_big {n : Nat} {b : Array Nat} : ∀ {suf pre : List Ent}, entsOk n b pre suf = true → ∀ x ∈ pre, isBig x.2.2 = true → ∀ y ∈ suf, ahead b x.1 y.1 = true
  | [], _, _, _, _, _, y, hy => by cases hy
  | z :: suf, pre, h, x, hx, hb, y, hy => by
    obtain ⟨h1, h2⟩ := entsOk_cons h
    rcases List.mem_cons.1 hy with e | e
    · subst e; exact (h1.pair x hx).big hb
    · exact entsOk_big h2 x (List.mem_cons_of_mem _ hx) hb y e

theorem entsOk_ne {n : Nat} {b : Array Nat} : ∀ {suf pre : List Ent}, entsOk n b pre suf = true → ∀ x ∈ pre, ∀ y ∈ suf, x.1 ≠ y.1
  | [], _, _, _, _, y, hy => by cases hy
  | z :: suf, pre, h, x, hx, y, hy => by
    obtain ⟨h1, h2⟩ := entsOk_cons h
    rcases List.mem_cons.1 hy with e | e
    · subst e; exact ((h1.pair x hx).ne).symm
    · exact entsOk_ne h2 x (List.mem_cons_of_mem _ hx) y e

theorem entsOk_lt {n : Nat} {b : Array Nat} : ∀ {suf pre : List Ent}, entsOk n b pre suf = true → ∀ y ∈ suf, y.1 < n
  | [], _, _, y, hy => by cases hy
  | z :: suf, pre, h, y, hy => by
    obtain ⟨h1, h2⟩ := entsOk_cons h
    rcases List.mem_cons.1 hy with e | e
    · subst e; exact h1.lt
    · exact entsOk_lt h2 y e

theorem entries_get {b : Array Nat} {l : List IOp} {cl : List Nat} : ∀ {is : List Nat} {es : List Ent}, entries b l cl is = some es → ∀ x ∈ es, l[x.1]? = some x.2.1
  | [], es, h, x, hx => by cases h; cases hx
  | i :: is, es, h, x, hx => by
    simp only [entries] at h
    split at h
    · rename_i o r h1 h2
      cases h
      rcases List.mem_cons.1 hx with e | e
      · subst e; exact h1
      · exact entries_get h2 x e
    · cases h

/-- What the table of the edges says. -/
structure TabP (ops : Array Oper) (b : Array Nat) : Prop where
  back : ∀ (j : Nat) (o : Oper), ops[j]? = some o → ∀ e ∈ o.after, Region.binds .any e = true → e.on < j
  edge : ∀ (i j : Nat) (o : Oper), ops[j]? = some o → i < ops.size → ahead b i j = true → ∃ e ∈ o.after, Region.binds .any e = true ∧ (e.on = i ∨ ahead b i e.on = true)

theorem tableOk_of {ops : Array Oper} {b : Array Nat} (h : tableOk ops b = true) : TabP ops b := by
  have key : ∀ (j : Nat) (o : Oper), ops[j]? = some o → ((o.after.toList.all fun e => !Region.binds .any e || Nat.blt e.on j) &&
      (List.range ops.size).all fun i => !ahead b i j || o.after.toList.any fun e => Region.binds .any e && (Nat.beq e.on i || ahead b i e.on)) = true := by
    intro j o ho
    simp only [tableOk, List.all_eq_true] at h
    have := h j (List.mem_range.2 (Array.getElem?_eq_some_iff.1 ho).1)
    rw [ho] at this
    exact this
  refine ⟨fun j o ho e he hb => ?_, fun i j o ho hi ha => ?_⟩
  · have := (Bool.and_eq_true _ _ ▸ key j o ho).1
    rw [List.all_eq_true] at this
    have := this e (by simpa using he)
    rw [hb] at this
    exact blt_of (by simpa using this)
  · have := (Bool.and_eq_true _ _ ▸ key j o ho).2
    rw [List.all_eq_true] at this
    have := this i (List.mem_range.2 hi)
    rw [ha] at this
    simp only [Bool.not_true, Bool.false_or, List.any_eq_true, Bool.and_eq_true, Bool.or_eq_true] at this
    obtain ⟨e, he, hb, hc⟩ := this
    exact ⟨e, by simpa using he, hb, hc.imp beq_of id⟩

end Go.Abs

/- Regions whose order is open: what holds on the way. -/
namespace Go.Abs

def isFree : Cls → Bool
  | .free _ => true
  | _ => false
def isRead : Cls → Bool
  | .read _ => true
  | _ => false

/-- The number of a block. -/
def idOf : Value → Nat
  | .pointer (some a) => a.block
  | .map (some b) => b
  | _ => 0

/-- A block that was made ahead is as it was made. -/
inductive FreeP : IK → Value → AH → Prop
  | alloc (e : TypeId) (z : List Value) (id : Nat) (h : AH) (hg : h.get id = some (.row z e true)) : FreeP (.alloc e z) (ptrTo id 0) h
  | map (id : Nat) (h : AH) (hg : h.get id = some (.map [] 0)) : FreeP .mkMap (.map (some id)) h

theorem FreeP.again {k : IK} {v : Value} {h h' : AH} (f : FreeP k v h) (ha : freeAt k v h' = true) : FreeP k v h' := by
  cases f with
  | alloc e z id h hg =>
    simp only [freeAt, ptrTo] at ha
    split at ha
    · rename_i cs e' hg'
      simp only [Bool.and_eq_true] at ha
      have h1 := beq_of ha.1
      have h2 := veqs_eq ha.2
      subst h1; subst h2
      exact .alloc e z id h' hg'
    · cases ha
  | map id h hg =>
    simp only [freeAt] at ha
    split at ha
    · rename_i hg'
      exact .map id h' hg'
    · cases ha

theorem FreeP.keep {k : IK} {v : Value} {h h' : AH} (f : FreeP k v h) (he : h'.get (idOf v) = h.get (idOf v)) : FreeP k v h' := by
  cases f with
  | alloc e z id h hg => exact .alloc e z id h' (he.trans hg)
  | map id h hg => exact .map id h' (he.trans hg)

section
variable {P : Program} {E : Env}

/-- A block that is there ahead of the real one. -/
theorem rel_ahead {m : M} {h : AH} {w : World} (r : Rel P E m h w) (hn : h.nx < 2 ^ 40 - 1) (x : AObj) : Rel P E m (h.new x) w where
  obj b L y hm hy := by
    have hb := (r.lt b L hm).2
    rw [AH.get_new_ne h x (by omega) (by omega) (by omega)] at hy
    exact r.obj b L y hm hy
  lt b L hm := ⟨(r.lt b L hm).1, by have := (r.lt b L hm).2; show b < h.nx + 1; omega⟩
  inj b b' L L' y y' hm hm' hy hy' hmut he := by
    have hb := (r.lt b L hm).2
    have hb' := (r.lt b' L' hm').2
    rw [AH.get_new_ne h x (by omega) (by omega) (by omega)] at hy hy'
    exact r.inj b b' L L' y y' hm hm' hy hy' hmut he
  nx := by show h.nx + 1 < 2 ^ 40; omega
  gl := r.gl
  al := r.al

theorem ev_ahead {m0 m : M} {h0 h : AH} {w0 w : World} (ev : Ev m0 h0 w0 m h w) (r : Rel P E m h w) (hn : h.nx < 2 ^ 40 - 1) (x : AObj) : Ev m0 h0 w0 m (h.new x) w where
  ext := ev.ext
  nx := by have := ev.nx; show h0.nx ≤ h.nx + 1; omega
  os := ev.os
  tape := ev.tape
  output := ev.output
  size := ev.size
  keep := ev.keep
  foot b L y hm hy hmut hlt := by
    have hb := (r.lt b L hm).2
    rw [AH.get_new_ne h x (by omega) (by omega) (by omega)] at hy
    exact ev.foot b L y hm hy hmut hlt

/-- The real block. -/
theorem rel_at {m : M} {h : AH} {w w' : World} (r : Rel P E m h w) {id : Nat} (hid : m id = none) (hlt : id < h.nx) {o : Obj} {x : AObj} (hx : h.get id = some x) {L : Loc}
    (hheap : w'.heap = w.heap.push o) (hblk : L.blk = w.heap.size) (hal : L.off % L.sz = 0) (ho : Le m (upd m id L) → ObR P E (upd m id L) w' L x) : Rel P E (upd m id L) h w' := by
  have hle : Le m (upd m id L) := le_upd hid
  have hold : ∀ B, B < w.heap.size → w'.heap[B]? = w.heap[B]? := fun B hB => by
    rw [hheap, Array.getElem?_push, if_neg (by omega)]
  refine ⟨fun b L' y hm hy => ?_, fun b L' hm => ?_, fun b b' L1 L2 x1 x2 h1 h2 g1 g2 hmut he => ?_, r.nx, r.gl.mono hle, fun b L' hm => ?_⟩
  · by_cases hb : b = id
    · subst hb
      rw [upd_same] at hm
      rw [hx] at hy
      cases hm; cases hy
      exact ho hle
    · rw [upd_ne _ _ hb] at hm
      have hl := r.lt b L' hm
      exact (r.obj b L' y hm hy).keep (hold _ hl.1) hle
  · by_cases hb : b = id
    · subst hb
      rw [upd_same] at hm; cases hm
      exact ⟨by rw [hheap, Array.size_push]; omega, hlt⟩
    · rw [upd_ne _ _ hb] at hm
      have hl := r.lt b L' hm
      exact ⟨by rw [hheap, Array.size_push]; omega, hl.2⟩
  · by_cases hb : b = id
    · by_cases hb' : b' = id
      · omega
      · subst hb
        rw [upd_same] at h1; cases h1
        rw [upd_ne _ _ hb'] at h2
        have := (r.lt b' L2 h2).1
        omega
    · rw [upd_ne _ _ hb] at h1
      have hl1 := r.lt b L1 h1
      by_cases hb' : b' = id
      · subst hb'
        rw [upd_same] at h2; cases h2
        omega
      · rw [upd_ne _ _ hb'] at h2
        exact r.inj b b' L1 L2 x1 x2 h1 h2 g1 g2 hmut he
  · by_cases hb : b = id
    · subst hb
      rw [upd_same] at hm; cases hm; exact hal
    · rw [upd_ne _ _ hb] at hm; exact r.al b L' hm

theorem ev_at {m0 m : M} {h0 h : AH} {w0 w w' : World} (ev : Ev m0 h0 w0 m h w) {id : Nat} (hge : h0.nx ≤ id) {o : Obj} {L : Loc} (hblk : L.blk = w.heap.size)
    (hheap : w'.heap = w.heap.push o) (hos : w'.os = w.os) (htp : w'.tape = w.tape) (hout : w'.output = w.output) : Ev m0 h0 w0 (upd m id L) h w' where
  ext b hb := by rw [upd_ne _ _ (by omega)]; exact ev.ext b hb
  nx := ev.nx
  os := hos.trans ev.os
  tape := htp.trans ev.tape
  output := hout.trans ev.output
  size := by have := ev.size; rw [hheap, Array.size_push]; omega
  keep B hB hf := by
    have := ev.size
    rw [hheap, Array.getElem?_push, if_neg (by omega)]
    exact ev.keep B hB hf
  foot b L' y hm hy hmut hl := by
    by_cases hb : b = id
    · subst hb
      rw [upd_same] at hm; cases hm
      have := ev.size
      omega
    · rw [upd_ne _ _ hb] at hm
      exact ev.foot b L' y hm hy hmut hl
end

/-- What stays as it is. -/
structure DC where
  P : Program
  E : Env
  nt : Nat
  C : Ctx
  ex : Ex
  n : Nat
  b : Array Nat
  L : List IOp
  κ : KX
  bF : Frame
  cs0 : List Frame
  tm0 : T Value
  m0 : M
  h0 : AH
  w0 : World

/-- What turns: what was taken (with the temporaries and the answer of each operation), what is still to be taken; the interpreter's state; the machine's. -/
structure DS where
  R : Nat → T Value
  V : Nat → Value
  pre : List Ent
  suf : List Ent
  st : St
  dn : List Dn
  tm : T Value
  m : M
  a : Act
  cs : List Frame
  w : World

/-- What was taken and is not yet done. -/
structure Pend (c : DC) (s : DS) (x : Ent) : Prop where
  look : ∀ p ∈ looks x.2.1, (∀ y ∈ s.pre, ahead c.b y.1 x.1 = true → y.2.1.dst = some p → tget (s.R x.1) p = tget s.st.tm p) ∧
    ((∀ y ∈ s.pre, ahead c.b y.1 x.1 = true → y.2.1.dst ≠ some p) → tget (s.R x.1) p = tget c.tm0 p)
  val : ∀ p, x.2.1.dst = some p → tget s.st.tm p = s.V x.1
  no : wantB (s.R x.1) x.2.1.g = false → s.V x.1 = undef
  ans : wantB (s.R x.1) x.2.1.g = true → isFree x.2.2 = false → ∀ ex df um κ, opRun x.2.1.k c.C ex ⟨s.R x.1, df, um, s.st.h⟩ κ = κ (.val (s.V x.1)) ⟨s.R x.1, df, um, s.st.h⟩
  dnr : wantB (s.R x.1) x.2.1.g = true → isRead x.2.2 = true → ⟨x.1, x.2.1.k, s.V x.1, s.R x.1, false⟩ ∈ s.dn
  dnf : wantB (s.R x.1) x.2.1.g = true → isFree x.2.2 = true → ⟨x.1, x.2.1.k, s.V x.1, s.R x.1, true⟩ ∈ s.dn
  fr : wantB (s.R x.1) x.2.1.g = true → isFree x.2.2 = true → FreeP x.2.1.k (s.V x.1) s.st.h ∧ s.m (idOf (s.V x.1)) = none ∧ c.h0.nx ≤ idOf (s.V x.1) ∧ idOf (s.V x.1) < s.st.h.nx

/-- What holds on the way. D: what is done. -/
structure DI (c : DC) (D : Nat → Prop) (s : DS) : Prop where
  run : drawK c.C c.ex s.suf s.st s.dn c.κ = true
  chk : entsOk c.n c.b s.pre s.suf = true
  ok : PreOk c.n c.b s.pre
  lk : ∀ x, x ∈ s.pre ∨ x ∈ s.suf → c.L[x.1]? = some x.2.1
  cov : ∀ i, i < c.n → (∃ x ∈ s.pre, x.1 = i) ∨ ∃ x ∈ s.suf, x.1 = i
  d1 : ∀ i, D i → ∃ x ∈ s.pre, x.1 = i
  d2 : ∀ x ∈ s.pre, isBig x.2.2 = true → D x.1
  dcl : ∀ i j, i < c.n → D j → ahead c.b i j = true → D i
  str : StR c.P c.E c.nt s.m c.bF ⟨s.tm, s.st.df, s.st.um, s.st.h⟩ s.a s.cs s.w
  t1 : ∀ x ∈ s.pre, D x.1 → ∀ p, x.2.1.dst = some p → tget s.tm p = tget s.st.tm p
  t2 : ∀ p, (∀ x ∈ s.pre, D x.1 → x.2.1.dst ≠ some p) → tget s.tm p = tget c.tm0 p
  t3 : ∀ p, (∀ x ∈ s.pre, x.2.1.dst ≠ some p) → tget s.st.tm p = tget c.tm0 p
  pend : ∀ x ∈ s.pre, ¬ D x.1 → Pend c s x
  uni : ∀ x ∈ s.pre, ∀ y ∈ s.pre, ¬ D x.1 → ¬ D y.1 → x.1 ≠ y.1 → wantB (s.R x.1) x.2.1.g = true → wantB (s.R y.1) y.2.1.g = true → isFree x.2.2 = true → isFree y.2.2 = true → idOf (s.V x.1) ≠ idOf (s.V y.1)
  ev : Ev c.m0 c.h0 c.w0 s.m s.st.h s.w
  csr : CsR c.bF c.cs0 s.cs

def one {α : Type} (f : Nat → α) (i : Nat) (v : α) : Nat → α := fun j => if j = i then v else f j
theorem one_same {α : Type} (f : Nat → α) (i : Nat) (v : α) : one f i v i = v := by simp [one]
theorem one_ne {α : Type} (f : Nat → α) {i j : Nat} (v : α) (h : j ≠ i) : one f i v j = f j := by simp [one, h]

/-- One more is taken. -/
noncomputable def DS.take (s : DS) (x : Ent) (rest : List Ent) (v : Value) (h2 : AH) (dn2 : List Dn) : DS :=
  { s with R := one s.R x.1 s.st.tm, V := one s.V x.1 v, pre := x :: s.pre, suf := rest, st := ⟨putT x.2.1.dst v s.st.tm, s.st.df, s.st.um, h2⟩, dn := dn2 }

theorem take_ok {c : DC} {D : Nat → Prop} {s : DS} (I : DI c D s) {x : Ent} {rest : List Ent} (hs : s.suf = x :: rest) (hb : isBig x.2.2 = false) {v : Value} {h2 : AH} {dn2 : List Dn}
    (hrun : drawK c.C c.ex rest ⟨putT x.2.1.dst v s.st.tm, s.st.df, s.st.um, h2⟩ dn2 c.κ = true) (hdn : ∀ d ∈ s.dn, d ∈ dn2)
    (hh : h2 = s.st.h ∨ (isFree x.2.2 = true ∧ s.st.h.nx < 2 ^ 40 - 1 ∧ ∃ ob, h2 = s.st.h.new ob))
    (hno : wantB s.st.tm x.2.1.g = false → v = undef)
    (hans : wantB s.st.tm x.2.1.g = true → isFree x.2.2 = false → ∀ ex df um κ, opRun x.2.1.k c.C ex ⟨s.st.tm, df, um, h2⟩ κ = κ (.val v) ⟨s.st.tm, df, um, h2⟩)
    (hdnr : wantB s.st.tm x.2.1.g = true → isRead x.2.2 = true → ⟨x.1, x.2.1.k, v, s.st.tm, false⟩ ∈ dn2)
    (hdnf : wantB s.st.tm x.2.1.g = true → isFree x.2.2 = true → ⟨x.1, x.2.1.k, v, s.st.tm, true⟩ ∈ dn2)
    (hfr : wantB s.st.tm x.2.1.g = true → isFree x.2.2 = true → FreeP x.2.1.k v h2 ∧ idOf v = s.st.h.nx ∧ s.st.h.nx < h2.nx) :
    DI c D (s.take x rest v h2 dn2) := by
  have hchk := I.chk
  rw [hs] at hchk
  obtain ⟨hd, hchk2⟩ := entsOk_cons hchk
  have hne : ∀ y ∈ s.pre, y.1 ≠ x.1 := fun y hy => ((hd.pair y hy).ne).symm
  have hD : ¬ D x.1 := fun h => by
    obtain ⟨y, hy, he⟩ := I.d1 _ h
    exact hne y hy he
  have hput : ∀ y ∈ s.pre, ∀ p, y.2.1.dst = some p → tget (putT x.2.1.dst v s.st.tm) p = tget s.st.tm p := fun y hy p hp => tget_putT_ne ((hd.pair y hy).dst p hp) v _
  have hget : ∀ id, id < s.st.h.nx → h2.get id = s.st.h.get id := by
    intro id hid
    rcases hh with rfl | ⟨_, hn, ob, rfl⟩
    · rfl
    · exact AH.get_new_ne _ _ (by omega) (by omega) (by omega)
  have hnx : s.st.h.nx ≤ h2.nx := by
    rcases hh with rfl | ⟨_, hn, ob, rfl⟩
    · exact Nat.le_refl _
    · exact Nat.le_succ _
  refine ⟨hrun, hchk2, .cons x s.pre hd I.ok, ?_, ?_, ?_, ?_, I.dcl, ?_, ?_, ?_, ?_, ?_, ?_, ?_, I.csr⟩
  · rintro y (hy | hy)
    · rcases List.mem_cons.1 hy with q | q
      · subst q; exact I.lk y (.inr (by rw [hs]; exact List.mem_cons_self))
      · exact I.lk y (.inl q)
    · exact I.lk y (.inr (by rw [hs]; exact List.mem_cons_of_mem _ hy))
  · intro i hi
    rcases I.cov i hi with ⟨y, hy, e⟩ | ⟨y, hy, e⟩
    · exact .inl ⟨y, List.mem_cons_of_mem _ hy, e⟩
    · rw [hs] at hy
      rcases List.mem_cons.1 hy with q | q
      · subst q; exact .inl ⟨y, List.mem_cons_self, e⟩
      · exact .inr ⟨y, q, e⟩
  · intro i hi
    obtain ⟨y, hy, e⟩ := I.d1 i hi
    exact ⟨y, List.mem_cons_of_mem _ hy, e⟩
  · intro y hy hbig
    rcases List.mem_cons.1 hy with q | q
    · subst q; rw [hb] at hbig; cases hbig
    · exact I.d2 y q hbig
  · have S := I.str
    refine ⟨S.tm, ?_, S.um, S.df⟩
    rcases hh with rfl | ⟨_, hn, ob, rfl⟩
    · exact S.rel
    · exact rel_ahead S.rel hn ob
  · intro y hy hDy p hp
    rcases List.mem_cons.1 hy with q | q
    · subst q; exact absurd hDy hD
    · exact (I.t1 y q hDy p hp).trans (hput y q p hp).symm
  · intro p hp
    exact I.t2 p fun y hy => hp y (List.mem_cons_of_mem _ hy)
  · intro p hp
    have h1 := hp x List.mem_cons_self
    exact (tget_putT_ne h1 v _).trans (I.t3 p fun y hy => hp y (List.mem_cons_of_mem _ hy))
  · intro y hy hDy
    rcases List.mem_cons.1 hy with q | q
    · subst q
      refine ⟨?_, ?_, ?_, ?_, ?_, ?_, ?_⟩
      all_goals simp only [DS.take, one_same]
      · intro p hp
        refine ⟨?_, ?_⟩
        · intro z hz ha hzd
          rcases List.mem_cons.1 hz with q | q
          · subst q; rw [hd.irr] at ha; cases ha
          · exact (hput z q p hzd).symm
        · intro hall
          refine I.t3 p fun z hz hzd => ?_
          exact hall z (List.mem_cons_of_mem _ hz) ((hd.pair z hz).look p hzd hp) hzd
      · intro p hp; exact tget_putT_same hp v _
      · exact hno
      · exact hans
      · exact hdnr
      · exact hdnf
      · intro h1 h2'
        obtain ⟨q1, q2, q3⟩ := hfr h1 h2'
        refine ⟨q1, ?_, ?_, ?_⟩
        · rw [q2]; exact I.str.rel.none (Nat.le_refl _)
        · rw [q2]; exact I.ev.nx
        · rw [q2]; exact q3
    · have pd := I.pend y q hDy
      have e1 := one_ne s.R s.st.tm (hne y q)
      have e2 := one_ne s.V v (hne y q)
      refine ⟨?_, ?_, ?_, ?_, ?_, ?_, ?_⟩
      all_goals simp only [DS.take, e1, e2]
      · intro p hp
        obtain ⟨l1, l2⟩ := pd.look p hp
        refine ⟨?_, fun hall => l2 fun z hz => hall z (List.mem_cons_of_mem _ hz)⟩
        intro z hz ha hzd
        rcases List.mem_cons.1 hz with q' | q'
        · subst q'; rw [(hd.pair y q).not] at ha; cases ha
        · exact (l1 z q' ha hzd).trans (hput z q' p hzd).symm
      · intro p hp; exact (hput y q p hp).trans (pd.val p hp)
      · exact pd.no
      · intro hw hf
        rcases hh with rfl | ⟨hfx, hn, ob, rfl⟩
        · exact pd.ans hw hf
        · intro ex df um κ
          have hc := (I.ok.head y q).2.1
          have hcl : clsOf y.2.1.k = 0 := by
            cases hyc : y.2.2 with
            | pure => rw [hyc] at hc; exact beq_of hc
            | read k =>
              cases hxc : x.2.2 with
              | free n => exact absurd hyc ((hd.pair y q).free n k hxc)
              | pure => rw [hxc] at hfx; cases hfx
              | read _ => rw [hxc] at hfx; cases hfx
              | big _ => rw [hxc] at hfx; cases hfx
            | free n => rw [hyc] at hf; cases hf
            | big re => exact absurd (I.d2 y q (by rw [hyc]; rfl)) hDy
          rw [opRun_heap hcl (κ2 := fun r st => κ r ⟨st.tm, st.df, st.um, s.st.h.new ob⟩) (h' := s.st.h) (fun r => rfl)]
          exact pd.ans hw hf _ _ _ _
      · intro hw hr; exact hdn _ (pd.dnr hw hr)
      · intro hw hf; exact hdn _ (pd.dnf hw hf)
      · intro hw hf
        obtain ⟨q1, q2, q3, q4⟩ := pd.fr hw hf
        exact ⟨q1.keep (hget _ q4), q2, q3, Nat.lt_of_lt_of_le q4 hnx⟩
  · intro y hy z hz hDy hDz hyz hwy hwz hfy hfz
    have old : ∀ u ∈ s.pre, ¬ D u.1 → wantB (s.R u.1) u.2.1.g = true → isFree u.2.2 = true → idOf (s.V u.1) < s.st.h.nx := fun u hu hDu hwu hfu => ((I.pend u hu hDu).fr hwu hfu).2.2.2
    rcases List.mem_cons.1 hy with q | q
    · subst q
      rcases List.mem_cons.1 hz with q' | q'
      · subst q'; exact absurd rfl hyz
      · simp only [DS.take, one_same, one_ne s.R s.st.tm (hne z q'), one_ne s.V v (hne z q')] at hwy hwz ⊢
        have := old z q' hDz hwz hfz
        have := (hfr hwy hfy).2.1
        omega
    · rcases List.mem_cons.1 hz with q' | q'
      · subst q'
        simp only [DS.take, one_same, one_ne s.R s.st.tm (hne y q), one_ne s.V v (hne y q)] at hwy hwz ⊢
        have := old y q hDy hwy hfy
        have := (hfr hwz hfz).2.1
        omega
      · simp only [DS.take, one_ne s.R s.st.tm (hne y q), one_ne s.V v (hne y q), one_ne s.R s.st.tm (hne z q'), one_ne s.V v (hne z q')] at hwy hwz ⊢
        exact I.uni y q z q' hDy hDz hyz hwy hwz hfy hfz
  · rcases hh with rfl | ⟨_, hn, ob, rfl⟩
    · exact I.ev
    · exact ev_ahead I.ev I.str.rel hn ob

end Go.Abs

/- Regions whose order is open: the steps. -/
namespace Go.Abs

/-- One more is taken. -/
theorem norm1 {c : DC} {D : Nat → Prop} {s : DS} (I : DI c D s) {x : Ent} {rest : List Ent} (hs : s.suf = x :: rest) (hb : isBig x.2.2 = false) : ∃ v h2 dn2, DI c D (s.take x rest v h2 dn2) := by
  have run := I.run
  have hchk := I.chk
  rw [hs] at run hchk
  obtain ⟨hd, hchk2⟩ := entsOk_cons hchk
  obtain ⟨i, o, cl⟩ := x
  simp only [drawK] at run
  cases hw : wantB s.st.tm o.g with
  | false =>
    rw [wantK_no hw, putK_eq] at run
    exact ⟨undef, s.st.h, s.dn, take_ok I hs hb run (fun _ h => h) (.inl rfl) (fun _ => rfl) (fun h => by rw [hw] at h; cases h) (fun h => by rw [hw] at h; cases h) (fun h => by rw [hw] at h; cases h) (fun h => by rw [hw] at h; cases h)⟩
  | true =>
    rw [wantK_yes hw] at run
    have hcl := hd.cls
    cases cl with
    | big re => cases hb
    | pure =>
      obtain ⟨r, hr⟩ := op_det (k := o.k) (by have := beq_of hcl; simp only at this; omega) (C := c.C) (tm := s.st.tm) (h := s.st.h)
      have run' := (hr c.ex s.st.df s.st.um _).symm.trans run
      cases r with
      | none => cases run'
      | some v =>
        simp only [putK_eq] at run'
        exact ⟨v, s.st.h, s.dn, take_ok I hs hb run' (fun _ h => h) (.inl rfl) (fun h => by simp only at h; rw [hw] at h; cases h) (fun _ _ ex df um κ => hr ex df um κ) (fun _ h => by cases h) (fun _ h => by cases h) (fun _ h => by cases h)⟩
    | read n =>
      obtain ⟨r, hr⟩ := op_det (k := o.k) (by have := beq_of hcl; simp only at this; omega) (C := c.C) (tm := s.st.tm) (h := s.st.h)
      have run' := (hr c.ex s.st.df s.st.um _).symm.trans run
      cases r with
      | none => cases run'
      | some v =>
        simp only [putK_eq] at run'
        exact ⟨v, s.st.h, _, take_ok I hs hb run' (fun _ h => List.mem_cons_of_mem _ h) (.inl rfl) (fun h => by simp only at h; rw [hw] at h; cases h) (fun _ _ ex df um κ => hr ex df um κ) (fun _ _ => List.mem_cons_self) (fun _ h => by cases h) (fun _ h => by cases h)⟩
    | free n =>
      have hc2 : clsOf o.k = 2 := beq_of hcl
      obtain ⟨dst, g, k⟩ := o
      simp only at run hw hc2
      cases k
      all_goals first | (exfalso; simp [clsOf] at hc2; done) | skip
      case alloc =>
        rename_i e z
        simp only [opRun, fAlloc] at run
        obtain ⟨hn, run⟩ := of_newK run
        have run : drawK c.C c.ex rest ⟨putT dst (ptrTo s.st.h.nx 0) s.st.tm, s.st.df, s.st.um, s.st.h.new (.row z e true)⟩ (⟨i, .alloc e z, ptrTo s.st.h.nx 0, s.st.tm, true⟩ :: s.dn) c.κ = true := by
          have := run
          simp only [hK, putK_eq] at this
          exact this
        exact ⟨_, _, _, take_ok I hs hb run (fun _ h => List.mem_cons_of_mem _ h) (.inr ⟨rfl, hn, _, rfl⟩) (fun h => by simp only at h; rw [hw] at h; cases h) (fun _ h => by cases h) (fun _ h => by cases h) (fun _ _ => List.mem_cons_self)
          (fun _ _ => ⟨.alloc _ _ _ _ (AH.get_new_same _ _), rfl, Nat.lt_succ_self _⟩)⟩
      case mkMap =>
        simp only [opRun, fMkMap] at run
        obtain ⟨hn, run⟩ := of_newK run
        have run : drawK c.C c.ex rest ⟨putT dst (.map (some s.st.h.nx)) s.st.tm, s.st.df, s.st.um, s.st.h.new (.map [] 0)⟩ (⟨i, .mkMap, .map (some s.st.h.nx), s.st.tm, true⟩ :: s.dn) c.κ = true := by
          have := run
          simp only [hK, putK_eq] at this
          exact this
        exact ⟨_, _, _, take_ok I hs hb run (fun _ h => List.mem_cons_of_mem _ h) (.inr ⟨rfl, hn, _, rfl⟩) (fun h => by simp only at h; rw [hw] at h; cases h) (fun _ h => by cases h) (fun _ h => by cases h) (fun _ _ => List.mem_cons_self)
          (fun _ _ => ⟨.map _ _ (AH.get_new_same _ _), rfl, Nat.lt_succ_self _⟩)⟩

/-- What is not great is taken at once. -/
theorem norm {c : DC} {D : Nat → Prop} : ∀ (suf : List Ent) (s : DS), s.suf = suf → DI c D s →
    ∃ s', DI c D s' ∧ s'.a = s.a ∧ s'.cs = s.cs ∧ s'.w = s.w ∧ (s'.suf = [] ∨ ∃ x r, s'.suf = x :: r ∧ isBig x.2.2 = true)
  | [], s, hs, I => ⟨s, I, rfl, rfl, rfl, .inl hs⟩
  | x :: rest, s, hs, I => by
    cases hb : isBig x.2.2 with
    | true => exact ⟨s, I, rfl, rfl, rfl, .inr ⟨x, rest, hs, hb⟩⟩
    | false =>
      obtain ⟨v, h2, dn2, I2⟩ := norm1 I hs hb
      obtain ⟨s', q1, q2, q3, q4, q5⟩ := norm rest _ rfl I2
      exact ⟨s', q1, q2, q3, q4, q5⟩

/-- An operation that was taken is done. -/
theorem done_ok {c : DC} {D : Nat → Prop} {s : DS} (I : DI c D s) {x : Ent} (hxp : x ∈ s.pre) (hD : ¬ D x.1) (hrd : ∀ i, i < c.n → ahead c.b i x.1 = true → D i) {m' : M} {a' : Act} {cs' : List Frame} {w' : World}
    (str : StR c.P c.E c.nt m' c.bF ⟨putT x.2.1.dst (s.V x.1) s.tm, s.st.df, s.st.um, s.st.h⟩ a' cs' w') (ev : Ev c.m0 c.h0 c.w0 m' s.st.h w') (csr : CsR c.bF c.cs0 cs')
    (hm : ∀ id, id < s.st.h.nx → (wantB (s.R x.1) x.2.1.g = true → isFree x.2.2 = true → id ≠ idOf (s.V x.1)) → m' id = s.m id) :
    DI c (fun i => D i ∨ i = x.1) { s with tm := putT x.2.1.dst (s.V x.1) s.tm, m := m', a := a', cs := cs', w := w' } := by
  refine ⟨I.run, I.chk, I.ok, I.lk, I.cov, ?_, fun y hy hb => .inl (I.d2 y hy hb), ?_, str, ?_, ?_, I.t3, ?_, ?_, ev, csr⟩
  · rintro i (h | h)
    · exact I.d1 i h
    · exact ⟨x, hxp, h.symm⟩
  · rintro i j hi (h | h) ha
    · exact .inl (I.dcl i j hi h ha)
    · subst h; exact .inl (hrd i hi ha)
  · intro y hy hDy p hp
    by_cases e : y.1 = x.1
    · have := I.ok.uniq hy hxp e
      subst this
      exact (tget_putT_same hp _ _).trans ((I.pend y hy hD).val p hp).symm
    · exact (tget_putT_ne (I.ok.dst hy hxp e hp) _ _).trans (I.t1 y hy (hDy.resolve_right e) p hp)
  · intro p hp
    exact (tget_putT_ne (hp x hxp (.inr rfl)) _ _).trans (I.t2 p fun y hy hDy => hp y hy (.inl hDy))
  · intro y hy hDy
    have hDy1 : ¬ D y.1 := fun h => hDy (.inl h)
    have hne : y.1 ≠ x.1 := fun h => hDy (.inr h)
    have pd := I.pend y hy hDy1
    refine ⟨pd.look, pd.val, pd.no, pd.ans, pd.dnr, pd.dnf, fun hw hf => ?_⟩
    obtain ⟨q1, q2, q3, q4⟩ := pd.fr hw hf
    refine ⟨q1, ?_, q3, q4⟩
    show m' (idOf (s.V y.1)) = none
    rw [hm _ q4 fun hw' hf' => I.uni y hy x hxp hDy1 hD hne hw hw' hf hf']
    exact q2
  · intro y hy z hz hDy hDz
    exact I.uni y hy z hz (fun h => hDy (.inl h)) (fun h => hDz (.inl h))

/-- What an operation looks at is as it was when it was taken. -/
theorem looks_same {c : DC} {D : Nat → Prop} {s : DS} (I : DI c D s) {x : Ent} (hxp : x ∈ s.pre) (hD : ¬ D x.1) (hrd : ∀ i, i < c.n → ahead c.b i x.1 = true → D i) : ∀ p ∈ looks x.2.1, tget s.tm p = tget (s.R x.1) p := by
  intro p hp
  obtain ⟨l1, l2⟩ := (I.pend x hxp hD).look p hp
  by_cases h : ∃ y ∈ s.pre, ahead c.b y.1 x.1 = true ∧ y.2.1.dst = some p
  · obtain ⟨y, hy, ha, hd⟩ := h
    have hlt := (I.ok.head y hy).1
    exact (I.t1 y hy (hrd y.1 hlt ha) p hd).trans (l1 y hy ha hd).symm
  · have hno : ∀ y ∈ s.pre, ahead c.b y.1 x.1 = true → y.2.1.dst ≠ some p := fun y hy ha hd => h ⟨y, hy, ha, hd⟩
    refine (I.t2 p fun y hy hDy hd => ?_).trans (l2 hno).symm
    by_cases e : y.1 = x.1
    · exact hD (e ▸ hDy)
    · rcases I.ok.look hxp hy (fun q => e q.symm) hd hp with q | q
      · exact hno y hy q hd
      · exact hD (I.dcl _ _ (I.ok.head x hxp).1 hDy q)

theorem free_inv {E : Env} {nt : Nat} {o : Oper} {k : IK} (h : compIK E nt o = some k) (hc : clsOf k = 2) :
    (∃ e te, k = .alloc e te.zero ∧ o.op = .alloc e ∧ goodOf E e = some te) ∨ (∃ t, k = .mkMap ∧ o.op = .makeMap t none) := by
  unfold compIK at h
  split at h
  case h_4 e ho =>
    split at h
    · rename_i te hg
      cases h
      exact .inl ⟨e, te, rfl, ho, hg⟩
    · cases h
  case h_17 t ho =>
    cases h
    exact .inr ⟨t, rfl, ho⟩
  all_goals (exfalso; try simp only [compBin, compPure, compConv, compSlice, compBuiltin, Option.map_eq_some_iff] at h)
  all_goals repeat' (split at h)
  all_goals try simp only [Option.map_eq_some_iff] at h
  all_goals repeat' (split at h)
  all_goals try simp only [Option.map_eq_some_iff] at h
  all_goals first | (cases h; done) | (cases h; cases hc; done) | (obtain ⟨_, _, h⟩ := h; cases h; cases hc; done) | skip

end Go.Abs

/- Regions whose order is open: the machine's steps. -/
namespace Go.Abs

/-- A statement as a bool. -/
noncomputable def cdec (p : Prop) : Bool := @decide p (Classical.propDecidable p)
theorem cdec_of {p : Prop} (h : p) : cdec p = true := @decide_eq_true p (Classical.propDecidable p) h
theorem of_cdec {p : Prop} (h : cdec p = true) : p := @of_decide_eq_true p (Classical.propDecidable p) h
theorem cdec_iff {p : Prop} : cdec p = true ↔ p := ⟨of_cdec, cdec_of⟩

/-- A block that was made ahead is made. -/
theorem free_step {c : DC} {D : Nat → Prop} {s : DS} (I : DI c D s) (hC : CtxOk c.P c.E c.C) (hnt : c.nt < 2 ^ 40) {ops : Array Oper} {L : List IOp} (hcomp : compOps c.E c.nt ops ops.toList = some L) {x : Ent} (hxp : x ∈ s.pre) (hD : ¬ D x.1)
    (hrd : ∀ i, i < c.n → ahead c.b i x.1 = true → D i) {o : Oper} (ho : ops[x.1]? = some o) (hco : compOp c.E c.nt ops o = some x.2.1) (hw : wantB (s.R x.1) x.2.1.g = true) (hf : isFree x.2.2 = true) (k : List Item) (rest : List Nat) :
    ∃ s', DI c (fun i => D i ∨ i = x.1) s' ∧ s'.suf = s.suf ∧ Steps c.P (lone (c.bF.atR s.a (.inRegion ops (x.1 :: rest) :: k)) s.cs s.w) (lone (c.bF.atR s'.a (.inRegion ops rest :: k)) s'.cs s'.w) := by
  have hl := looks_same I hxp hD hrd
  obtain ⟨f1, f2, f3, f4⟩ := (I.pend x hxp hD).fr hw hf
  obtain ⟨hik, hdst, _⟩ := compOp_of hco
  have hfin : ∀ v, (c.bF.atR s.a (.inRegion ops (x.1 :: rest) :: k)).finish v = c.bF.atR (s.a.put o.dst v) (.inRegion ops rest :: k) := by
    intro v; rw [Frame.finish_atR, ho]; rfl
  have hwant : Region.wanted o (yielded ops s.a.tmps) = true := by
    have hk : wantK s.tm x.2.1.g (fun _ => true) (fun _ => false) = true := wantK_yes ((wantB_congr hl).trans hw)
    rcases want_ok I.str.tm (compOps_dst hcomp) hco hk with ⟨h, _⟩ | ⟨_, h⟩
    · exact h
    · cases h
  have hg := stepGR_op (P := c.P) (b := c.bF) (a := s.a) (k := k) (cs := s.cs) (w := s.w) (rest := rest) ho hwant
  have hclk : clsOf x.2.1.k = 2 := by
    have := (I.ok.head x hxp).2.1
    cases hx : x.2.2 with
    | free n => rw [hx] at this; exact beq_of this
    | pure => rw [hx] at hf; cases hf
    | read _ => rw [hx] at hf; cases hf
    | big _ => rw [hx] at hf; cases hf
  have hik : compIK c.E c.nt (slim o) = some x.2.1.k := hik.resolve_left fun h => by rw [h] at hclk; cases hclk
  -- the end of both cases
  have fin : ∀ (ob : Obj) (L : Loc) (y : AObj) (v' : Value), s.st.h.get (idOf (s.V x.1)) = some y → L.blk = s.w.heap.size → L.off % L.sz = 0 → (∀ (w' : World), w' = s.w.alloc ob → Le s.m (upd s.m (idOf (s.V x.1)) L) → ObR c.P c.E (upd s.m (idOf (s.V x.1)) L) w' L y) →
      VR (upd s.m (idOf (s.V x.1)) L) (s.V x.1) v' → (o.semAt c.bF.roundOf s.a.eval).run c.P s.w = .ok (.value v') (s.w.alloc ob) →
      ∃ s', DI c (fun i => D i ∨ i = x.1) s' ∧ s'.suf = s.suf ∧ Steps c.P (lone (c.bF.atR s.a (.inRegion ops (x.1 :: rest) :: k)) s.cs s.w) (lone (c.bF.atR s'.a (.inRegion ops rest :: k)) s'.cs s'.w) := by
    intro ob L y v' hy hblk hal hob hv hrun
    have hle : Le s.m (upd s.m (idOf (s.V x.1)) L) := le_upd f2
    have rel := rel_at (w' := s.w.alloc ob) I.str.rel f2 f4 hy (o := ob) rfl hblk hal (hob _ rfl)
    have ev := ev_at (w' := s.w.alloc ob) I.ev f3 (o := ob) hblk rfl rfl rfl rfl
    obtain ⟨st', p1, p2, p3, p4, p5, p6⟩ := put_ok hnt (st := ⟨s.tm, s.st.df, s.st.um, s.st.h⟩) (I.str.tm.mono hle) hdst hv (κ := fun st' => cdec (st' = ⟨putT x.2.1.dst (s.V x.1) s.tm, s.st.df, s.st.um, s.st.h⟩)) (by rw [putK_eq]; exact cdec_of rfl)
    have p1 := of_cdec p1
    subst p1
    refine ⟨_, done_ok I hxp hD hrd (m' := upd s.m (idOf (s.V x.1)) L) (a' := s.a.put o.dst v') (cs' := s.cs) (w' := s.w.alloc ob) ⟨p5, rel, I.str.um.mono hle, by rw [p6]; exact I.str.df.mono hle⟩ ev I.csr (fun id _ hne => upd_ne _ _ (hne hw hf)), rfl, ?_⟩
    refine .one (step_lone_go ?_)
    rw [hg, ← hfin]
    exact apply_value hrun
  rcases free_inv hik hclk with ⟨e, te, e1, e2, e3⟩ | ⟨t, e1, e2⟩
  · have e2 : o.op = _ := e2
    have hno : ∀ cl, o.op ≠ .defer cl := fun cl hc => by rw [e2] at hc; cases hc
    obtain ⟨ht, hgd⟩ := goodOf_of e3
    obtain ⟨_, _, hz, _, _⟩ := good_of hgd
    obtain ⟨i, z, _, _, h3, _, h5, _, _, hsz⟩ := inf hC.ty ht
    rw [e1] at f1
    generalize hv : s.V x.1 = v at f1 fin
    generalize hh : s.st.h = h at f1
    cases f1 with
    | alloc _ _ id h hg' =>
      subst hh
      refine fin (.cells ⟨te.zero⟩ e) ⟨s.w.heap.size, 0, te.zero.length, te.size, te.zero.length⟩ _ (.pointer (some ⟨s.w.heap.size, 0, none⟩)) hg' rfl (Nat.zero_mod _) ?_ ?_ ?_
      · rintro w' rfl hle
        refine ⟨⟨te.zero⟩, (0, 0), ?_, rfl, hsz, rfl, ?_, ?_, fun _ j _ _ => by simp⟩
        · show (s.w.heap.push _)[s.w.heap.size]? = _; simp
        · simp
        · simp only [List.drop_zero]
          rw [List.take_of_length_le (Nat.le_refl _)]
          exact noAddrs_refl _ te.zero (all_noAddrs hz)
      · have := VR.ptr (m := upd s.m id ⟨s.w.heap.size, 0, te.zero.length, te.size, te.zero.length⟩) id 0 _ (upd_same _ _ _)
        simpa [ptrTo, idOf] using this
      · rw [Oper.semAt_eq _ _ _ hno]
        have : z.cells = ⟨te.zero⟩ := Array.ext' h5
        unfold execOp
        rw [e2]
        simp [Instr.alloc, h3, newVar, newRow, this]
  · have e2 : o.op = _ := e2
    have hno : ∀ cl, o.op ≠ .defer cl := fun cl hc => by rw [e2] at hc; cases hc
    rw [e1] at f1
    generalize hv : s.V x.1 = v at f1 fin
    generalize hh : s.st.h = h at f1
    cases f1 with
    | map id h hg' =>
      subst hh
      refine fin (.map #[] 0) ⟨s.w.heap.size, 0, 0, 0, 0⟩ _ (.map (some s.w.heap.size)) hg' rfl (Nat.zero_mod _) ?_ ?_ ?_
      · rintro w' rfl hle
        exact ⟨#[], by show (s.w.heap.push _)[s.w.heap.size]? = _; simp, .nil⟩
      · exact .map id ⟨s.w.heap.size, 0, 0, 0, 0⟩ (upd_same _ _ _)
      · rw [Oper.semAt_eq _ _ _ hno]
        unfold execOp
        rw [e2]
        simp [Instr.makeMap]

/-- What was taken is done. -/
theorem pend_step {c : DC} {D : Nat → Prop} {s : DS} (I : DI c D s) (hC : CtxOk c.P c.E c.C) (hx : ExOk c.P c.E c.ex) (hnt : c.nt < 2 ^ 40) {ops : Array Oper} {L : List IOp} (hcomp : compOps c.E c.nt ops ops.toList = some L) {x : Ent} (hxp : x ∈ s.pre)
    (hD : ¬ D x.1) (hrd : ∀ i, i < c.n → ahead c.b i x.1 = true → D i) {o : Oper} (ho : ops[x.1]? = some o) (hco : compOp c.E c.nt ops o = some x.2.1) (k : List Item) (rest : List Nat) :
    ∃ s', DI c (fun i => D i ∨ i = x.1) s' ∧ s'.suf = s.suf ∧ Steps c.P (lone (c.bF.atR s.a (.inRegion ops (x.1 :: rest) :: k)) s.cs s.w) (lone (c.bF.atR s'.a (.inRegion ops rest :: k)) s'.cs s'.w) := by
  have hl := looks_same I hxp hD hrd
  have hwc := wantB_congr hl
  have pd := I.pend x hxp hD
  by_cases hfw : wantB (s.R x.1) x.2.1.g = true ∧ isFree x.2.2 = true
  · exact free_step I hC hnt hcomp hxp hD hrd ho hco hfw.1 hfw.2 k rest
  let κ' : KX := fun y st2 => cdec (y = .normal ∧ st2 = ⟨putT x.2.1.dst (s.V x.1) s.tm, s.st.df, s.st.um, s.st.h⟩)
  have hk : stepK c.C c.ex x.2.1 ⟨s.tm, s.st.df, s.st.um, s.st.h⟩ κ' = true := by
    unfold stepK
    cases hw : wantB (s.R x.1) x.2.1.g with
    | false =>
      rw [wantK_no (hwc.trans hw), putK_eq]
      exact cdec_of ⟨rfl, by rw [pd.no hw]⟩
    | true =>
      rw [wantK_yes (hwc.trans hw)]
      have hnf : isFree x.2.2 = false := by
        cases h : isFree x.2.2 with
        | false => rfl
        | true => exact absurd ⟨hw, h⟩ hfw
      rw [opRun_local (k := x.2.1.k) (tm := s.tm) (tm2 := s.R x.1) (κ2 := fun r st => (match r with
        | .val v => putK ⟨s.tm, st.df, st.um, st.h⟩ x.2.1.dst v fun st => κ' .normal st
        | .panic v => κ' (.panic v) ⟨s.tm, st.df, st.um, st.h⟩)) (ev_congr hl) (fun r df um h => by cases r <;> rfl)]
      rw [pd.ans hw hnf]
      simp only [putK_eq]
      exact cdec_of ⟨rfl, rfl⟩
  obtain ⟨y, st', m', e, a', cs', w', q1, q2, q3, q4, q5, q6⟩ := step_ok hC hx hnt (compOps_dst hcomp) hco ho rest I.str k hk
  obtain ⟨rfl, rfl⟩ := of_cdec q1
  cases q2
  exact ⟨_, done_ok I hxp hD hrd q3 (I.ev.trans q4) (I.csr.trans q5) (fun id hid _ => q4.ext id hid), rfl, q6⟩

/-- What may still be done came to the same. -/
theorem recheck_get {C : Ctx} {h : AH} {re : List Nat} : ∀ {dn : List Dn}, recheck C h re dn = true → ∀ d ∈ dn, d.i ∈ re → (if d.made = true then freeAt d.k d.v h else againK C d.k d.tm d.v h) = true
  | [], _, d, hd, _ => by cases hd
  | d0 :: dn, hr, d, hd, hi => by
    simp only [recheck, Bool.and_eq_true] at hr
    rcases List.mem_cons.1 hd with e | e
    · subst e
      have h1 := hr.1
      rw [hasN_iff.2 hi] at h1
      simp only at h1
      cases hm : d.made with
      | true => rw [hm] at h1; simpa using h1
      | false => rw [hm] at h1; simpa using h1
    · exact recheck_get hr.2 d e hi

/-- A great operation is done. -/
theorem big_step {c : DC} {D : Nat → Prop} {s : DS} (I : DI c D s) (hC : CtxOk c.P c.E c.C) (hx : ExOk c.P c.E c.ex) (hnt : c.nt < 2 ^ 40) {ops : Array Oper} {L : List IOp} (hcomp : compOps c.E c.nt ops ops.toList = some L) {x : Ent} {suf : List Ent}
    (hs : s.suf = x :: suf) (hb : isBig x.2.2 = true) (hrd : ∀ i, i < c.n → ahead c.b i x.1 = true → D i) {o : Oper} (ho : ops[x.1]? = some o) (hco : compOp c.E c.nt ops o = some x.2.1) (k : List Item) (rest : List Nat) :
    ∃ s', DI c (fun i => D i ∨ i = x.1) s' ∧ s'.suf = suf ∧ Steps c.P (lone (c.bF.atR s.a (.inRegion ops (x.1 :: rest) :: k)) s.cs s.w) (lone (c.bF.atR s'.a (.inRegion ops rest :: k)) s'.cs s'.w) := by
  have run := I.run
  have hchk := I.chk
  rw [hs] at run hchk
  obtain ⟨hd, hchk2⟩ := entsOk_cons hchk
  have hne : ∀ y ∈ s.pre, y.1 ≠ x.1 := fun y hy => ((hd.pair y hy).ne).symm
  have hD : ¬ D x.1 := fun h => by
    obtain ⟨y, hy, he⟩ := I.d1 _ h
    exact hne y hy he
  have hl : ∀ p ∈ looks x.2.1, tget s.tm p = tget s.st.tm p := by
    intro p hp
    by_cases h : ∃ y ∈ s.pre, y.2.1.dst = some p
    · obtain ⟨y, hy, hyd⟩ := h
      exact I.t1 y hy (hrd y.1 (I.ok.head y hy).1 ((hd.pair y hy).look p hyd hp)) p hyd
    · have h1 : ∀ y ∈ s.pre, y.2.1.dst ≠ some p := fun y hy e => h ⟨y, hy, e⟩
      exact (I.t2 p fun y hy _ => h1 y hy).trans (I.t3 p h1).symm
  have hwc := wantB_congr hl
  obtain ⟨i, o', cl⟩ := x
  cases cl with
  | pure => cases hb
  | read _ => cases hb
  | free _ => cases hb
  | big re =>
  simp only [drawK] at run
  let Q : St → Prop := fun st2 => ∃ u, st2.tm = putT o'.dst u s.tm ∧ (wantB s.st.tm o'.g = true → recheck c.C st2.h re s.dn = true) ∧ (wantB s.st.tm o'.g = false → st2.h = s.st.h) ∧
    drawK c.C c.ex suf ⟨putT o'.dst u s.st.tm, st2.df, st2.um, st2.h⟩ s.dn c.κ = true
  let κ' : KX := fun y st2 => match y with
    | .normal => cdec (Q st2)
    | _ => false
  have hk : stepK c.C c.ex o' ⟨s.tm, s.st.df, s.st.um, s.st.h⟩ κ' = true := by
    unfold stepK
    cases hw : wantB s.st.tm o'.g with
    | false =>
      rw [wantK_no hw, putK_eq] at run
      rw [wantK_no (hwc.trans hw), putK_eq]
      exact cdec_of ⟨undef, rfl, fun h => (by rw [hw] at h; cases h), fun _ => rfl, run⟩
    | true =>
      rw [wantK_yes hw] at run
      rw [wantK_yes (hwc.trans hw)]
      refine (opRun_local (k := o'.k) (C := c.C) (ex := c.ex) (tm := s.tm) (tm2 := s.st.tm) (df := s.st.df) (um := s.st.um) (h := s.st.h) (ev_congr hl) ?_).trans run
      intro r df um h
      cases r with
      | panic v => rfl
      | val v =>
        simp only [putK_eq]
        rw [Bool.eq_iff_iff]
        show cdec (Q _) = true ↔ _
        rw [cdec_iff]
        constructor
        · rintro ⟨u, h1, h2, _, h3⟩
          rw [h2 hw]
          simp only
          cases hdst : o'.dst with
          | none => rw [hdst] at h3; exact h3
          | some p =>
            have : v = u := by
              have := congrArg (fun t => tget t p) h1
              simp only at this
              rw [tget_putT_same hdst, tget_putT_same hdst] at this
              exact this
            subst this
            rw [hdst] at h3; exact h3
        · intro h3
          split at h3
          · rename_i hre
            exact ⟨v, rfl, fun _ => hre, fun h => (by rw [hw] at h; cases h), h3⟩
          · cases h3
  obtain ⟨y, st', m', e, a', cs', w', q1, q2, q3, q4, q5, q6⟩ := step_ok hC hx hnt (compOps_dst hcomp) hco ho rest I.str k hk
  cases q2 with
  | exit id => cases q1
  | goto id => cases q1
  | ret => cases q1
  | panic v v' hv => cases q1
  | normal =>
  obtain ⟨u, p1, p2, p3, p4⟩ := of_cdec q1
  -- what is not yet done is not ahead of the great one
  have hun : ∀ y ∈ s.pre, ¬ D y.1 → ahead c.b y.1 i = true → False := fun y hy hDy ha => hDy (hrd y.1 (I.ok.head y hy).1 ha)
  have hre : ∀ y ∈ s.pre, ¬ D y.1 → (∃ n, y.2.2 = .read n ∨ y.2.2 = .free n) → y.1 ∈ re := fun y hy hDy hc => ((hd.pair y hy).re re rfl hc).resolve_left fun ha => hun y hy hDy ha
  have hput : ∀ y ∈ s.pre, ∀ p, y.2.1.dst = some p → tget (putT o'.dst u s.st.tm) p = tget s.st.tm p := fun y hy p hp => tget_putT_ne ((hd.pair y hy).dst p hp) u _
  have hheap : ∀ y ∈ s.pre, y.1 ∈ re → ∀ d ∈ s.dn, d.i = y.1 → st'.h = s.st.h ∨ (if d.made = true then freeAt d.k d.v st'.h else againK c.C d.k d.tm d.v st'.h) = true := by
    intro y hy hyr d hdd hdi
    cases hw : wantB s.st.tm o'.g with
    | false => exact .inl (p3 hw)
    | true => exact .inr (recheck_get (p2 hw) d hdd (by rw [hdi]; exact hyr))
  let s' : DS := { s with pre := (i, o', .big re) :: s.pre, suf := suf, st := ⟨putT o'.dst u s.st.tm, st'.df, st'.um, st'.h⟩, tm := st'.tm, m := m', a := a', cs := cs', w := w' }
  have hS : StR c.P c.E c.nt m' c.bF ⟨st'.tm, st'.df, st'.um, st'.h⟩ a' cs' w' := q3
  refine ⟨s', ?_, rfl, q6⟩
  refine ⟨p4, hchk2, .cons _ _ hd I.ok, ?_, ?_, ?_, ?_, ?_, hS, ?_, ?_, ?_, ?_, ?_, I.ev.trans q4, I.csr.trans q5⟩
  · rintro y (hy | hy)
    · rcases List.mem_cons.1 hy with q | q
      · subst q; exact I.lk _ (.inr (by rw [hs]; exact List.mem_cons_self))
      · exact I.lk y (.inl q)
    · exact I.lk y (.inr (by rw [hs]; exact List.mem_cons_of_mem _ hy))
  · intro j hj
    rcases I.cov j hj with ⟨y, hy, e⟩ | ⟨y, hy, e⟩
    · exact .inl ⟨y, List.mem_cons_of_mem _ hy, e⟩
    · rw [hs] at hy
      rcases List.mem_cons.1 hy with q | q
      · subst q; exact .inl ⟨_, List.mem_cons_self, e⟩
      · exact .inr ⟨y, q, e⟩
  · rintro j (h | h)
    · obtain ⟨y, hy, e⟩ := I.d1 j h
      exact ⟨y, List.mem_cons_of_mem _ hy, e⟩
    · exact ⟨_, List.mem_cons_self, h.symm⟩
  · intro y hy hbig
    rcases List.mem_cons.1 hy with q | q
    · subst q; exact .inr rfl
    · exact .inl (I.d2 y q hbig)
  · rintro j l hj (h | h) ha
    · exact .inl (I.dcl j l hj h ha)
    · subst h; exact .inl (hrd j hj ha)
  · intro y hy hDy p hp
    show tget st'.tm p = tget (putT o'.dst u s.st.tm) p
    rw [p1]
    rcases List.mem_cons.1 hy with q | q
    · subst q
      exact (tget_putT_same hp u _).trans (tget_putT_same hp u _).symm
    · rw [hput y q p hp, tget_putT_ne ((hd.pair y q).dst p hp) u _]
      exact I.t1 y q (hDy.resolve_right fun e => hne y q e) p hp
  · intro p hp
    show tget st'.tm p = tget c.tm0 p
    rw [p1, tget_putT_ne (hp _ List.mem_cons_self (.inr rfl)) u _]
    exact I.t2 p fun y hy hDy => hp y (List.mem_cons_of_mem _ hy) (.inl hDy)
  · intro p hp
    show tget (putT o'.dst u s.st.tm) p = tget c.tm0 p
    rw [tget_putT_ne (hp _ List.mem_cons_self) u _]
    exact I.t3 p fun y hy => hp y (List.mem_cons_of_mem _ hy)
  · intro y hy hDy
    have hDy1 : ¬ D y.1 := fun h => hDy (.inl h)
    have hyp : y ∈ s.pre := by
      rcases List.mem_cons.1 hy with q | q
      · subst q; exact absurd (.inr rfl) hDy
      · exact q
    have pd := I.pend y hyp hDy1
    refine ⟨?_, ?_, pd.no, ?_, pd.dnr, pd.dnf, ?_⟩
    · intro p hp
      obtain ⟨l1, l2⟩ := pd.look p hp
      refine ⟨?_, fun hall => l2 fun z hz => hall z (List.mem_cons_of_mem _ hz)⟩
      intro z hz ha hzd
      rcases List.mem_cons.1 hz with q' | q'
      · subst q'; rw [(hd.pair y hyp).not] at ha; cases ha
      · exact (l1 z q' ha hzd).trans (hput z q' p hzd).symm
    · intro p hp; exact (hput y hyp p hp).trans (pd.val p hp)
    · intro hw hf
      show ∀ ex df um κ, opRun y.2.1.k c.C ex ⟨s.R y.1, df, um, st'.h⟩ κ = κ (.val (s.V y.1)) ⟨s.R y.1, df, um, st'.h⟩
      have hc := (I.ok.head y hyp).2.1
      cases hyc : y.2.2 with
      | big _ => exact absurd (I.d2 y hyp (by rw [hyc]; rfl)) hDy1
      | free _ => rw [hyc] at hf; cases hf
      | pure =>
        rw [hyc] at hc
        intro ex df um κ
        rw [opRun_heap (beq_of hc) (κ2 := fun r st => κ r ⟨st.tm, st.df, st.um, st'.h⟩) (h' := s.st.h) (fun r => rfl)]
        exact pd.ans hw hf _ _ _ _
      | read n =>
        rw [hyc] at hc
        rcases hheap y hyp (hre y hyp hDy1 ⟨n, .inl hyc⟩) _ (pd.dnr hw (by rw [hyc]; rfl)) rfl with he | he
        · rw [he]; exact pd.ans hw hf
        · simp only [Bool.false_eq_true, if_false] at he
          obtain ⟨r, hr⟩ := op_det (k := y.2.1.k) (by rw [beq_of hc]; exact Nat.le_refl _) (C := c.C) (tm := s.R y.1) (h := st'.h)
          unfold againK at he
          rw [hr] at he
          cases r with
          | none => cases he
          | some v =>
            have := veq_eq he
            rw [this]
            exact hr
    · intro hw hf
      obtain ⟨g1, g2, g3, g4⟩ := pd.fr hw hf
      have hfc : ∃ n, y.2.2 = .read n ∨ y.2.2 = .free n := by
        cases hyc : y.2.2 with
        | free n => exact ⟨n, .inr rfl⟩
        | pure => rw [hyc] at hf; cases hf
        | read _ => rw [hyc] at hf; cases hf
        | big _ => rw [hyc] at hf; cases hf
      refine ⟨?_, ?_, g3, ?_⟩
      · rcases hheap y hyp (hre y hyp hDy1 hfc) _ (pd.dnf hw hf) rfl with he | he
        · show FreeP _ _ st'.h
          rw [he]; exact g1
        · exact g1.again (by simpa using he)
      · exact (q4.ext _ g4).trans g2
      · exact Nat.lt_of_lt_of_le g4 q4.nx
  · intro y hy z hz hDy hDz
    have mem : ∀ y : Ent, y ∈ (i, o', Cls.big re) :: s.pre → ¬ (D y.1 ∨ y.1 = i) → y ∈ s.pre := by
      intro y hy hDy
      rcases List.mem_cons.1 hy with q | q
      · subst q; exact absurd (.inr rfl) hDy
      · exact q
    exact I.uni y (mem y hy hDy) z (mem z hz hDz) (fun h => hDy (.inl h)) (fun h => hDz (.inl h))

end Go.Abs

/- Regions whose order is open: all of them. -/
namespace Go.Abs

theorem all_listed {ops : Array Oper} {b : Array Nat} (ht : TabP ops b) {listed : Array Bool} (hr : Region.ready .any ops listed = []) (hsz : listed.size = ops.size) : ∀ j, j < ops.size → listed.getD j false = true := by
  intro j
  induction j using Nat.strongRecOn with
  | _ j ih =>
    intro hj
    cases hl : listed.getD j false with
    | true => rfl
    | false =>
      have : j ∈ Region.ready .any ops listed := by
        refine mem_ready.2 ⟨?_, ops[j], by simp [hj], ?_⟩
        · have : j < listed.size := by omega
          simp [this] at hl ⊢
          exact hl
        · intro e he hb
          have hlt := ht.back j ops[j] (by simp [hj]) e he hb
          exact ih e.on hlt (by omega)
      rw [hr] at this; cases this

/-- All is done. -/
theorem draw_end {c : DC} {D : Nat → Prop} {s : DS} (I : DI c D s) (hall : ∀ j, j < c.n → D j) {ops : Array Oper} (k : List Item) :
    Fin c.P c.E c.nt c.bF k c.cs0 c.m0 c.h0 c.w0 c.κ (lone (c.bF.atR s.a (.inRegion ops [] :: k)) s.cs s.w) := by
  have hsuf : s.suf = [] := by
    cases hs : s.suf with
    | nil => rfl
    | cons x r =>
      have hx : x ∈ s.suf := by rw [hs]; exact List.mem_cons_self
      obtain ⟨y, hy, e⟩ := I.d1 _ (hall _ (entsOk_lt I.chk x hx))
      exact absurd e (entsOk_ne I.chk y hy x hx)
  have run := I.run
  rw [hsuf] at run
  refine ⟨.normal, s.st, s.m, .normal, s.a, s.cs, s.w, run, .normal, ⟨⟨I.str.tm.size, fun t ht => ?_⟩, I.str.rel, I.str.um, I.str.df⟩, I.ev, I.csr, .one stepR_region_end⟩
  have : tget s.st.tm (pos t) = tget s.tm (pos t) := by
    by_cases h : ∃ x ∈ s.pre, x.2.1.dst = some (pos t)
    · obtain ⟨x, hx, hd⟩ := h
      exact (I.t1 x hx (hall _ (I.ok.head x hx).1) _ hd).symm
    · have h1 : ∀ y ∈ s.pre, y.2.1.dst ≠ some (pos t) := fun y hy e => h ⟨y, hy, e⟩
      exact (I.t3 _ h1).trans (I.t2 _ fun y hy _ => h1 y hy).symm
  rw [this]
  exact I.str.tm.get t ht

theorem draw_walk {c : DC} (hC : CtxOk c.P c.E c.C) (hx : ExOk c.P c.E c.ex) (hnt : c.nt < 2 ^ 40) {ops : Array Oper} (hcomp : compOps c.E c.nt ops ops.toList = some c.L) (hn : c.n = ops.size) (ht : TabP ops c.b) (k : List Item) :
    ∀ (fuel t : Nat) (listed : Array Bool) (s : DS), listed.size = ops.size → listed.countP (fun b => !b) ≤ fuel → DI c (fun i => listed.getD i false = true) s → (s.suf = [] ∨ ∃ x r, s.suf = x :: r ∧ isBig x.2.2 = true) →
      Fin c.P c.E c.nt c.bF k c.cs0 c.m0 c.h0 c.w0 c.κ (lone (c.bF.atR s.a (.inRegion ops (Region.linearise.go .any ops fuel t listed []) :: k)) s.cs s.w)
  | 0, t, listed, s, hsz, hc, I, hs => by
    simp only [Region.linearise.go, List.reverse_nil]
    refine draw_end I (fun j hj => ?_) k
    have h0 : listed.countP (fun b => !b) = 0 := by omega
    have hj' : j < listed.size := by omega
    have := (Array.countP_eq_zero.1 h0) listed[j] (Array.getElem_mem hj')
    simp [hj']
    simpa using this
  | fuel + 1, t, listed, s, hsz, hc, I, hs => by
    simp only [Region.linearise.go]
    change Fin c.P c.E c.nt c.bF k c.cs0 c.m0 c.h0 c.w0 c.κ (lone (c.bF.atR s.a (.inRegion ops (match (Region.ready .any ops listed)[t % (Region.ready .any ops listed).length]? with
      | some i => Region.linearise.go .any ops fuel (t / (Region.ready .any ops listed).length) (listed.setIfInBounds i true) [i]
      | none => [].reverse) :: k)) s.cs s.w)
    cases hi : (Region.ready .any ops listed)[t % (Region.ready .any ops listed).length]? with
    | none =>
      have hnil : Region.ready .any ops listed = [] := by
        cases hr : Region.ready .any ops listed with
        | nil => rfl
        | cons x xs =>
          rw [hr] at hi
          have hlt : t % (x :: xs).length < (x :: xs).length := Nat.mod_lt _ (by simp)
          rw [List.getElem?_eq_getElem hlt] at hi
          cases hi
      exact draw_end I (fun j hj => all_listed ht hnil hsz j (by omega)) k
    | some i =>
      have hmem := List.mem_of_getElem? hi
      obtain ⟨hun, o, ho, hedges⟩ := mem_ready.1 hmem
      have hlt : i < ops.size := (Array.getElem?_eq_some_iff.1 ho).1
      have hlt' : i < listed.size := by omega
      have hDi : ¬ (listed.getD i false = true) := by
        simp [hlt'] at hun ⊢
        exact hun
      have hrd : ∀ j, j < c.n → ahead c.b j i = true → listed.getD j false = true := by
        intro j hj ha
        obtain ⟨e, he, hb, h⟩ := ht.edge j i o ho (by omega) ha
        have h1 := hedges e he hb
        rcases h with rfl | h
        · exact h1
        · exact I.dcl j e.on hj h1 h
      have hD : (fun j => (listed.setIfInBounds i true).getD j false = true) = fun j => listed.getD j false = true ∨ j = i := by
        funext j
        apply propext
        by_cases e : i = j
        · subst e
          simp [hlt']
        · simp only [Array.getD_eq_getD_getElem?, Array.getElem?_setIfInBounds_ne e]
          constructor
          · exact .inl
          · rintro (h | h)
            · exact h
            · exact absurd h.symm e
      have hcnt : (listed.setIfInBounds i true).countP (fun b => !b) ≤ fuel := by
        have h1 := Array.countP_set (p := fun b => !b) (xs := listed) (a := true) hlt'
        have h2 : listed[i] = false := by
          simp [hlt'] at hun
          exact hun
        rw [h2] at h1
        simp only [Bool.not_false, if_true, Bool.not_true, Bool.false_eq_true, if_false, Nat.add_zero] at h1
        rw [show listed.setIfInBounds i true = listed.set i true hlt' from by simp [Array.setIfInBounds, hlt'], h1]
        omega
      have hsz2 : (listed.setIfInBounds i true).size = ops.size := by simp [hsz]
      simp only
      rw [linearise_go_acc]
      simp only [List.reverse_singleton, List.singleton_append]
      obtain ⟨g1, g2⟩ := compOps_get hcomp
      obtain ⟨o', k1, k2⟩ := g2 i o (by rw [Array.getElem?_toList]; exact ho)
      have go : ∀ s', DI c (fun j => listed.getD j false = true ∨ j = i) s' → (s'.suf = [] ∨ ∃ x r, s'.suf = x :: r ∧ isBig x.2.2 = true) →
          Fin c.P c.E c.nt c.bF k c.cs0 c.m0 c.h0 c.w0 c.κ (lone (c.bF.atR s'.a (.inRegion ops (Region.linearise.go .any ops fuel (t / (Region.ready .any ops listed).length) (listed.setIfInBounds i true) []) :: k)) s'.cs s'.w) := by
        intro s' I' hs'
        rw [← hD] at I'
        exact draw_walk hC hx hnt hcomp hn ht k fuel _ _ s' hsz2 hcnt I' hs'
      rcases I.cov i (by omega) with ⟨x, hxp, e⟩ | ⟨x, hxs, e⟩
      · subst e
        have := I.lk x (.inl hxp)
        rw [k1] at this; cases this
        obtain ⟨s', I', h1, h2⟩ := pend_step I hC hx hnt hcomp hxp hDi hrd ho k2 k (Region.linearise.go .any ops fuel (t / (Region.ready .any ops listed).length) (listed.setIfInBounds x.1 true) [])
        exact Fin.of_steps h2 (go s' I' (by rw [h1]; exact hs))
      · rcases hs with hs | ⟨y, r, hs, hb⟩
        · rw [hs] at hxs; cases hxs
        · have hyx : x = y := by
            rw [hs] at hxs
            rcases List.mem_cons.1 hxs with q | q
            · exact q
            · exfalso
              have hchk := I.chk
              rw [hs] at hchk
              obtain ⟨_, hchk2⟩ := entsOk_cons hchk
              have ha := entsOk_big hchk2 y List.mem_cons_self hb x q
              rw [e] at ha
              have hy : y ∈ s.suf := by rw [hs]; exact List.mem_cons_self
              obtain ⟨z, hz, e2⟩ := I.d1 _ (hrd y.1 (entsOk_lt I.chk y hy) ha)
              exact absurd e2 (entsOk_ne I.chk z hz y hy)
          subst hyx
          subst e
          have := I.lk x (.inr hxs)
          rw [k1] at this; cases this
          obtain ⟨s', I', h1, h2⟩ := big_step I hC hx hnt hcomp hs hb hrd ho k2 k (Region.linearise.go .any ops fuel (t / (Region.ready .any ops listed).length) (listed.setIfInBounds x.1 true) [])
          obtain ⟨s2, I2, n1, n2, n3, n4⟩ := norm _ s' rfl I'
          have := go s2 I2 n4
          rw [n1, n2, n3] at this
          exact Fin.of_steps h2 this

theorem draw_ok {P : Program} {E : Env} (hm : P.follows .mixedOrders = true) {C : Ctx} (hC : CtxOk P E C) {ex : Ex} (hx : ExOk P E ex) : DrawOk P E C ex := by
  intro nt ops id l N st κ m a b cs w k hk hc hnt s
  unfold compDraw at hc
  split at hc
  · cases hc
  · rename_i L hL
    simp only at hc
    split at hc
    · cases hc
    · rename_i es hes
      split at hc
      · rename_i hok
        cases hc
        simp only [Bool.and_eq_true] at hok
        obtain ⟨⟨h1, h2⟩, h3⟩ := hok
        let w1 : World := { w with drawn := w.drawn + 1 }
        have sam : Sam w w1 := ⟨rfl, rfl, rfl, rfl⟩
        refine Fin.after (Ev.same sam) (CsR.refl _ _) (Fin.of_steps (.one stepR_region_draw) ?_)
        simp only [Region.schedule, hm, Bool.true_or, if_true]
        let c : DC := { P, E, nt, C, ex, n := ops.size, b := Region.before ops, L, κ, bF := b, cs0 := cs, tm0 := st.tm, m0 := m, h0 := st.h, w0 := w1 }
        let s0 : DS := { R := fun _ => st.tm, V := fun _ => undef, pre := [], suf := l, st := st, dn := [], tm := st.tm, m := m, a := a, cs := cs, w := w1 }
        have hrep : ∀ i, (Array.replicate ops.size false).getD i false = false := by
          intro i
          simp only [Array.getD_eq_getD_getElem?, Array.getElem?_replicate]
          split <;> rfl
        have I0 : DI c (fun i => (Array.replicate ops.size false).getD i false = true) s0 := by
          have none_ : ∀ i, ¬ ((Array.replicate ops.size false).getD i false = true) := fun i h => by rw [hrep i] at h; cases h
          refine ⟨hk, h2, .nil, ?_, ?_, fun i h => absurd h (none_ i), fun x hx => (by cases hx), fun i j _ h => absurd h (none_ j), ⟨s.tm, s.rel.same sam, s.um, s.df⟩, fun x hx => (by cases hx), fun _ _ => rfl, fun _ _ => rfl, fun x hx => (by cases hx), fun x hx => (by cases hx), Ev.refl _ _ _, CsR.refl _ _⟩
          · rintro x (hx | hx)
            · cases hx
            · exact entries_get hes x hx
          · intro i hi
            rw [List.all_eq_true] at h3
            exact .inr (idxIn_iff.1 (h3 i (List.mem_range.2 hi)))
        obtain ⟨s', I', n1, n2, n3, n4⟩ := norm _ s0 rfl I0
        have := draw_walk (c := c) hC hx hnt hL rfl (tableOk_of h1) k ops.size (w.tape w.drawn (.order b.fn id)) (Array.replicate ops.size false) s' (by simp) (by rw [Array.countP_replicate]; simp) I' n4
        rw [n1, n2, n3] at this
        exact this
      · cases hc

end Go.Abs

/- The interpreter's runs. -/
namespace Go.Abs
variable {P : Program} {E : Env}

theorem exec_ok (hm : P.follows .mixedOrders = true) {C : Ctx} (hC : CtxOk P E C) : ∀ n, ExOk P E (exec C n)
  | 0 => fun _ _ _ _ _ _ _ _ _ _ _ _ hk => by cases hk
  | n + 1 => code_ok hC (exec_ok hm hC n) (draw_ok hm hC (exec_ok hm hC n)) n

/-- A call that the interpreter has run. -/
theorem run_calls (hm : P.follows .mixedOrders = true) {C : Ctx} (hC : CtxOk P E C) {n f : Nat} {args args' : List Value} {h : AH} {κ : KR} {m : M} {w : World} (hk : callK C (exec C n) f args h κ = true)
    (ha : VRs m args args') (rel : Rel P E m h w) (hb : (callFunc f ⟨args'⟩).run P w = .ok (.enter f ⟨args'⟩) w) :
    Calls P f ⟨args'⟩ w fun e w' => ∃ r h' m', κ r h' = true ∧ RR m' r e ∧ Rel P E m' h' w' ∧ Ev m h w m' h' w' := by
  intro cs
  obtain ⟨r, h', m', w', e, q1, q2, q3, q4, q5⟩ := call_ok hC (exec_ok hm hC n) hk ha rel cs
  rcases q5 with ⟨v', _, hv⟩ | ⟨_, fr, s1, s2, s3⟩
  · rw [hb] at hv; cases hv
  · refine ⟨e, w', fr, ⟨r, h', m', q1, q2, q3, q4⟩, ?_, s2, s3⟩
    cases q2 <;> exact s1

end Go.Abs

/- Summaries of calls are sound. -/
namespace Go.Abs
variable {P : Program} {E : Env}

theorem entEqs_eq : ∀ {a b : List MapEntry}, entEqs a b = true → a = b
  | [], [], _ => rfl
  | [], _ :: _, h => by cases h
  | _ :: _, [], h => by cases h
  | ⟨k, v, n⟩ :: as, ⟨k', v', n'⟩ :: bs, h => by
    simp only [entEqs, Bool.and_eq_true] at h
    have h1 := veq_eq h.1.1.1
    have h2 := veq_eq h.1.1.2
    have h3 := beq_of h.1.2
    have h4 := entEqs_eq h.2
    subst h1; subst h2; subst h3; subst h4; rfl

theorem natEqs_eq : ∀ {a b : List Nat}, natEqs a b = true → a = b
  | [], [], _ => rfl
  | [], _ :: _, h => by cases h
  | _ :: _, [], h => by cases h
  | a :: as, b :: bs, h => by
    simp only [natEqs, Bool.and_eq_true] at h
    rw [beq_of h.1, natEqs_eq h.2]

theorem objEq_eq {a b : AObj} (h : objEq a b = true) : a = b := by
  unfold objEq at h
  split at h
  · simp only [Bool.and_eq_true] at h
    obtain ⟨⟨h1, h2⟩, h3⟩ := h
    have := beq_of h1; subst this
    have := veqs_eq h3; subst this
    split at h2 <;> first | rfl | (cases h2; done)
  · simp only [Bool.and_eq_true] at h
    rw [beq_of h.1, entEqs_eq h.2]
  · simp only [Bool.and_eq_true] at h
    obtain ⟨⟨⟨h1, h2⟩, h3⟩, h4⟩ := h
    rw [beq_of h1, beq_of h2, beq_of h3, natEqs_eq h4]
  · rfl
  · cases h

theorem hasAll_get {h : AH} : ∀ {l : List (Nat × AObj)}, hasAll h l = true → ∀ x ∈ l, h.get x.1 = some x.2
  | [], _, x, hx => by cases hx
  | (b, o) :: r, hh, x, hx => by
    simp only [hasAll] at hh
    split at hh
    · rename_i y hy
      split at hh
      · rename_i he
        rcases List.mem_cons.1 hx with e | e
        · subst e; rw [objEq_eq he]; exact hy
        · exact hasAll_get hh x e
      · cases hh
    · cases hh

theorem isThere_get {σ : Nat → Nat} {h : AH} : ∀ {l : List (Nat × Option AObj)}, isThere σ h l = true → ∀ x ∈ l, ∀ y, x.2 = some y → h.get (σ x.1) = some (renO σ y)
  | [], _, x, hx => by cases hx
  | (b, none) :: r, hh, x, hx => by
    intro y hy
    rcases List.mem_cons.1 hx with e | e
    · subst e; cases hy
    · exact isThere_get (l := r) (by simpa only [isThere] using hh) x e y hy
  | (b, some o) :: r, hh, x, hx => by
    intro y hy
    simp only [isThere] at hh
    split at hh
    · rename_i z hz
      split at hh
      · rename_i he
        rcases List.mem_cons.1 hx with e | e
        · subst e; cases hy; rw [objEq_eq he]; exact hz
        · exact isThere_get hh x e y hy
      · cases hh
    · cases hh

theorem inSg_sg : ∀ {l : List (Nat × Nat)} {b : Nat}, inSg b l = true → (b, sg l b) ∈ l
  | [], b, h => by cases h
  | (a, c) :: r, b, h => by
    simp only [inSg] at h
    simp only [sg]
    cases hb : Nat.beq a b with
    | true => have := beq_of hb; subst this; exact List.mem_cons_self
    | false =>
      rw [hb] at h
      exact List.mem_cons_of_mem _ (inSg_sg h)

theorem sg_out : ∀ {l : List (Nat × Nat)} {base b : Nat}, sgOk base l = true → b < base → sg l b = b
  | [], _, _, _, _ => rfl
  | (a, c) :: r, base, b, h, hb => by
    simp only [sgOk, Bool.and_eq_true] at h
    simp only [sg]
    have h1 := ble_of h.1.1.1.1
    cases he : Nat.beq a b with
    | true => have := beq_of he; omega
    | false => exact sg_out h.2 hb

theorem sg_new : ∀ {l : List (Nat × Nat)} {base : Nat}, sgOk base l = true → ∀ x ∈ l, base ≤ x.1 ∧ base ≤ x.2 ∧ x.2 ≠ unk
  | [], _, _, x, hx => by cases hx
  | (a, c) :: r, base, h, x, hx => by
    simp only [sgOk, Bool.and_eq_true] at h
    rcases List.mem_cons.1 hx with e | e
    · subst e; exact ⟨ble_of h.1.1.1.1, ble_of h.1.1.1.2, by simpa using beq_ne (by simpa using h.1.2)⟩
    · exact sg_new h.2 x e

theorem hasSnd_iff {c : Nat} : ∀ {l : List (Nat × Nat)}, hasSnd c l = true ↔ ∃ x ∈ l, x.2 = c
  | [] => by simp [hasSnd]
  | (a, d) :: r => by
    unfold hasSnd
    cases h : Nat.beq c d with
    | true => have := beq_of h; subst this; simp
    | false =>
      have := beq_ne h
      simp only [List.mem_cons, exists_eq_or_imp]
      rw [hasSnd_iff]
      exact ⟨fun h => .inr h, fun h => h.resolve_left fun e => this e.symm⟩

theorem sg_inj : ∀ {l : List (Nat × Nat)} {base : Nat}, sgOk base l = true → ∀ x ∈ l, ∀ y ∈ l, x.2 = y.2 → x = y
  | [], _, _, x, hx => by cases hx
  | (a, c) :: r, base, h, x, hx => by
    intro y hy he
    simp only [sgOk, Bool.and_eq_true, Bool.not_eq_true'] at h
    have hno : ∀ z ∈ r, z.2 ≠ c := fun z hz e => by
      have := hasSnd_iff.2 ⟨z, hz, e⟩
      rw [this] at h; cases h.1.1.2
    rcases List.mem_cons.1 hx with e | e
    · rcases List.mem_cons.1 hy with f | f
      · exact e.trans f.symm
      · subst e; exact absurd he.symm (hno y f)
    · rcases List.mem_cons.1 hy with f | f
      · subst f; exact absurd he (hno x e)
      · exact sg_inj h.2 x e y f he

theorem newIn_get {base : Nat} {σ : List (Nat × Nat)} : ∀ {l : List (Nat × Option AObj)}, newIn base σ l = true → ∀ x ∈ l, ¬ x.1 < base → inSg x.1 σ = true
  | [], _, x, hx => by cases hx
  | (b, o) :: r, h, x, hx => by
    intro hlt
    simp only [newIn, Bool.and_eq_true, Bool.or_eq_true] at h
    rcases List.mem_cons.1 hx with e | e
    · subst e; exact h.1.resolve_left fun q => hlt (blt_of q)
    · exact newIn_get h.2 x e hlt

theorem keyIn_iff {b : Nat} : ∀ {l : List (Nat × Option AObj)}, keyIn b l = true ↔ ∃ x ∈ l, x.1 = b
  | [] => by simp [keyIn]
  | (c, o) :: r => by
    unfold keyIn
    cases h : Nat.beq b c with
    | true => have := beq_of h; subst this; simp
    | false =>
      have := beq_ne h
      simp only [List.mem_cons, exists_eq_or_imp]
      rw [keyIn_iff]
      exact ⟨fun h => .inr h, fun h => h.resolve_left fun e => this e.symm⟩

theorem keyInH_iff {b : Nat} : ∀ {l : List (Nat × AObj)}, keyInH b l = true ↔ ∃ x ∈ l, x.1 = b
  | [] => by simp [keyInH]
  | (c, o) :: r => by
    unfold keyInH
    cases h : Nat.beq b c with
    | true => have := beq_of h; subst this; simp
    | false =>
      have := beq_ne h
      simp only [List.mem_cons, exists_eq_or_imp]
      rw [keyInH_iff]
      exact ⟨fun h => .inr h, fun h => h.resolve_left fun e => this e.symm⟩

theorem hOf_get : ∀ {l : List (Nat × AObj)}, (∀ x ∈ l, x.1 < 2 ^ 40) → ∀ b x, b < 2 ^ 40 → (hOf l).get (pos b) = some x → (b, x) ∈ l
  | [], _, b, x, _, h => by simp only [hOf, get_leaf] at h; cases h
  | (c, o) :: r, hl, b, x, hb, h => by
    simp only [hOf] at h
    by_cases e : b = c
    · subst e
      rw [get_set_same] at h
      cases h; exact List.mem_cons_self
    · rw [get_set_ne _ _ _ _ (fun q => e (pos_inj hb (hl _ List.mem_cons_self) q))] at h
      exact List.mem_cons_of_mem _ (hOf_get (fun y hy => hl y (List.mem_cons_of_mem _ hy)) b x hb h)

theorem over_get : ∀ {l : List (Nat × Option AObj)} {t : T AObj}, (∀ x ∈ l, x.1 < 2 ^ 40) → ∀ b, b < 2 ^ 40 → ((over t l).get (pos b) = t.get (pos b) ∧ ∀ x ∈ l, x.1 ≠ b) ∨ ∃ x ∈ l, x.1 = b ∧ (over t l).get (pos b) = x.2
  | [], t, _, b, _ => .inl ⟨rfl, fun x hx => by cases hx⟩
  | (c, o) :: r, t, hl, b, hb => by
    simp only [over]
    rcases over_get (l := r) (t := T.set o (pos c) t) (fun y hy => hl y (List.mem_cons_of_mem _ hy)) b hb with ⟨h1, h2⟩ | ⟨x, h1, h2, h3⟩
    · by_cases e : b = c
      · subst e
        rw [get_set_same] at h1
        exact .inr ⟨_, List.mem_cons_self, rfl, h1⟩
      · rw [get_set_ne _ _ _ _ (fun q => e (pos_inj hb (hl _ List.mem_cons_self) q))] at h1
        refine .inl ⟨h1, fun x hx => ?_⟩
        rcases List.mem_cons.1 hx with q | q
        · subst q; exact fun h => e h.symm
        · exact h2 x q
    · exact .inr ⟨x, List.mem_cons_of_mem _ h1, h2, h3⟩

theorem mutB_eq (x : AObj) : mutB x = x.mut := by cases x <;> rfl

mutual
theorem VR.restrict {m m' : M} {K : Nat → Bool} {σ : Nat → Nat} (hu : m unk = none) (hs : ∀ b, K b = true → b ≠ unk → σ b ≠ unk) (hK : ∀ b L, K b = true → m (σ b) = some L → m' b = some L) : ∀ (v : Value) {v' : Value}, VR m (ren σ v) v' → idsOk K v = true → VR m' v v'
  | .bool b, _, h, _ => by simp only [ren] at h; cases h; exact .bool _
  | .int k n, _, h, _ => by simp only [ren] at h; cases h; exact .int _ _
  | .float k n, _, h, _ => by simp only [ren] at h; cases h; exact .float _ _
  | .complex k a b, _, h, _ => by simp only [ren] at h; cases h; exact .complex _ _ _
  | .string s, _, h, _ => by simp only [ren] at h; cases h; exact .string _
  | .pointer none, _, h, _ => by simp only [ren] at h; cases h; exact .ptr0
  | .pointer (some ⟨b, i, s⟩), _, h, hi => by
    simp only [ren] at h
    simp only [idsOk] at hi
    cases h with
    | ptr _ _ L hm => exact .ptr b i L (hK b L hi hm)
  | .slice none n c, _, h, _ => by simp only [ren] at h; cases h; exact .sl0
  | .slice (some ⟨b, i, s⟩) n c, _, h, hi => by
    simp only [idsOk, Bool.or_eq_true] at hi
    simp only [ren] at h
    cases hb : Nat.beq b unk with
    | true =>
      have := beq_of hb; subst this
      rw [hb] at h
      simp only at h
      cases h with
      | sl _ _ _ _ cc L hm hn ht hq hc => rw [hu] at hm; cases hm
      | slE A _ cc hc => exact .slE A c cc hc
    | false =>
      rw [hb] at h hi
      simp only at h
      have hi : K b = true := hi.resolve_left (by simp)
      have hsu := hs b hi (beq_ne hb)
      generalize hσ : σ b = sb at h hsu
      cases h with
      | sl _ _ _ _ cc L hm hn ht hq hc => exact .sl b i n c cc L (hK b L hi (by rw [hσ]; exact hm)) hn ht hq hc
      | slE A _ cc hc => exact absurd rfl hsu
  | .map none, _, h, _ => by simp only [ren] at h; cases h; exact .map0
  | .map (some b), _, h, hi => by
    simp only [ren] at h
    simp only [idsOk] at hi
    cases h with
    | map _ L hm => exact .map b L (hK b L hi hm)
  | .chan r, _, h, _ => by simp only [ren] at h; cases h
  | .nilFunc, _, h, _ => by simp only [ren] at h; cases h; exact .func0
  | .func (.func f) ⟨a⟩ ⟨c⟩, _, h, hi => by
    simp only [ren] at h
    simp only [idsOk, Bool.and_eq_true] at hi
    cases h with
    | func _ _ _ a' b' ha hb => exact .func f a c a' b' (VRs.restrict hu hs hK a ha hi.1) (VRs.restrict hu hs hK c hb hi.2)
  | .func (.yield l) _ _, _, _, hi => by simp only [idsOk] at hi; cases hi
  | .func (.method _) _ _, _, _, hi => by simp only [idsOk] at hi; cases hi
  | .func (.methodOf _ _) _ _, _, _, hi => by simp only [idsOk] at hi; cases hi
  | .func (.via _ _ _ _) _ _, _, _, hi => by simp only [idsOk] at hi; cases hi
  | .iface t v, _, h, hi => by
    simp only [ren] at h
    simp only [idsOk] at hi
    cases h with
    | iface _ _ v' hv => exact .iface t v v' (VR.restrict hu hs hK v hv hi)
  | .nilIface, _, h, _ => by simp only [ren] at h; cases h; exact .iface0
  | .agg ⟨cs⟩, _, h, hi => by
    simp only [ren] at h
    simp only [idsOk] at hi
    cases h with
    | agg _ a' ha => exact .agg cs a' (VRs.restrict hu hs hK cs ha hi)
  | .tuple ⟨cs⟩, _, h, hi => by
    simp only [ren] at h
    simp only [idsOk] at hi
    cases h with
    | tuple _ a' ha => exact .tuple cs a' (VRs.restrict hu hs hK cs ha hi)
theorem VRs.restrict {m m' : M} {K : Nat → Bool} {σ : Nat → Nat} (hu : m unk = none) (hs : ∀ b, K b = true → b ≠ unk → σ b ≠ unk) (hK : ∀ b L, K b = true → m (σ b) = some L → m' b = some L) : ∀ (v : List Value) {v' : List Value}, VRs m (rens σ v) v' → idsOks K v = true → VRs m' v v'
  | [], _, h, _ => by simp only [rens] at h; cases h; exact .nil
  | v :: vs, _, h, hi => by
    simp only [rens] at h
    simp only [idsOks, Bool.and_eq_true] at hi
    cases h with
    | cons _ v' _ l' hv hl => exact .cons v v' vs l' (VR.restrict hu hs hK v hv hi.1) (VRs.restrict hu hs hK vs hl hi.2)
end

theorem ERs.restrict {m m' : M} {K : Nat → Bool} {σ : Nat → Nat} (hu : m unk = none) (hs : ∀ b, K b = true → b ≠ unk → σ b ≠ unk) (hK : ∀ b L, K b = true → m (σ b) = some L → m' b = some L) : ∀ (a : List MapEntry) {b : List MapEntry}, ERs m (renE σ a) b → (a.all fun e => idsOk K e.key && idsOk K e.val) = true → ERs m' a b
  | [], _, h, _ => by simp only [renE] at h; cases h; exact .nil
  | ⟨k, v, n⟩ :: es, _, h, hi => by
    simp only [renE] at h
    simp only [List.all_cons, Bool.and_eq_true] at hi
    cases h with
    | cons _ e' _ l' he hl =>
      cases he with
      | mk _ k' _ v' _ hk hv => exact .cons _ _ _ _ (.mk k k' v v' n (hk.restrict hu hs hK k hi.1.1) (hv.restrict hu hs hK v hi.1.2)) (ERs.restrict hu hs hK es hl (by simpa using hi.2))

theorem rens_length (σ : Nat → Nat) : ∀ l : List Value, (rens σ l).length = l.length
  | [] => rfl
  | _ :: vs => by simp only [rens, List.length_cons, rens_length σ vs]

theorem ObR.restrict {m m' : M} {w : World} {L : Loc} {K : Nat → Bool} {σ : Nat → Nat} (hu : m unk = none) (hs : ∀ b, K b = true → b ≠ unk → σ b ≠ unk) (hK : ∀ b L, K b = true → m (σ b) = some L → m' b = some L) {x : AObj} (h : ObR P E m w L (renO σ x)) (hx : objIds K x = true) : ObR P E m' w L x := by
  cases x with
  | row cs e rw =>
    obtain ⟨ccs, fz, h1, h2, h3, h4, h5, h6, h7⟩ := h
    exact ⟨ccs, fz, h1, h2, h3, by rw [← rens_length σ cs]; exact h4, h5, VRs.restrict hu hs hK cs h6 hx, h7⟩
  | map es c =>
    obtain ⟨ces, h1, h2⟩ := h
    exact ⟨ces, h1, ERs.restrict hu hs hK es h2 hx⟩
  | str s p => exact h
  | mapIt b since seen st =>
    obtain ⟨h0, Lb, h1, h2⟩ := h
    exact ⟨h0, Lb, hK _ _ hx h1, h2⟩
  | mapNil => exact h
  | loop tm ps asg body st pend => cases hx
  | defs => exact h

theorem renO_mut (σ : Nat → Nat) (x : AObj) : (renO σ x).mut = x.mut := by cases x <;> rfl

/-- A call that was run ahead. -/
theorem sm_sound {C : Ctx} (hC : CtxOk P E C) {n : Nat} (hx : ExOk P E (exec C n)) {s : Sm} (hchk : smChk s = true) (hrun : smRun C n s = true) {h : AH} {m : M} {w : World} {args' : List Value}
    (hnx : h.nx ≤ s.base) (hhas : hasAll h s.h = true) (rel : Rel P E m h w) (ha : VRs m s.args args') {nx : Nat} (hn : nx = if s.nx = 0 then h.nx else s.nx) {κ : KR} (cs : List Frame)
    (hk : κ (.ret s.v) ⟨over h.t s.g, nx⟩ = true) : CallFin P E s.f ⟨args'⟩ m h w κ cs := by
  simp only [smChk, Bool.and_eq_true] at hchk
  obtain ⟨⟨⟨⟨⟨⟨c1, c2⟩, c3⟩, c4⟩, c5⟩, c6⟩, c7⟩ := hchk
  have c1 := blt_of c1
  have c2 := blt_of c2
  have hb : ∀ x ∈ s.h, x.1 < s.base ∧ (x.2.mut = true → keyIn x.1 s.g = true) := by
    intro x hx
    have := (List.all_eq_true.1 c3) x hx
    simp only [Bool.and_eq_true, Bool.or_eq_true, Bool.not_eq_true', mutB_eq] at this
    refine ⟨blt_of this.1, fun hm => ?_⟩
    rcases this.2 with q | q
    · rw [hm] at q; cases q
    · exact q
  have hg : ∀ x ∈ s.g, x.1 < 2 ^ 40 ∧ (x.1 < s.base → keyInH x.1 s.h = true) ∧ (¬ x.1 < s.base → s.nx ≠ 0 ∧ ∀ y, x.2 = some y → y.mut = true) := by
    intro x hx
    have := (List.all_eq_true.1 c4) x hx
    simp only [Bool.and_eq_true] at this
    refine ⟨blt_of this.1, fun hl => ?_, fun hl => ?_⟩
    · have h1 : Nat.blt x.1 s.base = true := Nat.ble_eq_true_of_le hl
      have h2 := this.2
      rw [if_pos h1] at h2; exact h2
    · have h1 : ¬ Nat.blt x.1 s.base = true := fun q => hl (blt_of q)
      have h2 := this.2
      rw [if_neg h1] at h2
      simp only [Bool.and_eq_true, Bool.not_eq_true'] at h2
      refine ⟨fun q => beq_ne h2.1 q, fun y hy => ?_⟩
      have h3 := h2.2
      rw [hy] at h3
      rw [← mutB_eq]; exact h3
  have hbase : s.nx ≠ 0 → s.base ≤ s.nx ∧ ∀ b, keyIn b s.g = true → b < s.nx := by
    intro h0
    simp only [Bool.or_eq_true, Bool.and_eq_true] at c5
    rcases c5 with q | q
    · exact absurd (beq_of q) h0
    · refine ⟨ble_of q.1, fun b hb => ?_⟩
      obtain ⟨x, hx, ex⟩ := keyIn_iff.1 hb
      have := (List.all_eq_true.1 q.2) x hx
      rw [← ex]; exact blt_of this
  have hnxle : h.nx ≤ nx := by
    rw [hn]
    split
    · exact Nat.le_refl _
    · rename_i h0; exact Nat.le_trans hnx (hbase h0).1
  let hs : AH := ⟨hOf s.h, s.base⟩
  have hsub : ∀ b x, b < 2 ^ 40 → hs.get b = some x → h.get b = some x ∧ (b, x) ∈ s.h := by
    intro b x hb40 hx
    have hm := hOf_get (l := s.h) (fun y hy => by have := (hb y hy).1; omega) b x hb40 hx
    exact ⟨hasAll_get hhas _ hm, hm⟩
  have h40 : ∀ b L, m b = some L → b < 2 ^ 40 := fun b L hm => by have := (rel.lt b L hm).2; have := rel.nx; omega
  have rels : Rel P E m hs w := by
    refine ⟨fun b L x hm hx => rel.obj b L x hm (hsub b x (h40 b L hm) hx).1, fun b L hm => ⟨(rel.lt b L hm).1, Nat.lt_of_lt_of_le (rel.lt b L hm).2 hnx⟩, fun b b' L L' x x' hm hm' hx hx' hmut he => ?_, c1, rel.gl, rel.al⟩
    exact rel.inj b b' L L' x x' hm hm' (hsub b x (h40 b L hm) hx).1 (hsub b' x' (h40 b' L' hm') hx').1 hmut he
  obtain ⟨r, h2, m2, w2, e, q1, q2, q3, q4, q5⟩ := call_ok hC hx hrun ha rels cs
  cases q2 with
  | panic v v' hv => cases q1
  | ret u u' hv =>
  simp only [smEnd, smFit, Bool.and_eq_true] at q1
  obtain ⟨e2, ⟨⟨g1, g2⟩, e1⟩, e3⟩ := q1
  generalize hσl : smSg s u h2 = σl at g1 g2 e1 e3
  clear hσl
  have := veq_eq e1
  subst this
  let σ : Nat → Nat := sg σl
  have s1 : ∀ b, b < s.base → σ b = b := fun b hb => sg_out g1 hb
  have s2 : ∀ b, keyIn b s.g = true → ¬ b < s.base → (b, σ b) ∈ σl := by
    intro b hk hl
    obtain ⟨x, hx, ex⟩ := keyIn_iff.1 hk
    have := newIn_get g2 x hx (by rw [ex]; exact hl)
    rw [ex] at this
    exact inSg_sg this
  have s3 : ∀ b b', keyIn b s.g = true → keyIn b' s.g = true → σ b = σ b' → b = b' := by
    intro b b' hk hk' he
    by_cases hl : b < s.base
    · by_cases hl' : b' < s.base
      · rw [s1 b hl, s1 b' hl'] at he; exact he
      · have := (sg_new g1 _ (s2 b' hk' hl')).2.1
        rw [s1 b hl] at he
        simp only at this
        omega
    · by_cases hl' : b' < s.base
      · have := (sg_new g1 _ (s2 b hk hl)).2.1
        rw [s1 b' hl'] at he
        simp only at this
        omega
      · have := sg_inj g1 _ (s2 b hk hl) _ (s2 b' hk' hl') he
        exact congrArg Prod.fst this
  let m3 : M := fun b => if b < h.nx ∨ (keyIn b s.g = true ∧ s.nx ≠ 0) then m2 (σ b) else none
  have h3m : ∀ b L, m3 b = some L → m2 (σ b) = some L ∧ (b < h.nx ∨ (keyIn b s.g = true ∧ s.nx ≠ 0)) := by
    intro b L hm
    simp only [m3] at hm
    split at hm
    · rename_i hc; exact ⟨hm, hc⟩
    · cases hm
  have hm3 : ∀ b L, m2 (σ b) = some L → (b < h.nx ∨ (keyIn b s.g = true ∧ s.nx ≠ 0)) → m3 b = some L := by
    intro b L hm hc
    simp only [m3]
    rw [if_pos hc]; exact hm
  have hold : ∀ b, b < s.base → m2 (σ b) = m b := fun b hb => by rw [s1 b hb]; exact q4.ext b hb
  have hunk : m2 unk = none := by
    cases hq : m2 unk with
    | none => rfl
    | some L =>
      have := (q3.lt _ _ hq).2
      have := q3.nx
      unfold unk at *
      omega
  have hsu : ∀ b, (Nat.blt b s.base || keyIn b s.g) = true → b ≠ unk → σ b ≠ unk := by
    intro b hk hb
    by_cases hlt : b < s.base
    · rw [s1 b hlt]; exact hb
    · simp only [Bool.or_eq_true] at hk
      rcases hk with hk | hk
      · exact absurd (blt_of hk) hlt
      · exact (sg_new g1 _ (s2 b hk hlt)).2.2
  have hK : ∀ b L, (Nat.blt b s.base || keyIn b s.g) = true → m2 (σ b) = some L → m3 b = some L := by
    intro b L hk hm
    simp only [Bool.or_eq_true] at hk
    by_cases hlt : b < s.base
    · have hm' := hm
      rw [hold b hlt] at hm'
      exact hm3 b L hm (.inl (rel.lt b L hm').2)
    · rcases hk with hk | hk
      · exact absurd (blt_of hk) hlt
      · obtain ⟨x, hx, ex⟩ := keyIn_iff.1 hk
        exact hm3 b L hm (.inr ⟨hk, ((hg x hx).2.2 (by rw [ex]; exact hlt)).1⟩)
  have hle : Le m m3 := fun b L hm => hm3 b L ((hold b (Nat.lt_of_lt_of_le (rel.lt b L hm).2 hnx)).trans hm) (.inl (rel.lt b L hm).2)
  -- what is there afterwards
  let h3 : AH := ⟨over h.t s.g, nx⟩
  have hget : ∀ b x, b < 2 ^ 40 → h3.get b = some x → (h.get b = some x ∧ keyIn b s.g = false) ∨ (keyIn b s.g = true ∧ h2.get (σ b) = some (renO σ x) ∧ objIds (fun b => Nat.blt b s.base || keyIn b s.g) x = true ∧ (¬ b < s.base → x.mut = true)) := by
    intro b x hb40 hx
    rcases over_get (l := s.g) (t := h.t) (fun y hy => (hg y hy).1) b hb40 with ⟨g1, g2⟩ | ⟨y, g1, g2, g3⟩
    · refine .inl ⟨g1.symm.trans hx, ?_⟩
      cases hq : keyIn b s.g with
      | false => rfl
      | true =>
        obtain ⟨y, hy, ey⟩ := keyIn_iff.1 hq
        exact absurd ey (g2 y hy)
    · have hy : y.2 = some x := g3.symm.trans hx
      refine .inr ⟨keyIn_iff.2 ⟨y, g1, g2⟩, ?_, ?_, fun hl => ((hg y g1).2.2 (by rw [g2]; exact hl)).2 x hy⟩
      · have := isThere_get e3 y g1 x hy
        rw [g2] at this; exact this
      · have := (List.all_eq_true.1 c7) y g1
        rw [hy] at this; exact this
  have hmut : ∀ b x, b < 2 ^ 40 → hs.get b = some x → x.mut = true → keyIn b s.g = true := by
    intro b x hb40 hx hm
    exact (hb _ (hsub b x hb40 hx).2).2 hm
  -- a block that is not named in the summary is as it was
  have hkeep : ∀ b L x, m b = some L → h.get b = some x → keyIn b s.g = false → w2.heap[L.blk]? = w.heap[L.blk]? := by
    intro b L x hm hx hkn
    refine q4.keep L.blk (rel.lt b L hm).1 fun c Lc xc hc hxc hmc he => ?_
    have hxc' := (hsub c xc (h40 c Lc hc) hxc).1
    have := rel.inj c b Lc L xc x hc hm hxc' hx hmc he
    subst this
    rw [hmut c xc (h40 c Lc hc) hxc hmc] at hkn; cases hkn
  have lt40 : ∀ b L, m3 b = some L → b < 2 ^ 40 := by
    intro b L hm
    rcases (h3m b L hm).2 with q | ⟨q, _⟩
    · have := rel.nx; omega
    · obtain ⟨x, hx, ex⟩ := keyIn_iff.1 q
      have := (hg x hx).1
      omega
  have mold : ∀ b L, m3 b = some L → keyIn b s.g = false → m b = some L := by
    intro b L hm hkn
    obtain ⟨g1, g2⟩ := h3m b L hm
    rcases g2 with g2 | ⟨g2, _⟩
    · rw [← hold b (Nat.lt_of_lt_of_le g2 hnx)]; exact g1
    · rw [hkn] at g2; cases g2
  have rel3 : Rel P E m3 h3 w2 := by
    refine ⟨?_, ?_, ?_, ?_, rel.gl.mono hle, fun b L hm => q3.al (σ b) L (h3m b L hm).1⟩
    · intro b L x hm hx
      rcases hget b x (lt40 b L hm) hx with ⟨g1, g2⟩ | ⟨g1, g2, g3, _⟩
      · have hmo := mold b L hm g2
        exact (rel.obj b L x hmo g1).keep (hkeep b L x hmo g1 g2) hle
      · exact (q3.obj (σ b) L _ (h3m b L hm).1 g2).restrict hunk hsu hK g3
    · intro b L hm
      obtain ⟨g1, g2⟩ := h3m b L hm
      refine ⟨(q3.lt (σ b) L g1).1, ?_⟩
      show b < nx
      rcases g2 with g2 | ⟨gk, g2⟩
      · exact Nat.lt_of_lt_of_le g2 hnxle
      · rw [hn, if_neg g2]
        exact (hbase g2).2 b gk
    · -- an old block that is not named, and a named one
      have cross : ∀ b b' L L' x x', m3 b = some L → m3 b' = some L' → keyIn b s.g = true → h2.get (σ b) = some (renO σ x) → (¬ b < s.base → x.mut = true) → keyIn b' s.g = false → h.get b' = some x' → (x.mut = true ∨ x'.mut = true) → L.blk = L'.blk → False := by
        intro b b' L L' x x' hm hm' hkb hx hnew hkb' hx' hmm he
        have hmo' := mold b' L' hm' hkb'
        have hlt' := (rel.lt b' L' hmo').1
        by_cases hxm : x.mut = true
        · obtain ⟨b0, L0, x0, g1, g2, g3, g4⟩ := q4.foot (σ b) L _ (h3m b L hm).1 hx (by rw [renO_mut]; exact hxm) (by omega)
          have g2' := (hsub b0 x0 (h40 b0 L0 g1) g2).1
          have := rel.inj b0 b' L0 L' x0 x' g1 hmo' g2' hx' g3 (g4.trans he)
          subst this
          rw [hmut b0 x0 (h40 b0 L0 g1) g2 g3] at hkb'; cases hkb'
        · have hx'm := hmm.resolve_left hxm
          have hlt : b < s.base := by
            rcases Nat.lt_or_ge b s.base with q | q
            · exact q
            · exact absurd (hnew (by omega)) hxm
          obtain ⟨g1, _⟩ := h3m b L hm
          rw [hold b hlt] at g1
          obtain ⟨y, hy, ey⟩ := keyIn_iff.1 hkb
          obtain ⟨z, hz, ez⟩ := keyInH_iff.1 ((hg y hy).2.1 (by rw [ey]; exact hlt))
          have hzg := hasAll_get hhas z hz
          rw [ez, ey] at hzg
          have := rel.inj b' b L' L x' z.2 hmo' g1 hx' hzg hx'm he.symm
          subst this
          rw [hkb] at hkb'; cases hkb'
      intro b b' L L' x x' hm hm' hx hx' hmt he
      rcases hget b x (lt40 b L hm) hx with ⟨g1, g2⟩ | ⟨g1, g2, _, g4⟩
      · rcases hget b' x' (lt40 b' L' hm') hx' with ⟨k1, k2⟩ | ⟨k1, k2, _, k4⟩
        · exact rel.inj b b' L L' x x' (mold b L hm g2) (mold b' L' hm' k2) g1 k1 hmt he
        · exact (cross b' b L' L x' x hm' hm k1 k2 k4 g2 g1 (.inr hmt) he.symm).elim
      · rcases hget b' x' (lt40 b' L' hm') hx' with ⟨k1, k2⟩ | ⟨k1, k2, _, k4⟩
        · exact (cross b b' L L' x x' hm hm' g1 g2 g4 k2 k1 (.inl hmt) he).elim
        · exact s3 b b' g1 k1 (q3.inj (σ b) (σ b') L L' _ _ (h3m b L hm).1 (h3m b' L' hm').1 g2 k2 (by rw [renO_mut]; exact hmt) he)
    · show nx < 2 ^ 40
      rw [hn]
      split
      · exact rel.nx
      · exact c2
  have ev3 : Ev m h w m3 h3 w2 := by
    refine ⟨?_, hnxle, q4.os, q4.tape, q4.output, q4.size, ?_, ?_⟩
    · intro b hb'
      simp only [m3]
      rw [if_pos (.inl hb')]
      exact hold b (Nat.lt_of_lt_of_le hb' hnx)
    · intro B hB hf
      refine q4.keep B hB fun b L x hm hx hmt => ?_
      exact hf b L x hm (hsub b x (h40 b L hm) hx).1 hmt
    · intro b L x hm hx hmt hlt
      rcases hget b x (lt40 b L hm) hx with ⟨g1, g2⟩ | ⟨g1, g2, _, _⟩
      · exact ⟨b, L, x, mold b L hm g2, g1, hmt, rfl⟩
      · obtain ⟨b0, L0, x0, k1, k2, k3, k4⟩ := q4.foot (σ b) L _ (h3m b L hm).1 g2 (by rw [renO_mut]; exact hmt) hlt
        exact ⟨b0, L0, x0, k1, (hsub b0 x0 (h40 b0 L0 k1) k2).1, k3, k4⟩
  exact ⟨.ret s.v, h3, m3, w2, .returned u', hk, .ret _ _ (VR.restrict hunk hsu hK s.v hv c6), rel3, ev3, q5⟩

end Go.Abs

/- The context of the interpreter, out of tables. -/
namespace Go.Abs
variable {P : Program} {E : Env}

/-- What the numbers of the functions without a body must be. -/
structure XtOk (P : Program) (E : Env) (X : Xt) : Prop where
  idx : ∃ F, P.funcs[X.idx]? = some F ∧ F.body = none ∧ (F.name == "runtime.NumGoroutine") = false ∧ Extern.findNext F = none ∧ Extern.find F = some Extern.BytealgIndexByte.indexByte
  cnt : ∃ F, P.funcs[X.cnt]? = some F ∧ F.body = none ∧ (F.name == "runtime.NumGoroutine") = false ∧ Extern.findNext F = none ∧ Extern.find F = some Extern.BytealgCount.count
  esc : ∃ F, P.funcs[X.esc]? = some F ∧ F.body = none ∧ (F.name == "runtime.NumGoroutine") = false ∧ Extern.findNext F = none ∧ Extern.find F = some Extern.AbiNoEscape.same
  mnz : ∃ F t, P.funcs[X.mnz]? = some F ∧ F.body = none ∧ (F.name == "runtime.NumGoroutine") = false ∧ Extern.findNext F = none ∧ Extern.find F = some (Extern.BytealgMakeNoZero.makeNoZero F.params F.resultTypes) ∧
    F.resultTypes = #[t] ∧ P.underlying t = some (.slice X.u8) ∧ P.cellsOf X.u8 = 1

theorem run_mark {α : Type} (mk : Mark) (k : Sem α) (w : World) : (Sem.mark mk k).run P w = k.run P w := rfl

theorem andThen_of {α β : Type} {r : Result α} {a : α} {w : World} {f : α → World → Result β} (h : r = .ok a w) : r.andThen f = f a w := by rw [h]; rfl

theorem run_extern {f : Nat} {F : Func} {s : Array Value → Sem Value} (h1 : P.funcs[f]? = some F) (h2 : F.body = none) (h3 : (F.name == "runtime.NumGoroutine") = false) (h4 : Extern.findNext F = none) (h5 : Extern.find F = some s) (args : Array Value)
    {w w' : World} {v : Value} (hr : (s args).run P w = .ok v w') : (callFunc f args).run P w = .ok (.value v) w' := by
  have h3' : F.name ≠ "runtime.NumGoroutine" := by simpa using h3
  simp [callFunc, h1, h2, h3', h4, h5, mark, hr, run_mark]

theorem pureSm_ok {f : Nat} {F : Func} {s : Array Value → Sem Value} (h1 : P.funcs[f]? = some F) (h2 : F.body = none) (h3 : (F.name == "runtime.NumGoroutine") = false) (h4 : Extern.findNext F = none) (h5 : Extern.find F = some s)
    {args : List Value} {h h' : AH} {v : Value} (hs : pureSm P (s ⟨args⟩) args h = some (v, h')) {m : M} {w : World} {args' : List Value} (rel : Rel P E m h w) (ha : VRs m args args') {κ : KR} (cs : List Frame) (hk : κ (.ret v) h' = true) :
    CallFin P E f ⟨args'⟩ m h w κ cs := by
  unfold pureSm at hs
  split at hs
  · cases hs
  · rename_i hna
    have := noAddrs_eq ha hna
    subst this
    split at hs
    · rename_i u hu
      split at hs
      · rename_i hnv
        cases hs
        exact ⟨.ret v, h, m, w, .returned v, hk, .ret _ _ (noAddr_refl m v hnv), rel, Ev.refl _ _ _, .inl ⟨v, rfl, run_extern h1 h2 h3 h4 h5 _ (pureRun_run hu w)⟩⟩
      · cases hs
    · cases hs

theorem digits_size : ∀ (n t : Nat) (acc : Array Value), (Extern.BytealgMakeNoZero.digits n t acc).size = acc.size + n
  | 0, _, _ => rfl
  | n + 1, t, acc => by simp only [Extern.BytealgMakeNoZero.digits, digits_size n, Array.size_push]; omega

theorem ext_ok {X : Xt} (hX : XtOk P E X) {f : Nat} {args : List Value} {h h' : AH} {v : Value} (hs : extSm P X f args h = some (v, h')) {m : M} {w : World} {args' : List Value} (rel : Rel P E m h w) (ha : VRs m args args') {κ : KR} (cs : List Frame)
    (hk : κ (.ret v) h' = true) : CallFin P E f ⟨args'⟩ m h w κ cs := by
  unfold extSm at hs
  split at hs
  · rename_i hb
    have := beq_of hb; subst this
    obtain ⟨F, h1, h2, h3, h4, h5⟩ := hX.idx
    exact pureSm_ok h1 h2 h3 h4 h5 hs rel ha cs hk
  split at hs
  · rename_i hb
    have := beq_of hb; subst this
    obtain ⟨F, h1, h2, h3, h4, h5⟩ := hX.cnt
    exact pureSm_ok h1 h2 h3 h4 h5 hs rel ha cs hk
  split at hs
  · rename_i hb
    have := beq_of hb; subst this
    obtain ⟨F, h1, h2, h3, h4, h5⟩ := hX.esc
    split at hs
    · rename_i u
      cases hs
      cases ha with
      | cons _ v' _ _ hv hl =>
        cases hl
        exact ⟨.ret v, h, m, w, .returned v', hk, .ret _ _ hv, rel, Ev.refl _ _ _, .inl ⟨v', rfl, run_extern h1 h2 h3 h4 h5 _ (by rfl)⟩⟩
    · cases hs
  split at hs
  · rename_i hb
    have := beq_of hb; subst this
    obtain ⟨F, t, h1, h2, h3, h4, h5, h6, h7, h8⟩ := hX.mnz
    split at hs
    · rename_i n
      split at hs
      · rename_i hc
        simp only [Bool.and_eq_true] at hc
        have hn := ble_of hc.1
        have hx := blt_of hc.2
        rw [natK_eq] at hs
        simp only [Option.some.injEq, Prod.mk.injEq] at hs
        obtain ⟨rfl, rfl⟩ := hs
        cases ha with
        | cons _ v' _ _ hv hl =>
          cases hl
          have hv' : v' = .int .i64 (.ofNat n) := (noAddr_eq hv rfl).symm
          subst hv'
          let q1 : Question := .appendCap n 0 X.u8
          let c0 := q1.cut (w.tape w.drawn q1)
          have hc0 : n ≤ c0 := Nat.le_add_right _ _
          let q2 : Question := .extern "internal/bytealg.MakeNoZero.bytes" 0
          let b0 := q2.cut (w.drew.tape w.drew.drawn q2)
          let o : Obj := .cells (Extern.BytealgMakeNoZero.digits c0 b0 #[]) X.u8
          let w2 : World := w.drew.drew.alloc o
          have hsz : (Extern.BytealgMakeNoZero.digits c0 b0 #[]).size = c0 := by rw [digits_size]; simp
          obtain ⟨r, ev, le⟩ := rel_new (L := ⟨w.heap.size, 0, c0, 1, 0⟩) (x := .row [] X.u8 true) (o := o) (w' := w2) rel (by omega) rfl rfl rfl rfl rfl rfl
            (fun hle => ⟨Extern.BytealgMakeNoZero.digits c0 b0 #[], (0, 0), by show (w.heap.push _)[w.heap.size]? = _; simp [o], hsz, h8, rfl, by show 0 + 0 ≤ c0; omega, by simp; exact .nil, fun _ j _ _ => by simp⟩)
          refine ⟨.ret _, _, _, w2, .returned (.slice (some ⟨w.heap.size, 0, none⟩) n c0), hk, .ret _ _ ?_, r, ev, .inl ⟨_, rfl, run_extern h1 h2 h3 h4 h5 _ ?_⟩⟩
          · have := VR.sl (m := upd m h.nx ⟨w.heap.size, 0, c0, 1, 0⟩) h.nx 0 n unk c0 _ (upd_same _ _ _) hc0 (by show 0 + 0 + c0 * 1 ≤ c0; omega) (fun _ => by show 0 ≤ 0 + c0 * 1; omega) (fun e => absurd rfl e)
            exact this
          · have f1 : q1.forced = false := rfl
            have f2 : q2.forced = false := rfl
            have hask : ∀ (w : World), (askRoom c0).run P w = .ok () w := by
              intro w
              unfold askRoom
              split
              · rfl
              · rfl
            have hu : (underlying t).run P w = .ok (.slice X.u8) w := by simp [underlying, h7]
            rw [h6]
            show Sem.run P (underlying t >>= _) w = _
            rw [Sem.run_bind, hu, Result.andThen_ok]
            have hneg : ¬ ((decide (Int.ofNat n < 0) || decide (Int.ofNat n > 2 ^ 48)) = true) := by
              have h0 : (Int.ofNat n : Int) = (n : Int) := rfl
              rw [h0]
              simp
              omega
            dsimp only
            rw [if_neg hneg]
            show Sem.run P (choose q1 >>= _) w = _
            simp only [Sem.run_bind, run_choose, f1, Result.andThen_ok, Bool.false_eq_true, if_false]
            refine (andThen_of (hask _)).trans ?_
            rfl
      · cases hs
    · cases hs
  · cases hs

end Go.Abs

/- Tables: from lists. -/
namespace Go.Abs
variable {P : Program} {E : Env}

theorem treeOf_get {α : Type} : ∀ {l : List (Nat × α)}, (∀ x ∈ l, x.1 < 2 ^ 40) → ∀ b x, b < 2 ^ 40 → (treeOf l).get (pos b) = some x → (b, x) ∈ l
  | [], _, b, x, _, h => by simp only [treeOf, get_leaf] at h; cases h
  | (c, o) :: r, hl, b, x, hb, h => by
    simp only [treeOf] at h
    by_cases e : b = c
    · subst e
      rw [get_set_same] at h
      cases h; exact List.mem_cons_self
    · rw [get_set_ne _ _ _ _ (fun q => e (pos_inj hb (hl _ List.mem_cons_self) q))] at h
      exact List.mem_cons_of_mem _ (treeOf_get (fun y hy => hl y (List.mem_cons_of_mem _ hy)) b x hb h)

def numsOk {α : Type} (n : Nat) : List (Nat × α) → Bool
  | [] => true
  | x :: r => Nat.blt x.1 n && numsOk n r

theorem numsOk_of {α : Type} {n : Nat} : ∀ {l : List (Nat × α)}, numsOk n l = true → ∀ x ∈ l, x.1 < n
  | [], _, x, hx => by cases hx
  | y :: r, h, x, hx => by
    simp only [numsOk, Bool.and_eq_true] at h
    rcases List.mem_cons.1 hx with e | e
    · subst e; exact blt_of h.1
    · exact numsOk_of h.2 x e

/-- All of a list, one by one. -/
inductive Each {α : Type} (Q : α → Prop) : List α → Prop
  | nil : Each Q []
  | cons {x : α} {l : List α} (h : Q x) (hl : Each Q l) : Each Q (x :: l)

theorem Each.mem {α : Type} {Q : α → Prop} {l : List α} (h : Each Q l) : ∀ x ∈ l, Q x := by
  induction h with
  | nil => intro x hx; cases hx
  | cons h hl ih =>
    intro x hx
    rcases List.mem_cons.1 hx with e | e
    · subst e; exact h
    · exact ih x e

/-- A function of the table. -/
def FnIt (P : Program) (E : Env) (x : Nat × IFn) : Prop := ∃ F c, P.funcs[x.1]? = some F ∧ F.body = some c ∧ (F.name == "runtime.NumGoroutine") = false ∧ compFn E F = some x.2

theorem fnIt {i : Nat} {g : IFn} {F : Func} (h1 : P.funcs[i]? = some F) (h2 : compFn E F = some g) (h3 : (F.name == "runtime.NumGoroutine") = false) : FnIt P E (i, g) := by
  cases hb : F.body with
  | none => unfold compFn at h2; rw [hb] at h2; cases h2
  | some c => exact ⟨F, c, h1, hb, h3, h2⟩

theorem fn_of {l : List (Nat × IFn)} {t : T IFn} (ht : treeOf l = t) (hn : numsOk 65536 l = true) (h : Each (FnIt P E) l) : FnOk P E t := by
  intro f g hf hg
  subst ht
  have := treeOf_get (fun x hx => by have := numsOk_of hn x hx; omega) f g (by omega) hg
  exact h.mem _ this

/-- The zero of a type. -/
def zOf (ti : TI) : Option Value :=
  match isAggD ti.k with
  | true => some (.agg ⟨ti.zero⟩)
  | false => match ti.zero with
    | [v] => match oneCell v with
      | true => some v
      | false => none
    | _ => none

def TyIt (P : Program) (x : Nat × TI) : Prop :=
  P.underlying x.1 = some x.2.k ∧ ∃ i z, P.info? x.1 = some i ∧ i.size = x.2.size ∧ i.bytes = x.2.bytes ∧ i.zero = some z ∧ zOf x.2 = some z

theorem tyIt {t : Nat} {ti : TI} (h1 : P.underlying t = some ti.k) (h2 : (P.info? t).map (fun i => (i.size, i.bytes, i.zero)) = (zOf ti).map fun z => (ti.size, ti.bytes, some z)) (h3 : (zOf ti).isSome = true) : TyIt P (t, ti) := by
  refine ⟨h1, ?_⟩
  cases hz : zOf ti with
  | none => rw [hz] at h3; cases h3
  | some z =>
    rw [hz] at h2
    cases hi : P.info? t with
    | none => rw [hi] at h2; cases h2
    | some i =>
      rw [hi] at h2
      simp only [Option.map_some, Option.some.injEq, Prod.mk.injEq] at h2
      exact ⟨i, z, rfl, h2.1, h2.2.1, h2.2.2, rfl⟩

theorem ty_of {l : List (Nat × TI)} {t : T TI} (ht : treeOf l = t) (hn : numsOk 65536 l = true) (h : Each (TyIt P) l) (hE : ∀ k, E.ty k = match Nat.ble k 65535 with | true => t.get (pos k) | false => none) : TyOk P E.ty := by
  have key : ∀ k ti, E.ty k = some ti → TyIt P (k, ti) := by
    intro k ti hk
    rw [hE] at hk
    split at hk
    · rename_i hb
      have := ble_of hb
      subst ht
      exact h.mem _ (treeOf_get (fun x hx => by have := numsOk_of hn x hx; omega) k ti (by omega) hk)
    · cases hk
  refine ⟨fun k ti hk => (key k ti hk).1, fun k ti hk => ?_⟩
  obtain ⟨_, i, z, h1, h2, h3, h4, h5⟩ := key k ti hk
  refine ⟨i, z, h1, h2, h3, h4, ?_, ?_, ?_⟩
  · simp only [zOf] at h5
    split at h5
    · cases h5; rfl
    · split at h5
      · rename_i v hz
        split at h5
        · rename_i hv
          simp only [Option.some.injEq] at h5
          subst h5
          have hz : ti.zero = [v] := hz
          rw [hz]
          cases v <;> first | rfl | (cases hv; done)
        · cases h5
      · cases h5
  · intro ha
    simp only [zOf] at h5
    have ha : isAggD ti.k = true := ha
    rw [ha] at h5
    cases h5; rfl
  · intro ha
    simp only [zOf] at h5
    have ha : isAggD ti.k = false := ha
    rw [ha] at h5
    simp only at h5
    split at h5
    · rename_i v hz
      split at h5
      · cases h5; exact hz
      · cases h5
    · cases h5

/-- A call that was run ahead, and holds. -/
def SmIt (P : Program) (E : Env) (s : Sm) : Prop := smChk s = true ∧ ∃ C n, CtxOk P E C ∧ ExOk P E (exec C n) ∧ smRun C n s = true

theorem smIt (hm : P.follows .mixedOrders = true) {C : Ctx} (hC : CtxOk P E C) {n : Nat} {s : Sm} (h1 : smChk s = true) (h2 : smRun C n s = true) : SmIt P E s := ⟨h1, C, n, hC, exec_ok hm hC n, h2⟩

theorem pick_ok {f : Nat} : ∀ {l : List Sm}, (∀ s ∈ l, SmIt P E s) → ∀ {args : List Value} {h h' : AH} {v : Value}, pick f l args h = some (v, h') → ∀ {m : M} {w : World} {args' : List Value}, Rel P E m h w → VRs m args args' → ∀ {κ : KR} (cs : List Frame), κ (.ret v) h' = true →
    CallFin P E f ⟨args'⟩ m h w κ cs
  | [], _, args, h, h', v, hp, _, _, _, _, _, _, _, _ => by simp [pick] at hp
  | s :: ss, hall, args, h, h', v, hp, m, w, args', rel, ha, κ, cs, hk => by
    have rec_ : pick f ss args h = some (v, h') → CallFin P E f ⟨args'⟩ m h w κ cs := fun hp => pick_ok (fun s hs => hall s (List.mem_cons_of_mem _ hs)) hp rel ha cs hk
    simp only [pick] at hp
    split at hp
    · exact rec_ hp
    · rename_i hc
      simp only [Bool.and_eq_true] at hc
      have := beq_of hc.1; subst this
      have := veqs_eq hc.2; subst this
      split at hp
      · exact rec_ hp
      · rename_i hnx
        split at hp
        · exact rec_ hp
        · rename_i hhas
          obtain ⟨h1, C, n, hC, hx, h2⟩ := hall s List.mem_cons_self
          split at hp
          · rename_i h0
            have h0 := beq_of h0
            cases hp
            exact sm_sound hC hx h1 h2 (ble_of hnx) hhas rel ha (nx := h.nx) (by rw [if_pos h0]) cs hk
          · rename_i h0
            have h0 := beq_ne h0
            cases hp
            exact sm_sound hC hx h1 h2 (ble_of hnx) hhas rel ha (nx := s.nx) (by rw [if_neg h0]) cs hk

theorem sm_of {X : Xt} (hX : XtOk P E X) {l : List (Nat × List Sm)} {t : T (List Sm)} (ht : treeOf l = t) (hn : numsOk 65536 l = true) (h : Each (fun x => Each (SmIt P E) x.2) l) : SmOk P E (allSm P X t) := by
  intro f args h1 v h' hs m w args' rel ha κ cs hk
  unfold allSm at hs
  split at hs
  · rename_i r hr
    cases hs
    unfold tabSm at hr
    split at hr
    · cases hr
    · rename_i hb
      have := ble_of hb
      split at hr
      · cases hr
      · rename_i l' hl
        subst ht
        have := treeOf_get (fun x hx => by have := numsOk_of hn x hx; omega) f l' (by omega) hl
        exact pick_ok (fun s hs => (h.mem _ this).mem s hs) hr rel ha cs hk
  · rename_i hr
    exact ext_ok hX hs rel ha cs hk

end Go.Abs
