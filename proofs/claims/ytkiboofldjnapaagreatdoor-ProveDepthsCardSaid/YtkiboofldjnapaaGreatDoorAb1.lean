/- AN INTERPRETER FOR THE MODEL's FUNCTIONS: its data, its operations, the interpreter, the compiler from the model's code, summaries of calls. -/
import Derived.Calls
import Derived.Defers
set_option linter.unusedSimpArgs false
set_option linter.unusedVariables false

/- The code of an interpreter for the model's functions: its data. -/
namespace Go.Abs
noncomputable section

/-- A place in a tree. -/
inductive Pos where
  | h
  | o (p : Pos)
  | i (p : Pos)

/-- A tree with places. -/
inductive T (α : Type) where
  | leaf
  | node (l : T α) (v : Option α) (r : T α)

namespace T
variable {α : Type}

/-- Written by recursors: so the kernel is quick. -/
def get : Pos → T α → Option α := fun p =>
  Pos.rec (motive := fun _ => T α → Option α)
    (fun t => T.rec (motive := fun _ => Option α) none (fun _ v _ _ _ => v) t)
    (fun _ ih t => T.rec (motive := fun _ => Option α) none (fun l _ _ _ _ => ih l) t)
    (fun _ ih t => T.rec (motive := fun _ => Option α) none (fun _ _ r _ _ => ih r) t) p

def set (v : Option α) : Pos → T α → T α
  | .h, .leaf => .node .leaf v .leaf
  | .h, .node l _ r => .node l v r
  | .o p, .leaf => .node (set v p .leaf) none .leaf
  | .o p, .node l x r => .node (set v p l) x r
  | .i p, .leaf => .node .leaf none (set v p .leaf)
  | .i p, .node l x r => .node l x (set v p r)

/-- The same, with what is done next. -/
def setK {β : Type} (v : Option α) : Pos → T α → (T α → β) → β := fun p =>
  Pos.rec (motive := fun _ => T α → (T α → β) → β)
    (fun t κ => T.rec (motive := fun _ => β) (κ (.node .leaf v .leaf)) (fun l _ r _ _ => κ (.node l v r)) t)
    (fun _ ih t κ => T.rec (motive := fun _ => β) (ih .leaf fun l => κ (.node l none .leaf)) (fun l x r _ _ => ih l fun l => κ (.node l x r)) t)
    (fun _ ih t κ => T.rec (motive := fun _ => β) (ih .leaf fun r => κ (.node .leaf none r)) (fun l x r _ _ => ih r fun r => κ (.node l x r)) t) p

section
variable {β : Type} (v x : Option α) (l r : T α) (p : Pos) (κ : T α → β)
theorem get_leaf_h : get .h (.leaf : T α) = none := rfl
theorem get_h : get .h (.node l x r) = x := rfl
theorem get_leaf_o : get (.o p) (.leaf : T α) = none := rfl
theorem get_o : get (.o p) (.node l x r) = get p l := rfl
theorem get_leaf_i : get (.i p) (.leaf : T α) = none := rfl
theorem get_i : get (.i p) (.node l x r) = get p r := rfl
theorem setK_leaf_h : setK v .h .leaf κ = κ (.node .leaf v .leaf) := rfl
theorem setK_h : setK v .h (.node l x r) κ = κ (.node l v r) := rfl
theorem setK_leaf_o : setK v (.o p) .leaf κ = setK v p .leaf fun l => κ (.node l none .leaf) := rfl
theorem setK_o : setK v (.o p) (.node l x r) κ = setK v p l fun l => κ (.node l x r) := rfl
theorem setK_leaf_i : setK v (.i p) .leaf κ = setK v p .leaf fun r => κ (.node .leaf none r) := rfl
theorem setK_i : setK v (.i p) (.node l x r) κ = setK v p r fun r => κ (.node l x r) := rfl
end

end T

/-- The place of a number. -/
def posF : Nat → Nat → Pos
  | 0, _ => .h
  | n + 1, k =>
    match Nat.beq k 0 with
    | true => .h
    | false => match Nat.beq (Nat.mod k 2) 1 with
      | true => .o (posF n (Nat.div k 2))
      | false => .i (posF n (Nat.sub (Nat.div k 2) 1))

def pos (k : Nat) : Pos := posF 40 k

/-- A number in its normal form. -/
def natK {β : Type} (n : Nat) (κ : Nat → β) : β :=
  match n with
  | 0 => κ 0
  | m + 1 => κ (Nat.succ m)

/-- What is known of a type. -/
structure TI where
  k : TypeDesc
  zero : List Value
  size : Nat
  bytes : Nat

/-- An operand: a temporary, or a value. -/
inductive Opd where
  | t (p : Pos)
  | c (v : Value)

/-- Operations. -/
inductive IK where
  | mv (x : Opd)
  | pick (c a b : Opd)
  | alloc (e : TypeId) (z : List Value)
  | box (e : TypeId) (x : Opd)
  | build (z : List Value) (ps : List (Nat × Nat × Opd))
  | bslice (e : TypeId) (z : List Value) (n : Nat) (ps : List (Nat × Nat × Opd))
  | ld1 (a : Opd)
  | ldn (n : Nat) (a : Opd)
  | st (n : Nat) (a x : Opd)
  | nilchk (x : Opd)
  | add (x y : Opd) (o : Oper)
  | sub (x y : Opd) (o : Oper)
  | lss (x y : Opd) (o : Oper)
  | leq (x y : Opd) (o : Oper)
  | gtr (x y : Opd) (o : Oper)
  | geq (x y : Opd) (o : Oper)
  | eql (nk : Nat) (x y : Opd) (o : Oper)
  | neq (nk : Nat) (x y : Opd) (o : Oper)
  | not (x : Opd)
  | pure (xs : List (Operand × Opd)) (o : Oper)
  | cvPtr (size : Nat) (x : Opd)
  | cvBack (e : TypeId) (size : Nat) (x : Opd)
  | cvStr (x : Opd)
  | cvBytes (e : TypeId) (x : Opd)
  | mkIface (t : TypeId) (x : Opd)
  | mkFunc (f : FuncId) (a b : List Opd)
  | mkMap
  | mkSlice (e : TypeId) (z : List Value) (l c : Opd)
  | slStr (x : Opd) (lo hi : Option Opd)
  | slSl (e : TypeId) (s : Nat) (x : Opd) (lo hi mx : Option Opd)
  | fadr (off : Nat) (x : Opd)
  | fld1 (off : Nat) (x : Opd)
  | fldn (off n : Nat) (x : Opd)
  | ixAS (s : Nat) (x i : Opd)
  | ixAA (n s : Nat) (x i : Opd)
  | ixA1 (n s : Nat) (x i : Opd)
  | ixAn (n s : Nat) (x i : Opd)
  | ixStr (x i : Opd)
  | lookup (kt : TypeId) (z : Value) (m k : Opd) (ok : Bool)
  | mapUpd (kt : TypeId) (m k v : Opd)
  | mapEnt (kt : TypeId) (z : Value) (m k : Opd)
  | entSt (m s v : Opd)
  | rangeS (x : Opd)
  | rangeM (x : Opd)
  | nextS (it : Opd)
  | nextM (it : Opd)
  | entry (it : Opd)
  | tassert (a : TypeId) (z : Value) (ok : Bool) (x : Opd)
  | extr (x : Opd) (i : Nat)
  | call (f : Opd) (xs : List Opd)
  | callF (f : FuncId) (xs : List Opd)
  | append (e : TypeId) (s : Nat) (x y : Opd)
  | copy (e : TypeId) (s : Nat) (x y : Opd)
  | len (q : Nat) (x : Opd)
  | cap (x : Opd)
  | clear (mp : Bool) (e : TypeId) (z : List Value) (x : Opd)
  | sdata (x : Opd)
  | ustr (e : TypeId) (x n : Opd)
  | recover
  | defer (f : Opd) (xs : List Opd)
  | panic (x : Opd)
  | bad

/-- What a region that draws its order asks of an operation. -/
inductive Cls where
  | pure
  | read (n : Nat)
  | free (n : Nat)
  | big (re : List Nat)

structure IOp where
  dst : Option Pos
  g : Option (Pos × Bool)
  k : IK

inductive IC where
  | skip
  | reg (ops : List IOp)
  | draw (ops : List (Nat × IOp × Cls))
  | seq (a b : IC)
  | cond (c : Opd) (a b : IC)
  | block (id : Nat) (b : IC)
  | loop (b : IC)
  | rangeF (f : Opd) (ps : List Pos) (a b : IC)
  | exit (id : Nat)
  | scope (b : IC) (ls : List (Nat × IC))
  | goto (l : Nat)
  | ret
  | bad

inductive IRes where
  | t (p : Pos)
  | c1 (p : Pos)
  | cn (n : Nat) (p : Pos)

structure IFn where
  body : IC
  nt : Nat
  res : List IRes

/-- How a piece of code ends. -/
inductive AX where
  | normal
  | exit (id : Nat)
  | goto (l : Nat)
  | ret
  | panic (v : Value)

inductive AObj where
  | row (cs : List Value) (e : TypeId) (rw : Bool)
  | map (es : List MapEntry) (clock : Nat)
  | str (s : ByteArray) (pos : Nat)
  | mapIt (m : Nat) (since : Nat) (seen : List Nat) (stepped : Nat)
  | mapNil
  | loop (tm : T Value) (ps : List Pos) (asg body : IC) (state : LoopState) (pending : AX)
  | defs

structure AH where
  t : T AObj
  nx : Nat

def AH.get (h : AH) (b : Nat) : Option AObj := h.t.get (pos b)

inductive ADef where
  | call (f : FuncId) (args : List Value)
  | coll (b : Nat)

/-- May recover be called here, and of what? -/
inductive UM where
  | na
  | rnd
  | idle
  | pan (v : Value)
  | recd (v : Value)

structure St where
  tm : T Value
  df : List ADef
  um : UM
  h : AH

inductive CR where
  | ret (v : Value)
  | panic (v : Value)

end
end Go.Abs

/- The operations of the interpreter. Each is given what to do next. -/
namespace Go.Abs
noncomputable section

/-- A capacity that is not known. -/
def unk : Nat := 1267650600228229401496703205376

abbrev KV := Value → Bool
abbrev KH := Value → AH → Bool

mutual
def noAddr : Value → Bool
  | .bool _ | .int _ _ | .float _ _ | .complex _ _ _ | .string _ | .pointer none | .map none | .nilFunc | .nilIface => true
  | .slice none a b => Nat.beq a 0 && Nat.beq b 0
  | .iface _ v => noAddr v
  | .agg ⟨cs⟩ => noAddrs cs
  | .tuple ⟨cs⟩ => noAddrs cs
  | _ => false
def noAddrs : List Value → Bool
  | [] => true
  | v :: vs => noAddr v && noAddrs vs
end

/-- The answer of a computation that asks nothing of the world. -/
def pureRun (P : Program) {α : Type} : Sem α → Option α
  | .pure a => some a
  | .program k => pureRun P (k P)
  | .mark _ k => pureRun P k
  | _ => none

def tget (tm : T Value) (p : Pos) : Value := match tm.get p with | some v => v | none => undef

def evK (tm : T Value) (x : Opd) (κ : KV) : Bool :=
  match x with
  | .t p => match tm.get p with
    | some v => κ v
    | none => κ undef
  | .c v => κ v

def evsK (tm : T Value) : List Opd → (List Value → Bool) → Bool
  | [], κ => κ []
  | x :: xs, κ => evK tm x fun v => evsK tm xs fun vs => κ (v :: vs)

def evoK (tm : T Value) (x : Option Opd) (κ : Option Value → Bool) : Bool :=
  match x with
  | none => κ none
  | some x => evK tm x fun v => κ (some v)

def oneCell : Value → Bool
  | .agg _ | .tuple _ => false
  | _ => true

def cellsL (v : Value) : List Value :=
  match v with
  | .agg ⟨cs⟩ => cs
  | v => [v]

/-- n cells. -/
def takeK : Nat → List Value → (List Value → Bool) → Bool
  | 0, _, κ => κ []
  | _ + 1, [], _ => false
  | n + 1, v :: vs, κ => takeK n vs fun l => κ (v :: l)

/-- n cells from i on. -/
def segK : Nat → Nat → List Value → (List Value → Bool) → Bool
  | 0, n, cs, κ => takeK n cs κ
  | _ + 1, _, [], _ => false
  | i + 1, n, _ :: cs, κ => segK i n cs κ

/-- A list over which another one is laid. -/
def overK : List Value → List Value → (List Value → Bool) → Bool
  | cs, [], κ => κ cs
  | [], _ :: _, _ => false
  | _ :: cs, v :: vs, κ => overK cs vs fun l => κ (v :: l)

/-- The same from i on. -/
def spliceK : Nat → List Value → List Value → (List Value → Bool) → Bool
  | 0, cs, vs, κ => overK cs vs κ
  | _ + 1, [], _, _ => false
  | i + 1, c :: cs, vs, κ => spliceK i cs vs fun l => κ (c :: l)

def nthK : Nat → List Value → KV → Bool
  | _, [], _ => false
  | 0, v :: _, κ => κ v
  | i + 1, _ :: vs, κ => nthK i vs κ

def appK : List Value → List Value → (List Value → Bool) → Bool
  | [], l, κ => κ l
  | v :: vs, l, κ => appK vs l fun l => κ (v :: l)

def replK (z : List Value) : Nat → (List Value → Bool) → Bool
  | 0, κ => κ []
  | n + 1, κ => replK z n fun l => appK z l κ

def setObjK (h : AH) (b : Nat) (o : Option AObj) (κ : AH → Bool) : Bool :=
  T.setK o (pos b) h.t fun t => κ ⟨t, h.nx⟩

def newK (h : AH) (o : AObj) (κ : AH → Bool) : Bool :=
  match Nat.blt h.nx 1099511627775 with
  | false => false
  | true => T.setK (some o) (pos h.nx) h.t fun t => natK (Nat.succ h.nx) fun n => κ ⟨t, n⟩

/-- Parts of a struct, laid over its cells. -/
def fillK (tm : T Value) : List Value → List (Nat × Nat × Opd) → (List Value → Bool) → Bool
  | cs, [], κ => κ cs
  | cs, (off, size, x) :: rest, κ => evK tm x fun v =>
    match Nat.beq (cellsL v).length size with
    | false => false
    | true => spliceK off cs (cellsL v) fun cs => fillK tm cs rest κ

/-- An index: from 0 on, below n. -/
def idxK (v : Value) (n : Nat) (κ : Nat → Bool) : Bool :=
  match v with
  | .int _ (.ofNat i) => match Nat.blt i n with
    | true => κ i
    | false => false
  | _ => false

def bndK (v : Option Value) (d n : Nat) (κ : Nat → Bool) : Bool :=
  match v with
  | none => κ d
  | some v => idxK v (Nat.succ n) κ

def ptrK (v : Value) (κ : Nat → Nat → Bool) : Bool :=
  match v with
  | .pointer (some ⟨b, i, none⟩) => κ b i
  | _ => false

def rowK (h : AH) (b : Nat) (κ : List Value → TypeId → Bool → Bool) : Bool :=
  match h.get b with
  | some (.row cs e rw) => κ cs e rw
  | _ => false

def mapK (h : AH) (b : Nat) (κ : List MapEntry → Nat → Bool) : Bool :=
  match h.get b with
  | some (.map es c) => κ es c
  | _ => false

def ptrTo (b i : Nat) : Value := .pointer (some ⟨b, i, none⟩)

/-- Bytes of a row. -/
def bytesOf : List Value → Option (List UInt8)
  | [] => some []
  | .int .u8 n :: vs => match bytesOf vs with
    | some l => some (UInt8.ofNat n.toNat :: l)
    | none => none
  | _ => none

def ofBytes (l : List UInt8) : List Value := l.map fun c => .int .u8 c.toNat

/-- What is appended or copied: how many elements, which cells. -/
def srcK (s : Nat) (x : Value) (h : AH) (κ : Nat → List Value → Bool) : Bool :=
  match x with
  | .slice none _ _ => κ 0 []
  | .slice (some ⟨b, o, none⟩) n _ =>
    match Nat.beq n 0 with
    | true => κ 0 []
    | false => rowK h b fun cs _ _ => segK o (Nat.mul n s) cs fun l => κ n l
  | .string t => match Nat.beq s 1 with
    | true => κ t.size (ofBytes t.data.toList)
    | false => false
  | _ => false

def maxN : Nat := 16777216

def appendNew (e : TypeId) (h : AH) (n : Nat) (cs : List Value) (κ : KH) : Bool :=
  newK h (.row cs e true) fun h' => κ (.slice (some ⟨h.nx, 0, none⟩) n unk) h'

def appendAt (e : TypeId) (s : Nat) (b o len cap : Nat) (h : AH) (n : Nat) (new : List Value) (κ : KH) : Bool :=
  rowK h b fun cs e' rw =>
  match Nat.beq e e' with
  | false => false
  | true =>
    match Nat.beq cap unk with
    | true =>
      match rw, Nat.ble (Nat.add o (Nat.mul (Nat.add len n) s)) cs.length, Nat.beq (Nat.add o (Nat.mul len s)) cs.length with
      | true, true, _ =>
        spliceK (Nat.add o (Nat.mul len s)) cs new fun cs =>
        setObjK h b (some (.row cs e true)) fun h => natK (Nat.add len n) fun m => κ (.slice (some ⟨b, o, none⟩) m unk) h
      | true, false, true => match Nat.beq (Nat.mod o s) 0 with
        | false => false
        | true =>
        segK o (Nat.mul len s) cs fun old => appK old new fun cs =>
        setObjK h b none fun h => natK (Nat.add len n) fun m => appendNew e h m cs κ
      | _, _, _ => false
    | false =>
      match Nat.ble (Nat.add len n) cap, rw with
      | true, true =>
        spliceK (Nat.add o (Nat.mul len s)) cs new fun cs =>
        setObjK h b (some (.row cs e true)) fun h => natK (Nat.add len n) fun m => κ (.slice (some ⟨b, o, none⟩) m cap) h
      | false, _ =>
        segK o (Nat.mul len s) cs fun old => appK old new fun cs => natK (Nat.add len n) fun m => appendNew e h m cs κ
      | _, _ => false

def kAppend (e : TypeId) (s : Nat) (x y : Value) (h : AH) (κ : KH) : Bool :=
  srcK s y h fun n new =>
  match Nat.ble n maxN && new.all oneCell with
  | false => false
  | true =>
    match Nat.beq n 0 with
    | true => match x with
      | .slice _ _ _ => κ x h
      | _ => false
    | false =>
      match x with
      | .slice none _ _ => appendNew e h n new κ
      | .slice (some ⟨b, o, none⟩) len cap => match Nat.ble len maxN && Nat.blt b unk with
        | true => appendAt e s b o len cap h n new κ
        | false => false
      | _ => false

def minN (a b : Nat) : Nat := match Nat.ble a b with | true => a | false => b

def kCopy (e : TypeId) (s : Nat) (d x : Value) (h : AH) (κ : KH) : Bool :=
  srcK s x h fun n new =>
  match d with
  | .slice none _ _ => κ (.int .i64 (.ofNat 0)) h
  | .slice (some ⟨b, o, none⟩) len _ =>
    match minN n len with
    | k => match Nat.beq k 0 with
    | true => κ (.int .i64 (.ofNat 0)) h
    | false => rowK h b fun cs e' rw =>
      match rw && Nat.beq e e' && new.all oneCell with
      | false => false
      | true => takeK (Nat.mul k s) new fun new => spliceK o cs new fun cs =>
        setObjK h b (some (.row cs e' true)) fun h => κ (.int .i64 (.ofNat k)) h
  | _ => false

def kLen (q : Nat) (x : Value) (h : AH) (κ : KH) : Bool :=
  match x with
  | .string s => match q with
    | 0 => κ (.int .i64 (.ofNat s.size)) h
    | _ => false
  | .slice _ n _ => match q with
    | 1 => κ (.int .i64 (.ofNat n)) h
    | _ => false
  | .map none => match q with
    | 2 => κ (.int .i64 (.ofNat 0)) h
    | _ => false
  | .map (some b) => match q with
    | 2 => mapK h b fun es _ => κ (.int .i64 (.ofNat es.length)) h
    | _ => false
  | _ => false

def kCap (x : Value) (h : AH) (κ : KH) : Bool :=
  match x with
  | .slice none _ _ => κ (.int .i64 (.ofNat 0)) h
  | .slice (some _) _ c => match Nat.beq c unk with
    | true => false
    | false => κ (.int .i64 (.ofNat c)) h
  | _ => false

def keyOk (P : Program) (kt : TypeId) (k : Value) (es : List MapEntry) : Bool :=
  noAddr k && es.all (fun e => noAddr e.key) && (pureRun P (Instr.checkKey es.isEmpty 10000 kt k)).isSome && (pureRun P (Instr.checkKey false 10000 kt k)).isSome

/-- Which entry has a key. -/
def findK (P : Program) (kt : TypeId) (k : Value) (es : List MapEntry) (κ : Option (Nat × Value) → Bool) : Bool :=
  match keyOk P kt k es with
  | false => false
  | true => match pureRun P (Instr.findKey kt k es) with
    | some r => κ r
    | none => false

def okV (ok : Bool) (v : Value) (is : Bool) : Value :=
  match ok with
  | true => .tuple ⟨[v, .bool is]⟩
  | false => v

def kLookup (P : Program) (kt : TypeId) (z : Value) (ok : Bool) (m k : Value) (h : AH) (κ : KH) : Bool :=
  match m with
  | .map none => findK P kt k [] fun _ => κ (okV ok z false) h
  | .map (some b) => mapK h b fun es _ => findK P kt k es fun r =>
    match r with
    | some (_, v) => κ (okV ok v true) h
    | none => κ (okV ok z false) h
  | _ => false

def setEntry (f : MapEntry → MapEntry) : Nat → List MapEntry → (List MapEntry → Bool) → Bool
  | _, [], _ => false
  | 0, e :: es, κ => κ (f e :: es)
  | i + 1, e :: es, κ => setEntry f i es fun es => κ (e :: es)

def pushEntry (x : MapEntry) : List MapEntry → (List MapEntry → Bool) → Bool
  | [], κ => κ [x]
  | e :: es, κ => pushEntry x es fun es => κ (e :: es)

def sameKey (i : Nat) (k : Value) (es : List MapEntry) : Bool :=
  match es[i]? with
  | some e => Instr.sameBits 10000 e.key k
  | none => false

def kMapUpd (P : Program) (kt : TypeId) (m k v : Value) (h : AH) (κ : KH) : Bool :=
  match m with
  | .map (some b) => mapK h b fun es c => findK P kt k es fun r =>
    match r with
    | some (i, _) => match sameKey i k es with
      | false => false
      | true => setEntry (fun e => ⟨k, v, e.born⟩) i es fun es => setObjK h b (some (.map es c)) fun h => κ undef h
    | none => pushEntry ⟨k, v, c⟩ es fun es => setObjK h b (some (.map es (Nat.succ c))) fun h => κ undef h
  | _ => false

def kMapEnt (P : Program) (kt : TypeId) (z : Value) (m k : Value) (h : AH) (κ : KH) : Bool :=
  match m with
  | .map (some b) => mapK h b fun es c => findK P kt k es fun r =>
    match r with
    | some (i, v) => match sameKey i k es, es[i]? with
      | true, some e => setEntry (fun e => ⟨k, e.val, e.born⟩) i es fun es =>
        setObjK h b (some (.map es c)) fun h => κ (.tuple ⟨[v, .int .i64 (.ofNat e.born)]⟩) h
      | _, _ => false
    | none => pushEntry ⟨k, z, c⟩ es fun es =>
      setObjK h b (some (.map es (Nat.succ c))) fun h => κ (.tuple ⟨[z, .int .i64 (.ofNat c)]⟩) h
  | _ => false

def kEntSt (m s v : Value) (h : AH) (κ : KH) : Bool :=
  match m, s with
  | .map (some b), .int _ (.ofNat born) => mapK h b fun es c =>
    match es.findIdx? (fun e => Nat.beq e.born born) with
    | some i => setEntry (fun e => ⟨e.key, v, e.born⟩) i es fun es => setObjK h b (some (.map es c)) fun h => κ undef h
    | none => false
  | _, _ => false

def kRangeM (x : Value) (h : AH) (κ : KH) : Bool :=
  match x with
  | .map none => newK h .mapNil fun h' => κ (ptrTo h.nx 0) h'
  | .map (some b) => mapK h b fun _ c => newK h (.mapIt b c [] c) fun h' => κ (ptrTo h.nx 0) h'
  | _ => false

def kNextS (it : Value) (h : AH) (κ : KH) : Bool :=
  match it with
  | .pointer (some ⟨r, 0, none⟩) =>
    match h.get r with
    | some (.str s p) =>
      match Nat.blt p s.size with
      | true => match Utf8.decode s p with
        | (c, w) => natK (Nat.add p w) fun q => setObjK h r (some (.str s q)) fun h =>
          κ (.tuple ⟨[.bool true, .int .i64 (.ofNat p), .int .i32 (.ofNat c)]⟩) h
      | false => κ (.tuple ⟨[.bool false]⟩) h
    | _ => false
  | _ => false

def fresh (es : List MapEntry) (seen : List Nat) : List MapEntry := es.filter fun e => !seen.contains e.born

def eachK : List MapEntry → (MapEntry → Bool) → Bool
  | [], _ => true
  | e :: es, κ => κ e && eachK es κ

def kNextM (it : Value) (h : AH) (κ : KH) : Bool :=
  match it with
  | .pointer (some ⟨r, 0, none⟩) =>
    match h.get r with
    | some .mapNil => κ (.tuple ⟨[.bool false]⟩) h
    | some (.mapIt b since seen stepped) => mapK h b fun es c =>
      match Nat.beq c stepped && Nat.beq c since && es.all (fun e => Nat.blt e.born c) with
      | false => false
      | true =>
        match fresh es seen with
        | [] => κ (.tuple ⟨[.bool false]⟩) h
        | left => eachK left fun e => setObjK h r (some (.mapIt b since (e.born :: seen) stepped)) fun h =>
          κ (.tuple ⟨[.bool true, e.key, e.val]⟩) h
    | _ => false
  | _ => false

def findBorn (n : Nat) : List MapEntry → (MapEntry → Bool) → Bool
  | [], _ => false
  | e :: es, κ => match Nat.beq e.born n with
    | true => κ e
    | false => findBorn n es κ

def kEntry (it : Value) (h : AH) (κ : KH) : Bool :=
  match it with
  | .pointer (some ⟨r, 0, none⟩) =>
    match h.get r with
    | some (.mapIt b _ (s :: _) stepped) => mapK h b fun es c =>
      match Nat.beq c stepped with
      | true => findBorn s es fun e => κ (.tuple ⟨[e.key, e.val]⟩) h
      | false => false
    | _ => false
  | _ => false

def kClear (mp : Bool) (e : TypeId) (z : List Value) (x : Value) (h : AH) (κ : KH) : Bool :=
  match x with
  | .map none => κ (.tuple ⟨[]⟩) h
  | .slice none _ _ => κ (.tuple ⟨[]⟩) h
  | .map (some b) => mapK h b fun _ c => setObjK h b (some (.map [] c)) fun h => κ (.tuple ⟨[]⟩) h
  | .slice (some ⟨b, o, none⟩) n _ =>
    match Nat.beq n 0 with
    | true => κ (.tuple ⟨[]⟩) h
    | false => rowK h b fun cs e' rw =>
      match !mp && rw && Nat.beq e e' && z.all oneCell with
      | false => false
      | true => replK z n fun l => spliceK o cs l fun cs => setObjK h b (some (.row cs e' true)) fun h => κ (.tuple ⟨[]⟩) h
  | _ => false

/-- A comparison of values of which one is nil; nk: which kind they are of. -/
def eqNil (nk : Nat) (x y : Value) : Option Bool :=
  match nk with
  | 1 => match x, y with
    | .slice none _ _, .slice b _ _ => some b.isNone
    | .slice (some _) _ _, .slice none _ _ => some false
    | _, _ => none
  | 2 => match x, y with
    | .map none, .map b => some b.isNone
    | .map (some _), .map none => some false
    | _, _ => none
  | 3 => match x, y with
    | .pointer none, .pointer b => some b.isNone
    | .pointer (some _), .pointer none => some false
    | .pointer (some ⟨a, i, none⟩), .pointer (some ⟨b, j, none⟩) => match Nat.beq a b with
      | true => some (Nat.beq i j)
      | false => none
    | _, _ => none
  | 4 => match x, y with
    | .nilFunc, .nilFunc => some true
    | .func _ _ _, .nilFunc => some false
    | .nilFunc, .func _ _ _ => some false
    | _, _ => none
  | 5 => match x, y with
    | .iface _ _, .nilIface => some false
    | .nilIface, .iface _ _ => some false
    | _, _ => none
  | _ => none

/-- What needs nothing of the world: the model's own computation. -/
def envT : List (Operand × Value) → Nat → Value
  | [], _ => undef
  | (.tmp t, v) :: r, u => match Nat.beq t u with
    | true => v
    | false => envT r u
  | _ :: r, u => envT r u

def envOf (l : List (Operand × Value)) : Operand → Value
  | .tmp t => envT l t
  | .const v => v
  | .global g => .pointer (some ⟨g, 0, none⟩)
  | .func f => .func (.func f) #[] #[]

def evpK (tm : T Value) : List (Operand × Opd) → (List (Operand × Value) → Bool) → Bool
  | [], κ => κ []
  | (o, x) :: xs, κ => evK tm x fun v => match noAddr v with
    | true => evpK tm xs fun l => κ ((o, v) :: l)
    | false => false

def kPure (P : Program) (o : Oper) (l : List (Operand × Value)) (κ : KV) : Bool :=
  match pureRun P (execOp (envOf l) o) with
  | some (.value v) => match noAddr v with
    | true => κ v
    | false => false
  | _ => false

def two63 : Nat := 9223372036854775808

/-- Sums of ints of 64 bits that stay small. -/
def addInt (a b : Int) : Option Nat :=
  match a, b with
  | .ofNat x, .ofNat y => match Nat.blt (Nat.add x y) two63 with
    | true => some (Nat.add x y)
    | false => none
  | .ofNat x, .negSucc y => match Nat.blt y x && Nat.blt x two63 with
    | true => some (Nat.sub x (Nat.succ y))
    | false => none
  | _, _ => none

def subInt (a b : Int) : Option Nat :=
  match a, b with
  | .ofNat x, .ofNat y => match Nat.ble y x && Nat.blt x two63 with
    | true => some (Nat.sub x y)
    | false => none
  | _, _ => none

def ltInt (a b : Int) : Bool :=
  match a, b with
  | .ofNat x, .ofNat y => Nat.blt x y
  | .ofNat _, .negSucc _ => false
  | .negSucc _, .ofNat _ => true
  | .negSucc x, .negSucc y => Nat.blt y x

def eqInt (a b : Int) : Bool :=
  match a, b with
  | .ofNat x, .ofNat y => Nat.beq x y
  | .negSucc x, .negSucc y => Nat.beq x y
  | _, _ => false

def eqBytes : List UInt8 → List UInt8 → Bool
  | [], [] => true
  | a :: x, b :: y => Nat.beq a.toNat b.toNat && eqBytes x y
  | _, _ => false

def unsafeK (e : TypeId) (p n : Value) (h : AH) (κ : KH) : Bool :=
  match p, n with
  | .pointer none, .int _ (.ofNat n) => match Nat.beq n 0 with
    | true => κ (.string .empty) h
    | false => false
  | .pointer (some ⟨b, o, none⟩), .int _ (.ofNat n) => rowK h b fun cs e' rw =>
    match rw && Nat.beq e e' && Nat.ble n maxN && !(Nat.beq n 0) with
    | false => false
    | true => segK o n cs fun l => match bytesOf l with
      | some l => setObjK h b none fun h => κ (.string ⟨⟨l⟩⟩) h
      | none => false
  | _, _ => false

def kSlSl (e : TypeId) (s : Nat) (x : Value) (lo hi mx : Option Value) (h : AH) (κ : KV) : Bool :=
  match x with
  | .slice none _ _ => bndK hi 0 0 fun _ => bndK lo 0 0 fun _ => bndK mx 0 0 fun _ => κ x
  | .slice (some ⟨b, o, none⟩) len cap => rowK h b fun _ e' _ =>
    match Nat.beq e e' && Nat.blt b unk && Nat.ble cap unk && Nat.blt len unk with
    | false => false
    | true =>
    match Nat.beq cap unk with
    | true =>
      match mx with
      | none => bndK hi len len fun h => bndK lo 0 h fun l =>
        match Nat.blt l len || Nat.beq l 0 with
        | true => natK (Nat.add o (Nat.mul l s)) fun o => natK (Nat.sub h l) fun n => κ (.slice (some ⟨b, o, none⟩) n unk)
        | false => κ (.slice (some ⟨unk, 0, none⟩) 0 unk)
      | some m => idxK m (Nat.succ len) fun m => bndK hi m m fun h => bndK lo 0 h fun l =>
        match Nat.beq m l with
        | true => κ (.slice (some ⟨b, o, none⟩) 0 0)
        | false => natK (Nat.add o (Nat.mul l s)) fun o => natK (Nat.sub h l) fun n => natK (Nat.sub m l) fun c => κ (.slice (some ⟨b, o, none⟩) n c)
    | false =>
      bndK mx cap cap fun m => bndK hi (match mx with | none => len | some _ => m) m fun h => bndK lo 0 h fun l =>
        match Nat.beq m l with
        | true => κ (.slice (some ⟨b, o, none⟩) 0 0)
        | false => natK (Nat.add o (Nat.mul l s)) fun o => natK (Nat.sub h l) fun n => natK (Nat.sub m l) fun c => κ (.slice (some ⟨b, o, none⟩) n c)
  | _ => false

def kSlStr (x : Value) (lo hi : Option Value) (κ : KV) : Bool :=
  match x with
  | .string s => bndK hi s.size s.size fun h => bndK lo 0 h fun l => κ (.string ⟨⟨(s.data.toList.drop l).take (Nat.sub h l)⟩⟩)
  | _ => false

def kIxAS (s : Nat) (x i : Value) (κ : KV) : Bool :=
  match x with
  | .slice (some ⟨b, o, none⟩) len _ => idxK i len fun i => natK (Nat.add o (Nat.mul i s)) fun o => κ (ptrTo b o)
  | _ => false

def kIxStr (x i : Value) (κ : KV) : Bool :=
  match x with
  | .string s => idxK i s.size fun i => match s.data.toList[i]? with
    | some c => natK c.toNat fun n => κ (.int .u8 (.ofNat n))
    | none => false
  | _ => false

end
end Go.Abs

/- The interpreter. -/
namespace Go.Abs
noncomputable section

inductive OR where
  | val (v : Value)
  | panic (v : Value)

abbrev KX := AX → St → Bool
abbrev KR := CR → AH → Bool
abbrev KO := OR → St → Bool
abbrev Ex := IC → St → KX → Bool

structure Ctx where
  P : Program
  fn : T IFn
  sm : Nat → List Value → AH → Option (Value × AH)

abbrev Hd := Ctx → Ex → St → KO → Bool

def St.setH (st : St) (h : AH) : St := ⟨st.tm, st.df, st.um, h⟩

/-- A value. -/
def vK (st : St) (κ : KO) : KV := fun v => κ (.val v) st
/-- A value and a heap. -/
def hK (st : St) (κ : KO) : KH := fun v h => match st with | ⟨tm, df, um, _⟩ => κ (.val v) ⟨tm, df, um, h⟩

def r1 (x : Opd) (f : Value → KV → Bool) : Hd := fun _ _ st κ => evK st.tm x fun v => f v (vK st κ)
def r2 (x y : Opd) (f : Value → Value → KV → Bool) : Hd := fun _ _ st κ => evK st.tm x fun v => evK st.tm y fun w => f v w (vK st κ)
def h1 (x : Opd) (f : Value → AH → KH → Bool) : Hd := fun _ _ st κ => evK st.tm x fun v => f v st.h (hK st κ)
def h2 (x y : Opd) (f : Value → Value → AH → KH → Bool) : Hd := fun _ _ st κ => evK st.tm x fun v => evK st.tm y fun w => f v w st.h (hK st κ)

def rPure (xs : List (Operand × Opd)) (o : Oper) : Hd := fun C _ st κ => evpK st.tm xs fun l => kPure C.P o l (vK st κ)

def xsOf (o : Oper) (x y : Opd) : List (Operand × Opd) :=
  match o.op with
  | .binOp _ _ a b _ => [(a, x), (b, y)]
  | _ => []

def rAdd (x y : Opd) (o : Oper) : Hd := fun C ex st κ => evK st.tm x fun v => evK st.tm y fun w =>
  match v, w with
  | .int .i64 a, .int .i64 b => match addInt a b with
    | some n => natK n fun n => κ (.val (.int .i64 (.ofNat n))) st
    | none => rPure (xsOf o x y) o C ex st κ
  | _, _ => rPure (xsOf o x y) o C ex st κ

def rSub (x y : Opd) (o : Oper) : Hd := fun C ex st κ => evK st.tm x fun v => evK st.tm y fun w =>
  match v, w with
  | .int .i64 a, .int .i64 b => match subInt a b with
    | some n => natK n fun n => κ (.val (.int .i64 (.ofNat n))) st
    | none => rPure (xsOf o x y) o C ex st κ
  | _, _ => rPure (xsOf o x y) o C ex st κ

def rCmp (f : Int → Int → Bool) (x y : Opd) (o : Oper) : Hd := fun C ex st κ => evK st.tm x fun v => evK st.tm y fun w =>
  match v, w with
  | .int k a, .int k' b => match decide (k = k') with
    | true => κ (.val (.bool (f a b))) st
    | false => false
  | _, _ => rPure (xsOf o x y) o C ex st κ

def rEq (neg : Bool) (nk : Nat) (x y : Opd) (o : Oper) : Hd := fun C ex st κ => evK st.tm x fun v => evK st.tm y fun w =>
  match v, w with
  | .int k a, .int k' b => match decide (k = k') with
    | true => κ (.val (.bool (xor neg (eqInt a b)))) st
    | false => false
  | .string a, .string b => κ (.val (.bool (xor neg (eqBytes a.data.toList b.data.toList)))) st
  | v, w => match eqNil nk v w with
    | some b => κ (.val (.bool (xor neg b))) st
    | none => rPure (xsOf o x y) o C ex st κ

def fPick (c a b : Opd) : Hd := fun _ _ st κ => evK st.tm c fun c =>
  match c with
  | .bool true => evK st.tm a (vK st κ)
  | .bool false => evK st.tm b (vK st κ)
  | _ => false

def fAlloc (e : TypeId) (z : List Value) : Hd := fun _ _ st κ => newK st.h (.row z e true) fun h' => hK st κ (ptrTo st.h.nx 0) h'
def fBox (e : TypeId) (v : Value) (h : AH) (κ : KH) : Bool := newK h (.row (cellsL v) e true) fun h' => κ (ptrTo h.nx 0) h'
def fBuild (z : List Value) (ps : List (Nat × Nat × Opd)) : Hd := fun _ _ st κ => fillK st.tm z ps fun cs => κ (.val (.agg ⟨cs⟩)) st
def fBslice (e : TypeId) (z : List Value) (n : Nat) (ps : List (Nat × Nat × Opd)) : Hd := fun _ _ st κ =>
  replK z n fun cs => fillK st.tm cs ps fun cs => newK st.h (.row cs e true) fun h' => hK st κ (.slice (some ⟨st.h.nx, 0, none⟩) n n) h'
def fLd1 (a : Value) (h : AH) (κ : KV) : Bool := ptrK a fun b i => rowK h b fun cs _ _ => nthK i cs κ
def fLdn (n : Nat) (a : Value) (h : AH) (κ : KV) : Bool := ptrK a fun b i => rowK h b fun cs _ _ => segK i n cs fun l => κ (.agg ⟨l⟩)
def fSt (n : Nat) (a v : Value) (h : AH) (κ : KH) : Bool := ptrK a fun b i => rowK h b fun cs e rw =>
  match rw && Nat.beq (cellsL v).length n && (cellsL v).all oneCell with
  | true => spliceK i cs (cellsL v) fun cs => setObjK h b (some (.row cs e true)) fun h => κ undef h
  | false => false
def fNil (v : Value) (κ : KV) : Bool :=
  match v with
  | .pointer none | .nilIface | .nilFunc => false
  | .func (.method _) _ _ => false
  | v => κ v
def fNot (v : Value) (κ : KV) : Bool :=
  match v with
  | .bool b => κ (.bool (!b))
  | _ => false
def fCvPtr (_size : Nat) (x : Value) (h : AH) (κ : KV) : Bool := ptrK x fun b i => rowK h b fun cs _ _ =>
  match Nat.blt i cs.length with
  | true => κ x
  | false => false
def fCvBack (e size : Nat) (x : Value) (h : AH) (κ : KV) : Bool := ptrK x fun b i => rowK h b fun cs e' _ =>
  match Nat.beq i 0 && Nat.beq e e' && Nat.beq cs.length size with
  | true => κ x
  | false => false
def fCvStr (x : Value) (h : AH) (κ : KV) : Bool :=
  match x with
  | .slice none _ _ => κ (.string .empty)
  | .slice (some ⟨b, o, none⟩) n _ => match Nat.beq n 0 with
    | true => κ (.string ⟨⟨[]⟩⟩)
    | false => rowK h b fun cs _ _ => segK o n cs fun l => match bytesOf l with
      | some l => κ (.string ⟨⟨l⟩⟩)
      | none => false
  | _ => false
def fCvBytes (e : TypeId) (x : Value) (h : AH) (κ : KH) : Bool :=
  match x with
  | .string s => newK h (.row (ofBytes s.data.toList) e true) fun h' => κ (.slice (some ⟨h.nx, 0, none⟩) s.size unk) h'
  | _ => false
def fMkFunc (f : FuncId) (a b : List Opd) : Hd := fun _ _ st κ => evsK st.tm a fun a => evsK st.tm b fun b => κ (.val (.func (.func f) ⟨a⟩ ⟨b⟩)) st
def fMkMap : Hd := fun _ _ st κ => newK st.h (.map [] 0) fun h' => hK st κ (.map (some st.h.nx)) h'
def fMkSlice (e : TypeId) (z : List Value) (l c : Value) (h : AH) (κ : KH) : Bool :=
  match l, c with
  | .int .i64 (.ofNat l), .int .i64 (.ofNat c) =>
    match Nat.ble l c && Nat.ble c 1048576 with
    | true => replK z c fun cs => newK h (.row cs e true) fun h' => κ (.slice (some ⟨h.nx, 0, none⟩) l c) h'
    | false => false
  | _, _ => false
def fSl (f : Value → Option Value → Option Value → Option Value → AH → KV → Bool) (x : Opd) (lo hi mx : Option Opd) : Hd := fun _ _ st κ =>
  evK st.tm x fun x => evoK st.tm lo fun lo => evoK st.tm hi fun hi => evoK st.tm mx fun mx => f x lo hi mx st.h (vK st κ)
def fFadr (off : Nat) (x : Value) (κ : KV) : Bool := ptrK x fun b i => natK (Nat.add i off) fun i => κ (ptrTo b i)
def fFld1 (off : Nat) (x : Value) (κ : KV) : Bool :=
  match x with
  | .agg ⟨cs⟩ => nthK off cs κ
  | _ => false
def fFldn (off n : Nat) (x : Value) (κ : KV) : Bool :=
  match x with
  | .agg ⟨cs⟩ => segK off n cs fun l => κ (.agg ⟨l⟩)
  | _ => false
def fIxAA (n s : Nat) (x i : Value) (κ : KV) : Bool := ptrK x fun b o => idxK i n fun i => natK (Nat.add o (Nat.mul i s)) fun o => κ (ptrTo b o)
def fIxA1 (n s : Nat) (x i : Value) (κ : KV) : Bool := idxK i n fun i => fFld1 (Nat.mul i s) x κ
def fIxAn (n s : Nat) (x i : Value) (κ : KV) : Bool := idxK i n fun i => fFldn (Nat.mul i s) s x κ
def fRangeS (x : Value) (h : AH) (κ : KH) : Bool :=
  match x with
  | .string s => newK h (.str s 0) fun h' => κ (ptrTo h.nx 0) h'
  | _ => false
def fTassert (a : TypeId) (z : Value) (ok : Bool) (x : Value) (κ : KV) : Bool :=
  match x with
  | .iface t v => match Nat.beq t a with
    | true => κ (okV ok v true)
    | false => match ok with
      | true => κ (okV true z false)
      | false => false
  | .nilIface => match ok with
    | true => κ (okV true z false)
    | false => false
  | _ => false
def fExtr (i : Nat) (x : Value) (κ : KV) : Bool :=
  match x with
  | .tuple ⟨vs⟩ => nthK i vs κ
  | _ => false
def fSdata (x : Value) (κ : KV) : Bool :=
  match x with
  | .slice none _ _ => κ (.pointer none)
  | .slice (some ⟨b, o, none⟩) n _ => match Nat.beq n 0 with
    | true => false
    | false => κ (ptrTo b o)
  | _ => false
def fRecover : Hd := fun _ _ st κ =>
  match st.um with
  | .pan v => κ (.val v) ⟨st.tm, st.df, .recd v, st.h⟩
  | .idle => κ (.val .nilIface) st
  | .recd _ => κ (.val .nilIface) st
  | .na => false
  | .rnd => false
def fDefer (f : Opd) (xs : List Opd) : Hd := fun _ _ st κ => evK st.tm f fun f => evsK st.tm xs fun xs =>
  match st.um, f with
  | .na, .func (.func g) ⟨a⟩ ⟨b⟩ => κ (.val undef) ⟨st.tm, .call g (a ++ xs ++ b) :: st.df, st.um, st.h⟩
  | _, _ => false
def fPanic (x : Opd) : Hd := fun _ _ st κ => evK st.tm x fun v =>
  match v with
  | .iface t v => κ (.panic (.iface t v)) st
  | _ => false

def argsT : Nat → List Value → T Value → (T Value → Bool) → Bool
  | _, [], t, κ => κ t
  | i, v :: vs, t, κ => T.setK (some v) (pos i) t fun t => argsT (Nat.succ i) vs t κ

def resK (tm : T Value) (h : AH) : List IRes → (List Value → Bool) → Bool
  | [], κ => κ []
  | .t p :: rs, κ => evK tm (.t p) fun v => resK tm h rs fun vs => κ (v :: vs)
  | .c1 p :: rs, κ => evK tm (.t p) fun a => fLd1 a h fun v => resK tm h rs fun vs => κ (v :: vs)
  | .cn n p :: rs, κ => evK tm (.t p) fun a => fLdn n a h fun v => resK tm h rs fun vs => κ (v :: vs)

def oneOrTuple : List Value → Value
  | [v] => v
  | vs => .tuple ⟨vs⟩

def fnK (C : Ctx) (f : Nat) (κ : IFn → Bool) : Bool :=
  match Nat.ble f 65535 with
  | false => false
  | true => match C.fn.get (pos f) with
    | some fn => κ fn
    | none => false

/-- How a deferred call sees its caller: it returns, or it panics. -/
def umOf : Option Value → UM
  | none => .idle
  | some v => .pan v
def mdOf : UM → Option Value
  | .pan v => some v
  | _ => none

/-- The deferred calls of a frame that is left. md: none: it returns; some v: it panics with v. -/
def leaveK (C : Ctx) (ex : Ex) (fn : IFn) (tm : T Value) : List ADef → Option Value → AH → KR → Bool
  | [], none, h, κ => resK tm h fn.res fun vs => κ (.ret (oneOrTuple vs)) h
  | [], some v, h, κ => κ (.panic v) h
  | .coll b :: ds, md, h, κ => match h.get b with
    | some .defs => setObjK h b none fun h => leaveK C ex fn tm ds md h κ
    | _ => false
  | .call f args :: ds, md, h, κ => fnK C f fun g =>
    match Nat.ble args.length g.nt with
    | false => false
    | true => argsT 0 args .leaf fun t =>
      ex g.body ⟨t, [], umOf md, h⟩ fun x st =>
        match st.df, x with
        | [], .normal | [], .ret => resK st.tm st.h g.res fun _ =>
          leaveK C ex fn tm ds (mdOf st.um) st.h κ
        | _, _ => false

def callK (C : Ctx) (ex : Ex) (f : FuncId) (args : List Value) (h : AH) (κ : KR) : Bool :=
  match C.sm f args h with
  | some (v, h) => κ (.ret v) h
  | none => fnK C f fun fn =>
    match Nat.ble args.length fn.nt with
    | false => false
    | true => argsT 0 args .leaf fun t =>
      ex fn.body ⟨t, [], .na, h⟩ fun x st =>
        match x with
        | .normal | .ret => leaveK C ex fn st.tm st.df none st.h κ
        | .panic v => leaveK C ex fn st.tm st.df (some v) st.h κ
        | _ => false

def setAll : List Pos → List Value → T Value → (T Value → Bool) → Bool
  | [], [], t, κ => κ t
  | p :: ps, v :: vs, t, κ => T.setK (some v) p t fun t => setAll ps vs t κ
  | _, _, _, _ => false

def yieldK (ex : Ex) (l : Nat) (args : List Value) (h : AH) (κ : KR) : Bool :=
  match h.get l with
  | some (.loop tm ps asg body0 .ready .normal) =>
    setAll ps args tm fun t => ex asg ⟨t, [], .rnd, h⟩ fun x st =>
      match x, st.df with
      | .normal, [] => match st.h.get l with
        | some (.loop tm ps asg body .ready .normal) =>
          setObjK st.h l (some (.loop tm ps asg body .busy .normal)) fun h =>
          ex body0 ⟨st.tm, [], .rnd, h⟩ fun x st =>
            match st.df, st.h.get l with
            | [], some (.loop tm ps asg body .busy .normal) =>
              match x with
              | .panic _ => false
              | .normal => setObjK st.h l (some (.loop tm ps asg body .ready .normal)) fun h => κ (.ret (.bool true)) h
              | x => setObjK st.h l (some (.loop tm ps asg body .done x)) fun h => κ (.ret (.bool false)) h
            | _, _ => false
        | _ => false
      | _, _ => false
  | _ => false

def applyK (C : Ctx) (ex : Ex) (fv : Value) (args : List Value) (h : AH) (κ : KR) : Bool :=
  match fv with
  | .func (.func f) ⟨a⟩ ⟨b⟩ => callK C ex f (a ++ args ++ b) h κ
  | .func (.yield l) ⟨[]⟩ ⟨[]⟩ => yieldK ex l args h κ
  | _ => false

def retK (st : St) (κ : KO) : KR := fun r h =>
  match r with
  | .ret v => κ (.val v) ⟨st.tm, st.df, st.um, h⟩
  | .panic v => κ (.panic v) ⟨st.tm, st.df, st.um, h⟩

def fCall (f : Opd) (xs : List Opd) : Hd := fun C ex st κ => evK st.tm f fun f => evsK st.tm xs fun xs => applyK C ex f xs st.h (retK st κ)
def fCallF (f : FuncId) (xs : List Opd) : Hd := fun C ex st κ => evsK st.tm xs fun xs => callK C ex f xs st.h (retK st κ)

def fLookup (kt : TypeId) (z : Value) (m k : Opd) (ok : Bool) : Hd := fun C _ st κ => evK st.tm m fun m => evK st.tm k fun k => kLookup C.P kt z ok m k st.h (hK st κ)
def fMapUpd (kt : TypeId) (m k v : Opd) : Hd := fun C _ st κ => evK st.tm m fun m => evK st.tm k fun k => evK st.tm v fun v => kMapUpd C.P kt m k v st.h (hK st κ)
def fMapEnt (kt : TypeId) (z : Value) (m k : Opd) : Hd := fun C _ st κ => evK st.tm m fun m => evK st.tm k fun k => kMapEnt C.P kt z m k st.h (hK st κ)
def fEntSt (m s v : Opd) : Hd := fun _ _ st κ => evK st.tm m fun m => evK st.tm s fun s => evK st.tm v fun v => kEntSt m s v st.h (hK st κ)

/-- A load, with the heap left as it is. -/
def hv (f : Value → AH → KV → Bool) : Value → AH → KH → Bool := fun v h κ => f v h fun v => κ v h

def opRun : IK → Hd
  | .mv x => r1 x fun v κ => κ v
  | .pick c a b => fPick c a b
  | .alloc e z => fAlloc e z
  | .box e x => h1 x (fBox e)
  | .build z ps => fBuild z ps
  | .bslice e z n ps => fBslice e z n ps
  | .ld1 a => h1 a (hv fLd1)
  | .ldn n a => h1 a (hv (fLdn n))
  | .st n a x => h2 a x (fSt n)
  | .nilchk x => r1 x fNil
  | .add x y o => rAdd x y o
  | .sub x y o => rSub x y o
  | .lss x y o => rCmp ltInt x y o
  | .leq x y o => rCmp (fun a b => !(ltInt b a)) x y o
  | .gtr x y o => rCmp (fun a b => ltInt b a) x y o
  | .geq x y o => rCmp (fun a b => !(ltInt a b)) x y o
  | .eql n x y o => rEq false n x y o
  | .neq n x y o => rEq true n x y o
  | .not x => r1 x fNot
  | .pure xs o => rPure xs o
  | .cvPtr s x => h1 x (hv (fCvPtr s))
  | .cvBack e s x => h1 x (hv (fCvBack e s))
  | .cvStr x => h1 x (hv fCvStr)
  | .cvBytes e x => h1 x (fCvBytes e)
  | .mkIface t x => r1 x fun v κ => κ (.iface t v)
  | .mkFunc f a b => fMkFunc f a b
  | .mkMap => fMkMap
  | .mkSlice e z l c => h2 l c (fMkSlice e z)
  | .slStr x lo hi => fSl (fun x lo hi _ _ => kSlStr x lo hi) x lo hi none
  | .slSl e s x lo hi mx => fSl (kSlSl e s) x lo hi mx
  | .fadr off x => r1 x (fFadr off)
  | .fld1 off x => r1 x (fFld1 off)
  | .fldn off n x => r1 x (fFldn off n)
  | .ixAS s x i => r2 x i (kIxAS s)
  | .ixAA n s x i => r2 x i (fIxAA n s)
  | .ixA1 n s x i => r2 x i (fIxA1 n s)
  | .ixAn n s x i => r2 x i (fIxAn n s)
  | .ixStr x i => r2 x i kIxStr
  | .lookup kt z m k ok => fLookup kt z m k ok
  | .mapUpd kt m k v => fMapUpd kt m k v
  | .mapEnt kt z m k => fMapEnt kt z m k
  | .entSt m s v => fEntSt m s v
  | .rangeS x => h1 x fRangeS
  | .rangeM x => h1 x kRangeM
  | .nextS it => h1 it kNextS
  | .nextM it => h1 it kNextM
  | .entry it => h1 it kEntry
  | .tassert a z ok x => r1 x (fTassert a z ok)
  | .extr x i => r1 x (fExtr i)
  | .call f xs => fCall f xs
  | .callF f xs => fCallF f xs
  | .append e s x y => h2 x y (kAppend e s)
  | .copy e s x y => h2 x y (kCopy e s)
  | .len q x => h1 x (kLen q)
  | .cap x => h1 x kCap
  | .clear mp e z x => h1 x (kClear mp e z)
  | .sdata x => r1 x fSdata
  | .ustr e x n => h2 x n (unsafeK e)
  | .recover => fRecover
  | .defer f xs => fDefer f xs
  | .panic x => fPanic x
  | .bad => fun _ _ _ _ => false

def putK (st : St) (d : Option Pos) (v : Value) (κ : St → Bool) : Bool :=
  match d with
  | none => κ st
  | some p => match st with
    | ⟨tm, df, um, h⟩ => T.setK (some v) p tm fun tm => κ ⟨tm, df, um, h⟩

def wantK (tm : T Value) (g : Option (Pos × Bool)) (yes no : Unit → Bool) : Bool :=
  match g with
  | none => yes ()
  | some (p, w) => match tm.get p with
    | some (.bool b) => match b, w with
      | true, true => yes ()
      | false, false => yes ()
      | _, _ => no ()
    | _ => no ()

/-- One operation of a region. -/
def stepK (C : Ctx) (ex : Ex) (o : IOp) (st : St) (κ : AX → St → Bool) : Bool :=
  wantK st.tm o.g
    (fun _ => opRun o.k C ex st fun r st => match r with
      | .val v => putK st o.dst v fun st => κ .normal st
      | .panic v => κ (.panic v) st)
    (fun _ => putK st o.dst undef fun st => κ .normal st)

def regK (C : Ctx) (ex : Ex) : List IOp → St → KX → Bool
  | [], st, κ => κ .normal st
  | o :: os, st, κ => stepK C ex o st fun x st =>
    match x with
    | .normal => regK C ex os st κ
    | x => κ x st

abbrev Cd := Ctx → Ex → Nat → St → KX → Bool

mutual
/-- Are two values alike, sign by sign? -/
def veq : Value → Value → Bool
  | .bool a, .bool b => match a, b with | true, true => true | false, false => true | _, _ => false
  | .int k a, .int l b => decide (k = l) && eqInt a b
  | .float k a, .float l b => decide (k = l) && Nat.beq a b
  | .complex k a c, .complex l b d => decide (k = l) && Nat.beq a b && Nat.beq c d
  | .string a, .string b => eqBytes a.data.toList b.data.toList
  | .pointer none, .pointer none => true
  | .pointer (some ⟨a, i, none⟩), .pointer (some ⟨b, j, none⟩) => Nat.beq a b && Nat.beq i j
  | .slice none a c, .slice none b d => Nat.beq a b && Nat.beq c d
  | .slice (some ⟨a, i, none⟩) n c, .slice (some ⟨b, j, none⟩) m d => Nat.beq a b && Nat.beq i j && Nat.beq n m && Nat.beq c d
  | .map none, .map none => true
  | .map (some a), .map (some b) => Nat.beq a b
  | .nilFunc, .nilFunc => true
  | .func (.func f) ⟨a⟩ ⟨c⟩, .func (.func g) ⟨b⟩ ⟨d⟩ => Nat.beq f g && veqs a b && veqs c d
  | .func (.yield f) ⟨[]⟩ ⟨[]⟩, .func (.yield g) ⟨[]⟩ ⟨[]⟩ => Nat.beq f g
  | .iface t v, .iface u w => Nat.beq t u && veq v w
  | .nilIface, .nilIface => true
  | .agg ⟨a⟩, .agg ⟨b⟩ => veqs a b
  | .tuple ⟨a⟩, .tuple ⟨b⟩ => veqs a b
  | _, _ => false
def veqs : List Value → List Value → Bool
  | [], [] => true
  | v :: vs, w :: ws => veq v w && veqs vs ws
  | _, _ => false
end

/-- Does an operation that reads answer v over this heap, too? -/
def againK (C : Ctx) (k : IK) (tm : T Value) (v : Value) (h : AH) : Bool :=
  opRun k C (fun _ _ _ => false) ⟨tm, [], .na, h⟩ fun r _ => match r with
    | .val w => veq v w
    | .panic _ => false

/-- The number of a block that an operation has made: is it there, as it was made? -/
def freeAt (k : IK) (v : Value) (h : AH) : Bool :=
  match k, v with
  | .alloc e z, .pointer (some ⟨id, _, _⟩) => match h.get id with
    | some (.row cs e' true) => Nat.beq e e' && veqs z cs
    | _ => false
  | .mkMap, .map (some id) => match h.get id with
    | some (.map [] 0) => true
    | _ => false
  | _, _ => false

/-- What was done in a region: its index, the operation, the answer, the temporaries of then; was a block made? -/
structure Dn where
  i : Nat
  k : IK
  v : Value
  tm : T Value
  made : Bool

def hasN (i : Nat) : List Nat → Bool
  | [] => false
  | j :: js => match Nat.beq i j with
    | true => true
    | false => hasN i js

/-- What may still be done behind a great operation must come to the same. -/
def recheck (C : Ctx) (h : AH) (re : List Nat) : List Dn → Bool
  | [] => true
  | d :: ds => (match hasN d.i re with
    | false => true
    | true => match d.made with
      | true => freeAt d.k d.v h
      | false => againK C d.k d.tm d.v h) && recheck C h re ds

/-- A region whose order is open, in the order of its stages. -/
def drawK (C : Ctx) (ex : Ex) : List (Nat × IOp × Cls) → St → List Dn → KX → Bool
  | [], st, _, κ => κ .normal st
  | (i, o, c) :: os, st, dn, κ =>
    wantK st.tm o.g
      (fun _ => opRun o.k C ex st fun r st' => match r with
        | .panic _ => false
        | .val v => match c with
          | .pure => putK st' o.dst v fun st2 => drawK C ex os st2 dn κ
          | .read _ => putK st' o.dst v fun st2 => drawK C ex os st2 (⟨i, o.k, v, st.tm, false⟩ :: dn) κ
          | .free _ => putK st' o.dst v fun st2 => drawK C ex os st2 (⟨i, o.k, v, st.tm, true⟩ :: dn) κ
          | .big re => match recheck C st'.h re dn with
            | true => putK st' o.dst v fun st2 => drawK C ex os st2 dn κ
            | false => false)
      (fun _ => putK st o.dst undef fun st2 => drawK C ex os st2 dn κ)

def cDraw (ops : List (Nat × IOp × Cls)) : Cd := fun C ex _ st κ => drawK C ex ops st [] κ

def loopK (ex : Ex) (c : IC) : Nat → St → KX → Bool
  | 0, _, _ => false
  | n + 1, st, κ => ex c st fun x st =>
    match x with
    | .normal => loopK ex c n st κ
    | x => κ x st

def labelOf (l : Nat) : List (Nat × IC) → Option IC
  | [] => none
  | (m, c) :: r => match Nat.beq m l with
    | true => some c
    | false => labelOf l r

def scopeK (ex : Ex) (ls : List (Nat × IC)) : Nat → IC → St → KX → Bool
  | 0, _, _, _ => false
  | n + 1, c, st, κ => ex c st fun x st =>
    match x with
    | .goto l => match labelOf l ls with
      | some rest => scopeK ex ls n rest st κ
      | none => κ (.goto l) st
    | x => κ x st


def cSeq (a b : IC) : Cd := fun _ ex _ st κ => ex a st fun x st =>
  match x with
  | .normal => ex b st κ
  | x => κ x st
def cCond (c : Opd) (a b : IC) : Cd := fun _ ex _ st κ => evK st.tm c fun v =>
  match v with
  | .bool true => ex a st κ
  | .bool false => ex b st κ
  | _ => false
def cBlock (id : Nat) (b : IC) : Cd := fun _ ex _ st κ => ex b st fun x st =>
  match x with
  | .exit j => match Nat.beq j id with
    | true => κ .normal st
    | false => κ (.exit j) st
  | x => κ x st
def cRange (f : Opd) (ps : List Pos) (a b : IC) : Cd := fun C ex _ st κ =>
  match st.um with
  | .na => evK st.tm f fun f => newK st.h .defs fun h1 => newK h1 (.loop st.tm ps a b .ready .normal) fun h2 =>
    applyK C ex f [.func (.yield h1.nx) #[] #[]] h2 fun r h =>
      match r with
      | .panic _ => false
      | .ret _ => match h.get h1.nx with
        | some (.loop tm ps a b s p) =>
          match s with
          | .busy => false
          | _ => setObjK h h1.nx (some (.loop tm ps a b .exhausted p)) fun h => κ p ⟨st.tm, .coll st.h.nx :: st.df, .na, h⟩
        | _ => false
  | _ => false

def codeRun : IC → Cd
  | .skip => fun _ _ _ st κ => κ .normal st
  | .reg ops => fun C ex _ st κ => regK C ex ops st κ
  | .draw ops => cDraw ops
  | .seq a b => cSeq a b
  | .cond c a b => cCond c a b
  | .block id b => cBlock id b
  | .loop b => fun _ ex n st κ => loopK ex b n st κ
  | .rangeF f ps a b => cRange f ps a b
  | .exit id => fun _ _ _ st κ => κ (.exit id) st
  | .scope b ls => fun _ ex n st κ => scopeK ex ls n b st κ
  | .goto l => fun _ _ _ st κ => κ (.goto l) st
  | .ret => fun _ _ _ st κ => κ .ret st
  | .bad => fun _ _ _ _ _ => false

def exec (C : Ctx) : Nat → IC → St → KX → Bool
  | 0, _, _, _ => false
  | n + 1, c, st, κ => codeRun c C (exec C n) n st κ

end
end Go.Abs

/- From the model's code to the interpreter's. -/
namespace Go.Abs
noncomputable section

/-- What is known of a program ahead: its types, how many variables it has. -/
structure Env where
  ty : Nat → Option TI
  ng : Nat

variable (E : Env) (nt : Nat)

def isAggD : TypeDesc → Bool
  | .struct _ | .array _ _ => true
  | _ => false

def constOk : Value → Bool
  | .func (.func _) ⟨[]⟩ ⟨[]⟩ => true
  | v => noAddr v

def opd : Operand → Option Opd
  | .tmp t => match Nat.blt t nt with
    | true => some (.t (pos t))
    | false => none
  | .const v => match constOk v with
    | true => some (.c v)
    | false => none
  | .global g => match Nat.blt g E.ng with
    | true => some (.c (ptrTo g 0))
    | false => none
  | .func f => some (.c (.func (.func f) #[] #[]))

def opds : List Operand → Option (List Opd)
  | [] => some []
  | x :: xs => match opd E nt x, opds xs with
    | some y, some ys => some (y :: ys)
    | _, _ => none

def opdo : Option Operand → Option (Option Opd)
  | none => some none
  | some x => match opd E nt x with
    | some y => some (some y)
    | none => none

def withOpds : List Operand → Option (List (Operand × Opd))
  | [] => some []
  | x :: xs => match opd E nt x, withOpds xs with
    | some y, some ys => some ((x, y) :: ys)
    | _, _ => none

def fieldOf (t f : Nat) : Option (Nat × TI) :=
  match E.ty t with
  | some ⟨.struct fs, _, _, _⟩ => match fs[f]? with
    | some fd => match E.ty fd.type with
      | some ti => some (fd.offset, ti)
      | none => none
    | none => none
  | _ => none

def partsS (t : Nat) : List (Nat × Operand) → Option (List (Nat × Nat × Opd))
  | [] => some []
  | (i, x) :: r => match fieldOf E t i, opd E nt x, partsS t r with
    | some (off, ti), some y, some l => some ((off, ti.size, y) :: l)
    | _, _, _ => none

def partsA (s : Nat) : List (Nat × Operand) → Option (List (Nat × Nat × Opd))
  | [] => some []
  | (i, x) :: r => match opd E nt x, partsA s r with
    | some y, some l => some ((Nat.mul i s, s, y) :: l)
    | _, _ => none

def elemOfSl (t : Nat) : Option (Nat × TI) :=
  match E.ty t with
  | some ⟨.slice e, _, _, _⟩ => match E.ty e with
    | some te => some (e, te)
    | none => none
  | _ => none

def zeroOf (t : Nat) : Option Value :=
  match E.ty t with
  | some ti => match isAggD ti.k with
    | true => some (.agg ⟨ti.zero⟩)
    | false => match ti.zero with
      | [v] => some v
      | _ => none
  | none => none

def good (te : TI) : Bool := !(Nat.beq te.size 0) && Nat.ble te.bytes 65536 && te.zero.all noAddr && Nat.beq te.zero.length te.size && te.zero.all oneCell

def goodOf (t : Nat) : Option TI :=
  match E.ty t with
  | some te => match good te with
    | true => some te
    | false => none
  | none => none

def nkOf : TypeDesc → Nat
  | .slice _ => 1
  | .map _ _ => 2
  | .pointer e => match goodOf E e with
    | some _ => 3
    | none => 0
  | .func _ _ _ => 4
  | .interface _ => 5
  | _ => 0

def compBin (o : Oper) (op : BinOp) (t : Nat) (x y : Operand) : Option IK :=
  match opd E nt x, opd E nt y, E.ty t with
  | some x', some y', some ti =>
    match op with
    | .add => some (.add x' y' o)
    | .sub => some (.sub x' y' o)
    | .lss => some (.lss x' y' o)
    | .leq => some (.leq x' y' o)
    | .gtr => some (.gtr x' y' o)
    | .geq => some (.geq x' y' o)
    | .eql => some (.eql (nkOf E ti.k) x' y' o)
    | .neq => some (.neq (nkOf E ti.k) x' y' o)
    | _ => some (.pure [(x, x'), (y, y')] o)
  | _, _, _ => none

def compPure (o : Oper) (xs : List Operand) : Option IK :=
  match withOpds E nt xs with
  | some l => some (.pure l o)
  | none => none

def compConv (o : Oper) (s d : Nat) (x : Operand) : Option IK :=
  match E.ty s, E.ty d, opd E nt x with
  | some ts, some td, some x' =>
    match ts.k, td.k with
    | .pointer e, .unsafePointer => match goodOf E e with
      | some te => some (.cvPtr te.size x')
      | none => none
    | .unsafePointer, .pointer e => match goodOf E e with
      | some te => some (.cvBack e te.size x')
      | none => none
    | .slice e, .string => match E.ty e with
      | some ⟨.int .u8, _, _, _⟩ => some (.cvStr x')
      | _ => none
    | .string, .slice e => match E.ty e with
      | some ⟨.int .u8, _, 1, _⟩ => some (.cvBytes e x')
      | _ => none
    | _, _ => some (.pure [(x, x')] o)
  | _, _, _ => none

def compSlice (t : Nat) (x : Operand) (lo hi mx : Option Operand) : Option IK :=
  match E.ty t, opd E nt x, opdo E nt lo, opdo E nt hi, opdo E nt mx with
  | some ti, some x, some lo, some hi, some mx =>
    match ti.k with
    | .string => match mx with
      | none => some (.slStr x lo hi)
      | some _ => none
    | .slice e => match goodOf E e with
      | some te => match mx, hi with
        | some _, none => none
        | _, _ => some (.slSl e te.size x lo hi mx)
      | none => none
    | _ => none
  | _, _, _, _, _ => none

def compBuiltin (o : Oper) (b : Builtin) (ts : Array TypeId) (xs : List Operand) : Option IK :=
  match b, xs with
  | .append, [x, y] => match ts[0]?, ts[1]?, opd E nt x, opd E nt y with
    | some t, some u, some x, some y => match elemOfSl E t, E.ty u with
      | some (e, te), some tu => match good te, tu.k with
        | true, .int _ => none
        | true, _ => some (.append e te.size x y)
        | false, _ => none
      | _, _ => none
    | _, _, _, _ => none
  | .copy, [x, y] => match ts[0]?, opd E nt x, opd E nt y with
    | some t, some x, some y => match elemOfSl E t with
      | some (e, te) => match good te with
        | true => some (.copy e te.size x y)
        | false => none
      | none => none
    | _, _, _ => none
  | .len, [x] => match ts[0]?, opd E nt x with
    | some t, some x => match E.ty t with
      | some ti => match ti.k with
        | .string => some (.len 0 x)
        | .slice _ => some (.len 1 x)
        | .map _ _ => some (.len 2 x)
        | _ => none
      | none => none
    | _, _ => none
  | .cap, [x] => match ts[0]?, opd E nt x with
    | some t, some x => match E.ty t with
      | some ⟨.slice _, _, _, _⟩ => some (.cap x)
      | _ => none
    | _, _ => none
  | .clear, [x] => match ts[0]?, opd E nt x with
    | some t, some x => match E.ty t with
      | some ⟨.map _ _, _, _, _⟩ => some (.clear true 0 [] x)
      | some ⟨.slice e, _, _, _⟩ => match goodOf E e with
        | some te => some (.clear false e te.zero x)
        | none => none
      | _ => none
    | _, _ => none
  | .unsafeSliceData, [x] => (opd E nt x).map .sdata
  | .unsafeString, [x, n] => match ts[0]?, opd E nt x, opd E nt n with
    | some t, some x, some n => match E.ty t with
      | some ⟨.pointer e, _, _, _⟩ => match E.ty e with
        | some ⟨.int .u8, _, 1, _⟩ => some (.ustr e x n)
        | _ => none
      | _ => none
    | _, _, _ => none
  | .recover, [] => some .recover
  | .max, xs | .min, xs | .real, xs | .imag, xs | .complex, xs => compPure E nt o xs
  | _, _ => none

def compIK (o : Oper) : Option IK :=
  match o.op with
  | .move x | .assign x => (opd E nt x).map .mv
  | .pick c a b => match opd E nt c, opd E nt a, opd E nt b with
    | some c, some a, some b => some (.pick c a b)
    | _, _, _ => none
  | .alloc e => match goodOf E e with
    | some te => some (.alloc e te.zero)
    | none => none
  | .box e x => match goodOf E e, opd E nt x with
    | some _, some x => some (.box e x)
    | _, _ => none
  | .build t ps => match E.ty t with
    | some ⟨.struct fs, z, _, _⟩ => match z.all noAddr && fs.toList.all (fun f => (E.ty f.type).isSome), partsS E nt t ps.toList with
      | true, some l => some (.build z l)
      | _, _ => none
    | some ⟨.array _ e, z, _, _⟩ => match goodOf E e, z.all noAddr with
      | some te, true => (partsA E nt te.size ps.toList).map (.build z)
      | _, _ => none
    | _ => none
  | .buildSlice t n ps => match elemOfSl E t with
    | some (e, te) => match good te && Nat.ble (Nat.mul n te.size) 16777216, partsA E nt te.size ps.toList with
      | true, some l => some (.bslice e te.zero n l)
      | _, _ => none
    | none => none
  | .load t a => match E.ty t, opd E nt a with
    | some ti, some a => match isAggD ti.k with
      | true => some (.ldn ti.size a)
      | false => some (.ld1 a)
    | _, _ => none
  | .store t a x => match E.ty t, opd E nt a, opd E nt x with
    | some ti, some a, some x => some (.st ti.size a x)
    | _, _, _ => none
  | .nilCheck x => (opd E nt x).map .nilchk
  | .binOp op t x y _ => compBin E nt o op t x y
  | .unOp .not _ x => (opd E nt x).map .not
  | .unOp _ _ x => compPure E nt o [x]
  | .convert s d x => compConv E nt o s d x
  | .makeInterface t x => match E.ty t, opd E nt x with
    | some ti, some x => match ti.k with
      | .interface _ => none
      | _ => some (.mkIface t x)
    | _, _ => none
  | .makeFunc (.func f) a b => match opds E nt a.toList, opds E nt b.toList with
    | some a, some b => some (.mkFunc f a b)
    | _, _ => none
  | .makeMap _ none => some .mkMap
  | .makeSlice t l c => match elemOfSl E t, opd E nt l, opd E nt c with
    | some (e, te), some l, some c => match good te with
      | true => some (.mkSlice e te.zero l c)
      | false => none
    | _, _, _ => none
  | .slice t x lo hi mx => compSlice E nt t x lo hi mx
  | .fieldAddr t x f => match fieldOf E t f, opd E nt x with
    | some (off, ti), some x => match Nat.beq ti.size 0 with
      | true => none
      | false => some (.fadr off x)
    | _, _ => none
  | .field t x f => match fieldOf E t f, opd E nt x with
    | some (off, ti), some x => match isAggD ti.k with
      | true => some (.fldn off ti.size x)
      | false => some (.fld1 off x)
    | _, _ => none
  | .indexAddr t x i => match E.ty t, opd E nt x, opd E nt i with
    | some ⟨.slice e, _, _, _⟩, some x, some i => match E.ty e with
      | some te => some (.ixAS te.size x i)
      | none => none
    | some ⟨.array n e, _, _, _⟩, some x, some i => match E.ty e with
      | some te => some (.ixAA n te.size x i)
      | none => none
    | _, _, _ => none
  | .index t x i => match E.ty t, opd E nt x, opd E nt i with
    | some ⟨.string, _, _, _⟩, some x, some i => some (.ixStr x i)
    | some ⟨.array n e, _, _, _⟩, some x, some i => match E.ty e with
      | some te => match isAggD te.k with
        | true => some (.ixAn n te.size x i)
        | false => some (.ixA1 n te.size x i)
      | none => none
    | _, _, _ => none
  | .lookup t m k ok => match E.ty t, opd E nt m, opd E nt k with
    | some ⟨.map kt et, _, _, _⟩, some m, some k => match zeroOf E et with
      | some z => match noAddr z with
        | true => some (.lookup kt z m k ok)
        | false => none
      | none => none
    | _, _, _ => none
  | .mapUpdate t m k v | .insert t m k v => match E.ty t, opd E nt m, opd E nt k, opd E nt v with
    | some ⟨.map kt _, _, _, _⟩, some m, some k, some v => some (.mapUpd kt m k v)
    | _, _, _, _ => none
  | .mapEntry t m k => match E.ty t, opd E nt m, opd E nt k with
    | some ⟨.map kt et, _, _, _⟩, some m, some k => match zeroOf E et with
      | some z => match noAddr z with
        | true => some (.mapEnt kt z m k)
        | false => none
      | none => none
    | _, _, _ => none
  | .entryStore _ m s v => match opd E nt m, opd E nt s, opd E nt v with
    | some m, some s, some v => some (.entSt m s v)
    | _, _, _ => none
  | .range t x => match E.ty t, opd E nt x with
    | some ⟨.string, _, _, _⟩, some x => some (.rangeS x)
    | some ⟨.map _ _, _, _, _⟩, some x => some (.rangeM x)
    | _, _ => none
  | .next it true => (opd E nt it).map .nextS
  | .next it false => (opd E nt it).map .nextM
  | .entry it => (opd E nt it).map .entry
  | .typeAssert x _ a ok => match E.ty a, opd E nt x, zeroOf E a with
    | some ti, some x, some z => match ti.k, noAddr z with
      | .interface _, _ => none
      | _, true => some (.tassert a z ok x)
      | _, false => none
    | _, _, _ => none
  | .extract x i => (opd E nt x).map fun x => .extr x i
  | .call { callee := .value (.func f), args, .. } => (opds E nt args.toList).map (.callF f)
  | .call { callee := .value f, args, .. } => match opd E nt f, opds E nt args.toList with
    | some f, some xs => some (.call f xs)
    | _, _ => none
  | .call { callee := .builtin b, args, argTypes } => compBuiltin E nt o b argTypes args.toList
  | .defer { callee := .value f, args, .. } => match opd E nt f, opds E nt args.toList with
    | some f, some xs => some (.defer f xs)
    | _, _ => none
  | .panic x => (opd E nt x).map .panic
  | _ => none

/-- What an operation's meaning asks of it. -/
def slim (o : Oper) : Oper := ⟨none, o.op, o.type, "", #[], none⟩

def compOp (ops : Array Oper) (o : Oper) : Option IOp :=
  match (match compIK E nt (slim o) with | some k => k | none => .bad) with
  | k =>
    match (match o.dst with | none => some none | some d => (match Nat.blt d nt with | true => some (some (pos d)) | false => none)),
      (match o.guard with | none => some none | some (j, w) => (match ops[j]? with | some oj => (match oj.dst with | some d => some (some (pos d, w)) | none => none) | none => none)) with
    | some d, some g => some ⟨d, g, k⟩
    | _, _ => none

def compOps (ops : Array Oper) : List Oper → Option (List IOp)
  | [] => some []
  | o :: os => match compOp E nt ops o, compOps ops os with
    | some x, some xs => some (x :: xs)
    | _, _ => none

/-- How an operation is taken in a region whose order is open: 0: it asks nothing of the heap; 1: it reads; 2: it makes a block of zeros; 3: else. -/
def clsOf : IK → Nat
  | .mv _ | .pick _ _ _ | .build _ _ | .nilchk _ | .add _ _ _ | .sub _ _ _ | .lss _ _ _ | .leq _ _ _ | .gtr _ _ _ | .geq _ _ _ | .eql _ _ _ _ | .neq _ _ _ _
  | .not _ | .pure _ _ | .mkIface _ _ | .mkFunc _ _ _ | .slStr _ _ _ | .fadr _ _ | .fld1 _ _ | .fldn _ _ _
  | .ixAS _ _ _ | .ixAA _ _ _ _ | .ixA1 _ _ _ _ | .ixAn _ _ _ _ | .ixStr _ _ | .tassert _ _ _ _ | .extr _ _ | .cap _ => 0
  | .ld1 _ | .ldn _ _ | .lookup _ _ _ _ _ | .len _ _ | .entry _ | .slSl _ _ _ _ _ _ => 1
  | .alloc _ _ | .mkMap => 2
  | _ => 3

/-- The operands of an operation. -/
def kOpds : IK → List Opd
  | .mv x | .box _ x | .ld1 x | .ldn _ x | .nilchk x | .not x | .cvPtr _ x | .cvBack _ _ x | .cvStr x | .cvBytes _ x | .mkIface _ x | .fadr _ x | .fld1 _ x | .fldn _ _ x | .rangeS x | .rangeM x | .nextS x | .nextM x | .entry x
  | .tassert _ _ _ x | .extr x _ | .len _ x | .cap x | .clear _ _ _ x | .sdata x | .panic x => [x]
  | .pick c a b => [c, a, b]
  | .alloc _ _ | .mkMap | .recover | .bad => []
  | .build _ ps | .bslice _ _ _ ps => ps.map (·.2.2)
  | .st _ a x => [a, x]
  | .add x y _ | .sub x y _ | .lss x y _ | .leq x y _ | .gtr x y _ | .geq x y _ => [x, y]
  | .eql _ x y _ | .neq _ x y _ => [x, y]
  | .pure xs _ => xs.map (·.2)
  | .mkFunc _ a b => a ++ b
  | .mkSlice _ _ l c => [l, c]
  | .slStr x lo hi => x :: (lo.toList ++ hi.toList)
  | .slSl _ _ x lo hi mx => x :: (lo.toList ++ hi.toList ++ mx.toList)
  | .ixAS _ x i | .ixAA _ _ x i | .ixA1 _ _ x i | .ixAn _ _ x i | .ixStr x i => [x, i]
  | .lookup _ _ m k _ => [m, k]
  | .mapUpd _ m k v => [m, k, v]
  | .mapEnt _ _ m k => [m, k]
  | .entSt m s v => [m, s, v]
  | .call f xs | .defer f xs => f :: xs
  | .callF _ xs => xs
  | .append _ _ x y | .copy _ _ x y => [x, y]
  | .ustr _ x n => [x, n]

def Pos.beq : Pos → Pos → Bool
  | .h, .h => true
  | .o p, .o q => Pos.beq p q
  | .i p, .i q => Pos.beq p q
  | _, _ => false

def hasP (p : Pos) : List Pos → Bool
  | [] => false
  | q :: qs => match Pos.beq p q with
    | true => true
    | false => hasP p qs

def hasD (p : Option Pos) (l : List Pos) : Bool :=
  match p with
  | none => false
  | some p => hasP p l

def opdPos : List Opd → List Pos
  | [] => []
  | .t p :: xs => p :: opdPos xs
  | .c _ :: xs => opdPos xs

/-- The temporaries that an operation looks at. -/
def looks (o : IOp) : List Pos := (match o.g with | some (p, _) => [p] | none => []) ++ opdPos (kOpds o.k)

/-- Is i ahead of j, by the edges? -/
def ahead (b : Array Nat) (i j : Nat) : Bool := (b.getD j 0).testBit i

/-- The table says no more than the edges do. -/
def tableOk (ops : Array Oper) (b : Array Nat) : Bool :=
  (List.range ops.size).all fun j => match ops[j]? with
    | none => true
    | some o => (o.after.toList.all fun e => !Region.binds .any e || Nat.blt e.on j) &&
      (List.range ops.size).all fun i => !ahead b i j || o.after.toList.any fun e => Region.binds .any e && (Nat.beq e.on i || ahead b i e.on)

def isBig : Cls → Bool
  | .big _ => true
  | _ => false

def clsOk (c : Cls) (k : IK) : Bool :=
  match c with
  | .pure => Nat.beq (clsOf k) 0
  | .read _ => Nat.beq (clsOf k) 1
  | .free _ => Nat.beq (clsOf k) 2
  | .big _ => true

def idxIn (i : Nat) : List (Nat × IOp × Cls) → Bool
  | [] => false
  | (j, _) :: r => match Nat.beq i j with
    | true => true
    | false => idxIn i r

/-- An operation against one that is taken before. -/
def pairOk (b : Array Nat) (i : Nat) (o : IOp) (c : Cls) (j : Nat) (oj : IOp) (cj : Cls) : Bool :=
  !(Nat.beq i j) && !(hasD oj.dst (match o.dst with | some p => [p] | none => [])) &&
  (!(hasD oj.dst (looks o)) || ahead b j i) && (!(hasD o.dst (looks oj)) || ahead b j i) && !(ahead b i j) &&
  (!(isBig cj) || ahead b j i) &&
  (match c, cj with
  | .big re, .read _ => ahead b j i || hasN j re
  | .big re, .free _ => ahead b j i || hasN j re
  | .free _, .read _ => false
  | _, _ => true)

/-- The order in which the operations are taken. -/
def entsOk (n : Nat) (b : Array Nat) : List (Nat × IOp × Cls) → List (Nat × IOp × Cls) → Bool
  | _, [] => true
  | pre, (i, o, c) :: rest =>
    Nat.blt i n && clsOk c o.k && !(hasD o.dst (looks o)) && !(ahead b i i) &&
    ((List.range n).all fun j => !(ahead b j i) || idxIn j pre) &&
    (pre.all fun (j, oj, cj) => pairOk b i o c j oj cj) &&
    entsOk n b ((i, o, c) :: pre) rest

/-- How many great operations are ahead of the i-th by the edges. -/
def greatAhead (b : Array Nat) (cl : List Nat) (i : Nat) : Nat := (cl.zipIdx.filter fun (c, j) => Nat.beq c 3 && ahead b j i).length

/-- The order of the stages: what has s great operations ahead, then the s-th great one. -/
def stages (b : Array Nat) (cl : List Nat) : List Nat :=
  let gs := (cl.zipIdx.filter fun (c, _) => Nat.beq c 3).map (·.2)
  (List.range (gs.length + 1)).flatMap fun s =>
    (cl.zipIdx.filter fun (c, j) => Nat.beq c 2 && Nat.beq (greatAhead b cl j) s).map (·.2) ++
    (cl.zipIdx.filter fun (c, j) => Nat.blt c 2 && Nat.beq (greatAhead b cl j) s).map (·.2) ++ (gs.drop s).take 1

/-- What may still be done behind a great operation. -/
def openReads (b : Array Nat) (cl : List Nat) (i : Nat) : List Nat :=
  (cl.zipIdx.filter fun (c, j) => (Nat.beq c 1 || Nat.beq c 2) && !(ahead b j i)).map (·.2)

def entries (b : Array Nat) (l : List IOp) (cl : List Nat) : List Nat → Option (List (Nat × IOp × Cls))
  | [] => some []
  | i :: is => match l[i]?, entries b l cl is with
    | some o, some r => some ((i, o, match clsOf o.k with
      | 0 => .pure
      | 1 => .read 0
      | 2 => .free 0
      | _ => .big (openReads b cl i)) :: r)
    | _, _ => none

def compDraw (ops : Array Oper) : Option (List (Nat × IOp × Cls)) :=
  match compOps E nt ops ops.toList with
  | none => none
  | some l =>
    let b := Region.before ops
    let cl := l.map fun o => clsOf o.k
    match entries b l cl (stages b cl) with
    | none => none
    | some es => match tableOk ops b && entsOk ops.size b [] es && (List.range ops.size).all (fun i => idxIn i es) with
      | true => some es
      | false => none

def labelsOf : Code → List Nat
  | .seq a b => labelsOf a ++ labelsOf b
  | .label l => [l]
  | _ => []

def comp : Nat → Code → Option IC
  | 0, _ => none
  | n + 1, c =>
    match c with
    | .skip | .label _ => some .skip
    | .region _ ops false => (compOps E nt ops ops.toList).map .reg
    | .region _ ops true => (compDraw E nt ops).map .draw
    | .seq a b => match comp n a, comp n b with
      | some a, some b => some (.seq a b)
      | _, _ => none
    | .cond c a b => match opd E nt c, comp n a, comp n b with
      | some c, some a, some b => some (.cond c a b)
      | _, _, _ => none
    | .block id c => (comp n c).map (.block id)
    | .loop c => (comp n c).map .loop
    | .exit id => some (.exit id)
    | .goto l => some (.goto l)
    | .ret => some .ret
    | .scope c => match comp n c, (labelsOf c).mapM (fun l => (findLabel c l).bind fun r => (comp n r).map fun r => (l, r)) with
      | some b, some ls => some (.scope b ls)
      | _, _ => none
    | .rangeFunc f ps a b => match opd E nt f, comp n a, comp n b, ps.all (Nat.blt · nt) with
      | some f, some a, some b, true => some (.rangeF f (ps.toList.map pos) a b)
      | _, _, _, _ => none
    | .refuse _ => some .bad

def compRes : List ResultVar → Option (List IRes)
  | [] => some []
  | .tmp t :: r => match Nat.blt t nt, compRes r with
    | true, some l => some (.t (pos t) :: l)
    | _, _ => none
  | .cell a t :: r => match Nat.blt a nt, E.ty t, compRes r with
    | true, some ti, some l => some ((match isAggD ti.k with | true => .cn ti.size (pos a) | false => .c1 (pos a)) :: l)
    | _, _, _ => none

def compFn (f : Func) : Option IFn :=
  match f.body with
  | none => none
  | some c => match Nat.blt f.ntmps 1000000, comp E f.ntmps 200 c, compRes E f.ntmps f.results.toList with
    | true, some b, some r => some ⟨b, f.ntmps, r⟩
    | _, _, _ => none

end
end Go.Abs

/- Summaries of calls: functions of the library that have no body; calls that were run ahead. -/
namespace Go.Abs
noncomputable section

/-- The numbers of the functions without a body. -/
structure Xt where
  idx : Nat
  cnt : Nat
  esc : Nat
  mnz : Nat
  u8 : TypeId

def pureSm (P : Program) (s : Sem Value) (args : List Value) (h : AH) : Option (Value × AH) :=
  match noAddrs args with
  | false => none
  | true => match pureRun P s with
    | some v => match noAddr v with
      | true => some (v, h)
      | false => none
    | none => none

def extSm (P : Program) (X : Xt) (f : Nat) (args : List Value) (h : AH) : Option (Value × AH) :=
  match Nat.beq f X.idx with
  | true => pureSm P (Extern.BytealgIndexByte.indexByte ⟨args⟩) args h
  | false => match Nat.beq f X.cnt with
    | true => pureSm P (Extern.BytealgCount.count ⟨args⟩) args h
    | false => match Nat.beq f X.esc with
      | true => match args with
        | [v] => some (v, h)
        | _ => none
      | false => match Nat.beq f X.mnz with
        | true => match args with
          | [.int .i64 (.ofNat n)] => match Nat.ble n 65536 && Nat.blt h.nx 1099511627775 with
            | true => natK (Nat.succ h.nx) fun k => some (.slice (some ⟨h.nx, 0, none⟩) n unk, ⟨T.set (some (.row [] X.u8 true)) (pos h.nx) h.t, k⟩)
            | false => none
          | _ => none
        | false => none

/-- A call that was run ahead: what must be there; what is there after it. nx: the next number after it; 0: as before. -/
structure Sm where
  f : Nat
  args : List Value
  h : List (Nat × AObj)
  base : Nat
  v : Value
  g : List (Nat × Option AObj)
  nx : Nat

def entEqs : List MapEntry → List MapEntry → Bool
  | [], [] => true
  | a :: as, b :: bs => veq a.key b.key && veq a.val b.val && Nat.beq a.born b.born && entEqs as bs
  | _, _ => false

def natEqs : List Nat → List Nat → Bool
  | [], [] => true
  | a :: as, b :: bs => Nat.beq a b && natEqs as bs
  | _, _ => false

def objEq : AObj → AObj → Bool
  | .row a e r, .row b f s => Nat.beq e f && (match r, s with | true, true => true | false, false => true | _, _ => false) && veqs a b
  | .map a c, .map b d => Nat.beq c d && entEqs a b
  | .mapIt a b c d, .mapIt a' b' c' d' => Nat.beq a a' && Nat.beq b b' && Nat.beq d d' && natEqs c c'
  | .mapNil, .mapNil => true
  | _, _ => false

def hasAll (h : AH) : List (Nat × AObj) → Bool
  | [] => true
  | (b, o) :: r => match h.get b with
    | some x => match objEq o x with
      | true => hasAll h r
      | false => false
    | none => false

def over (t : T AObj) : List (Nat × Option AObj) → T AObj
  | [] => t
  | (b, o) :: r => over (T.set o (pos b) t) r

/-- A tree of a list. -/
def treeOf {α : Type} : List (Nat × α) → T α
  | [] => .leaf
  | (b, o) :: r => T.set (some o) (pos b) (treeOf r)

def hOf : List (Nat × AObj) → T AObj
  | [] => .leaf
  | (b, o) :: r => T.set (some o) (pos b) (hOf r)

def pick (f : Nat) : List Sm → List Value → AH → Option (Value × AH)
  | [], _, _ => none
  | s :: ss, args, h => match Nat.beq s.f f && veqs s.args args with
    | false => pick f ss args h
    | true => match Nat.ble h.nx s.base with
      | false => pick f ss args h
      | true => match hasAll h s.h with
        | false => pick f ss args h
        | true => match Nat.beq s.nx 0 with
          | true => some (s.v, ⟨over h.t s.g, h.nx⟩)
          | false => some (s.v, ⟨over h.t s.g, s.nx⟩)

def tabSm (tb : T (List Sm)) (f : Nat) (args : List Value) (h : AH) : Option (Value × AH) :=
  match Nat.ble f 65535 with
  | false => none
  | true => match tb.get (pos f) with
    | none => none
    | some l => pick f l args h

def allSm (P : Program) (X : Xt) (tb : T (List Sm)) (f : Nat) (args : List Value) (h : AH) : Option (Value × AH) :=
  match tabSm tb f args h with
  | some r => some r
  | none => extSm P X f args h

def keyIn (b : Nat) : List (Nat × Option AObj) → Bool
  | [] => false
  | (c, _) :: r => match Nat.beq b c with
    | true => true
    | false => keyIn b r

def keyInH (b : Nat) : List (Nat × AObj) → Bool
  | [] => false
  | (c, _) :: r => match Nat.beq b c with
    | true => true
    | false => keyInH b r

mutual
/-- The numbers of blocks in a value. -/
def idsOk (K : Nat → Bool) : Value → Bool
  | .pointer (some ⟨b, _, _⟩) => K b
  | .slice (some ⟨b, _, _⟩) _ _ => Nat.beq b unk || K b
  | .map (some b) => K b
  | .func (.func _) ⟨a⟩ ⟨c⟩ => idsOks K a && idsOks K c
  | .func _ _ _ => false
  | .iface _ v => idsOk K v
  | .agg ⟨cs⟩ => idsOks K cs
  | .tuple ⟨cs⟩ => idsOks K cs
  | _ => true
def idsOks (K : Nat → Bool) : List Value → Bool
  | [] => true
  | v :: vs => idsOk K v && idsOks K vs
end

def mutB : AObj → Bool
  | .row _ _ rw => rw
  | _ => true

def objIds (K : Nat → Bool) : AObj → Bool
  | .row cs _ _ => idsOks K cs
  | .map es _ => es.all fun e => idsOk K e.key && idsOk K e.val
  | .mapIt b _ _ _ => K b
  | .mapNil => true
  | .str _ _ => true
  | .defs => true
  | .loop _ _ _ _ _ _ => false

/-- What must be so of a call that was run ahead, its run apart. -/
def smChk (s : Sm) : Bool :=
  Nat.blt s.base 1099511627776 && Nat.blt s.nx 1099511627776 &&
  (s.h.all fun (b, o) => Nat.blt b s.base && (!(mutB o) || keyIn b s.g)) &&
  (s.g.all fun (b, o) => Nat.blt b 1099511627776 && (if Nat.blt b s.base then keyInH b s.h else !(Nat.beq s.nx 0) && match o with | some x => mutB x | none => true)) &&
  (Nat.beq s.nx 0 || (Nat.ble s.base s.nx && s.g.all fun (b, _) => Nat.blt b s.nx)) &&
  idsOk (fun b => Nat.blt b s.base || keyIn b s.g) s.v &&
  (s.g.all fun (_, o) => match o with | some x => objIds (fun b => Nat.blt b s.base || keyIn b s.g) x | none => true)

mutual
/-- Another name for each block. -/
def ren (σ : Nat → Nat) : Value → Value
  | .pointer (some ⟨b, i, s⟩) => .pointer (some ⟨σ b, i, s⟩)
  | .slice (some ⟨b, i, s⟩) n c => match Nat.beq b unk with
    | true => .slice (some ⟨b, i, s⟩) n c
    | false => .slice (some ⟨σ b, i, s⟩) n c
  | .map (some b) => .map (some (σ b))
  | .func f ⟨a⟩ ⟨c⟩ => .func f ⟨rens σ a⟩ ⟨rens σ c⟩
  | .iface t v => .iface t (ren σ v)
  | .agg ⟨cs⟩ => .agg ⟨rens σ cs⟩
  | .tuple ⟨cs⟩ => .tuple ⟨rens σ cs⟩
  | v => v
def rens (σ : Nat → Nat) : List Value → List Value
  | [] => []
  | v :: vs => ren σ v :: rens σ vs
end

def renE (σ : Nat → Nat) : List MapEntry → List MapEntry
  | [] => []
  | e :: es => ⟨ren σ e.key, ren σ e.val, e.born⟩ :: renE σ es

def renO (σ : Nat → Nat) : AObj → AObj
  | .row cs e rw => .row (rens σ cs) e rw
  | .map es c => .map (renE σ es) c
  | .mapIt b since seen st => .mapIt (σ b) since seen st
  | o => o

def sg : List (Nat × Nat) → Nat → Nat
  | [], b => b
  | (a, c) :: r, b => match Nat.beq a b with
    | true => c
    | false => sg r b

def inSg (b : Nat) : List (Nat × Nat) → Bool
  | [] => false
  | (a, _) :: r => match Nat.beq a b with
    | true => true
    | false => inSg b r

def fndI (base b c : Nat) (σ : List (Nat × Nat)) : List (Nat × Nat) :=
  match Nat.ble base b && !(Nat.beq b unk) && !(inSg b σ) with
  | true => (b, c) :: σ
  | false => σ

mutual
/-- Which block stands for which. -/
def fnd (base : Nat) : Value → Value → List (Nat × Nat) → List (Nat × Nat)
  | .pointer (some a), .pointer (some c), σ => fndI base a.block c.block σ
  | .slice (some a) _ _, .slice (some c) _ _, σ => fndI base a.block c.block σ
  | .map (some a), .map (some c), σ => fndI base a c σ
  | .func _ ⟨a⟩ ⟨b⟩, .func _ ⟨c⟩ ⟨d⟩, σ => fnds base b d (fnds base a c σ)
  | .iface _ v, .iface _ w, σ => fnd base v w σ
  | .agg ⟨a⟩, .agg ⟨c⟩, σ => fnds base a c σ
  | .tuple ⟨a⟩, .tuple ⟨c⟩, σ => fnds base a c σ
  | _, _, σ => σ
def fnds (base : Nat) : List Value → List Value → List (Nat × Nat) → List (Nat × Nat)
  | v :: vs, w :: ws, σ => fnds base vs ws (fnd base v w σ)
  | _, _, σ => σ
end

def fndE (base : Nat) : List MapEntry → List MapEntry → List (Nat × Nat) → List (Nat × Nat)
  | a :: as, b :: bs, σ => fndE base as bs (fnd base a.val b.val (fnd base a.key b.key σ))
  | _, _, σ => σ

def fndG (base : Nat) (h : AH) : List (Nat × Option AObj) → List (Nat × Nat) → List (Nat × Nat)
  | [], σ => σ
  | (_, none) :: r, σ => fndG base h r σ
  | (b, some o) :: r, σ => fndG base h r (match o, h.get (sg σ b) with
    | .row a _ _, some (.row c _ _) => fnds base a c σ
    | .map a _, some (.map c _) => fndE base a c σ
    | _, _ => σ)

def isThere (σ : Nat → Nat) (h : AH) : List (Nat × Option AObj) → Bool
  | [] => true
  | (_, none) :: r => isThere σ h r
  | (b, some o) :: r => match h.get (σ b) with
    | some x => match objEq (renO σ o) x with
      | true => isThere σ h r
      | false => false
    | none => false

def hasSnd (c : Nat) : List (Nat × Nat) → Bool
  | [] => false
  | (_, d) :: r => match Nat.beq c d with
    | true => true
    | false => hasSnd c r

/-- Names of new blocks for new ones, none twice. -/
def sgOk (base : Nat) : List (Nat × Nat) → Bool
  | [] => true
  | (a, c) :: r => Nat.ble base a && Nat.ble base c && !(hasSnd c r) && !(Nat.beq c unk) && sgOk base r

def newIn (base : Nat) (σ : List (Nat × Nat)) : List (Nat × Option AObj) → Bool
  | [] => true
  | (b, _) :: r => (Nat.blt b base || inSg b σ) && newIn base σ r

def smSg (s : Sm) (u : Value) (h : AH) : List (Nat × Nat) := fndG s.base h s.g (fnd s.base s.v u [])

/-- Does a run end as the summary says? -/
def smFit (s : Sm) (u : Value) (h : AH) (σ : List (Nat × Nat)) : Bool :=
  sgOk s.base σ && newIn s.base σ s.g && veq (ren (sg σ) s.v) u && isThere (sg σ) h s.g

def smEnd (s : Sm) : KR := fun r h =>
  match r with
  | .ret u => (Nat.beq s.nx 0 || Nat.ble h.nx s.nx) && smFit s u h (smSg s u h)
  | .panic _ => false

def smRun (C : Ctx) (n : Nat) (s : Sm) : Bool := callK C (exec C n) s.f s.args ⟨hOf s.h, s.base⟩ (smEnd s)

end
end Go.Abs
