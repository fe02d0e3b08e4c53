/- Px1: data values, what Go values read as, contracts in terms of data, symbolic states, and the symbolic compiler of Go code into a small tree of calls, primitives, branches and loops, with that tree's meaning. Definitions only. -/
import Derived.Orders
import Derived.Below
import Derived.LoopN
import Derived.Laws.AppendOwn
namespace Go.Px
open Go.RowKit

/-- Data: what a Go value holds, with no memory in sight. A list has a length in elements; its elements' cells lie one behind the other. -/
inductive DV where
  | bool (b : Bool)
  | int (k : IntKind) (n : Int)
  | list (n : Nat) (cells : List DV)
  deriving Inhabited

/-- In the world w the value v reads as the datum, by cells of blocks that are ok. -/
inductive Reads (ok : Nat → Prop) (w : World) : DV → Value → Prop
  | bool (b : Bool) : Reads ok w (.bool b) (.bool b)
  | int (k : IntKind) (n : Int) : Reads ok w (.int k n) (.int k n)
  | list (n : Nat) (cells : List DV) (a : Option Addr) (cap : Nat) (f : Nat → Value) (hcap : n ≤ cap)
      (hmem : cells ≠ [] → ∃ ad, a = some ad ∧ ok ad.block ∧ ∀ j, j < cells.length → w.cell? (ad.add j) = some (f j))
      (hr : ∀ j d, cells[j]? = some d → Reads ok w d (f j)) : Reads ok w (.list n cells) (.slice a n cap)

/-- A datum handed over: a plain one, a struct or an array by its cells, a box that is only read. -/
inductive AV where
  | one (d : DV)
  | agg (ds : List DV)
  | ref (ds : List DV)
  | own (s : Nat) (E : TypeId) (n : Nat) (cells : List DV)
  | nref (ds : List (Option DV))
  deriving Inhabited

def RepAV (ok : Nat → Prop) (w : World) : AV → Value → Prop
  | .one d, v => Reads ok w d v
  | .agg ds, v => ∃ vs : Array Value, v = .agg vs ∧ vs.size = ds.length ∧ ∀ (j : Nat) (d : DV), ds[j]? = some d → ∃ u, vs[j]? = some u ∧ Reads ok w d u
  | .ref ds, v => ∃ b arr T fz, v = .pointer (some ⟨b, 0, none⟩) ∧ w.heap[b]? = some (.cells arr T fz) ∧ arr.size = ds.length ∧ ∀ (j : Nat) (d : DV), ds[j]? = some d → ∃ u, arr[j]? = some u ∧ Reads ok w d u
  | .own .., _ => False
  | .nref ds, v => ∃ b arr T fz b2 arr2 T2 fz2, v = .pointer (some ⟨b, 0, none⟩) ∧ w.heap[b]? = some (.cells arr T fz) ∧ arr = #[.pointer (some ⟨b2, 0, none⟩)] ∧ w.heap[b2]? = some (.cells arr2 T2 fz2) ∧ arr2.size = ds.length ∧ (∀ (j : Nat) (u : Value), arr2[j]? = some u → ∀ cs, u ≠ .agg cs) ∧
      ∀ (j : Nat) (d : DV), ds[j]? = some (some d) → ∃ u, arr2[j]? = some u ∧ Reads ok w d u

def RepAVs (ok : Nat → Prop) (w : World) (l : List AV) (vs : Array Value) : Prop :=
  vs.size = l.length ∧ ∀ (j : Nat) (d : AV), l[j]? = some d → ∃ u, vs[j]? = some u ∧ RepAV ok w d u

def blockOf : Value → Option Nat
  | .pointer (some a) => some a.block
  | .slice (some a) _ _ => some a.block
  | _ => none

/-- A row of the call's own: nil, or the head of a block that has room for it at least. -/
def _root_.Go.World.ownsR (w : World) (mine : Nat → Prop) (e : TypeId) (size : Nat) (v : Value) (n : Nat) (xs : List Value) : Prop :=
  xs.length = n * size ∧ ((v = .slice none 0 0 ∧ n = 0) ∨
    ∃ g cap cur, v = .slice (some ⟨g, 0, none⟩) n cap ∧ mine g ∧ w.heap[g]? = some (.cells cur e (0, 0)) ∧ n ≤ cap ∧ cap ≤ maxLen ∧ cap * size ≤ cur.size ∧ cur.toList.take (n * size) = xs)

/-- The world grows: what was there stays, and no less is drawn. -/
structure Grows (w w' : World) : Prop extends Below w.heap.size w w' where
  drawn : w.drawn ≤ w'.drawn
/-- The same, but for a row. -/
structure GrowsBy (w w' : World) (row : Option Nat) : Prop extends World.grownBy w w' row where
  drawn : w.drawn ≤ w'.drawn

/-- One result. A row handed over lies in a new block 'ow' that nothing else reads. -/
def RepR (base : Nat) (ok : Nat → Prop) (ow : Option Nat) (w : World) : AV → Value → Prop
  | .own s E n cells, v => (∃ xs : List Value, w.ownsR (fun g => base ≤ g) E s v n xs ∧ xs.length = cells.length ∧ ∀ (j : Nat) (d : DV), cells[j]? = some d → ∃ u, xs[j]? = some u ∧ Reads (fun b => (ok b ∨ base ≤ b) ∧ ow ≠ some b) w d u) ∧
      ∀ b, blockOf v = some b → ow = some b
  | x, v => RepAV (fun b => (ok b ∨ base ≤ b) ∧ ow ≠ some b) w x v

def RepRs (base : Nat) (ok : Nat → Prop) (ow : Option Nat) (w : World) (l : List AV) (vs : Array Value) : Prop :=
  vs.size = l.length ∧ ∀ (j : Nat) (d : AV), l[j]? = some d → ∃ u, vs[j]? = some u ∧ RepR base ok ow w d u

/-- A call's results: one by itself, others as a tuple. -/
def RepRes (base : Nat) (ok : Nat → Prop) (w : World) (l : List AV) (v : Value) : Prop :=
  ∃ ow : Option Nat, match l with
  | [x] => RepR base ok ow w x v
  | l => ∃ vs : Array Value, v = .tuple vs ∧ RepRs base ok ow w l vs

/-- THE CONTRACT: function f, called with arguments that read as 'args', in whatever world, returns what reads as 'res', by cells that were ok or are new; what was there stays. -/
def PureCalls (P : Program) (f : FuncId) (args res : List AV) : Prop :=
  (∃ fn, P.funcs[f]? = some fn ∧ (fn.name == "runtime.NumGoroutine") = false ∧ fn.body.isNone = false) ∧
  ∀ (w : World) (ok : Nat → Prop) (vs : Array Value), RepAVs ok w args vs →
    Calls P f vs w fun e w' => ∃ v, e = .returned v ∧ RepRes w.heap.size ok w' res v ∧ Grows w w'

/-! ### Atoms, primitives, the tree -/
inductive A where
  | var (i : Nat)
  | bol (x : Bool)
  | int (k : IntKind) (n : Int)
  | nil
  deriving DecidableEq, Repr, Inhabited

def A.ev (ρ : List DV) : A → DV
  | .var i => ρ.getD i (.bool false)
  | .bol x => .bool x
  | .int k n => .int k n
  | .nil => .list 0 []

inductive Prim where
  | bin (op : BinOp)
  | beq (neq : Bool)
  | not
  | neg
  | com
  | conv (k : IntKind)
  | len
  | get (s off : Nat)
  | inb (s : Nat)
  | slc (s : Nat)
  | mk (n : Nat)
  | app (s bytes : Nat)
  | setl (s off : Nat)
  | make (bytes : Nat)
  | pick
  | min2
  | max2
  | eqs (ks : List Bool)
  | nes (ks : List Bool)
  | cut (s : Nat)
  | lt0
  | sum
  | chr (l : List Nat)
  deriving DecidableEq, Repr, Inhabited

/-- What a binary operator tells of two integers (none: it panics, or is not told). -/
def binInt (op : BinOp) (k : IntKind) (a : Int) (k' : IntKind) (b : Int) : Option DV :=
  match op with
  | .shl => if b < 0 then none else some (.int k (k.wrap (a * 2 ^ (min b.toNat k.bits))))
  | .shr => if b < 0 then none else some (.int k (a.fdiv (2 ^ (min b.toNat k.bits))))
  | _ =>
    if k ≠ k' then none else
    match op with
    | .add => some (.int k (k.wrap (a + b)))
    | .sub => some (.int k (k.wrap (a - b)))
    | .mul => some (.int k (k.wrap (a * b)))
    | .quo => if b = 0 then none else some (.int k (k.wrap (a.tdiv b)))
    | .rem => if b = 0 then none else some (.int k (a.tmod b))
    | .and => some (.int k (k.wrap (BitVec.ofInt k.bits a &&& BitVec.ofInt k.bits b).toNat))
    | .or => some (.int k (k.wrap (BitVec.ofInt k.bits a ||| BitVec.ofInt k.bits b).toNat))
    | .xor => some (.int k (k.wrap (BitVec.ofInt k.bits a ^^^ BitVec.ofInt k.bits b).toNat))
    | .eql => some (.bool (a == b))
    | .neq => some (.bool (a != b))
    | .lss => some (.bool (decide (a < b)))
    | .leq => some (.bool (decide (a ≤ b)))
    | .gtr => some (.bool (decide (a > b)))
    | .geq => some (.bool (decide (a ≥ b)))
    | _ => none

def Prim.bin1 (op : BinOp) : DV → DV → Option DV
  | .int k a, .int k' b => binInt op k a k' b
  | _, _ => none

def setAt (cells : List DV) (j : Nat) : List DV → List DV
  | [] => cells
  | v :: r => setAt (cells.set j v) (j + 1) r

/-- Are two rows of plain numbers and truths the same? -/
def eqDVs : List Bool → List DV → List DV → Option Bool
  | [], [], [] => some true
  | false :: q, .int k a :: r, .int k' b :: r' => if k = k' then (eqDVs q r r').map (fun t => (a == b) && t) else none
  | true :: q, .bool a :: r, .bool b :: r' => (eqDVs q r r').map (fun t => (a == b) && t)
  | _, _, _ => none

def Prim.den : Prim → List DV → Option DV
  | .bin op, [x, y] => Prim.bin1 op x y
  | .beq ne, [.bool a, .bool b] => some (.bool (if ne then !(a == b) else a == b))
  | .not, [.bool b] => some (.bool !b)
  | .neg, [.int k n] => some (.int k (k.wrap (0 - n)))
  | .com, [.int k n] => some (.int k (k.wrap (BitVec.ofInt k.bits (if k.signed then -1 else k.max) ^^^ BitVec.ofInt k.bits n).toNat))
  | .conv k, [.int _ n] => some (.int k (k.wrap n))
  | .len, [.list n _] => some (.int .i64 n)
  | .get s off, [.list n cells, .int _ i] => if 0 ≤ i ∧ i < n then cells[i.toNat * s + off]? else none
  | .inb s, [.list n cells, .int _ i] => if 0 ≤ i ∧ i < n ∧ (i.toNat + 1) * s ≤ cells.length then some (.bool true) else none
  | .slc s, [.list n cells, .int _ lo, .int _ hi] =>
    if 0 ≤ lo ∧ lo ≤ hi ∧ hi ≤ n ∧ cells.length = n * s then some (.list (hi - lo).toNat ((cells.drop (lo.toNat * s)).take ((hi - lo).toNat * s))) else none
  | .mk n, l => some (.list n l)
  | .app s bytes, [.list n xs, .list m ys] => if xs.length = n * s ∧ ys.length = m * s ∧ (n + m) * bytes ≤ 2 ^ 46 then some (.list (n + m) (xs ++ ys)) else none
  | .setl s off, .list n cells :: .int _ i :: l => if 0 ≤ i ∧ i < n ∧ i.toNat * s + off + l.length ≤ cells.length then some (.list n (setAt cells (i.toNat * s + off) l)) else none
  | .make bytes, .int .i64 l :: .int .i64 c :: zs => if 0 ≤ l ∧ l ≤ c ∧ c * bytes ≤ 2 ^ 47 then some (.list l.toNat ((List.range (l.toNat * zs.length)).map fun j => zs.getD (j % zs.length) (.bool false))) else none
  | .pick, [.bool c, x, y] => some (if c then x else y)
  | .min2, [.int k x, .int k' y] => if k = k' then some (.int k (if y < x then y else x)) else none
  | .max2, [.int k x, .int k' y] => if k = k' then some (.int k (if y > x then y else x)) else none
  | .cut s, [.list n cells, .int _ lo, .int _ hi] => if 0 ≤ lo ∧ lo ≤ hi ∧ hi ≤ n ∧ cells.length = n * s then some (.int .i64 (hi - lo)) else none
  | .lt0, [.int _ i, .int _ n] => if 0 ≤ i ∧ i < n then some (.bool true) else none
  | .sum, [.int _ a, .int _ b] => some (.int .i64 (a + b))
  | .chr l, [.int _ i] => if 0 ≤ i then (l[i.toNat]?).map fun (x : Nat) => .int .u8 (x : Int) else none
  | .eqs ks, l => (eqDVs ks (l.take ks.length) (l.drop ks.length)).map .bool
  | .nes ks, l => (eqDVs ks (l.take ks.length) (l.drop ks.length)).map fun b => .bool (!b)
  | _, _ => none

inductive Arg where
  | one (a : A)
  | agg (l : List A)
  | ref (l : List A)
  | own (s : Nat) (E : TypeId) (a : A)
  deriving Repr, Inhabited, DecidableEq

def Arg.ev (ρ : List DV) : Arg → AV
  | .one a => .one (a.ev ρ)
  | .agg l => .agg (l.map (A.ev ρ))
  | .ref l => .ref (l.map (A.ev ρ))
  | .own s E a => match a.ev ρ with | .list n cells => .own s E n cells | d => .one d

/-- A result's shape: plain, or so many cells. -/
inductive Shp where
  | one
  | agg (n : Nat)
  | own (s : Nat) (E : TypeId)
  deriving Repr, Inhabited, DecidableEq

/-- A row of whole numbers. -/
def ints (zs : List Int) : DV := .list zs.length (zs.map (DV.int .i64))

/-- THE CONTRACT OF A FUNCTION THAT TURNS A ROW OF WHOLE NUMBERS in its own memory: it returns nothing, or the row, cut. -/
def RowInts (P : Program) (f : FuncId) (cut : Bool) (E : TypeId) (zs zs' : List Int) : Prop :=
  (∃ fn, P.funcs[f]? = some fn ∧ (fn.name == "runtime.NumGoroutine") = false ∧ fn.body.isNone = false) ∧
  ∀ (w : World) (v : Value), w.ownsR (fun _ => True) E 1 v zs.length (zs.map (Value.int .i64)) → Calls P f #[v] w fun e w' => ∃ v', e = .returned (if cut then v' else .tuple #[]) ∧ (cut = false → v' = v) ∧
    GrowsBy w w' (blockOf v) ∧ w'.ownsR (fun _ => True) E 1 v' zs'.length (zs'.map (Value.int .i64)) ∧ ∀ b, blockOf v' = some b → blockOf v = some b

/-- What a box's cell, or an argument, of a call that turns the box is: plain, or a row of the call's own. -/
inductive TK where
  | pl
  | row (s : Nat) (E : TypeId)
  deriving DecidableEq, Repr, Inhabited

def TKRep (mine ok : Nat → Prop) (w : World) : TK → DV → Value → Prop
  | .pl, d, v => Reads ok w d v
  | .row s E, d, v => ∃ n cells, d = .list n cells ∧ ∃ xs : List Value, w.ownsR mine E s v n xs ∧ xs.length = cells.length ∧ ∀ (j : Nat) (d : DV), cells[j]? = some d → ∃ u, xs[j]? = some u ∧ Reads ok w d u

/-- The i-th one is a row, and lies in the block m. -/
def RowAt (ks : List TK) (vals : List Value) (i m : Nat) : Prop := ∃ s E v, ks[i]? = some (.row s E) ∧ vals[i]? = some v ∧ blockOf v = some m

/-- The cells of the box gb (and what is handed over beside) are as told; their rows lie apart, and nothing else is read by them. -/
structure TSt (mine ok : Nat → Prop) (w : World) (gb : Nat) (ks : List TK) (vals : List Value) (ds : List DV) : Prop where
  len : vals.length = ks.length
  dlen : ds.length = ks.length
  rep : ∀ (i : Nat) (k : TK) (v : Value) (d : DV), ks[i]? = some k → vals[i]? = some v → ds[i]? = some d → TKRep mine ok w k d v
  inj : ∀ i j m, RowAt ks vals i m → RowAt ks vals j m → i = j
  ngb : ∀ i m, RowAt ks vals i m → m ≠ gb
  nok : ∀ i m, RowAt ks vals i m → ¬ok m
  gok : ¬ok gb

/-- What was there stays, but for what was given in. -/
structure GrowsG (w w' : World) (G : Nat → Prop) : Prop where
  os : w'.os = w.os
  tape : w'.tape = w.tape
  output : w'.output = w.output
  drawn : w.drawn ≤ w'.drawn
  size : w.heap.size ≤ w'.heap.size
  block : ∀ k, k < w.heap.size → ¬G k → w'.heap[k]? = w.heap[k]?

/-- THE CONTRACT OF A FUNCTION THAT TURNS A BOX: its first argument is the box, whose cells are plain or rows of the call's own; rows that are handed over beside are given away. 'ins': what the cells and the other arguments hold; 'outs': the plain results, and what the cells hold then. -/
def TurnCalls (P : Program) (f : FuncId) (cells args : List TK) (nres : Nat) (ins outs : List DV) : Prop :=
  (∃ fn, P.funcs[f]? = some fn ∧ (fn.name == "runtime.NumGoroutine") = false ∧ fn.body.isNone = false) ∧ outs.length = nres + cells.length ∧
  ∀ (w : World) (ok : Nat → Prop) (gb : Nat) (arr : Array Value) (T : TypeId) (avs : List Value), w.heap[gb]? = some (.cells arr T (0, 0)) → arr.size = cells.length →
    TSt (fun _ => True) ok w gb (cells ++ args) (arr.toList ++ avs) ins →
    Calls P f (Value.pointer (some ⟨gb, 0, none⟩) :: avs).toArray w fun e w' => ∃ v arr' T' own ok', e = .returned v ∧
      (∀ m, own m ↔ (m = gb ∨ (∃ i, RowAt (cells ++ args) (arr.toList ++ avs) i m) ∨ w.heap.size ≤ m)) ∧
      (∀ m, ok' m ↔ ((ok m ∨ own m) ∧ m ≠ gb ∧ ∀ i, ¬RowAt cells arr'.toList i m)) ∧
      GrowsG w w' own ∧ w'.heap[gb]? = some (.cells arr' T' (0, 0)) ∧ arr'.size = cells.length ∧ TSt own ok' w' gb cells arr'.toList (outs.drop nres) ∧
      ((nres = 0 ∧ v = .tuple #[]) ∨ (nres = 1 ∧ ∃ d, outs[0]? = some d ∧ Reads ok' w' d v))

/-- The blocks of a captured box, and of the one that it points at. -/
def CapBlk (w : World) (v : Value) (b : Nat) : Prop := blockOf v = some b ∨ ∃ b0 arr T fz a, blockOf v = some b0 ∧ w.heap[b0]? = some (.cells arr T fz) ∧ Value.pointer (some a) ∈ arr ∧ a.block = b

/-- THE CONTRACT OF A FUNCTION THAT TURNS A ROW in its own memory, by a closure g that only reads. -/
def SortCalls (P : Program) (f : FuncId) (s : Nat) (E : TypeId) (g : FuncId) (caps : List AV) (n : Nat) (cells cells' : List DV) : Prop :=
  (∃ fn, P.funcs[f]? = some fn ∧ (fn.name == "runtime.NumGoroutine") = false ∧ fn.body.isNone = false) ∧
  ∀ (w : World) (ok : Nat → Prop) (v : Value) (cv : Array Value), TKRep (fun _ => True) ok w (.row s E) (.list n cells) v → (∀ m, blockOf v = some m → ¬ok m) →
    RepAVs ok w caps cv → (∀ u ∈ cv, ∀ b, CapBlk w u b → blockOf v ≠ some b) →
    Calls P f #[v, .func (.func g) #[] cv] w fun e w' => e = .returned (.tuple #[]) ∧ GrowsBy w w' (blockOf v) ∧ TKRep (fun _ => True) ok w' (.row s E) (.list n cells') v

/-- A captured box, by atoms. -/
inductive CA where
  | ref (l : List A)
  | nref (l : List (Option A))
  deriving DecidableEq, Repr, Inhabited
def CA.ev (ρ : List DV) : CA → AV
  | .ref l => .ref (l.map (A.ev ρ))
  | .nref l => .nref (l.map fun o => o.map (A.ev ρ))

inductive IR where
  | turn (g : FuncId) (cells args : List TK) (nres : Nat) (ins : List A) (k : IR)
  | sortc (f : FuncId) (s : Nat) (E : TypeId) (g : FuncId) (caps : List CA) (x : A) (k : IR)
  | call (g : FuncId) (args : List Arg) (shp : List Shp) (k : IR)
  | prim (p : Prim) (args : List A) (k : IR)
  | ite (a : A) (x y : IR)
  | nilq (a : A) (k : IR)
  | rowc (g : FuncId) (cut : Bool) (E : TypeId) (x : A) (k : IR)
  | ret (vals : List Arg)
  | loop (inits : List A) (body : IR)
  | join (inner after : IR)
  | jump (d : Nat) (vals : List A)
  | bad
  deriving Repr, Inhabited

def AV.fits : Shp → AV → Bool
  | .one, .one _ => true
  | .agg n, .agg ds => ds.length == n
  | .own s E, .own s' E' _ _ => s == s' && E == E'
  | _, _ => false
def fitAll : List Shp → List AV → Bool
  | [], [] => true
  | s :: r, a :: l => AV.fits s a && fitAll r l
  | _, _ => false
def AV.flat : AV → List DV
  | .one d => [d]
  | .agg ds => ds
  | .ref ds => ds
  | .own _ _ n cells => [.list n cells]
  | .nref ds => ds.filterMap id
def flatAll (l : List AV) : List DV := l.flatMap AV.flat

/-- What the tree says. 'As': what jumps owe; 'ρ': what the variables hold; 'Q': what the results must be. -/
def IRwp (P : Program) : List (List DV → Prop) → List DV → IR → (List AV → Prop) → Prop
  | As, ρ, .call g args shp k, Q => ∃ res, PureCalls P g (args.map (Arg.ev ρ)) res ∧ fitAll shp res = true ∧ IRwp P As (ρ ++ flatAll res) k Q
  | As, ρ, .prim p args k, Q => ∃ d, p.den (args.map (A.ev ρ)) = some d ∧ IRwp P As (ρ ++ [d]) k Q
  | As, ρ, .ite a x y, Q => ∃ b, a.ev ρ = .bool b ∧ (b = true → IRwp P As ρ x Q) ∧ (b = false → IRwp P As ρ y Q)
  | As, ρ, .nilq a k, Q => (∃ n cells, a.ev ρ = .list n cells) ∧ ∀ b, (b = true → ∃ n, a.ev ρ = .list n []) → IRwp P As (ρ ++ [.bool b]) k Q
  | As, ρ, .rowc g cut E x k, Q => ∃ zs zs', x.ev ρ = ints zs ∧ RowInts P g cut E zs zs' ∧ IRwp P As (ρ ++ [ints zs']) k Q
  | As, ρ, .turn g cells args nres ins k, Q => ∃ outs, TurnCalls P g cells args nres (ins.map (A.ev ρ)) outs ∧ IRwp P As (ρ ++ outs) k Q
  | As, ρ, .sortc f s E g caps x k, Q => ∃ n cs cs', x.ev ρ = .list n cs ∧ SortCalls P f s E g (caps.map (CA.ev ρ)) n cs cs' ∧ IRwp P As (ρ ++ [.list n cs']) k Q
  | _, ρ, .ret vals, Q => Q (vals.map (Arg.ev ρ))
  | As, ρ, .loop inits body, Q => ∃ (I : List DV → Prop) (μ : List DV → Nat), I (inits.map (A.ev ρ)) ∧ (∀ ds, I ds → ds.length = inits.length) ∧
      ∀ ds, I ds → IRwp P (As ++ [fun ds' => I ds' ∧ μ ds' < μ ds]) ds body Q
  | As, ρ, .join inner after, Q => ∃ J : List DV → Prop, IRwp P (As ++ [J]) ρ inner Q ∧ ∀ ds, J ds → IRwp P As ds after Q
  | As, ρ, .jump d vals, _ => ∃ X, As[d]? = some X ∧ X (vals.map (A.ev ρ))
  | _, _, .bad, _ => False

/-! ### Symbolic states -/
inductive C where
  | at (a : A)
  | nils
  | ful (a : A)
  | lp (k off : Nat)
  | fp (x i : A) (s off : Nat)
  | own (k : Nat)
  | op (k : Nat) (i : A) (s off : Nat)
  | sub (k : Nat) (lo n : A) (s : Nat)
  | fn (f : FuncId) (caps : List Nat)
  | np
  | und
  | unk
  deriving DecidableEq, Repr, Inhabited

inductive S1 where
  | one (c : C)
  | agg (cs : List C)
  deriving DecidableEq, Repr, Inhabited
inductive SV where
  | s (x : S1)
  | tup (l : List S1)
  deriving DecidableEq, Repr, Inhabited
/-- What may be stored. -/
def C.solid : C → Bool
  | .und => false
  | .unk => false
  | _ => true
def S1.cells : S1 → List C
  | .one c => [c]
  | .agg cs => cs

inductive Blk where
  | box (cs : List C) (T : TypeId) (ro : Bool)
  | own (x : A) (s : Nat) (E : TypeId)
  | fro (x : A)
  deriving DecidableEq, Repr, Inhabited

structure Frm where
  tm : Nat → Option SV
  nt : Nat
  fn : FuncId
  deriving Inhabited

/-- What the states carry along: the functions that are walked into, those whose first result is a row handed over. -/
structure Cfg where
  inl : FuncId → Bool
  own : FuncId → Bool
  deriving Inhabited

structure St where
  fr : Frm
  stk : List Frm
  bl : Nat → Option Blk
  nb : Nat
  nv : Nat
  dp : Nat
  kn : List (Nat × Bool)
  cf : Cfg
  deriving Inhabited

def upd {α : Type} (f : Nat → Option α) (k : Nat) (v : Option α) : Nat → Option α := fun x => if x = k then v else f x
def St.setB (S : St) (k : Nat) (b : Blk) : St := { S with bl := upd S.bl k (some b) }
def St.dropB (S : St) (k : Nat) : St := { S with bl := upd S.bl k none }
def St.dropM (S : St) : Option Nat → St
  | some k => S.dropB k
  | none => S
def St.setT (S : St) (t : Option Tmp) (v : Option SV) : St :=
  match t with
  | none => S
  | some t => { S with fr := { S.fr with tm := upd S.fr.tm t v } }

def C.ofVal : Value → Option C
  | .bool b => some (.at (.bol b))
  | .int k n => some (.at (.int k n))
  | .slice none 0 0 => some .nils
  | .pointer none => some .np
  | _ => none
def cellsOfVal (v : Value) : Option (List C) := v.cells.toList.mapM C.ofVal
def S1.ofVal (v : Value) : Option S1 :=
  match v with
  | .agg cs => (cs.toList.mapM C.ofVal).map .agg
  | v => (C.ofVal v).map .one

def St.ev (S : St) : Operand → Option SV
  | .tmp t => S.fr.tm t
  | .const v => (S1.ofVal v).map .s
  | .func f => some (.s (.one (.fn f [])))
  | .global _ => none

/-- What is known of a truth. -/
def St.tru (S : St) : A → Option Bool
  | .bol b => some b
  | .var i => (S.kn.find? (·.1 == i)).map (·.2)
  | _ => none

/-- A cell as an atom; an own row is frozen thereby. -/
def St.toA (S : St) : C → Option (A × St)
  | .at a => some (a, S)
  | .nils => some (.nil, S)
  | .ful a => some (a, S)
  | .own k =>
    match S.bl k with
    | some (.own x _ _) => some (x, S.setB k (.fro x))
    | some (.fro x) => some (x, S)
    | _ => none
  | _ => none
/-- A cell that is an atom as it stands. -/
def C.plain : C → Option A
  | .at a => some a
  | .nils => some .nil
  | .ful a => some a
  | _ => none
def St.toAs (S : St) : List C → Option (List A × St)
  | [] => some ([], S)
  | c :: r => do
    let (a, S1) ← S.toA c
    let (l, S2) ← S1.toAs r
    pure (a :: l, S2)

def A.const : A → Option DV
  | .var _ => none
  | .bol x => some (.bool x)
  | .int k n => some (.int k n)
  | .nil => some (.list 0 [])
def DV.atom : DV → Option A
  | .bool b => some (.bol b)
  | .int k n => some (.int k n)
  | _ => none

/-- Is the atom told by so many variables? -/
def A.lt (n : Nat) : A → Bool
  | .var i => decide (i < n)
  | _ => true
def Arg.lt (n : Nat) : Arg → Bool
  | .one a => a.lt n
  | .agg l => l.all (A.lt n)
  | .ref l => l.all (A.lt n)
  | .own _ _ a => a.lt n

/-- A primitive whose value is the next variable. -/
def emit (p : Prim) (args : List A) (S : St) (K : St → Option IR) : Option IR :=
  if args.all (A.lt S.nv) then (K { S with nv := S.nv + 1 }).map (IR.prim p args) else none

/-- A primitive: carried out at once where it can be. -/
def prim (p : Prim) (args : List A) (S : St) (K : A → St → Option IR) : Option IR :=
  match (args.mapM A.const).bind (fun ds => (p.den ds).bind DV.atom) with
  | some a => K a S
  | none => emit p args S fun S' => K (.var S.nv) S'

/-- m cells of element i of a list, from cell off on. -/
def gets (x i : A) (s : Nat) : (m off : Nat) → St → (List A → St → Option IR) → Option IR
  | 0, _, S, K => K [] S
  | m + 1, off, S, K => prim (.get s off) [x, i] S fun a S => gets x i s m (off + 1) S fun l S => K (a :: l) S

def fillC (place : Nat → Option (Nat × Nat)) (cells : List C) : List (Nat × S1) → Option (List C)
  | [] => some cells
  | (i, v) :: rest =>
    match place i with
    | none => none
    | some (off, size) =>
      if v.cells.length ≠ size ∨ off + v.cells.length > cells.length then none
      else fillC place (cells.take off ++ v.cells ++ cells.drop (off + v.cells.length)) rest

def St.parts (S : St) : List (Nat × Operand) → Option (List (Nat × S1))
  | [] => some []
  | (i, x) :: r =>
    match S.ev x, S.parts r with
    | some (.s v), some l => some ((i, v) :: l)
    | _, _ => none

def isAggB (P : Program) (t : TypeId) : Bool :=
  match P.underlying t with
  | some (.struct _) | some (.array _ _) => true
  | _ => false

def zerosOf (P : Program) (t : TypeId) : Option (List C) := ((P.info? t).bind (·.zero)).bind cellsOfVal

/-- How many cells a variable of the type has. -/
def sizeT (P : Program) (t : TypeId) : Option Nat := if (P.underlying t).isSome then (P.info? t).map (·.size) else none

/-- The number by which a box that is given in is told. -/
abbrev GIV : TypeId := 1000000007
/-- Another number than that. -/
def nog (T : TypeId) : TypeId := if T = GIV then 0 else T
theorem nog_ne (T : TypeId) : nog T ≠ GIV := by
  unfold nog; split
  · decide
  · assumption

/-- What is loaded: a struct, or one cell. -/
def S1.mk (agg : Bool) (cs : List C) : Option S1 :=
  if agg then some (.agg cs) else match cs with | [c] => some (.one c) | _ => none

def St.argOf (S : St) : SV → Option (Arg × St)
  | .s (.one (.lp k 0)) =>
    match S.bl k with
    | some (.box cs _ _) => (cs.mapM C.plain).map fun l => (.ref l, S)
    | _ => none
  | .s (.one c) => (S.toA c).map fun (a, S) => (.one a, S)
  | .s (.agg cs) => (S.toAs cs).map fun (l, S) => (.agg l, S)
  | .tup _ => none
def St.argsOf (S : St) : List (Option SV) → Option (List Arg × St)
  | [] => some ([], S)
  | some v :: r => do
    let (a, S1) ← S.argOf v
    let (l, S2) ← S1.argsOf r
    pure (a :: l, S2)
  | none :: _ => none

/-- Captured variables, as arguments. -/
def capSVs (ks : List Nat) : List (Option SV) := ks.map fun k => some (.s (.one (.lp k 0)))

/-- A call's result as variables from nv on. -/
def resOf : List Shp → Nat → List S1
  | [], _ => []
  | .one :: r, n => .one (.at (.var n)) :: resOf r (n + 1)
  | .agg m :: r, n => .agg ((List.range m).map fun j => .at (.var (n + j))) :: resOf r (n + m)
  | .own _ _ :: r, n => .one .unk :: resOf r (n + 1)
def Shp.count : Shp → Nat
  | .one => 1
  | .agg n => n
  | .own _ _ => 1
def countAll (l : List Shp) : Nat := (l.map Shp.count).sum
def svOf : List S1 → SV
  | [x] => .s x
  | l => .tup l

/-- The shapes of a function's results. -/
def shpOf (P : Program) (t : TypeId) : Shp := if isAggB P t then .agg ((sizeT P t).getD 0) else .one
def shpsOf (P : Program) (fn : Func) : List Shp := fn.resultTypes.toList.map (shpOf P)

/-- The row that a function hands over as its first result. -/
def ownShp (P : Program) (fn : Func) : Option (Nat × TypeId) :=
  match (fn.resultTypes[0]?).bind P.underlying with
  | some (.slice E) => (sizeT P E).map fun s => (s, E)
  | _ => none

def boundA (o : Option Operand) (S : St) (d : Option A) : Option A :=
  match o with
  | none => d
  | some x => match S.ev x with | some (.s (.one (.at a))) => some a | _ => none

/-- What a slice holds. -/
def St.listOf (S : St) : C → Option A
  | .at a => some a
  | .ful a => some a
  | .own k => match S.bl k with | some (.own x _ _) => some x | some (.fro x) => some x | _ => none
  | _ => none

/-- A list to append to: what it holds; whether it is an own row (its number). -/
def St.base (S : St) (s : Nat) (e : TypeId) : C → Option (A × Option Nat)
  | .nils => some (.nil, none)
  | .own k => match S.bl k with | some (.own x s' e') => if s' = s ∧ e' = e then some (x, some k) else none | _ => none
  | _ => none

def symBuiltin (P : Program) (b : Builtin) (argTypes : Array TypeId) (args : List (Option SV)) (id : Nat) (S : St) (K : Option SV → St → Option IR) : Option IR :=
  match b, args with
  | .len, [some (.s (.one c))] =>
    match (argTypes[0]?).bind P.underlying with
    | some (.slice _) =>
      match c with
      | .own k =>
        match S.bl k with
        | some (.own x _ _) | some (.fro x) => prim .len [x] S fun a S => K (some (.s (.one (.at a)))) S
        | _ => none
      | .sub _ _ n _ => K (some (.s (.one (.at n)))) S
      | c => match S.toA c with | some (x, S) => prim .len [x] S fun a S => K (some (.s (.one (.at a)))) S | none => none
    | _ => none
  | .append, [some (.s (.one c)), some (.s (.one y))] =>
    match argTypes[0]?, argTypes[1]? with
    | some t, some t' =>
      match P.underlying t, P.underlying t' with
      | some (.slice e), some (.slice _) =>
        match P.info? e, zerosOf P e with
        | some ti, some zs =>
          if t ≠ t' ∨ ti.size = 0 ∨ ti.bytes = 0 ∨ ti.size ≠ zs.length then none else
          match S.toA y with
          | some (ya, S1) =>
            match c with
            | .ful xa => prim (.app ti.size ti.bytes) [xa, ya] S1 fun z S => K (some (.s (.one (.at z)))) S
            | _ =>
              match S1.base ti.size e c with
              | some (xa, old) => emit (.app ti.size ti.bytes) [xa, ya] S1 fun S2 => K (some (.s (.one (.own id)))) ((S2.dropM old).setB id (.own (.var S1.nv) ti.size e))
              | none => none
          | none => none
        | _, _ => none
      | _, _ => none
    | _, _ => none
  | .min, [some (.s (.one (.at x))), some (.s (.one (.at y)))] => prim .min2 [x, y] S fun a S => K (some (.s (.one (.at a)))) S
  | .max, [some (.s (.one (.at x))), some (.s (.one (.at y)))] => prim .max2 [x, y] S fun a S => K (some (.s (.one (.at a)))) S
  | _, _ => none

/-- A scalar type by which structs may be compared cell by cell. -/
def plainT (P : Program) (t : TypeId) : Bool :=
  match P.underlying t with
  | some .bool | some (.int _) => true
  | _ => false

/-- A cell that is a datum as it stands. -/
def atC : C → Option A
  | .at a => some a
  | _ => none
/-- Is it a truth's type? -/
def kindT (P : Program) (t : TypeId) : Bool := match P.underlying t with | some .bool => true | _ => false
/-- Fields of one plain cell each, one behind the other. -/
def plainFs (P : Program) : List Field → Nat → Bool
  | [], _ => true
  | f :: r, i => decide (f.offset = i) && plainT P f.type && decide (sizeT P f.type = some 1) && decide (f.name ≠ "_") && plainFs P r (i + 1)
/-- A struct that may be compared cell by cell. -/
def eqT (P : Program) (t : TypeId) (fs : List Field) (n m : Nat) : Bool :=
  plainFs P fs 0 && decide (fs.length = n) && decide (n = m) && !P.stoodInHeld t && !P.eqGuardType P.depth t

/-- An array that may be compared cell by cell. -/
def arrT (P : Program) (t e : TypeId) (len n m : Nat) : Bool :=
  plainT P e && decide (sizeT P e = some 1) && decide (n = len) && decide (m = len) && !P.eqGuardType P.depth t

def symBin (P : Program) (op : BinOp) (t : TypeId) (x y : SV) (S : St) (K : Option SV → St → Option IR) : Option IR :=
  match x, y with
  | .s (.one (.at a)), .s (.one (.at b)) =>
    match P.underlying t, op with
    | some .bool, .eql => prim (.beq false) [a, b] S fun z S => K (some (.s (.one (.at z)))) S
    | some .bool, .neq => prim (.beq true) [a, b] S fun z S => K (some (.s (.one (.at z)))) S
    | some (.int _), op => prim (.bin op) [a, b] S fun z S => K (some (.s (.one (.at z)))) S
    | _, _ => none
  | .s (.agg xs), .s (.agg ys) =>
    match P.underlying t, xs.mapM atC, ys.mapM atC, op with
    | some (.struct fs), some l, some r, .eql =>
      if eqT P t fs.toList xs.length ys.length then prim (.eqs (fs.toList.map fun f => kindT P f.type)) (l ++ r) S fun z S => K (some (.s (.one (.at z)))) S else none
    | some (.struct fs), some l, some r, .neq =>
      if eqT P t fs.toList xs.length ys.length then prim (.nes (fs.toList.map fun f => kindT P f.type)) (l ++ r) S fun z S => K (some (.s (.one (.at z)))) S else none
    | some (.array len e), some l, some r, .eql =>
      if arrT P t e len xs.length ys.length then prim (.eqs (List.replicate len (kindT P e))) (l ++ r) S fun z S => K (some (.s (.one (.at z)))) S else none
    | some (.array len e), some l, some r, .neq =>
      if arrT P t e len xs.length ys.length then prim (.nes (List.replicate len (kindT P e))) (l ++ r) S fun z S => K (some (.s (.one (.at z)))) S else none
    | _, _, _, _ => none
  | _, _ => none

/-- A row of the call's own that is cut: in its own memory as 's[:n:n]' (true), or for a call that is walked into (false). -/
def St.ownCut (S : St) (asArg s : Nat) (e : TypeId) (c : C) (lo hi mx : Option Operand) : Option (Bool × Nat × A × A) :=
  match c with
  | .own k =>
    match S.bl k, hi with
    | some (.own x s' e'), some h =>
      match boundA (some h) S none with
      | some ha =>
        if e' ≠ e ∨ s' ≠ s then none
        else if lo.isNone && mx.isSome && boundA mx S none == some ha then some (true, k, x, ha)
        else if asArg = 2 && mx.isNone then some (false, k, x, ha)
        else none
      | none => none
    | _, _ => none
  | _ => none

def symOp (P : Program) (o : Oper) (asArg : Nat) (id : Nat) (S : St) (K : Option SV → St → Option IR) : Option IR :=
  match o.op with
  | .move x | .assign x => K (S.ev x) S
  | .pick c a b =>
    match S.ev c with
    | some (.s (.one (.at x))) =>
      match S.tru x with
      | some t => K (if t then S.ev a else S.ev b) S
      | none =>
        match S.ev a, S.ev b with
        | some (.s (.one (.at p))), some (.s (.one (.at q))) => prim .pick [x, p, q] S fun z S => K (some (.s (.one (.at z)))) S
        | _, _ => none
    | _ => none
  | .alloc T =>
    match zerosOf P T with
    | some cs => K (some (.s (.one (.lp id 0)))) (S.setB id (.box cs (nog T) false))
    | none => none
  | .box T x =>
    match S.ev x with
    | some (.s v) => K (some (.s (.one (.lp id 0)))) (S.setB id (.box v.cells (nog T) false))
    | _ => none
  | .build t ps =>
    match zerosOf P t, S.parts ps.toList, P.underlying t with
    | some zs, some l, some (.struct fs) =>
      match fillC (fun i => (fs[i]?).bind fun f => (P.info? f.type).map fun ti => (f.offset, ti.size)) zs l with
      | some cs => if fs.all (fun f => (P.info? f.type).isSome) then K (some (.s (.agg cs))) S else none
      | none => none
    | some zs, some l, some (.array _ e) =>
      match sizeT P e with
      | some s =>
        match fillC (fun i => some (i * s, s)) zs l with
        | some cs => K (some (.s (.agg cs))) S
        | none => none
      | none => none
    | _, _, _ => none
  | .buildSlice t len ps =>
    match P.underlying t with
    | some (.slice e) =>
      match P.info? e, zerosOf P e, S.parts ps.toList with
      | some ti, some zs, some l =>
        if ti.size ≠ zs.length ∨ zs.length = 0 ∨ len * ti.size > 2 ^ 24 then none else
        match fillC (fun i => some (i * ti.size, ti.size)) ((List.range (len * ti.size)).map fun j => zs.getD (j % zs.length) .unk) l with
        | some cs =>
          match S.toAs cs with
          | some (as, S1) =>
            emit (.mk len) as S1 fun S2 => if asArg = 1 then K (some (.s (.one (.ful (.var S1.nv))))) S2 else K (some (.s (.one (.own id)))) (S2.setB id (.own (.var S1.nv) ti.size e))
          | none => none
        | none => none
      | _, _, _ => none
    | _ => none
  | .panic _ => some .bad
  | .load _ (.global _) => some .bad
  | .load T x =>
    match S.ev x, sizeT P T with
    | some (.s (.one (.lp k off))), some m =>
      match S.bl k with
      | some (.box cs _ _) => if off + m ≤ cs.length then (match S1.mk (isAggB P T) ((cs.drop off).take m) with | some v => K (some (.s v)) S | none => none) else none
      | _ => none
    | some (.s (.one (.fp y i s off))), some (m + 1) =>
      if y.lt S.nv && i.lt S.nv then gets y i s (m + 1) off S fun l S => match S1.mk (isAggB P T) (l.map .at) with | some v => K (some (.s v)) S | none => none else none
    | some (.s (.one (.op k i s off))), some (m + 1) =>
      match S.listOf (.own k) with
      | some y => if y.lt S.nv && i.lt S.nv then gets y i s (m + 1) off S fun l S => match S1.mk (isAggB P T) (l.map .at) with | some v => K (some (.s v)) S | none => none else none
      | _ => none
    | _, _ => none
  | .store T x y =>
    match S.ev x, S.ev y, sizeT P T with
    | some (.s (.one (.lp k off))), some (.s v), some m =>
      match S.bl k with
      | some (.box cs U false) =>
        if v.cells.length = m ∧ off + m ≤ cs.length ∧ v.cells.all C.solid = true then K none (S.setB k (.box (cs.take off ++ v.cells ++ cs.drop (off + m)) U false)) else none
      | _ => none
    | some (.s (.one (.op k i s off))), some (.s v), some m =>
      match S.toAs v.cells with
      | some (l, S1) =>
        match S1.bl k with
        | some (.own z s' e) =>
          if v.cells.length = m ∧ s = s' then
            emit (.setl s off) (z :: i :: l) S1 fun S2 => K none (S2.setB k (.own (.var S1.nv) s' e))
          else none
        | _ => none
      | none => none
    | _, _, _ => none
  | .nilCheck x =>
    match S.ev x with
    | some (.s (.one (.lp k off))) => K (some (.s (.one (.lp k off)))) S
    | some (.s (.one (.op k i s off))) => K (some (.s (.one (.op k i s off)))) S
    | some (.s (.one (.fp y i s off))) => K (some (.s (.one (.fp y i s off)))) S
    | _ => none
  | .binOp op t x y _ =>
    match S.ev x, S.ev y with
    | some a, some b => symBin P op t a b S K
    | _, _ => none
  | .unOp op _ x =>
    match op, S.ev x with
    | .not, some (.s (.one (.at a))) => prim .not [a] S fun z S => K (some (.s (.one (.at z)))) S
    | .xor, some (.s (.one (.at a))) => prim .com [a] S fun z S => K (some (.s (.one (.at z)))) S
    | .neg, some (.s (.one (.at a))) => prim .neg [a] S fun z S => K (some (.s (.one (.at z)))) S
    | _, _ => none
  | .convert src dst x =>
    match P.underlying src, P.underlying dst, S.ev x with
    | some _, some (.int k), some (.s (.one (.at a))) => prim (.conv k) [a] S fun z S => K (some (.s (.one (.at z)))) S
    | _, _, _ => none
  | .makeSlice t l c =>
    match P.underlying t, S.ev l, S.ev c with
    | some (.slice e), some (.s (.one (.at la))), some (.s (.one (.at ca))) =>
      match P.info? e, zerosOf P e with
      | some ti, some zs =>
        if ti.size ≠ zs.length ∨ zs.length = 0 ∨ ti.bytes = 0 then none else
        match S.toAs zs with
        | some (za, S1) => emit (.make ti.bytes) (la :: ca :: za) S1 fun S2 => K (some (.s (.one (.own id)))) (S2.setB id (.own (.var S1.nv) ti.size e))
        | none => none
      | _, _ => none
    | _, _, _ => none
  | .slice t x lo hi mx =>
    match P.underlying t, S.ev x with
    | some (.slice e), some (.s (.one c)) =>
      match sizeT P e with
      | none => none
      | some s =>
      match S.ownCut asArg s e c lo hi mx with
      | some (true, k, x, ha) =>
        emit (.slc s) [x, .int .i64 0, ha] S fun S2 => K (some (.s (.one (.own id)))) ((S2.dropB k).setB id (.own (.var S.nv) s e))
      | some (false, k, x, ha) =>
        match boundA lo S (some (.int .i64 0)) with
        | some la => emit (.cut s) [x, la, ha] S fun S2 => K (some (.s (.one (.sub k la (.var S.nv) s)))) S2
        | none => none
      | none =>
      match S.toA c with
      | some (xa, S1) =>
        (match hi with
         | none => fun K' => if mx.isSome then none else prim .len [xa] S1 K'
         | some h => fun K' => match boundA (some h) S1 none with | some a => K' a S1 | none => none) fun ha S2 =>
        match boundA lo S2 (some (.int .i64 0)), boundA mx S2 (some ha) with
        | some la, some ma =>
          if ma = ha then prim (.slc s) [xa, la, ha] S2 fun z S => K (some (.s (.one (if mx.isSome then .ful z else .at z)))) S else none
        | _, _ => none
      | none => none
    | _, _ => none
  | .fieldAddr t x f =>
    match P.underlying t with
    | some (.struct fs) =>
      match fs[f]? with
      | some fd =>
        match sizeT P fd.type, S.ev x with
        | some (_ + 1), some (.s (.one (.lp k off))) => K (some (.s (.one (.lp k (off + fd.offset))))) S
        | some (_ + 1), some (.s (.one (.fp y i s off))) => K (some (.s (.one (.fp y i s (off + fd.offset))))) S
        | some (_ + 1), some (.s (.one (.op k i s off))) => K (some (.s (.one (.op k i s (off + fd.offset))))) S
        | _, _ => none
      | none => none
    | _ => none
  | .field t x f =>
    match P.underlying t with
    | some (.struct fs) =>
      match fs[f]? with
      | some fd =>
        match sizeT P fd.type, S.ev x with
        | some m, some (.s (.agg cs)) =>
          if fd.offset + m ≤ cs.length then (match S1.mk (isAggB P fd.type) ((cs.drop fd.offset).take m) with | some v => K (some (.s v)) S | none => none) else none
        | _, _ => none
      | none => none
    | _ => none
  | .indexAddr t x i =>
    match P.underlying t, S.ev x, S.ev i with
    | some (.array n e), some (.s (.one (.lp k off))), some (.s (.one (.at (.int _ j)))) =>
      match sizeT P e with
      | some s => if 0 ≤ j ∧ j < n then K (some (.s (.one (.lp k (off + j.toNat * s))))) S else none
      | none => none
    | some (.slice e), some (.s (.one c)), some (.s (.one (.at i))) =>
      match sizeT P e with
      | some (s' + 1) =>
        let s := s' + 1
        match c with
        | .own k =>
          match S.bl k with
          | some (.own x _ _) => prim (.inb s) [x, i] S fun _ S => K (some (.s (.one (.op k i s 0)))) S
          | some (.fro x) => prim (.inb s) [x, i] S fun _ S => K (some (.s (.one (.op k i s 0)))) S
          | _ => none
        | .at x => prim (.inb s) [x, i] S fun _ S => K (some (.s (.one (.fp x i s 0)))) S
        | .ful x => prim (.inb s) [x, i] S fun _ S => K (some (.s (.one (.fp x i s 0)))) S
        | .sub k lo n s'' => if s'' = s && lo.lt S.nv then prim .lt0 [i, n] S fun _ S => prim .sum [lo, i] S fun z S => K (some (.s (.one (.op k z s 0)))) S else none
        | _ => none
      | _ => none
    | _, _, _ => none
  | .index t (.const (.string s)) i =>
    match P.underlying t, S.ev i with
    | some .string, some (.s (.one (.at i))) => prim (.chr (s.data.toList.map (·.toNat))) [i] S fun z S => K (some (.s (.one (.at z)))) S
    | _, _ => none
  | .index t x i =>
    match P.underlying t, S.ev x, S.ev i with
    | some (.array n e), some (.s (.agg cs)), some (.s (.one (.at (.int _ j)))) =>
      match sizeT P e with
      | some s => if 0 ≤ j ∧ j < n ∧ j.toNat * s + s ≤ cs.length then (match S1.mk (isAggB P e) ((cs.drop (j.toNat * s)).take s) with | some v => K (some (.s v)) S | none => none) else none
      | none => none
    | _, _, _ => none
  | .extract x i =>
    match S.ev x with
    | some (.tup l) => match l[i]? with | some v => K (some (.s v)) S | none => none
    | _ => none
  | .makeFunc (.func f) first caps =>
    if first.size = 0 then
      match caps.toList.mapM fun x => match S.ev x with | some (.s (.one (.lp k 0))) => some k | _ => none with
      | some ks => K (some (.s (.one (.fn f ks)))) S
      | none => none
    else none
  | .call c =>
    match c.callee with
    | .builtin b => symBuiltin P b c.argTypes (c.args.toList.map S.ev) id S K
    | .value x =>
      match S.ev x with
      | some (.s (.one (.fn f ks))) =>
        match P.funcs[f]? with
        | some fn =>
          match S.argsOf (c.args.toList.map S.ev ++ capSVs ks) with
          | some (args, S1) =>
            if args.all (Arg.lt S1.nv) then
              if S.cf.own f then
                match ownShp P fn, shpsOf P fn with
                | some (s, E), .one :: r =>
                  (K (some (svOf (.one (.own id) :: resOf r (S1.nv + 1)))) (({ S1 with nv := S1.nv + 1 + countAll r } : St).setB id (.own (.var S1.nv) s E))).map (IR.call f args (.own s E :: r))
                | _, _ => none
              else
                let shp := shpsOf P fn
                (K (some (svOf (resOf shp S1.nv))) { S1 with nv := S1.nv + countAll shp }).map (IR.call f args shp)
            else none
          | none => none
        | none => none
      | _ => none
    | _ => none
  | _ => none

def C.blocks : C → List Nat
  | .lp k _ => [k]
  | .own k => [k]
  | .op k _ _ _ => [k]
  | .sub k _ _ _ => [k]
  | _ => []
def SV.blocks : Option SV → List Nat
  | some (.s x) => x.cells.flatMap C.blocks
  | _ => []
def Op.tmps (o : Op) : List Nat := o.operands.toList.filterMap fun | .tmp t => some t | _ => none

def capsOf (S : St) (o : Op) : List Nat :=
  match o with
  | .call { callee := .value x, .. } => (match S.ev x with | some (.s (.one (.fn _ ks))) => ks | _ => [])
  | _ => []
/-- The blocks that an operation's operands name. -/
def namedOf (S : St) (o : Op) : List Nat := (o.operands.toList.map S.ev).flatMap SV.blocks ++ capsOf S o

/-! ### Regions -/
/-- The temporary that guards an operation. -/
def guardT (ops : Array Oper) (o : Oper) : Option (Option Tmp × Bool) :=
  o.guard.map fun (j, b) => ((ops[j]?).bind (·.dst), b)

def guardTs (ops : Array Oper) (o : Oper) : List Nat := match guardT ops o with | some (some t, _) => [t] | _ => []

/-- Is the operation's value handed to a call of this region? -/
def usedByCall (S : St) (ops : Array Oper) (o : Oper) : Nat :=
  match o.dst with
  | none => 0
  | some d =>
    let u (inl : Bool) := ops.any fun q => match q.op with | .call c => if (match c.callee with | .builtin .append => true | _ => false) then !inl && (match c.args[1]? with | some (Operand.tmp t) => t == d | _ => false) else (match c.callee with | .value (.func f) => S.cf.inl f == inl | _ => !inl) && c.args.any (fun | .tmp t => t == d | _ => false) | _ => false
    if u true then 2 else if u false then 1 else 0

def dstOk (S : St) (o : Oper) : Bool :=
  match o.dst with
  | none => true
  | some d => decide (d < S.fr.nt)

/-- How a call that is walked into is carried out: none, if the callee is met by its contract. -/
abbrev Inl := Oper → St → Option ((Option SV → St → Option IR) → Option IR)

/-- One operation in its place: its guard first. A guard that is a variable parts the ways. 'L' is told what was carried out. -/
def symStep (P : Program) (inl : Inl) (ops : Array Oper) (o : Oper) (S : St) (K : Bool → St → Option IR) : Option IR :=
  let go (S : St) : Option IR :=
    if dstOk S o && (namedOf S o.op).all (fun k => decide (k < S.nb)) then
      match inl o S with
      | some h => h fun v S' => K true (({ S' with nb := S'.nb + 1 } : St).setT o.dst v)
      | none => symOp P o (usedByCall S ops o) S.nb S fun v S' => K true (({ S' with nb := S.nb + 1 } : St).setT o.dst v)
    else none
  let skip (S : St) : Option IR := if dstOk S o then K false (({ S with nb := S.nb + 1 } : St).setT o.dst (some (.s (.one .und)))) else none
  match guardT ops o with
  | none => go S
  | some (some t, want) =>
    match S.fr.tm t with
    | some (.s (.one .und)) => skip S
    | some (.s (.one (.at a))) =>
      match S.tru a with
      | some x => if x = want then go S else skip S
      | none =>
        match a with
        | .var i =>
          match (if want then go else skip) { S with kn := (i, true) :: S.kn }, (if want then skip else go) { S with kn := (i, false) :: S.kn } with
          | some x, some y => if i < S.nv then some (.ite (.var i) x y) else none
          | _, _ => none
        | _ => none
    | _ => none
  | some (none, _) => none

def symOps (P : Program) (inl : Inl) (ops : Array Oper) : List Oper → St → (St → Option IR) → Option IR
  | [], S, K => K S
  | o :: r, S, K => symStep P inl ops o S fun _ S => symOps P inl ops r S K

/-! ### Regions that draw their order -/
/-- Does the operation turn the blocks that it names? -/
def turnsOp : Op → Bool
  | .load .. | .move _ | .assign _ | .pick .. | .fieldAddr .. | .indexAddr .. | .nilCheck _ | .box .. | .makeFunc .. | .extract .. => false
  | .call { callee := .builtin .len, .. } => false
  | _ => true

/-- What does not look into the blocks that it names. -/
def blind : Op → Bool
  | .move _ | .assign _ | .nilCheck _ | .fieldAddr .. | .extract .. => true
  | _ => false

/-- The blocks that an operation looks at, and those that it turns. -/
structure Foot where
  rt : List Nat
  wt : List Nat
  rb : List Nat
  wb : List Nat
  deriving Repr, Inhabited

/-- Whatever block an operand names is looked at, and turned but by what only reads; what the operation makes is turned. -/
def footOf (ops : Array Oper) (o : Oper) (ran : Bool) (id : Nat) (S : St) : Foot :=
  let g := guardTs ops o
  if ran then
    let named := namedOf S o.op
    { rt := Op.tmps o.op ++ g, wt := o.dst.toList, rb := if blind o.op then [] else named, wb := id :: (if turnsOp o.op then named else []) }
  else { rt := g, wt := o.dst.toList, rb := [], wb := [id] }

def meet (a b : List Nat) : Bool := a.any fun x => b.any fun y => x == y
def Foot.clash (a b : Foot) : Bool := meet a.wt b.rt || meet a.wt b.wt || meet b.wt a.rt || meet a.wb b.rb || meet a.wb b.wb || meet b.wb a.rb

/-- What each operation waits for, as a row of bits. -/
def ancs : List Oper → List Nat → List Nat
  | [], acc => acc
  | o :: r, acc => ancs r (acc ++ [o.after.toList.foldl (fun s e => if Region.binds .any e then s ||| (2 ^ e.on) ||| acc.getD e.on 0 else s) 0])

/-- Of two that clash the later one waits for the earlier one. -/
def apartAll (an : List Nat) (fs : List Foot) : Bool :=
  fs.zipIdx.all fun (f, j) => fs.zipIdx.all fun (e, i) => !(i < j) || !(e.clash f) || (an.getD j 0).testBit i

def backward (ops : List Oper) : Bool := ops.zipIdx.all fun (o, i) => o.after.all fun e => !Region.binds .any e || decide (e.on < i)

def symDraw (P : Program) (ops : Array Oper) : List Oper → St → List Foot → (List Foot → St → Option IR) → Option IR
  | [], S, fs, K => K fs S
  | o :: r, S, fs, K => symStep P (fun _ _ => none) ops o S fun ran S' => symDraw P ops r S' (fs ++ [footOf ops o ran S.nb S]) K

/-! ### Templates: states at a loop's head, or where ways meet -/
structure Tmpl where
  tm : List (Nat × SV)
  stk : List (List (Nat × SV))
  bl : List (Nat × Blk)
  nb : Nat
  n : Nat
  deriving Repr, Inhabited

def alook {α : Type} (l : List (Nat × α)) (k : Nat) : Option α :=
  match l with
  | [] => none
  | (i, v) :: r => if k = i then some v else alook r k

structure Mt where
  ren : List (Nat × Option Nat)
  vals : List (Nat × A)

def Mt.atom (m : Mt) (t a : A) : Option Mt :=
  match t with
  | .var i => match alook m.vals i with
    | some b => if a = b then some m else none
    | none => some { m with vals := (i, a) :: m.vals }
  | t => if t = a then some m else none
def Mt.blk (m : Mt) (k : Nat) (k' : Option Nat) : Option Mt :=
  match alook m.ren k with
  | some j => if j = k' then some m else none
  | none => if m.ren.any (fun p => p.2 == k' && k'.isSome) then none else some { m with ren := (k, k') :: m.ren }
def Mt.blks (m : Mt) : List Nat → List Nat → Option Mt
  | [], [] => some m
  | k :: r, j :: q => (m.blk k (some j)).bind fun m => m.blks r q
  | _, _ => none
def Mt.cell (m : Mt) (t c : C) : Option Mt :=
  match t, c with
  | .unk, _ => some m
  | .at a, .at b => m.atom a b
  | .at a, .nils => m.atom a .nil
  | .at a, .ful b => m.atom a b
  | .nils, .nils => some m
  | .ful a, .ful b => m.atom a b
  | .ful a, .nils => m.atom a .nil
  | .lp k o, .lp j o' => if o = o' then m.blk k (some j) else none
  | .fp x i s o, .fp y j s' o' => if s = s' ∧ o = o' then (m.atom x y).bind fun m => m.atom i j else none
  | .own k, .own j => m.blk k (some j)
  | .own k, .nils => m.blk k none
  | .op k i s o, .op l j s' o' => if s = s' ∧ o = o' then (m.blk k (some l)).bind fun m => m.atom i j else none
  | .sub k x n s, .sub l y q s' => if s = s' then (m.blk k (some l)).bind fun m => (m.atom x y).bind fun m => m.atom n q else none
  | .fn f ks, .fn g js => if f = g then m.blks ks js else none
  | .np, .np => some m
  | .und, .und => some m
  | _, _ => none
def Mt.cells (m : Mt) : List C → List C → Option Mt
  | [], [] => some m
  | t :: r, c :: q => (m.cell t c).bind fun m => m.cells r q
  | _, _ => none
def Mt.s1 (m : Mt) : S1 → S1 → Option Mt
  | .one t, .one c => m.cell t c
  | .agg ts, .agg cs => m.cells ts cs
  | _, _ => none
def Mt.s1s (m : Mt) : List S1 → List S1 → Option Mt
  | [], [] => some m
  | t :: r, c :: q => (m.s1 t c).bind fun m => m.s1s r q
  | _, _ => none
def Mt.sv (m : Mt) : SV → SV → Option Mt
  | .s t, .s c => m.s1 t c
  | .tup ts, .tup cs => m.s1s ts cs
  | _, _ => none
def Mt.frame (m : Mt) (tm : Nat → Option SV) : List (Nat × SV) → Option Mt
  | [] => some m
  | (t, v) :: r => match tm t with | some v' => (m.sv v v').bind fun m => m.frame tm r | none => none
def Mt.frames (m : Mt) : List (List (Nat × SV)) → List Frm → Option Mt
  | [], [] => some m
  | t :: r, f :: q => (m.frame f.tm t).bind fun m => m.frames r q
  | _, _ => none
def Mt.bls (m : Mt) (bl : Nat → Option Blk) : List (Nat × Blk) → Option Mt
  | [] => some m
  | (k, b) :: r =>
    match alook m.ren k with
    | some (some j) =>
      (match b, bl j with
       | .box ts T ro, some (.box cs U ro') => if T = U ∧ ro = ro' then m.cells ts cs else none
       | .own x s E, some (.own y s' E') => if s = s' ∧ E = E' then m.atom x y else none
       | .fro x, some (.fro y) => m.atom x y
       | _, _ => none).bind fun m => m.bls bl r
    | some none =>
      (match b with
       | .own x _ _ => m.atom x .nil
       | _ => none).bind fun m => m.bls bl r
    | none => none
def Mt.out (m : Mt) (n : Nat) : Option (List A) := (List.range n).mapM fun i => alook m.vals i
/-- The loop's variables at a state. -/
def Tmpl.fit0 (T : Tmpl) (S : St) : Option (List A) := do
  let m ← (Mt.mk [] []).frame S.fr.tm T.tm
  let m ← m.frames T.stk S.stk
  let m ← m.bls S.bl T.bl
  if m.ren.all (fun p => decide (p.1 < T.nb)) && m.vals.all (fun p => decide (p.1 < T.n)) then m.out T.n else none
/-- A temporary that holds an own row, told as an atom: the row is frozen. -/
def St.soft1 (S : St) (t : Nat) : St :=
  match S.fr.tm t with
  | some (.s (.one (.own k))) =>
    match S.toA (.own k) with
    | some (x, S1) => { S1 with fr := { S1.fr with tm := upd S1.fr.tm t (some (.s (.one (.at x)))) } }
    | none => S
  | _ => S
def St.softs (S : St) : List (Nat × SV) → St
  | [] => S
  | (t, v) :: r => match v with | .s (.one (.at _)) => (S.soft1 t).softs r | _ => S.softs r
/-- The same; rows that the template tells as atoms are frozen first. -/
def Tmpl.fit (T : Tmpl) (S : St) : Option (List A) := T.fit0 (S.softs T.tm)
def Tmpl.closed (T : Tmpl) : Bool := T.bl.all fun p => decide (p.1 < T.nb)
/-- The state that a template says. -/
def Tmpl.st (T : Tmpl) (S : St) (dp : Nat) : St :=
  { fr := { S.fr with tm := alook T.tm }, stk := List.zipWith (fun l f => { f with tm := alook l }) T.stk S.stk, bl := alook T.bl, nb := T.nb, nv := T.n, dp := dp, kn := [], cf := S.cf }

/-! ### Code -/
inductive Ex where
  | nor
  | exit (id : Nat)
  | ret
  deriving DecidableEq, Repr, Inhabited

structure Hints where
  own : FuncId → Bool
  loop : FuncId → Nat → List Tmpl
  join : FuncId → Nat → List Tmpl
  inl : FuncId → Bool
  turn : FuncId → Option (List TK × List TK × Nat) := fun _ => none

def firstReg : Code → Option Nat
  | .region id _ _ => some id
  | .seq a b => (firstReg a).orElse fun _ => firstReg b
  | .block _ b => firstReg b
  | .loop b => firstReg b
  | .cond _ a b => (firstReg a).orElse fun _ => firstReg b
  | _ => none

def firstFit (S : St) : List Tmpl → Option (Tmpl × List A)
  | [] => none
  | T :: r => match T.fit S with | some l => if T.closed then some (T, l) else firstFit S r | none => firstFit S r

/-- A function's results at its end. -/
def resCells (P : Program) (S : St) : List ResultVar → Option (List S1)
  | [] => some []
  | .tmp t :: r => match S.fr.tm t, resCells P S r with | some (.s v), some l => some (v :: l) | _, _ => none
  | .cell a T :: r =>
    match S.fr.tm a, sizeT P T, resCells P S r with
    | some (.s (.one (.lp k off))), some m, some l =>
      match S.bl k with
      | some (.box cs _ _) => if off + m ≤ cs.length then (S1.mk (isAggB P T) ((cs.drop off).take m)).map (· :: l) else none
      | _ => none
    | _, _, _ => none

def paramTm : List (Option SV) → Nat → Nat → Option SV
  | [], _ => fun _ => none
  | v :: r, i => upd (paramTm r (i + 1)) i v

/-- Does the argument lend what the callee may turn? -/
def lends : Option SV → Bool
  | some (.s x) => x.cells.any fun | .own _ | .sub .. | .lp .. => true | _ => false
  | _ => false

/-- A function that turns a row of whole numbers: does it cut it? -/
def rowOf (P : Program) (f : FuncId) : Option Bool :=
  match P.funcs[f]? with
  | some fn => if fn.name == "slices.Sort[[]int,int]" then some false else if fn.name == "slices.Compact[[]int,int]" then some true else none
  | none => none
/-- Does the function return a pointer? -/
def ptrRes (P : Program) (f : FuncId) : Bool :=
  match P.funcs[f]? with
  | some fn => fn.resultTypes.any fun t => match P.underlying t with | some (.pointer _) => true | _ => false
  | none => false
/-- A row of the call's own, as the only argument. -/
def oneRow (S : St) : List (Option SV) → Option (Nat × A × TypeId)
  | [some (.s (.one (.own k)))] => match S.bl k with | some (.own y s E) => if s = 1 then some (k, y, E) else none | _ => none
  | _ => none

/-- Cells, or arguments, as a call that turns a box wants them: what they hold, and the rows' numbers. -/
def St.tcells (S : St) : List TK → List C → Option (List (A × Option Nat))
  | [], [] => some []
  | .pl :: r, c :: l =>
    match c.plain, S.tcells r l with
    | some a, some q => some ((a, none) :: q)
    | _, _ => none
  | .row _ _ :: r, .nils :: l => (S.tcells r l).map fun q => (.nil, none) :: q
  | .row s E :: r, .own k :: l =>
    match S.bl k, S.tcells r l with
    | some (.own x s' E'), some q => if s = s' ∧ E = E' then some ((x, some k) :: q) else none
    | _, _ => none
  | _, _ => none
/-- Are the numbers apart? -/
def apart : List Nat → Bool
  | [] => true
  | k :: r => !(r.contains k) && apart r
def dropAll (bl : Nat → Option Blk) (l : List Nat) : Nat → Option Blk := fun j => if l.contains j then none else bl j
/-- Plain cells one by one. -/
def oneC : Option SV → Option C
  | some (.s (.one c)) => some c
  | _ => none
/-- The i-th cell of so many, the variables being told from v on, the rows by the numbers from b on. -/
def TK.cell (v b i : Nat) : TK → C
  | .pl => .at (.var (v + i))
  | .row .. => .own (b + i)
def tkCells (ks : List TK) (v b i : Nat) : List C := ks.mapIdx fun j k => k.cell v b (i + j)
def tkBl (ks : List TK) (v b : Nat) (bl : Nat → Option Blk) : Nat → Option Blk := fun j =>
  if b ≤ j then (match ks[j - b]? with | some (.row s E) => some (.own (.var (v + (j - b))) s E) | _ => bl j) else bl j

/-- A function that sorts a row by a closure: how many cells has an element? -/
def sortOf (P : Program) (f : FuncId) : Option Nat :=
  match P.funcs[f]? with
  | some fn => if fn.name == "slices.SortFunc[[]int,int]" then some 1 else if fn.name == "slices.SortFunc[[]penumbra/kd.found,penumbra/kd.found]" then some 4 else none
  | none => none
/-- Captured boxes, by atoms. -/
def St.capOf (S : St) (k : Nat) : Option CA :=
  match S.bl k with
  | some (.box [.lp j 0] _ _) => match S.bl j with | some (.box cs _ _) => some (.nref (cs.map C.plain)) | _ => none
  | some (.box cs _ _) => (cs.mapM C.plain).map .ref
  | _ => none
def CA.lt (n : Nat) : CA → Bool
  | .ref l => l.all (A.lt n)
  | .nref l => l.all fun o => match o with | some a => a.lt n | none => true

/-- A row of the call's own, and a closure. -/
def sortArgs (S : St) : List (Option SV) → Option (Nat × A × Nat × TypeId × FuncId × List CA)
  | [some (.s (.one (.own k))), some (.s (.one (.fn g ks)))] =>
    match S.bl k, ks.mapM S.capOf with
    | some (.own y s E), some l => some (k, y, s, E, g, l)
    | _, _ => none
  | _ => none

/-- What a comparison with nil and a call that is walked into are told by. -/
def inlH (P : Program) (H : Hints) (go : Code → St → (Ex → St → Option IR) → Option IR) : Inl := fun o S =>
    match o.op with
    | .binOp .eql t x (.const (.slice none 0 0)) _ =>
      match P.underlying t, S.ev x with
      | some (.slice _), some (.s (.one c)) =>
        match S.listOf c with
        | some a => some fun K' => if a.lt S.nv then (K' (some (.s (.one (.at (.var S.nv))))) { S with nv := S.nv + 1 }).map (IR.nilq a) else none
        | none => none
      | _, _ => none
    | .call { callee := .value x, args, .. } =>
      match S.ev x with
      | some (.s (.one (.fn f ks))) =>
        match rowOf P f with
        | some cut =>
          match ks, oneRow S (args.toList.map S.ev) with
          | [], some (k, y, E) => some fun K' =>
            if y.lt S.nv then
              (if cut then K' (some (.s (.one (.own S.nb)))) ((({ S with nv := S.nv + 1, nb := S.nb + 1 } : St).dropB k).setB S.nb (.own (.var S.nv) 1 E))
               else K' (some (.tup [])) (({ S with nv := S.nv + 1 } : St).setB k (.own (.var S.nv) 1 E))).map (IR.rowc f cut E y)
            else none
          | _, _ => none
        | none =>
        match sortOf P f with
        | some s =>
          match ks, sortArgs S (args.toList.map S.ev) with
          | [], some (k, y, s', E, g, l) => some fun K' =>
            if y.lt S.nv && l.all (CA.lt S.nv) && s == s' then (K' (some (.tup [])) (({ S with nv := S.nv + 1 } : St).setB k (.own (.var S.nv) s E))).map (IR.sortc f s E g l y) else none
          | _, _ => none
        | none =>
        match H.turn f with
        | some (cells, targs, nres) =>
          match ks, args.toList.map S.ev with
          | [], some (.s (.one (.lp k 0))) :: rest =>
            match S.bl k, rest.mapM oneC with
            | some (.box cs T false), some rcs =>
              match S.tcells (cells ++ targs) (cs ++ rcs) with
              | some l => some fun K' =>
                if decide (cs.length = cells.length) && (l.map (·.1)).all (A.lt S.nv) && apart (k :: l.filterMap (·.2)) && decide (k < S.nb) && decide (nres < 2) then
                  (K' (if nres = 0 then some (.tup []) else some (.s (.one (.at (.var S.nv)))))
                    { S with nv := S.nv + (nres + cells.length), nb := S.nb + cells.length,
                             bl := upd (tkBl cells (S.nv + nres) S.nb (dropAll S.bl (l.filterMap (·.2)))) k (some (.box (tkCells cells (S.nv + nres) S.nb 0) T false)) }).map (IR.turn f cells targs nres (l.map (·.1)))
                else none
              | none => none
            | _, _ => none
          | _, _ => none
        | none =>
        if H.inl f && (!ks.isEmpty || (args.toList.map S.ev).any lends || ptrRes P f) then
          match P.funcs[f]? with
          | some fn =>
            match fn.body with
            | some body => some fun K' =>
              if (fn.name == "runtime.NumGoroutine") then none else
              go body { S with fr := { tm := paramTm (args.toList.map S.ev ++ capSVs ks) 0, nt := max fn.ntmps (args.size + ks.length), fn := f }, stk := S.fr :: S.stk } fun ex S' =>
                match ex with
                | .exit _ => none
                | _ =>
                  match resCells P S' fn.results.toList, S'.stk with
                  | some l, fr :: stk => K' (some (svOf l)) { S' with fr := fr, stk := stk }
                  | _, _ => none
            | none => none
          | none => none
        else none
      | _ => none
    | _ => none

/-- The one waits for all ahead of it. -/
def lastAll (an : List Nat) (m : Nat) : Bool := (List.range m).all fun i => (an.getD m 0).testBit i
/-- A call to walk into, or one that turns a box. -/
def isInl (H : Hints) (o : Oper) : Bool := match o.op with | .call { callee := .value (.func f), .. } => H.inl f || (H.turn f).isSome | _ => false
/-- Where such a call stands, if it and what stands behind it wait each for all ahead. -/
def lastInl (H : Hints) (ops : Array Oper) : Option Nat :=
  match ((List.range ops.size).filter fun i => match ops[i]? with | some o => isInl H o | none => false).getLast? with
  | some n => if decide (n < ops.size) && (List.range ops.size).all (fun j => decide (j < n) || lastAll (ancs ops.toList []) j) then some n else none
  | none => none

def symCode (P : Program) (H : Hints) : (fuel : Nat) → Code → St → (Ex → St → Option IR) → Option IR
  | 0, _, _, _ => none
  | _ + 1, .skip, S, K => K .nor S
  | _ + 1, .label _, S, K => K .nor S
  | _ + 1, .exit id, S, K => K (.exit id) S
  | _ + 1, .ret, S, K => K .ret S
  | n + 1, .region _ ops draw, S, K =>
    if draw then
      if backward ops.toList then
        match lastInl H ops with
        | some m => symDraw P ops (ops.toList.take m) S [] fun fs S => if apartAll (ancs ops.toList []) fs then symOps P (inlH P H (symCode P H n)) ops (ops.toList.drop m) S (K .nor) else none
        | none => symDraw P ops ops.toList S [] fun fs S => if apartAll (ancs ops.toList []) fs then K .nor S else none
      else none
    else
      symOps P (inlH P H (symCode P H n)) ops ops.toList S (K .nor)
  | n + 1, .seq a b, S, K =>
    match (firstReg b).map (H.join S.fr.fn) with
    | some (T :: Ts) =>
      let inner := symCode P H n a { S with dp := S.dp + 1 } fun ex S' =>
        match ex with
        | .nor => if T.closed then (T.fit S').bind fun l => if l.all (A.lt S'.nv) then some (IR.jump S.dp l) else none else none
        | ex => K ex S'
      let after := symCode P H n b (T.st S S.dp) K
      match Ts, inner, after with
      | [], some x, some y => some (.join x y)
      | _, _, _ => none
    | _ => symCode P H n a S fun ex S' => match ex with | .nor => symCode P H n b S' K | ex => K ex S'
  | n + 1, .cond c a b, S, K =>
    match S.ev c with
    | some (.s (.one (.at x))) =>
      match S.tru x with
      | some t => if t then symCode P H n a S K else symCode P H n b S K
      | none =>
        match x with
        | .var i =>
          match symCode P H n a { S with kn := (i, true) :: S.kn } K, symCode P H n b { S with kn := (i, false) :: S.kn } K with
          | some p, some q => if i < S.nv then some (.ite (.var i) p q) else none
          | _, _ => none
        | _ => none
    | _ => none
  | n + 1, .block id b, S, K => symCode P H n b S fun ex S' => match ex with | .exit j => if j = id then K .nor S' else K (.exit j) S' | ex => K ex S'
  | n + 1, .loop b, S, K =>
    match (firstReg b).map (H.loop S.fr.fn) with
    | some (T :: Ts) =>
      match firstFit S (T :: Ts) with
      | some (T, l) =>
        if !(l.all (A.lt S.nv)) then none else
        (symCode P H n b (T.st S (S.dp + 1)) fun ex S' =>
          match ex with
          | .nor => (T.fit S').bind fun l => if l.all (A.lt S'.nv) then some (IR.jump S.dp l) else none
          | ex => K ex S').map (IR.loop l)
      | none => none
    | _ => symCode P H n b S fun ex S' => match ex with | .nor => symCode P H n (.loop b) S' K | ex => K ex S'
  | _ + 1, _, _, _ => none

/-- The shape of an argument: plain, a struct of so many cells, a box of so many cells that is only read. -/
inductive Prm where
  | one
  | agg (n : Nat)
  | ref (n : Nat) (T : TypeId)
  | nref (l : List Bool) (T : TypeId)
  deriving Repr, Inhabited, DecidableEq

def Prm.count : Prm → Nat
  | .one => 1
  | .agg n => n
  | .ref n _ => n
  | .nref l _ => l.countP id
def optVars : List Bool → Nat → List C
  | [], _ => []
  | true :: r, v => .at (.var v) :: optVars r (v + 1)
  | false :: r, v => .unk :: optVars r v
def varsFrom (n v : Nat) : List C := (List.range n).map fun j => .at (.var (v + j))
def startSV : List Prm → Nat → Nat → List (Option SV)
  | [], _, _ => []
  | .one :: r, v, k => some (.s (.one (.at (.var v)))) :: startSV r (v + 1) k
  | .agg n :: r, v, k => some (.s (.agg (varsFrom n v))) :: startSV r (v + n) k
  | .ref n _ :: r, v, k => some (.s (.one (.lp k 0))) :: startSV r (v + n) (k + 1)
  | .nref l _ :: r, v, k => some (.s (.one (.lp k 0))) :: startSV r (v + l.countP id) (k + 2)
def startBl : List Prm → Nat → Nat → List (Nat × Blk)
  | [], _, _ => []
  | .one :: r, v, k => startBl r (v + 1) k
  | .agg n :: r, v, k => startBl r (v + n) k
  | .ref n T :: r, v, k => (k, .box (varsFrom n v) (nog T) true) :: startBl r (v + n) (k + 1)
  | .nref l T :: r, v, k => (k, .box [.lp (k + 1) 0] (nog T) true) :: (k + 1, .box (optVars l v) (nog T) true) :: startBl r (v + l.countP id) (k + 2)
def countP (l : List Prm) : Nat := (l.map Prm.count).sum

def startSt (H : Hints) (f : FuncId) (fn : Func) (ps : List Prm) : St :=
  { fr := { tm := paramTm (startSV ps 0 0) 0, nt := max fn.ntmps ps.length, fn := f }, stk := [], bl := alook (startBl ps 0 0), nb := 2 * ps.length, nv := countP ps, dp := 0, kn := [], cf := ⟨H.inl, H.own⟩ }

/-- A row that is handed over to the caller. -/
def St.handOver (S : St) (s : Nat) (E : TypeId) : C → Option A
  | .nils => some .nil
  | .own k => match S.bl k with | some (.own x s' E') => if s = s' ∧ E = E' then some x else none | _ => none
  | _ => none

def symFunc (P : Program) (H : Hints) (fuel : Nat) (f : FuncId) (ps : List Prm) : Option IR :=
  match P.funcs[f]? with
  | some fn =>
    match fn.body with
    | some body =>
      symCode P H fuel body (startSt H f fn ps) fun ex S =>
        match ex with
        | .exit _ => none
        | _ =>
          match resCells P S fn.results.toList with
          | some l =>
            if H.own f then
              match l with
              | .one c :: r =>
                (S.argsOf (r.map fun v => some (.s v))).bind fun (args, S2) =>
                  match ownShp P fn with
                  | some (s, E) =>
                    match S2.handOver s E c with
                    | some x => if args.all (fun | .ref _ => false | .own .. => false | _ => true) && args.all (Arg.lt S.nv) && x.lt S.nv then some (.ret (.own s E x :: args)) else none
                    | none => none
                  | none => none
              | _ => none
            else (S.argsOf (l.map fun v => some (.s v))).bind fun (args, _) => if args.all (fun | .ref _ => false | .own .. => false | _ => true) && args.all (Arg.lt S.nv) then some (.ret args) else none
          | none => none
    | none => none
  | none => none

/-- No loop has a template, no call is walked into. -/
def H0 : Hints := ⟨fun _ => false, fun _ _ => [], fun _ _ => [], fun _ => false, fun _ => none⟩

/-- The state at the start of a call that turns a box. -/
def startT (H : Hints) (f : FuncId) (fn : Func) (cells args : List TK) : St :=
  { fr := { tm := paramTm (some (.s (.one (.lp 0 0))) :: (tkCells args 0 1 cells.length).map fun c => some (.s (.one c))) 0, nt := max fn.ntmps (1 + args.length), fn := f }, stk := [],
    bl := upd (tkBl (cells ++ args) 0 1 fun _ => none) 0 (some (.box (tkCells cells 0 1 0) GIV false)), nb := 1 + (cells ++ args).length, nv := (cells ++ args).length, dp := 0, kn := [], cf := ⟨H.inl, H.own⟩ }

/-- An argument that is plain. -/
def Arg.isOne : Arg → Bool
  | .one _ => true
  | _ => false

/-- A function that turns its first argument, a box. -/
def symTurn (P : Program) (H : Hints) (fuel : Nat) (f : FuncId) (cells args : List TK) (nres : Nat) : Option IR :=
  match P.funcs[f]? with
  | some fn =>
    match fn.body with
    | some body =>
      symCode P H fuel body (startT H f fn cells args) fun ex S =>
        match ex with
        | .exit _ => none
        | _ =>
          match resCells P S fn.results.toList, S.fr.tm 0 with
          | some l, some (.s (.one (.lp k 0))) =>
            (S.argsOf (l.map fun v => some (.s v))).bind fun (as, S2) =>
              match S2.bl k with
              | some (.box cs T false) =>
                match S2.tcells cells cs with
                | some q => if T = GIV ∧ l.length = nres ∧ nres < 2 ∧ as.all Arg.isOne = true ∧ as.all (Arg.lt S.nv) = true ∧ (q.map (·.1)).all (A.lt S.nv) = true ∧ apart (q.filterMap (·.2)) = true then some (.ret (as ++ q.map fun p => .one p.1)) else none
                | none => none
              | _ => none
          | _, _ => none
    | none => none
  | none => none

end Go.Px
