/- A small program logic over the translated Go code, plain laws, and walks over the functions: several texts in one. No condition. -/
import Derived.ArgAppend
import Derived.Below
import Derived.Conc.MuLone
import Derived.Laws.AppendOwn
import Derived.Laws.Cells
import Derived.Laws.CopyOwn
import Derived.Laws.Entries
import Derived.Laws.Externs
import Derived.Laws.IdiomCopy
import Derived.Laws.IdiomStrings
import Derived.Laws.MakeOwn
import Derived.Laws.Slices
import Derived.Laws.Small
import Derived.Laws.Strings
import Derived.Laws.Tables
import Derived.Maps.AppendAt
import Derived.OrdersIn
import Derived.OwnWalk
import Derived.Tactics
import Derived.TacticsIn
import Derived.WalkSpells
/- A small program logic over the translated Go code, first part: abstract values, what they stand for in memory, and how that outlives changes of memory. -/
set_option linter.unusedVariables false
set_option linter.unusedSimpArgs false
namespace Go.VL
open Go.RowKit

/-- A value without any name for memory: of one cell; a struct; several results; a slice (cells of an element, all cells); the nil slice. -/
inductive B where
  | lit (v : Value)
  | agg (l : List B)
  | tup (l : List B)
  | sl (sz : Nat) (l : List B)
  | nil
/-- An abstract value: by value; a slice over a row of the table, from its first element on; a pointer into an entry of the table; a pointer to cells that are only read;
a struct some part of which has a name; a function with what it has captured; several results some of which have names; a slice over some elements of a row, with no room behind them; the same by value;
a slice over a row of whose room something is told, or, if nothing is told, the nil slice. -/
inductive V where
  | b (x : B)
  | own (i n : Nat)
  | ptr (i off : Nat)
  | rd (l : List B)
  | agg (l : List V)
  | fn (f : FuncId) (caps : List V)
  | tup (l : List V)
  | win (i off n : Nat)
  | cut (sz : Nat) (l : List B)
  | row (i n : Nat) (c : Option Nat)

instance : Inhabited B := ⟨.nil⟩
instance : Inhabited V := ⟨.b .nil⟩

/-- An entry of the table: a variable or a row in memory. -/
structure Tag where
  b : Bool
  T : Option TypeId
instance : Coe Bool Tag := ⟨fun b => ⟨b, none⟩⟩
structure Ent where
  sz : Nat
  cells : List V
  tg : Tag
/-- May it be written? -/
abbrev Ent.hot (e : Ent) : Bool := e.tg.b
abbrev Ent.cold (e : Ent) : Ent := { e with tg := ⟨false, e.tg.T⟩ }
/-- What is said of the type of its block. -/
def Tag.Is (t : Tag) (T : TypeId) : Prop := ∀ T', t.T = some T' → T = T'
theorem Tag.is_true {T : TypeId} : Tag.Is ⟨true, none⟩ T := fun _ h => by cases h
theorem Tag.un {p q : TypeId → Prop} : ∀ T', Tag.T ⟨true, none⟩ = some T' → p T' ∧ q T' := fun _ h => by cases h
theorem Tag.is_none {b : Bool} {T : TypeId} : Tag.Is ⟨b, none⟩ T := fun _ h => by cases h

abbrev Env := Nat → Option Ent
/-- Where an entry lies: its block, and how many elements fit. -/
abbrev Plan := Nat → Option (Nat × Nat)

def setAt {α : Type} (f : Nat → α) (i : Nat) (x : α) : Nat → α := fun j => if j = i then x else f j
@[simp] theorem setAt_self {α : Type} (f : Nat → α) (i : Nat) (x : α) : setAt f i x i = x := by simp [setAt]
def dropAt (slot : Nat → Option V) : Option Nat → Nat → Option V
  | none => slot
  | some d => setAt slot d none
theorem setAt_ne {α : Type} (f : Nat → α) {i j : Nat} (x : α) (h : j ≠ i) : setAt f i x j = f j := by simp [setAt, h]

/-- What a value without names stands for: in the world W, reading in blocks of Q alone. -/
inductive RepB (W : World) (Q : Nat → Prop) : B → Value → Prop
  | lit (v : Value) (h : v.oneCell' = true) : RepB W Q (.lit v) v
  | nil : RepB W Q .nil (.slice none 0 0)
  | sl (A : Addr) (n c sz : Nat) (l : List B) (u : Nat → Value) (hl : l.length = n * sz) (hc : n ≤ c) (hm : c ≤ maxLen) (hs : 0 < sz) (hq : 0 < l.length → Q A.block)
      (hcell : ∀ j, j < l.length → W.cell? (A.add j) = some (u j)) (h1 : ∀ j, j < l.length → (u j).oneCell' = true) (hrep : ∀ j x, l[j]? = some x → RepB W Q x (u j)) : RepB W Q (.sl sz l) (.slice (some A) n c)
  | nilsl (sz : Nat) (hs : 0 < sz) : RepB W Q (.sl sz []) (.slice none 0 0)
  | agg (l : List B) (a : Array Value) (u : Nat → Value) (hl : a.size = l.length) (hu : ∀ j, j < l.length → a[j]? = some (u j)) (h1 : ∀ j, j < l.length → (u j).oneCell' = true)
      (hrep : ∀ j x, l[j]? = some x → RepB W Q x (u j)) : RepB W Q (.agg l) (.agg a)
  | tup (l : List B) (a : Array Value) (u : Nat → Value) (hl : a.size = l.length) (hu : ∀ j, j < l.length → a[j]? = some (u j))
      (hrep : ∀ j x, l[j]? = some x → RepB W Q x (u j)) : RepB W Q (.tup l) (.tuple a)

/-- A slice over row i of n elements, with room for c if that is told; if not, it may be nil. -/
def RowRep (pl : Plan) (i n : Nat) (c : Option Nat) (v : Value) : Prop := (c = none ∧ n = 0 ∧ v = .slice none 0 0) ∨ ∃ g c', pl i = some (g, c') ∧ n ≤ c' ∧ v = .slice (some ⟨g, 0, none⟩) n c' ∧ ∀ q, c = some q → q = c'
theorem RowRep.move {pl pl1 : Plan} {i n : Nat} {c : Option Nat} {v : Value} (h : RowRep pl i n c v) (hp : ∀ i p, pl i = some p → pl1 i = some p) : RowRep pl1 i n c v := by
  rcases h with h | ⟨g, c', h1, h2, h3, h4⟩
  · exact .inl h
  · exact .inr ⟨g, c', hp _ _ h1, h2, h3, h4⟩
theorem RowRep.one {pl : Plan} {i n : Nat} {c : Option Nat} {v : Value} (h : RowRep pl i n c v) : v.oneCell' = true := by
  rcases h with ⟨_, _, rfl⟩ | ⟨g, c', _, _, rfl, _⟩ <;> rfl

/-- What a function may have captured. -/
def RepP (W : World) (Q : Nat → Prop) (pl : Plan) : V → Value → Prop
  | .b x, v => RepB W Q x v
  | .own i n, v => ∃ g c, pl i = some (g, c) ∧ n ≤ c ∧ v = .slice (some ⟨g, 0, none⟩) n c
  | .ptr i off, v => ∃ g c, pl i = some (g, c) ∧ v = .pointer (some ⟨g, off, none⟩)
  | _, _ => False
/-- An abstract value that is no struct with names. -/
def RepL (W : World) (Q : Nat → Prop) (pl : Plan) : V → Value → Prop
  | .b x, v => RepB W Q x v
  | .own i n, v => ∃ g c, pl i = some (g, c) ∧ n ≤ c ∧ v = .slice (some ⟨g, 0, none⟩) n c
  | .ptr i off, v => ∃ g c, pl i = some (g, c) ∧ v = .pointer (some ⟨g, off, none⟩)
  | .rd l, v => ∃ (A : Addr) (u : Nat → Value), v = .pointer (some A) ∧ (0 < l.length → Q A.block) ∧ (∀ j, j < l.length → W.cell? (A.add j) = some (u j)) ∧ (∀ j, j < l.length → (u j).oneCell' = true) ∧
      ∀ j x, l[j]? = some x → RepB W Q x (u j)
  | .fn f caps, v => ∃ arr : Array Value, v = .func (.func f) #[] arr ∧ arr.size = caps.length ∧ ∀ (j : Nat) (x : V), caps[j]? = some x → ∃ y : Value, arr[j]? = some y ∧ RepP W Q pl x y
  | .win i off n, v => ∃ g c, pl i = some (g, c) ∧ n ≤ maxLen ∧ v = .slice (some ⟨g, off, none⟩) n n
  | .cut sz l, v => RepB W Q (.sl sz l) v ∧ ∃ A n c, v = .slice A n c ∧ (c = n ∨ sz = 1 ∧ c = n + 1)
  | .row i n c, v => RowRep pl i n c v
  | .agg _, _ => False
  | .tup _, _ => False
/-- A struct, or less. -/
def RepA (W : World) (Q : Nat → Prop) (pl : Plan) : V → Value → Prop
  | .agg l, v => ∃ (a : Array Value), v = .agg a ∧ a.size = l.length ∧ ∀ (j : Nat) (x : V), l[j]? = some x → ∃ y : Value, a[j]? = some y ∧ y.oneCell' = true ∧ RepL W Q pl x y
  | x, v => RepL W Q pl x v
/-- What an abstract value stands for. -/
def Rep (W : World) (Q : Nat → Prop) (pl : Plan) : V → Value → Prop
  | .tup l, v => ∃ (a : Array Value), v = .tuple a ∧ a.size = l.length ∧ ∀ (j : Nat) (x : V), l[j]? = some x → ∃ y : Value, a[j]? = some y ∧ RepA W Q pl x y
  | x, v => RepA W Q pl x v

theorem block_add (A : Addr) (j : Nat) : (A.add j).block = A.block := by unfold Addr.add; split <;> rfl

theorem heap_of_cell {W : World} {a : Addr} {v : Value} (h : W.cell? a = some v) : a.block < W.heap.size := World.block_lt_of_cell? W a h

section
variable {W W1 : World} {Q Q1 : Nat → Prop} {pl pl1 : Plan}
/-- Cells that are read outlive a change of memory elsewhere. -/
theorem cells_move {A : Addr} {n : Nat} {u : Nat → Value} (hq : 0 < n → Q A.block) (hcell : ∀ j, j < n → W.cell? (A.add j) = some (u j))
    (hs : ∀ k, Q k → k < W.heap.size → W1.heap[k]? = W.heap[k]?) (hQ : ∀ k, Q k → k < W.heap.size → Q1 k) : (0 < n → Q1 A.block) ∧ ∀ j, j < n → W1.cell? (A.add j) = some (u j) := by
  refine ⟨fun h0 => ?_, fun j hj => ?_⟩
  · have hc0 := hcell 0 h0
    exact hQ _ (hq h0) (by have := heap_of_cell hc0; rwa [block_add] at this)
  · have hcj := hcell j hj
    have hlt := heap_of_cell hcj
    rw [block_add] at hlt
    rw [World.cell?_of_block (w := W) (by rw [block_add]; exact hs _ (hq (by omega)) hlt)]
    exact hcj
/-- Memory has changed, but for what is read; what is read may lie in more blocks. -/
theorem RepB.move {x : B} {v : Value} (h : RepB W Q x v)
    (hs : ∀ k, Q k → k < W.heap.size → W1.heap[k]? = W.heap[k]?) (hQ : ∀ k, Q k → k < W.heap.size → Q1 k) : RepB W1 Q1 x v := by
  induction h with
  | lit v h => exact .lit v h
  | nil => exact .nil
  | nilsl sz hs0 => exact .nilsl sz hs0
  | sl A n c sz l u hl hc hm hs0 hq hcell h1 hrep ih =>
    obtain ⟨a, b⟩ := cells_move hq hcell hs hQ
    exact .sl A n c sz l u hl hc hm hs0 a b h1 ih
  | agg l a u hl hu h1 hrep ih => exact .agg l a u hl hu h1 ih
  | tup l a u hl hu hrep ih => exact .tup l a u hl hu ih
theorem RepP.move {x : V} {v : Value} (h : RepP W Q pl x v)
    (hs : ∀ k, Q k → k < W.heap.size → W1.heap[k]? = W.heap[k]?) (hQ : ∀ k, Q k → k < W.heap.size → Q1 k) (hp : ∀ i p, pl i = some p → pl1 i = some p) : RepP W1 Q1 pl1 x v := by
  cases x with
  | b x => exact RepB.move h hs hQ
  | own i n => obtain ⟨g, c, h1, h2, h3⟩ := h; exact ⟨g, c, hp _ _ h1, h2, h3⟩
  | ptr i off => obtain ⟨g, c, h1, h3⟩ := h; exact ⟨g, c, hp _ _ h1, h3⟩
  | rd l => exact h.elim
  | agg l => exact h.elim
  | fn f l => exact h.elim
  | tup l => exact h.elim
  | win i off n => exact h.elim
  | cut sz l => exact h.elim
  | row i n c => exact h.elim
theorem RepL.move {x : V} {v : Value} (h : RepL W Q pl x v)
    (hs : ∀ k, Q k → k < W.heap.size → W1.heap[k]? = W.heap[k]?) (hQ : ∀ k, Q k → k < W.heap.size → Q1 k) (hp : ∀ i p, pl i = some p → pl1 i = some p) : RepL W1 Q1 pl1 x v := by
  cases x with
  | b x => exact RepB.move h hs hQ
  | own i n => obtain ⟨g, c, h1, h2, h3⟩ := h; exact ⟨g, c, hp _ _ h1, h2, h3⟩
  | ptr i off => obtain ⟨g, c, h1, h3⟩ := h; exact ⟨g, c, hp _ _ h1, h3⟩
  | rd l =>
    obtain ⟨A, u, hv, hq, hcell, h1, hr⟩ := h
    obtain ⟨a, b⟩ := cells_move hq hcell hs hQ
    exact ⟨A, u, hv, a, b, h1, fun j x hj => (hr j x hj).move hs hQ⟩
  | agg l => exact h.elim
  | tup l => exact h.elim
  | win i off n => obtain ⟨g, c, h1, h2, h3⟩ := h; exact ⟨g, c, hp _ _ h1, h2, h3⟩
  | cut sz l => exact ⟨RepB.move h.1 hs hQ, h.2⟩
  | row i n c => exact RowRep.move h hp
  | fn f l =>
    obtain ⟨arr, h1, h2, h3⟩ := h
    refine ⟨arr, h1, h2, fun j x hj => ?_⟩
    obtain ⟨y, hy, hr⟩ := h3 j x hj
    exact ⟨y, hy, hr.move hs hQ hp⟩
theorem RepA.move {x : V} {v : Value} (h : RepA W Q pl x v)
    (hs : ∀ k, Q k → k < W.heap.size → W1.heap[k]? = W.heap[k]?) (hQ : ∀ k, Q k → k < W.heap.size → Q1 k) (hp : ∀ i p, pl i = some p → pl1 i = some p) : RepA W1 Q1 pl1 x v := by
  cases x with
  | agg l =>
    obtain ⟨a, h1, h2, h3⟩ := h
    refine ⟨a, h1, h2, fun j x hj => ?_⟩
    obtain ⟨y, hy, hy1, hr⟩ := h3 j x hj
    exact ⟨y, hy, hy1, hr.move hs hQ hp⟩
  | b x => exact RepL.move (x := .b x) h hs hQ hp
  | own i n => exact RepL.move (x := .own i n) h hs hQ hp
  | ptr i off => exact RepL.move (x := .ptr i off) h hs hQ hp
  | rd l => exact RepL.move (x := .rd l) h hs hQ hp
  | fn f l => exact RepL.move (x := .fn f l) h hs hQ hp
  | tup l => exact h.elim
  | win i off n => exact RepL.move (x := .win i off n) h hs hQ hp
  | cut sz l => exact RepL.move (x := .cut sz l) h hs hQ hp
  | row i n c => exact RepL.move (x := .row i n c) h hs hQ hp
theorem Rep.move {x : V} {v : Value} (h : Rep W Q pl x v)
    (hs : ∀ k, Q k → k < W.heap.size → W1.heap[k]? = W.heap[k]?) (hQ : ∀ k, Q k → k < W.heap.size → Q1 k) (hp : ∀ i p, pl i = some p → pl1 i = some p) : Rep W1 Q1 pl1 x v := by
  cases x with
  | tup l =>
    obtain ⟨a, h1, h2, h3⟩ := h
    refine ⟨a, h1, h2, fun j x hj => ?_⟩
    obtain ⟨y, hy, hr⟩ := h3 j x hj
    exact ⟨y, hy, hr.move hs hQ hp⟩
  | agg l => exact RepA.move (x := .agg l) h hs hQ hp
  | b x => exact RepA.move (x := .b x) h hs hQ hp
  | own i n => exact RepA.move (x := .own i n) h hs hQ hp
  | ptr i off => exact RepA.move (x := .ptr i off) h hs hQ hp
  | rd l => exact RepA.move (x := .rd l) h hs hQ hp
  | fn f l => exact RepA.move (x := .fn f l) h hs hQ hp
  | win i off n => exact RepA.move (x := .win i off n) h hs hQ hp
  | cut sz l => exact RepA.move (x := .cut sz l) h hs hQ hp
  | row i n c => exact RepA.move (x := .row i n c) h hs hQ hp
end

/-- A part of the table that may be written lies at this block. -/
def Hot (E : Env) (pl : Plan) (k : Nat) : Prop := ∃ i e c, E i = some e ∧ e.hot = true ∧ pl i = some (k, c + 1)
/-- Where reading is safe. -/
def Qf (F : Nat → Prop) (E : Env) (pl : Plan) : Nat → Prop := fun k => F k ∧ ¬ Hot E pl k

/-- What the table says of entry i holds. -/
def EntAt (W : World) (F : Nat → Prop) (E : Env) (pl : Plan) (i : Nat) (e : Ent) : Prop :=
  ∃ (g c : Nat) (cur : Array Value) (T : TypeId), pl i = some (g, c) ∧ (0 < c → W.heap[g]? = some (.cells cur T (0, 0))) ∧ (0 < c → F g) ∧ cur.size = c * e.sz ∧ e.cells.length ≤ cur.size ∧ c ≤ maxLen ∧ (0 < e.sz ∧ e.tg.Is T) ∧
    ∀ (j : Nat) (x : V), e.cells[j]? = some x → ∃ u : Value, cur[j]? = some u ∧ u.oneCell' = true ∧ RepL W (Qf F E pl) pl x u

structure EOk (W : World) (F : Nat → Prop) (E : Env) (pl : Plan) : Prop where
  ent : ∀ i e, E i = some e → EntAt W F E pl i e
  inj : ∀ i j e e' g c c', E i = some e → E j = some e' → pl i = some (g, c + 1) → pl j = some (g, c' + 1) → i = j

/-- What a call may change of an elder world: the blocks of the entries that it is lent. -/
structure Kept (w W : World) (E : Env) (pl : Plan) : Prop where
  os : W.os = w.os
  tape : W.tape = w.tape
  output : W.output = w.output
  size : w.heap.size ≤ W.heap.size
  block : ∀ k, k < w.heap.size → ¬ Hot E pl k → W.heap[k]? = w.heap[k]?

theorem Kept.refl (w : World) (E : Env) (pl : Plan) : Kept w w E pl := ⟨rfl, rfl, rfl, Nat.le_refl _, fun _ _ _ => rfl⟩

/-- How many slots a frame has, what lies in those that nothing may fill, and which objects stay as they are. -/
structure Frm where
  n : Nat
  fx : Nat → Option Value
  ob : Nat → Option Obj
def Frm.of (n : Nat) : Frm := ⟨n, fun _ => none, fun _ => none⟩
def Frm.ok (N : Frm) (d : Nat) : Prop := d < N.n ∧ N.fx d = none
structure Frm.At (N : Frm) (a : Act) : Prop where
  size : a.tmps.size = N.n
  fix : ∀ t v, N.fx t = some v → a.tmps[t]? = some v
theorem Frm.At.put {N : Frm} {a : Act} (h : N.At a) {d : Nat} (hd : N.ok d) (u : Value) : N.At (a.put (some d) u) := ⟨by simp [Act.put, h.size], fun t v ht => by
  have hne : d ≠ t := fun e => by subst e; rw [hd.2] at ht; cases ht
  simp [Act.put, Array.getElem?_setIfInBounds_ne hne, h.fix t v ht]⟩
theorem Frm.At.of {a : Act} {n : Nat} (h : a.tmps.size = n) : (Frm.of n).At a := ⟨h, fun t v ht => by cases ht⟩
/-- The marks that a range over a function leaves behind. -/
def markD (D : Nat) : Deferred := { target := .collected D, args := #[] }
structure Marked (n : Nat) (ob : Nat → Option Obj) (W : World) (ds : List Deferred) : Prop where
  objs : ∀ l o, ob l = some o → W.heap[l]? = some o ∧ ∀ cur T, o ≠ .cells cur T (0, 0)
  marks : ∃ L : List Nat, ds = L.map markD ∧ L.Nodup ∧ ∀ D ∈ L, n ≤ D ∧ W.heap[D]? = some (.deferred (some []))
/-- A frame in the midst of its work: w0 the world at the call, P0 what the arguments may lead to, E0 and pl0 what it was lent. -/
structure Sim (w0 : World) (P0 : Nat → Prop) (E0 : Env) (pl0 : Plan) (N : Frm) (E : Env) (pl : Plan) (slot : Nat → Option V) (a : Act) (W : World) : Prop where
  keep : Kept w0 W E0 pl0
  mine : ∀ k, Hot E pl k → w0.heap.size ≤ k ∨ Hot E0 pl0 k
  eok : EOk W (fun k => P0 k ∨ w0.heap.size ≤ k) E pl
  plan : ∀ i p, pl0 i = some p → pl i = some p
  slots : ∀ t x, slot t = some x → ∃ u, a.tmps[t]? = some u ∧ Rep W (Qf (fun k => P0 k ∨ w0.heap.size ≤ k) E pl) pl x u
  size : N.At a
  defers : Marked w0.heap.size N.ob W a.defers

section
variable {w0 W W1 : World} {P0 F : Nat → Prop} {E0 E E1 : Env} {pl0 pl pl1 : Plan} {N : Frm} {slot : Nat → Option V} {a : Act}

/-- An entry that is left alone, in a world in which only blocks of X have changed. -/
theorem EntAt.move {i : Nat} {e : Ent} (h : EntAt W F E pl i e) (X : Nat → Prop) (hs : ∀ k, k < W.heap.size → ¬ X k → W1.heap[k]? = W.heap[k]?) (hX : ∀ k, X k → Hot E pl k)
    (hp : ∀ i p, pl i = some p → pl1 i = some p) (hh : ∀ k, Hot E1 pl1 k → Hot E pl k ∨ W.heap.size ≤ k) (hi : ∀ g c, pl i = some (g, c + 1) → ¬ X g) : EntAt W1 F E1 pl1 i e := by
  obtain ⟨g, c, cur, T, h1, h2, h3, h4, h5, h6, h7, h8⟩ := h
  refine ⟨g, c, cur, T, hp _ _ h1, fun hc => ?_, h3, h4, h5, h6, h7, fun j x hj => ?_⟩
  · cases c with
    | zero => omega
    | succ c => exact (hs g (Array.getElem?_eq_some_iff.1 (h2 hc)).1 (hi _ _ h1)).trans (h2 hc)
  obtain ⟨u, hu, hu1, hr⟩ := h8 j x hj
  refine ⟨u, hu, hu1, hr.move (fun k hk hl => hs k hl (fun hx => hk.2 (hX k hx))) (fun k hk hl => ⟨hk.1, fun hh1 => ?_⟩) hp⟩
  rcases hh k hh1 with h | h
  · exact hk.2 h
  · omega

theorem Hot.lt {k : Nat} (hE : EOk W F E pl) (h : Hot E pl k) : k < W.heap.size := by
  obtain ⟨i, e, c, h1, _, h3⟩ := h
  obtain ⟨g, c', cur, T, h4, h5, _⟩ := hE.ent i e h1
  rw [h3] at h4
  injection h4 with h4
  injection h4 with h4 h6
  subst h4
  exact (Array.getElem?_eq_some_iff.1 (h5 (by omega))).1
theorem Hot.cells {k : Nat} (hE : EOk W F E pl) (h : Hot E pl k) : ∃ cur T, W.heap[k]? = some (.cells cur T (0, 0)) := by
  obtain ⟨i, e, c, h1, _, h3⟩ := h
  obtain ⟨g, c', cur, T, h4, h5, _⟩ := hE.ent i e h1
  rw [h3] at h4
  injection h4 with h4
  injection h4 with h4 h6
  subst h4
  exact ⟨cur, T, h5 (by omega)⟩
/-- An entry of which a cell is known, or that has room. -/
theorem EntAt.pos {i : Nat} {e : Ent} {g c : Nat} (h : EntAt W F E pl i e) (hp : pl i = some (g, c)) (hc : 0 < e.cells.length ∨ 0 < c) :
    ∃ (c1 : Nat) (cur : Array Value) (T : TypeId), c = c1 + 1 ∧ pl i = some (g, c) ∧ W.heap[g]? = some (.cells cur T (0, 0)) ∧ F g ∧ cur.size = c * e.sz ∧ e.cells.length ≤ cur.size ∧ c ≤ maxLen ∧ (0 < e.sz ∧ e.tg.Is T) ∧
    ∀ (j : Nat) (x : V), e.cells[j]? = some x → ∃ u : Value, cur[j]? = some u ∧ u.oneCell' = true ∧ RepL W (Qf F E pl) pl x u := by
  obtain ⟨g', c', cur, T, h1, h2, h3, h4, h5, h6, h7, h8⟩ := h
  rw [hp] at h1
  injection h1 with h1
  injection h1 with q1 q2
  subst q1; subst q2
  have h0 : 0 < c := by
    rcases hc with hc | hc
    · cases c with
      | zero => rw [Nat.zero_mul] at h4; omega
      | succ c => omega
    · exact hc
  exact ⟨c - 1, cur, T, by omega, hp, h2 h0, h3 h0, h4, h5, h6, h7, h8⟩
theorem Marked.step {n : Nat} {ob : Nat → Option Obj} {ds : List Deferred} (h : Marked n ob W ds) (X : Nat → Prop) (hE : EOk W F E pl) (hs : ∀ k, k < W.heap.size → ¬ X k → W1.heap[k]? = W.heap[k]?) (hX : ∀ k, X k → Hot E pl k) : Marked n ob W1 ds := by
  have key : ∀ (D : Nat) (o : Obj), W.heap[D]? = some o → (∀ cur T, o ≠ .cells cur T (0, 0)) → W1.heap[D]? = some o := fun D o hd ho => by
    rw [hs D (Array.getElem?_eq_some_iff.1 hd).1 (fun hx => ?_)]
    · exact hd
    · obtain ⟨cur, T, hc⟩ := Hot.cells hE (hX D hx)
      rw [hd] at hc; injection hc with hc; exact ho cur T hc
  obtain ⟨h0, L, h1, h2, h3⟩ := h
  exact ⟨fun l o hl => ⟨key l o (h0 l o hl).1 (h0 l o hl).2, (h0 l o hl).2⟩, L, h1, h2, fun D hD => ⟨(h3 D hD).1, key D _ (h3 D hD).2 (fun _ _ h => by cases h)⟩⟩
theorem Marked.nil {n : Nat} {W : World} : Marked n (fun _ => none) W [] := ⟨(fun l o h => by cases h), [], rfl, List.nodup_nil, fun D hD => by cases hD⟩

/-- The frame goes on in another world, with another table. -/
theorem Sim.step (S : Sim w0 P0 E0 pl0 N E pl slot a W) (X : Nat → Prop) (hos : W1.os = W.os) (htape : W1.tape = W.tape) (hout : W1.output = W.output) (hsize : W.heap.size ≤ W1.heap.size)
    (hs : ∀ k, k < W.heap.size → ¬ X k → W1.heap[k]? = W.heap[k]?) (hX : ∀ k, X k → Hot E pl k)
    (hp : ∀ i p, pl i = some p → pl1 i = some p) (hh : ∀ k, Hot E1 pl1 k → Hot E pl k ∨ W.heap.size ≤ k)
    (hE : EOk W1 (fun k => P0 k ∨ w0.heap.size ≤ k) E1 pl1) : Sim w0 P0 E0 pl0 N E1 pl1 slot a W1 := by
  refine ⟨⟨hos.trans S.keep.os, htape.trans S.keep.tape, hout.trans S.keep.output, Nat.le_trans S.keep.size hsize, fun k hk hn => ?_⟩, fun k hk => ?_, hE, fun i p h => hp _ _ (S.plan i p h), fun t x ht => ?_, S.size, S.defers.step X S.eok hs hX⟩
  · rw [hs k (Nat.lt_of_lt_of_le hk S.keep.size) (fun hx => ?_), S.keep.block k hk hn]
    rcases S.mine k (hX k hx) with h | h
    · omega
    · exact hn h
  · rcases hh k hk with h | h
    · exact S.mine k h
    · exact .inl (Nat.le_trans S.keep.size h)
  · obtain ⟨u, hu, hr⟩ := S.slots t x ht
    refine ⟨u, hu, hr.move (fun k hk hl => hs k hl (fun hx => hk.2 (hX k hx))) (fun k hk hl => ⟨hk.1, fun hh1 => ?_⟩) hp⟩
    rcases hh k hh1 with h | h
    · exact hk.2 h
    · omega

/-- A slot is filled. -/
theorem Sim.put (S : Sim w0 P0 E0 pl0 N E pl slot a W) (d : Nat) (hd : N.ok d) {x : V} {u : Value} (hr : Rep W (Qf (fun k => P0 k ∨ w0.heap.size ≤ k) E pl) pl x u) :
    Sim w0 P0 E0 pl0 N E pl (setAt slot d (some x)) (a.put (some d) u) W := by
  refine ⟨S.keep, S.mine, S.eok, S.plan, fun t y ht => ?_, S.size.put hd u, S.defers⟩
  by_cases h : t = d
  · subst h
    rw [setAt_self] at ht
    injection ht with ht
    subst ht
    exact ⟨u, by simp [Act.put, S.size.size, hd.1], hr⟩
  · rw [setAt_ne _ _ h] at ht
    obtain ⟨v, hv, hr2⟩ := S.slots t y ht
    exact ⟨v, by simp [Act.put, Array.getElem?_setIfInBounds_ne (Ne.symm h), hv], hr2⟩
end
end Go.VL

/- A small program logic over the translated Go code, second part: what one operation does to abstract values; contracts; lists of operations; code. -/
set_option linter.unusedVariables false
set_option linter.unusedSimpArgs false
namespace Go.VL
open Go.RowKit

abbrev Slots := Nat → Option V

def constV (v : Value) : Option V :=
  match v with
  | .slice none 0 0 => some (.b (.sl 1 []))
  | v => if v.oneCell' = true then some (.b (.lit v)) else none
def ev (s : Slots) : Operand → Option V
  | .tmp t => s t
  | .const v => constV v
  | .func f => some (.fn f [])
  | _ => none
def evs (s : Slots) : List Operand → Option (List V)
  | [] => some []
  | x :: r => match ev s x, evs s r with
    | some v, some vs => some (v :: vs)
    | _, _ => none

/-- All parts by value. -/
def bs : List V → Option (List B)
  | [] => some []
  | .b x :: r => (bs r).map (x :: ·)
  | _ :: _ => none
/-- A value by its contents. -/
def resL (E : Env) : V → Option B
  | .b x => some x
  | .own i n => match E i with
    | some e => match bs e.cells with
      | some l => if n * e.sz ≤ l.length then some (.sl e.sz (l.take (n * e.sz))) else none
      | none => none
    | none => none
  | .win i off n => match E i with
    | some e => match bs e.cells with
      | some l => if off + n * e.sz ≤ l.length then some (.sl e.sz ((l.drop off).take (n * e.sz))) else none
      | none => none
    | none => none
  | .cut sz l => some (.sl sz l)
  | .row i n _ => match E i with
    | some e => match bs e.cells with
      | some l => if n * e.sz ≤ l.length then some (.sl e.sz (l.take (n * e.sz))) else none
      | none => none
    | none => none
  | _ => none
def resLs (E : Env) : List V → Option (List B)
  | [] => some []
  | x :: r => match resL E x, resLs E r with
    | some y, some ys => some (y :: ys)
    | _, _ => none
def res (E : Env) : V → Option B
  | .agg l => (resLs E l).map .agg
  | v => resL E v
def ress (E : Env) : List V → Option (List B)
  | [] => some []
  | x :: r => match res E x, ress E r with
    | some y, some ys => some (y :: ys)
    | _, _ => none
def V.cells : V → List V
  | .agg l => l
  | .b (.agg l) => l.map .b
  | v => [v]
/-- The rows that a value names. -/
def V.names : V → List Nat
  | .own i _ => [i]
  | .win i _ _ => [i]
  | .row i _ _ => [i]
  | .agg l => l.flatMap fun | .own i _ => [i] | .win i _ _ => [i] | .row i _ _ => [i] | _ => []
  | _ => []
def cool (E : Env) (i : Nat) : Nat × Option Ent := (i, (E i).map fun e => e.cold)
/-- No memory in it. -/
def B.flat : B → Bool
  | .lit _ => true
  | .tup l => l.all fun | .lit _ => true | _ => false
  | .agg l => l.all fun | .lit _ => true | _ => false
  | _ => false

def szOf (P : Program) (T : TypeId) : Option Nat := (P.info? T).map (·.size)
def zeroB : Value → Option B
  | .slice none 0 0 => some (.sl 1 [])
  | v => if v.oneCell' = true then some (.lit v) else none
/-- The nil slice as such. -/
def nilB : B → B
  | .sl 1 [] => .nil
  | x => x
def zeroBs : List Value → Option (List B)
  | [] => some []
  | v :: r => match zeroB v, zeroBs r with
    | some x, some xs => some (x :: xs)
    | _, _ => none
/-- The cells of a type's zero value. -/
def zeroOf (P : Program) (T : TypeId) : Option (List B) := (P.info? T).bind fun i => i.zero.bind fun z => zeroBs z.cells.toList
def aggOf (P : Program) (T : TypeId) : Option Bool := (P.underlying T).map fun | .struct _ | .array _ _ => true | _ => false
/-- Where a field begins, and its cells. -/
def fieldOf (P : Program) (T : TypeId) (k : Nat) : Option (Nat × Nat × Bool) := match P.underlying T with
  | some (.struct fs) => match fs[k]? with
    | some f => match szOf P f.type, aggOf P f.type with
      | some n, some a => if n = 0 then none else some (f.offset, n, a)
      | _, _ => none
    | none => none
  | _ => none

def bop (op : BinOp) : Value → Value → Option Value
  | .int k x, .int k' y => match op with
    | .shl => if 0 ≤ y then some (.int k (k.wrap (x * 2 ^ min y.toNat k.bits))) else none
    | .shr => if 0 ≤ y then some (.int k (x.fdiv (2 ^ min y.toNat k.bits))) else none
    | op => if k = k' then (match op with
      | .add => some (.int k (k.wrap (x + y)))
      | .sub => some (.int k (k.wrap (x - y)))
      | .mul => some (.int k (k.wrap (x * y)))
      | .quo => if y = 0 then none else some (.int k (k.wrap (x.tdiv y)))
      | .rem => if y = 0 then none else some (.int k (x.tmod y))
      | .and => some (.int k (k.wrap (BitVec.ofInt k.bits x &&& BitVec.ofInt k.bits y).toNat))
      | .or => some (.int k (k.wrap (BitVec.ofInt k.bits x ||| BitVec.ofInt k.bits y).toNat))
      | .xor => some (.int k (k.wrap (BitVec.ofInt k.bits x ^^^ BitVec.ofInt k.bits y).toNat))
      | .andNot => some (.int k (k.wrap (BitVec.ofInt k.bits x &&& ~~~BitVec.ofInt k.bits y).toNat))
      | .eql => some (.bool (x == y))
      | .neq => some (.bool (x != y))
      | .lss => some (.bool (decide (x < y)))
      | .leq => some (.bool (decide (x ≤ y)))
      | .gtr => some (.bool (decide (x > y)))
      | .geq => some (.bool (decide (x ≥ y)))
      | _ => none) else none
  | .string x, .string y => match op with
    | .add => if x.size + y.size ≤ 9223372036854775807 then some (.string (x ++ y)) else none
    | .eql => some (.bool (x.toList == y.toList))
    | .neq => some (.bool (!(x.toList == y.toList)))
    | _ => none
  | _, _ => none
def bopBool (op : BinOp) : Value → Value → Option Value
  | .bool x, .bool y => match op with
    | .eql => some (.bool (x == y))
    | .neq => some (.bool (!(x == y)))
    | _ => none
  | _, _ => none
def uop (op : UnOp) : Value → Option Value
  | .int k n => match op with
    | .neg => some (.int k (k.wrap (0 - n)))
    | .xor => some (.int k (k.wrap (BitVec.ofInt k.bits (if k.signed then -1 else k.max) ^^^ BitVec.ofInt k.bits n).toNat))
    | _ => none
  | .bool b => match op with
    | .not => some (.bool (!b))
    | _ => none
  | _ => none

/-- Is it the nil slice? -/
def V.isNil : V → Option Bool
  | .b .nil => some true
  | .own _ _ => some false
  | .win _ _ _ => some false
  | _ => none
def V.len : V → Option Nat
  | .b .nil => some 0
  | .b (.sl sz l) => some (l.length / sz)
  | .own _ n => some n
  | .win _ _ n => some n
  | .cut sz l => some (l.length / sz)
  | .row _ n _ => some n
  | _ => none
def V.noTup : V → Bool
  | .b (.tup _) => false
  | .tup _ => false
  | _ => true

def upds (E : Env) : List (Nat × Option Ent) → Env
  | [] => E
  | p :: r => upds (setAt E p.1 p.2) r
def putv (s : Slots) (d : Option Nat) (v : Option V) : Slots := match d with
  | none => s
  | some d => setAt s d v

/-- The elder memory is as it was. -/
structure Same (w W : World) : Prop where
  os : W.os = w.os
  tape : W.tape = w.tape
  output : W.output = w.output
  size : w.heap.size ≤ W.heap.size
  block : ∀ k, k < w.heap.size → W.heap[k]? = w.heap[k]?
/-- A function that can be entered. -/
def Enters (P : Program) (f : FuncId) : Prop := ∃ fn c, P.funcs[f]? = some fn ∧ fn.body = some c ∧ (fn.name == "runtime.NumGoroutine") = false
/-- The contract of a function that only reads what it is given: by values alone. -/
def VF (P : Program) (f : FuncId) (args : List B) (r : B) : Prop := Enters P f ∧ ∀ (w : World) (Q : Nat → Prop) (xs : Array Value), xs.size = args.length →
  (∀ (j : Nat) (x : B), args[j]? = some x → ∃ u : Value, xs[j]? = some u ∧ RepB w Q x u) →
  Calls P f xs w fun e w' => ∃ u : Value, e = .returned u ∧ RepB w' (fun k => Q k ∨ w.heap.size ≤ k) r u ∧ Same w w'

/-- The contract of a function that changes a row that it is lent as its first argument, and reads the others. -/
def VM (P : Program) (f : FuncId) (L : List B) (args : List B) (r : B) (L' : List B) : Prop := Enters P f ∧ L'.length = L.length ∧ r.flat = true ∧
  ∀ (w : World) (Q : Nat → Prop) (xs : Array Value) (g c : Nat) (cur : Array Value) (T : TypeId), xs.size = args.length + 1 → xs[0]? = some (.slice (some ⟨g, 0, none⟩) L.length c) → L.length ≤ c → c ≤ maxLen →
  (0 < c → w.heap[g]? = some (.cells cur T (0, 0))) → cur.size = c → (0 < c → ¬ Q g) → (∀ (j : Nat) (x : B), L[j]? = some x → ∃ u : Value, cur[j]? = some u ∧ u.oneCell' = true ∧ RepB w (fun k => Q k) x u) →
  (∀ (j : Nat) (x : B), args[j]? = some x → ∃ u : Value, xs[j + 1]? = some u ∧ RepB w Q x u) →
  Calls P f xs w fun e w' => ∃ u : Value, e = .returned u ∧ RepB w' (fun _ => True) r u ∧ (∃ (cur' : Array Value) (T' : TypeId), (0 < c → w'.heap[g]? = some (.cells cur' T' (0, 0))) ∧ cur'.size = cur.size ∧
      ∀ (j : Nat) (x : B), L'[j]? = some x → ∃ u : Value, cur'[j]? = some u ∧ u.oneCell' = true ∧ RepB w' (fun _ => True) x u) ∧
    w'.os = w.os ∧ w'.tape = w.tape ∧ w'.output = w.output ∧ w.heap.size ≤ w'.heap.size ∧ ∀ k, k < w.heap.size → (0 < c → k ≠ g) → w'.heap[k]? = w.heap[k]?

def B.isLit : B → Bool
  | .lit _ => true
  | _ => false
/-- Parts laid where they belong. -/
def putParts (place : Nat → Option (Nat × Nat)) : List (Nat × V) → List V → Option (List V)
  | [], cs => some cs
  | (k, v) :: r, cs => match place k with
    | some (fo, n) => if v.cells.length = n ∧ fo + n ≤ cs.length ∧ v.noTup = true then putParts place r (cs.take fo ++ (v.cells ++ cs.drop (fo + n))) else none
    | none => none
def places (P : Program) (T : TypeId) (k : Nat) : Option (Nat × Nat) := (fieldOf P T k).map fun p => (p.1, p.2.1)
/-- The bytes of a text. -/
def bytesB (l : List UInt8) : List B := l.map fun b => .lit (.int .u8 b.toNat)

/-- The entries that a value names, in any way. -/
def V.all0 : V → List Nat
  | .own i _ => [i]
  | .ptr i _ => [i]
  | .win i _ _ => [i]
  | .row i _ _ => [i]
  | _ => []
def V.all1 : V → List Nat
  | .fn _ caps => caps.flatMap V.all0
  | x => x.all0
def V.all2 : V → List Nat
  | .agg l => l.flatMap V.all1
  | x => x.all1
def V.all : V → List Nat
  | .tup l => l.flatMap V.all2
  | x => x.all2
/-- What a function may capture. -/
def V.leaf : V → Bool
  | .b _ => true
  | .own _ _ => true
  | .ptr _ _ => true
  | _ => false
/-- No results of several parts. -/
def NT (x : V) : Prop := (∀ l, x ≠ .b (.tup l)) ∧ ∀ l, x ≠ .tup l
/-- The entries that an operand leads to. -/
def V.ids : V → List Nat
  | .ptr i _ => [i]
  | .fn _ caps => caps.flatMap V.all0
  | v => v.names
def idsOf (s : Slots) (x : Operand) : List Nat := match ev s x with
  | some v => v.ids
  | none => []
/-- The entries that an operation looks at. -/
def looks (s : Slots) : Op → List Nat
  | .load _ p => idsOf s p
  | .store _ p _ => idsOf s p
  | .convert _ _ x => idsOf s x
  | .call c => c.args.toList.flatMap (idsOf s) ++ (match c.callee with
    | .value f => idsOf s f
    | _ => [])
  | _ => []

/-- Other names for the entries. -/
def V.ren0 (ρ : Nat → Nat) : V → V
  | .own i n => .own (ρ i) n
  | .ptr i off => .ptr (ρ i) off
  | .win i off n => .win (ρ i) off n
  | .row i n c => .row (ρ i) n c
  | x => x
def V.ren1 (ρ : Nat → Nat) : V → V
  | .fn f caps => .fn f (caps.map (V.ren0 ρ))
  | x => x.ren0 ρ
def V.ren2 (ρ : Nat → Nat) : V → V
  | .agg l => .agg (l.map (V.ren1 ρ))
  | x => x.ren1 ρ
def V.ren (ρ : Nat → Nat) : V → V
  | .tup l => .tup (l.map (V.ren2 ρ))
  | x => x.ren2 ρ
def Ent.ren (ρ : Nat → Nat) (e : Ent) : Ent := { e with cells := e.cells.map (V.ren1 ρ) }
/-- A table by its entries. -/
def tab (L : List (Option Ent)) : Env := fun i => (L[i]?).join
/-- The contract of a function that is lent the entries of a table: what it is given (by the table's numbers), the entries before and after (behind the first ones: new ones), the result. -/
def VG (P : Program) (f : FuncId) (xs : List V) (L0 : List Ent) (r : V) (L1 : List (Option Ent)) : Prop := Enters P f ∧ L0.length ≤ L1.length ∧ (∀ j e, L0.length ≤ j → L1[j]? = some (some e) → e.hot = true) ∧
  ∀ (w : World) (F : Nat → Prop) (pl : Plan) (us : Array Value), us.size = xs.length → EOk w F (tab (L0.map some)) pl → (∀ i, L0.length ≤ i → pl i = none) →
  (∀ (j : Nat) (x : V), xs[j]? = some x → ∃ u : Value, us[j]? = some u ∧ Rep w (Qf F (tab (L0.map some)) pl) pl x u) →
  Calls P f us w fun e w' => ∃ (u : Value) (pl' : Plan), e = .returned u ∧ (∀ i p, pl i = some p → pl' i = some p) ∧ (∀ i, L1.length ≤ i → pl' i = none) ∧ Kept w w' (tab (L0.map some)) pl ∧
    (∀ b, Hot (tab L1) pl' b → w.heap.size ≤ b ∨ Hot (tab (L0.map some)) pl b) ∧ EOk w' (fun b => F b ∨ w.heap.size ≤ b) (tab L1) pl' ∧ Rep w' (Qf (fun b => F b ∨ w.heap.size ≤ b) (tab L1) pl') pl' r u
/-- What a call gives: under the callee's numbers, or by its contents. -/
inductive Args (E : Env) (ρ : Nat → Nat) (k : Nat) (nv : List Nat) : List V → List V → Prop
  | nil : Args E ρ k nv [] []
  | name (v x vs xs) (hx : v = x.ren ρ) (hb : x.all.all (fun i => decide (i < k)) = true) (h : Args E ρ k nv vs xs) : Args E ρ k nv (v :: vs) (x :: xs)
  | val (v y vs xs) (hr : res E v = some y) (hn : v.names.all (fun i => nv.contains i) = true) (h : Args E ρ k nv vs xs) : Args E ρ k nv (v :: vs) (.b y :: xs)
/-- The entries that are lent. -/
structure Lent (E : Env) (ρ : Nat → Nat) (nv : List Nat) (L0 : List Ent) : Prop where
  ent : ∀ j e, L0[j]? = some e → E (ρ j) = some (e.ren ρ) ∧ nv.contains (ρ j) = false ∧ ∀ v ∈ e.cells, ∀ i ∈ v.all1, i < L0.length
  inj : ∀ i j, i < L0.length → j < L0.length → ρ i = ρ j → i = j
/-- The caller's number for the callee's. -/
def nm (ρ : Nat → Nat) (k n : Nat) (j : Nat) : Nat := if j < k then ρ j else n + (j - k)
/-- What is left of the table behind a call. -/
def After (E E2 : Env) (ρ : Nat → Nat) (k n : Nat) (nv : List Nat) (L1 : List (Option Ent)) : Prop :=
  ∀ i e, E2 i = some e → (∃ j e0, L1[j]? = some (some e0) ∧ nm ρ k n j = i ∧ e = e0.ren (nm ρ k n)) ∨ (upds E (nv.map (cool E)) i = some e ∧ ∀ j, j < k → ρ j ≠ i)
/-- A call that is lent entries, and may yield new ones. -/
inductive CallG (P : Program) (n : Nat) (s : Slots) (E : Env) : Op → V → Nat → Env → Prop
  | mk (fop args ts f caps vs xs L0 r L1 ρ nv n' E2) (hc : ev s fop = some (.fn f caps)) (ha : evs s args.toList = some vs) (hx : Args E ρ L0.length nv (vs ++ caps) xs) (hl : Lent E ρ nv L0) (hv : VG P f xs L0 r L1)
      (hn : n + (L1.length - L0.length) ≤ n') (hE : After E E2 ρ L0.length n nv L1) : CallG P n s E (.call { callee := .value fop, args := args, argTypes := ts }) (r.ren (nm ρ L0.length n)) n' E2

/-- A function that the model itself carries out, at these values. -/
def NF (P : Program) (f : FuncId) (xs : List Value) (r : Value) : Prop := r.oneCell' = true ∧ ∀ W, (callFunc f xs.toArray).run P W = .ok (.value r) W
def undefV : V := .b (.tup [])
abbrev FF (w0 : World) (P0 : Nat → Prop) : Nat → Prop := fun k => P0 k ∨ w0.heap.size ≤ k
/-- What is asked of what follows an operation. -/
abbrev Next (w0 : World) (P0 : Nat → Prop) (E0 : Env) (pl0 pl : Plan) (N : Frm) (id : Nat) (s : Slots) (a : Act) (o : Oper) (K : Act → World → Prop) (E' : Env) (v : V) : Prop :=
  ∀ u pl1 W1, Sim w0 P0 E0 pl0 N E' pl1 s a W1 → (∀ i, i ≠ id → pl i = none → pl1 i = none) → Rep W1 (Qf (FF w0 P0) E' pl1) pl1 v u → K (a.put o.dst u) W1
/-- The operation does in the machine what is said, whatever the world. -/
def Sound (P : Program) (id : Nat) (s : Slots) (E : Env) (op : Op) (v : Option V) (us : List (Nat × Option Ent)) : Prop :=
  ∀ (w0 W : World) (P0 : Nat → Prop) (E0 : Env) (pl0 pl : Plan) (N : Frm) (a : Act) (o : Oper) (K : Act → World → Prop) (Qx : Exit → Act → World → Prop),
    o.op = op → Sim w0 P0 E0 pl0 N E pl s a W → pl id = none → Next w0 P0 E0 pl0 pl N id s a o K (upds E us) (v.getD undefV) → Oper.wp P o a W K Qx
/-- What an operation does: what it yields, and which entries of the table change (id: the next free number). -/
inductive Eff (P : Program) (id : Nat) (s : Slots) (E : Env) : Op → Option V → List (Nat × Option Ent) → Prop
  | sem (op v us) (h : ∀ s' E', (∀ x ∈ op.operands, ev s x = ev s' x) → (∀ i ∈ looks s op, E i = E' i) → Sound P id s' E' op v us) : Eff P id s E op v us
  | move (x v) (h : ev s x = some v) : Eff P id s E (.move x) (some v) []
  | assign (x v) (h : ev s x = some v) : Eff P id s E (.assign x) (some v) []
  | pick (c a b t v) (hc : ev s c = some (.b (.lit (.bool t)))) (h : ev s (if t then a else b) = some v) : Eff P id s E (.pick c a b) (some v) []
  | alloc (T l) (hz : zeroOf P T = some l) (hl : l ≠ []) : Eff P id s E (.alloc T) (some (.ptr id 0)) [(id, some ⟨l.length, l.map .b, true⟩)]
  | box (T x v) (h : ev s x = some v) (hl : v.cells ≠ []) (ht : v.noTup = true) : Eff P id s E (.box T x) (some (.ptr id 0)) [(id, some ⟨v.cells.length, v.cells, true⟩)]
  | loadS (T p i off e n) (h : ev s p = some (.ptr i off)) (he : E i = some e) (ha : aggOf P T = some true) (hn : szOf P T = some n) (hl : off + n ≤ e.cells.length) :
      Eff P id s E (.load T p) (some (.agg ((e.cells.drop off).take n))) []
  | load1 (T p i off e x) (h : ev s p = some (.ptr i off)) (he : E i = some e) (ha : aggOf P T = some false) (hx : e.cells[off]? = some x) : Eff P id s E (.load T p) (some x) []
  | loadRdS (T p l n) (h : ev s p = some (.rd l)) (ha : aggOf P T = some true) (hn : szOf P T = some n) (hl : n ≤ l.length) : Eff P id s E (.load T p) (some (.b (.agg (l.take n)))) []
  | loadRd1 (T p l x) (h : ev s p = some (.rd l)) (ha : aggOf P T = some false) (hx : l[0]? = some x) : Eff P id s E (.load T p) (some (.b x)) []
  | store (T p x i off e v) (h : ev s p = some (.ptr i off)) (he : E i = some e) (hh : e.hot = true) (hv : ev s x = some v) (hn : szOf P T = some v.cells.length) (hl : off + v.cells.length ≤ e.cells.length) (ht : v.noTup = true) :
      Eff P id s E (.store T p x) none [(i, some { e with cells := e.cells.take off ++ (v.cells ++ e.cells.drop (off + v.cells.length)) })]
  | store1 (T p x i off e v) (h : ev s p = some (.ptr i off)) (he : E i = some e) (hh : e.hot = true) (hv : ev s x = some v) (hc : v.cells = [v]) (hn : szOf P T = some 1) (hl : off < e.cells.length) (ht : v.noTup = true) :
      Eff P id s E (.store T p x) none [(i, some { e with cells := e.cells.set off v })]
  | bin (op T x y T' a b r) (ha : ev s x = some (.b (.lit a))) (hb : ev s y = some (.b (.lit b))) (hr : bop op a b = some r) : Eff P id s E (.binOp op T x y T') (some (.b (.lit r))) []
  | binB (op T x y T' a b r) (ha : ev s x = some (.b (.lit a))) (hb : ev s y = some (.b (.lit b))) (hu : P.underlying T = some .bool) (hr : bopBool op a b = some r) :
      Eff P id s E (.binOp op T x y T') (some (.b (.lit r))) []
  | isNil (T x y T' v e t) (ha : ev s x = some v) (hy : y = .const (.slice none 0 0)) (hu : P.underlying T = some (.slice e)) (ht : v.isNil = some t) : Eff P id s E (.binOp .eql T x y T') (some (.b (.lit (.bool t)))) []
  | notNil (T x y T' v e t) (ha : ev s x = some v) (hy : y = .const (.slice none 0 0)) (hu : P.underlying T = some (.slice e)) (ht : v.isNil = some t) : Eff P id s E (.binOp .neq T x y T') (some (.b (.lit (.bool (!t))))) []
  | un (op T x a r) (ha : ev s x = some (.b (.lit a))) (hr : uop op a = some r) : Eff P id s E (.unOp op T x) (some (.b (.lit r))) []
  | convI (T T' x k n u k') (ha : ev s x = some (.b (.lit (.int k n)))) (hu : P.underlying T = some u) (hu' : P.underlying T' = some (.int k')) : Eff P id s E (.convert T T' x) (some (.b (.lit (.int k' (k'.wrap n))))) []
  | fieldAddr (T p k i off fo n a) (h : ev s p = some (.ptr i off)) (hf : fieldOf P T k = some (fo, n, a)) : Eff P id s E (.fieldAddr T p k) (some (.ptr i (off + fo))) []
  | fieldRd (T p k l fo n a) (h : ev s p = some (.rd l)) (hf : fieldOf P T k = some (fo, n, a)) (hl : fo < l.length) : Eff P id s E (.fieldAddr T p k) (some (.rd (l.drop fo))) []
  | field1 (T x k v fo y) (h : ev s x = some v) (ha : v.cells ≠ [v]) (hf : fieldOf P T k = some (fo, 1, false)) (hy : v.cells[fo]? = some y) (ht : v.noTup = true) : Eff P id s E (.field T x k) (some y) []
  | index (T x ix str k j) (h : ev s x = some (.b (.lit (.string str)))) (hi : ev s ix = some (.b (.lit (.int k j)))) (hu : P.underlying T = some .string) (h0 : 0 ≤ j) (h1 : j.toNat < str.size) :
      Eff P id s E (.index T x ix) (some (.b (.lit (.int .u8 (str.data.getD j.toNat 0).toNat)))) []
  | indexOwn (T x ix i n sz k j el) (h : ev s x = some (.own i n)) (hi : ev s ix = some (.b (.lit (.int k j)))) (hu : P.underlying T = some (.slice el)) (hs : szOf P el = some sz) (h0 : 0 ≤ j) (h1 : j < n) :
      Eff P id s E (.indexAddr T x ix) (some (.ptr i (j.toNat * sz))) []
  | indexWin (T x ix i off n k j el) (h : ev s x = some (.win i off n)) (hi : ev s ix = some (.b (.lit (.int k j)))) (hu : P.underlying T = some (.slice el)) (hs : szOf P el = some 1) (h0 : 0 ≤ j) (h1 : j < n) :
      Eff P id s E (.indexAddr T x ix) (some (.ptr i (off + j.toNat))) []
  | indexSl (T x ix sz l k j el) (h : ev s x = some (.b (.sl sz l))) (hi : ev s ix = some (.b (.lit (.int k j)))) (hu : P.underlying T = some (.slice el)) (hs : szOf P el = some sz) (h0 : 0 ≤ j) (h1 : (j.toNat + 1) * sz ≤ l.length) :
      Eff P id s E (.indexAddr T x ix) (some (.rd ((l.drop (j.toNat * sz)).take sz))) []
  | make (T x n el z bytes k) (h : ev s x = some (.b (.lit (.int k n)))) (hu : P.underlying T = some (.slice el)) (hz : zeroOf P el = some z) (hs : szOf P el = some z.length) (hb : (P.info? el).map (·.bytes) = some bytes)
      (hl : z ≠ []) (h0 : 0 ≤ n) (h1 : bytes * n ≤ 281474976710656) (h2 : n ≤ 9223372036854775807) : Eff P id s E (.makeSlice T x x) (some (.own id n.toNat)) [(id, some ⟨z.length, ((List.replicate n.toNat z).flatten).map .b, true⟩)]
  | buildS (T len parts el vs sz z cs) (h : evs s (parts.toList.map (·.2)) = some vs) (hu : P.underlying T = some (.slice el)) (hz : zeroOf P el = some z) (hs : szOf P el = some z.length) (h0 : z ≠ []) (hm : len * z.length ≤ 16777216)
      (hsz : sz = z.length) (hc : putParts (fun k => some (k * sz, sz)) ((parts.toList.map (·.1)).zip vs) (((List.replicate len z).flatten).map .b) = some cs) : Eff P id s E (.buildSlice T len parts) (some (.own id len)) [(id, some ⟨sz, cs, true⟩)]
  | slSl (T x lo hi sz l el k k') (a b : Int) (h : ev s x = some (.b (.sl sz l))) (hu : P.underlying T = some (.slice el)) (hs : szOf P el = some sz)
      (hlo : lo = none ∧ a = 0 ∨ ∃ o, lo = some o ∧ ev s o = some (.b (.lit (.int k a)))) (hhi : hi = none ∧ b = ((l.length / sz : Nat) : Int) ∨ ∃ o, hi = some o ∧ ev s o = some (.b (.lit (.int k' b))))
      (h0 : 0 ≤ a) (h1 : a ≤ b) (h2 : b.toNat * sz ≤ l.length) : Eff P id s E (.slice T x lo hi none) (some (.b (.sl sz ((l.take (b.toNat * sz)).drop (a.toNat * sz))))) []
  | strTo (T x hi str k b) (h : ev s x = some (.b (.lit (.string str)))) (hl : ev s hi = some (.b (.lit (.int k b)))) (hu : P.underlying T = some .string) (h0 : 0 ≤ b) (h1 : b ≤ str.size) :
      Eff P id s E (.slice T x none (some hi) none) (some (.b (.lit (.string (str.extract 0 b.toNat))))) []
  | callN (f args ts xs r) (h : evs s args.toList = some (xs.map fun x => .b (.lit x))) (hf : NF P f xs r) : Eff P id s E (.call { callee := .value (.func f), args := args, argTypes := ts }) (some (.b (.lit r))) []
  | appendNilB (x y T el v l bytes) (hx : x = .const (.slice none 0 0)) (hy : ev s y = some v) (hr : res E v = some (.sl 1 l))
      (hu : P.underlying T = some (.slice el)) (hs : szOf P el = some 1) (hb : (P.info? el).map (·.bytes) = some bytes) (hz : (zeroOf P el).map List.length = some 1) (hm : l.length * bytes ≤ 140737488355328) (hm' : l.length ≤ maxLen) (hlit : l.all B.isLit = true) :
      Eff P id s E (.call { callee := .builtin .append, args := #[x, y], argTypes := #[T, T] }) (some (.b (.sl 1 l))) []
  | appendOO (x y T el i n e j m e2 bytes) (hx : ev s x = some (.own i n)) (he : E i = some e) (hh : e.hot = true) (hn : e.cells.length = n * e.sz) (hy : ev s y = some (.own j m)) (he2 : E j = some e2) (hsz : e2.sz = e.sz) (hm2 : m * e.sz ≤ e2.cells.length) (hij : j ≠ i) (h0 : 0 < m)
      (hu : P.underlying T = some (.slice el)) (hs : szOf P el = some e.sz) (hb : (P.info? el).map (·.bytes) = some bytes) (hz : (zeroOf P el).map List.length = some e.sz) (hm : (n + m) * bytes ≤ 140737488355328) (hm' : n + m ≤ maxLen) :
      Eff P id s E (.call { callee := .builtin .append, args := #[x, y], argTypes := #[T, T] }) (some (.own id (n + m))) [(i, none), (id, some ⟨e.sz, e.cells ++ e2.cells.take (m * e.sz), true⟩)]
  | appendNO (x y T el j m e2 bytes) (hx : ev s x = some (.b .nil)) (hy : ev s y = some (.own j m)) (he2 : E j = some e2) (hm2 : m * e2.sz ≤ e2.cells.length) (h0 : 0 < m)
      (hu : P.underlying T = some (.slice el)) (hs : szOf P el = some e2.sz) (hb : (P.info? el).map (·.bytes) = some bytes) (hz : (zeroOf P el).map List.length = some e2.sz) (hm : m * bytes ≤ 140737488355328) (hm' : m ≤ maxLen) :
      Eff P id s E (.call { callee := .builtin .append, args := #[x, y], argTypes := #[T, T] }) (some (.own id m)) [(id, some ⟨e2.sz, e2.cells.take (m * e2.sz), true⟩)]
  | makeFunc (f caps vs) (h : evs s caps.toList = some vs) (hl : vs.all V.leaf = true) : Eff P id s E (.makeFunc (.func f) #[] caps) (some (.fn f vs)) []
  | callG (fop args ts f caps vs xs L0 r L1 ρ nv us) (hc : ev s fop = some (.fn f caps)) (ha : evs s args.toList = some vs) (hx : Args E ρ L0.length nv (vs ++ caps) xs) (hl : Lent E ρ nv L0) (hv : VG P f xs L0 (.b r) L1) (hsz : L1.length = L0.length)
      (hus : us = (List.range L0.length).map fun j => (ρ j, (tab L1 j).map (Ent.ren (nm ρ L0.length id))))
      (hlk : (List.range L0.length).all (fun j => (looks s (.call { callee := .value fop, args := args, argTypes := ts })).contains (ρ j)) = true) (hnv : nv.all (fun i => (looks s (.call { callee := .value fop, args := args, argTypes := ts })).contains i) = true) :
      Eff P id s E (.call { callee := .value fop, args := args, argTypes := ts }) (some (.b r)) (nv.map (cool E) ++ us)
  | extractV (x l j y) (h : ev s x = some (.tup l)) (hy : l[j]? = some y) : Eff P id s E (.extract x j) (some y) []
  | extract (x l j y) (h : ev s x = some (.b (.tup l))) (hy : l[j]? = some y) : Eff P id s E (.extract x j) (some (.b y)) []
  | len (x T v n el) (h : ev s x = some v) (hu : P.underlying T = some (.slice el)) (hn : v.len = some n) : Eff P id s E (.call { callee := .builtin .len, args := #[x], argTypes := #[T] }) (some (.b (.lit (.int .i64 n)))) []
  | lenStr (x T str) (h : ev s x = some (.b (.lit (.string str)))) (hu : P.underlying T = some .string) :
      Eff P id s E (.call { callee := .builtin .len, args := #[x], argTypes := #[T] }) (some (.b (.lit (.int .i64 str.size)))) []
  | callF (f args ts vs xs r) (h : evs s args.toList = some vs) (hx : ress E vs = some xs) (hf : VF P f xs r) (hr : r.flat = true) : Eff P id s E (.call { callee := .value (.func f), args := args, argTypes := ts }) (some (.b r)) []
  | callV (f args ts vs xs r) (h : evs s args.toList = some vs) (hx : ress E vs = some xs) (hf : VF P f xs r) :
      Eff P id s E (.call { callee := .value (.func f), args := args, argTypes := ts }) (some (.b r)) ((vs.flatMap V.names).map (cool E))
  | callM (f x rest args ts i n e L vs xs r L') (ha : args.toList = x :: rest) (hx : ev s x = some (.own i n)) (he : E i = some e) (hh : e.hot = true) (h1 : e.sz = 1) (hL : e.cells = L.map .b) (hn : L.length = n) (hlit : L.all B.isLit = true) (hlit' : L'.all B.isLit = true)
      (h : evs s rest = some vs) (hr : ress E vs = some xs) (hni : i ∉ vs.flatMap V.names) (hf : VM P f L xs r L') :
      Eff P id s E (.call { callee := .value (.func f), args := args, argTypes := ts }) (some (.b r)) [(i, some ⟨e.sz, L'.map .b, true⟩)]
  | build (T parts vs z cs) (h : evs s (parts.toList.map (·.2)) = some vs) (hz : zeroOf P T = some z) (hu : (∃ fs, P.underlying T = some (.struct fs) ∧ fs.toList.all (fun f => (szOf P f.type).isSome) = true))
      (hc : putParts (places P T) ((parts.toList.map (·.1)).zip vs) (z.map .b) = some cs) : Eff P id s E (.build T parts) (some (.agg cs)) []
  | strFrom (T x lo str k a) (h : ev s x = some (.b (.lit (.string str)))) (hl : ev s lo = some (.b (.lit (.int k a)))) (hu : P.underlying T = some .string) (h0 : 0 ≤ a) (h1 : a ≤ str.size) :
      Eff P id s E (.slice T x (some lo) none none) (some (.b (.lit (.string (str.extract a.toNat str.size))))) []
  | toStr (T T' x el v l) (h : ev s x = some v) (hr : res E v = some (.sl 1 (bytesB l))) (hu : P.underlying T = some (.slice el)) (he : P.underlying el = some (.int .u8)) (hu' : P.underlying T' = some .string) :
      Eff P id s E (.convert T T' x) (some (.b (.lit (.string ⟨l.toArray⟩)))) []
  | max (x y ts k a b) (hx : ev s x = some (.b (.lit (.int k a)))) (hy : ev s y = some (.b (.lit (.int k b)))) : Eff P id s E (.call { callee := .builtin .max, args := #[x, y], argTypes := ts }) (some (.b (.lit (.int k (if b > a then b else a))))) []
  | min (x y ts k a b) (hx : ev s x = some (.b (.lit (.int k a)))) (hy : ev s y = some (.b (.lit (.int k b)))) : Eff P id s E (.call { callee := .builtin .min, args := #[x, y], argTypes := ts }) (some (.b (.lit (.int k (if b < a then b else a))))) []
  | copy (x y T T' el i n e v l) (hx : ev s x = some (.own i n)) (he : E i = some e) (hh : e.hot = true) (h1 : e.sz = 1) (hn : n ≤ e.cells.length) (hy : ev s y = some v) (hr : res E v = some (.sl 1 l))
      (hu : P.underlying T = some (.slice el)) (hs : szOf P el = some 1) (hlit : l.all B.isLit = true) :
      Eff P id s E (.call { callee := .builtin .copy, args := #[x, y], argTypes := #[T, T'] }) (some (.b (.lit (.int .i64 (Nat.min l.length n))))) [(i, some { e with cells := (l.take (Nat.min l.length n)).map .b ++ e.cells.drop (Nat.min l.length n) })]
  | assignNil : Eff P id s E (.assign (.const (.slice none 0 0))) (some (.b .nil)) []
  | appendNil (x y T el v l bytes) (hx : ev s x = some (.b .nil)) (hy : ev s y = some v) (hr : res E v = some (.sl 1 l)) (h0 : l ≠ [])
      (hu : P.underlying T = some (.slice el)) (hs : szOf P el = some 1) (hb : (P.info? el).map (·.bytes) = some bytes) (hz : (zeroOf P el).map List.length = some 1) (hm : l.length * bytes ≤ 140737488355328) (hm' : l.length ≤ maxLen) (hlit : l.all B.isLit = true) :
      Eff P id s E (.call { callee := .builtin .append, args := #[x, y], argTypes := #[T, T] }) (some (.own id l.length)) [(id, some ⟨1, l.map .b, true⟩)]
  | append (x y T el i n e v l bytes) (hx : ev s x = some (.own i n)) (he : E i = some e) (hh : e.hot = true) (h1 : e.sz = 1) (hn : e.cells.length = n) (hy : ev s y = some v) (hr : res E v = some (.sl 1 l)) (hne : i ∉ v.names)
      (hu : P.underlying T = some (.slice el)) (hs : szOf P el = some 1) (hb : (P.info? el).map (·.bytes) = some bytes) (hz : (zeroOf P el).map List.length = some 1) (hm : (n + l.length) * bytes ≤ 140737488355328) (hm' : n + l.length ≤ maxLen) (hlit : l.all B.isLit = true) :
      Eff P id s E (.call { callee := .builtin .append, args := #[x, y], argTypes := #[T, T] }) (some (.own id (n + l.length))) [(i, none), (id, some ⟨1, e.cells ++ l.map .b, true⟩)]
  | allocN (T l) (hz : (zeroOf P T).map (List.map nilB) = some l) (hl : l ≠ []) : Eff P id s E (.alloc T) (some (.ptr id 0)) [(id, some ⟨l.length, l.map .b, true⟩)]
  | makeN (T x n el z bytes k) (h : ev s x = some (.b (.lit (.int k n)))) (hu : P.underlying T = some (.slice el)) (hz : (zeroOf P el).map (List.map nilB) = some z) (hs : szOf P el = some z.length) (hb : (P.info? el).map (·.bytes) = some bytes)
      (hl : z ≠ []) (h0 : 0 ≤ n) (h1 : bytes * n ≤ 281474976710656) (h2 : n ≤ 9223372036854775807) : Eff P id s E (.makeSlice T x x) (some (.own id n.toNat)) [(id, some ⟨z.length, ((List.replicate n.toNat z).flatten).map .b, true⟩)]
  | buildN (T parts vs z cs) (h : evs s (parts.toList.map (·.2)) = some vs) (hz : (zeroOf P T).map (List.map nilB) = some z) (hu : (∃ fs, P.underlying T = some (.struct fs) ∧ fs.toList.all (fun f => (szOf P f.type).isSome) = true))
      (hc : putParts (places P T) ((parts.toList.map (·.1)).zip vs) (z.map .b) = some cs) : Eff P id s E (.build T parts) (some (.agg cs)) []
  | storeNil (T p i off e) (h : ev s p = some (.ptr i off)) (he : E i = some e) (hh : e.hot = true) (hn : szOf P T = some 1) (hl : off < e.cells.length) :
      Eff P id s E (.store T p (.const (.slice none 0 0))) none [(i, some { e with cells := e.cells.set off (.b .nil) })]
  | nilCheck (p i off) (h : ev s p = some (.ptr i off)) : Eff P id s E (.nilCheck p) (some (.ptr i off)) []
  | ptrNil (op T x y T' i off te t) (ha : ev s x = some (.ptr i off)) (hy : y = .const (.pointer none)) (hu : P.underlying T = some (.pointer te)) (ht : op = .eql ∧ t = false ∨ op = .neq ∧ t = true) :
      Eff P id s E (.binOp op T x y T') (some (.b (.lit (.bool t)))) []
  | nilNil (op T x y T' te t) (ha : ev s x = some (.b (.lit (.pointer none)))) (hy : y = .const (.pointer none)) (hu : P.underlying T = some (.pointer te)) (ht : op = .eql ∧ t = true ∨ op = .neq ∧ t = false) :
      Eff P id s E (.binOp op T x y T') (some (.b (.lit (.bool t)))) []
  | slWin (T x lo hi mx i n el k k' k'') (a b : Int) (h : ev s x = some (.own i n)) (hlo : ev s lo = some (.b (.lit (.int k a)))) (hhi : ev s hi = some (.b (.lit (.int k' b)))) (hmx : ev s mx = some (.b (.lit (.int k'' b))))
      (hu : P.underlying T = some (.slice el)) (hs : szOf P el = some 1) (h0 : 0 ≤ a) (h1 : a < b) (h2 : b ≤ n) (h3 : b - a ≤ (maxLen : Nat)) : Eff P id s E (.slice T x (some lo) (some hi) (some mx)) (some (.win i a.toNat (b - a).toNat)) []
  | cutSl (T x hi mx sz l el k k') (b : Int) (h : ev s x = some (.b (.sl sz l))) (hhi : ev s hi = some (.b (.lit (.int k b)))) (hmx : ev s mx = some (.b (.lit (.int k' b)))) (hu : P.underlying T = some (.slice el)) (hs : szOf P el = some sz)
      (h0 : 0 ≤ b) (h2 : b.toNat * sz ≤ l.length) : Eff P id s E (.slice T x none (some hi) (some mx)) (some (.cut sz (l.take (b.toNat * sz)))) []
  | appendCut (x y T el sz n l j m e2 bytes) (hx : ev s x = some (.cut sz l)) (hn : l.length = n * sz) (hy : ev s y = some (.own j m)) (he2 : E j = some e2) (hsz : e2.sz = sz) (hm2 : m * sz ≤ e2.cells.length) (h0 : 0 < m ∧ (sz = 1 → 1 < m))
      (hu : P.underlying T = some (.slice el)) (hs : szOf P el = some sz) (hb : (P.info? el).map (·.bytes) = some bytes) (hz : (zeroOf P el).map List.length = some sz) (hm : (n + m) * bytes ≤ 140737488355328) (hm' : n + m ≤ maxLen) :
      Eff P id s E (.call { callee := .builtin .append, args := #[x, y], argTypes := #[T, T] }) (some (.own id (n + m))) [(id, some ⟨sz, l.map .b ++ e2.cells.take (m * sz), true⟩)]
  | copyWin (x y T T' el i off n e v l) (hx : ev s x = some (.win i off n)) (he : E i = some e) (hh : e.hot = true) (h1 : e.sz = 1) (hn : off + n ≤ e.cells.length) (hy : ev s y = some v) (hr : res E v = some (.sl 1 l))
      (hu : P.underlying T = some (.slice el)) (hs : szOf P el = some 1) (hlit : l.all B.isLit = true) :
      Eff P id s E (.call { callee := .builtin .copy, args := #[x, y], argTypes := #[T, T'] }) (some (.b (.lit (.int .i64 (Nat.min l.length n))))) [(i, some { e with cells := e.cells.take off ++ ((l.take (Nat.min l.length n)).map .b ++ e.cells.drop (off + Nat.min l.length n)) })]

/-- Is an operation carried out? -/
def runs (ops : Array Oper) (s : Slots) : Option (Nat × Bool) → Option Bool
  | none => some true
  | some (g, want) => match (ops[g]?).bind (·.dst) with
    | some d => match s d with
      | some (.b (.lit (.bool t))) => some (t == want)
      | some (.b (.tup [])) => some false
      | _ => none
    | none => none

/-- Operations one after the other. -/
def VList (P : Program) (ops : Array Oper) : List Oper → Nat → Slots → Env → (Nat → Slots → Env → Prop) → Prop
  | [], n, s, E, Q => Q n s E
  | o :: r, n, s, E, Q =>
    (runs ops s o.guard = some true ∧ ∃ v us, Eff P n s E o.op v us ∧ VList P ops r (n + 1) (putv s o.dst (some (v.getD undefV))) (upds E us) Q) ∨
    (runs ops s o.guard = some false ∧ VList P ops r (n + 1) (putv s o.dst (some undefV)) E Q) ∨
    (runs ops s o.guard = some true ∧ ∃ v n' E2, CallG P n s E o.op v n' E2 ∧ VList P ops r n' (putv s o.dst (some v)) E2 Q)

/-- Which operations must come before each: a table of bits. -/
def befGo : List Oper → List Nat → List Nat
  | [], t => t
  | o :: r, t => befGo r (t ++ [o.after.toList.foldl (fun m e => if Region.binds .any e = true then m ||| (2 ^ e.on ||| t.getD e.on 0) else m) 0])
def bef (ops : Array Oper) : List Nat := befGo ops.toList []
/-- Operations whose order is left open fill other slots than the others look at. -/
def drawOk (ops : Array Oper) : Bool :=
  (List.range ops.size).all fun j => (ops[j]?.map fun o => o.after.toList.all fun e => !Region.binds .any e || decide (e.on < j)).getD false &&
    (List.range j).all fun i => ((bef ops).getD j 0).testBit i || (match ops[i]?, ops[j]? with
      | some x, some y => Oper.apart ops x y
      | _, _ => false)
def apartIds (l m : List Nat) : Bool := l.all fun x => !m.contains x
/-- And what they write in memory the others don't look at. -/
def logOk (t : List Nat) (log : List (List Nat × List Nat)) : Bool :=
  (List.range log.length).all fun j => (List.range j).all fun i => (t.getD j 0).testBit i || (match log[i]?, log[j]? with
    | some x, some y => (x.2.isEmpty && y.2.isEmpty) || (apartIds x.2 (y.1 ++ y.2) && apartIds y.2 (x.1 ++ x.2))
    | _, _ => false)
/-- A call that is lent entries and yields no new ones, with a list of what it looks at. -/
inductive CallL (P : Program) (id : Nat) (s : Slots) (E : Env) : Op → V → List (Nat × Option Ent) → List Nat → Prop
  | mk (fop args ts f caps vs xs L0 r L1 ρ nv us) (hc : ev s fop = some (.fn f caps)) (ha : evs s args.toList = some vs) (hx : Args E ρ L0.length nv (vs ++ caps) xs) (hl : Lent E ρ nv L0) (hv : VG P f xs L0 r L1) (hsz : L1.length ≤ L0.length + 1)
      (hus : us = (List.range L1.length).map fun j => (nm ρ L0.length id j, (tab L1 j).map (Ent.ren (nm ρ L0.length id)))) :
      CallL P id s E (.call { callee := .value fop, args := args, argTypes := ts }) (r.ren (nm ρ L0.length id)) (nv.map (cool E) ++ us) ((List.range L0.length).map ρ ++ nv)
/-- What an operation does, and what it looks at. -/
def Does (P : Program) (id : Nat) (s : Slots) (E : Env) (op : Op) (v : Option V) (us : List (Nat × Option Ent)) (lk : List Nat) : Prop := (Eff P id s E op v us ∧ lk = looks s op) ∨ ∃ w, v = some w ∧ CallL P id s E op w us lk
/-- Operations one after the other, with a list of what each looks at and writes. -/
def VLog (P : Program) (ops : Array Oper) : List Oper → Nat → Slots → Env → List (List Nat × List Nat) → (List (List Nat × List Nat) → Nat → Slots → Env → Prop) → Prop
  | [], n, s, E, log, Q => Q log n s E
  | o :: r, n, s, E, log, Q =>
    (runs ops s o.guard = some true ∧ ∃ v us lk, Does P n s E o.op v us lk ∧ VLog P ops r (n + 1) (putv s o.dst (some (v.getD undefV))) (upds E us) (log ++ [(lk, us.map (·.1))]) Q) ∨
    (runs ops s o.guard = some false ∧ VLog P ops r (n + 1) (putv s o.dst (some undefV)) E (log ++ [([], [])]) Q)

/-- The nil slice, in any form. -/
def V.nilLike : V → Bool
  | .b .nil => true
  | .b (.sl _ []) => true
  | .b (.lit (.slice none 0 0)) => true
  | _ => false
/-- The same slice, of which less is told. -/
def RowOf : V → V → Prop
  | .b .nil, .row _ m none => m = 0
  | .own i n, .row j m none => i = j ∧ n = m
  | .row i n (some _), .row j m none => i = j ∧ n = m
  | .row i n (some _), .own j m => i = j ∧ n = m
  | _, _ => False
/-- The same value, told by its contents; a nil slice, of elements of any size. -/
def ConvV (E : Env) (x y : V) : Prop := x = y ∨ (∃ b, res E x = some b ∧ y = .b b ∧ ∀ i ∈ x.names, ∀ e, E i = some e → e.hot = false) ∨ (x.nilLike = true ∧ ∃ sz, 0 < sz ∧ y = .b (.sl sz [])) ∨ RowOf x y
structure Conv (s : Slots) (E : Env) (s1 : Slots) (E1 : Env) : Prop where
  slot : ∀ t y, s1 t = some y → ∃ x, s t = some x ∧ ConvV E x y
  ent : ∀ i e1, E1 i = some e1 → ∃ e, E i = some e ∧ e1.sz = e.sz ∧ e1.tg = e.tg ∧ e1.cells.length = e.cells.length ∧ ∀ (j : Nat) (y : V), e1.cells[j]? = some y → ∃ x, e.cells[j]? = some x ∧ ConvV E x y
/-- Less is told, by other names: the numbers below n1 are all that is spoken of. -/
structure WeakR (ρ : Nat → Nat) (k : Nat) (s : Slots) (E : Env) (n1 : Nat) (s1 : Slots) (E1 : Env) : Prop where
  lent : k ≤ n1
  low : ∀ i, i < k → ρ i = i
  slot : ∀ t x, s1 t = some x → s t = some (x.ren ρ) ∧ ∀ i ∈ x.all, i < n1
  ent : ∀ i e, E1 i = some e → E (ρ i) = some (e.ren ρ) ∧ i < n1 ∧ ∀ v ∈ e.cells, ∀ j ∈ v.all1, j < n1
  inj : ∀ i j e e', E1 i = some e → E1 j = some e' → ρ i = ρ j → i = j
def Weak (k : Nat) (s : Slots) (E : Env) (n1 : Nat) (s1 : Slots) (E1 : Env) : Prop := (∃ ρ, WeakR ρ k s E n1 s1 E1) ∨ ∃ (nv : List Nat) (s' : Slots) (E' : Env) (ρ : Nat → Nat), Conv s (upds E (nv.map (cool E))) s' E' ∧ WeakR ρ k s' E' n1 s1 E1

inductive VExit where
  | normal
  | exit (id : Nat)
  | ret
def VExit.to : VExit → Exit
  | .normal => .normal
  | .exit id => .exit id
  | .ret => .ret
def Op.notDefer : Op → Bool
  | .defer _ => false
  | _ => true
/-- Every slot that code fills is there; nothing is deferred. -/
def codeOk (N : Frm) : Code → Bool
  | .region _ ops _ => ops.toList.all fun o => (match o.dst with
    | some d => decide (d < N.n) && (N.fx d).isNone
    | none => true) && Op.notDefer o.op
  | .seq a b => codeOk N a && codeOk N b
  | .cond _ a b => codeOk N a && codeOk N b
  | .block _ b => codeOk N b
  | .loop b => codeOk N b
  | .scope b => codeOk N b
  | .rangeFunc _ ps a b => ps.all (fun t => decide (t < N.n) && (N.fx t).isNone) && codeOk N a && codeOk N b
  | _ => true
def noRange : Code → Bool
  | .seq a b => noRange a && noRange b
  | .cond _ a b => noRange a && noRange b
  | .block _ b => noRange b
  | .loop b => noRange b
  | .scope b => noRange b
  | .rangeFunc _ _ _ _ => false
  | _ => true
/-- No fence but that code may be a round's. -/
structure RF (F : Fence) : Prop where
  fn : ∀ f, F.fn f
  depth : F.depth = none
  alive : F.alive = false
/-- Code of which more is known than what is said of its parts. -/
def SemC (P : Program) (k : Nat) (c : Code) (n : Nat) (s : Slots) (E : Env) (Q : VExit → Nat → Slots → Env → Prop) : Prop :=
  ∀ (F : Fence) (w0 W : World) (P0 : Nat → Prop) (E0 : Env) (pl0 pl : Plan) (N : Frm) (a : Act) (Qx : Exit → Act → World → Prop), RF F → F.round = none → P.follows .mixedOrders = true → codeOk N c = true → (∀ i, k ≤ i → pl0 i = none) →
    Sim w0 P0 E0 pl0 N E pl s a W → (∀ i, n ≤ i → pl i = none) → (∀ e n s E a W pl, Q e n s E → Sim w0 P0 E0 pl0 N E pl s a W → (∀ i, n ≤ i → pl i = none) → Qx e.to a W) → c.wpIn F 0 P Qx a W

/-- Code. -/
def VCode (P : Program) (k : Nat) : Code → Nat → Slots → Env → (VExit → Nat → Slots → Env → Prop) → Prop
  | .skip, n, s, E, Q => Q .normal n s E
  | .region _ ops false, n, s, E, Q => VList P ops ops.toList n s E (Q .normal)
  | .region _ ops true, n, s, E, Q => drawOk ops = true ∧ VLog P ops ops.toList n s E [] fun log n s E => logOk (bef ops) log = true ∧ Q .normal n s E
  | .seq a b, n, s, E, Q => VCode P k a n s E fun e n s E => match e with
    | .normal => VCode P k b n s E Q ∨ ∃ n1 s1 E1, Weak k s E n1 s1 E1 ∧ VCode P k b n1 s1 E1 Q
    | e => Q e n s E
  | .cond c a b, n, s, E, Q => ∃ t, ev s c = some (.b (.lit (.bool t))) ∧ ((t = true → VCode P k a n s E Q) ∧ (t = false → VCode P k b n s E Q))
  | .block id b, n, s, E, Q => VCode P k b n s E fun e n s E => match e with
    | .exit id' => if id' = id then Q .normal n s E else Q (.exit id') n s E
    | e => Q e n s E
  | .loop b, n, s, E, Q => ∃ (α : Type) (st : α → Nat × Slots × Env) (ok : α → Prop) (μ : α → Nat), (∃ x, ok x ∧ Weak k s E (st x).1 (st x).2.1 (st x).2.2) ∧ ∀ x, ok x → VCode P k b (st x).1 (st x).2.1 (st x).2.2 fun e n' s' E' => match e with
    | .normal => ∃ y, ok y ∧ μ y < μ x ∧ Weak k s' E' (st y).1 (st y).2.1 (st y).2.2
    | e => Q e n' s' E'
  | .exit id, n, s, E, Q => Q (.exit id) n s E
  | .ret, n, s, E, Q => Q .ret n s E
  | .scope b, n, s, E, Q => VCode P k b n s E Q
  | .label _, n, s, E, Q => Q .normal n s E
  | .rangeFunc g ps x y, n, s, E, Q => SemC P k (.rangeFunc g ps x y) n s E Q
  | _, _, _, _, _ => False
end Go.VL

/- A small program logic over the translated Go code, third part: each operation does in the machine what it does to abstract values. -/
set_option linter.unusedVariables false
set_option linter.unusedSimpArgs false
namespace Go.VL
open Go.RowKit

section
variable {P : Program} {w0 W W1 : World} {P0 F : Nat → Prop} {E0 E E1 : Env} {pl0 pl pl1 : Plan} {N : Frm} {id : Nat} {s : Slots} {a : Act} {o : Oper} {K : Act → World → Prop} {Qx : Exit → Act → World → Prop}

theorem rep_const {W : World} {Q : Nat → Prop} {pl : Plan} {v : Value} {x : V} (h : constV v = some x) : Rep W Q pl x v := by
  unfold constV at h
  split at h
  · injection h with h; subst h; exact RepB.nilsl 1 (by decide)
  · split at h
    · rename_i h1
      injection h with h; subst h; exact RepB.lit _ h1
    · cases h

theorem Sim.ev (S : Sim w0 P0 E0 pl0 N E pl s a W) {x : Operand} {v : V} (h : Go.VL.ev s x = some v) : Rep W (Qf (FF w0 P0) E pl) pl v (a.eval x) := by
  cases x with
  | tmp t =>
    obtain ⟨u, hu, hr⟩ := S.slots t v h
    have : a.eval (.tmp t) = u := by simp [Act.eval, Array.getD_eq_getD_getElem?, hu]
    rw [this]; exact hr
  | const c => exact rep_const h
  | global g => cases h
  | func f => cases h; exact ⟨#[], rfl, rfl, fun j x hj => by simp at hj⟩

theorem rep_lit {W : World} {Q : Nat → Prop} {pl : Plan} {c u : Value} (h : Rep W Q pl (.b (.lit c)) u) : u = c := by
  cases (show RepB W Q (.lit c) u from h) with
  | lit => rfl

/-- Values of one cell. -/
theorem repL_one {W : World} {Q : Nat → Prop} {pl : Plan} {x : V} {u : Value} (h : RepL W Q pl x u) (hx : ∀ l, x ≠ .b (.agg l) ∧ x ≠ .b (.tup l)) : u.oneCell' = true := by
  cases x with
  | b x =>
    have h' : RepB W Q x u := h
    clear h
    cases h' with
    | lit _ h1 => exact h1
    | nil => rfl
    | nilsl => rfl
    | sl => rfl
    | agg l => exact absurd rfl (hx l).1
    | tup l => exact absurd rfl (hx l).2
  | own i n => obtain ⟨g, c, _, _, rfl⟩ := h; rfl
  | ptr i off => obtain ⟨g, c, _, rfl⟩ := h; rfl
  | rd l => obtain ⟨A, f, rfl, _⟩ := h; rfl
  | agg l => exact h.elim
  | fn f l => obtain ⟨arr, rfl, _⟩ := h; rfl
  | tup l => exact h.elim
  | win i off n => obtain ⟨g, c, _, _, rfl⟩ := h; rfl
  | cut sz l => obtain ⟨_, A, n, c, rfl, _⟩ := h; rfl
  | row i n c => exact RowRep.one h

/-- A value's cells, one by one. -/
theorem rep_cells {W : World} {Q : Nat → Prop} {pl : Plan} {x : V} {u : Value} (h : Rep W Q pl x u) (hx : NT x) :
    u.cells.size = x.cells.length ∧ ∀ (j : Nat) (y : V), x.cells[j]? = some y → ∃ z : Value, u.cells[j]? = some z ∧ z.oneCell' = true ∧ RepL W Q pl y z := by
  have one : RepL W Q pl x u → x.cells = [x] → (∀ l, x ≠ .b (.agg l)) → u.cells.size = x.cells.length ∧ ∀ (j : Nat) (y : V), x.cells[j]? = some y → ∃ z : Value, u.cells[j]? = some z ∧ z.oneCell' = true ∧ RepL W Q pl y z := by
    intro hl hc ha
    have h1 := repL_one hl (fun l => ⟨ha l, hx.1 l⟩)
    have h2 : u.cells = #[u] := by cases u <;> first | rfl | simp [Value.oneCell'] at h1
    rw [hc, h2]
    refine ⟨rfl, fun j y hj => ?_⟩
    cases j with
    | zero => simp at hj; subst hj; exact ⟨u, rfl, h1, hl⟩
    | succ j => simp at hj
  cases x with
  | agg l =>
    obtain ⟨b, rfl, h2, h3⟩ := h
    exact ⟨h2, fun j y hj => h3 j y hj⟩
  | b x =>
    cases x with
    | agg l =>
      cases (show RepB W Q (.agg l) u from h) with
      | agg _ b f hl hu h1 hr =>
        refine ⟨by simp [Value.cells, V.cells, hl], fun j y hj => ?_⟩
        simp only [V.cells, List.getElem?_map, Option.map_eq_some_iff] at hj
        obtain ⟨z, hz, rfl⟩ := hj
        have hlt : j < l.length := (List.getElem?_eq_some_iff.1 hz).1
        exact ⟨f j, hu j hlt, h1 j hlt, hr j z hz⟩
    | lit v => exact one h rfl (fun l h => by cases h)
    | nil => exact one h rfl (fun l h => by cases h)
    | sl sz l => exact one h rfl (fun l h => by cases h)
    | tup l => exact absurd rfl (hx.1 l)
  | fn f l => exact one h rfl (fun l h => by cases h)
  | tup l => exact absurd rfl (hx.2 l)
  | own i n => exact one h rfl (fun l h => by cases h)
  | ptr i off => exact one h rfl (fun l h => by cases h)
  | rd l => exact one h rfl (fun l h => by cases h)
  | win i off n => exact one h rfl (fun l h => by cases h)
  | cut sz l => exact one h rfl (fun l h => by cases h)
  | row i n c => exact one h rfl (fun l h => by cases h)

/-- An operation that yields a value and leaves all as it is. -/
theorem wp_val {u : Value} {v : V} (S : Sim w0 P0 E0 pl0 N E pl s a W) (hf : pl id = none) (hrun : (execOp a.eval o).run P W = .ok (.value u) W) (hr : Rep W (Qf (FF w0 P0) E pl) pl v u)
    (hK : ∀ u pl1 W1, Sim w0 P0 E0 pl0 N E pl1 s a W1 → (∀ i, i ≠ id → pl i = none → pl1 i = none) → Rep W1 (Qf (FF w0 P0) E pl1) pl1 v u → K (a.put o.dst u) W1) : Oper.wp P o a W K Qx := by
  unfold Oper.wp
  rw [hrun]
  exact hK u pl W S (fun i _ h => h) hr

theorem hot_setAt_new {e : Ent} {g c k : Nat} (hf : E id = none) (h : Hot (setAt E id (some e)) (setAt pl id (some (g, c))) k) : Hot E pl k ∨ k = g := by
  obtain ⟨i, e', c', h1, h2, h3⟩ := h
  by_cases hi : i = id
  · subst hi
    rw [setAt_self] at h3
    injection h3 with h3
    injection h3 with h3 _
    exact .inr h3.symm
  · rw [setAt_ne _ _ hi] at h1 h3
    exact .inl ⟨i, e', c', h1, h2, h3⟩

theorem EOk.none (hE : EOk W F E pl) {i : Nat} (h : pl i = .none) : E i = .none := by
  cases he : E i with
  | none => rfl
  | some e =>
    obtain ⟨g, c, cur, T, h1, _⟩ := hE.ent i e he
    rw [h] at h1
    cases h1

/-- A new entry in new memory. -/
theorem Sim.new (S : Sim w0 P0 E0 pl0 N E pl s a W) (hid : pl id = none) (cur : Array Value) (T : TypeId) (e : Ent) (c : Nat) (h1 : cur.size = c * e.sz) (h2 : e.cells.length ≤ cur.size) (h3 : c ≤ maxLen) (h4 : 0 < e.sz)
    (h5 : ∀ (j : Nat) (x : V), e.cells[j]? = some x → ∃ u : Value, cur[j]? = some u ∧ u.oneCell' = true ∧ RepL W (Qf (FF w0 P0) E pl) pl x u) (hT : e.tg.Is T := by exact Tag.is_none) :
    Sim w0 P0 E0 pl0 N (setAt E id (some e)) (setAt pl id (some (W.heap.size, c))) s a (W.alloc (.cells cur T (0, 0))) := by
  have hEid : E id = none := S.eok.none hid
  have hsame : ∀ k, k < W.heap.size → (W.alloc (.cells cur T (0, 0))).heap[k]? = W.heap[k]? := fun k hk => by
    show (W.heap.push _)[k]? = _
    rw [Array.getElem?_push, if_neg (by omega)]
  have hpl : ∀ i p, pl i = some p → setAt pl id (some (W.heap.size, c)) i = some p := fun i p h => by
    rw [setAt_ne _ _ (fun e => by rw [e, hid] at h; cases h)]; exact h
  have hh : ∀ k, Hot (setAt E id (some e)) (setAt pl id (some (W.heap.size, c))) k → Hot E pl k ∨ W.heap.size ≤ k := fun k hk => by
    rcases hot_setAt_new hEid hk with h | h
    · exact .inl h
    · exact .inr (by omega)
  refine S.step (fun _ => False) rfl rfl rfl (by show W.heap.size ≤ (W.heap.push _).size; simp) (fun k hk _ => hsame k hk) (fun k h => h.elim) hpl hh ⟨fun i e' he => ?_, fun i j e1 e2 g c1 c2 hi hj pi pj => ?_⟩
  · by_cases h : i = id
    · subst h
      rw [setAt_self] at he
      injection he with he
      subst he
      refine ⟨W.heap.size, c, cur, T, by simp, fun _ => by show (W.heap.push _)[W.heap.size]? = _; simp, fun _ => .inr S.keep.size, h1, h2, h3, ⟨h4, hT⟩, fun j x hj => ?_⟩
      obtain ⟨u, hu, hu1, hr⟩ := h5 j x hj
      refine ⟨u, hu, hu1, hr.move (fun k _ hk => hsame k hk) (fun k hk hl => ⟨hk.1, fun hh1 => ?_⟩) hpl⟩
      rcases hh k hh1 with h | h
      · exact hk.2 h
      · omega
    · rw [setAt_ne _ _ h] at he
      exact (S.eok.ent i e' he).move (fun _ => False) (fun k hk _ => hsame k hk) (fun k h => h.elim) hpl hh (fun _ _ _ h => h)
  · have lt : ∀ (i : Nat) (e : Ent) (g c : Nat), E i = some e → pl i = some (g, c + 1) → g < W.heap.size := fun i e g c h p => by
      obtain ⟨_, cur', T', _, _, q2, _⟩ := (S.eok.ent i e h).pos p (.inr (by omega))
      exact (Array.getElem?_eq_some_iff.1 q2).1
    by_cases h : i = id <;> by_cases h' : j = id
    · rw [h, h']
    · subst h
      rw [setAt_self] at pi
      rw [setAt_ne _ _ h'] at hj pj
      injection pi with pi
      injection pi with pi _
      have := lt j e2 g c2 hj pj
      omega
    · subst h'
      rw [setAt_self] at pj
      rw [setAt_ne _ _ h] at hi pi
      injection pj with pj
      injection pj with pj _
      have := lt i e1 g c1 hi pi
      omega
    · rw [setAt_ne _ _ h] at hi pi
      rw [setAt_ne _ _ h'] at hj pj
      exact S.eok.inj i j e1 e2 g c1 c2 hi hj pi pj
end
end Go.VL

/- A small program logic over the translated Go code, fourth part: an entry changes; and what the machine's operations come to. -/
set_option linter.unusedVariables false
set_option linter.unusedSimpArgs false
namespace Go.VL
open Go.RowKit

section
variable {P : Program} {w0 W W1 : World} {P0 F : Nat → Prop} {E0 E E1 : Env} {pl0 pl pl1 : Plan} {N : Frm} {id : Nat} {s : Slots} {a : Act} {o : Oper} {K : Act → World → Prop} {Qx : Exit → Act → World → Prop}

theorem hot_setAt_old {e e' : Ent} {i k : Nat} (hi : E i = some e) (hh : e'.hot = true → e.hot = true) (h : Hot (setAt E i (some e')) pl k) : Hot E pl k := by
  obtain ⟨j, e1, c', h1, h2, h3⟩ := h
  by_cases hj : j = i
  · subst hj
    rw [setAt_self] at h1
    injection h1 with h1
    subst h1
    exact ⟨j, e, c', hi, hh h2, h3⟩
  · rw [setAt_ne _ _ hj] at h1
    exact ⟨j, e1, c', h1, h2, h3⟩

/-- An entry that may be written has been written. -/
theorem Sim.updT (S : Sim w0 P0 E0 pl0 N E pl s a W) {i g c : Nat} {e : Ent} (hE : E i = some e) (hot : e.hot = true) (hp : pl i = some (g, c)) (h0 : 0 < c) (hos : W1.os = W.os) (htape : W1.tape = W.tape) (hout : W1.output = W.output)
    (hsz : W.heap.size ≤ W1.heap.size) (hs : ∀ k, k < W.heap.size → k ≠ g → W1.heap[k]? = W.heap[k]?) (cur : Array Value) (T : TypeId) (hg : W1.heap[g]? = some (.cells cur T (0, 0))) (cells : List V) (t : Tag) (ht : t.b = true → e.hot = true) (hT : t.Is T) (hc : cur.size = c * e.sz) (hl : cells.length ≤ cur.size)
    (hr : ∀ (j : Nat) (x : V), cells[j]? = some x → ∃ u : Value, cur[j]? = some u ∧ u.oneCell' = true ∧ RepL W (Qf (FF w0 P0) E pl) pl x u) :
    Sim w0 P0 E0 pl0 N (setAt E i (some (⟨e.sz, cells, t⟩ : Ent))) pl s a W1 := by
  obtain ⟨c, rfl⟩ : ∃ c1, c = c1 + 1 := ⟨c - 1, by omega⟩
  have hX : Hot E pl g := ⟨i, e, c, hE, hot, hp⟩
  have hh : ∀ k, Hot (setAt E i (some (⟨e.sz, cells, t⟩ : Ent))) pl k → Hot E pl k ∨ W.heap.size ≤ k := fun k hk => .inl (hot_setAt_old hE (fun h => ht h) hk)
  refine S.step (fun k => k = g) hos htape hout hsz hs (fun k h => h ▸ hX) (fun _ _ h => h) hh ⟨fun j e' he => ?_, fun j j' e1 e2 g1 c1 c2 hi hj pi pj => ?_⟩
  · by_cases h : j = i
    · subst h
      rw [setAt_self] at he
      injection he with he
      subst he
      obtain ⟨g', c', cur', T', q1, q2, q3, q4, q5, q6, q7, q8⟩ := S.eok.ent j e hE
      rw [hp] at q1
      injection q1 with q1
      injection q1 with q1 q1'
      subst q1; subst q1'
      refine ⟨g, _, cur, T, hp, fun _ => hg, q3, hc, hl, q6, ⟨q7.1, hT⟩, fun j x hj => ?_⟩
      obtain ⟨u, hu, hu1, hr1⟩ := hr j x hj
      refine ⟨u, hu, hu1, hr1.move (fun k hk hl => hs k hl (fun hkg => hk.2 (hkg ▸ hX))) (fun k hk hl => ⟨hk.1, fun hh1 => ?_⟩) (fun _ _ h => h)⟩
      rcases hh k hh1 with h | h
      · exact hk.2 h
      · omega
    · rw [setAt_ne _ _ h] at he
      refine (S.eok.ent j e' he).move (fun k => k = g) hs (fun k h => h ▸ hX) (fun _ _ h => h) hh (fun g' c' hp' hgg => ?_)
      subst hgg
      exact h (S.eok.inj j i e' e g' c' c he hE hp' hp)
  · have old : ∀ (j : Nat) (e1 : Ent), setAt E i (some (⟨e.sz, cells, t⟩ : Ent)) j = some e1 → ∃ e2, E j = some e2 := fun j e1 h => by
      by_cases hji : j = i
      · subst hji; exact ⟨e, hE⟩
      · rw [setAt_ne _ _ hji] at h; exact ⟨e1, h⟩
    obtain ⟨e1', h1⟩ := old j e1 hi
    obtain ⟨e2', h2⟩ := old j' e2 hj
    exact S.eok.inj j j' e1' e2' g1 c1 c2 h1 h2 pi pj

theorem Sim.upd' (S : Sim w0 P0 E0 pl0 N E pl s a W) {i g c : Nat} {e : Ent} (hE : E i = some e) (hot : e.hot = true) (hp : pl i = some (g, c)) (h0 : 0 < c) (hos : W1.os = W.os) (htape : W1.tape = W.tape) (hout : W1.output = W.output)
    (hsz : W.heap.size ≤ W1.heap.size) (hs : ∀ k, k < W.heap.size → k ≠ g → W1.heap[k]? = W.heap[k]?) (cur : Array Value) (T : TypeId) (hg : W1.heap[g]? = some (.cells cur T (0, 0))) (hT : e.tg.Is T) (cells : List V) (hc : cur.size = c * e.sz) (hl : cells.length ≤ cur.size)
    (hr : ∀ (j : Nat) (x : V), cells[j]? = some x → ∃ u : Value, cur[j]? = some u ∧ u.oneCell' = true ∧ RepL W (Qf (FF w0 P0) E pl) pl x u) :
    Sim w0 P0 E0 pl0 N (setAt E i (some { e with cells := cells })) pl s a W1 :=
  S.updT hE hot hp h0 hos htape hout hsz hs cur T hg cells e.tg (fun _ => hot) hT hc hl hr

theorem Sim.upd (S : Sim w0 P0 E0 pl0 N E pl s a W) {i g c : Nat} {e : Ent} (hE : E i = some e) (hot : e.hot = true) (hp : pl i = some (g, c)) (h0 : 0 < c) (hos : W1.os = W.os) (htape : W1.tape = W.tape) (hout : W1.output = W.output)
    (hsz : W1.heap.size = W.heap.size) (hs : ∀ k, k ≠ g → W1.heap[k]? = W.heap[k]?) (cur : Array Value) (T : TypeId) (hg : W1.heap[g]? = some (.cells cur T (0, 0))) (hT : e.tg.Is T) (cells : List V) (hc : cur.size = c * e.sz) (hl : cells.length ≤ cur.size)
    (hr : ∀ (j : Nat) (x : V), cells[j]? = some x → ∃ u : Value, cur[j]? = some u ∧ u.oneCell' = true ∧ RepL W (Qf (FF w0 P0) E pl) pl x u) :
    Sim w0 P0 E0 pl0 N (setAt E i (some { e with cells := cells })) pl s a W1 :=
  S.upd' hE hot hp h0 hos htape hout (Nat.le_of_eq hsz.symm) (fun k _ hk => hs k hk) cur T hg hT cells hc hl hr

/-- An entry is written no more. -/
theorem Sim.cool (S : Sim w0 P0 E0 pl0 N E pl s a W) (i : Nat) : Sim w0 P0 E0 pl0 N (upds E [Go.VL.cool E i]) pl s a W := by
  simp only [upds, Go.VL.cool]
  cases hE : E i with
  | none =>
    have : setAt E i (Option.map (fun e : Ent => e.cold) none) = E := by
      funext j
      by_cases h : j = i
      · subst h; simp [hE]
      · exact setAt_ne _ _ h
    rw [this]
    exact S
  | some e =>
    simp only [Option.map_some]
    have hh : ∀ k, Hot (setAt E i (some e.cold)) pl k → Hot E pl k ∨ W.heap.size ≤ k := fun k hk => .inl (hot_setAt_old hE (fun h => by cases h) hk)
    refine S.step (fun _ => False) rfl rfl rfl (Nat.le_refl _) (fun k _ _ => rfl) (fun k h => h.elim) (fun _ _ h => h) hh ⟨fun j e' he => ?_, fun j j' e1 e2 g1 c1 c2 hi hj pi pj => ?_⟩
    · by_cases h : j = i
      · subst h
        rw [setAt_self] at he
        injection he with he
        subst he
        obtain ⟨g, c, cur, T, q1, q2, q3, q4, q5, q6, q7, q8⟩ := (S.eok.ent j e hE).move (E1 := setAt E j (some e.cold)) (pl1 := pl) (W1 := W) (fun _ => False) (fun k _ _ => rfl) (fun k h => h.elim) (fun _ _ h => h) hh (fun _ _ _ h => h)
        exact ⟨g, c, cur, T, q1, q2, q3, q4, q5, q6, q7, q8⟩
      · rw [setAt_ne _ _ h] at he
        exact (S.eok.ent j e' he).move (fun _ => False) (fun k _ _ => rfl) (fun k h => h.elim) (fun _ _ h => h) hh (fun _ _ _ h => h)
    · have old : ∀ (j : Nat) (e1 : Ent), setAt E i (some e.cold) j = some e1 → ∃ e2, E j = some e2 := fun j e1 h => by
        by_cases hji : j = i
        · subst hji; exact ⟨e, hE⟩
        · rw [setAt_ne _ _ hji] at h; exact ⟨e1, h⟩
      obtain ⟨e1', h1⟩ := old j e1 hi
      obtain ⟨e2', h2⟩ := old j' e2 hj
      exact S.eok.inj j j' e1' e2' g1 c1 c2 h1 h2 pi pj

theorem cool_upds (E : Env) (i j : Nat) : Go.VL.cool (upds E [Go.VL.cool E i]) j = Go.VL.cool E j := by
  simp only [Go.VL.cool, upds]
  by_cases h : j = i
  · subst h; rw [setAt_self]; cases E j <;> rfl
  · rw [setAt_ne _ _ h]

theorem Sim.cools (l : List Nat) : ∀ {E : Env}, Sim w0 P0 E0 pl0 N E pl s a W → Sim w0 P0 E0 pl0 N (upds E (l.map (Go.VL.cool E))) pl s a W := by
  induction l with
  | nil => intro E S; exact S
  | cons i l ih =>
    intro E S
    have h := ih (S.cool i)
    rw [List.map_congr_left (fun j _ => cool_upds E i j)] at h
    exact h

/-- Less is said of an entry. -/
theorem Sim.retag (S : Sim w0 P0 E0 pl0 N E pl s a W) {i : Nat} {e : Ent} (hE : E i = some e) (t : Tag) (ht : t.b = true → e.hot = true) (hT : ∀ T', t.T = some T' → e.tg.T = some T') : Sim w0 P0 E0 pl0 N (setAt E i (some ⟨e.sz, e.cells, t⟩)) pl s a W := by
  have hh : ∀ k, Hot (setAt E i (some ⟨e.sz, e.cells, t⟩)) pl k → Hot E pl k ∨ W.heap.size ≤ k := fun k hk => .inl (hot_setAt_old hE (fun h => ht h) hk)
  refine S.step (fun _ => False) rfl rfl rfl (Nat.le_refl _) (fun k _ _ => rfl) (fun k h => h.elim) (fun _ _ h => h) hh ⟨fun j e' he => ?_, fun j j' e1 e2 g1 c1 c2 hi hj pi pj => ?_⟩
  · by_cases h : j = i
    · subst h
      rw [setAt_self] at he
      injection he with he
      subst he
      obtain ⟨g, c, cur, T, q1, q2, q3, q4, q5, q6, q7, q8⟩ := (S.eok.ent j e hE).move (E1 := setAt E j (some ⟨e.sz, e.cells, t⟩)) (pl1 := pl) (W1 := W) (fun _ => False) (fun k _ _ => rfl) (fun k h => h.elim) (fun _ _ h => h) hh (fun _ _ _ h => h)
      exact ⟨g, c, cur, T, q1, q2, q3, q4, q5, q6, ⟨q7.1, fun T' h => q7.2 T' (hT T' h)⟩, q8⟩
    · rw [setAt_ne _ _ h] at he
      exact (S.eok.ent j e' he).move (fun _ => False) (fun k _ _ => rfl) (fun k h => h.elim) (fun _ _ h => h) hh (fun _ _ _ h => h)
  · have old : ∀ (j : Nat) (e1 : Ent), setAt E i (some ⟨e.sz, e.cells, t⟩) j = some e1 → ∃ e2, E j = some e2 := fun j e1 h => by
      by_cases hji : j = i
      · subst hji; exact ⟨e, hE⟩
      · rw [setAt_ne _ _ hji] at h; exact ⟨e1, h⟩
    obtain ⟨e1', h1⟩ := old j e1 hi
    obtain ⟨e2', h2⟩ := old j' e2 hj
    exact S.eok.inj j j' e1' e2' g1 c1 c2 h1 h2 pi pj

/-- Reading what an entry holds. -/
theorem Sim.read (S : Sim w0 P0 E0 pl0 N E pl s a W) {i g c : Nat} {e : Ent} (hE : E i = some e) (hp : pl i = some (g, c)) {j : Nat} {x : V} (hx : e.cells[j]? = some x) :
    ∃ u, W.cell? ⟨g, j, none⟩ = some u ∧ u.oneCell' = true ∧ RepL W (Qf (FF w0 P0) E pl) pl x u := by
  obtain ⟨_, cur, T, _, q1, q2, q3, q4, q5, q6, q7, q8⟩ := (S.eok.ent i e hE).pos hp (.inl (by have := (List.getElem?_eq_some_iff.1 hx).1; omega))
  obtain ⟨u, hu, h1, hr⟩ := q8 j x hx
  refine ⟨u, ?_, h1, hr⟩
  simp [World.cell?, q2, hu]

theorem rep_of_repL {W : World} {Q : Nat → Prop} {pl : Plan} {x : V} {u : Value} (h : RepL W Q pl x u) : Rep W Q pl x u := by
  cases x with
  | agg l => exact h.elim
  | tup l => exact h.elim
  | fn f l => exact h
  | b x => exact h
  | own i n => exact h
  | ptr i off => exact h
  | rd l => exact h
  | win i off n => exact h
  | cut sz l => exact h
  | row i n c => exact h
theorem repL_of_rep {W : World} {Q : Nat → Prop} {pl : Plan} {x : V} {u : Value} (h : Rep W Q pl x u) (hx : ∀ l, x ≠ .agg l) (hx2 : ∀ l, x ≠ .tup l) : RepL W Q pl x u := by
  cases x with
  | tup l => exact absurd rfl (hx2 l)
  | fn f l => exact h
  | agg l => exact absurd rfl (hx l)
  | b x => exact h
  | own i n => exact h
  | ptr i off => exact h
  | rd l => exact h
  | win i off n => exact h
  | cut sz l => exact h
  | row i n c => exact h

theorem info_of_sz {T n : Nat} (h : szOf P T = some n) : ∃ i, P.info? T = some i ∧ i.size = n := by
  unfold szOf at h
  exact Option.map_eq_some_iff.1 h
theorem run_sizeOf {T n : Nat} (h : szOf P T = some n) (W : World) : (sizeOf T).run P W = .ok n W := by
  obtain ⟨i, hi, rfl⟩ := info_of_sz h
  simp [sizeOf, typeInfo, hi]
theorem run_isAgg {T : Nat} {b : Bool} (h : aggOf P T = some b) (W : World) : (isAgg T).run P W = .ok b W := by
  unfold aggOf at h
  obtain ⟨d, hd, hb⟩ := Option.map_eq_some_iff.1 h
  subst hb
  simp only [isAgg, Sem.run_bind, run_underlying hd, Result.andThen_ok]
  cases d <;> rfl

theorem zeroB_rep {W : World} {Q : Nat → Prop} {v : Value} {x : B} (h : zeroB v = some x) : RepB W Q x v ∧ v.oneCell' = true := by
  unfold zeroB at h
  split at h
  · injection h with h; subst h; exact ⟨.nilsl 1 (by decide), rfl⟩
  · split at h
    · rename_i h1
      injection h with h; subst h; exact ⟨.lit _ h1, h1⟩
    · cases h
theorem zeroBs_rep {W : World} {Q : Nat → Prop} : ∀ {l : List Value} {xs : List B}, zeroBs l = some xs → xs.length = l.length ∧ ∀ (j : Nat) (x : B), xs[j]? = some x → ∃ v : Value, l[j]? = some v ∧ v.oneCell' = true ∧ RepB W Q x v
  | [], xs, h => by
    injection h with h; subst h
    exact ⟨rfl, fun j x hj => by simp at hj⟩
  | v :: r, xs, h => by
    unfold zeroBs at h
    split at h
    · rename_i x ys hx hy
      injection h with h; subst h
      obtain ⟨h1, h2⟩ := zeroBs_rep (W := W) (Q := Q) hy
      refine ⟨by simp [h1], fun j y hj => ?_⟩
      cases j with
      | zero =>
        simp at hj; subst hj
        exact ⟨v, rfl, (zeroB_rep (W := W) (Q := Q) hx).2, (zeroB_rep hx).1⟩
      | succ j => exact h2 j y (by simpa using hj)
    · cases h
theorem nilB_rep {W : World} {Q : Nat → Prop} {v : Value} {x : B} (h : zeroB v = some x) : RepB W Q (nilB x) v := by
  unfold zeroB at h
  split at h
  · injection h with h; subst h; exact .nil
  · split at h
    · rename_i h1
      injection h with h; subst h; exact .lit _ h1
    · cases h
/-- Cells of a zero value. -/
def ZeroL (l : List Value) (xs : List B) : Prop := xs.length = l.length ∧ ∀ (W : World) (Q : Nat → Prop) (j : Nat) (x : B), xs[j]? = some x → ∃ v : Value, l[j]? = some v ∧ v.oneCell' = true ∧ RepB W Q x v
theorem zeroBs_L {l : List Value} {xs : List B} (h : zeroBs l = some xs) : ZeroL l xs := ⟨(zeroBs_rep (W := default) (Q := fun _ => True) h).1, fun W Q => (zeroBs_rep (W := W) (Q := Q) h).2⟩
theorem zeroBs_N : ∀ {l : List Value} {xs : List B}, zeroBs l = some xs → ZeroL l (xs.map nilB)
  | [], xs, h => by
    injection h with h; subst h
    exact ⟨rfl, fun W Q j x hj => by simp at hj⟩
  | v :: r, xs, h => by
    unfold zeroBs at h
    split at h
    · rename_i x ys hx hy
      injection h with h; subst h
      obtain ⟨h1, h2⟩ := zeroBs_N hy
      refine ⟨by simpa using h1, fun W Q j y hj => ?_⟩
      cases j with
      | zero =>
        simp at hj; subst hj
        exact ⟨v, rfl, (zeroB_rep (W := W) (Q := Q) hx).2, nilB_rep hx⟩
      | succ j => exact h2 W Q j y (by simpa using hj)
    · cases h
theorem zeroOf_runL {T : Nat} {l : List B} (h : zeroOf P T = some l) : ∃ i z, P.info? T = some i ∧ i.zero = some z ∧ ZeroL z.cells.toList l := by
  unfold zeroOf at h
  obtain ⟨i, hi, h⟩ := Option.bind_eq_some_iff.1 h
  obtain ⟨z, hz, h⟩ := Option.bind_eq_some_iff.1 h
  exact ⟨i, z, hi, hz, zeroBs_L h⟩
theorem zeroOf_runN {T : Nat} {l : List B} (h : (zeroOf P T).map (List.map nilB) = some l) : ∃ i z, P.info? T = some i ∧ i.zero = some z ∧ ZeroL z.cells.toList l := by
  obtain ⟨l0, h0, rfl⟩ := Option.map_eq_some_iff.1 h
  unfold zeroOf at h0
  obtain ⟨i, hi, h1⟩ := Option.bind_eq_some_iff.1 h0
  obtain ⟨z, hz, h2⟩ := Option.bind_eq_some_iff.1 h1
  exact ⟨i, z, hi, hz, zeroBs_N h2⟩
theorem zeroOf_run {T : Nat} {l : List B} (h : zeroOf P T = some l) : ∃ i z, P.info? T = some i ∧ i.zero = some z ∧ zeroBs z.cells.toList = some l := by
  unfold zeroOf at h
  obtain ⟨i, hi, h⟩ := Option.bind_eq_some_iff.1 h
  obtain ⟨z, hz, h⟩ := Option.bind_eq_some_iff.1 h
  exact ⟨i, z, hi, hz, h⟩
end
end Go.VL

/- A small program logic over the translated Go code, fifth part: every operation keeps what is known of the frame. -/
set_option linter.unusedVariables false
set_option linter.unusedSimpArgs false
namespace Go.VL
open Go.RowKit

section
variable {P : Program} {w0 W W1 : World} {P0 F : Nat → Prop} {E0 E E1 : Env} {pl0 pl pl1 : Plan} {N : Frm} {id : Nat} {s : Slots} {a : Act} {o : Oper} {K : Act → World → Prop} {Qx : Exit → Act → World → Prop}

theorem run_bop {op : BinOp} {T : TypeId} {xo yo : Operand} {x y r : Value} (h : bop op x y = some r) (W : World) : (do eqGuard op T xo yo x y; binOp op T x y : Sem Value).run P W = .ok r W := by
  have hg : (eqGuard op T xo yo x y).run P W = .ok () W := by
    cases x <;> cases y <;> simp [bop] at h <;> simp [eqGuard]
  simp only [Sem.run_bind, hg, Result.andThen_ok]
  cases x <;> cases y <;> simp only [bop] at h <;> try (cases h; done)
  · rename_i k x k' y
    cases op <;> simp only [binOp] <;> simp only at h
    all_goals first
      | (cases h; done)
      | (split at h
         · rename_i hc
           injection h with h; subst h
           have h0 : ¬ y < 0 := by omega
           simp [Op.shift, h0]
         · cases h)
      | (split at h
         · rename_i hk
           subst hk
           first
             | (injection h with h; subst h; simp [Op.intArith, Op.intBits, Op.intCmp])
             | (split at h
                · cases h
                · rename_i hy
                  injection h with h; subst h
                  simp [Op.intDiv, hy])
         · cases h)
  · rename_i x y
    cases op <;> simp only [binOp] <;> simp only at h
    all_goals first
      | (cases h; done)
      | (split at h
         · rename_i hc
           injection h with h; subst h
           have h0 : ¬ ((x.size + y.size : Nat) : Int) > IntKind.i64.max := by
             have : IntKind.i64.max = 9223372036854775807 := by decide
             rw [this]; omega
           simp only [Op.stringOp]
           rw [if_neg h0]
           rfl
         · cases h)
      | (injection h with h; subst h; simp [Op.stringOp])

theorem run_bopBool {op : BinOp} {T : TypeId} {xo yo : Operand} {x y r : Value} (hu : P.underlying T = some .bool) (h : bopBool op x y = some r) (W : World) : (do eqGuard op T xo yo x y; binOp op T x y : Sem Value).run P W = .ok r W := by
  have hg : (eqGuard op T xo yo x y).run P W = .ok () W := by
    cases x <;> cases y <;> simp [bopBool] at h <;> simp [eqGuard]
  simp only [Sem.run_bind, hg, Result.andThen_ok]
  cases x <;> cases y <;> simp only [bopBool] at h <;> try (cases h; done)
  cases op <;> simp only at h <;> first | (cases h; done) | skip
  · injection h with h; subst h; exact run_eql_bool W T _ _ hu
  · injection h with h; subst h; exact run_neq_bool W T _ _ hu

theorem run_uop {op : UnOp} {x r : Value} (h : uop op x = some r) (W : World) : (Op.unary op x).run P W = .ok r W := by
  cases x <;> simp only [uop] at h <;> try (cases h; done)
  · cases op <;> simp only at h <;> first | (cases h; done) | skip
    injection h with h; subst h; simp [Op.unary]
  · cases op <;> simp only at h <;> first | (cases h; done) | skip
    · injection h with h; subst h; simp [Op.unary, Op.intArith]
    · injection h with h; subst h; simp [Op.unary, Op.intBits]
end
end Go.VL

/- A small program logic over the translated Go code, sixth part: what an operation does to abstract values it does in the machine. -/
set_option linter.unusedVariables false
set_option linter.unusedSimpArgs false
namespace Go.VL
open Go.RowKit

section
variable {P : Program} {w0 W W1 : World} {P0 F : Nat → Prop} {E0 E E1 : Env} {pl0 pl pl1 : Plan} {N : Frm} {id : Nat} {s : Slots} {a : Act} {o : Oper} {K : Act → World → Prop} {Qx : Exit → Act → World → Prop}

theorem madeZ {α : Type} (z : List α) (n : Nat) : ∀ (j : Nat), j < n * z.length → ((List.replicate n z).flatten)[j]? = z[j % z.length]? := by
  induction n with
  | zero => intro j hj; simp at hj
  | succ n ih =>
    intro j hj
    rw [List.replicate_succ, List.flatten_cons]
    by_cases h : j < z.length
    · rw [List.getElem?_append_left h, Nat.mod_eq_of_lt h]
    · rw [List.getElem?_append_right (Nat.le_of_not_lt h), ih (j - z.length) (by rw [Nat.succ_mul] at hj; omega)]
      congr 1
      rw [Nat.mod_eq_sub_mod (Nat.le_of_not_lt h)]

theorem eff_move {x : Operand} {v : V} (h : ev s x = some v) (ho : o.op = .move x ∨ o.op = .assign x) (S : Sim w0 P0 E0 pl0 N E pl s a W) (hf : pl id = none) (hK : Next w0 P0 E0 pl0 pl N id s a o K E v) : Oper.wp P o a W K Qx := by
  refine wp_val S hf ?_ (S.ev h) hK
  rcases ho with ho | ho <;> simp [execOp, ho]

theorem eff_pick {x y c : Operand} {t : Bool} {v : V} (hc : ev s c = some (.b (.lit (.bool t)))) (h : ev s (if t then x else y) = some v) (ho : o.op = .pick c x y) (S : Sim w0 P0 E0 pl0 N E pl s a W) (hf : pl id = none)
    (hK : Next w0 P0 E0 pl0 pl N id s a o K E v) : Oper.wp P o a W K Qx := by
  refine wp_val S hf ?_ (S.ev h) hK
  have hb := rep_lit (S.ev hc)
  cases t <;> simp [execOp, ho, hb, asBool]

theorem wp_new {cur : Array Value} {T : TypeId} {e : Ent} {c : Nat} {v : V} {u : Value} (S : Sim w0 P0 E0 pl0 N E pl s a W) (hf : pl id = none)
    (hrun : (execOp a.eval o).run P W = .ok (.value u) (W.alloc (.cells cur T (0, 0)))) (h1 : cur.size = c * e.sz) (h2 : e.cells.length ≤ cur.size) (h3 : c ≤ maxLen) (h4 : 0 < e.sz)
    (h5 : ∀ (j : Nat) (x : V), e.cells[j]? = some x → ∃ u : Value, cur[j]? = some u ∧ u.oneCell' = true ∧ RepL W (Qf (FF w0 P0) E pl) pl x u)
    (hr : ∀ Q, Rep (W.alloc (.cells cur T (0, 0))) Q (setAt pl id (some (W.heap.size, c))) v u) (hK : Next w0 P0 E0 pl0 pl N id s a o K (setAt E id (some e)) v) (hT : e.tg.Is T := by exact Tag.is_none) : Oper.wp P o a W K Qx := by
  unfold Oper.wp
  rw [hrun]
  refine hK u _ _ (S.new hf cur T e c h1 h2 h3 h4 h5 hT) (fun i hi h => ?_) (hr _)
  rw [setAt_ne _ _ hi]
  exact h

theorem one_le_max : 1 ≤ maxLen := by decide

theorem eff_allocL {T : TypeId} {l : List B} (hz : ∃ i z, P.info? T = some i ∧ i.zero = some z ∧ ZeroL z.cells.toList l) (hl : l ≠ []) (ho : o.op = .alloc T) (S : Sim w0 P0 E0 pl0 N E pl s a W) (hf : pl id = none)
    (hK : Next w0 P0 E0 pl0 pl N id s a o K (setAt E id (some ⟨l.length, l.map .b, true⟩)) (.ptr id 0)) : Oper.wp P o a W K Qx := by
  obtain ⟨i, z, hi, hz1, h1, h2'⟩ := hz
  have h2 := h2' W (Qf (FF w0 P0) E pl)
  replace h1 : l.length = z.cells.size := by simpa using h1
  refine wp_new (v := .ptr id 0) (cur := z.cells) (T := T) (c := 1) (u := .pointer (some ⟨W.heap.size, 0, none⟩)) S hf ?_ (by simp [h1]) (by simp [h1]) one_le_max (List.length_pos_iff.2 hl) (fun j x hj => ?_) (fun Q => ⟨W.heap.size, 1, by simp, rfl⟩) hK
  · simp [execOp, ho, Instr.alloc, zeroValue, typeInfo, hi, hz1, newVar, newRow, World.alloc_eq]
  · simp only [List.getElem?_map, Option.map_eq_some_iff] at hj
    obtain ⟨y, hy, rfl⟩ := hj
    obtain ⟨u, hu, hu1, hr⟩ := h2 j y hy
    exact ⟨u, by simpa using hu, hu1, hr⟩
theorem eff_alloc {T : TypeId} {l : List B} (hz : zeroOf P T = some l) (hl : l ≠ []) (ho : o.op = .alloc T) (S : Sim w0 P0 E0 pl0 N E pl s a W) (hf : pl id = none)
    (hK : Next w0 P0 E0 pl0 pl N id s a o K (setAt E id (some ⟨l.length, l.map .b, true⟩)) (.ptr id 0)) : Oper.wp P o a W K Qx := eff_allocL (zeroOf_runL hz) hl ho S hf hK
theorem eff_allocN {T : TypeId} {l : List B} (hz : (zeroOf P T).map (List.map nilB) = some l) (hl : l ≠ []) (ho : o.op = .alloc T) (S : Sim w0 P0 E0 pl0 N E pl s a W) (hf : pl id = none)
    (hK : Next w0 P0 E0 pl0 pl N id s a o K (setAt E id (some ⟨l.length, l.map .b, true⟩)) (.ptr id 0)) : Oper.wp P o a W K Qx := eff_allocL (zeroOf_runN hz) hl ho S hf hK

theorem eff_box {T : TypeId} {x : Operand} {v : V} (h : ev s x = some v) (hl : v.cells ≠ []) (ht : NT v) (ho : o.op = .box T x) (S : Sim w0 P0 E0 pl0 N E pl s a W) (hf : pl id = none)
    (hK : Next w0 P0 E0 pl0 pl N id s a o K (setAt E id (some ⟨v.cells.length, v.cells, true⟩)) (.ptr id 0)) : Oper.wp P o a W K Qx := by
  obtain ⟨h1, h2⟩ := rep_cells (S.ev h) ht
  refine wp_new (v := .ptr id 0) (cur := (a.eval x).cells) (T := T) (c := 1) (u := .pointer (some ⟨W.heap.size, 0, none⟩)) S hf ?_ (by simp [h1]) (by simp [h1]) one_le_max (List.length_pos_iff.2 hl) (fun j y hj => h2 j y hj) (fun Q => ⟨W.heap.size, 1, by simp, rfl⟩) hK
  simp [execOp, ho, Instr.box, newVar, newRow, World.alloc_eq]

/-- The pointer of an entry. -/
theorem ptr_of {p : Operand} {i off : Nat} (S : Sim w0 P0 E0 pl0 N E pl s a W) (h : ev s p = some (.ptr i off)) : ∃ g c, pl i = some (g, c) ∧ a.eval p = .pointer (some ⟨g, off, none⟩) := S.ev h

theorem add_plain (g off j : Nat) : (⟨g, off, none⟩ : Addr).add j = ⟨g, off + j, none⟩ := by unfold Addr.add; split <;> simp_all

theorem eff_loadS {T : TypeId} {p : Operand} {i off n : Nat} {e : Ent} (h : ev s p = some (.ptr i off)) (he : E i = some e) (ha : aggOf P T = some true) (hn : szOf P T = some n) (hl : off + n ≤ e.cells.length) (ho : o.op = .load T p)
    (S : Sim w0 P0 E0 pl0 N E pl s a W) (hf : pl id = none) (hK : Next w0 P0 E0 pl0 pl N id s a o K E (.agg ((e.cells.drop off).take n))) : Oper.wp P o a W K Qx := by
  obtain ⟨g, c, hp, hv⟩ := ptr_of S h
  have rd : ∀ j, j < n → ∃ (x : V) (u : Value), e.cells[off + j]? = some x ∧ W.cell? ⟨g, off + j, none⟩ = some u ∧ u.oneCell' = true ∧ RepL W (Qf (FF w0 P0) E pl) pl x u := fun j hj => by
    have hx : e.cells[off + j]? = some (e.cells[off + j]'(by omega)) := List.getElem?_eq_getElem _
    obtain ⟨u, h1, h2, h3⟩ := S.read he hp hx
    exact ⟨_, u, hx, h1, h2, h3⟩
  let f : Nat → Value := fun j => (W.cell? ⟨g, off + j, none⟩).getD undef
  have hf1 : ∀ j, j < n → W.cell? ((⟨g, off, none⟩ : Addr).add j) = some (f j) := fun j hj => by
    obtain ⟨x, u, _, h1, _⟩ := rd j hj
    rw [add_plain]
    simp [f, h1]
  have hload := run_loadCells (P := P) W ⟨g, off, none⟩ n f hf1
  refine wp_val (v := .agg ((e.cells.drop off).take n)) (u := .agg ((List.range n).map f).toArray) S hf ?_ ⟨_, rfl, by simp; omega, fun j x hj => ?_⟩ hK
  · simp [execOp, ho, Instr.loadAt, hv, Instr.sureAddr, loadVar, run_isAgg ha, run_sizeOf hn, hload]
  · have hjn : j < n := by
      have := (List.getElem?_eq_some_iff.1 hj).1
      simp at this; omega
    obtain ⟨y, u, h0, h1, h2, h3⟩ := rd j hjn
    have : x = y := by
      rw [List.getElem?_take_of_lt hjn, List.getElem?_drop, h0] at hj
      injection hj with hj; exact hj.symm
    subst this
    exact ⟨u, by simp [hjn, f, h1], h2, h3⟩

theorem eff_load1 {T : TypeId} {p : Operand} {i off : Nat} {e : Ent} {x : V} (h : ev s p = some (.ptr i off)) (he : E i = some e) (ha : aggOf P T = some false) (hx : e.cells[off]? = some x) (ho : o.op = .load T p)
    (S : Sim w0 P0 E0 pl0 N E pl s a W) (hf : pl id = none) (hK : Next w0 P0 E0 pl0 pl N id s a o K E x) : Oper.wp P o a W K Qx := by
  obtain ⟨g, c, hp, hv⟩ := ptr_of S h
  obtain ⟨u, h1, h2, h3⟩ := S.read he hp hx
  refine wp_val (u := u) S hf ?_ (rep_of_repL h3) hK
  simp [execOp, ho, Instr.loadAt, hv, Instr.sureAddr, loadVar, run_isAgg ha, h1]

theorem eff_loadRdS {T : TypeId} {p : Operand} {l : List B} {n : Nat} (h : ev s p = some (.rd l)) (ha : aggOf P T = some true) (hn : szOf P T = some n) (hl : n ≤ l.length) (ho : o.op = .load T p)
    (S : Sim w0 P0 E0 pl0 N E pl s a W) (hf : pl id = none) (hK : Next w0 P0 E0 pl0 pl N id s a o K E (.b (.agg (l.take n)))) : Oper.wp P o a W K Qx := by
  obtain ⟨A, f, hv, hq, hcell, h1, hr⟩ := S.ev h
  have hload := run_loadCells (P := P) W A n f (fun j hj => hcell j (by omega))
  refine wp_val (v := .b (.agg (l.take n))) (u := .agg ((List.range n).map f).toArray) S hf ?_ (RepB.agg _ _ f (by simp; omega) (fun j hj => ?_) (fun j hj => h1 j ?_) (fun j x hj => ?_)) hK
  · simp [execOp, ho, Instr.loadAt, hv, Instr.sureAddr, loadVar, run_isAgg ha, run_sizeOf hn, hload]
  · simp at hj; simp [show j < n by omega]
  · simp at hj; omega
  · have hjn : j < n := by
      have := (List.getElem?_eq_some_iff.1 hj).1
      simp at this; omega
    rw [List.getElem?_take_of_lt hjn] at hj
    exact hr j x hj

theorem eff_loadRd1 {T : TypeId} {p : Operand} {l : List B} {x : B} (h : ev s p = some (.rd l)) (ha : aggOf P T = some false) (hx : l[0]? = some x) (ho : o.op = .load T p)
    (S : Sim w0 P0 E0 pl0 N E pl s a W) (hf : pl id = none) (hK : Next w0 P0 E0 pl0 pl N id s a o K E (.b x)) : Oper.wp P o a W K Qx := by
  obtain ⟨A, f, hv, hq, hcell, h1, hr⟩ := S.ev h
  have h0 : 0 < l.length := (List.getElem?_eq_some_iff.1 hx).1
  have hc := hcell 0 h0
  have hA : A.add 0 = A := by simp [Addr.add]
  rw [hA] at hc
  refine wp_val (v := .b x) (u := f 0) S hf ?_ (hr 0 x hx) hK
  simp [execOp, ho, Instr.loadAt, hv, Instr.sureAddr, loadVar, run_isAgg ha, hc]
end
end Go.VL

/- A small program logic over the translated Go code, seventh part: stores, arithmetic, addresses, slices. -/
set_option linter.unusedVariables false
set_option linter.unusedSimpArgs false
namespace Go.VL
open Go.RowKit

section
variable {P : Program} {w0 W W1 : World} {P0 F : Nat → Prop} {E0 E E1 : Env} {pl0 pl pl1 : Plan} {N : Frm} {id : Nat} {s : Slots} {a : Act} {o : Oper} {K : Act → World → Prop} {Qx : Exit → Act → World → Prop}

/-- Storing cells one by one into a row. -/
theorem run_storeCells_row (g T : Nat) (fr : Nat × Nat) (hfr : fr = (0, 0)) : ∀ (us : List Value) (off i : Nat) (W : World) (cur : Array Value), W.heap[g]? = some (.cells cur T fr) → off + i + us.length ≤ cur.size → (∀ u ∈ us, u.oneCell' = true) →
    ∃ W1 cur1, (storeCells ⟨g, off, none⟩ us i).run P W = .ok () W1 ∧ W1.os = W.os ∧ W1.tape = W.tape ∧ W1.output = W.output ∧ W1.heap.size = W.heap.size ∧ (∀ k, k ≠ g → W1.heap[k]? = W.heap[k]?) ∧
      W1.heap[g]? = some (.cells cur1 T fr) ∧ cur1.size = cur.size ∧ (∀ j, off + i ≤ j → j < off + i + us.length → cur1[j]? = us[j - (off + i)]?) ∧ ∀ j, (j < off + i ∨ off + i + us.length ≤ j) → cur1[j]? = cur[j]?
  | [], off, i, W, cur, hg, hl, h1 => ⟨W, cur, rfl, rfl, rfl, rfl, rfl, fun _ _ => rfl, hg, rfl, fun j h2 h3 => by simp at h3; omega, fun _ _ => rfl⟩
  | u :: r, off, i, W, cur, hg, hl, h1 => by
    simp only [List.length_cons] at hl
    have hcell : W.cell? ⟨g, off + i, none⟩ = some (cur[off + i]'(by omega)) := by simp [World.cell?, hg]
    have hfz : W.frozen? ⟨g, off + i, none⟩ = false := by simp [World.frozen?, hg, hfr]
    have hst : (store ((⟨g, off, none⟩ : Addr).add i) u).run P W = .ok () (W.setCell ⟨g, off + i, none⟩ u) := by
      rw [add_plain, run_store P W _ u _ (h1 u (by simp))]
      simp [hcell, hfz]
    have hlt : g < W.heap.size := (Array.getElem?_eq_some_iff.1 hg).1
    have hg1 : (W.setCell ⟨g, off + i, none⟩ u).heap[g]? = some (.cells (cur.setIfInBounds (off + i) u) T fr) := by
      have h2 : W.heap[g] = .cells cur T fr := by
        have := (Array.getElem?_eq_some_iff.1 hg).2
        exact this
      simp [World.setCell, Array.getElem?_modify, hg]
    obtain ⟨W1, cur1, q1, q2, q3, q4, q5, q6, q7, q8, q9, q10⟩ := run_storeCells_row g T fr hfr r off (i + 1) _ _ hg1 (by simp; omega) (fun x hx => h1 x (by simp [hx]))
    refine ⟨W1, cur1, ?_, q2, q3, q4, by rw [q5]; simp [World.setCell], fun k hk => ?_, q7, by rw [q8]; simp, fun j h2 h3 => ?_, fun j hj => ?_⟩
    · simp only [storeCells, Sem.run_bind, hst, Result.andThen_ok, q1]
    · rw [q6 k hk]
      simp [World.setCell, Array.getElem?_modify, Ne.symm hk]
    · simp only [List.length_cons] at h3
      by_cases hj : j = off + i
      · subst hj
        rw [q10 _ (.inl (by omega)), Array.getElem?_setIfInBounds_self_of_lt (by omega)]
        simp
      · rw [q9 j (by omega) (by omega), show j - (off + i) = (j - (off + (i + 1))) + 1 by omega, List.getElem?_cons_succ]
    · simp only [List.length_cons] at hj
      rw [q10 j (by omega), Array.getElem?_setIfInBounds_ne (by omega)]

theorem andThen_assoc {α β γ : Type} (r : Result α) (f : α → World → Result β) (g : β → World → Result γ) : (r.andThen fun x w => (f x w).andThen g) = (r.andThen f).andThen g := by cases r <;> rfl

theorem wp_skip_store {W1 : World} {E1 : Env} (hf : pl id = none) (hrun : (execOp a.eval o).run P W = .ok .skip W1) (S1 : Sim w0 P0 E0 pl0 N E1 pl s a W1)
    (hK : Next w0 P0 E0 pl0 pl N id s a o K E1 undefV) : Oper.wp P o a W K Qx := by
  unfold Oper.wp
  rw [hrun]
  exact hK undef pl W1 S1 (fun i _ h => h) (RepB.tup [] #[] (fun _ => undef) rfl (fun j hj => by simp at hj) (fun j x hj => by simp at hj))

theorem eff_storeR {T : TypeId} {p x : Operand} {i off : Nat} {e : Ent} {v : V} (h : ev s p = some (.ptr i off)) (he : E i = some e) (hh : e.hot = true) (hn : szOf P T = some v.cells.length)
    (hl : off + v.cells.length ≤ e.cells.length) (ht : NT v) (ho : o.op = .store T p x) (S : Sim w0 P0 E0 pl0 N E pl s a W) (hv : Rep W (Qf (FF w0 P0) E pl) pl v (a.eval x)) (hf : pl id = none)
    (hK : Next w0 P0 E0 pl0 pl N id s a o K (setAt E i (some { e with cells := e.cells.take off ++ (v.cells ++ e.cells.drop (off + v.cells.length)) })) undefV) : Oper.wp P o a W K Qx := by
  obtain ⟨g, c, hp, hpv⟩ := ptr_of S h
  obtain ⟨r1, r2⟩ := rep_cells hv ht
  by_cases hz : e.cells.length = 0
  · have e1 : e.cells = [] := List.length_eq_zero_iff.1 hz
    have e2 : v.cells = [] := List.length_eq_zero_iff.1 (by omega)
    have e3 : setAt E i (some { e with cells := e.cells.take off ++ (v.cells ++ e.cells.drop (off + v.cells.length)) }) = E := by
      rw [e1, e2]
      simp only [List.take_nil, List.drop_nil, List.append_nil]
      funext j
      by_cases hj : j = i
      · subst hj; rw [setAt_self, he, ← e1]
      · exact setAt_ne _ _ hj
    rw [e3] at hK
    have e4 : (a.eval x).cells.toList = [] := List.length_eq_zero_iff.1 (by simp [r1, e2])
    refine wp_skip_store hf (W1 := W) (E1 := E) ?_ S hK
    simp [execOp, ho, Instr.storeAt, hpv, Instr.sureAddr, storeVar, run_sizeOf hn, r1, e2, e4, storeCells]
  obtain ⟨_, cur, T', hc0, q1, q2, q3, q4, q5, q6, q7, q8⟩ := (S.eok.ent i e he).pos hp (.inl (by omega))
  have hone : ∀ u ∈ (a.eval x).cells.toList, u.oneCell' = true := by
    intro u hu
    obtain ⟨j, hj⟩ := List.mem_iff_getElem?.1 hu
    have hjl : j < v.cells.length := by
      have := (List.getElem?_eq_some_iff.1 hj).1
      simp at this; omega
    obtain ⟨z, hz, hz1, _⟩ := r2 j _ (List.getElem?_eq_getElem hjl)
    rw [Array.getElem?_toList, hz] at hj
    injection hj with hj
    exact hj ▸ hz1
  obtain ⟨W1, cur1, k1, k2, k3, k4, k5, k6, k7, k8, k9, k10⟩ := run_storeCells_row (P := P) g T' (0, 0) rfl (a.eval x).cells.toList off 0 W cur q2 (by simp [r1]; omega) hone
  have hlen : (a.eval x).cells.toList.length = v.cells.length := by simp [r1]
  refine wp_skip_store hf (W1 := W1) (E1 := setAt E i (some { e with cells := e.cells.take off ++ (v.cells ++ e.cells.drop (off + v.cells.length)) })) ?_
    (S.upd he hh hp (by omega) k2 k3 k4 k5 k6 cur1 T' k7 q7.2 _ (by rw [k8]; exact q4) (by simp; omega) (fun j y hj => ?_)) hK
  · simp [execOp, ho, Instr.storeAt, hpv, Instr.sureAddr, storeVar, run_sizeOf hn, r1, k1]
  · by_cases h1 : j < off
    · rw [List.getElem?_append_left (by simp; omega), List.getElem?_take_of_lt h1] at hj
      rw [k10 j (.inl (by omega))]
      exact q8 j y hj
    · by_cases h2 : j < off + v.cells.length
      · rw [List.getElem?_append_right (by simp; omega), List.getElem?_append_left (by simp; omega)] at hj
        simp only [List.length_take, Nat.min_eq_left (show off ≤ e.cells.length by omega)] at hj
        obtain ⟨u, hu, hu1, hr⟩ := r2 (j - off) y hj
        exact ⟨u, by rw [k9 j (by omega) (by omega), Nat.add_zero, Array.getElem?_toList]; exact hu, hu1, hr⟩
      · rw [List.getElem?_append_right (by simp; omega), List.getElem?_append_right (by simp; omega), List.getElem?_drop] at hj
        simp only [List.length_take, Nat.min_eq_left (show off ≤ e.cells.length by omega)] at hj
        rw [show off + v.cells.length + (j - off - v.cells.length) = j by omega] at hj
        rw [k10 j (.inr (by omega))]
        exact q8 j y hj
theorem eff_store {T : TypeId} {p x : Operand} {i off : Nat} {e : Ent} {v : V} (h : ev s p = some (.ptr i off)) (he : E i = some e) (hh : e.hot = true) (hv : ev s x = some v) (hn : szOf P T = some v.cells.length)
    (hl : off + v.cells.length ≤ e.cells.length) (ht : NT v) (ho : o.op = .store T p x) (S : Sim w0 P0 E0 pl0 N E pl s a W) (hf : pl id = none)
    (hK : Next w0 P0 E0 pl0 pl N id s a o K (setAt E i (some { e with cells := e.cells.take off ++ (v.cells ++ e.cells.drop (off + v.cells.length)) })) undefV) : Oper.wp P o a W K Qx :=
  eff_storeR h he hh hn hl ht ho S (S.ev hv) hf hK
theorem eff_storeNil {T : TypeId} {p : Operand} {i off : Nat} {e : Ent} (h : ev s p = some (.ptr i off)) (he : E i = some e) (hh : e.hot = true) (hn : szOf P T = some 1)
    (hl : off < e.cells.length) (ho : o.op = .store T p (.const (.slice none 0 0))) (S : Sim w0 P0 E0 pl0 N E pl s a W) (hf : pl id = none)
    (hK : Next w0 P0 E0 pl0 pl N id s a o K (setAt E i (some { e with cells := e.cells.set off (.b .nil) })) undefV) : Oper.wp P o a W K Qx := by
  refine eff_storeR (v := .b .nil) h he hh hn hl ⟨(fun l h => by cases h), (fun l h => by cases h)⟩ ho S (show RepB _ _ .nil (Value.slice none 0 0) from .nil) hf ?_
  have : e.cells.take off ++ ((V.b .nil).cells ++ e.cells.drop (off + (V.b .nil).cells.length)) = e.cells.set off (.b .nil) := by
    rw [List.set_eq_take_append_cons_drop, if_pos hl]
    rfl
  rw [this]
  exact hK

theorem eff_store1 {T : TypeId} {p x : Operand} {i off : Nat} {e : Ent} {v : V} (h : ev s p = some (.ptr i off)) (he : E i = some e) (hh : e.hot = true) (hv : ev s x = some v) (hc : v.cells = [v]) (hn : szOf P T = some 1)
    (hl : off < e.cells.length) (ht : NT v) (ho : o.op = .store T p x) (S : Sim w0 P0 E0 pl0 N E pl s a W) (hf : pl id = none)
    (hK : Next w0 P0 E0 pl0 pl N id s a o K (setAt E i (some { e with cells := e.cells.set off v })) undefV) : Oper.wp P o a W K Qx := by
  refine eff_store (v := v) h he hh hv (by rw [hc]; exact hn) (by rw [hc]; exact hl) ht ho S hf ?_
  have : e.cells.take off ++ (v.cells ++ e.cells.drop (off + v.cells.length)) = e.cells.set off v := by
    rw [hc, List.set_eq_take_append_cons_drop, if_pos hl]
    rfl
  rw [this]
  exact hK

theorem eff_bin {op : BinOp} {T T' : TypeId} {x y : Operand} {c d r : Value} (ha : ev s x = some (.b (.lit c))) (hb : ev s y = some (.b (.lit d))) (hr : bop op c d = some r) (ho : o.op = .binOp op T x y T')
    (S : Sim w0 P0 E0 pl0 N E pl s a W) (hf : pl id = none) (hK : Next w0 P0 E0 pl0 pl N id s a o K E (.b (.lit r))) : Oper.wp P o a W K Qx := by
  have h1 := rep_lit (S.ev ha)
  have h2 := rep_lit (S.ev hb)
  have hr1 : r.oneCell' = true := by
    cases c <;> cases d <;> simp only [bop] at hr <;> try (cases hr; done)
    all_goals (cases op <;> simp only at hr <;> first | (cases hr; done) | ((repeat' split at hr) <;> first | (cases hr; done) | (injection hr with hr; subst hr; rfl)))
  refine wp_val (v := .b (.lit r)) (u := r) S hf ?_ (RepB.lit r hr1) hK
  have := run_bop (P := P) (T := T) (xo := x) (yo := y) hr W
  simp only [Sem.run_bind] at this
  simp only [execOp, ho, h1, h2, Sem.run_bind]
  rw [this]
  rfl

theorem eff_binB {op : BinOp} {T T' : TypeId} {x y : Operand} {c d r : Value} (ha : ev s x = some (.b (.lit c))) (hb : ev s y = some (.b (.lit d))) (hu : P.underlying T = some .bool) (hr : bopBool op c d = some r) (ho : o.op = .binOp op T x y T')
    (S : Sim w0 P0 E0 pl0 N E pl s a W) (hf : pl id = none) (hK : Next w0 P0 E0 pl0 pl N id s a o K E (.b (.lit r))) : Oper.wp P o a W K Qx := by
  have h1 := rep_lit (S.ev ha)
  have h2 := rep_lit (S.ev hb)
  have hr1 : r.oneCell' = true := by
    cases c <;> cases d <;> simp only [bopBool] at hr <;> try (cases hr; done)
    all_goals (cases op <;> simp only at hr <;> first | (cases hr; done) | (injection hr with hr; subst hr; rfl))
  refine wp_val (v := .b (.lit r)) (u := r) S hf ?_ (RepB.lit r hr1) hK
  have := run_bopBool (P := P) (xo := x) (yo := y) hu hr W
  simp only [Sem.run_bind] at this
  simp only [execOp, ho, h1, h2, Sem.run_bind]
  rw [this]
  rfl

theorem eff_un {op : UnOp} {T : TypeId} {x : Operand} {c r : Value} (ha : ev s x = some (.b (.lit c))) (hr : uop op c = some r) (ho : o.op = .unOp op T x)
    (S : Sim w0 P0 E0 pl0 N E pl s a W) (hf : pl id = none) (hK : Next w0 P0 E0 pl0 pl N id s a o K E (.b (.lit r))) : Oper.wp P o a W K Qx := by
  have h1 := rep_lit (S.ev ha)
  have hr1 : r.oneCell' = true := by
    cases c <;> simp only [uop] at hr <;> try (cases hr; done)
    all_goals (cases op <;> simp only at hr <;> first | (cases hr; done) | (injection hr with hr; subst hr; rfl))
  refine wp_val (v := .b (.lit r)) (u := r) S hf ?_ (RepB.lit r hr1) hK
  simp [execOp, ho, h1, run_uop hr]

theorem eff_convI {T T' : TypeId} {x : Operand} {k k' : IntKind} {n : Int} {u : TypeDesc} (ha : ev s x = some (.b (.lit (.int k n)))) (hu : P.underlying T = some u) (hu' : P.underlying T' = some (.int k')) (ho : o.op = .convert T T' x)
    (S : Sim w0 P0 E0 pl0 N E pl s a W) (hf : pl id = none) (hK : Next w0 P0 E0 pl0 pl N id s a o K E (.b (.lit (.int k' (k'.wrap n))))) : Oper.wp P o a W K Qx := by
  have h1 := rep_lit (S.ev ha)
  refine wp_val (v := .b (.lit (.int k' (k'.wrap n)))) (u := .int k' (k'.wrap n)) S hf ?_ (RepB.lit _ rfl) hK
  simp [execOp, ho, h1, convert, run_underlying hu, run_underlying hu', Conv.intToInt]

theorem isNil_rep {W : World} {Q : Nat → Prop} {pl : Plan} {v : V} {u : Value} {t : Bool} (h : Rep W Q pl v u) (ht : v.isNil = some t) : ∃ ad n c, u = .slice ad n c ∧ ad.isNone = t := by
  cases v with
  | b x =>
    cases x with
    | nil => cases (show RepB W Q .nil u from h) with | nil => exact ⟨none, 0, 0, rfl, by simpa [V.isNil] using ht⟩
    | sl sz l => simp [V.isNil] at ht
    | lit v => simp [V.isNil] at ht
    | agg l => simp [V.isNil] at ht
    | tup l => simp [V.isNil] at ht
  | own i n => obtain ⟨g, c, _, _, rfl⟩ := h; exact ⟨_, n, c, rfl, by simpa [V.isNil] using ht⟩
  | ptr i off => simp [V.isNil] at ht
  | rd l => simp [V.isNil] at ht
  | agg l => simp [V.isNil] at ht
  | fn f l => simp [V.isNil] at ht
  | tup l => simp [V.isNil] at ht
  | win i off n => obtain ⟨g, c, _, _, rfl⟩ := h; exact ⟨_, n, n, rfl, by simpa [V.isNil] using ht⟩
  | cut sz l => simp [V.isNil] at ht
  | row i n c => simp [V.isNil] at ht

theorem noTup_ne {v : V} (h : v.noTup = true) : NT v := by
  constructor <;> (rintro l rfl; simp [V.noTup] at h)

theorem fieldOf_run {T k fo n : Nat} {b : Bool} (h : fieldOf P T k = some (fo, n, b)) : ∃ fs f, P.underlying T = some (.struct fs) ∧ fs[k]? = some f ∧ f.offset = fo ∧ szOf P f.type = some n ∧ aggOf P f.type = some b ∧ n ≠ 0 := by
  unfold fieldOf at h
  split at h
  · rename_i fs hfs
    split at h
    · rename_i f hfk
      split at h
      · rename_i n' a' hn ha
        split at h
        · cases h
        · rename_i hn0
          injection h with h
          simp only [Prod.mk.injEq] at h
          obtain ⟨h1, h2, h3⟩ := h
          subst h2; subst h3
          exact ⟨fs, f, hfs, hfk, h1, hn, ha, hn0⟩
      · cases h
    · cases h
  · cases h

theorem eff_fieldAddr {T : TypeId} {p : Operand} {k i off fo n : Nat} {b : Bool} (h : ev s p = some (.ptr i off)) (hfd : fieldOf P T k = some (fo, n, b)) (ho : o.op = .fieldAddr T p k)
    (S : Sim w0 P0 E0 pl0 N E pl s a W) (hf : pl id = none) (hK : Next w0 P0 E0 pl0 pl N id s a o K E (.ptr i (off + fo))) : Oper.wp P o a W K Qx := by
  obtain ⟨g, c, hp, hv⟩ := ptr_of S h
  obtain ⟨fs, f, h1, h2, h3, h4, h5, h6⟩ := fieldOf_run hfd
  refine wp_val (v := .ptr i (off + fo)) (u := .pointer (some ⟨g, off + fo, none⟩)) S hf ?_ ⟨g, c, hp, rfl⟩ hK
  simp [execOp, ho, Instr.fieldAt, run_underlying h1, h2, hv, Instr.sureAddr, fieldPlace, run_sizeOf h4, h6, h3, add_plain]

theorem drop_cells {A : Addr} {n fo : Nat} {f : Nat → Value} (hcell : ∀ j, j < n → W.cell? (A.add j) = some (f j)) (h0 : fo < n) : ∀ j, j < n - fo → W.cell? ((A.add fo).add j) = some (f (fo + j)) := by
  intro j hj
  have h1 := hcell (fo + j) (by omega)
  have h2 : (A.add fo).add j = A.add (fo + j) := by
    unfold Addr.add
    by_cases h3 : fo = 0
    · subst h3; simp
    · by_cases h4 : j = 0
      · subst h4; simp [h3]
      · simp [h3, h4, Nat.add_assoc]
  rw [h2]; exact h1

theorem eff_fieldRd {T : TypeId} {p : Operand} {k fo n : Nat} {b : Bool} {l : List B} (h : ev s p = some (.rd l)) (hfd : fieldOf P T k = some (fo, n, b)) (hfl : fo < l.length) (ho : o.op = .fieldAddr T p k)
    (S : Sim w0 P0 E0 pl0 N E pl s a W) (hf : pl id = none) (hK : Next w0 P0 E0 pl0 pl N id s a o K E (.rd (l.drop fo))) : Oper.wp P o a W K Qx := by
  obtain ⟨A, f, hv, hq, hcell, h1, hr⟩ := S.ev h
  obtain ⟨fs, fd, e1, h2, h3, h4, h5, h6⟩ := fieldOf_run hfd
  refine wp_val (v := .rd (l.drop fo)) (u := .pointer (some (A.add fo))) S hf ?_ ⟨A.add fo, fun j => f (fo + j), rfl, fun _ => by rw [block_add]; exact hq (by omega), fun j hj => drop_cells hcell hfl j (by simpa using hj), fun j hj => h1 _ (by simp at hj; omega), fun j x hj => hr _ x (by simpa using hj)⟩ hK
  simp [execOp, ho, Instr.fieldAt, run_underlying e1, h2, hv, Instr.sureAddr, fieldPlace, run_sizeOf h4, h6, h3]

theorem eff_field1 {T : TypeId} {x : Operand} {k fo : Nat} {v y : V} (h : ev s x = some v) (ha : v.cells ≠ [v]) (hfd : fieldOf P T k = some (fo, 1, false)) (hy : v.cells[fo]? = some y) (ht : NT v) (ho : o.op = .field T x k)
    (S : Sim w0 P0 E0 pl0 N E pl s a W) (hf : pl id = none) (hK : Next w0 P0 E0 pl0 pl N id s a o K E y) : Oper.wp P o a W K Qx := by
  obtain ⟨fs, fd, e1, h2, h3, h4, h5, h6⟩ := fieldOf_run hfd
  have hrep := S.ev h
  obtain ⟨r1, r2⟩ := rep_cells hrep ht
  obtain ⟨u, hu, hu1, hr⟩ := r2 fo y hy
  have hagg : ∃ cs, a.eval x = .agg cs := by
    cases v with
    | agg l => obtain ⟨b, hb, _⟩ := hrep; exact ⟨b, hb⟩
    | b z =>
      cases z with
      | agg l =>
        have hrep' : RepB W (Qf (FF w0 P0) E pl) (.agg l) (a.eval x) := hrep
        generalize a.eval x = q at hrep'
        cases hrep' with
        | agg _ b => exact ⟨b, rfl⟩
      | lit z => exact absurd rfl ha
      | nil => exact absurd rfl ha
      | sl a b => exact absurd rfl ha
      | tup l => exact absurd rfl ha
    | own i n => exact absurd rfl ha
    | ptr i n => exact absurd rfl ha
    | rd l => exact absurd rfl ha
    | fn f l => exact absurd rfl ha
    | tup l => exact absurd rfl ha
    | win i off n => exact absurd rfl ha
    | cut sz l => exact absurd rfl ha
    | row i n c => exact absurd rfl ha
  obtain ⟨cs, hcs⟩ := hagg
  rw [hcs] at hu
  refine wp_val (v := y) (u := u) S hf ?_ (rep_of_repL hr) hK
  simp [execOp, ho, Instr.field, run_underlying e1, h2, hcs, asAgg, part, run_isAgg h5, h3, show cs[fo]? = some u from hu]
end
end Go.VL

/- A small program logic over the translated Go code, eighth part: indices, new rows, cuts, results of several values, lengths. -/
set_option linter.unusedVariables false
set_option linter.unusedSimpArgs false
namespace Go.VL
open Go.RowKit

section
variable {P : Program} {w0 W W1 : World} {P0 F : Nat → Prop} {E0 E E1 : Env} {pl0 pl pl1 : Plan} {N : Frm} {id : Nat} {s : Slots} {a : Act} {o : Oper} {K : Act → World → Prop} {Qx : Exit → Act → World → Prop}

theorem eff_index {T : TypeId} {x ix : Operand} {str : ByteArray} {k : IntKind} {j : Int} (h : ev s x = some (.b (.lit (.string str)))) (hi : ev s ix = some (.b (.lit (.int k j)))) (hu : P.underlying T = some .string) (h0 : 0 ≤ j) (h1 : j.toNat < str.size)
    (ho : o.op = .index T x ix) (S : Sim w0 P0 E0 pl0 N E pl s a W) (hf : pl id = none) (hK : Next w0 P0 E0 pl0 pl N id s a o K E (.b (.lit (.int .u8 (str.data.getD j.toNat 0).toNat)))) : Oper.wp P o a W K Qx := by
  have e1 := rep_lit (S.ev h)
  have e2 := rep_lit (S.ev hi)
  refine wp_val (v := .b (.lit (.int .u8 (str.data.getD j.toNat 0).toNat))) (u := .int .u8 (str.data.getD j.toNat 0).toNat) S hf ?_ (RepB.lit _ rfl) hK
  have h2 : str[j.toNat]? = some (str.data.getD j.toNat 0) := by
    have h3 : j.toNat < str.data.size := h1
    rw [getElem?_pos str j.toNat h1]
    simp only [Array.getD_eq_getD_getElem?, Array.getElem?_eq_getElem h3, Option.getD_some]
    rfl
  simp [execOp, ho, e1, e2, Instr.index, asIntOf, run_underlying hu, h0, h2]

theorem eff_indexOwn {T el : TypeId} {x ix : Operand} {i n sz : Nat} {k : IntKind} {j : Int} (h : ev s x = some (.own i n)) (hi : ev s ix = some (.b (.lit (.int k j)))) (hu : P.underlying T = some (.slice el))
    (hs : szOf P el = some sz) (h0 : 0 ≤ j) (h1 : j < n) (ho : o.op = .indexAddr T x ix) (S : Sim w0 P0 E0 pl0 N E pl s a W) (hf : pl id = none) (hK : Next w0 P0 E0 pl0 pl N id s a o K E (.ptr i (j.toNat * sz))) : Oper.wp P o a W K Qx := by
  obtain ⟨g, c, hp, hn, e1⟩ := S.ev h
  have e2 := rep_lit (S.ev hi)
  refine wp_val (v := .ptr i (j.toNat * sz)) (u := .pointer (some ⟨g, j.toNat * sz, none⟩)) S hf ?_ ⟨g, c, hp, rfl⟩ hK
  simp [execOp, ho, e1, e2, Instr.indexAt, asIntOf, run_underlying hu, h0, h1, run_sizeOf hs, add_plain]

theorem eff_indexSl {T el : TypeId} {x ix : Operand} {sz : Nat} {l : List B} {k : IntKind} {j : Int} (h : ev s x = some (.b (.sl sz l))) (hi : ev s ix = some (.b (.lit (.int k j)))) (hu : P.underlying T = some (.slice el))
    (hs : szOf P el = some sz) (h0 : 0 ≤ j) (h1 : (j.toNat + 1) * sz ≤ l.length) (ho : o.op = .indexAddr T x ix) (S : Sim w0 P0 E0 pl0 N E pl s a W) (hf : pl id = none)
    (hK : Next w0 P0 E0 pl0 pl N id s a o K E (.rd ((l.drop (j.toNat * sz)).take sz))) : Oper.wp P o a W K Qx := by
  have e2 := rep_lit (S.ev hi)
  have hrep : RepB W (Qf (FF w0 P0) E pl) (.sl sz l) (a.eval x) := S.ev h
  generalize hq : a.eval x = q at hrep
  cases hrep with
  | nilsl _ hs0 => rw [Nat.succ_mul] at h1; simp at h1; omega
  | sl A n c _ _ f hl hc hm hs0 hqq hcell hone hr =>
    have h1' : j.toNat * sz + sz ≤ l.length := by rw [Nat.succ_mul] at h1; exact h1
    have hjn : j < n := by
      have h2 : j.toNat + 1 ≤ n := Nat.le_of_mul_le_mul_right (hl ▸ h1) hs0
      omega
    refine wp_val (v := .rd ((l.drop (j.toNat * sz)).take sz)) (u := .pointer (some (A.add (j.toNat * sz)))) S hf ?_
      ⟨A.add (j.toNat * sz), fun i => f (j.toNat * sz + i), rfl, fun _ => by rw [block_add]; exact hqq (by omega), fun i hi => drop_cells hcell (by omega) i (by simp at hi; omega), fun i hi => hone _ (by simp at hi; omega), fun i y hy => ?_⟩ hK
    · simp [execOp, ho, hq, e2, Instr.indexAt, asIntOf, run_underlying hu, h0, hjn, run_sizeOf hs]
    · have hlt : i < sz := by
        have := (List.getElem?_eq_some_iff.1 hy).1
        simp at this; omega
      rw [List.getElem?_take_of_lt hlt, List.getElem?_drop] at hy
      exact hr _ y hy

theorem eff_makeL {T el : TypeId} {x : Operand} {n : Int} {z : List B} {bytes : Nat} {k : IntKind} (h : ev s x = some (.b (.lit (.int k n)))) (hu : P.underlying T = some (.slice el)) (hz : ∃ i zv, P.info? el = some i ∧ i.zero = some zv ∧ ZeroL zv.cells.toList z) (hs : szOf P el = some z.length)
    (hb : (P.info? el).map (·.bytes) = some bytes) (hl : z ≠ []) (h0 : 0 ≤ n) (h1 : bytes * n ≤ 281474976710656) (h2 : n ≤ 9223372036854775807) (ho : o.op = .makeSlice T x x)
    (S : Sim w0 P0 E0 pl0 N E pl s a W) (hf : pl id = none) (hK : Next w0 P0 E0 pl0 pl N id s a o K (setAt E id (some ⟨z.length, ((List.replicate n.toNat z).flatten).map .b, true⟩)) (.own id n.toNat)) : Oper.wp P o a W K Qx := by
  have e1 := rep_lit (S.ev h)
  obtain ⟨i, zv, hi, hz1, r1, r2'⟩ := hz
  obtain ⟨i', hi', hsz⟩ := info_of_sz hs
  rw [hi] at hi'
  injection hi' with hi'
  subst hi'
  have hby : i.bytes = bytes := by simpa [hi] using hb
  have r2 := r2' W (Qf (FF w0 P0) E pl)
  replace r1 : z.length = zv.cells.size := by simpa using r1
  have hpos : 0 < z.length := List.length_pos_iff.2 hl
  have hrun := run_make (P := P) W T el i zv hu hi hz1 k k n n h0 (Int.le_refl _) (by rw [hby]; exact h1) h2
  have hlen : ((List.replicate n.toNat z).flatten).length = n.toNat * z.length := by simp
  refine wp_new (v := .own id n.toNat) (cur := madeCells zv.cells (n.toNat * i.size)) (T := el) (c := n.toNat) (u := .slice (some ⟨W.heap.size, 0, none⟩) n.toNat n.toNat) S hf ?_ ?_ ?_ ?_ hpos (fun j y hj => ?_) (fun Q => ⟨W.heap.size, n.toNat, by simp, Nat.le_refl _, rfl⟩) hK
  · simp [execOp, ho, e1, hrun]
  · simp [madeCells, hsz]
  · simp [madeCells, hsz]
  · simp only [maxLen]; omega
  · simp only [List.getElem?_map, Option.map_eq_some_iff] at hj
    obtain ⟨y', hy', rfl⟩ := hj
    have hjl : j < n.toNat * z.length := by
      have := (List.getElem?_eq_some_iff.1 hy').1
      rwa [hlen] at this
    have hz3 : ((List.replicate n.toNat z).flatten)[j]? = z[j % z.length]? := by
      have := madeZ (α := B) z n.toNat j hjl
      exact this
    rw [hz3] at hy'
    obtain ⟨u, hu1, hu2, hu3⟩ := r2 _ y' hy'
    refine ⟨u, ?_, hu2, hu3⟩
    have hmod : j % zv.cells.size < zv.cells.size := Nat.mod_lt _ (by omega)
    have : zv.cells.toList[j % z.length]? = some u := hu1
    rw [r1, Array.getElem?_toList] at this
    have h5 : zv.cells[j % zv.cells.size]! = u := by
      rw [getElem!_def, this]
    simp [madeCells, hsz, hjl, h5]
theorem eff_make {T el : TypeId} {x : Operand} {n : Int} {z : List B} {bytes : Nat} {k : IntKind} (h : ev s x = some (.b (.lit (.int k n)))) (hu : P.underlying T = some (.slice el)) (hz : zeroOf P el = some z) (hs : szOf P el = some z.length)
    (hb : (P.info? el).map (·.bytes) = some bytes) (hl : z ≠ []) (h0 : 0 ≤ n) (h1 : bytes * n ≤ 281474976710656) (h2 : n ≤ 9223372036854775807) (ho : o.op = .makeSlice T x x)
    (S : Sim w0 P0 E0 pl0 N E pl s a W) (hf : pl id = none) (hK : Next w0 P0 E0 pl0 pl N id s a o K (setAt E id (some ⟨z.length, ((List.replicate n.toNat z).flatten).map .b, true⟩)) (.own id n.toNat)) : Oper.wp P o a W K Qx := eff_makeL h hu (zeroOf_runL hz) hs hb hl h0 h1 h2 ho S hf hK
theorem eff_makeN {T el : TypeId} {x : Operand} {n : Int} {z : List B} {bytes : Nat} {k : IntKind} (h : ev s x = some (.b (.lit (.int k n)))) (hu : P.underlying T = some (.slice el)) (hz : (zeroOf P el).map (List.map nilB) = some z) (hs : szOf P el = some z.length)
    (hb : (P.info? el).map (·.bytes) = some bytes) (hl : z ≠ []) (h0 : 0 ≤ n) (h1 : bytes * n ≤ 281474976710656) (h2 : n ≤ 9223372036854775807) (ho : o.op = .makeSlice T x x)
    (S : Sim w0 P0 E0 pl0 N E pl s a W) (hf : pl id = none) (hK : Next w0 P0 E0 pl0 pl N id s a o K (setAt E id (some ⟨z.length, ((List.replicate n.toNat z).flatten).map .b, true⟩)) (.own id n.toNat)) : Oper.wp P o a W K Qx := eff_makeL h hu (zeroOf_runN hz) hs hb hl h0 h1 h2 ho S hf hK

theorem eff_extract {x : Operand} {l : List B} {j : Nat} {y : B} (h : ev s x = some (.b (.tup l))) (hy : l[j]? = some y) (ho : o.op = .extract x j)
    (S : Sim w0 P0 E0 pl0 N E pl s a W) (hf : pl id = none) (hK : Next w0 P0 E0 pl0 pl N id s a o K E (.b y)) : Oper.wp P o a W K Qx := by
  have hrep : RepB W (Qf (FF w0 P0) E pl) (.tup l) (a.eval x) := S.ev h
  generalize hq : a.eval x = q at hrep
  cases hrep with
  | tup _ b f hl hu hr =>
    have hj : j < l.length := (List.getElem?_eq_some_iff.1 hy).1
    refine wp_val (v := .b y) (u := f j) S hf ?_ (hr j y hy) hK
    simp [execOp, ho, hq, Instr.extract, hu j hj]

theorem len_rep {W : World} {Q : Nat → Prop} {pl : Plan} {v : V} {u : Value} {n : Nat} (h : Rep W Q pl v u) (hn : v.len = some n) : ∃ ad c, u = .slice ad n c := by
  cases v with
  | b x =>
    cases x with
    | nil => cases (show RepB W Q .nil u from h) with | nil => simp [V.len] at hn; subst hn; exact ⟨none, 0, rfl⟩
    | sl sz l =>
      have h' : RepB W Q (.sl sz l) u := h
      cases h' with
      | nilsl _ hs0 => simp [V.len] at hn; subst hn; exact ⟨none, 0, rfl⟩
      | sl A m c _ _ f hl hc hm hs0 =>
        simp [V.len] at hn
        rw [hl, Nat.mul_div_cancel _ hs0] at hn
        subst hn; exact ⟨some A, c, rfl⟩
    | lit v => simp [V.len] at hn
    | agg l => simp [V.len] at hn
    | tup l => simp [V.len] at hn
  | own i m => obtain ⟨g, c, _, _, rfl⟩ := h; simp [V.len] at hn; subst hn; exact ⟨_, c, rfl⟩
  | ptr i off => simp [V.len] at hn
  | rd l => simp [V.len] at hn
  | agg l => simp [V.len] at hn
  | fn f l => simp [V.len] at hn
  | tup l => simp [V.len] at hn
  | win i off m => obtain ⟨g, c, _, _, rfl⟩ := h; simp [V.len] at hn; subst hn; exact ⟨_, m, rfl⟩
  | row i m q =>
    simp [V.len] at hn; subst hn
    rcases h with ⟨_, h0, rfl⟩ | ⟨g, c, _, _, rfl, _⟩
    · exact ⟨none, 0, by rw [h0]⟩
    · exact ⟨_, c, rfl⟩
  | cut sz l =>
    obtain ⟨h', _⟩ := h
    cases h' with
    | nilsl _ hs0 => simp [V.len] at hn; subst hn; exact ⟨none, 0, rfl⟩
    | sl A m c _ _ f hl hc hm hs0 =>
      simp [V.len] at hn
      rw [hl, Nat.mul_div_cancel _ hs0] at hn
      subst hn; exact ⟨some A, c, rfl⟩

theorem eff_len {x : Operand} {T e : TypeId} {v : V} {n : Nat} (h : ev s x = some v) (hu : P.underlying T = some (.slice e)) (hn : v.len = some n)
    (ho : o.op = .call { callee := .builtin .len, args := #[x], argTypes := #[T] }) (S : Sim w0 P0 E0 pl0 N E pl s a W) (hf : pl id = none) (hK : Next w0 P0 E0 pl0 pl N id s a o K E (.b (.lit (.int .i64 n)))) : Oper.wp P o a W K Qx := by
  obtain ⟨ad, c, he⟩ := len_rep (S.ev h) hn
  refine wp_val (v := .b (.lit (.int .i64 n))) (u := .int .i64 n) S hf ?_ (RepB.lit _ rfl) hK
  simp [execOp, ho, resolve, invoke, builtin, Builtin.len_, run_underlying hu, he, goInt]

theorem eff_lenStr {x : Operand} {T : TypeId} {str : ByteArray} (h : ev s x = some (.b (.lit (.string str)))) (hu : P.underlying T = some .string)
    (ho : o.op = .call { callee := .builtin .len, args := #[x], argTypes := #[T] }) (S : Sim w0 P0 E0 pl0 N E pl s a W) (hf : pl id = none) (hK : Next w0 P0 E0 pl0 pl N id s a o K E (.b (.lit (.int .i64 str.size)))) : Oper.wp P o a W K Qx := by
  have he := rep_lit (S.ev h)
  refine wp_val (v := .b (.lit (.int .i64 str.size))) (u := .int .i64 str.size) S hf ?_ (RepB.lit _ rfl) hK
  simp [execOp, ho, resolve, invoke, builtin, Builtin.len_, run_underlying hu, he, goInt]

theorem eff_isNil {x y : Operand} {T T' e : TypeId} {v : V} {t : Bool} (h : ev s x = some v) (hy : y = .const (.slice none 0 0)) (hu : P.underlying T = some (.slice e)) (ht : v.isNil = some t)
    (ho : o.op = .binOp .eql T x y T') (S : Sim w0 P0 E0 pl0 N E pl s a W) (hf : pl id = none) (hK : Next w0 P0 E0 pl0 pl N id s a o K E (.b (.lit (.bool t)))) : Oper.wp P o a W K Qx := by
  obtain ⟨ad, n, c, he, hn⟩ := isNil_rep (S.ev h) ht
  refine wp_val (v := .b (.lit (.bool t))) (u := .bool t) S hf ?_ (RepB.lit _ rfl) hK
  subst hy
  have hg : (eqGuard .eql T x (.const (.slice none 0 0)) (.slice ad n c) (.slice none 0 0)).run P W = .ok () W := by simp [eqGuard]
  have hb := Lib.run_eql_slice_nil W T e ad n c 0 0 hu
  rw [hn] at hb
  have hc : a.eval (.const (.slice none 0 0)) = .slice none 0 0 := rfl
  simp [execOp, ho, he, hc, hg, hb]

theorem eff_notNil {x y : Operand} {T T' e : TypeId} {v : V} {t : Bool} (h : ev s x = some v) (hy : y = .const (.slice none 0 0)) (hu : P.underlying T = some (.slice e)) (ht : v.isNil = some t)
    (ho : o.op = .binOp .neq T x y T') (S : Sim w0 P0 E0 pl0 N E pl s a W) (hf : pl id = none) (hK : Next w0 P0 E0 pl0 pl N id s a o K E (.b (.lit (.bool (!t))))) : Oper.wp P o a W K Qx := by
  obtain ⟨ad, n, c, he, hn⟩ := isNil_rep (S.ev h) ht
  refine wp_val (v := .b (.lit (.bool (!t)))) (u := .bool (!t)) S hf ?_ (RepB.lit _ rfl) hK
  subst hy
  have hg : (eqGuard .neq T x (.const (.slice none 0 0)) (.slice ad n c) (.slice none 0 0)).run P W = .ok () W := by simp [eqGuard]
  have hb := run_neq_slice_nil_any W T e ad n c 0 0 hu
  rw [hn] at hb
  have hc : a.eval (.const (.slice none 0 0)) = .slice none 0 0 := rfl
  simp [execOp, ho, he, hc, hg, hb]
end
end Go.VL

/- A small program logic over the translated Go code, ninth part: calls, structs and slices built from parts, cuts. -/
set_option linter.unusedVariables false
set_option linter.unusedSimpArgs false
namespace Go.VL
open Go.RowKit

section
variable {P : Program} {w0 W W1 : World} {P0 F : Nat → Prop} {E0 E E1 : Env} {pl0 pl pl1 : Plan} {N : Frm} {id : Nat} {s : Slots} {a : Act} {o : Oper} {K : Act → World → Prop} {Qx : Exit → Act → World → Prop}

theorem bs_get : ∀ {l : List V} {xs : List B}, bs l = some xs → xs.length = l.length ∧ ∀ (j : Nat) (x : B), xs[j]? = some x → l[j]? = some (.b x)
  | [], xs, h => by
    simp [bs] at h; subst h
    exact ⟨rfl, fun j x hj => by simp at hj⟩
  | v :: r, xs, h => by
    cases v with
    | b y =>
      simp only [bs, Option.map_eq_some_iff] at h
      obtain ⟨ys, hy, rfl⟩ := h
      obtain ⟨h1, h2⟩ := bs_get hy
      refine ⟨by simp [h1], fun j x hj => ?_⟩
      cases j with
      | zero => simp at hj; subst hj; rfl
      | succ j => exact h2 j x (by simpa using hj)
    | own i n => simp [bs] at h
    | ptr i n => simp [bs] at h
    | rd l => simp [bs] at h
    | agg l => simp [bs] at h
    | fn f l => simp [bs] at h
    | tup l => simp [bs] at h
    | win i off n => simp [bs] at h
    | cut sz l => simp [bs] at h
    | row i n c => simp [bs] at h

/-- A row of the table by its contents. -/
theorem rep_own {Q' : Nat → Prop} (hE : EOk W F E pl) {i n : Nat} {x : B} {u : Value} (h : resL E (.own i n) = some x) (hr : RepL W (Qf F E pl) pl (.own i n) u) (hQ : ∀ k, Qf F E pl k → Q' k)
    (hc : ∀ e g c, E i = some e → pl i = some (g, c + 1) → F g → Q' g) : RepB W Q' x u := by
  obtain ⟨g, c, hp, hn, rfl⟩ := hr
  simp only [resL] at h
  split at h
  · rename_i e he
    split at h
    · rename_i l hl
      split at h
      · rename_i hlen
        injection h with h; subst h
        obtain ⟨g', c', cur, T, q1, q2, q3, q4, q5, q6, q7, q8⟩ := hE.ent i e he
        rw [hp] at q1
        injection q1 with q1
        injection q1 with q1 q1'
        subst q1; subst q1'
        obtain ⟨b1, b2⟩ := bs_get hl
        have hpos : 0 < l.length → 0 < c := fun h0 => by
          cases c with
          | zero => rw [Nat.zero_mul] at q4; omega
          | succ c => omega
        have hQ' : 0 < c → Q' g := fun h0 => by
          cases c with
          | zero => omega
          | succ c => exact hc e g c he hp (q3 h0)
        refine RepB.sl ⟨g, 0, none⟩ n c e.sz (l.take (n * e.sz)) (fun j => cur.getD j undef) (by simp [Nat.min_eq_left hlen]) hn q6 q7.1 (fun h0 => hQ' (hpos (by simp at h0; omega))) (fun j hj => ?_) (fun j hj => ?_) (fun j y hj => ?_)
        all_goals
          have hjl : j < l.length := by
            first
              | (simp at hj; omega)
              | (have := (List.getElem?_eq_some_iff.1 hj).1; simp at this; omega)
          have hcur : j < cur.size := by omega
        · simp [add_plain, World.cell?, q2 (hpos (by omega)), hcur]
        · obtain ⟨v, hv, hv1, _⟩ := q8 j _ (b2 j _ (List.getElem?_eq_getElem hjl))
          simpa [hv] using hv1
        · have hjt : l[j]? = some y := by
            rw [List.getElem?_take] at hj
            split at hj
            · exact hj
            · cases hj
          obtain ⟨v, hv, hv1, hr⟩ := q8 j _ (b2 j y hjt)
          have : RepB W (Qf F E pl) y v := hr
          simpa [hv] using this.move (fun _ _ _ => rfl) (fun k hk _ => hQ k hk)
      · cases h
    · cases h
  · cases h

theorem rep_win {Q' : Nat → Prop} (hE : EOk W F E pl) {i off n : Nat} {x : B} {u : Value} (h : resL E (.win i off n) = some x) (hr : RepL W (Qf F E pl) pl (.win i off n) u) (hQ : ∀ k, Qf F E pl k → Q' k)
    (hc : ∀ e g c, E i = some e → pl i = some (g, c + 1) → F g → Q' g) : RepB W Q' x u := by
  obtain ⟨g, c, hp, hn, rfl⟩ := hr
  simp only [resL] at h
  split at h
  · rename_i e he
    split at h
    · rename_i l hl
      split at h
      · rename_i hlen
        injection h with h; subst h
        obtain ⟨g', c', cur, T, q1, q2, q3, q4, q5, q6, q7, q8⟩ := hE.ent i e he
        rw [hp] at q1
        injection q1 with q1
        injection q1 with q1 q1'
        subst q1; subst q1'
        obtain ⟨b1, b2⟩ := bs_get hl
        have hpos : 0 < l.length → 0 < c := fun h0 => by
          cases c with
          | zero => rw [Nat.zero_mul] at q4; omega
          | succ c => omega
        have hQ' : 0 < c → Q' g := fun h0 => by
          cases c with
          | zero => omega
          | succ c => exact hc e g c he hp (q3 h0)
        refine RepB.sl ⟨g, off, none⟩ n n e.sz ((l.drop off).take (n * e.sz)) (fun j => cur.getD (off + j) undef) (by simp; omega) (Nat.le_refl _) hn q7.1 (fun h0 => hQ' (hpos (by simp at h0; omega))) (fun j hj => ?_) (fun j hj => ?_) (fun j y hj => ?_)
        all_goals
          have hjl : off + j < l.length := by
            first
              | (simp at hj; omega)
              | (have := (List.getElem?_eq_some_iff.1 hj).1; simp at this; omega)
          have hcur : off + j < cur.size := by omega
        · simp [add_plain, World.cell?, q2 (hpos (by omega)), hcur]
        · obtain ⟨v, hv, hv1, _⟩ := q8 (off + j) _ (b2 (off + j) _ (List.getElem?_eq_getElem hjl))
          simpa [hv] using hv1
        · have hjt : l[off + j]? = some y := by
            rw [List.getElem?_take] at hj
            split at hj
            · rw [List.getElem?_drop] at hj; exact hj
            · cases hj
          obtain ⟨v, hv, hv1, hr⟩ := q8 (off + j) _ (b2 (off + j) y hjt)
          have : RepB W (Qf F E pl) y v := hr
          simpa [hv] using this.move (fun _ _ _ => rfl) (fun k hk _ => hQ k hk)
      · cases h
    · cases h
  · cases h


theorem resL_row {i n : Nat} {c : Option Nat} : resL E (.row i n c) = resL E (.own i n) := rfl
theorem rep_row {Q' : Nat → Prop} (hE : EOk W F E pl) {i n : Nat} {q : Option Nat} {x : B} {u : Value} (h : resL E (.row i n q) = some x) (hr : RepL W (Qf F E pl) pl (.row i n q) u) (hQ : ∀ k, Qf F E pl k → Q' k)
    (hc : ∀ e g c, E i = some e → pl i = some (g, c + 1) → F g → Q' g) : RepB W Q' x u := by
  rcases hr with ⟨_, h0, rfl⟩ | ⟨g, c', h1, h2, h3, _⟩
  · subst h0
    simp only [resL, Nat.zero_mul, Nat.zero_le, if_true, List.take_zero] at h
    split at h
    · rename_i e he
      split at h
      · injection h with h; subst h
        obtain ⟨_, _, _, _, _, _, _, _, _, _, q7, _⟩ := hE.ent i e he
        exact .nilsl _ q7.1
      · cases h
    · cases h
  · exact rep_own hE h ⟨g, c', h1, h2, h3⟩ hQ hc
theorem rep_resL {Q' : Nat → Prop} (hE : EOk W F E pl) {v : V} {x : B} {u : Value} (h : resL E v = some x) (hr : RepL W (Qf F E pl) pl v u) (hQ : ∀ k, Qf F E pl k → Q' k)
    (hc : ∀ i ∈ v.names, ∀ e g c, E i = some e → pl i = some (g, c + 1) → F g → Q' g) : RepB W Q' x u := by
  cases v with
  | b y =>
    simp [resL] at h; subst h
    exact RepB.move hr (fun _ _ _ => rfl) (fun k hk _ => hQ k hk)
  | own i n => exact rep_own hE h hr hQ (hc i (by simp [V.names]))
  | ptr i off => simp [resL] at h
  | rd l => simp [resL] at h
  | agg l => simp [resL] at h
  | fn f l => simp [resL] at h
  | tup l => simp [resL] at h
  | win i off n => exact rep_win hE h hr hQ (hc i (by simp [V.names]))
  | row i n q => exact rep_row hE h hr hQ (hc i (by simp [V.names]))
  | cut sz l =>
    simp [resL] at h; subst h
    exact RepB.move hr.1 (fun _ _ _ => rfl) (fun k hk _ => hQ k hk)

theorem resLs_get : ∀ {l : List V} {xs : List B}, resLs E l = some xs → xs.length = l.length ∧ ∀ (j : Nat) (x : B), xs[j]? = some x → ∃ v, l[j]? = some v ∧ resL E v = some x
  | [], xs, h => by
    simp [resLs] at h; subst h
    exact ⟨rfl, fun j x hj => by simp at hj⟩
  | v :: r, xs, h => by
    unfold resLs at h
    split at h
    · rename_i y ys hy hys
      injection h with h; subst h
      obtain ⟨h1, h2⟩ := resLs_get hys
      refine ⟨by simp [h1], fun j x hj => ?_⟩
      cases j with
      | zero => simp at hj; subst hj; exact ⟨v, rfl, hy⟩
      | succ j => exact h2 j x (by simpa using hj)
    · cases h

theorem rep_res {Q' : Nat → Prop} (hE : EOk W F E pl) {v : V} {x : B} {u : Value} (h : res E v = some x) (hr : Rep W (Qf F E pl) pl v u) (hQ : ∀ k, Qf F E pl k → Q' k)
    (hc : ∀ i ∈ v.names, ∀ e g c, E i = some e → pl i = some (g, c + 1) → F g → Q' g) : RepB W Q' x u := by
  cases v with
  | agg l =>
    obtain ⟨b, rfl, h2, h3⟩ := hr
    simp only [res, Option.map_eq_some_iff] at h
    obtain ⟨xs, hxs, rfl⟩ := h
    obtain ⟨r1, r2⟩ := resLs_get hxs
    have get : ∀ j, j < xs.length → ∃ (y : B) (v : V) (z : Value), xs[j]? = some y ∧ l[j]? = some v ∧ b[j]? = some z ∧ z.oneCell' = true ∧ RepB W Q' y z := fun j hj => by
      have hy := List.getElem?_eq_getElem hj
      obtain ⟨v, hv, hres⟩ := r2 j _ hy
      obtain ⟨z, hz, hz1, hzr⟩ := h3 j v hv
      refine ⟨_, v, z, hy, hv, hz, hz1, rep_resL hE hres hzr hQ (fun i hi => hc i ?_)⟩
      have hm : v ∈ l := List.mem_of_getElem? hv
      simp only [V.names, List.mem_flatMap]
      refine ⟨v, hm, ?_⟩
      cases v with
      | own i' n => simpa [V.names] using hi
      | win i' off n => simpa [V.names] using hi
      | row i' n c => simpa [V.names] using hi
      | cut _ _ => simp [V.names] at hi
      | agg l' => simp [resL] at hres
      | b _ => simp [V.names] at hi
      | ptr _ _ => simp [V.names] at hi
      | rd _ => simp [V.names] at hi
      | fn _ _ => simp [V.names] at hi
      | tup _ => simp [V.names] at hi
    refine RepB.agg xs b (fun j => b.getD j undef) (by omega) (fun j hj => ?_) (fun j hj => ?_) (fun j x hj => ?_)
    · obtain ⟨_, _, z, _, _, hz, _⟩ := get j hj
      simp [hz]
    · obtain ⟨_, _, z, _, _, hz, hz1, _⟩ := get j hj
      simpa [hz] using hz1
    · obtain ⟨y, _, z, hy, _, hz, _, hzr⟩ := get j (List.getElem?_eq_some_iff.1 hj).1
      rw [hj] at hy
      injection hy with hy
      subst hy
      simpa [hz] using hzr
  | b y => exact rep_resL hE (v := .b y) h hr hQ hc
  | own i n => exact rep_resL hE (v := .own i n) h hr hQ hc
  | ptr i off => exact rep_resL hE (v := .ptr i off) h hr hQ hc
  | rd l => exact rep_resL hE (v := .rd l) h hr hQ hc
  | fn f l => simp [res, resL] at h
  | tup l => simp [res, resL] at h
  | win i off n => exact rep_resL hE (v := .win i off n) h hr hQ hc
  | cut sz l => exact rep_resL hE (v := .cut sz l) h hr hQ hc
  | row i n c => exact rep_resL hE (v := .row i n c) h hr hQ hc

theorem evs_get : ∀ {xs : List Operand} {vs : List V}, evs s xs = some vs → vs.length = xs.length ∧ ∀ (j : Nat) (v : V), vs[j]? = some v → ∃ x, xs[j]? = some x ∧ Go.VL.ev s x = some v
  | [], vs, h => by
    simp [evs] at h; subst h
    exact ⟨rfl, fun j x hj => by simp at hj⟩
  | x :: r, vs, h => by
    unfold evs at h
    split at h
    · rename_i y ys hy hys
      injection h with h; subst h
      obtain ⟨h1, h2⟩ := evs_get hys
      refine ⟨by simp [h1], fun j x hj => ?_⟩
      cases j with
      | zero => simp at hj; subst hj; exact ⟨_, rfl, hy⟩
      | succ j => exact h2 j x (by simpa using hj)
    · cases h
theorem ress_get : ∀ {l : List V} {xs : List B}, ress E l = some xs → xs.length = l.length ∧ ∀ (j : Nat) (x : B), xs[j]? = some x → ∃ v, l[j]? = some v ∧ res E v = some x
  | [], xs, h => by
    simp [ress] at h; subst h
    exact ⟨rfl, fun j x hj => by simp at hj⟩
  | v :: r, xs, h => by
    unfold ress at h
    split at h
    · rename_i y ys hy hys
      injection h with h; subst h
      obtain ⟨h1, h2⟩ := ress_get hys
      refine ⟨by simp [h1], fun j x hj => ?_⟩
      cases j with
      | zero => simp at hj; subst hj; exact ⟨v, rfl, hy⟩
      | succ j => exact h2 j x (by simpa using hj)
    · cases h

/-- After a call. -/
theorem Sim.called (S : Sim w0 P0 E0 pl0 N E pl s a W) (h : Same W W1) : Sim w0 P0 E0 pl0 N E pl s a W1 := by
  refine S.step (fun _ => False) h.os h.tape h.output h.size (fun k hk _ => h.block k hk) (fun k h => h.elim) (fun _ _ h => h) (fun k hk => .inl hk) ⟨fun i e he => ?_, S.eok.inj⟩
  exact (S.eok.ent i e he).move (fun _ => False) (fun k hk _ => h.block k hk) (fun k h => h.elim) (fun _ _ h => h) (fun k hk => .inl hk) (fun _ _ _ h => h)

theorem flat_rep {W W1 : World} {Q Q1 : Nat → Prop} {x : B} {u : Value} (hf : x.flat = true) (h : RepB W Q x u) : RepB W1 Q1 x u := by
  have lits : ∀ (l : List B) (f : Nat → Value), (l.all fun | .lit _ => true | _ => false) = true → (∀ j y, l[j]? = some y → RepB W Q y (f j)) → ∀ j y, l[j]? = some y → RepB W1 Q1 y (f j) := by
    intro l f hl hr j y hj
    have h1 := hr j y hj
    have h2 := List.all_eq_true.1 hl y (List.mem_of_getElem? hj)
    cases y with
    | lit v => cases h1 with | lit _ h => exact .lit _ h
    | nil => simp at h2
    | sl a b => simp at h2
    | agg a => simp at h2
    | tup a => simp at h2
  cases x with
  | lit v => cases h with | lit _ h => exact .lit _ h
  | nil => simp [B.flat] at hf
  | sl a b => simp [B.flat] at hf
  | agg l => cases h with | agg _ b f hl hu h1 hr => exact .agg l b f hl hu h1 (lits l f hf hr)
  | tup l => cases h with | tup _ b f hl hu hr => exact .tup l b f hl hu (lits l f hf hr)

theorem run_enter {f : FuncId} {args : Array Operand} {ts : Array TypeId} (hE : Enters P f) (ho : o.op = .call { callee := .value (.func f), args := args, argTypes := ts }) :
    (execOp a.eval o).run P W = .ok (.enter f (args.map a.eval)) W := by
  obtain ⟨fn, c, h1, h2, h3⟩ := hE
  have h4 : a.eval (.func f) = .func (.func f) #[] #[] := rfl
  simp [execOp, ho, resolve, h4, Deferred.ofValue, invoke, callFunc, h1, h2, h3]
  intro h; simp [h] at h3

theorem eff_callV {f : FuncId} {args : Array Operand} {ts : Array TypeId} {vs : List V} {xs : List B} {r : B} (h : evs s args.toList = some vs) (hx : ress E vs = some xs) (hv : VF P f xs r)
    (ho : o.op = .call { callee := .value (.func f), args := args, argTypes := ts }) (S : Sim w0 P0 E0 pl0 N E pl s a W) (hf : pl id = none)
    (hK : Next w0 P0 E0 pl0 pl N id s a o K (upds E ((vs.flatMap V.names).map (cool E))) (.b r)) : Oper.wp P o a W K Qx := by
  have S' := S.cools (vs.flatMap V.names)
  generalize hE1 : upds E ((vs.flatMap V.names).map (cool E)) = E1 at S' hK
  obtain ⟨e1, e2⟩ := evs_get h
  obtain ⟨x1, x2⟩ := ress_get hx
  have hcool : ∀ i ∈ vs.flatMap V.names, ∀ e, E1 i = some e → e.hot = false := by
    have gen : ∀ (l : List Nat) (E : Env) (i : Nat), (i ∈ l ∨ ∀ e, E i = some e → e.hot = false) → ∀ e, (upds E (l.map (cool E))) i = some e → e.hot = false := by
      intro l
      induction l with
      | nil => intro E i hi e he; rcases hi with hi | hi
               · cases hi
               · exact hi e he
      | cons j l ih =>
        intro E i hi e he
        have hc : (l.map (cool E)) = l.map (cool (setAt E j (cool E j).2)) := (List.map_congr_left (fun k _ => cool_upds E j k)).symm
        simp only [List.map_cons, upds] at he
        rw [hc] at he
        refine ih _ i ?_ e he
        by_cases hij : i = j
        · subst hij
          right
          intro e' he'
          have : (cool E i).1 = i := rfl
          rw [this, setAt_self] at he'
          simp only [cool, Option.map_eq_some_iff] at he'
          obtain ⟨e0, _, rfl⟩ := he'
          rfl
        · rcases hi with hi | hi
          · left; rcases List.mem_cons.1 hi with h | h
            · exact absurd h hij
            · exact h
          · right
            intro e' he'
            have : (cool E j).1 = j := rfl
            rw [this, setAt_ne _ _ hij] at he'
            exact hi e' he'
    intro i hi e he
    exact gen _ E i (.inl hi) e (by rw [hE1]; exact he)
  have hargs : ∀ (j : Nat) (x : B), xs[j]? = some x → ∃ u : Value, (args.map a.eval)[j]? = some u ∧ RepB W (Qf (FF w0 P0) E1 pl) x u := fun j x hj => by
    obtain ⟨v, hv1, hv2⟩ := x2 j x hj
    obtain ⟨y, hy1, hy2⟩ := e2 j v hv1
    refine ⟨a.eval y, by simpa using ⟨y, by simpa using hy1, rfl⟩, ?_⟩
    refine rep_res S.eok hv2 (S.ev hy2) (fun k hk => ⟨hk.1, fun hh => hk.2 ?_⟩) (fun i hi e g c he hp hF => ⟨hF, ?_⟩)
    · -- what is hot now was hot
      obtain ⟨i, e, c, h1, h2, h3⟩ := hh
      have gen : ∀ (l : List Nat) (E : Env) (e : Ent), (upds E (l.map (cool E))) i = some e → e.hot = true → ∃ e', E i = some e' ∧ e'.hot = true := by
        intro l
        induction l with
        | nil => intro E e he hh; exact ⟨e, he, hh⟩
        | cons j l ih =>
          intro E e he hh
          have hc : (l.map (cool E)) = l.map (cool (setAt E j (cool E j).2)) := (List.map_congr_left (fun k _ => cool_upds E j k)).symm
          simp only [List.map_cons, upds] at he
          rw [hc] at he
          obtain ⟨e', he', hh'⟩ := ih _ e he hh
          have h1 : (cool E j).1 = j := rfl
          rw [h1] at he'
          by_cases hij : i = j
          · subst hij
            rw [setAt_self] at he'
            simp only [cool, Option.map_eq_some_iff] at he'
            obtain ⟨e0, _, rfl⟩ := he'
            cases hh'
          · rw [setAt_ne _ _ hij] at he'
            exact ⟨e', he', hh'⟩
      obtain ⟨e', he', hh'⟩ := gen _ E e (by rw [hE1]; exact h1) h2
      exact ⟨i, e', c, he', hh', h3⟩
    · rintro ⟨i', e', c', h1, h2, h3⟩
      have hmem : i ∈ vs.flatMap V.names := List.mem_flatMap.2 ⟨v, List.mem_of_getElem? hv1, hi⟩
      have he1 : ∃ e1, E1 i = some e1 := by
        have gen : ∀ (l : List Nat) (E : Env) (e : Ent), E i = some e → ∃ e1, (upds E (l.map (cool E))) i = some e1 := by
          intro l
          induction l with
          | nil => intro E e he; exact ⟨e, he⟩
          | cons j l ih =>
            intro E e he
            have hc : (l.map (cool E)) = l.map (cool (setAt E j (cool E j).2)) := (List.map_congr_left (fun k _ => cool_upds E j k)).symm
            simp only [List.map_cons, upds]
            rw [hc]
            have h1 : (cool E j).1 = j := rfl
            rw [h1]
            by_cases hij : i = j
            · subst hij
              exact ih (setAt E i (cool E i).2) e.cold (by rw [setAt_self]; simp [cool, he])
            · exact ih (setAt E j (cool E j).2) e (by rw [setAt_ne _ _ hij]; exact he)
        obtain ⟨e1, h⟩ := gen (vs.flatMap V.names) E e he
        exact ⟨e1, by rw [← hE1]; exact h⟩
      obtain ⟨e1, he1⟩ := he1
      have := S'.eok.inj i i' e1 e' g c c' he1 h1 hp h3
      subst this
      rw [he1] at h1
      injection h1 with h1
      subst h1
      rw [hcool i hmem e1 he1] at h2
      cases h2
  unfold Oper.wp
  rw [run_enter hv.1 ho, Oper.upon_enter]
  refine Calls.mono (hv.2 W (Qf (FF w0 P0) E1 pl) (args.map a.eval) (by rw [Array.size_map, x1, e1, Array.length_toList]) hargs) ?_
  rintro e W1 ⟨u, rfl, hu, hsame⟩
  have S1 := S'.called hsame
  refine hK u pl W1 S1 (fun i _ h => h) (show RepB W1 _ r u from hu.move (fun _ _ _ => rfl) (fun k hk hlt => ?_))
  rcases hk with hk | hk
  · exact hk
  · refine ⟨.inr (Nat.le_trans S.keep.size hk), fun hh => ?_⟩
    have := hh.lt S'.eok
    omega

theorem eff_callF {f : FuncId} {args : Array Operand} {ts : Array TypeId} {vs : List V} {xs : List B} {r : B} (h : evs s args.toList = some vs) (hx : ress E vs = some xs) (hv : VF P f xs r) (hr : r.flat = true)
    (ho : o.op = .call { callee := .value (.func f), args := args, argTypes := ts }) (S : Sim w0 P0 E0 pl0 N E pl s a W) (hf : pl id = none)
    (hK : Next w0 P0 E0 pl0 pl N id s a o K E (.b r)) : Oper.wp P o a W K Qx := by
  obtain ⟨e1, e2⟩ := evs_get h
  obtain ⟨x1, x2⟩ := ress_get hx
  have hargs : ∀ (j : Nat) (x : B), xs[j]? = some x → ∃ u : Value, (args.map a.eval)[j]? = some u ∧ RepB W (fun _ => True) x u := fun j x hj => by
    obtain ⟨v, hv1, hv2⟩ := x2 j x hj
    obtain ⟨y, hy1, hy2⟩ := e2 j v hv1
    refine ⟨a.eval y, by simpa using ⟨y, by simpa using hy1, rfl⟩, ?_⟩
    exact rep_res S.eok hv2 (S.ev hy2) (fun k hk => trivial) (fun i hi e g c he hp hF => trivial)
  unfold Oper.wp
  rw [run_enter hv.1 ho, Oper.upon_enter]
  refine Calls.mono (hv.2 W (fun _ => True) (args.map a.eval) (by rw [Array.size_map, x1, e1, Array.length_toList]) hargs) ?_
  rintro e W1 ⟨u, rfl, hu, hsame⟩
  exact hK u pl W1 (S.called hsame) (fun i _ h => h) (show RepB W1 _ r u from flat_rep hr hu)
end
end Go.VL

/- A small program logic over the translated Go code, tenth part: structs and slices built from parts, cuts, texts, copies. -/
set_option linter.unusedVariables false
set_option linter.unusedSimpArgs false
namespace Go.VL
open Go.RowKit

section
variable {P : Program} {w0 W W1 : World} {P0 F : Nat → Prop} {E0 E E1 : Env} {pl0 pl pl1 : Plan} {N : Frm} {id : Nat} {s : Slots} {a : Act} {o : Oper} {K : Act → World → Prop} {Qx : Exit → Act → World → Prop}

def RepCs (W : World) (Q : Nat → Prop) (pl : Plan) (cs : Array Value) (l : List V) : Prop :=
  cs.size = l.length ∧ ∀ (j : Nat) (x : V), l[j]? = some x → ∃ y : Value, cs[j]? = some y ∧ y.oneCell' = true ∧ RepL W Q pl x y

theorem foldl_set (off : Nat) : ∀ (us : List Value) (i : Nat) (cs : Array Value), off + i + us.length ≤ cs.size →
    ((us.zipIdx i).foldl (fun cs (p : Value × Nat) => cs.setIfInBounds (off + p.2) p.1) cs).size = cs.size ∧
    ∀ j, ((us.zipIdx i).foldl (fun cs (p : Value × Nat) => cs.setIfInBounds (off + p.2) p.1) cs)[j]? = if off + i ≤ j ∧ j < off + i + us.length then us[j - (off + i)]? else cs[j]?
  | [], i, cs, h => by
    refine ⟨rfl, fun j => ?_⟩
    have : ¬ (off + i ≤ j ∧ j < off + i + ([] : List Value).length) := by simp only [List.length_nil]; omega
    rw [if_neg this]; rfl
  | u :: us, i, cs, h => by
    simp only [List.length_cons] at h
    obtain ⟨h1, h2⟩ := foldl_set off us (i + 1) (cs.setIfInBounds (off + i) u) (by simp; omega)
    simp only [List.zipIdx_cons, List.foldl_cons]
    refine ⟨by rw [h1]; simp, fun j => ?_⟩
    rw [h2 j]
    by_cases hj : j = off + i
    · subst hj
      rw [if_neg (by omega), if_pos (by simp)]
      simp [Array.getElem?_setIfInBounds_self_of_lt (show off + i < cs.size by omega)]
    · by_cases hj2 : off + i ≤ j ∧ j < off + i + (us.length + 1)
      · rw [if_pos (by omega), if_pos (by simp only [List.length_cons]; omega), show j - (off + i) = (j - (off + (i + 1))) + 1 by omega, List.getElem?_cons_succ]
      · rw [if_neg (by omega), if_neg (by simp only [List.length_cons]; omega), Array.getElem?_setIfInBounds_ne (by omega)]

theorem fill_rep {W : World} {Q : Nat → Prop} {place : Nat → Option (Nat × Nat)} : ∀ {ks : List (Nat × V)} {us : List (Nat × Value)} {l l' : List V} {cs : Array Value},
    putParts place ks l = some l' → us.length = ks.length → (∀ (j k : Nat) (v : V), ks[j]? = some (k, v) → ∃ u, us[j]? = some (k, u) ∧ Rep W Q pl v u) → RepCs W Q pl cs l →
    ∃ cs', Instr.fill place cs us = some cs' ∧ RepCs W Q pl cs' l'
  | [], us, l, l', cs, h, hlen, hu, hc => by
    simp [putParts] at h; subst h
    have : us = [] := List.eq_nil_of_length_eq_zero hlen
    subst this
    exact ⟨cs, rfl, hc⟩
  | (k, v) :: ks, us, l, l', cs, h, hlen, hu, hc => by
    unfold putParts at h
    split at h
    · rename_i fo n hpl
      split at h
      · rename_i hok
        obtain ⟨h1, h2, h3⟩ := hok
        obtain ⟨u, hu0, hrep⟩ := hu 0 k v rfl
        cases us with
        | nil => simp at hu0
        | cons p us =>
          simp at hu0; subst hu0
          obtain ⟨r1, r2⟩ := rep_cells hrep (noTup_ne h3)
          obtain ⟨f1, f2⟩ := foldl_set fo u.cells.toList 0 cs (by simp; rw [hc.1]; omega)
          have hfold : u.cells.zipIdx.foldl (fun cs (x : Value × Nat) => cs.setIfInBounds (fo + x.2) x.1) cs = (u.cells.toList.zipIdx 0).foldl (fun cs (p : Value × Nat) => cs.setIfInBounds (fo + p.2) p.1) cs := by
            rw [← Array.foldl_toList]; simp
          have hcs : RepCs W Q pl ((u.cells.toList.zipIdx 0).foldl (fun cs (p : Value × Nat) => cs.setIfInBounds (fo + p.2) p.1) cs) (l.take fo ++ (v.cells ++ l.drop (fo + n))) := by
            refine ⟨by rw [f1, hc.1]; simp; omega, fun j x hj => ?_⟩
            rw [f2 j]
            by_cases hj1 : j < fo
            · rw [List.getElem?_append_left (by simp; omega), List.getElem?_take_of_lt hj1] at hj
              rw [if_neg (by omega)]
              exact hc.2 j x hj
            · by_cases hj2 : j < fo + n
              · rw [List.getElem?_append_right (by simp; omega), List.getElem?_append_left (by simp; omega)] at hj
                simp only [List.length_take, Nat.min_eq_left (show fo ≤ l.length by omega)] at hj
                rw [if_pos (by simp [r1]; omega)]
                simpa using r2 (j - fo) x hj
              · rw [List.getElem?_append_right (by simp; omega), List.getElem?_append_right (by simp; omega)] at hj
                simp only [List.length_take, Nat.min_eq_left (show fo ≤ l.length by omega), List.getElem?_drop] at hj
                rw [if_neg (by simp [r1]; omega)]
                have : fo + n + (j - fo - v.cells.length) = j := by omega
                rw [this] at hj
                exact hc.2 j x hj
          obtain ⟨cs', c1, c2⟩ := fill_rep h (by simpa using hlen) (fun j k v hj => hu (j + 1) k v (by simpa using hj)) hcs
          refine ⟨cs', ?_, c2⟩
          simp only [Instr.fill, hpl]
          have hno : ¬ ((decide (u.cells.size ≠ n) || decide (fo + u.cells.size > cs.size)) = true) := by simp [hc.1, r1]; omega
          rw [if_neg hno, hfold]
          exact c1
      · cases h
    · cases h

theorem mapM_all {α β : Type} {f : α → Option β} : ∀ {l : List α}, l.all (fun x => (f x).isSome) = true → ∃ ys, l.mapM f = some ys ∧ ∀ (j : Nat) (x : α), l[j]? = some x → ∃ y, ys[j]? = some y ∧ f x = some y
  | [], _ => ⟨[], by simp, fun j x hj => by simp at hj⟩
  | x :: r, h => by
    simp only [List.all_cons, Bool.and_eq_true] at h
    obtain ⟨y, hy⟩ := Option.isSome_iff_exists.1 h.1
    obtain ⟨ys, h1, h2⟩ := mapM_all h.2
    refine ⟨y :: ys, by simp [hy, h1], fun j z hj => ?_⟩
    cases j with
    | zero => simp at hj; subst hj; exact ⟨y, rfl, hy⟩
    | succ j => simpa using h2 j z (by simpa using hj)

theorem fill_congr {p q : Nat → Option (Nat × Nat)} : ∀ {us : List (Nat × Value)} {cs : Array Value}, (∀ u ∈ us, p u.1 = q u.1) → Instr.fill p cs us = Instr.fill q cs us
  | [], cs, h => rfl
  | (k, u) :: us, cs, h => by
    have h1 : p k = q k := h (k, u) (by simp)
    simp only [Instr.fill, h1]
    split
    · rfl
    · split
      · rfl
      · exact fill_congr (fun x hx => h x (by simp [hx]))

theorem putParts_some {place : Nat → Option (Nat × Nat)} : ∀ {ks : List (Nat × V)} {l l' : List V}, putParts place ks l = some l' → ∀ p ∈ ks, ∃ x, place p.1 = some x
  | [], l, l', h, p, hp => by cases hp
  | (k, v) :: ks, l, l', h, p, hp => by
    unfold putParts at h
    split at h
    · rename_i fo n hpl
      split at h
      · rcases List.mem_cons.1 hp with rfl | hp
        · exact ⟨_, hpl⟩
        · exact putParts_some h p hp
      · cases h
    · cases h

/-- The parts of a literal. -/
theorem parts_rep (S : Sim w0 P0 E0 pl0 N E pl s a W) {parts : Array (Nat × Operand)} {vs : List V} (h : evs s (parts.toList.map (·.2)) = some vs) :
    ((parts.map fun (i, x) => (i, a.eval x)).toList).length = ((parts.toList.map (·.1)).zip vs).length ∧
    ∀ (j k : Nat) (v : V), ((parts.toList.map (·.1)).zip vs)[j]? = some (k, v) → ∃ u, ((parts.map fun (i, x) => (i, a.eval x)).toList)[j]? = some (k, u) ∧ Rep W (Qf (FF w0 P0) E pl) pl v u := by
  obtain ⟨e1, e2⟩ := evs_get h
  simp only [List.length_map, Array.length_toList] at e1
  refine ⟨by simp [e1], fun j k v hj => ?_⟩
  rw [List.getElem?_zip_eq_some] at hj
  obtain ⟨h1, h2⟩ := hj
  obtain ⟨x, hx, hx2⟩ := e2 j v h2
  rw [List.getElem?_map] at hx h1
  obtain ⟨p, hp, rfl⟩ := Option.map_eq_some_iff.1 hx
  rw [hp] at h1
  simp only [Option.map_some, Option.some.injEq] at h1
  subst h1
  refine ⟨a.eval p.2, ?_, S.ev hx2⟩
  simp only [Array.toList_map, List.getElem?_map, hp, Option.map_some]

theorem zero_csL {z : List B} {zv : Value} (W : World) (Q : Nat → Prop) (pl : Plan) (h : ZeroL zv.cells.toList z) : RepCs W Q pl zv.cells (z.map .b) := by
  obtain ⟨h1, h2⟩ := h
  refine ⟨by simp [h1], fun j x hj => ?_⟩
  simp only [List.getElem?_map, Option.map_eq_some_iff] at hj
  obtain ⟨y, hy, rfl⟩ := hj
  obtain ⟨u, hu, hu1, hr⟩ := h2 W Q j y hy
  exact ⟨u, by simpa using hu, hu1, hr⟩
theorem zero_cs {T : Nat} {z : List B} {i : TypeInfo} {zv : Value} (W : World) (Q : Nat → Prop) (pl : Plan) (h : zeroBs zv.cells.toList = some z) : RepCs W Q pl zv.cells (z.map .b) := by
  obtain ⟨h1, h2⟩ := zeroBs_rep (W := W) (Q := Q) h
  refine ⟨by simp [h1], fun j x hj => ?_⟩
  simp only [List.getElem?_map, Option.map_eq_some_iff] at hj
  obtain ⟨y, hy, rfl⟩ := hj
  obtain ⟨u, hu, hu1, hr⟩ := h2 j y hy
  exact ⟨u, by simpa using hu, hu1, hr⟩

theorem eff_buildL {T : TypeId} {parts : Array (Nat × Operand)} {vs cs : List V} {z : List B} (h : evs s (parts.toList.map (·.2)) = some vs) (hz : ∃ i zv, P.info? T = some i ∧ i.zero = some zv ∧ ZeroL zv.cells.toList z) (hu : (∃ fs, P.underlying T = some (.struct fs) ∧ fs.toList.all (fun f => (szOf P f.type).isSome) = true))
    (hc : putParts (places P T) ((parts.toList.map (·.1)).zip vs) (z.map .b) = some cs) (ho : o.op = .build T parts)
    (S : Sim w0 P0 E0 pl0 N E pl s a W) (hf : pl id = none) (hK : Next w0 P0 E0 pl0 pl N id s a o K E (.agg cs)) : Oper.wp P o a W K Qx := by
  obtain ⟨fs, hfs, hall⟩ := hu
  obtain ⟨i, zv, hi, hz1, hz2⟩ := hz
  obtain ⟨p1, p2⟩ := parts_rep S h
  obtain ⟨cs', c1, c2⟩ := fill_rep hc p1 p2 (zero_csL W (Qf (FF w0 P0) E pl) pl hz2)
  obtain ⟨ps, m1, m2⟩ := mapM_all (f := fun (f : Field) => (P.info? f.type).map fun i => (f.offset, i.size)) (l := fs.toList) (by
    rw [List.all_eq_true] at hall ⊢
    intro f hf
    have := hall f hf
    unfold szOf at this
    cases hq : P.info? f.type with
    | none => rw [hq] at this; cases this
    | some i => rfl)
  have hbuilt : P.built T (parts.map fun (i, x) => (i, a.eval x)).toList = some cs' := by
    unfold Program.built
    simp only [hi, hfs, hz1, m1]
    rw [← c1]
    apply fill_congr
    intro u hu
    obtain ⟨j, hj⟩ := List.mem_iff_getElem?.1 hu
    have hjl : j < ((parts.toList.map (·.1)).zip vs).length := by rw [← p1]; exact (List.getElem?_eq_some_iff.1 hj).1
    obtain ⟨kv, hkv⟩ : ∃ kv, ((parts.toList.map (·.1)).zip vs)[j]? = some kv := ⟨_, List.getElem?_eq_getElem hjl⟩
    obtain ⟨u', hu', _⟩ := p2 j kv.1 kv.2 hkv
    rw [hj] at hu'
    injection hu' with hu'
    subst hu'
    obtain ⟨x, hx⟩ := putParts_some hc kv (List.mem_of_getElem? hkv)
    have hx' := hx
    unfold places at hx
    obtain ⟨q, hq, rfl⟩ := Option.map_eq_some_iff.1 hx
    obtain ⟨fs', fd, g1, g2, g3, g4, g5, g6⟩ := fieldOf_run (show fieldOf P T kv.1 = some (q.1, q.2.1, q.2.2) from hq)
    rw [hfs] at g1
    injection g1 with g1
    injection g1 with g1
    subst g1
    obtain ⟨y, hy, hy2⟩ := m2 kv.1 fd (by simpa using g2)
    obtain ⟨i', hi', hsz⟩ := info_of_sz g4
    simp only [hi', Option.map_some, Option.some.injEq] at hy2
    rw [hx']
    simp only [List.getElem?_toArray, hy, ← hy2, g3, hsz]
  refine wp_val (v := .agg cs) (u := .agg cs') S hf ?_ ⟨cs', rfl, c2.1, c2.2⟩ hK
  simp [execOp, ho, run_build (P := P) W T _ cs' hbuilt]
theorem eff_build {T : TypeId} {parts : Array (Nat × Operand)} {vs cs : List V} {z : List B} (h : evs s (parts.toList.map (·.2)) = some vs) (hz : zeroOf P T = some z) (hu : (∃ fs, P.underlying T = some (.struct fs) ∧ fs.toList.all (fun f => (szOf P f.type).isSome) = true))
    (hc : putParts (places P T) ((parts.toList.map (·.1)).zip vs) (z.map .b) = some cs) (ho : o.op = .build T parts)
    (S : Sim w0 P0 E0 pl0 N E pl s a W) (hf : pl id = none) (hK : Next w0 P0 E0 pl0 pl N id s a o K E (.agg cs)) : Oper.wp P o a W K Qx := eff_buildL h (zeroOf_runL hz) hu hc ho S hf hK
theorem eff_buildN {T : TypeId} {parts : Array (Nat × Operand)} {vs cs : List V} {z : List B} (h : evs s (parts.toList.map (·.2)) = some vs) (hz : (zeroOf P T).map (List.map nilB) = some z) (hu : (∃ fs, P.underlying T = some (.struct fs) ∧ fs.toList.all (fun f => (szOf P f.type).isSome) = true))
    (hc : putParts (places P T) ((parts.toList.map (·.1)).zip vs) (z.map .b) = some cs) (ho : o.op = .build T parts)
    (S : Sim w0 P0 E0 pl0 N E pl s a W) (hf : pl id = none) (hK : Next w0 P0 E0 pl0 pl N id s a o K E (.agg cs)) : Oper.wp P o a W K Qx := eff_buildL h (zeroOf_runN hz) hu hc ho S hf hK

theorem eff_buildS {T el : TypeId} {len sz : Nat} {parts : Array (Nat × Operand)} {vs cs : List V} {z : List B} (h : evs s (parts.toList.map (·.2)) = some vs) (hu : P.underlying T = some (.slice el)) (hz : zeroOf P el = some z) (hs : szOf P el = some z.length)
    (h0 : z ≠ []) (hm : len * z.length ≤ 16777216) (hsz : sz = z.length) (hc : putParts (fun k => some (k * sz, sz)) ((parts.toList.map (·.1)).zip vs) (((List.replicate len z).flatten).map .b) = some cs) (ho : o.op = .buildSlice T len parts)
    (S : Sim w0 P0 E0 pl0 N E pl s a W) (hf : pl id = none) (hK : Next w0 P0 E0 pl0 pl N id s a o K (setAt E id (some ⟨sz, cs, true⟩)) (.own id len)) : Oper.wp P o a W K Qx := by
  subst hsz
  obtain ⟨i, zv, hi, hz1, hz2⟩ := zeroOf_run hz
  obtain ⟨p1, p2⟩ := parts_rep S h
  obtain ⟨q1, q2⟩ := zero_cs (T := el) (i := i) W (Qf (FF w0 P0) E pl) pl hz2
  simp only [List.length_map] at q1
  have hpos : 0 < z.length := List.length_pos_iff.2 h0
  have hlen : ((List.replicate len z).flatten).length = len * z.length := by simp
  have hstart : RepCs W (Qf (FF w0 P0) E pl) pl ((Array.range (len * z.length)).map (zv.cells[· % zv.cells.size]!)) (((List.replicate len z).flatten).map .b) := by
    refine ⟨by simp, fun j x hj => ?_⟩
    simp only [List.getElem?_map, Option.map_eq_some_iff] at hj
    obtain ⟨y, hy, rfl⟩ := hj
    have hjl : j < len * z.length := by
      have := (List.getElem?_eq_some_iff.1 hy).1
      rwa [hlen] at this
    rw [madeZ z len j hjl] at hy
    obtain ⟨u, hu1, hu2, hu3⟩ := q2 (j % z.length) (.b y) (by simp [hy])
    refine ⟨u, ?_, hu2, hu3⟩
    rw [← q1] at hu1
    have h5 : zv.cells[j % zv.cells.size]! = u := by rw [getElem!_def, hu1]
    simp [hjl, h5]
  obtain ⟨cs', c1, c2⟩ := fill_rep hc p1 p2 hstart
  have hsize : cs.length = len * z.length := by
    have gen : ∀ {ks : List (Nat × V)} {l l' : List V}, putParts (fun k => some (k * z.length, z.length)) ks l = some l' → l'.length = l.length := by
      intro ks
      induction ks with
      | nil => intro l l' h; simp [putParts] at h; rw [h]
      | cons p ks ih =>
        intro l l' h
        obtain ⟨k, v⟩ := p
        simp only [putParts] at h
        split at h
        · rename_i hok
          rw [ih h]
          simp
          omega
        · cases h
    rw [gen hc]; simp
  refine wp_new (v := .own id len) (cur := cs') (T := el) (c := len) (u := .slice (some ⟨W.heap.size, 0, none⟩) len len) S hf ?_ (by rw [c2.1, hsize]) (by rw [c2.1]; exact Nat.le_refl _) (by
      have : len ≤ len * z.length := Nat.le_mul_of_pos_right _ hpos
      simp only [maxLen]; omega) hpos c2.2 (fun Q => ⟨W.heap.size, len, by simp, Nat.le_refl _, rfl⟩) hK
  have hm' : ¬ (2 ^ 24 < len * z.length) := by omega
  have c1' : Instr.fill (fun i => some (i * z.length, z.length)) ((Array.range (len * z.length)).map (zv.cells[· % zv.cells.size]!)) (List.map (fun x : Nat × Operand => (x.fst, a.eval x.snd)) parts.toList) = some cs' := by
    rw [← c1]; simp only [Array.toList_map]
  by_cases hl0 : len * z.length = 0
  · have hlen0 : len = 0 := by
      rcases Nat.mul_eq_zero.1 hl0 with h | h
      · exact h
      · omega
    subst hlen0
    have hr0 : Array.range 0 = #[] := rfl
    simp only [Nat.zero_mul, hr0, Array.map_empty] at c1'
    have c1'' : Instr.fill (fun i => some (i * z.length, z.length)) (#[] : Array Value) (List.map (fun x : Nat × Operand => (x.fst, a.eval x.snd)) parts.toList) = some cs' := by rw [← c1']
    simp [execOp, ho, Instr.buildSlice, run_underlying hu, run_sizeOf hs, newRow, World.alloc_eq, hr0, c1'']
  · simp [execOp, ho, Instr.buildSlice, run_underlying hu, run_sizeOf hs, hl0, hm', hi, hz1, zeroValue, typeInfo, newRow, World.alloc_eq]
    rw [c1']
    simp [World.alloc_eq]
end
end Go.VL

/- A small program logic over the translated Go code, eleventh part: cuts, texts, the greater and the lesser, copies, rows that grow. -/
set_option linter.unusedVariables false
set_option linter.unusedSimpArgs false
namespace Go.VL
open Go.RowKit

section
variable {P : Program} {w0 W W1 : World} {P0 F : Nat → Prop} {E0 E E1 : Env} {pl0 pl pl1 : Plan} {N : Frm} {id : Nat} {s : Slots} {a : Act} {o : Oper} {K : Act → World → Prop} {Qx : Exit → Act → World → Prop}

theorem elem_of {T el : TypeId} (hu : P.underlying T = some (.slice el)) : P.elem T = el := by simp [Program.elem, hu]

theorem sliced_rep {W : World} {Q : Nat → Prop} {A : Option Addr} {n c sz a b : Nat} {l : List B} (h : RepB W Q (.sl sz l) (.slice A n c)) (hab : a ≤ b) (hb : b * sz ≤ l.length) :
    b ≤ n ∧ RepB W Q (.sl sz ((l.take (b * sz)).drop (a * sz))) (sliced A a b c sz) := by
  cases h with
  | nilsl _ hs0 =>
    have hb0 : b = 0 := by
      cases b with
      | zero => rfl
      | succ b => rw [Nat.succ_mul] at hb; simp at hb; omega
    have ha0 : a = 0 := by omega
    subst hb0; subst ha0
    refine ⟨Nat.le_refl _, ?_⟩
    simp only [sliced, if_true, Nat.sub_self, List.take_nil, List.drop_nil]
    exact RepB.nilsl sz hs0
  | sl A _ _ _ _ f hl hc hm hs0 hqq hcell hone hr =>
    have hbn : b ≤ n := Nat.le_of_mul_le_mul_right (hl ▸ hb) hs0
    refine ⟨hbn, ?_⟩
    have hab' : a * sz ≤ b * sz := Nat.mul_le_mul_right _ hab
    have hlen : ((l.take (b * sz)).drop (a * sz)).length = (b - a) * sz := by simp [Nat.min_eq_left hb, Nat.sub_mul]
    by_cases hac : c = a
    · have hba : b = a := by omega
      subst hba
      have he : (l.take (b * sz)).drop (b * sz) = [] := List.eq_nil_of_length_eq_zero (by rw [hlen]; simp)
      rw [he]
      simp only [sliced, hac, if_true, Nat.sub_self]
      exact RepB.sl A 0 0 sz [] f (by simp) (Nat.le_refl _) (by simp) hs0 (fun h => by simp at h) (fun j hj => by simp at hj) (fun j hj => by simp at hj) (fun j x hj => by simp at hj)
    · simp only [sliced, hac, if_false, Option.map_some]
      refine RepB.sl (A.add (a * sz)) (b - a) (c - a) sz _ (fun j => f (a * sz + j)) hlen (by omega) (by omega) hs0 (fun h => by rw [block_add]; exact hqq (by rw [hlen] at h; have : b * sz ≤ l.length := hb; by_cases h0 : l.length = 0; (rw [h0] at this; rw [Nat.sub_mul] at h; omega); omega)) (fun j hj => ?_) (fun j hj => ?_) (fun j x hj => ?_)
      · rw [hlen, Nat.sub_mul] at hj
        exact drop_cells hcell (by omega) j (by omega)
      · rw [hlen, Nat.sub_mul] at hj
        exact hone _ (by omega)
      · have hlt := (List.getElem?_eq_some_iff.1 hj).1
        rw [hlen, Nat.sub_mul] at hlt
        rw [List.getElem?_drop, List.getElem?_take_of_lt (by omega)] at hj
        exact hr _ x hj

theorem eff_slSl {T el : TypeId} {x : Operand} {lo hi : Option Operand} {sz : Nat} {l : List B} {k k' : IntKind} {p q : Int} (h : ev s x = some (.b (.sl sz l))) (hu : P.underlying T = some (.slice el)) (hs : szOf P el = some sz)
    (hlo : lo = none ∧ p = 0 ∨ ∃ o, lo = some o ∧ ev s o = some (.b (.lit (.int k p)))) (hhi : hi = none ∧ q = ((l.length / sz : Nat) : Int) ∨ ∃ o, hi = some o ∧ ev s o = some (.b (.lit (.int k' q))))
    (h0 : 0 ≤ p) (h1 : p ≤ q) (h2 : q.toNat * sz ≤ l.length) (ho : o.op = .slice T x lo hi none)
    (S : Sim w0 P0 E0 pl0 N E pl s a W) (hf : pl id = none) (hK : Next w0 P0 E0 pl0 pl N id s a o K E (.b (.sl sz ((l.take (q.toNat * sz)).drop (p.toNat * sz))))) : Oper.wp P o a W K Qx := by
  have hrep : RepB W (Qf (FF w0 P0) E pl) (.sl sz l) (a.eval x) := S.ev h
  have hsl : ∃ A n c, a.eval x = .slice A n c ∧ n = l.length / sz ∧ n ≤ c := by
    generalize a.eval x = v at hrep
    cases hrep with
    | nilsl _ hs0 => exact ⟨none, 0, 0, rfl, by simp, Nat.le_refl _⟩
    | sl A n c _ _ f hl hc hm hs0 => exact ⟨some A, n, c, rfl, by rw [hl, Nat.mul_div_cancel _ hs0], hc⟩
  obtain ⟨A, n, c, hv, hn, hnc⟩ := hsl
  rw [hv] at hrep
  obtain ⟨r1, r2⟩ := sliced_rep hrep (show p.toNat ≤ q.toNat by omega) h2
  have hel := elem_of hu
  have ht : P.underlying T = some (.slice (P.elem T)) := by rw [hel]; exact hu
  have hsz : (sizeOf (P.elem T)).run P W = .ok sz W := by rw [hel]; exact run_sizeOf hs W
  refine wp_val (v := .b (.sl sz ((l.take (q.toNat * sz)).drop (p.toNat * sz)))) (u := sliced A p.toNat q.toNat c sz) S hf ?_ r2 hK
  rcases hlo with ⟨rfl, rfl⟩ | ⟨lo, rfl, hlo⟩ <;> rcases hhi with ⟨rfl, rfl⟩ | ⟨hi, rfl, hhi⟩
  · have := run_slice_all (P := P) W T A n c ht
    rw [Int.toNat_natCast, ← hn]
    simp [execOp, ho, hv, run_sliceAt_slice W T _ _ _ _ ht, this, hsz]
  · have e2 := rep_lit (S.ev hhi)
    have := run_slice_h (P := P) W T A n c ht k' q (by omega) (by omega)
    simp [execOp, ho, hv, e2, run_sliceAt_slice W T _ _ _ _ ht, this, hsz]
  · have e1 := rep_lit (S.ev hlo)
    have := run_slice_l (P := P) W T A n c ht k p h0 (by omega)
    rw [Int.toNat_natCast, ← hn]
    simp [execOp, ho, hv, e1, run_sliceAt_slice W T _ _ _ _ ht, this, hsz]
  · have e1 := rep_lit (S.ev hlo)
    have e2 := rep_lit (S.ev hhi)
    have := run_slice_lh (P := P) W T A n c ht k k' p q h0 h1 (by omega)
    simp [execOp, ho, hv, e1, e2, run_sliceAt_slice W T _ _ _ _ ht, this, hsz]

theorem eff_strFrom {T : TypeId} {x lo : Operand} {str : ByteArray} {k : IntKind} {p : Int} (h : ev s x = some (.b (.lit (.string str)))) (hl : ev s lo = some (.b (.lit (.int k p)))) (hu : P.underlying T = some .string) (h0 : 0 ≤ p) (h1 : p ≤ str.size)
    (ho : o.op = .slice T x (some lo) none none) (S : Sim w0 P0 E0 pl0 N E pl s a W) (hf : pl id = none) (hK : Next w0 P0 E0 pl0 pl N id s a o K E (.b (.lit (.string (str.extract p.toNat str.size))))) : Oper.wp P o a W K Qx := by
  have e1 := rep_lit (S.ev h)
  have e2 := rep_lit (S.ev hl)
  have := run_slice_string_l (P := P) W T str hu k p h0 h1
  refine wp_val (v := .b (.lit (.string (str.extract p.toNat str.size)))) (u := .string (str.extract p.toNat str.size)) S hf ?_ (RepB.lit _ rfl) hK
  simp [execOp, ho, e1, e2, run_sliceAt_string W T _ _ _ _ hu, this]

theorem eff_max {x y : Operand} {ts : Array TypeId} {k : IntKind} {p q : Int} (hx : ev s x = some (.b (.lit (.int k p)))) (hy : ev s y = some (.b (.lit (.int k q)))) (ho : o.op = .call { callee := .builtin .max, args := #[x, y], argTypes := ts })
    (S : Sim w0 P0 E0 pl0 N E pl s a W) (hf : pl id = none) (hK : Next w0 P0 E0 pl0 pl N id s a o K E (.b (.lit (.int k (if q > p then q else p))))) : Oper.wp P o a W K Qx := by
  have e1 := rep_lit (S.ev hx)
  have e2 := rep_lit (S.ev hy)
  refine wp_val (v := .b (.lit (.int k (if q > p then q else p)))) (u := .int k (if q > p then q else p)) S hf ?_ (RepB.lit _ rfl) hK
  simp [execOp, ho, resolve, invoke, builtin, e1, e2, run_max_int2]

theorem eff_min {x y : Operand} {ts : Array TypeId} {k : IntKind} {p q : Int} (hx : ev s x = some (.b (.lit (.int k p)))) (hy : ev s y = some (.b (.lit (.int k q)))) (ho : o.op = .call { callee := .builtin .min, args := #[x, y], argTypes := ts })
    (S : Sim w0 P0 E0 pl0 N E pl s a W) (hf : pl id = none) (hK : Next w0 P0 E0 pl0 pl N id s a o K E (.b (.lit (.int k (if q < p then q else p))))) : Oper.wp P o a W K Qx := by
  have e1 := rep_lit (S.ev hx)
  have e2 := rep_lit (S.ev hy)
  refine wp_val (v := .b (.lit (.int k (if q < p then q else p)))) (u := .int k (if q < p then q else p)) S hf ?_ (RepB.lit _ rfl) hK
  simp [execOp, ho, resolve, invoke, builtin, e1, e2, run_min_int2]

/-- A row by its contents, its address and its cells at hand. -/
theorem rep_src (S : Sim w0 P0 E0 pl0 N E pl s a W) {y : Operand} {v : V} {sz : Nat} {l : List B} (hy : ev s y = some v) (hr : res E v = some (.sl sz l)) : RepB W (FF w0 P0) (.sl sz l) (a.eval y) :=
  rep_res S.eok hr (S.ev hy) (fun k hk => hk.1) (fun i hi e g c he hp hF => hF)

theorem eff_toStr {T T' el : TypeId} {x : Operand} {v : V} {l : List UInt8} (h : ev s x = some v) (hr : res E v = some (.sl 1 (bytesB l))) (hu : P.underlying T = some (.slice el)) (he : P.underlying el = some (.int .u8)) (hu' : P.underlying T' = some .string)
    (ho : o.op = .convert T T' x) (S : Sim w0 P0 E0 pl0 N E pl s a W) (hf : pl id = none) (hK : Next w0 P0 E0 pl0 pl N id s a o K E (.b (.lit (.string ⟨l.toArray⟩)))) : Oper.wp P o a W K Qx := by
  have hrep := rep_src S h hr
  refine wp_val (v := .b (.lit (.string ⟨l.toArray⟩))) (u := .string ⟨l.toArray⟩) S hf ?_ (RepB.lit _ rfl) hK
  generalize hq : a.eval x = q at hrep
  generalize hb : bytesB l = bl at hrep
  cases hrep with
  | nilsl _ hs0 =>
    have : l = [] := by simpa [bytesB] using hb
    subst this
    have hc := run_convert_bytes_string (P := P) W T T' el none 0 0 hu he hu'
    simp [execOp, ho, hq, hc, Conv.bytesToString]
    rfl
  | sl A n c _ _ f hl hc hm hs0 hqq hcell hone hrr =>
    subst hb
    have hn : n = l.length := by simpa [bytesB] using hl.symm
    subst hn
    have := run_convert_bytes_back (P := P) W T T' el A c l hu he hu' (fun j hj => by
      have hjb : j < (bytesB l).length := by simpa [bytesB] using hj
      rw [hcell j hjb]
      have hrj := hrr j (.lit (.int .u8 (l[j]).toNat)) (by simp [bytesB, hj])
      have hfj : ∀ q, RepB W (FF w0 P0) (.lit (.int .u8 (l[j]).toNat)) q → q = .int .u8 (l[j]).toNat := by intro q hq; cases hq; rfl
      rw [hfj _ hrj])
    simp [execOp, ho, hq, this]

theorem eff_copy {x y : Operand} {T T' el : TypeId} {i n : Nat} {e : Ent} {v : V} {l : List B} (hx : ev s x = some (.own i n)) (he : E i = some e) (hh : e.hot = true) (h1 : e.sz = 1) (hn : n ≤ e.cells.length) (hy : ev s y = some v) (hr : res E v = some (.sl 1 l))
    (hu : P.underlying T = some (.slice el)) (hs : szOf P el = some 1) (ho : o.op = .call { callee := .builtin .copy, args := #[x, y], argTypes := #[T, T'] }) (S : Sim w0 P0 E0 pl0 N E pl s a W) (hf : pl id = none)
    (hlit : l.all B.isLit = true)
    (hK : Next w0 P0 E0 pl0 pl N id s a o K (setAt E i (some { e with cells := (l.take (Nat.min l.length n)).map .b ++ e.cells.drop (Nat.min l.length n) })) (.b (.lit (.int .i64 (Nat.min l.length n))))) : Oper.wp P o a W K Qx := by
  have hv : ∀ (j : Nat) (x : B), l[j]? = some x → ∀ u, RepB W (FF w0 P0) x u → RepB W (Qf (FF w0 P0) E pl) x u := fun j x hj u hu => by
    have := List.all_eq_true.1 hlit x (List.mem_of_getElem? hj)
    cases x with
    | lit v => cases hu with | lit _ h => exact .lit _ h
    | nil => cases this
    | sl a b => cases this
    | agg b => cases this
    | tup b => cases this
  obtain ⟨g, c, hp, hnc, hxv⟩ := S.ev hx
  have hrep := rep_src S hy hr
  have hs' : (P.info? el).map (·.size) = some 1 := hs
  obtain ⟨g', c', cur, T0, q1, q2, q3, q4, q5, q6, q7, q8⟩ := S.eok.ent i e he
  rw [hp] at q1
  injection q1 with q1
  injection q1 with q1 q1'
  subst q1; subst q1'
  have hmin : Nat.min l.length n ≤ n := Nat.min_le_right _ _
  have hmin' : Nat.min l.length n ≤ l.length := Nat.min_le_left _ _
  -- the source
  obtain ⟨sp, sLen, sCap, hyv, hsl, hcells⟩ : ∃ sp sLen sCap, a.eval y = .slice sp sLen sCap ∧ sLen = l.length ∧ ∃ f : Nat → Value, (0 < l.length → ∃ A, sp = some A ∧ ∀ j, j < l.length → W.cell? (A.add j) = some (f j)) ∧ (∀ j, j < l.length → (f j).oneCell' = true) ∧ ∀ j x, l[j]? = some x → RepB W (FF w0 P0) x (f j) := by
    generalize a.eval y = q at hrep
    cases hrep with
    | nilsl _ hs0 => exact ⟨none, 0, 0, rfl, rfl, fun _ => undef, fun h => by simp at h, fun j hj => by simp at hj, fun j x hj => by simp at hj⟩
    | sl A m c _ _ f hl hc hm hs0 hqq hcell hone hrr => exact ⟨some A, m, c, rfl, by omega, f, fun _ => ⟨A, rfl, hcell⟩, hone, hrr⟩
  obtain ⟨f, hA, hone, hrr⟩ := hcells
  have hval : Rep W (Qf (FF w0 P0) E pl) pl (.b (.lit (.int .i64 (Nat.min l.length n)))) (goInt (Nat.min l.length n)) := RepB.lit _ rfl
  by_cases h0 : Nat.min l.length n = 0
  · have hrun := run_copy_none (P := P) W T T' o.type el (some ⟨g, 0, none⟩) sp n c sLen sCap hu hs' (by rw [hsl]; exact h0)
    have hE : setAt E i (some { e with cells := (l.take (Nat.min l.length n)).map .b ++ e.cells.drop (Nat.min l.length n) }) = E := by
      rw [h0]
      funext j
      by_cases hj : j = i
      · subst hj; rw [setAt_self, he]; simp
      · rw [setAt_ne _ _ hj]
    rw [hE] at hK
    rw [h0] at hK
    refine wp_val (v := .b (.lit (.int .i64 (0 : Nat)))) (u := goInt 0) S hf ?_ (RepB.lit _ rfl) hK
    simp [execOp, ho, resolve, invoke, builtin, hxv, hyv, hrun]
  · obtain ⟨A, rfl, hcell⟩ := hA (by omega)
    have hc0 : 0 < c := by omega
    have q2 := q2 hc0
    have hcsl : ((List.range (Nat.min l.length n)).map f).length = Nat.min l.length n := by simp
    have hrun := run_copy_row (P := P) W T T' o.type el g 0 n c A sLen sCap cur T0 ((List.range (Nat.min l.length n)).map f) hu hs' q2 (by rw [hcsl, hsl]) (fun j u hj => by
        have hjl := (List.getElem?_eq_some_iff.1 hj).1
        rw [hcsl] at hjl
        simp [hjl] at hj
        rw [hcell j (by omega), hj]) (by rw [hcsl]; omega) (fun u hu => by
        obtain ⟨j, hj⟩ := List.mem_iff_getElem?.1 hu
        have hjl := (List.getElem?_eq_some_iff.1 hj).1
        rw [hcsl] at hjl
        simp [hjl] at hj
        rw [← hj]; exact hone j (by omega))
    rw [hcsl] at hrun
    unfold Oper.wp
    have hex : (execOp a.eval o).run P W = .ok (.value (goInt (Nat.min l.length n))) (W.setRow g (cur.toList.take 0 ++ (List.range (Nat.min l.length n)).map f ++ cur.toList.drop (0 + Nat.min l.length n)).toArray) := by
      simp [execOp, ho, resolve, invoke, builtin, hxv, hyv, hrun]
    rw [hex]
    have hcl : e.cells.length ≤ cur.size := q5
    have S1 := S.upd (W1 := W.setRow g (cur.toList.take 0 ++ (List.range (Nat.min l.length n)).map f ++ cur.toList.drop (0 + Nat.min l.length n)).toArray) he hh hp hc0 rfl rfl rfl (by simp [World.setRow]) (fun k hk => setRow_other W g k _ hk)
      (cur.toList.take 0 ++ (List.range (Nat.min l.length n)).map f ++ cur.toList.drop (0 + Nat.min l.length n)).toArray T0 (setRow_heap W g cur _ T0 (0, 0) q2) q7.2 ((l.take (Nat.min l.length n)).map .b ++ e.cells.drop (Nat.min l.length n))
      (by simp; rw [q4]; rw [q4] at hcl; omega) (by simp; omega) (fun j x hj => by
        by_cases hjm : j < Nat.min l.length n
        · rw [List.getElem?_append_left (by simp; omega)] at hj
          simp only [List.getElem?_map, List.getElem?_take_of_lt hjm, Option.map_eq_some_iff] at hj
          obtain ⟨z, hz, rfl⟩ := hj
          refine ⟨f j, ?_, hone j (by omega), hv j z hz _ (hrr j z hz)⟩
          have hlen2 : (cur.toList.take 0 ++ (List.range (Nat.min l.length n)).map f).length = Nat.min l.length n := by simp
          rw [List.getElem?_toArray, List.getElem?_append_left (by rw [hlen2]; exact hjm)]
          simp only [List.take_zero, List.nil_append, List.getElem?_map, List.getElem?_range hjm, Option.map_some]
        · have hlen3 : ((l.take (Nat.min l.length n)).map V.b).length = Nat.min l.length n := by rw [List.length_map, List.length_take]; exact Nat.min_eq_left hmin'
          rw [List.getElem?_append_right (by rw [hlen3]; omega), hlen3, List.getElem?_drop] at hj
          have hjj : Nat.min l.length n + (j - Nat.min l.length n) = j := by omega
          rw [hjj] at hj
          obtain ⟨u, hu, hu1, hur⟩ := q8 j x hj
          refine ⟨u, ?_, hu1, hur⟩
          have hlen2 : (cur.toList.take 0 ++ (List.range (Nat.min l.length n)).map f).length = Nat.min l.length n := by simp
          rw [List.getElem?_toArray, List.getElem?_append_right (by rw [hlen2]; omega), hlen2, List.getElem?_drop]
          rw [Nat.zero_add, hjj, Array.getElem?_toList]
          exact hu)
    exact hK _ pl _ S1 (fun i _ h => h) (RepB.lit _ rfl)
end
end Go.VL

/- A small program logic over the translated Go code, twelfth part: rows that grow. -/
set_option linter.unusedVariables false
set_option linter.unusedSimpArgs false
namespace Go.VL
open Go.RowKit

section
variable {P : Program} {w0 W W1 : World} {P0 F : Nat → Prop} {E0 E E1 : Env} {pl0 pl pl1 : Plan} {N : Frm} {id : Nat} {s : Slots} {a : Act} {o : Oper} {K : Act → World → Prop} {Qx : Exit → Act → World → Prop}

/-- A row is given up. -/
theorem Sim.lose (S : Sim w0 P0 E0 pl0 N E pl s a W) (i : Nat) : Sim w0 P0 E0 pl0 N (setAt E i none) pl s a W := by
  have hh : ∀ k, Hot (setAt E i none) pl k → Hot E pl k ∨ W.heap.size ≤ k := fun k hk => by
    obtain ⟨j, e, c, h1, h2, h3⟩ := hk
    by_cases hj : j = i
    · subst hj; simp at h1
    · rw [setAt_ne _ _ hj] at h1; exact .inl ⟨j, e, c, h1, h2, h3⟩
  refine S.step (fun _ => False) rfl rfl rfl (Nat.le_refl _) (fun k _ _ => rfl) (fun k h => h.elim) (fun _ _ h => h) hh ⟨fun j e he => ?_, fun j j' e1 e2 g1 c1 c2 hi hj pi pj => ?_⟩
  · by_cases h : j = i
    · subst h; simp at he
    · rw [setAt_ne _ _ h] at he
      exact (S.eok.ent j e he).move (fun _ => False) (fun k hk _ => rfl) (fun k h => h.elim) (fun _ _ h => h) hh (fun _ _ _ h => h)
  · have h1 : j ≠ i := fun h => by subst h; simp at hi
    have h2 : j' ≠ i := fun h => by subst h; simp at hj
    rw [setAt_ne _ _ h1] at hi
    rw [setAt_ne _ _ h2] at hj
    exact S.eok.inj j j' e1 e2 g1 c1 c2 hi hj pi pj

/-- A row under a new number. -/
theorem Sim.rename (S : Sim w0 P0 E0 pl0 N E pl s a W) {i g c : Nat} {e : Ent} (hE : E i = some e) (hp : pl i = some (g, c)) (hid : pl id = none) :
    Sim w0 P0 E0 pl0 N (setAt (setAt E i none) id (some e)) (setAt pl id (some (g, c))) s a W := by
  have hne : i ≠ id := fun h => by rw [h, hid] at hp; cases hp
  have hpl : ∀ j p, pl j = some p → setAt pl id (some (g, c)) j = some p := fun j p h => by
    rw [setAt_ne _ _ (fun e => by rw [e, hid] at h; cases h)]; exact h
  have hh : ∀ k, Hot (setAt (setAt E i none) id (some e)) (setAt pl id (some (g, c))) k → Hot E pl k ∨ W.heap.size ≤ k := fun k hk => by
    obtain ⟨j, e1, c', h1, h2, h3⟩ := hk
    by_cases hj : j = id
    · subst hj
      rw [setAt_self] at h1 h3
      injection h1 with h1
      injection h3 with h3
      injection h3 with h3 h3'
      subst h1; subst h3; subst h3'
      exact .inl ⟨i, e, c', hE, h2, hp⟩
    · rw [setAt_ne _ _ hj] at h1 h3
      by_cases hji : j = i
      · subst hji; simp at h1
      · rw [setAt_ne _ _ hji] at h1
        exact .inl ⟨j, e1, c', h1, h2, h3⟩
  have old : ∀ (j : Nat) (e1 : Ent) (g1 c1 : Nat), setAt (setAt E i none) id (some e) j = some e1 → setAt pl id (some (g, c)) j = some (g1, c1) → ∃ j', (j' = if j = id then i else j) ∧ E j' = some e1 ∧ pl j' = some (g1, c1) ∧ (j ≠ id → j ≠ i) := fun j e1 g1 c1 h1 h2 => by
    by_cases hj : j = id
    · subst hj
      rw [setAt_self] at h1 h2
      injection h1 with h1
      injection h2 with h2
      subst h1
      exact ⟨i, by simp, hE, by rw [hp, h2], fun h => absurd rfl h⟩
    · rw [setAt_ne _ _ hj] at h1 h2
      by_cases hji : j = i
      · subst hji; simp at h1
      · rw [setAt_ne _ _ hji] at h1
        exact ⟨j, by simp [hj], h1, h2, fun _ => hji⟩
  refine S.step (fun _ => False) rfl rfl rfl (Nat.le_refl _) (fun k _ _ => rfl) (fun k h => h.elim) hpl hh ⟨fun j e1 he => ?_, fun j j' e1 e2 g1 c1 c2 hi hj pi pj => ?_⟩
  · by_cases hj : j = id
    · subst hj
      rw [setAt_self] at he
      injection he with he
      subst he
      obtain ⟨g', c', cur, T, q1, q2, q3, q4, q5, q6, q7, q8⟩ := (S.eok.ent i e hE).move (E1 := setAt (setAt E i none) j (some e)) (pl1 := setAt pl j (some (g, c))) (W1 := W) (fun _ => False) (fun k _ _ => rfl) (fun k h => h.elim) hpl hh (fun _ _ _ h => h)
      rw [hpl i _ hp] at q1
      injection q1 with q1
      injection q1 with q1 q1'
      subst q1; subst q1'
      exact ⟨g, c, cur, T, by simp, q2, q3, q4, q5, q6, q7, q8⟩
    · rw [setAt_ne _ _ hj] at he
      by_cases hji : j = i
      · subst hji; simp at he
      · rw [setAt_ne _ _ hji] at he
        exact (S.eok.ent j e1 he).move (fun _ => False) (fun k hk _ => rfl) (fun k h => h.elim) hpl hh (fun _ _ _ h => h)
  · obtain ⟨k1, hk1, a1, a2, a3⟩ := old j e1 g1 (c1 + 1) hi pi
    obtain ⟨k2, hk2, b1, b2, b3⟩ := old j' e2 g1 (c2 + 1) hj pj
    have hkk := S.eok.inj k1 k2 e1 e2 g1 c1 c2 a1 b1 a2 b2
    by_cases h1 : j = id <;> by_cases h2 : j' = id
    · rw [h1, h2]
    · rw [if_pos h1] at hk1; rw [if_neg h2] at hk2
      exact absurd (by rw [← hk2, ← hkk, hk1]) (b3 h2)
    · rw [if_neg h1] at hk1; rw [if_pos h2] at hk2
      exact absurd (by rw [← hk1, hkk, hk2]) (a3 h1)
    · rw [if_neg h1] at hk1; rw [if_neg h2] at hk2
      omega

theorem setAt_comm {α : Type} (f : Nat → α) {i j : Nat} (x y : α) (h : i ≠ j) : setAt (setAt f i x) j y = setAt (setAt f j y) i x := by
  funext k
  simp only [setAt]
  split <;> split <;> first | rfl | (exfalso; omega) | skip
  all_goals simp_all

theorem drew_sim (S : Sim w0 P0 E0 pl0 N E pl s a W) : Sim w0 P0 E0 pl0 N E pl s a W.drew := by
  refine S.step (fun _ => False) rfl rfl rfl (Nat.le_refl _) (fun k _ _ => rfl) (fun k h => h.elim) (fun _ _ h => h) (fun k hk => .inl hk) ⟨fun i e he => ?_, S.eok.inj⟩
  exact (S.eok.ent i e he).move (fun _ => False) (fun k hk _ => rfl) (fun k h => h.elim) (fun _ _ h => h) (fun k hk => .inl hk) (fun _ _ _ h => h)

/-- What is appended lies in memory; what it stands for is told. -/
theorem eff_appendX {x y : Operand} {T el : TypeId} {i n g c m sCap : Nat} {e : Ent} {sp : Option Addr} {us : List Value} {new : List V} {bytes : Nat} {t : Tag} (hp : pl i = some (g, c)) (hnc : n ≤ c) (hxv : a.eval x = .slice (some ⟨g, 0, none⟩) n c) (he : E i = some e) (hh : e.hot = true) (hn : e.cells.length = n * e.sz)
    (hyv : a.eval y = .slice sp m sCap) (hul : us.length = m * e.sz) (hcell : 0 < m → ∃ A, sp = some A ∧ ∀ (q : Nat) (u : Value), us[q]? = some u → W.cell? (A.add q) = some u) (hone : ∀ u ∈ us, u.oneCell' = true)
    (hnl : new.length = us.length) (hnew : ∀ (q : Nat) (x : V), new[q]? = some x → ∃ u, us[q]? = some u ∧ RepL W (Qf (FF w0 P0) E pl) pl x u)
    (hu : P.underlying T = some (.slice el)) (hs : szOf P el = some e.sz) (hb : (P.info? el).map (·.bytes) = some bytes) (hz : (zeroOf P el).map List.length = some e.sz) (hm : (n + m) * bytes ≤ 140737488355328) (hm' : n + m ≤ maxLen)
    (ho : o.op = .call { callee := .builtin .append, args := #[x, y], argTypes := #[T, T] }) (S : Sim w0 P0 E0 pl0 N E pl s a W) (hf : pl id = none)
    (hK : ∀ g' c' pl1 W1, Sim w0 P0 E0 pl0 N (setAt (setAt E i none) id (some ⟨e.sz, e.cells ++ new, t⟩)) pl1 s a W1 → (∀ i, i ≠ id → pl i = none → pl1 i = none) → pl1 id = some (g', c') → n + m ≤ c' → (n + m ≤ c → c' = c) → K (a.put o.dst (.slice (some ⟨g', 0, none⟩) (n + m) c')) W1) (htg : ∀ T', t.T = some T' → e.tg.T = some T' ∧ T' = el := by exact Tag.un) : Oper.wp P o a W K Qx := by
  obtain ⟨ti, hti, hsz⟩ := info_of_sz hs
  have hby : ti.bytes = bytes := by simpa [hti] using hb
  obtain ⟨z, hz, hzl⟩ := Option.map_eq_some_iff.1 hz
  obtain ⟨ti', zv, hti', hz1, hz2⟩ := zeroOf_run hz
  rw [hti] at hti'
  injection hti' with hti'
  subst hti'
  obtain ⟨g', c', cur, T0, q1, q2, q3, q4, q5, q6, q7, q8⟩ := S.eok.ent i e he
  rw [hp] at q1
  injection q1 with q1
  injection q1 with q1 q1'
  subst q1; subst q1'
  have hne : i ≠ id := fun h => by rw [h, hf] at hp; cases hp
  have hEE : ∀ w : List V, setAt (setAt (setAt E i (some ⟨e.sz, w, t⟩)) i none) id (some (⟨e.sz, w, t⟩ : Ent)) = setAt (setAt E i none) id (some ⟨e.sz, w, t⟩) := fun w => by
    congr 1
    funext k
    simp only [setAt]
    split <;> rfl
  by_cases h0 : m = 0
  · have hus : us = [] := List.length_eq_zero_iff.1 (by rw [hul, h0, Nat.zero_mul])
    have hnw : new = [] := List.length_eq_zero_iff.1 (by rw [hnl, hus]; rfl)
    subst h0
    have hfc : (Builtin.firstCells ti.size 0 (.slice sp 0 sCap)).run P W = .ok #[] W := by
      cases sp with
      | none => simp [run_firstCells_none]
      | some A => exact run_firstCells_some (P := P) W ti.size 0 A 0 sCap [] (by simp) (fun j u hj => by simp at hj)
    have hrun : (execOp a.eval o).run P W = .ok (.value (.slice (some ⟨g, 0, none⟩) (n + 0) c)) W := by
      simp only [execOp, ho, resolve, invoke, builtin, Sem.run_bind]
      simp [Builtin.append_, run_underlying hu, sizeOf, typeInfo, hti, Builtin.lenOf, hnc, hxv, hyv, hfc, storeCells]
    unfold Oper.wp
    rw [hrun]
    have S2 := (S.retag he t (fun _ => hh) (fun T' h => (htg T' h).1)).rename (id := id) (e := ⟨e.sz, e.cells, t⟩) (setAt_self _ _ _) hp hf
    rw [hEE] at S2
    exact hK g c _ _ (by rw [hnw, List.append_nil]; exact S2) (fun k hk h => by rw [setAt_ne _ _ hk]; exact h) (by simp) hnc (fun _ => rfl)
  obtain ⟨A, rfl, hcl⟩ := hcell (by omega)
  have hnm : n * e.sz + m * e.sz = (n + m) * e.sz := by rw [Nat.add_mul]
  have hncs : n * e.sz ≤ c * e.sz := Nat.mul_le_mul_right _ hnc
  by_cases hroom : n + m ≤ c
  · -- there is room
    have hroom' : (n + m) * e.sz ≤ c * e.sz := Nat.mul_le_mul_right _ hroom
    have hfc : (Builtin.firstCells ti.size m (.slice (some A) m sCap)).run P W = .ok us.toArray W :=
      run_firstCells_some (P := P) W ti.size m A m sCap us (by rw [hul, hsz]) hcl
    obtain ⟨W1, cur1, k1, k2, k3, k4, k5, k6, k7, k8, k9, k10⟩ := run_storeCells_row (P := P) g T0 (0, 0) rfl us (n * e.sz) 0 W cur (q2 (by omega)) (by rw [hul, q4]; omega) hone
    rw [hul] at k9 k10
    have hrun : (execOp a.eval o).run P W = .ok (.value (.slice (some ⟨g, 0, none⟩) (n + m) c)) W1 := by
      have ha : (⟨g, 0, none⟩ : Addr).add (n * e.sz) = ⟨g, n * e.sz, none⟩ := by rw [add_plain]; simp
      have hstore : (storeCells ((⟨g, 0, none⟩ : Addr).add (n * ti.size)) us 0).run P W = .ok () W1 := by rw [hsz, ha]; exact k1
      simp only [execOp, ho, resolve, invoke, builtin, Sem.run_bind]
      simp [Builtin.append_, run_underlying hu, sizeOf, typeInfo, hti, Builtin.lenOf, hroom, hxv, hyv, hfc, hstore]
    have S1 := S.updT he hh hp (by omega) k2 k3 k4 (Nat.le_of_eq k5.symm) (fun k _ hk => k6 k hk) cur1 T0 k7 (e.cells ++ new) t (fun _ => hh) (fun T' h => q7.2 T' (htg T' h).1) (by rw [k8]; exact q4) (by rw [k8, List.length_append, hnl, hul, hn, q4]; omega) (fun q x hq => by
      by_cases hqn : q < n * e.sz
      · rw [List.getElem?_append_left (by omega)] at hq
        rw [k10 q (.inl (by omega))]
        exact q8 q x hq
      · rw [List.getElem?_append_right (by omega), hn] at hq
        obtain ⟨u, hu1, hu3⟩ := hnew (q - n * e.sz) x hq
        have hql := (List.getElem?_eq_some_iff.1 hu1).1
        rw [k9 q (by omega) (by omega)]
        exact ⟨u, by simpa using hu1, hone u (List.mem_of_getElem? hu1), hu3⟩)
    have S2 := S1.rename (id := id) (e := ⟨e.sz, e.cells ++ new, t⟩) (setAt_self _ _ _) hp hf
    rw [hEE] at S2
    unfold Oper.wp
    rw [hrun]
    exact hK g c _ _ S2 (fun k hk h => by rw [setAt_ne _ _ hk]; exact h) (by simp) hroom (fun _ => rfl)
  · -- a new row
    have hgr := run_append_grow (P := P) W T o.type el ti zv hu hti hz1 ⟨g, 0, none⟩ n c (cur.toList.take (n * e.sz)) (by rw [hsz]; simp; rw [q4]; omega) (fun q u hq => by
        have hql := (List.getElem?_eq_some_iff.1 hq).1
        simp at hql
        rw [List.getElem?_take_of_lt (by omega), Array.getElem?_toList] at hq
        rw [add_plain]
        have hc0 : 0 < c := by
          cases c with
          | zero => rw [Nat.zero_mul] at q4; omega
          | succ c => omega
        simp [World.cell?, q2 hc0, hq])
      A m sCap us (by rw [hul, hsz]) hcl (by omega) (by simp only [maxLen] at hm'; omega) (growslice_fits (by omega) (by rw [hby]; exact hm))
    have hge := grownCap_ge W (n + m) c el
    have hgm := grownCap_le_maxLen W (n + m) c el hm'
    have hrun : (execOp a.eval o).run P W = .ok (.value (.slice (some ⟨W.heap.size, 0, none⟩) (n + m) (grownCap W (n + m) c el))) (W.drew.alloc (.cells ((cur.toList.take (n * e.sz)).toArray ++ us.toArray ++ Builtin.zeroCells zv.cells (grownCap W (n + m) c el - (n + m))) el)) := by
      simp only [execOp, ho, resolve, invoke, builtin, Sem.run_bind]
      simp [hxv, hyv, hgr]
    have Sd := drew_sim S
    obtain ⟨zr1, zr2⟩ := zeroBs_rep (W := W) (Q := fun _ => True) hz2
    have hzs : zv.cells.size = e.sz := by
      have : z.length = zv.cells.size := by simpa using zr1
      omega
    have hmul : (n + m) * e.sz ≤ grownCap W (n + m) c el * e.sz := Nat.mul_le_mul_right _ hge
    have hlt : (cur.toList.take (n * e.sz)).length = n * e.sz := by simp; rw [q4]; omega
    have hsize : ((cur.toList.take (n * e.sz)).toArray ++ us.toArray ++ Builtin.zeroCells zv.cells (grownCap W (n + m) c el - (n + m))).size = grownCap W (n + m) c el * e.sz := by
      simp only [Array.size_append, List.size_toArray, size_zeroCells, hul, hzs, hlt]
      rw [hnm, ← Nat.add_mul]
      congr 1; omega
    have hotl : ∀ k, Hot (setAt E i none) pl k → Hot E pl k := fun k hh => by
      obtain ⟨j', e', c', h1, h2, h3⟩ := hh
      by_cases hj' : j' = i
      · subst hj'; simp at h1
      · rw [setAt_ne _ _ hj'] at h1; exact ⟨j', e', c', h1, h2, h3⟩
    have S1 := (Sd.lose i).new (id := id) hf ((cur.toList.take (n * e.sz)).toArray ++ us.toArray ++ Builtin.zeroCells zv.cells (grownCap W (n + m) c el - (n + m))) el ⟨e.sz, e.cells ++ new, t⟩ (grownCap W (n + m) c el)
      hsize (by rw [hsize, List.length_append, hnl, hul, hn, hnm]; exact hmul) hgm q7.1 (fun q x hq => by
        by_cases hqn : q < n * e.sz
        · simp only at hq
          rw [List.getElem?_append_left (by omega)] at hq
          obtain ⟨u, hu, hu1, hur⟩ := q8 q x hq
          refine ⟨u, ?_, hu1, hur.move (fun _ _ _ => rfl) (fun k hk _ => ⟨hk.1, fun hh => hk.2 (hotl k hh)⟩) (fun _ _ h => h)⟩
          rw [Array.append_assoc, Array.getElem?_append_left (by rw [List.size_toArray, hlt]; exact hqn), List.getElem?_toArray, List.getElem?_take_of_lt hqn, Array.getElem?_toList]
          exact hu
        · simp only at hq
          rw [List.getElem?_append_right (by omega), hn] at hq
          obtain ⟨u, hu1, hu3⟩ := hnew (q - n * e.sz) x hq
          have hql := (List.getElem?_eq_some_iff.1 hu1).1
          refine ⟨u, ?_, hone u (List.mem_of_getElem? hu1), hu3.move (fun _ _ _ => rfl) (fun k hk _ => ⟨hk.1, fun hh => hk.2 (hotl k hh)⟩) (fun _ _ h => h)⟩
          rw [Array.getElem?_append_left (by simp only [Array.size_append, List.size_toArray, hlt, hul]; omega), Array.getElem?_append_right (by rw [List.size_toArray, hlt]; omega), List.size_toArray, hlt, List.getElem?_toArray]
          exact hu1) (fun T' h => (htg T' h).2.symm)
    unfold Oper.wp
    rw [hrun]
    exact hK _ _ _ _ S1 (fun k hk h => by rw [setAt_ne _ _ hk]; exact h) (by simp) hge (fun h => absurd h hroom)
/-- A source told by its contents. -/
theorem src_lits {y : Operand} {v : V} {l : List B} (S : Sim w0 P0 E0 pl0 N E pl s a W) (hy : ev s y = some v) (hr : res E v = some (.sl 1 l)) (hlit : l.all B.isLit = true) :
    ∃ (sp : Option Addr) (sCap : Nat) (us : List Value), a.eval y = .slice sp l.length sCap ∧ us.length = l.length * 1 ∧ (0 < l.length → ∃ A, sp = some A ∧ ∀ (q : Nat) (u : Value), us[q]? = some u → W.cell? (A.add q) = some u) ∧ (∀ u ∈ us, u.oneCell' = true) ∧
      ∀ (q : Nat) (x : V), (l.map V.b)[q]? = some x → ∃ u, us[q]? = some u ∧ ∀ W2 Q2 pl2, RepL W2 Q2 pl2 x u := by
  have hv : ∀ (j : Nat) (x : B), l[j]? = some x → ∀ u, RepB W (FF w0 P0) x u → ∀ W2 Q2, RepB W2 Q2 x u := fun j x hj u hu W2 Q2 => by
    have := List.all_eq_true.1 hlit x (List.mem_of_getElem? hj)
    cases x with
    | lit v => cases hu with | lit _ h => exact .lit _ h
    | nil => cases this
    | sl a b => cases this
    | agg b => cases this
    | tup b => cases this
  have hrep := rep_src S hy hr
  generalize a.eval y = q at hrep
  cases hrep with
  | nilsl _ hs0 => exact ⟨none, 0, [], rfl, rfl, fun h => by simp at h, fun u hu => by simp at hu, fun q x hq => by simp at hq⟩
  | sl A m c _ _ f hl hc hm hs0 hqq hcell hone hrr =>
    have hml : m = l.length := by omega
    subst hml
    have hlen : ((List.range l.length).map f).length = l.length := by simp
    refine ⟨some A, c, (List.range l.length).map f, rfl, by rw [hlen, Nat.mul_one], fun _ => ⟨A, rfl, fun q u hq => ?_⟩, fun u hu => ?_, fun q x hq => ?_⟩
    · have hjl := (List.getElem?_eq_some_iff.1 hq).1
      rw [hlen] at hjl
      simp [hjl] at hq
      rw [hcell q hjl, hq]
    · obtain ⟨q, hq⟩ := List.mem_iff_getElem?.1 hu
      have hjl := (List.getElem?_eq_some_iff.1 hq).1
      rw [hlen] at hjl
      simp [hjl] at hq
      rw [← hq]; exact hone q hjl
    · simp only [List.getElem?_map, Option.map_eq_some_iff] at hq
      obtain ⟨y, hy, rfl⟩ := hq
      have hjl := (List.getElem?_eq_some_iff.1 hy).1
      exact ⟨f q, by simp [hjl], fun W2 Q2 pl2 => hv q y hy _ (hrr q y hy) W2 Q2⟩
theorem eff_append {x y : Operand} {T el : TypeId} {i n : Nat} {e : Ent} {v : V} {l : List B} {bytes : Nat} (hx : ev s x = some (.own i n)) (he : E i = some e) (hh : e.hot = true) (h1 : e.sz = 1) (hn : e.cells.length = n) (hy : ev s y = some v)
    (hr : res E v = some (.sl 1 l)) (hu : P.underlying T = some (.slice el)) (hs : szOf P el = some 1) (hb : (P.info? el).map (·.bytes) = some bytes) (hz : (zeroOf P el).map List.length = some 1) (hm : (n + l.length) * bytes ≤ 140737488355328) (hm' : n + l.length ≤ maxLen)
    (hlit : l.all B.isLit = true) (ho : o.op = .call { callee := .builtin .append, args := #[x, y], argTypes := #[T, T] }) (S : Sim w0 P0 E0 pl0 N E pl s a W) (hf : pl id = none)
    (hK : Next w0 P0 E0 pl0 pl N id s a o K (setAt (setAt E i none) id (some ⟨1, e.cells ++ l.map .b, true⟩)) (.own id (n + l.length))) : Oper.wp P o a W K Qx := by
  obtain ⟨g, c, hp, hnc, hxv⟩ := S.ev hx
  obtain ⟨sp, sCap, us, hyv, hul, hcell, hone, hnew⟩ := src_lits S hy hr hlit
  rw [← h1] at hul hs hz
  refine eff_appendX (new := l.map V.b) hp hnc hxv he hh (by rw [hn, h1, Nat.mul_one]) hyv hul hcell hone (by rw [hul, h1]; simp) (fun q x hq => let ⟨u, e1, e2⟩ := hnew q x hq; ⟨u, e1, e2 _ _ _⟩) hu hs hb hz hm hm' ho S hf (fun g' c' pl1 W1 S1 h2 h3 h4 h5 => ?_)
  rw [h1] at S1
  exact hK _ pl1 W1 S1 h2 ⟨g', c', h3, h4, rfl⟩

theorem eff_assignNil (ho : o.op = .assign (.const (.slice none 0 0))) (S : Sim w0 P0 E0 pl0 N E pl s a W) (hf : pl id = none) (hK : Next w0 P0 E0 pl0 pl N id s a o K E (.b .nil)) : Oper.wp P o a W K Qx := by
  have hr : Rep W (Qf (FF w0 P0) E pl) pl (.b .nil) (.slice none 0 0) := RepB.nil
  refine wp_val (u := .slice none 0 0) S hf ?_ hr hK
  simp [execOp, ho, Act.eval]

theorem eff_appendNilX {x y : Operand} {T el : TypeId} {m sCap sz : Nat} {sp : Option Addr} {us : List Value} {new : List V} {bytes : Nat} {t : Tag} (hxv : a.eval x = .slice none 0 0) (hsz0 : 0 < sz)
    (hyv : a.eval y = .slice sp m sCap) (hul : us.length = m * sz) (hcell : 0 < m → ∃ A, sp = some A ∧ ∀ (q : Nat) (u : Value), us[q]? = some u → W.cell? (A.add q) = some u) (hone : ∀ u ∈ us, u.oneCell' = true) (h0 : 0 < m)
    (hnl : new.length = us.length) (hnew : ∀ (q : Nat) (x : V), new[q]? = some x → ∃ u, us[q]? = some u ∧ RepL W (Qf (FF w0 P0) E pl) pl x u)
    (hu : P.underlying T = some (.slice el)) (hs : szOf P el = some sz) (hb : (P.info? el).map (·.bytes) = some bytes) (hz : (zeroOf P el).map List.length = some sz) (hm : m * bytes ≤ 140737488355328) (hm' : m ≤ maxLen)
    (ho : o.op = .call { callee := .builtin .append, args := #[x, y], argTypes := #[T, T] }) (S : Sim w0 P0 E0 pl0 N E pl s a W) (hf : pl id = none)
    (hK : ∀ g' c' pl1 W1, Sim w0 P0 E0 pl0 N (setAt E id (some ⟨sz, new, t⟩)) pl1 s a W1 → (∀ i, i ≠ id → pl i = none → pl1 i = none) → pl1 id = some (g', c') → m ≤ c' → K (a.put o.dst (.slice (some ⟨g', 0, none⟩) m c')) W1) (htg : t.Is el := by exact Tag.is_true) : Oper.wp P o a W K Qx := by
  obtain ⟨ti, hti, hsz⟩ := info_of_sz hs
  have hby : ti.bytes = bytes := by simpa [hti] using hb
  obtain ⟨z, hz, hzl⟩ := Option.map_eq_some_iff.1 hz
  obtain ⟨ti', zv, hti', hz1, hz2⟩ := zeroOf_run hz
  rw [hti] at hti'
  injection hti' with hti'
  subst hti'
  obtain ⟨A, rfl, hcl⟩ := hcell h0
  have hgr := run_append_nil (P := P) W T o.type el ti zv hu hti hz1 A m sCap us (by rw [hul, hsz]) hcl h0 (by simp only [maxLen] at hm'; omega) (by rw [hby]; omega)
  have hge := grownCap_ge W m 0 el
  have hgm := grownCap_le_maxLen W m 0 el hm'
  have hrun : (execOp a.eval o).run P W = .ok (.value (.slice (some ⟨W.heap.size, 0, none⟩) m (grownCap W m 0 el))) (W.drew.alloc (.cells (us.toArray ++ Builtin.zeroCells zv.cells (grownCap W m 0 el - m)) el)) := by
    simp only [execOp, ho, resolve, invoke, builtin, Sem.run_bind]
    simp [hxv, hyv, hgr]
  have Sd := drew_sim S
  obtain ⟨zr1, zr2⟩ := zeroBs_rep (W := W) (Q := fun _ => True) hz2
  have hzs : zv.cells.size = sz := by
    have : z.length = zv.cells.size := by simpa using zr1
    omega
  have hsize : (us.toArray ++ Builtin.zeroCells zv.cells (grownCap W m 0 el - m)).size = grownCap W m 0 el * sz := by
    simp only [Array.size_append, List.size_toArray, size_zeroCells, hul, hzs]
    rw [← Nat.add_mul]
    congr 1; omega
  have hmul : m * sz ≤ grownCap W m 0 el * sz := Nat.mul_le_mul_right _ hge
  have S1 := Sd.new (id := id) hf (us.toArray ++ Builtin.zeroCells zv.cells (grownCap W m 0 el - m)) el ⟨sz, new, t⟩ (grownCap W m 0 el)
    hsize (by rw [hsize, hnl, hul]; exact hmul) hgm hsz0 (fun q x hq => by
      obtain ⟨u, hu, hr⟩ := hnew q x hq
      have hlt : q < us.length := (List.getElem?_eq_some_iff.1 hu).1
      refine ⟨u, ?_, hone u (List.mem_of_getElem? hu), hr.move (fun _ _ _ => rfl) (fun _ h _ => h) (fun _ _ h => h)⟩
      rw [Array.getElem?_append_left (by rw [List.size_toArray]; exact hlt), List.getElem?_toArray]
      exact hu) htg
  unfold Oper.wp
  rw [hrun]
  exact hK _ _ _ _ S1 (fun k hk h => by rw [setAt_ne _ _ hk]; exact h) (by simp) hge
theorem eff_appendNilV {x y : Operand} {T el : TypeId} {v : V} {l : List B} {bytes : Nat} (hy : ev s y = some v)
    (hr : res E v = some (.sl 1 l)) (h0 : l ≠ []) (hu : P.underlying T = some (.slice el)) (hs : szOf P el = some 1) (hb : (P.info? el).map (·.bytes) = some bytes) (hz : (zeroOf P el).map List.length = some 1) (hm : l.length * bytes ≤ 140737488355328) (hm' : l.length ≤ maxLen)
    (hlit : l.all B.isLit = true) (ho : o.op = .call { callee := .builtin .append, args := #[x, y], argTypes := #[T, T] }) (S : Sim w0 P0 E0 pl0 N E pl s a W) (hxv : a.eval x = .slice none 0 0) (hf : pl id = none)
    (hK : Next w0 P0 E0 pl0 pl N id s a o K (setAt E id (some ⟨1, l.map .b, true⟩)) (.own id l.length)) : Oper.wp P o a W K Qx := by
  obtain ⟨sp, sCap, us, hyv, hul, hcell, hone, hnew⟩ := src_lits S hy hr hlit
  exact eff_appendNilX (new := l.map V.b) hxv (by decide) hyv hul hcell hone (List.length_pos_iff.2 h0) (by rw [hul]; simp) (fun q x hq => let ⟨u, e1, e2⟩ := hnew q x hq; ⟨u, e1, e2 _ _ _⟩) hu hs hb hz hm hm' ho S hf (fun g' c' pl1 W1 S1 h2 h3 h4 => hK _ pl1 W1 S1 h2 ⟨g', c', h3, h4, rfl⟩)
theorem eff_appendNil {x y : Operand} {T el : TypeId} {v : V} {l : List B} {bytes : Nat} (hx : ev s x = some (.b .nil)) (hy : ev s y = some v)
    (hr : res E v = some (.sl 1 l)) (h0 : l ≠ []) (hu : P.underlying T = some (.slice el)) (hs : szOf P el = some 1) (hb : (P.info? el).map (·.bytes) = some bytes) (hz : (zeroOf P el).map List.length = some 1) (hm : l.length * bytes ≤ 140737488355328) (hm' : l.length ≤ maxLen)
    (hlit : l.all B.isLit = true) (ho : o.op = .call { callee := .builtin .append, args := #[x, y], argTypes := #[T, T] }) (S : Sim w0 P0 E0 pl0 N E pl s a W) (hf : pl id = none)
    (hK : Next w0 P0 E0 pl0 pl N id s a o K (setAt E id (some ⟨1, l.map .b, true⟩)) (.own id l.length)) : Oper.wp P o a W K Qx := by
  have hxv : a.eval x = .slice none 0 0 := by
    have h : RepB W (Qf (FF w0 P0) E pl) .nil (a.eval x) := S.ev hx
    generalize a.eval x = q at h
    cases h; rfl
  exact eff_appendNilV hy hr h0 hu hs hb hz hm hm' hlit ho S hxv hf hK

theorem lit_rep {W W' : World} {Q Q' : Nat → Prop} {x : B} {u : Value} (h : x.isLit = true) (hr : RepB W Q x u) : RepB W' Q' x u := by
  cases x with
  | lit v => cases hr with | lit _ h => exact .lit _ h
  | nil => cases h
  | sl a b => cases h
  | agg b => cases h
  | tup b => cases h

theorem eff_callM {f : FuncId} {x : Operand} {rest : List Operand} {args : Array Operand} {ts : Array TypeId} {i n : Nat} {e : Ent} {L : List B} {vs : List V} {xs : List B} {r : B} {L' : List B} (ha : args.toList = x :: rest) (hx : ev s x = some (.own i n))
    (he : E i = some e) (hh : e.hot = true) (h1 : e.sz = 1) (hL : e.cells = L.map .b) (hn : L.length = n) (hlit : L.all B.isLit = true) (hlit' : L'.all B.isLit = true) (h : evs s rest = some vs) (hr : ress E vs = some xs) (hni : i ∉ vs.flatMap V.names) (hv : VM P f L xs r L')
    (ho : o.op = .call { callee := .value (.func f), args := args, argTypes := ts }) (S : Sim w0 P0 E0 pl0 N E pl s a W) (hf : pl id = none)
    (hK : Next w0 P0 E0 pl0 pl N id s a o K (setAt E i (some ⟨e.sz, L'.map .b, true⟩)) (.b r)) : Oper.wp P o a W K Qx := by
  obtain ⟨v1, v2, v3, v4⟩ := hv
  obtain ⟨g, c, hp, hnc, hxv⟩ := S.ev hx
  obtain ⟨g', c', cur, T, q1, q2, q3, q4, q5, q6, q7, q8⟩ := S.eok.ent i e he
  rw [hp] at q1
  injection q1 with q1
  injection q1 with q1 q1'
  subst q1; subst q1'
  have hot : 0 < c → Hot E pl g := fun h0 => by
    cases c with
    | zero => omega
    | succ c => exact ⟨i, e, c, he, hh, hp⟩
  obtain ⟨e1, e2⟩ := evs_get h
  obtain ⟨x1, x2⟩ := ress_get hr
  have hargs : args = (x :: rest).toArray := by rw [← ha]
  have hmap : args.map a.eval = ((x :: rest).map a.eval).toArray := by rw [hargs]; simp
  unfold Oper.wp
  rw [run_enter v1 ho, Oper.upon_enter]
  refine Calls.mono (v4 W (fun k => 0 < c → k ≠ g) (args.map a.eval) g c cur T (by rw [hmap]; simp; omega) (by rw [hmap]; simp [hxv, hn]) (by omega) q6 q2 (by rw [q4, h1]; omega) (fun h0 h => h h0 rfl) (fun j y hj => ?_) (fun j y hj => ?_)) ?_
  · obtain ⟨u, hu, hu1, hru⟩ := q8 j (.b y) (by rw [hL]; simp [hj])
    exact ⟨u, hu, hu1, lit_rep (List.all_eq_true.1 hlit y (List.mem_of_getElem? hj)) (show RepB W _ y u from hru)⟩
  · obtain ⟨v, hv1, hv2⟩ := x2 j y hj
    obtain ⟨z, hz1, hz2⟩ := e2 j v hv1
    refine ⟨a.eval z, by rw [hmap]; simp [hz1], ?_⟩
    refine rep_res S.eok hv2 (S.ev hz2) (fun k hk h0 hkg => hk.2 (hkg ▸ hot h0)) (fun i' hi' e' g2 c2 he' hp' hF h0 hg2 => hni ?_)
    subst hg2
    obtain ⟨c, rfl⟩ : ∃ c1, c = c1 + 1 := ⟨c - 1, by omega⟩
    have := S.eok.inj i' i e' e g2 c2 c he' he hp' hp
    subst this
    exact List.mem_flatMap.2 ⟨v, List.mem_of_getElem? hv1, hi'⟩
  · rintro e' W1 ⟨u, rfl, hu, ⟨cur', T', k1, k2, k3⟩, k4, k5, k6, k7, k8⟩
    by_cases hc0 : ¬ 0 < c
    · have hL0 : L = [] := List.length_eq_zero_iff.1 (by omega)
      have hL1 : L' = [] := List.length_eq_zero_iff.1 (by rw [v2, hL0]; rfl)
      have hEE : L'.map V.b = e.cells := by rw [hL, hL0, hL1]
      rw [hEE] at hK
      have hs : ∀ k, k < W.heap.size → ¬ False → W1.heap[k]? = W.heap[k]? := fun k hk _ => k8 k hk (fun h => absurd h hc0)
      have S0 : Sim w0 P0 E0 pl0 N E pl s a W1 := S.step (fun _ => False) k4 k5 k6 k7 hs (fun k h => h.elim) (fun _ _ h => h) (fun k hk => .inl hk) ⟨fun i e he => (S.eok.ent i e he).move (fun _ => False) hs (fun k h => h.elim) (fun _ _ h => h) (fun k hk => .inl hk) (fun _ _ _ h => h), S.eok.inj⟩
      have S1 := S0.retag he true (fun _ => hh) (fun _ h => by cases h)
      exact hK u pl W1 S1 (fun i _ h => h) (show RepB W1 _ r u from flat_rep v3 hu)
    have hc0 : 0 < c := Classical.not_not.1 hc0
    have S1 := S.updT (W1 := W1) he hh hp hc0 k4 k5 k6 k7 (fun k hk hne => k8 k hk (fun _ => hne)) cur' T' (k1 hc0) (L'.map .b) true (fun _ => hh) Tag.is_none (by rw [k2]; exact q4) (by rw [k2, List.length_map, v2, q4, h1]; omega) (fun j y hj => by
      simp only [List.getElem?_map, Option.map_eq_some_iff] at hj
      obtain ⟨z, hz, rfl⟩ := hj
      obtain ⟨u, hu, hu1, hru⟩ := k3 j z hz
      exact ⟨u, hu, hu1, show RepB W _ z u from lit_rep (List.all_eq_true.1 hlit' z (List.mem_of_getElem? hz)) hru⟩)
    exact hK u pl W1 S1 (fun i _ h => h) (show RepB W1 _ r u from flat_rep v3 hu)
end
end Go.VL

/- A small program logic over the translated Go code, further part: calls that are lent entries of the table. -/
set_option linter.unusedVariables false
set_option linter.unusedSimpArgs false
namespace Go.VL
open Go.RowKit

section
variable {P : Program} {w0 W W1 : World} {P0 F : Nat → Prop} {E0 E E1 : Env} {pl0 pl pl1 : Plan} {N : Frm} {id : Nat} {s : Slots} {a : Act} {o : Oper} {K : Act → World → Prop} {Qx : Exit → Act → World → Prop}

/-- Down: under a callee's numbers. -/
theorem RepP.less {W : World} {Q Q1 : Nat → Prop} {ρ : Nat → Nat} {x : V} {u : Value} (h : RepP W Q pl (x.ren0 ρ) u) (hQ : ∀ k, Q k → Q1 k) (hp : ∀ i ∈ x.all0, pl1 i = pl (ρ i)) : RepP W Q1 pl1 x u := by
  cases x with
  | win i off n => exact h.elim
  | cut sz l => exact h.elim
  | row i n c => exact h.elim
  | b x => exact RepB.move h (fun _ _ _ => rfl) (fun k hk _ => hQ k hk)
  | own i n => obtain ⟨g, c, h1, h2, h3⟩ := h; exact ⟨g, c, by rw [hp i (by simp [V.all0])]; exact h1, h2, h3⟩
  | ptr i off => obtain ⟨g, c, h1, h3⟩ := h; exact ⟨g, c, by rw [hp i (by simp [V.all0])]; exact h1, h3⟩
  | rd l => exact h.elim
  | agg l => exact h.elim
  | fn f l => exact h.elim
  | tup l => exact h.elim
theorem RepL.less {W : World} {Q Q1 : Nat → Prop} {ρ : Nat → Nat} {x : V} {u : Value} (h : RepL W Q pl (x.ren1 ρ) u) (hQ : ∀ k, Q k → Q1 k) (hp : ∀ i ∈ x.all1, pl1 i = pl (ρ i)) : RepL W Q1 pl1 x u := by
  cases x with
  | win i off n => obtain ⟨g, c, h1, h2, h3⟩ := h; exact ⟨g, c, by rw [hp i (by simp [V.all1, V.all0])]; exact h1, h2, h3⟩
  | cut sz l => exact ⟨RepB.move h.1 (fun _ _ _ => rfl) (fun k hk _ => hQ k hk), h.2⟩
  | row i n c =>
    rcases h with h | ⟨g, c', h1, h2, h3, h4⟩
    · exact .inl h
    · exact .inr ⟨g, c', by rw [hp i (by simp [V.all1, V.all0])]; exact h1, h2, h3, h4⟩
  | b x => exact RepB.move h (fun _ _ _ => rfl) (fun k hk _ => hQ k hk)
  | own i n => obtain ⟨g, c, h1, h2, h3⟩ := h; exact ⟨g, c, by rw [hp i (by simp [V.all1, V.all0])]; exact h1, h2, h3⟩
  | ptr i off => obtain ⟨g, c, h1, h3⟩ := h; exact ⟨g, c, by rw [hp i (by simp [V.all1, V.all0])]; exact h1, h3⟩
  | rd l =>
    obtain ⟨A, f, hv, hq, hcell, h1, hr⟩ := h
    exact ⟨A, f, hv, fun h0 => hQ _ (hq h0), hcell, h1, fun j x hj => (hr j x hj).move (fun _ _ _ => rfl) (fun k hk _ => hQ k hk)⟩
  | agg l => exact h.elim
  | tup l => exact h.elim
  | fn f l =>
    obtain ⟨arr, h1, h2, h3⟩ := h
    refine ⟨arr, h1, by simpa using h2, fun j x hj => ?_⟩
    obtain ⟨y, hy, hr⟩ := h3 j (x.ren0 ρ) (by rw [List.getElem?_map, hj]; rfl)
    refine ⟨y, hy, hr.less hQ (fun i hi => hp i ?_)⟩
    simp only [V.all1, List.mem_flatMap]
    exact ⟨x, List.mem_of_getElem? hj, hi⟩
theorem RepA.less {W : World} {Q Q1 : Nat → Prop} {ρ : Nat → Nat} {x : V} {u : Value} (h : RepA W Q pl (x.ren2 ρ) u) (hQ : ∀ k, Q k → Q1 k) (hp : ∀ i ∈ x.all2, pl1 i = pl (ρ i)) : RepA W Q1 pl1 x u := by
  cases x with
  | win i off n => exact RepL.less (W := W) (ρ := ρ) (x := .win i off n) h hQ hp
  | cut sz l => exact RepL.less (W := W) (ρ := ρ) (x := .cut sz l) h hQ hp
  | row i n c => exact RepL.less (W := W) (ρ := ρ) (x := .row i n c) h hQ hp
  | agg l =>
    obtain ⟨b, h1, h2, h3⟩ := h
    refine ⟨b, h1, by simpa using h2, fun j x hj => ?_⟩
    obtain ⟨y, hy, hy1, hr⟩ := h3 j (x.ren1 ρ) (by rw [List.getElem?_map, hj]; rfl)
    refine ⟨y, hy, hy1, hr.less hQ (fun i hi => hp i ?_)⟩
    simp only [V.all2, List.mem_flatMap]
    exact ⟨x, List.mem_of_getElem? hj, hi⟩
  | b x => exact RepL.less (W := W) (ρ := ρ) (x := .b x) h hQ hp
  | own i n => exact RepL.less (W := W) (ρ := ρ) (x := .own i n) h hQ hp
  | ptr i off => exact RepL.less (W := W) (ρ := ρ) (x := .ptr i off) h hQ hp
  | rd l => exact RepL.less (W := W) (ρ := ρ) (x := .rd l) h hQ hp
  | fn f l => exact RepL.less (W := W) (ρ := ρ) (x := .fn f l) h hQ hp
  | tup l => exact h.elim
theorem Rep.less {W : World} {Q Q1 : Nat → Prop} {ρ : Nat → Nat} {x : V} {u : Value} (h : Rep W Q pl (x.ren ρ) u) (hQ : ∀ k, Q k → Q1 k) (hp : ∀ i ∈ x.all, pl1 i = pl (ρ i)) : Rep W Q1 pl1 x u := by
  cases x with
  | win i off n => exact RepA.less (W := W) (ρ := ρ) (x := .win i off n) h hQ hp
  | cut sz l => exact RepA.less (W := W) (ρ := ρ) (x := .cut sz l) h hQ hp
  | row i n c => exact RepA.less (W := W) (ρ := ρ) (x := .row i n c) h hQ hp
  | tup l =>
    obtain ⟨b, h1, h2, h3⟩ := h
    refine ⟨b, h1, by simpa using h2, fun j x hj => ?_⟩
    obtain ⟨y, hy, hr⟩ := h3 j (x.ren2 ρ) (by rw [List.getElem?_map, hj]; rfl)
    refine ⟨y, hy, hr.less hQ (fun i hi => hp i ?_)⟩
    simp only [V.all, List.mem_flatMap]
    exact ⟨x, List.mem_of_getElem? hj, hi⟩
  | agg l => exact RepA.less (W := W) (ρ := ρ) (x := .agg l) h hQ hp
  | b x => exact RepA.less (W := W) (ρ := ρ) (x := .b x) h hQ hp
  | own i n => exact RepA.less (W := W) (ρ := ρ) (x := .own i n) h hQ hp
  | ptr i off => exact RepA.less (W := W) (ρ := ρ) (x := .ptr i off) h hQ hp
  | rd l => exact RepA.less (W := W) (ρ := ρ) (x := .rd l) h hQ hp
  | fn f l => exact RepA.less (W := W) (ρ := ρ) (x := .fn f l) h hQ hp

/-- Up: under the caller's numbers. -/
theorem RepP.more {W : World} {Q Q1 : Nat → Prop} {ρ : Nat → Nat} {x : V} {u : Value} (h : RepP W Q pl x u) (hQ : ∀ k, Q k → Q1 k) (hp : ∀ i p, pl i = some p → pl1 (ρ i) = some p) : RepP W Q1 pl1 (x.ren0 ρ) u := by
  cases x with
  | win i off n => exact h.elim
  | cut sz l => exact h.elim
  | row i n c => exact h.elim
  | b x => exact RepB.move h (fun _ _ _ => rfl) (fun k hk _ => hQ k hk)
  | own i n => obtain ⟨g, c, h1, h2, h3⟩ := h; exact ⟨g, c, hp _ _ h1, h2, h3⟩
  | ptr i off => obtain ⟨g, c, h1, h3⟩ := h; exact ⟨g, c, hp _ _ h1, h3⟩
  | rd l => exact h.elim
  | agg l => exact h.elim
  | fn f l => exact h.elim
  | tup l => exact h.elim
theorem RepL.more {W : World} {Q Q1 : Nat → Prop} {ρ : Nat → Nat} {x : V} {u : Value} (h : RepL W Q pl x u) (hQ : ∀ k, Q k → Q1 k) (hp : ∀ i p, pl i = some p → pl1 (ρ i) = some p) : RepL W Q1 pl1 (x.ren1 ρ) u := by
  cases x with
  | win i off n => obtain ⟨g, c, h1, h2, h3⟩ := h; exact ⟨g, c, hp _ _ h1, h2, h3⟩
  | cut sz l => exact ⟨RepB.move h.1 (fun _ _ _ => rfl) (fun k hk _ => hQ k hk), h.2⟩
  | row i n c =>
    rcases h with h | ⟨g, c', h1, h2, h3, h4⟩
    · exact .inl h
    · exact .inr ⟨g, c', hp _ _ h1, h2, h3, h4⟩
  | b x => exact RepB.move h (fun _ _ _ => rfl) (fun k hk _ => hQ k hk)
  | own i n => obtain ⟨g, c, h1, h2, h3⟩ := h; exact ⟨g, c, hp _ _ h1, h2, h3⟩
  | ptr i off => obtain ⟨g, c, h1, h3⟩ := h; exact ⟨g, c, hp _ _ h1, h3⟩
  | rd l =>
    obtain ⟨A, f, hv, hq, hcell, h1, hr⟩ := h
    exact ⟨A, f, hv, fun h0 => hQ _ (hq h0), hcell, h1, fun j x hj => (hr j x hj).move (fun _ _ _ => rfl) (fun k hk _ => hQ k hk)⟩
  | agg l => exact h.elim
  | tup l => exact h.elim
  | fn f l =>
    obtain ⟨arr, h1, h2, h3⟩ := h
    refine ⟨arr, h1, by simpa using h2, fun j y hj => ?_⟩
    rw [List.getElem?_map] at hj
    obtain ⟨x, hx, rfl⟩ := Option.map_eq_some_iff.1 hj
    obtain ⟨y, hy, hr⟩ := h3 j x hx
    exact ⟨y, hy, hr.more hQ hp⟩
theorem RepA.more {W : World} {Q Q1 : Nat → Prop} {ρ : Nat → Nat} {x : V} {u : Value} (h : RepA W Q pl x u) (hQ : ∀ k, Q k → Q1 k) (hp : ∀ i p, pl i = some p → pl1 (ρ i) = some p) : RepA W Q1 pl1 (x.ren2 ρ) u := by
  cases x with
  | win i off n => exact RepL.more (W := W) (ρ := ρ) (x := .win i off n) h hQ hp
  | cut sz l => exact RepL.more (W := W) (ρ := ρ) (x := .cut sz l) h hQ hp
  | row i n c => exact RepL.more (W := W) (ρ := ρ) (x := .row i n c) h hQ hp
  | agg l =>
    obtain ⟨b, h1, h2, h3⟩ := h
    refine ⟨b, h1, by simpa using h2, fun j y hj => ?_⟩
    rw [List.getElem?_map] at hj
    obtain ⟨x, hx, rfl⟩ := Option.map_eq_some_iff.1 hj
    obtain ⟨y, hy, hy1, hr⟩ := h3 j x hx
    exact ⟨y, hy, hy1, hr.more hQ hp⟩
  | b x => exact RepL.more (W := W) (ρ := ρ) (x := .b x) h hQ hp
  | own i n => exact RepL.more (W := W) (ρ := ρ) (x := .own i n) h hQ hp
  | ptr i off => exact RepL.more (W := W) (ρ := ρ) (x := .ptr i off) h hQ hp
  | rd l => exact RepL.more (W := W) (ρ := ρ) (x := .rd l) h hQ hp
  | fn f l => exact RepL.more (W := W) (ρ := ρ) (x := .fn f l) h hQ hp
  | tup l => exact h.elim
theorem Rep.more {W : World} {Q Q1 : Nat → Prop} {ρ : Nat → Nat} {x : V} {u : Value} (h : Rep W Q pl x u) (hQ : ∀ k, Q k → Q1 k) (hp : ∀ i p, pl i = some p → pl1 (ρ i) = some p) : Rep W Q1 pl1 (x.ren ρ) u := by
  cases x with
  | win i off n => exact RepA.more (W := W) (ρ := ρ) (x := .win i off n) h hQ hp
  | cut sz l => exact RepA.more (W := W) (ρ := ρ) (x := .cut sz l) h hQ hp
  | row i n c => exact RepA.more (W := W) (ρ := ρ) (x := .row i n c) h hQ hp
  | tup l =>
    obtain ⟨b, h1, h2, h3⟩ := h
    refine ⟨b, h1, by simpa using h2, fun j y hj => ?_⟩
    rw [List.getElem?_map] at hj
    obtain ⟨x, hx, rfl⟩ := Option.map_eq_some_iff.1 hj
    obtain ⟨y, hy, hr⟩ := h3 j x hx
    exact ⟨y, hy, hr.more hQ hp⟩
  | agg l => exact RepA.more (W := W) (ρ := ρ) (x := .agg l) h hQ hp
  | b x => exact RepA.more (W := W) (ρ := ρ) (x := .b x) h hQ hp
  | own i n => exact RepA.more (W := W) (ρ := ρ) (x := .own i n) h hQ hp
  | ptr i off => exact RepA.more (W := W) (ρ := ρ) (x := .ptr i off) h hQ hp
  | rd l => exact RepA.more (W := W) (ρ := ρ) (x := .rd l) h hQ hp
  | fn f l => exact RepA.more (W := W) (ρ := ρ) (x := .fn f l) h hQ hp

theorem Args.length {ρ : Nat → Nat} {k : Nat} {nv : List Nat} {vs xs : List V} (h : Args E ρ k nv vs xs) : vs.length = xs.length := by
  induction h with
  | nil => rfl
  | name _ _ _ _ _ _ _ ih => simp [ih]
  | val _ _ _ _ _ _ _ ih => simp [ih]
theorem Args.get {ρ : Nat → Nat} {k : Nat} {nv : List Nat} {vs xs : List V} (h : Args E ρ k nv vs xs) : ∀ (j : Nat) (x : V), xs[j]? = some x → ∃ v, vs[j]? = some v ∧ ((v = x.ren ρ ∧ ∀ i ∈ x.all, i < k) ∨ ∃ y, x = .b y ∧ res E v = some y ∧ ∀ i ∈ v.names, i ∈ nv) := by
  induction h with
  | nil => intro j x hj; simp at hj
  | name v x vs xs hx hb h ih =>
    intro j z hj
    cases j with
    | zero => simp at hj; subst hj; exact ⟨v, rfl, .inl ⟨hx, fun i hi => by simpa using List.all_eq_true.1 hb i hi⟩⟩
    | succ j => simpa using ih j z (by simpa using hj)
  | val v y vs xs hr hn h ih =>
    intro j z hj
    cases j with
    | zero => simp at hj; subst hj; exact ⟨v, rfl, .inr ⟨y, rfl, hr, fun i hi => by simpa using List.all_eq_true.1 hn i hi⟩⟩
    | succ j => simpa using ih j z (by simpa using hj)

theorem cools_get (E : Env) : ∀ (l : List Nat) (i : Nat), upds E (l.map (Go.VL.cool E)) i = if l.contains i = true then (E i).map (fun e => e.cold) else E i := by
  intro l i
  induction l generalizing E with
  | nil => rfl
  | cons x r ih =>
    rw [List.map_cons, upds]
    rw [show (r.map (Go.VL.cool E)) = r.map (Go.VL.cool (setAt E (Go.VL.cool E x).1 (Go.VL.cool E x).2)) from List.map_congr_left (fun j _ => (cool_upds E x j).symm)]
    rw [ih]
    by_cases h : i = x
    · subst h
      simp only [Go.VL.cool, setAt_self, List.contains_cons, beq_self_eq_true, Bool.true_or, if_true]
      split
      · cases E i <;> rfl
      · rfl
    · simp only [Go.VL.cool, setAt_ne _ _ h, List.contains_cons, beq_false_of_ne h, Bool.false_or]

theorem tab_some {L : List (Option Ent)} {j : Nat} {e : Ent} : tab L j = some e ↔ L[j]? = some (some e) := by
  unfold tab
  cases L[j]? with
  | none => simp
  | some x => simp
theorem tab_map {L : List Ent} {j : Nat} {e : Ent} : tab (L.map some) j = some e ↔ L[j]? = some e := by
  rw [tab_some, List.getElem?_map]
  cases L[j]? <;> simp

/-- What a contract says at the caller's table. -/
theorem VG.call {f : FuncId} {vs xs : List V} {L0 : List Ent} {r : V} {L1 : List (Option Ent)} {ρ : Nat → Nat} {nv : List Nat} {E2 : Env} {n : Nat} {us : Array Value} (hv : VG P f xs L0 r L1) (S : Sim w0 P0 E0 pl0 N E pl s a W) (hf : (∀ i, n ≤ i → pl i = none) ∨ L1.length = L0.length ∨ (L1.length = L0.length + 1 ∧ pl n = none))
    (hx : Args E ρ L0.length nv vs xs) (hl : Lent E ρ nv L0) (hE : After E E2 ρ L0.length n nv L1) (hsz : us.size = vs.length) (hus : ∀ (j : Nat) (v : V), vs[j]? = some v → ∃ u, us[j]? = some u ∧ Rep W (Qf (FF w0 P0) E pl) pl v u) :
    Calls P f us W fun e W' => ∃ u pl2, e = .returned u ∧ Sim w0 P0 E0 pl0 N E2 pl2 s a W' ∧ ((∀ i, n ≤ i → pl i = none) → ∀ i, n + (L1.length - L0.length) ≤ i → pl2 i = none) ∧ (L1.length ≤ L0.length + 1 → ∀ i, i ≠ n → pl i = none → pl2 i = none) ∧ Rep W' (Qf (FF w0 P0) E2 pl2) pl2 (r.ren (nm ρ L0.length n)) u := by
  obtain ⟨v1, v2, v3, v4⟩ := hv
  have S1 := S.cools nv
  generalize hE1 : upds E (nv.map (Go.VL.cool E)) = E' at S1
  have hE'' : ∀ i, E' i = if nv.contains i = true then (E i).map (fun e => e.cold) else E i := fun i => by rw [← hE1]; exact cools_get E nv i
  have lentE : ∀ j e, L0[j]? = some e → E' (ρ j) = some (e.ren ρ) := fun j e he => by
    obtain ⟨h1, h2, _⟩ := hl.ent j e he
    rw [hE'', h2]; exact h1
  have lentJ : ∀ j, j < L0.length → ∃ e, L0[j]? = some e := fun j hj => ⟨_, List.getElem?_eq_getElem hj⟩
  let plc : Plan := fun j => if j < L0.length then pl (ρ j) else none
  have plcS : ∀ j, j < L0.length → plc j = pl (ρ j) := fun j hj => by simp [plc, hj]
  have H0 : ∀ b, Hot (tab (L0.map some)) plc b → Hot E' pl b := fun b hb => by
    obtain ⟨j, e, c, h1, h2, h3⟩ := hb
    have h1' := tab_map.1 h1
    have hj := (List.getElem?_eq_some_iff.1 h1').1
    rw [plcS j hj] at h3
    exact ⟨ρ j, _, c, lentE j e h1', h2, h3⟩
  have HE : ∀ b, Hot E' pl b → Hot E pl b := fun b hb => by
    obtain ⟨i, e, c, h1, h2, h3⟩ := hb
    rw [hE''] at h1
    split at h1
    · obtain ⟨e1, _, rfl⟩ := Option.map_eq_some_iff.1 h1
      cases h2
    · exact ⟨i, e, c, h1, h2, h3⟩
  -- a block of an entry that is not lent
  have apart : ∀ i e g c, E' i = some e → pl i = some (g, c + 1) → (∀ j, j < L0.length → ρ j ≠ i) → ¬ Hot (tab (L0.map some)) plc g := fun i e g c h1 h2 h3 hb => by
    obtain ⟨j, e1, c1, k1, k2, k3⟩ := hb
    have k1' := tab_map.1 k1
    have hj := (List.getElem?_eq_some_iff.1 k1').1
    rw [plcS j hj] at k3
    exact h3 j hj (S1.eok.inj (ρ j) i _ e g c1 c (lentE j e1 k1') h1 k3 h2)
  let F : Nat → Prop := fun b => FF w0 P0 b ∧ (Hot E' pl b → Hot (tab (L0.map some)) plc b)
  have hEok : EOk W F (tab (L0.map some)) plc := by
    refine ⟨fun j e he => ?_, fun i j e e' g c c' hi hj pi pj => ?_⟩
    · have he' := tab_map.1 he
      have hj := (List.getElem?_eq_some_iff.1 he').1
      obtain ⟨g, c, cur, T, r1, r2, r3, r4, r5, r6, r7, r8⟩ := S1.eok.ent (ρ j) _ (lentE j e he')
      refine ⟨g, c, cur, T, by rw [plcS j hj]; exact r1, r2, fun h0 => ⟨r3 h0, fun hh => ?_⟩, r4, by simpa [Ent.ren] using r5, r6, r7, fun q x hq => ?_⟩
      · obtain ⟨i', e', c', k1, k2, k3⟩ := hh
        obtain ⟨c, rfl⟩ : ∃ c1, c = c1 + 1 := ⟨c - 1, by omega⟩
        have := S1.eok.inj i' (ρ j) e' _ g c' c k1 (lentE j e he') k3 r1
        subst this
        rw [lentE j e he'] at k1
        injection k1 with k1
        subst k1
        exact ⟨j, e, c, he, k2, by rw [plcS j hj]; exact r1⟩
      · obtain ⟨u, hu, hu1, hr⟩ := r8 q (x.ren1 ρ) (by simp only [Ent.ren]; rw [List.getElem?_map, hq]; rfl)
        refine ⟨u, hu, hu1, hr.less (fun b hb => ⟨⟨hb.1, fun h => absurd h hb.2⟩, fun h => hb.2 (H0 b h)⟩) (fun i hi => plcS i ((hl.ent j e he').2.2 x (List.mem_of_getElem? hq) i hi))⟩
    · have hi' := tab_map.1 hi
      have hj' := tab_map.1 hj
      have li := (List.getElem?_eq_some_iff.1 hi').1
      have lj := (List.getElem?_eq_some_iff.1 hj').1
      rw [plcS i li] at pi
      rw [plcS j lj] at pj
      exact hl.inj i j li lj (S1.eok.inj (ρ i) (ρ j) _ _ g c c' (lentE i e hi') (lentE j e' hj') pi pj)
  refine Calls.mono (v4 W F plc us (by rw [hsz, hx.length]) hEok (fun i hi => by simp [plc]; omega) (fun j x hj => ?_)) ?_
  · obtain ⟨v, hvj, hcase⟩ := hx.get j x hj
    obtain ⟨u, hu, hr⟩ := hus j v hvj
    refine ⟨u, hu, ?_⟩
    rcases hcase with ⟨rfl, hb⟩ | ⟨y, rfl, hres, hn⟩
    · exact hr.less (fun b hb => ⟨⟨hb.1, fun h => absurd (HE b h) hb.2⟩, fun h => hb.2 (HE b (H0 b h))⟩) (fun i hi => plcS i (hb i hi))
    · refine rep_res S.eok hres hr (fun b hb => ⟨⟨hb.1, fun h => absurd (HE b h) hb.2⟩, fun h => hb.2 (HE b (H0 b h))⟩) (fun i hi e g c he hp hF => ?_)
      have hno : ¬ Hot E' pl g := fun hh => by
        obtain ⟨i', e', c', k1, k2, k3⟩ := hh
        have hi' : E' i = some e.cold := by rw [hE'', if_pos (by simpa using hn i hi), he]; rfl
        have := S1.eok.inj i' i e' _ g c' c k1 hi' k3 hp
        subst this
        rw [hi'] at k1
        injection k1 with k1
        subst k1
        cases k2
      exact ⟨⟨hF, fun h => absurd h hno⟩, fun h => hno (H0 g h)⟩
  · rintro e W' ⟨u, pl', rfl, p1, p2, p3, p4, p5, p6⟩
    have lentP : ∀ j, j < L0.length → ∃ g c, pl (ρ j) = some (g, c) ∧ pl' j = some (g, c) := fun j hj => by
      obtain ⟨e, he⟩ := lentJ j hj
      obtain ⟨g, c, cur, T, r1, _⟩ := S1.eok.ent (ρ j) _ (lentE j e he)
      exact ⟨g, c, r1, p1 j _ (by rw [plcS j hj]; exact r1)⟩
    obtain ⟨pl2, hup, pl2old, fin1, fin2⟩ : ∃ pl2 : Plan, (∀ i p, pl' i = some p → pl2 (nm ρ L0.length n i) = some p) ∧ (∀ i p, pl i = some p → pl2 i = some p) ∧
        ((∀ i, n ≤ i → pl i = none) → ∀ i, n + (L1.length - L0.length) ≤ i → pl2 i = none) ∧ (L1.length ≤ L0.length + 1 → ∀ i, i ≠ n → pl i = none → pl2 i = none) := by
      by_cases hsame : L1.length = L0.length
      · refine ⟨pl, fun i p hp => ?_, fun i p hp => hp, fun h i hi => h i (by omega), fun _ i _ h => h⟩
        by_cases hi : i < L0.length
        · obtain ⟨g, c, h1, h2⟩ := lentP i hi
          rw [h2] at hp
          simp only [nm, hi, if_true]
          rw [h1]; exact hp
        · rw [p2 i (by omega)] at hp; cases hp
      by_cases hone : ∀ i, n ≤ i → pl i = none
      case neg =>
        obtain ⟨ho1, ho2⟩ : L1.length = L0.length + 1 ∧ pl n = none := by
          rcases hf with h | h | h
          · exact absurd h hone
          · exact absurd h hsame
          · exact h
        have neN : ∀ i p, pl i = some p → i ≠ n := fun i p h e => by rw [e, ho2] at h; cases h
        refine ⟨fun i => if i = n then pl' L0.length else pl i, fun i p hp => ?_, fun i p hp => by simp only [neN i p hp, if_false]; exact hp, fun h => absurd h hone, fun _ i hi h => by simp only [hi, if_false]; exact h⟩
        by_cases hi : i < L0.length
        · obtain ⟨g, c, h1, h2⟩ := lentP i hi
          rw [h2] at hp
          simp only [nm, hi, if_true, neN _ _ h1, if_false]
          rw [h1]; exact hp
        · by_cases hik : i = L0.length
          · subst hik
            simp only [nm, Nat.lt_irrefl, if_false, Nat.sub_self, Nat.add_zero, if_true]; exact hp
          · rw [p2 i (by omega)] at hp; cases hp
      case pos =>
        have hf' := hone
        have plN : ∀ i p, pl i = some p → i < n := fun i p h => Nat.lt_of_not_le (fun hc => by rw [hf' i hc] at h; cases h)
        refine ⟨fun i => if i < n then pl i else pl' (i - n + L0.length), fun i p hp => ?_, fun i p hp => by simp only [plN i p hp, if_true]; exact hp, fun _ i hi => ?_, fun h i hi hn => ?_⟩
        · by_cases hi : i < L0.length
          · obtain ⟨g, c, h1, h2⟩ := lentP i hi
            rw [h2] at hp
            simp only [nm, hi, if_true, plN _ _ h1]
            rw [h1]; exact hp
          · simp only [nm, hi, if_false]
            rw [if_neg (by omega), show n + (i - L0.length) - n + L0.length = i by omega]
            exact hp
        · show (if i < n then pl i else pl' (i - n + L0.length)) = none
          rw [if_neg (by omega)]
          exact p2 _ (by omega)
        · show (if i < n then pl i else pl' (i - n + L0.length)) = none
          split
          · exact hn
          · exact p2 _ (by omega)
    have hot2 : ∀ b, Hot E2 pl2 b → Hot (tab L1) pl' b ∨ (Hot E' pl b ∧ ¬ Hot (tab (L0.map some)) plc b) := fun b hb => by
      obtain ⟨i, e, c, h1, h2, h3⟩ := hb
      rcases hE i e h1 with ⟨j, e0, k1, rfl, rfl⟩ | ⟨k1, k2⟩
      · left
        obtain ⟨g, c', cur, T, r1, _⟩ := p5.ent j e0 (tab_some.2 k1)
        have := hup j _ r1
        rw [h3] at this
        injection this with this
        injection this with this q9
        subst this; subst q9
        exact ⟨j, e0, c, tab_some.2 k1, h2, r1⟩
      · right
        rw [hE1] at k1
        obtain ⟨g, c', cur, T, r1, _⟩ := S1.eok.ent i e k1
        rw [pl2old i _ r1] at h3
        injection h3 with h3
        injection h3 with h3 q9
        subst h3; subst q9
        exact ⟨⟨i, e, c, k1, h2, r1⟩, apart i e g c k1 r1 k2⟩
    have hot3 : ∀ b, Hot E2 pl2 b → Hot E' pl b ∨ W.heap.size ≤ b := fun b hb => by
      rcases hot2 b hb with h | ⟨h, _⟩
      · rcases p4 b h with h | h
        · exact .inr h
        · exact .inl (H0 b h)
      · exact .inl h
    have qUp : ∀ b, Qf (fun b => F b ∨ W.heap.size ≤ b) (tab L1) pl' b → Qf (FF w0 P0) E2 pl2 b := fun b hb => by
      refine ⟨?_, fun hh => ?_⟩
      · rcases hb.1 with h | h
        · exact h.1
        · exact .inr (Nat.le_trans S.keep.size h)
      · rcases hot2 b hh with h | ⟨h, h'⟩
        · exact hb.2 h
        · rcases hb.1 with k | k
          · exact h' (k.2 h)
          · have := Hot.lt S1.eok h
            omega
    have same : ∀ k, k < W.heap.size → ¬ Hot (tab (L0.map some)) plc k → W'.heap[k]? = W.heap[k]? := p3.block
    refine ⟨u, pl2, rfl, ⟨⟨p3.os.trans S.keep.os, p3.tape.trans S.keep.tape, p3.output.trans S.keep.output, Nat.le_trans S.keep.size p3.size, fun k hk hn => ?_⟩, fun k hk => ?_, ⟨fun i e he => ?_, fun i j e e' g c c' hi hj pi pj => ?_⟩, fun i p h => pl2old i p (S.plan i p h), fun t x ht => ?_, S.size, S.defers.step (Hot (tab (L0.map some)) plc) S1.eok same H0⟩, fin1, fin2, p6.more qUp hup⟩
    · rw [same k (Nat.lt_of_lt_of_le hk S.keep.size) (fun h => ?_), S.keep.block k hk hn]
      rcases S1.mine k (H0 k h) with h | h
      · omega
      · exact hn h
    · rcases hot3 k hk with h | h
      · exact S1.mine k h
      · exact .inl (Nat.le_trans S.keep.size h)
    · rcases hE i e he with ⟨j, e0, k1, rfl, rfl⟩ | ⟨k1, k2⟩
      · obtain ⟨g, c, cur, T, r1, r2, r3, r4, r5, r6, r7, r8⟩ := p5.ent j e0 (tab_some.2 k1)
        refine ⟨g, c, cur, T, hup j _ r1, r2, fun h0 => ?_, r4, by simpa [Ent.ren] using r5, r6, r7, fun q y hq => ?_⟩
        · rcases r3 h0 with h | h
          · exact h.1
          · exact .inr (Nat.le_trans S.keep.size h)
        · simp only [Ent.ren] at hq
          rw [List.getElem?_map] at hq
          obtain ⟨x, hx, rfl⟩ := Option.map_eq_some_iff.1 hq
          obtain ⟨u, hu, hu1, hr⟩ := r8 q x hx
          exact ⟨u, hu, hu1, hr.more qUp hup⟩
      · rw [hE1] at k1
        exact (S1.eok.ent i e k1).move (Hot (tab (L0.map some)) plc) same H0 pl2old hot3 (fun g c hp => apart i e g c k1 hp k2)
    · -- a new or lent entry's block is no other's
      have mix : ∀ j e0 g c i e c', L1[j]? = some (some e0) → pl' j = some (g, c + 1) → E' i = some e → pl i = some (g, c' + 1) → (∀ q, q < L0.length → ρ q ≠ i) → False := fun j e0 g c i e c' h1 h2 h3 h4 h5 => by
        by_cases hj : j < L0.length
        · obtain ⟨g1, c1, q1, q2⟩ := lentP j hj
          rw [h2] at q2
          injection q2 with q2
          injection q2 with q2 q9
          subst q2; subst q9
          obtain ⟨e1, he1⟩ := lentJ j hj
          exact h5 j hj (S1.eok.inj (ρ j) i _ e g c c' (lentE j e1 he1) h3 q1 h4)
        · rcases p4 g ⟨j, e0, c, tab_some.2 h1, v3 j e0 (by omega) h1, h2⟩ with h | h
          · obtain ⟨g', c'', cur, T, r1, r2, _⟩ := S1.eok.ent i e h3
            rw [h4] at r1
            injection r1 with r1
            injection r1 with r1 q9
            subst r1
            have := (Array.getElem?_eq_some_iff.1 (r2 (by omega))).1
            omega
          · exact apart i e g c' h3 h4 h5 h
      have place : ∀ j e0 g c, L1[j]? = some (some e0) → pl2 (nm ρ L0.length n j) = some (g, c) → pl' j = some (g, c) := fun j e0 g c h1 h2 => by
        obtain ⟨g', c', cur, T, r1, _⟩ := p5.ent j e0 (tab_some.2 h1)
        rw [hup j _ r1] at h2
        rw [r1]; exact h2
      have old : ∀ i e g c, E' i = some e → pl2 i = some (g, c) → pl i = some (g, c) := fun i e g c h1 h2 => by
        obtain ⟨g', c', cur, T, r1, _⟩ := S1.eok.ent i e h1
        rw [pl2old i _ r1] at h2
        rw [r1]; exact h2
      rcases hE i e hi with ⟨i0, e0, k1, rfl, rfl⟩ | ⟨k1, k2⟩ <;> rcases hE j e' hj with ⟨j0, e1, l1, rfl, rfl⟩ | ⟨l1, l2⟩
      · rw [p5.inj i0 j0 e0 e1 g c c' (tab_some.2 k1) (tab_some.2 l1) (place i0 e0 g (c + 1) k1 pi) (place j0 e1 g (c' + 1) l1 pj)]
      · rw [hE1] at l1
        exact (mix i0 e0 g c j e' c' k1 (place i0 e0 g (c + 1) k1 pi) l1 (old j e' g (c' + 1) l1 pj) l2).elim
      · rw [hE1] at k1
        exact (mix j0 e1 g c' i e c l1 (place j0 e1 g (c' + 1) l1 pj) k1 (old i e g (c + 1) k1 pi) k2).elim
      · rw [hE1] at k1 l1
        exact S1.eok.inj i j e e' g c c' k1 l1 (old i e g (c + 1) k1 pi) (old j e' g (c' + 1) l1 pj)
    · obtain ⟨u, hu, hr⟩ := S1.slots t x ht
      refine ⟨u, hu, hr.move (fun k hk hl => same k hl (fun h => hk.2 (H0 k h))) (fun k hk hl => ⟨hk.1, fun hh => ?_⟩) pl2old⟩
      rcases hot3 k hh with h | h
      · exact hk.2 h
      · omega

theorem run_enterV {fop : Operand} {f : FuncId} {cs : Array Value} {args : Array Operand} {ts : Array TypeId} (hE : Enters P f) (hfop : a.eval fop = .func (.func f) #[] cs) (ho : o.op = .call { callee := .value fop, args := args, argTypes := ts }) :
    (execOp a.eval o).run P W = .ok (.enter f (args.map a.eval ++ cs)) W := by
  obtain ⟨fn, c, h1, h2, h3⟩ := hE
  simp [execOp, ho, resolve, hfop, Deferred.ofValue, invoke, callFunc, h1, h2, h3]
  intro h; simp [h] at h3

theorem rep_of_repP {W : World} {Q : Nat → Prop} {pl : Plan} {x : V} {u : Value} (h : RepP W Q pl x u) : Rep W Q pl x u := by
  cases x with
  | win i off n => exact h.elim
  | cut sz l => exact h.elim
  | row i n c => exact h.elim
  | b x => exact h
  | own i n => exact h
  | ptr i off => exact h
  | rd l => exact h.elim
  | agg l => exact h.elim
  | fn f l => exact h.elim
  | tup l => exact h.elim

theorem callArgs (S : Sim w0 P0 E0 pl0 N E pl s a W) {args : Array Operand} {vs caps : List V} {cs : Array Value} (ha : evs s args.toList = some vs) (hcs2 : cs.size = caps.length)
    (hcs3 : ∀ (j : Nat) (x : V), caps[j]? = some x → ∃ y : Value, cs[j]? = some y ∧ RepP W (Qf (FF w0 P0) E pl) pl x y) :
    (args.map a.eval ++ cs).size = (vs ++ caps).length ∧ ∀ (j : Nat) (v : V), (vs ++ caps)[j]? = some v → ∃ u, (args.map a.eval ++ cs)[j]? = some u ∧ Rep W (Qf (FF w0 P0) E pl) pl v u := by
  obtain ⟨e1, e2⟩ := evs_get ha
  refine ⟨by simp [hcs2, e1], fun j v hj => ?_⟩
  by_cases h : j < vs.length
  · rw [List.getElem?_append_left h] at hj
    obtain ⟨y, hy1, hy2⟩ := e2 j v hj
    have hlt : j < (args.map a.eval).size := by simp; rw [← Array.length_toList, ← e1]; exact h
    exact ⟨a.eval y, by rw [Array.getElem?_append_left hlt]; simpa using ⟨y, by simpa using hy1, rfl⟩, S.ev hy2⟩
  · rw [List.getElem?_append_right (by omega)] at hj
    obtain ⟨u, hu, hr⟩ := hcs3 _ v hj
    refine ⟨u, ?_, rep_of_repP hr⟩
    rw [Array.getElem?_append_right (by simp; rw [← Array.length_toList, ← e1]; omega)]
    rw [← hu]; congr 1; simp [e1]

/-- The step of a call that is lent entries. -/
theorem callG_step {op : Op} {v : V} {n n' : Nat} {E2 : Env} (h : CallG P n s E op v n' E2) (ho : o.op = op) (S : Sim w0 P0 E0 pl0 N E pl s a W) (hf : ∀ i, n ≤ i → pl i = none)
    (hK : ∀ u pl2 W1, Sim w0 P0 E0 pl0 N E2 pl2 s a W1 → (∀ i, n' ≤ i → pl2 i = none) → Rep W1 (Qf (FF w0 P0) E2 pl2) pl2 v u → K (a.put o.dst u) W1) : Oper.wp P o a W K Qx := by
  cases h with
  | mk fop args ts f caps vs xs L0 r L1 ρ nv n' E2 hc ha hx hl hv hn hE =>
    obtain ⟨cs, hcs1, hcs2, hcs3⟩ := S.ev hc
    unfold Oper.wp
    rw [run_enterV hv.1 hcs1 ho, Oper.upon_enter]
    obtain ⟨q1, q2⟩ := callArgs S ha hcs2 hcs3
    refine Calls.mono (hv.call (us := args.map a.eval ++ cs) S (.inl hf) hx hl hE q1 q2) ?_
    rintro e W' ⟨u, pl2, rfl, S2, k1, k2, k3⟩
    exact hK u pl2 W' S2 (fun i hi => k1 hf i (by omega)) k3

theorem upds_map (E : Env) (ρ : Nat → Nat) (g : Nat → Option Ent) : ∀ (l : List Nat), (∀ i ∈ l, ∀ j ∈ l, ρ i = ρ j → i = j) → l.Nodup → ∀ (i : Nat), (∃ j ∈ l, ρ j = i ∧ upds E (l.map fun j => (ρ j, g j)) i = g j) ∨ ((∀ j ∈ l, ρ j ≠ i) ∧ upds E (l.map fun j => (ρ j, g j)) i = E i) := by
  intro l
  induction l generalizing E with
  | nil => intro _ _ i; exact .inr ⟨fun j h => (by cases h), rfl⟩
  | cons x r ih =>
    intro hi hn i
    rw [List.nodup_cons] at hn
    rcases ih (setAt E (ρ x) (g x)) (fun i h j h' => hi i (by simp [h]) j (by simp [h'])) hn.2 i with ⟨j, h1, h2, h3⟩ | ⟨h1, h2⟩
    · exact .inl ⟨j, by simp [h1], h2, h3⟩
    · by_cases hx : ρ x = i
      · refine .inl ⟨x, by simp, hx, ?_⟩
        rw [List.map_cons, upds]
        rw [h2, ← hx, setAt_self]
      · refine .inr ⟨fun j hj => ?_, ?_⟩
        · rcases List.mem_cons.1 hj with rfl | hj
          · exact hx
          · exact h1 j hj
        · rw [List.map_cons, upds, h2, setAt_ne _ _ (Ne.symm hx)]
theorem upds_append (E : Env) : ∀ (l m : List (Nat × Option Ent)), upds E (l ++ m) = upds (upds E l) m
  | [], m => rfl
  | p :: r, m => by rw [List.cons_append, upds, upds, upds_append]

theorem eff_callL {fop : Operand} {args : Array Operand} {ts : Array TypeId} {f : FuncId} {caps vs xs : List V} {L0 : List Ent} {r : V} {L1 : List (Option Ent)} {ρ : Nat → Nat} {nv : List Nat} {us : List (Nat × Option Ent)} (hc : ev s fop = some (.fn f caps)) (ha : evs s args.toList = some vs)
    (hx : Args E ρ L0.length nv (vs ++ caps) xs) (hl : Lent E ρ nv L0) (hv : VG P f xs L0 r L1) (hsz : L1.length ≤ L0.length + 1) (hus : us = (List.range L1.length).map fun j => (nm ρ L0.length id j, (tab L1 j).map (Ent.ren (nm ρ L0.length id))))
    (ho : o.op = .call { callee := .value fop, args := args, argTypes := ts }) (S : Sim w0 P0 E0 pl0 N E pl s a W) (hf : pl id = none)
    (hK : Next w0 P0 E0 pl0 pl N id s a o K (upds E (nv.map (Go.VL.cool E) ++ us)) (r.ren (nm ρ L0.length id))) : Oper.wp P o a W K Qx := by
  obtain ⟨cs, hcs1, hcs2, hcs3⟩ := S.ev hc
  obtain ⟨q1, q2⟩ := callArgs S ha hcs2 hcs3
  unfold Oper.wp
  rw [run_enterV hv.1 hcs1 ho, Oper.upon_enter]
  have hne : ∀ j, j < L0.length → ρ j ≠ id := fun j hj e => by
    obtain ⟨e0, he0⟩ : ∃ e0, L0[j]? = some e0 := ⟨_, List.getElem?_eq_getElem hj⟩
    obtain ⟨g, c, cur, T, r1, _⟩ := S.eok.ent (ρ j) _ (hl.ent j e0 he0).1
    rw [e, hf] at r1; cases r1
  have hinj : ∀ i ∈ List.range L1.length, ∀ j ∈ List.range L1.length, nm ρ L0.length id i = nm ρ L0.length id j → i = j := fun i hi j hj h => by
    have hi := List.mem_range.1 hi
    have hj := List.mem_range.1 hj
    unfold nm at h
    by_cases h1 : i < L0.length <;> by_cases h2 : j < L0.length
    · rw [if_pos h1, if_pos h2] at h; exact hl.inj i j h1 h2 h
    · rw [if_pos h1, if_neg h2, show id + (j - L0.length) = id by omega] at h; exact absurd h (hne i h1)
    · rw [if_neg h1, if_pos h2, show id + (i - L0.length) = id by omega] at h; exact absurd h.symm (hne j h2)
    · omega
  have hE : After E (upds E (nv.map (Go.VL.cool E) ++ us)) ρ L0.length id nv L1 := fun i e he => by
    rw [upds_append, hus] at he
    rcases upds_map (upds E (nv.map (Go.VL.cool E))) (nm ρ L0.length id) (fun j => (tab L1 j).map (Ent.ren (nm ρ L0.length id))) (List.range L1.length) hinj List.nodup_range i with ⟨j, h1, h2, h3⟩ | ⟨h1, h2⟩
    · rw [h3] at he
      obtain ⟨e0, he0, rfl⟩ := Option.map_eq_some_iff.1 he
      exact .inl ⟨j, e0, tab_some.1 he0, h2, rfl⟩
    · rw [h2] at he
      refine .inr ⟨he, fun j hj => ?_⟩
      have := h1 j (List.mem_range.2 (Nat.lt_of_lt_of_le hj hv.2.1))
      unfold nm at this
      rwa [if_pos hj] at this
  have hcase : (∀ i, id ≤ i → pl i = none) ∨ L1.length = L0.length ∨ (L1.length = L0.length + 1 ∧ pl id = none) := by
    have := hv.2.1
    by_cases h : L1.length = L0.length
    · exact .inr (.inl h)
    · exact .inr (.inr ⟨by omega, hf⟩)
  refine Calls.mono (hv.call (us := args.map a.eval ++ cs) S hcase hx hl hE q1 q2) ?_
  rintro e W' ⟨u, pl2, rfl, S2, k1, k2, k3⟩
  exact hK u pl2 W' S2 (fun i hi h => k2 hsz i hi h) k3

theorem eff_callG {fop : Operand} {args : Array Operand} {ts : Array TypeId} {f : FuncId} {caps vs xs : List V} {L0 : List Ent} {r : B} {L1 : List (Option Ent)} {ρ : Nat → Nat} {nv : List Nat} {us : List (Nat × Option Ent)} (hc : ev s fop = some (.fn f caps)) (ha : evs s args.toList = some vs)
    (hx : Args E ρ L0.length nv (vs ++ caps) xs) (hl : Lent E ρ nv L0) (hv : VG P f xs L0 (.b r) L1) (hsz : L1.length = L0.length) (hus : us = (List.range L0.length).map fun j => (ρ j, (tab L1 j).map (Ent.ren (nm ρ L0.length id))))
    (ho : o.op = .call { callee := .value fop, args := args, argTypes := ts }) (S : Sim w0 P0 E0 pl0 N E pl s a W) (hf : pl id = none)
    (hK : Next w0 P0 E0 pl0 pl N id s a o K (upds E (nv.map (Go.VL.cool E) ++ us)) (.b r)) : Oper.wp P o a W K Qx := by
  refine eff_callL hc ha hx hl hv (by omega) (us := us) ?_ ho S hf hK
  rw [hus, hsz]
  exact List.map_congr_left fun j hj => by
    have := List.mem_range.1 hj
    unfold nm; rw [if_pos this]

theorem eff_makeFunc {f : FuncId} {caps : Array Operand} {vs : List V} (h : evs s caps.toList = some vs) (hl : vs.all V.leaf = true) (ho : o.op = .makeFunc (.func f) #[] caps) (S : Sim w0 P0 E0 pl0 N E pl s a W) (hf : pl id = none)
    (hK : Next w0 P0 E0 pl0 pl N id s a o K E (.fn f vs)) : Oper.wp P o a W K Qx := by
  obtain ⟨e1, e2⟩ := evs_get h
  refine wp_val (v := .fn f vs) (u := .func (.func f) #[] (caps.map a.eval)) S hf ?_ ⟨_, rfl, by simp [e1], fun j x hj => ?_⟩ hK
  · simp [execOp, ho, Instr.makeFunc]
  · obtain ⟨y, hy1, hy2⟩ := e2 j x hj
    refine ⟨a.eval y, by simpa using ⟨y, by simpa using hy1, rfl⟩, ?_⟩
    have := List.all_eq_true.1 hl x (List.mem_of_getElem? hj)
    have hr := S.ev hy2
    cases x with
    | b x => exact hr
    | own i n => exact hr
    | ptr i off => exact hr
    | rd l => cases this
    | agg l => cases this
    | fn f l => cases this
    | tup l => cases this
    | win i off n => cases this
    | cut sz l => cases this
    | row i n c => cases this
theorem rep_of_repA {W : World} {Q : Nat → Prop} {pl : Plan} {x : V} {u : Value} (h : RepA W Q pl x u) : Rep W Q pl x u := by
  cases x with
  | win i off n => exact h
  | cut sz l => exact h
  | row i n c => exact h
  | tup l => exact h.elim
  | b x => exact h
  | own i n => exact h
  | ptr i off => exact h
  | rd l => exact h
  | agg l => exact h
  | fn f l => exact h
theorem eff_extractV {x : Operand} {l : List V} {j : Nat} {y : V} (h : ev s x = some (.tup l)) (hy : l[j]? = some y) (ho : o.op = .extract x j) (S : Sim w0 P0 E0 pl0 N E pl s a W) (hf : pl id = none)
    (hK : Next w0 P0 E0 pl0 pl N id s a o K E y) : Oper.wp P o a W K Qx := by
  obtain ⟨cs, hcs, hsz, hr⟩ := S.ev h
  obtain ⟨u, hu, hru⟩ := hr j y hy
  refine wp_val (v := y) (u := u) S hf ?_ (rep_of_repA hru) hK
  simp [execOp, ho, hcs, Instr.extract, hu]
end
end Go.VL

/- A small program logic over the translated Go code, further part: cuts of texts, functions that the model carries out, rows of structs that grow. -/
set_option linter.unusedVariables false
set_option linter.unusedSimpArgs false
namespace Go.VL
open Go.RowKit

section
variable {P : Program} {w0 W W1 : World} {P0 F : Nat → Prop} {E0 E E1 : Env} {pl0 pl pl1 : Plan} {N : Frm} {id : Nat} {s : Slots} {a : Act} {o : Oper} {K : Act → World → Prop} {Qx : Exit → Act → World → Prop}

theorem eff_strTo {T : TypeId} {x hi : Operand} {str : ByteArray} {k : IntKind} {p : Int} (h : ev s x = some (.b (.lit (.string str)))) (hl : ev s hi = some (.b (.lit (.int k p)))) (hu : P.underlying T = some .string) (h0 : 0 ≤ p) (h1 : p ≤ str.size)
    (ho : o.op = .slice T x none (some hi) none) (S : Sim w0 P0 E0 pl0 N E pl s a W) (hf : pl id = none) (hK : Next w0 P0 E0 pl0 pl N id s a o K E (.b (.lit (.string (str.extract 0 p.toNat))))) : Oper.wp P o a W K Qx := by
  have e1 := rep_lit (S.ev h)
  have e2 := rep_lit (S.ev hl)
  have := run_slice_string_h (P := P) W T str hu k p h0 h1
  refine wp_val (v := .b (.lit (.string (str.extract 0 p.toNat)))) (u := .string (str.extract 0 p.toNat)) S hf ?_ (RepB.lit _ rfl) hK
  simp [execOp, ho, e1, e2, run_sliceAt_string W T _ _ _ _ hu, this]

theorem eff_callN {f : FuncId} {args : Array Operand} {ts : Array TypeId} {xs : List Value} {r : Value} (h : evs s args.toList = some (xs.map fun x => .b (.lit x))) (hv : NF P f xs r)
    (ho : o.op = .call { callee := .value (.func f), args := args, argTypes := ts }) (S : Sim w0 P0 E0 pl0 N E pl s a W) (hf : pl id = none) (hK : Next w0 P0 E0 pl0 pl N id s a o K E (.b (.lit r))) : Oper.wp P o a W K Qx := by
  obtain ⟨e1, e2⟩ := evs_get h
  have hargs : args.map a.eval = xs.toArray := by
    apply Array.ext_getElem?
    intro j
    by_cases hj : j < xs.length
    · obtain ⟨y, hy1, hy2⟩ := e2 j (.b (.lit xs[j])) (by simp [hj])
      have := rep_lit (S.ev hy2)
      have hy3 : args[j]? = some y := by simpa using hy1
      simp [hy3, this, hj]
    · have : ¬ j < args.size := by simp at e1; omega
      simp [Array.getElem?_eq_none (show (args.map a.eval).size ≤ j by simp; omega), hj]
  have h4 : a.eval (.func f) = .func (.func f) #[] #[] := rfl
  refine wp_val (v := .b (.lit r)) (u := r) S hf ?_ (RepB.lit r hv.1) hK
  have := hv.2 W
  rw [← hargs] at this
  simp [execOp, ho, resolve, h4, Deferred.ofValue, invoke, this]

theorem eff_appendNilB {x y : Operand} {T el : TypeId} {v : V} {l : List B} {bytes : Nat} (hx : x = .const (.slice none 0 0)) (hy : ev s y = some v)
    (hr : res E v = some (.sl 1 l)) (hu : P.underlying T = some (.slice el)) (hs : szOf P el = some 1) (hb : (P.info? el).map (·.bytes) = some bytes) (hz : (zeroOf P el).map List.length = some 1) (hm : l.length * bytes ≤ 140737488355328) (hm' : l.length ≤ maxLen)
    (hlit : l.all B.isLit = true) (ho : o.op = .call { callee := .builtin .append, args := #[x, y], argTypes := #[T, T] }) (S : Sim w0 P0 E0 pl0 N E pl s a W) (hf : pl id = none)
    (hK : Next w0 P0 E0 pl0 pl N id s a o K E (.b (.sl 1 l))) : Oper.wp P o a W K Qx := by
  have hxv : a.eval x = .slice none 0 0 := by rw [hx]; rfl
  obtain ⟨ti, hti, hsz⟩ := info_of_sz hs
  have hrep := rep_src S hy hr
  by_cases h0 : l = []
  · subst h0
    generalize hq : a.eval y = q at hrep
    have hy' : ∃ sp c, q = .slice sp 0 c := by
      cases hrep with
      | nilsl => exact ⟨none, 0, rfl⟩
      | sl A n c _ _ f hl => exact ⟨some A, c, (show n = 0 by simpa using hl.symm) ▸ rfl⟩
    obtain ⟨sp, c, rfl⟩ := hy'
    have hfc : ∀ W : World, (Builtin.firstCells ti.size 0 (.slice sp 0 c)).run P W = .ok #[] W := fun W => by
      cases sp with
      | none => rw [run_firstCells_none]
      | some A => exact run_firstCells_some (P := P) W ti.size 0 A 0 c [] (by simp) (fun j u hj => by simp at hj)
    refine wp_val (v := .b (.sl 1 [])) (u := .slice none 0 0) S hf ?_ (RepB.nilsl 1 (by decide)) hK
    simp [execOp, ho, resolve, invoke, builtin, hq, hxv, Builtin.append_, run_underlying hu, sizeOf, typeInfo, hti, Builtin.lenOf, hfc]
  · have hby : ti.bytes = bytes := by simpa [hti] using hb
    obtain ⟨z, hz, hzl⟩ := Option.map_eq_some_iff.1 hz
    obtain ⟨ti', zv, hti', hz1, hz2⟩ := zeroOf_run hz
    rw [hti] at hti'
    injection hti' with hti'
    subst hti'
    have hpos : 0 < l.length := List.length_pos_iff.2 h0
    obtain ⟨A, sCap, hyv, f, hcell, hone, hrr⟩ : ∃ A sCap, a.eval y = .slice (some A) l.length sCap ∧ ∃ f : Nat → Value, (∀ j, j < l.length → W.cell? (A.add j) = some (f j)) ∧ (∀ j, j < l.length → (f j).oneCell' = true) ∧ ∀ j x, l[j]? = some x → RepB W (FF w0 P0) x (f j) := by
      generalize a.eval y = q at hrep
      cases hrep with
      | nilsl _ hs0 => exact absurd rfl h0
      | sl A m c _ _ f hl hc hm hs0 hqq hcell hone hrr =>
        have : m = l.length := by omega
        subst this
        exact ⟨A, c, rfl, f, hcell, hone, hrr⟩
    have hnl : ((List.range l.length).map f).length = l.length := by simp
    have hnews : ∀ j u, ((List.range l.length).map f)[j]? = some u → W.cell? (A.add j) = some u := fun j u hj => by
      have hjl := (List.getElem?_eq_some_iff.1 hj).1
      rw [hnl] at hjl
      simp [hjl] at hj
      rw [hcell j hjl, hj]
    have hgr := run_append_nil (P := P) W T o.type el ti zv hu hti hz1 A l.length sCap ((List.range l.length).map f) (by simp [hsz]) hnews hpos (by simp only [maxLen] at hm'; omega) (by rw [hby]; omega)
    have hge := grownCap_ge W l.length 0 el
    have hgm := grownCap_le_maxLen W l.length 0 el hm'
    have hrun : (execOp a.eval o).run P W = .ok (.value (.slice (some ⟨W.heap.size, 0, none⟩) l.length (grownCap W l.length 0 el))) (W.drew.alloc (.cells (((List.range l.length).map f).toArray ++ Builtin.zeroCells zv.cells (grownCap W l.length 0 el - l.length)) el)) := by
      simp only [execOp, ho, resolve, invoke, builtin, Sem.run_bind]
      simp [hxv, hyv, hgr]
    have Sd := drew_sim S
    have hsame : ∀ (ob : Obj) k, k < W.heap.size → (W.drew.alloc ob).heap[k]? = W.heap[k]? := fun ob k hk => by
      show (W.heap.push _)[k]? = _
      rw [Array.getElem?_push, if_neg (by omega)]
    have hh : ∀ k, Hot E pl k → Hot E pl k ∨ W.heap.size ≤ k := fun k hk => .inl hk
    have S1 : Sim w0 P0 E0 pl0 N E pl s a (W.drew.alloc (.cells (((List.range l.length).map f).toArray ++ Builtin.zeroCells zv.cells (grownCap W l.length 0 el - l.length)) el)) := by
      refine S.step (fun _ => False) rfl rfl rfl (by show W.heap.size ≤ (W.heap.push _).size; simp) (fun k hk _ => hsame _ k hk) (fun k h => h.elim) (fun _ _ h => h) hh ⟨fun i e he => ?_, S.eok.inj⟩
      exact (S.eok.ent i e he).move (fun _ => False) (fun k hk _ => hsame _ k hk) (fun k h => h.elim) (fun _ _ h => h) hh (fun _ _ _ h => h)
    unfold Oper.wp
    rw [hrun]
    refine hK _ _ _ S1 (fun i _ h => h) (RepB.sl ⟨W.heap.size, 0, none⟩ l.length _ 1 l f (by simp) hge hgm (by decide) (fun _ => ⟨.inr S.keep.size, fun hot => ?_⟩) (fun j hj => ?_) hone (fun j x hj => lit_rep (List.all_eq_true.1 hlit x (List.mem_of_getElem? hj)) (hrr j x hj)))
    · have := Hot.lt S.eok hot
      simp at this
    · rw [add_plain]
      have : (W.drew.alloc (.cells (((List.range l.length).map f).toArray ++ Builtin.zeroCells zv.cells (grownCap W l.length 0 el - l.length)) el)).heap[W.heap.size]? = some (.cells (((List.range l.length).map f).toArray ++ Builtin.zeroCells zv.cells (grownCap W l.length 0 el - l.length)) el (0, 0)) := by
        show (W.heap.push _)[W.heap.size]? = _
        simp
      simp only [World.cell?, this]
      simp only [Nat.zero_add]
      rw [Array.getElem?_append_left (by simp; exact hj)]
      simp [hj]

/-- Cells of an own row, to be copied. -/
theorem own_cellsV (S : Sim w0 P0 E0 pl0 N E pl s a W) {j m : Nat} {e : Ent} {y : Operand} {g c : Nat} (hp : pl j = some (g, c)) (hnc : m ≤ c) (hyv : a.eval y = .slice (some ⟨g, 0, none⟩) m c) (he : E j = some e) (hm : m * e.sz ≤ e.cells.length) :
    ∃ (g c : Nat) (us : List Value), a.eval y = .slice (some ⟨g, 0, none⟩) m c ∧ us.length = m * e.sz ∧ (∀ (q : Nat) (u : Value), us[q]? = some u → W.cell? ((⟨g, 0, none⟩ : Addr).add q) = some u) ∧
      ∀ (q : Nat) (x : V), (e.cells.take (m * e.sz))[q]? = some x → ∃ u : Value, us[q]? = some u ∧ u.oneCell' = true ∧ RepL W (Qf (FF w0 P0) E pl) pl x u := by
  obtain ⟨g', c', cur, T0, q1, q2, q3, q4, q5, q6, q7, q8⟩ := S.eok.ent j e he
  rw [hp] at q1
  injection q1 with q1
  injection q1 with q1 q1'
  subst q1; subst q1'
  refine ⟨g, c, cur.toList.take (m * e.sz), hyv, by simp; omega, fun q u hq => ?_, fun q x hq => ?_⟩
  · have hlt := (List.getElem?_eq_some_iff.1 hq).1
    simp at hlt
    rw [List.getElem?_take_of_lt (by omega), Array.getElem?_toList] at hq
    rw [add_plain]
    have hc0 : 0 < c := by
      cases c with
      | zero => rw [Nat.zero_mul] at q4; omega
      | succ c => omega
    simp [World.cell?, q2 hc0, hq]
  · have hlt := (List.getElem?_eq_some_iff.1 hq).1
    simp at hlt
    rw [List.getElem?_take_of_lt (by omega)] at hq
    obtain ⟨u, hu, hu1, hr⟩ := q8 q x hq
    exact ⟨u, by rw [List.getElem?_take_of_lt (by omega), Array.getElem?_toList]; exact hu, hu1, hr⟩
theorem own_cells (S : Sim w0 P0 E0 pl0 N E pl s a W) {j m : Nat} {e : Ent} {y : Operand} (hy : ev s y = some (.own j m)) (he : E j = some e) (hm : m * e.sz ≤ e.cells.length) :
    ∃ (g c : Nat) (us : List Value), a.eval y = .slice (some ⟨g, 0, none⟩) m c ∧ us.length = m * e.sz ∧ (∀ (q : Nat) (u : Value), us[q]? = some u → W.cell? ((⟨g, 0, none⟩ : Addr).add q) = some u) ∧
      ∀ (q : Nat) (x : V), (e.cells.take (m * e.sz))[q]? = some x → ∃ u : Value, us[q]? = some u ∧ u.oneCell' = true ∧ RepL W (Qf (FF w0 P0) E pl) pl x u := by
  let ⟨g, c, hp, hnc, hyv⟩ := S.ev hy
  exact own_cellsV S hp hnc hyv he hm
theorem own_one (S : Sim w0 P0 E0 pl0 N E pl s a W) {us : List Value} {l : List V} (hl : us.length = l.length) (h : ∀ (q : Nat) (x : V), l[q]? = some x → ∃ u : Value, us[q]? = some u ∧ u.oneCell' = true ∧ RepL W (Qf (FF w0 P0) E pl) pl x u) : ∀ u ∈ us, u.oneCell' = true := fun u hu => by
  obtain ⟨q, hq⟩ := List.mem_iff_getElem?.1 hu
  have hql := (List.getElem?_eq_some_iff.1 hq).1
  obtain ⟨u', hu', h1, _⟩ := h q _ (List.getElem?_eq_getElem (show q < l.length by omega))
  rw [hq] at hu'
  injection hu' with hu'
  rw [hu']; exact h1
theorem eff_appendNOV {x y : Operand} {T el : TypeId} {j m : Nat} {e2 : Ent} {bytes : Nat} (hy : ev s y = some (.own j m)) (he2 : E j = some e2) (hm2 : m * e2.sz ≤ e2.cells.length) (h0 : 0 < m)
    (hu : P.underlying T = some (.slice el)) (hs : szOf P el = some e2.sz) (hb : (P.info? el).map (·.bytes) = some bytes) (hz : (zeroOf P el).map List.length = some e2.sz) (hm : m * bytes ≤ 140737488355328) (hm' : m ≤ maxLen)
    (ho : o.op = .call { callee := .builtin .append, args := #[x, y], argTypes := #[T, T] }) (S : Sim w0 P0 E0 pl0 N E pl s a W) (hxv : a.eval x = .slice none 0 0) (hf : pl id = none)
    (hK : Next w0 P0 E0 pl0 pl N id s a o K (setAt E id (some ⟨e2.sz, e2.cells.take (m * e2.sz), true⟩)) (.own id m)) : Oper.wp P o a W K Qx := by
  obtain ⟨g, c, us, hyv, hul, hcell, hus⟩ := own_cells S hy he2 hm2
  obtain ⟨_, _, _, _, _, _, _, _, _, _, hpos, _⟩ := S.eok.ent j e2 he2
  exact eff_appendNilX (new := e2.cells.take (m * e2.sz)) hxv hpos.1 hyv hul (fun _ => ⟨_, rfl, hcell⟩) (own_one S (by rw [hul, List.length_take]; omega) hus) h0 (by rw [hul, List.length_take]; omega) (fun q x hq => let ⟨u, e1, _, e2⟩ := hus q x hq; ⟨u, e1, e2⟩) hu hs hb hz hm hm' ho S hf (fun g' c' pl1 W1 S1 h2 h3 h4 => hK _ pl1 W1 S1 h2 ⟨g', c', h3, h4, rfl⟩)
theorem eff_appendNO {x y : Operand} {T el : TypeId} {j m : Nat} {e2 : Ent} {bytes : Nat} (hx : ev s x = some (.b .nil)) (hy : ev s y = some (.own j m)) (he2 : E j = some e2) (hm2 : m * e2.sz ≤ e2.cells.length) (h0 : 0 < m)
    (hu : P.underlying T = some (.slice el)) (hs : szOf P el = some e2.sz) (hb : (P.info? el).map (·.bytes) = some bytes) (hz : (zeroOf P el).map List.length = some e2.sz) (hm : m * bytes ≤ 140737488355328) (hm' : m ≤ maxLen)
    (ho : o.op = .call { callee := .builtin .append, args := #[x, y], argTypes := #[T, T] }) (S : Sim w0 P0 E0 pl0 N E pl s a W) (hf : pl id = none)
    (hK : Next w0 P0 E0 pl0 pl N id s a o K (setAt E id (some ⟨e2.sz, e2.cells.take (m * e2.sz), true⟩)) (.own id m)) : Oper.wp P o a W K Qx := by
  have hxv : a.eval x = .slice none 0 0 := by
    have h : RepB W (Qf (FF w0 P0) E pl) .nil (a.eval x) := S.ev hx
    generalize a.eval x = q at h
    cases h; rfl
  exact eff_appendNOV hy he2 hm2 h0 hu hs hb hz hm hm' ho S hxv hf hK

theorem eff_appendOO {x y : Operand} {T el : TypeId} {i n : Nat} {e : Ent} {j m : Nat} {e2 : Ent} {bytes : Nat} (hx : ev s x = some (.own i n)) (he : E i = some e) (hh : e.hot = true) (hn : e.cells.length = n * e.sz) (hy : ev s y = some (.own j m)) (he2 : E j = some e2)
    (hes : e2.sz = e.sz) (hm2 : m * e.sz ≤ e2.cells.length) (hij : j ≠ i) (h0 : 0 < m)
    (hu : P.underlying T = some (.slice el)) (hs : szOf P el = some e.sz) (hb : (P.info? el).map (·.bytes) = some bytes) (hz : (zeroOf P el).map List.length = some e.sz) (hm : (n + m) * bytes ≤ 140737488355328) (hm' : n + m ≤ maxLen)
    (ho : o.op = .call { callee := .builtin .append, args := #[x, y], argTypes := #[T, T] }) (S : Sim w0 P0 E0 pl0 N E pl s a W) (hf : pl id = none)
    (hK : Next w0 P0 E0 pl0 pl N id s a o K (setAt (setAt E i none) id (some ⟨e.sz, e.cells ++ e2.cells.take (m * e.sz), true⟩)) (.own id (n + m))) : Oper.wp P o a W K Qx := by
  obtain ⟨g, c, hp, hnc, hxv⟩ := S.ev hx
  obtain ⟨g2, c2, us, hyv, hul, hcell, hus⟩ := own_cells S hy he2 (by rw [hes]; exact hm2)
  rw [hes] at hul hus
  refine eff_appendX (new := e2.cells.take (m * e.sz)) hp hnc hxv he hh hn hyv hul (fun _ => ⟨_, rfl, hcell⟩) (own_one S (by rw [hul, List.length_take]; omega) hus) (by rw [hul, List.length_take]; omega) (fun q x hq => let ⟨u, e1, _, e2⟩ := hus q x hq; ⟨u, e1, e2⟩) hu hs hb hz hm hm' ho S hf (fun g' c' pl1 W1 S1 h2 h3 h4 h5 => hK _ pl1 W1 S1 h2 ⟨g', c', h3, h4, rfl⟩)
end
end Go.VL
