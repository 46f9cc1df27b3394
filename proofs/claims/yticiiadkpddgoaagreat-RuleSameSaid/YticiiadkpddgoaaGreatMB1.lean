import Derived.Calls
import Derived.Below
import Derived.Laws.AppendOwn
import Derived.Laws.MakeOwn
import Derived.DeepKeys
import Derived.Laws.StructEq
/- Pure data for the calls of a Go program, and what it means that a value encodes such data in a memory: the abstract domain. -/
set_option linter.unusedSimpArgs false
set_option linter.unusedVariables false
namespace Go.Abs
open Go Go.RowKit

/-- Pure data. 'fsl': a slice by value, never to be written; 'osl': a slice of the call's own; 'ptr': into a block of the call's own; 'fptr': a pointer by value, never written through; 'nsl': a fresh slice among results; 'ubool p': a truth value that, if true, means p. -/
inductive D where
  | undef
  | void
  | int (k : IntKind) (n : Int)
  | bool (b : Bool)
  | str (s : ByteArray)
  | agg (cs : List D)
  | tup (vs : List D)
  | fsl (sz : Nat) (rows : List (List D))
  | nil
  | osl (id ver : Nat)
  | ptr (id ver row col : Nat)
  | fptr (cells : List D) (col : Nat)
  | fn (f : FuncId) (caps : List D)
  | nsl (ty sz : Nat) (rows : List (List D))
  | ubool (p : Prop)

instance : Inhabited D := ⟨.undef⟩

/-- May stand in a cell of a slice by value. -/
def D.pc : D → Bool
  | .int _ _ | .bool _ | .str _ | .nil | .fsl _ _ => true
  | _ => false

/-- The bound on lengths: 2^47. -/
def lim : Nat := 140737488355328

abbrev getC (r : List D) (j : Nat) : D := r.getD j .undef
abbrev getR (rows : List (List D)) (i : Nat) : List D := rows.getD i []

/-- Value 'v' encodes 'd' in world 'w'; what it reads lies in blocks outside 'Z'; own slices by 'E', own pointers by 'F'. -/
inductive Enc (w : World) (Z : Nat → Prop) (E : Nat → Nat → Value → Prop) (F : Nat → Nat → Nat → Nat → Value → Prop) : D → Value → Prop
  | undef (v : Value) : Enc w Z E F .undef v
  | void : Enc w Z E F .void Go.undef
  | int (k : IntKind) (n : Int) (h : k.has n) : Enc w Z E F (.int k n) (.int k n)
  | bool (b : Bool) : Enc w Z E F (.bool b) (.bool b)
  | str (s : ByteArray) (h : s.size ≤ lim) : Enc w Z E F (.str s) (.string s)
  | agg (cs : List D) (vs : Array Value) (hs : vs.size = cs.length) (h1 : ∀ i, i < cs.length → (vs.getD i Go.undef).oneCell' = true) (h : ∀ i, i < cs.length → Enc w Z E F (getC cs i) (vs.getD i Go.undef)) : Enc w Z E F (.agg cs) (.agg vs)
  | tup (cs : List D) (vs : Array Value) (hs : vs.size = cs.length) (h : ∀ i, i < cs.length → Enc w Z E F (getC cs i) (vs.getD i Go.undef)) : Enc w Z E F (.tup cs) (.tuple vs)
  | fslNil (sz : Nat) : Enc w Z E F (.fsl sz []) (.slice none 0 0)
  | fslE (sz : Nat) (a : Addr) (c : Nat) : Enc w Z E F (.fsl sz []) (.slice (some a) 0 c)
  | ubool (p : Prop) (b : Bool) (h : b = true → p) : Enc w Z E F (.ubool p) (.bool b)
  | fsl (sz : Nat) (rows : List (List D)) (b off c : Nat) (cv : Nat → Nat → Value) (hc : rows.length ≤ c) (hl : rows.length ≤ lim) (hr : ∀ r ∈ rows, r.length = sz ∧ ∀ d ∈ r, D.pc d = true)
      (hz : ∀ i j, i < rows.length → j < sz → ¬ Z b) (hcell : ∀ i j, i < rows.length → j < sz → w.cell? ⟨b, off + (i * sz + j), none⟩ = some (cv i j))
      (h1 : ∀ i j, i < rows.length → j < sz → (cv i j).oneCell' = true)
      (h : ∀ i j, i < rows.length → j < sz → Enc w Z E F (getC (getR rows i) j) (cv i j)) : Enc w Z E F (.fsl sz rows) (.slice (some ⟨b, off, none⟩) rows.length c)
  | nil : Enc w Z E F .nil (.slice none 0 0)
  | osl (id ver : Nat) (v : Value) (h : E id ver v) : Enc w Z E F (.osl id ver) v
  | ptr (id ver row col : Nat) (v : Value) (h : F id ver row col v) : Enc w Z E F (.ptr id ver row col) v
  | fptr (cells : List D) (col b off : Nat) (cv : Nat → Value) (hr : ∀ d ∈ cells, D.pc d = true) (hz : ∀ j, j < cells.length → ¬ Z b) (hcell : ∀ j, j < cells.length → w.cell? ⟨b, off + j, none⟩ = some (cv j))
      (h1 : ∀ j, j < cells.length → (cv j).oneCell' = true)
      (h : ∀ j, j < cells.length → Enc w Z E F (getC cells j) (cv j)) : Enc w Z E F (.fptr cells col) (.pointer (some ⟨b, off + col, none⟩))
  | fn (f : FuncId) (caps : List D) (vs : Array Value) (hs : vs.size = caps.length) (h : ∀ i, i < caps.length → Enc w Z E F (getC caps i) (vs.getD i Go.undef)) : Enc w Z E F (.fn f caps) (.func (.func f) #[] vs)

section
variable {w w' : World} {Z Z' : Nat → Prop} {E E' : Nat → Nat → Value → Prop} {F F' : Nat → Nat → Nat → Nat → Value → Prop}

theorem cell_lt {w : World} {a : Addr} {v : Value} (h : w.cell? a = some v) : a.block < w.heap.size := World.block_lt_of_cell? w a h

/-- What is encoded stays so where the blocks outside 'Z' stay as they are. -/
theorem Enc.mono {d : D} {v : Value} (h : Enc w Z E F d v) (hb : ∀ b, ¬ Z b → b < w.heap.size → w'.heap[b]? = w.heap[b]? ∧ ¬ Z' b)
    (hE : ∀ i ver v, E i ver v → E' i ver v) (hF : ∀ i ver r c v, F i ver r c v → F' i ver r c v) : Enc w' Z' E' F' d v := by
  have hcl : ∀ {a : Addr} {u : Value}, ¬ Z a.block → w.cell? a = some u → w'.cell? a = some u := fun {a u} hz hc => by
    rw [World.cell?_of_block (w := w) (hb a.block hz (cell_lt hc)).1]; exact hc
  induction h with
  | undef v => exact .undef v
  | void => exact .void
  | int k n h => exact .int k n h
  | bool b => exact .bool b
  | str s h => exact .str s h
  | agg cs vs hs h1 _ ih => exact .agg cs vs hs h1 ih
  | tup cs vs hs _ ih => exact .tup cs vs hs ih
  | fslNil sz => exact .fslNil sz
  | fslE sz a c => exact .fslE sz a c
  | ubool p b h => exact .ubool p b h
  | fsl sz rows b off c cv hc hl hr hz hcell h1 _ ih =>
    exact .fsl sz rows b off c cv hc hl hr (fun i j hi hj => (hb b (hz i j hi hj) (cell_lt (hcell i j hi hj))).2) (fun i j hi hj => hcl (hz i j hi hj) (hcell i j hi hj)) h1 ih
  | nil => exact .nil
  | osl id ver v h => exact .osl id ver v (hE _ _ _ h)
  | ptr id ver row col v h => exact .ptr id ver row col v (hF _ _ _ _ _ h)
  | fptr cells col b off cv hr hz hcell h1 _ ih =>
    exact .fptr cells col b off cv hr (fun j hj => (hb b (hz j hj) (cell_lt (hcell j hj))).2) (fun j hj => hcl (hz j hj) (hcell j hj)) h1 ih
  | fn f caps vs hs _ ih => exact .fn f caps vs hs ih

def noE : Nat → Nat → Value → Prop := fun _ _ _ => False
def noF : Nat → Nat → Nat → Nat → Value → Prop := fun _ _ _ _ _ => False

/-- Data without own parts. -/
inductive Pure : D → Prop
  | undef : Pure .undef
  | void : Pure .void
  | int (k : IntKind) (n : Int) : Pure (.int k n)
  | bool (b : Bool) : Pure (.bool b)
  | str (s : ByteArray) : Pure (.str s)
  | agg (cs : List D) (h : ∀ i, i < cs.length → Pure (getC cs i)) : Pure (.agg cs)
  | tup (cs : List D) (h : ∀ i, i < cs.length → Pure (getC cs i)) : Pure (.tup cs)
  | fsl (sz : Nat) (rows : List (List D)) : Pure (.fsl sz rows)
  | nil : Pure .nil
  | ubool (p : Prop) : Pure (.ubool p)
  | fptr (cells : List D) (col : Nat) : Pure (.fptr cells col)
  | fn (f : FuncId) (caps : List D) (h : ∀ i, i < caps.length → Pure (getC caps i)) : Pure (.fn f caps)

theorem getC_mem {r : List D} {j : Nat} (h : j < r.length) : getC r j ∈ r := by
  unfold getC; rw [List.getD_eq_getElem?_getD, List.getElem?_eq_getElem h]; exact List.getElem_mem h

theorem getR_mem {r : List (List D)} {j : Nat} (h : j < r.length) : getR r j ∈ r := by
  unfold getR; rw [List.getD_eq_getElem?_getD, List.getElem?_eq_getElem h]; exact List.getElem_mem h

/-- A pure cell asks nothing of own slices and pointers. -/
theorem Enc.ofPc {d : D} {v : Value} (h : Enc w Z E F d v) : d.pc = true → Enc w Z E' F' d v := by
  induction h with
  | undef v => intro hp; simp [D.pc] at hp
  | void => intro hp; simp [D.pc] at hp
  | int k n h => intro _; exact .int k n h
  | bool b => intro _; exact .bool b
  | str s h => intro _; exact .str s h
  | agg cs vs hs h1 _ ih => intro hp; simp [D.pc] at hp
  | tup cs vs hs _ ih => intro hp; simp [D.pc] at hp
  | fslNil sz => intro _; exact .fslNil sz
  | fslE sz a c => intro _; exact .fslE sz a c
  | ubool p b h => intro hp; simp [D.pc] at hp
  | fsl sz rows b off c cv hc hl hr hz hcell h1 _ ih =>
    intro _
    exact .fsl sz rows b off c cv hc hl hr hz hcell h1 fun i j hi hj => ih i j hi hj (by
      have hm := hr _ (getR_mem hi)
      exact hm.2 _ (getC_mem (by rw [hm.1]; exact hj)))
  | nil => intro _; exact .nil
  | osl id ver v h => intro hp; simp [D.pc] at hp
  | ptr id ver row col v h => intro hp; simp [D.pc] at hp
  | fptr cells col b off cv hr hz hcell h1 _ ih => intro hp; simp [D.pc] at hp
  | fn f caps vs hs _ ih => intro hp; simp [D.pc] at hp

theorem Enc.ofPure {d : D} {v : Value} (h : Enc w Z E F d v) : Pure d → Enc w Z E' F' d v := by
  induction h with
  | undef v => intro _; exact .undef v
  | void => intro _; exact .void
  | int k n h => intro _; exact .int k n h
  | bool b => intro _; exact .bool b
  | str s h => intro _; exact .str s h
  | agg cs vs hs h1 _ ih => intro hp; cases hp with | agg _ h => exact .agg cs vs hs h1 fun i hi => ih i hi (h i hi)
  | tup cs vs hs _ ih => intro hp; cases hp with | tup _ h => exact .tup cs vs hs fun i hi => ih i hi (h i hi)
  | fslNil sz => intro _; exact .fslNil sz
  | fslE sz a c => intro _; exact .fslE sz a c
  | ubool p b h => intro _; exact .ubool p b h
  | fsl sz rows b off c cv hc hl hr hz hcell h1 h0 ih =>
    intro _
    exact .fsl sz rows b off c cv hc hl hr hz hcell h1 fun i j hi hj => (h0 i j hi hj).ofPc (by
      have hm := hr _ (getR_mem hi)
      exact hm.2 _ (getC_mem (by rw [hm.1]; exact hj)))
  | nil => intro _; exact .nil
  | osl id ver v h => intro hp; cases hp
  | ptr id ver row col v h => intro hp; cases hp
  | fptr cells col b off cv hr hz hcell h1 h0 ih => intro _; exact .fptr cells col b off cv hr hz hcell h1 fun j hj => (h0 j hj).ofPc (hr _ (getC_mem hj))
  | fn f caps vs hs _ ih => intro hp; cases hp with | fn _ _ h => exact .fn f caps vs hs fun i hi => ih i hi (h i hi)

theorem Enc.oneCell {d : D} {v : Value} (h : Enc w Z E F d v) (hp : d.pc = true) : v.oneCell' = true := by
  cases h <;> first | rfl | (simp [D.pc] at hp)

end
end Go.Abs
/- Abstract states of a call: slots and blocks of the call's own; how a frame and a memory realise them. -/
namespace Go.Abs
open Go Go.RowKit

/-- A block of the call's own: its version, whether it may still be written, is it a variable (else a slice), cells of an element, the element's type, the elements. -/
structure Ob where
  ver : Nat
  mt : Bool
  box : Bool
  sz : Nat
  ty : TypeId
  rows : List (List D)

abbrev Obs := List (Nat × Ob)

def look : Obs → Nat → Option Ob
  | [], _ => none
  | (i, o) :: r, n => if i = n then some o else look r n

def lookD : List (Nat × D) → Nat → D
  | [], _ => .undef
  | (i, d) :: r, n => if i = n then d else lookD r n

structure AS where
  nt : Nat
  sl : List (Nat × D)
  ob : Obs

def AS.get (s : AS) (n : Nat) : D := lookD s.sl n
def AS.look (s : AS) (id : Nat) : Option Ob := Abs.look s.ob id

def blk : Value → Option Nat
  | .slice (some a) _ _ => some a.block
  | .pointer (some a) => some a.block
  | _ => none

/-- What a slice of the call's own, or a pointer, is. -/
def oslE (ob : Obs) (φ : Nat → Value) (id ver : Nat) (v : Value) : Prop := ∃ o, look ob id = some o ∧ ver ≤ o.ver ∧ (o.ver = ver → v = φ id) ∧ v.oneCell' = true
def ptrF (ob : Obs) (φ : Nat → Value) (id ver row col : Nat) (v : Value) : Prop :=
  ∃ o, look ob id = some o ∧ ver ≤ o.ver ∧ (o.ver = ver → ∃ b, blk (φ id) = some b ∧ v = .pointer (some ⟨b, row * o.sz + col, none⟩)) ∧ v.oneCell' = true

/-- The blocks that may be written. -/
def ZZ (Z0 : Nat → Prop) (ob : Obs) (φ : Nat → Value) (b : Nat) : Prop := Z0 b ∨ ∃ i o, look ob i = some o ∧ o.mt = true ∧ blk (φ i) = some b

abbrev EncS (w : World) (Z0 : Nat → Prop) (ob : Obs) (φ : Nat → Value) : D → Value → Prop := Enc w (ZZ Z0 ob φ) (oslE ob φ) (ptrF ob φ)

/-- Rows of elements as a list of cells. -/
structure RowsEnc (R : D → Value → Prop) (sz : Nat) (rows : List (List D)) (xs : List Value) : Prop where
  len : xs.length = rows.length * sz
  row : ∀ r ∈ rows, r.length = sz
  enc : ∀ i j, i < rows.length → j < sz → R (getC (getR rows i) j) (xs.getD (i * sz + j) Go.undef)
  one : ∀ x ∈ xs, x.oneCell' = true
  lim : rows.length ≤ lim

/-- A block of the call's own in memory. -/
structure ObOk (w : World) (base : Nat) (R : D → Value → Prop) (v : Value) (o : Ob) : Prop where
  pure : o.box = false → ∀ r ∈ o.rows, ∀ d ∈ r, D.pc d = true
  there : ∃ xs, RowsEnc R o.sz o.rows xs ∧ (o.box = false → w.ownsRow base o.ty o.sz v o.rows.length xs) ∧
    (o.box = true → ∃ b, v = .pointer (some ⟨b, 0, none⟩) ∧ base ≤ b ∧ w.heap[b]? = some (.cells xs.toArray o.ty (0, 0)))

structure Good (w : World) (base : Nat) (Z0 : Nat → Prop) (ob : Obs) (φ : Nat → Value) : Prop where
  inj : ∀ i j oi oj b, look ob i = some oi → look ob j = some oj → blk (φ i) = some b → blk (φ j) = some b → i = j
  ok : ∀ i o, look ob i = some o → ObOk w base (EncS w Z0 ob φ) (φ i) o

/-- The frame and the memory realise the abstract state. -/
structure RelF (w0 : World) (Z0 : Nat → Prop) (φ : Nat → Value) (s : AS) (a : Act) (w : World) : Prop where
  size : a.tmps.size = s.nt
  defers : a.defers = []
  slot : ∀ n, EncS w Z0 s.ob φ (s.get n) (a.tmps.getD n Go.undef)
  good : Good w w0.heap.size Z0 s.ob φ
  below : Below w0.heap.size w0 w
  amb : ∀ b, Z0 b → b < w0.heap.size

def Rel (w0 : World) (Z0 : Nat → Prop) (s : AS) (a : Act) (w : World) : Prop := ∃ φ, RelF w0 Z0 φ s a w

/-- Updates: of a slot, of a block. -/
inductive Upd where
  | slot (n : Nat) (d : D)
  | ob (id : Nat) (o : Ob)

def AS.app (s : AS) : List Upd → AS
  | [] => s
  | .slot n d :: r => AS.app { s with sl := (n, d) :: s.sl } r
  | .ob id o :: r => AS.app { s with ob := (id, o) :: s.ob } r

section
variable {w w' w0 : World} {Z0 : Nat → Prop} {φ : Nat → Value} {s : AS} {a : Act} {base : Nat} {ob : Obs}

theorem ObOk.block_ge {R : D → Value → Prop} {v : Value} {o : Ob} (h : ObOk w base R v o) {b : Nat} (hb : blk v = some b) : base ≤ b ∧ b < w.heap.size := by
  obtain ⟨xs, _, hs, hp⟩ := h.there
  cases hbox : o.box with
  | true =>
    obtain ⟨b', rfl, hge, hh⟩ := hp hbox
    simp [blk] at hb; subst hb
    exact ⟨hge, (Array.getElem?_eq_some_iff.1 hh).1⟩
  | false =>
    have hown := hs hbox
    apply hown.lt
    rcases hown.2 with ⟨rfl, _⟩ | ⟨g, cap, cur, rfl, _⟩
    · simp [blk] at hb
    · simpa [blk, Value.ownBlock] using hb

theorem RowsEnc.mono {R R' : D → Value → Prop} {sz : Nat} {rows : List (List D)} {xs : List Value} (h : RowsEnc R sz rows xs) (hR : ∀ d v, R d v → R' d v) : RowsEnc R' sz rows xs :=
  ⟨h.len, h.row, fun i j hi hj => hR _ _ (h.enc i j hi hj), h.one, h.lim⟩

/-- An own block stays realised in a world in which its block is as it was. -/
theorem ObOk.mono {R R' : D → Value → Prop} {v : Value} {o : Ob} (h : ObOk w base R v o) (hR : ∀ d v, R d v → R' d v) (hb : ∀ b, blk v = some b → w'.heap[b]? = w.heap[b]?) : ObOk w' base R' v o := by
  obtain ⟨xs, hx, hs, hp⟩ := h.there
  refine ⟨h.pure, xs, hx.mono hR, fun hbox => ?_, fun hbox => ?_⟩
  · have hown := hs hbox
    refine ⟨hown.1, ?_⟩
    rcases hown.2 with hn | ⟨g, cap, cur, rfl, hge, hg, rest⟩
    · exact .inl hn
    · exact .inr ⟨g, cap, cur, rfl, hge, by rw [hb g rfl]; exact hg, rest⟩
  · obtain ⟨b, rfl, hge, hh⟩ := hp hbox
    exact ⟨b, rfl, hge, by rw [hb b rfl]; exact hh⟩

/-- A step of the world that leaves every block as it was (new ones may come): all stays realised. -/
theorem Good.grow (h : Good w base Z0 ob φ) (hb : ∀ b, b < w.heap.size → w'.heap[b]? = w.heap[b]?) : Good w' base Z0 ob φ := by
  refine ⟨h.inj, fun i o hi => (h.ok i o hi).mono (fun d v hd => ?_) (fun b hbk => hb b ((h.ok i o hi).block_ge hbk).2)⟩
  exact hd.mono (fun b hz hlt => ⟨hb b hlt, hz⟩) (fun _ _ _ h => h) (fun _ _ _ _ _ h => h)

theorem Enc.grow {Z : Nat → Prop} {E : Nat → Nat → Value → Prop} {F : Nat → Nat → Nat → Nat → Value → Prop} {d : D} {v : Value} (h : Enc w Z E F d v) (hb : ∀ b, b < w.heap.size → w'.heap[b]? = w.heap[b]?) : Enc w' Z E F d v :=
  h.mono (fun b hz hlt => ⟨hb b hlt, hz⟩) (fun _ _ _ h => h) (fun _ _ _ _ _ h => h)

theorem RelF.grow (h : RelF w0 Z0 φ s a w) (hb : Below w.heap.size w w') : RelF w0 Z0 φ s a w' :=
  ⟨h.size, h.defers, fun n => (h.slot n).grow (fun b hlt => hb.block b hlt), h.good.grow (fun b hlt => hb.block b hlt), h.below.trans (hb.mono h.below.size), h.amb⟩

theorem lookD_put (l : List (Nat × D)) (n m : Nat) (d : D) : lookD ((n, d) :: l) m = if n = m then d else lookD l m := rfl

theorem look_put (l : Obs) (n m : Nat) (d : Ob) : look ((n, d) :: l) m = if n = m then some d else look l m := rfl

theorem getD_put (a : Act) (n m : Nat) (v : Value) (hn : n < a.tmps.size) : (a.put (some n) v).tmps.getD m Go.undef = if n = m then v else a.tmps.getD m Go.undef := by
  simp only [Act.put, Array.getD_eq_getD_getElem?, Array.getElem?_setIfInBounds]
  split
  · rename_i h; subst h; simp [hn]
  · rfl

/-- A slot is filled. -/
theorem RelF.put (h : RelF w0 Z0 φ s a w) {n : Nat} {d : D} {v : Value} (hn : n < s.nt) (hd : EncS w Z0 s.ob φ d v) : RelF w0 Z0 φ { s with sl := (n, d) :: s.sl } (a.put (some n) v) w := by
  refine ⟨by simpa [Act.put] using h.size, h.defers, fun m => ?_, h.good, h.below, h.amb⟩
  rw [getD_put a n m v (by rw [h.size]; exact hn)]
  show EncS w Z0 s.ob φ (lookD ((n, d) :: s.sl) m) _
  rw [lookD_put]
  split
  · exact hd
  · exact h.slot m

/-- Fewer slots are known. -/
theorem RelF.weaken (h : RelF w0 Z0 φ s a w) {sl : List (Nat × D)} (hs : ∀ n, lookD sl n = s.get n ∨ lookD sl n = .undef) : RelF w0 Z0 φ { s with sl := sl } a w := by
  refine ⟨h.size, h.defers, fun n => ?_, h.good, h.below, h.amb⟩
  show EncS w Z0 s.ob φ (lookD sl n) _
  rcases hs n with e | e
  · rw [e]; exact h.slot n
  · rw [e]; exact .undef _

end
end Go.Abs
/- What an operation does to an abstract state: a reader that yields updates; the first operations. -/
namespace Go.Abs
open Go Go.RowKit

/-- The contract of a function on pure data is a parameter here: 'C f args result'. -/
abbrev Cons := FuncId → List D → D → Prop

inductive AR where
  | fail
  | ret (ups : List Upd)
  | get (n : Nat) (k : D → AR)
  | look (id : Nat) (k : Option Ob → AR)
  | req (p : Prop) (k : AR)
  | call (f : FuncId) (ds : List D) (k : D → AR)

inductive Loc where
  | slot (n : Nat)
  | ob (id : Nat)
  deriving DecidableEq

def AR.Ev (C : Cons) : AR → AS → List Upd → List Loc → Prop
  | .fail, _, _, _ => False
  | .ret u, _, ups, R => ups = u ∧ R = []
  | .get n k, s, ups, R => ∃ R', R = .slot n :: R' ∧ AR.Ev C (k (s.get n)) s ups R'
  | .look id k, s, ups, R => ∃ R', R = .ob id :: R' ∧ AR.Ev C (k (s.look id)) s ups R'
  | .req p k, s, ups, R => p ∧ AR.Ev C k s ups R
  | .call f ds k, s, ups, R => ∃ r, C f ds r ∧ AR.Ev C (k r) s ups R

/-- The same, as a condition on what follows: for the walk. -/
def AR.wp (C : Cons) : AR → AS → List Loc → (List Upd → List Loc → Prop) → Prop
  | .fail, _, _, _ => False
  | .ret u, _, R, K => K u R
  | .get n k, s, R, K => AR.wp C (k (s.get n)) s (.slot n :: R) K
  | .look id k, s, R, K => AR.wp C (k (s.look id)) s (.ob id :: R) K
  | .req p k, s, R, K => p ∧ (p → AR.wp C k s R K)
  | .call f ds k, s, R, K => ∃ r, C f ds r ∧ AR.wp C (k r) s R K

theorem AR.ev_of_wp {C : Cons} : ∀ (m : AR) {s : AS} {R : List Loc} {K : List Upd → List Loc → Prop}, m.wp C s R K → ∃ ups R', m.Ev C s ups R' ∧ K ups (R'.reverse ++ R)
  | .fail, _, _, _, h => h.elim
  | .ret u, _, _, _, h => ⟨u, [], ⟨rfl, rfl⟩, h⟩
  | .get n k, s, R, K, h => by
    obtain ⟨ups, R', h1, h2⟩ := AR.ev_of_wp (k (s.get n)) h
    exact ⟨ups, _, ⟨R', rfl, h1⟩, by simpa using h2⟩
  | .look n k, s, R, K, h => by
    obtain ⟨ups, R', h1, h2⟩ := AR.ev_of_wp (k (s.look n)) h
    exact ⟨ups, _, ⟨R', rfl, h1⟩, by simpa using h2⟩
  | .req p k, s, R, K, h => by
    obtain ⟨ups, R', h1, h2⟩ := AR.ev_of_wp k (h.2 h.1)
    exact ⟨ups, R', ⟨h.1, h1⟩, h2⟩
  | .call f ds k, s, R, K, ⟨r, hr, h⟩ => by
    obtain ⟨ups, R', h1, h2⟩ := AR.ev_of_wp (k r) h
    exact ⟨ups, R', ⟨r, hr, h1⟩, h2⟩

def AS.at (s : AS) : Loc → D ⊕ Option Ob
  | .slot n => .inl (s.get n)
  | .ob id => .inr (s.look id)

/-- A reader sees what it reads, and nothing else. -/
theorem AR.Ev.local {C : Cons} : ∀ (m : AR) {s t : AS} {ups : List Upd} {R : List Loc}, m.Ev C s ups R → (∀ l ∈ R, t.at l = s.at l) → m.Ev C t ups R
  | .fail, _, _, _, _, h, _ => h.elim
  | .ret _, _, _, _, _, h, _ => h
  | .get n k, s, t, ups, R, ⟨R', e, h⟩, ha => by
    subst e
    have h0 : t.get n = s.get n := by have := ha (.slot n) (by simp); simpa [AS.at] using this
    exact ⟨R', rfl, by rw [h0]; exact AR.Ev.local _ h fun l hl => ha l (by simp [hl])⟩
  | .look n k, s, t, ups, R, ⟨R', e, h⟩, ha => by
    subst e
    have h0 : t.look n = s.look n := by have := ha (.ob n) (by simp); simpa [AS.at] using this
    exact ⟨R', rfl, by rw [h0]; exact AR.Ev.local _ h fun l hl => ha l (by simp [hl])⟩
  | .req p k, s, t, ups, R, ⟨hp, h⟩, ha => ⟨hp, AR.Ev.local k h ha⟩
  | .call f ds k, s, t, ups, R, ⟨r, hr, h⟩, ha => ⟨r, hr, AR.Ev.local (k r) h ha⟩

/-! ### Types -/

inductive TD where
  | int (k : IntKind)
  | bool
  | str
  | sl (e : TypeId)
  | st (fs : List (Nat × TypeId))
  | other

structure TI where
  sz : Nat
  bytes : Nat
  td : TD
  zero : Option (List D)

/-- The types; the functions that are met as working in place; the structs of whole numbers that are compared, with the kinds of their cells. -/
structure Tab where
  ts : List (TypeId × TI)
  inp : List FuncId
  keys : List (TypeId × List IntKind)

def klookL : List (TypeId × List IntKind) → TypeId → Option (List IntKind)
  | [], _ => none
  | (i, o) :: r, n => if i = n then some o else klookL r n

def klook (T : Tab) (n : TypeId) : Option (List IntKind) := klookL T.keys n

/-- The kinds of the cells of fields, one behind the other. -/
def flatF (P : Program) (g : TypeId → Option (List IntKind)) : Nat → List Field → Option (List IntKind)
  | _, [] => some []
  | o, f :: r => match g f.type with
    | some ks => if f.offset = o ∧ P.cellsOf f.type = ks.length then (flatF P g (o + ks.length) r).map (ks ++ ·) else none
    | none => none

/-- The kinds of the cells of a type that has whole numbers alone. -/
def flatK (P : Program) : Nat → TypeId → Option (List IntKind)
  | 0, _ => none
  | d + 1, t => match P.underlying t with
    | some (.int q) => some [q]
    | some (.struct fs) => match flatF P (flatK P d) 0 fs.toList with
      | some ks => if fs.all (·.name != "_") = true ∧ P.cellsOf t = ks.length then some ks else none
      | none => none
    | _ => none

def structB (P : Program) (t : TypeId) : Bool :=
  match P.underlying t with
  | some (.struct _) => true
  | _ => false

def keyB (P : Program) (t : TypeId) (ks : List IntKind) : Bool :=
  structB P t && P.keyTypeAt 8 t && !P.eqGuardType P.depth t && decide (flatK P 8 t = some ks)

def tlookL : List (TypeId × TI) → TypeId → Option TI
  | [], _ => none
  | (i, o) :: r, n => if i = n then some o else tlookL r n

def tlook (T : Tab) (n : TypeId) : Option TI := tlookL T.ts n

def inpL : List FuncId → FuncId → Bool
  | [], _ => false
  | a :: r, n => if a = n then true else inpL r n

def isInp (T : Tab) (f : FuncId) : Bool := inpL T.inp f

def tdB : TypeDesc → TD → Bool
  | .int k, .int k' => k == k'
  | .bool, .bool => true
  | .string, .str => true
  | .slice e, .sl e' => e == e'
  | .struct fs, .st l => fs.toList.map (fun f => (f.offset, f.type)) == l
  | .int _, .other | .bool, .other | .string, .other | .slice _, .other | .struct _, .other | .array _ _, .other => false
  | _, .other => true
  | _, _ => false

def zeroB : Value → D → Bool
  | .int k n, .int k' n' => k == k' && n == 0 && n' == 0
  | .bool false, .bool false => true
  | .string s, .str t => s.data == #[] && t.data == #[]
  | .slice none 0 0, .nil => true
  | _, _ => false

def zerosB : List Value → List D → Bool
  | [], [] => true
  | v :: vs, d :: ds => zeroB v d && zerosB vs ds
  | _, _ => false

def tiB (P : Program) (t : TypeId) (i : TI) : Bool :=
  match P.info? t, P.underlying t with
  | some info, some d => info.size == i.sz && info.bytes == i.bytes && tdB d i.td &&
      (match i.zero with
       | none => true
       | some z => match info.zero with | some v => zerosB v.cells.toList z | none => false)
  | _, _ => false

def TOk (P : Program) (T : Tab) : Prop := (T.ts.all fun x => tiB P x.1 x.2) = true ∧ (T.keys.all fun x => keyB P x.1 x.2) = true

theorem TOk.key {P : Program} {T : Tab} (h : TOk P T) {t : TypeId} {ks : List IntKind} (ht : klook T t = some ks) : keyB P t ks = true := by
  replace h := h.2
  unfold klook at ht
  obtain ⟨T, fs, K⟩ := T
  dsimp only at h ht
  clear fs
  induction K with
  | nil => cases ht
  | cons x r ih =>
    obtain ⟨u, o⟩ := x
    simp only [List.all_cons, Bool.and_eq_true] at h
    simp only [klookL] at ht
    split at ht
    · rename_i e; subst e; cases ht; exact h.1
    · exact ih ht h.2

theorem TOk.get {P : Program} {T : Tab} (h : TOk P T) {t : TypeId} {i : TI} (ht : tlook T t = some i) : tiB P t i = true := by
  replace h := h.1
  unfold tlook at ht
  obtain ⟨T, fs, ks⟩ := T
  dsimp only at h ht
  clear fs ks
  induction T with
  | nil => cases ht
  | cons x r ih =>
    obtain ⟨u, o⟩ := x
    simp only [List.all_cons, Bool.and_eq_true] at h
    simp only [tlookL] at ht
    split at ht
    · rename_i e; subst e; cases ht; exact h.1
    · exact ih ht h.2

structure TIok (P : Program) (t : TypeId) (i : TI) : Prop where
  ex : ∃ info d, P.info? t = some info ∧ P.underlying t = some d ∧ info.size = i.sz ∧ info.bytes = i.bytes ∧ tdB d i.td = true ∧
    (∀ z, i.zero = some z → ∃ v, info.zero = some v ∧ zerosB v.cells.toList z = true)

theorem TOk.ok {P : Program} {T : Tab} (h : TOk P T) {t : TypeId} {i : TI} (ht : tlook T t = some i) : TIok P t i := by
  have hb := h.get ht
  unfold tiB at hb
  split at hb
  · rename_i info d h1 h2
    simp only [Bool.and_eq_true, beq_iff_eq] at hb
    obtain ⟨⟨⟨h3, h4⟩, h5⟩, h6⟩ := hb
    refine ⟨info, d, h1, h2, h3, h4, h5, fun z hz => ?_⟩
    rw [hz] at h6
    simp only at h6
    split at h6
    · rename_i v hv; exact ⟨v, hv, h6⟩
    · cases h6
  · cases hb

/-! ### Operands -/

def hasB (k : IntKind) (n : Int) : Bool := decide (k.min ≤ n) && decide (n ≤ k.max)

def constD : Value → D
  | .int k n => if hasB k n then .int k n else .undef
  | .bool b => .bool b
  | .string s => if s.size ≤ 1000000 then .str s else .undef
  | .slice none 0 0 => .nil
  | _ => .undef

def opd (x : Operand) (k : D → AR) : AR :=
  match x with
  | .tmp t => .get t k
  | .const v => k (constD v)
  | .func f => k (.fn f [])
  | .global _ => .fail

def opds : List Operand → (List D → AR) → AR
  | [], k => k []
  | x :: r, k => opd x fun d => opds r fun ds => k (d :: ds)

def done (o : Oper) (d : D) (ups : List Upd) : AR :=
  .ret (ups ++ match o.dst with | some n => [.slot n d] | none => [])

section
variable {C : Cons} {P : Program} {w w0 : World} {Z0 : Nat → Prop} {φ : Nat → Value} {s : AS} {a : Act}

theorem enc_const (ob : Obs) (v : Value) : EncS w Z0 ob φ (constD v) v := by
  unfold constD
  split
  · split
    · rename_i k n h
      exact .int k n (by simpa [hasB, IntKind.has] using h)
    · exact .undef _
  · exact .bool _
  · split
    · exact .str _ (by unfold lim; omega)
    · exact .undef _
  · exact .nil
  · exact .undef _

theorem opd_ev (hR : RelF w0 Z0 φ s a w) {x : Operand} {k : D → AR} {ups : List Upd} {R : List Loc} (h : (opd x k).Ev C s ups R) :
    ∃ d R', EncS w Z0 s.ob φ d (a.eval x) ∧ (k d).Ev C s ups R' := by
  unfold opd at h
  split at h
  · rename_i t
    obtain ⟨R', _, h⟩ := h
    exact ⟨_, R', hR.slot t, h⟩
  · rename_i v
    exact ⟨_, R, enc_const s.ob v, h⟩
  · rename_i f
    exact ⟨_, R, .fn f [] #[] rfl (by simp), h⟩
  · exact h.elim

theorem opds_ev (hR : RelF w0 Z0 φ s a w) : ∀ {xs : List Operand} {k : List D → AR} {ups : List Upd} {R : List Loc}, (opds xs k).Ev C s ups R →
    ∃ ds R', ds.length = xs.length ∧ (∀ i, i < xs.length → EncS w Z0 s.ob φ (getC ds i) ((xs.map a.eval).getD i Go.undef)) ∧ (k ds).Ev C s ups R'
  | [], k, ups, R, h => ⟨[], R, rfl, by simp, h⟩
  | x :: r, k, ups, R, h => by
    obtain ⟨d, R1, hd, h1⟩ := opd_ev hR h
    obtain ⟨ds, R2, hl, hds, h2⟩ := opds_ev hR h1
    refine ⟨d :: ds, R2, by simp [hl], fun i hi => ?_, h2⟩
    cases i with
    | zero => simpa [getC] using hd
    | succ i => simpa [getC] using hds i (by simpa using hi)

/-- Where the operation just yields a value. -/
theorem wp_value {o : Oper} {K : Act → World → Prop} {Q : Exit → Act → World → Prop} {v : Value} {w' : World} (hr : (execOp a.eval o).run P w = .ok (.value v) w') (h : K (a.put o.dst v) w') : o.wp P a w K Q := by
  unfold Oper.wp; rw [hr]; exact h

/-- .. and the world stays. -/
theorem rel_done (hR : RelF w0 Z0 φ s a w) {o : Oper} (hd : ∀ n, o.dst = some n → n < s.nt) {d : D} {v : Value} (he : EncS w Z0 s.ob φ d v) {ups : List Upd} {R : List Loc} (h : (done o d []).Ev C s ups R) :
    RelF w0 Z0 φ (s.app ups) (a.put o.dst v) w := by
  obtain ⟨rfl, _⟩ := h
  cases ho : o.dst with
  | none => simpa [ho, AS.app, Act.put] using hR
  | some n => simpa [ho, AS.app] using hR.put (hd n ho) he

end
end Go.Abs
/- Operations on values: arithmetic, tests, choices, parts. -/
namespace Go.Abs
open Go Go.RowKit

theorem IntKind.pow_pos (k : IntKind) : (0 : Int) < 2 ^ (k.bits - 1) ∧ (2 : Int) ^ k.bits = 2 * 2 ^ (k.bits - 1) := by cases k <;> decide

theorem has_wrap (k : IntKind) (n : Int) : k.has (k.wrap n) := by
  cases k <;> (simp only [IntKind.has, IntKind.wrap, IntKind.min, IntKind.max, IntKind.bits, IntKind.signed]; simp; omega)

theorem has_zero_between {k : IntKind} {a c : Int} (h : k.has a) (h1 : 0 ≤ a → 0 ≤ c ∧ c ≤ a) (h2 : a < 0 → a ≤ c ∧ c ≤ 0) : k.has c := by
  have h3 : (0 ≤ c ∧ c ≤ a) ∨ (a ≤ c ∧ c ≤ 0) := by
    by_cases h0 : 0 ≤ a
    · exact .inl (h1 h0)
    · exact .inr (h2 (by omega))
  cases k <;> (simp [IntKind.has, IntKind.min, IntKind.max, IntKind.bits, IntKind.signed] at h ⊢; omega)

theorem has_tmod {k : IntKind} {a b : Int} (h : k.has a) : k.has (a.tmod b) := by
  refine has_zero_between h (fun h0 => ⟨Int.tmod_nonneg _ h0, ?_⟩) (fun h0 => ?_)
  · have := Int.natAbs_tmod a b
    have h1 := Int.tmod_nonneg b h0
    have h2 : (a.natAbs % b.natAbs) ≤ a.natAbs := Nat.mod_le _ _
    omega
  · have := Int.natAbs_tmod a b
    have h2 : (a.natAbs % b.natAbs) ≤ a.natAbs := Nat.mod_le _ _
    have h3 : a.tmod b = -((-a).tmod b) := by rw [Int.neg_tmod]; omega
    have h4 := Int.tmod_nonneg b (a := -a) (by omega)
    omega

theorem has_fdiv {k : IntKind} {a b : Int} (h : k.has a) (hb : 1 ≤ b) : k.has (a.fdiv b) := by
  have e : a.fdiv b = a / b := Int.fdiv_eq_ediv_of_nonneg _ (by omega)
  rw [e]
  refine has_zero_between h (fun h0 => ⟨Int.ediv_nonneg h0 (by omega), Int.ediv_le_self _ h0⟩) (fun h0 => ⟨?_, ?_⟩)
  · have h1 := Int.ediv_mul_le a (b := b) (by omega)
    have h2 := Int.lt_ediv_add_one_mul_self a (b := b) (by omega)
    by_cases hc : a ≤ a / b
    · exact hc
    · have : (a / b + 1) * b ≤ a * b := Int.mul_le_mul_of_nonneg_right (by omega) (by omega)
      have h4 : a * b ≤ a * 1 := Int.mul_le_mul_of_nonpos_left (by omega) hb
      omega
  · have := Int.ediv_neg_of_neg_of_pos h0 (show 0 < b by omega); omega

/-! ### Numbers -/

def binI (op : BinOp) (kk : IntKind) (a b : Int) (k : D → AR) : AR :=
  match op with
  | .add => k (.int kk (kk.wrap (a + b)))
  | .sub => k (.int kk (kk.wrap (a - b)))
  | .mul => k (.int kk (kk.wrap (a * b)))
  | .quo => .req (b ≠ 0) (k (.int kk (kk.wrap (a.tdiv b))))
  | .rem => .req (b ≠ 0) (k (.int kk (a.tmod b)))
  | .and => k (.int kk (kk.wrap (BitVec.ofInt kk.bits a &&& BitVec.ofInt kk.bits b).toNat))
  | .or => k (.int kk (kk.wrap (BitVec.ofInt kk.bits a ||| BitVec.ofInt kk.bits b).toNat))
  | .xor => k (.int kk (kk.wrap (BitVec.ofInt kk.bits a ^^^ BitVec.ofInt kk.bits b).toNat))
  | .eql => k (.bool (a == b))
  | .neq => k (.bool (a != b))
  | .lss => k (.bool (decide (a < b)))
  | .leq => k (.bool (decide (a ≤ b)))
  | .gtr => k (.bool (decide (b < a)))
  | .geq => k (.bool (decide (b ≤ a)))
  | _ => .fail

def shI (op : BinOp) (kk : IntKind) (a b : Int) (k : D → AR) : AR :=
  match op with
  | .shl => .req (0 ≤ b) (k (.int kk (kk.wrap (a * 2 ^ (min b.toNat kk.bits)))))
  | .shr => .req (0 ≤ b) (k (.int kk (a.fdiv (2 ^ (min b.toNat kk.bits)))))
  | _ => .fail

def binS (op : BinOp) (x y : ByteArray) (k : D → AR) : AR :=
  match op with
  | .add => .req (x.size + y.size ≤ lim) (k (.str (x ++ y)))
  | .eql => k (.bool (x.toList == y.toList))
  | .neq => k (.bool (!(x.toList == y.toList)))
  | .lss => k (.bool (Op.bytesLess x.toList y.toList))
  | .leq => k (.bool (Op.bytesLess x.toList y.toList || x.toList == y.toList))
  | .gtr => k (.bool (!(Op.bytesLess x.toList y.toList || x.toList == y.toList)))
  | .geq => k (.bool (!(Op.bytesLess x.toList y.toList)))
  | _ => .fail

def isShift : BinOp → Bool
  | .shl | .shr => true
  | _ => false

section
variable {C : Cons} {P : Program} {w w0 : World} {Z0 : Nat → Prop} {φ : Nat → Value} {s : AS} {a : Act}

theorem binI_ev {op : BinOp} {kk : IntKind} {x y : Int} (hs : isShift op = false) (hx : kk.has x) {k : D → AR} {ups : List Upd} {R : List Loc} {ob : Obs} (t : TypeId) (h : (binI op kk x y k).Ev C s ups R) :
    ∃ d v, (binOp op t (.int kk x) (.int kk y)).run P w = .ok v w ∧ EncS w Z0 ob φ d v ∧ (k d).Ev C s ups R := by
  cases op <;> simp only [binI, isShift, AR.Ev] at h hs
  case add => exact ⟨_, _, by simp [binOp, Op.intArith], .int _ _ (has_wrap _ _), h⟩
  case sub => exact ⟨_, _, by simp [binOp, Op.intArith], .int _ _ (has_wrap _ _), h⟩
  case mul => exact ⟨_, _, by simp [binOp, Op.intArith], .int _ _ (has_wrap _ _), h⟩
  case quo => exact ⟨_, _, by simp [binOp, Op.intDiv, h.1], .int _ _ (has_wrap _ _), h.2⟩
  case rem => exact ⟨_, _, by simp [binOp, Op.intDiv, h.1], .int _ _ (has_tmod hx), h.2⟩
  case and => exact ⟨_, _, by simp [binOp, Op.intBits], .int _ _ (has_wrap _ _), h⟩
  case or => exact ⟨_, _, by simp [binOp, Op.intBits], .int _ _ (has_wrap _ _), h⟩
  case xor => exact ⟨_, _, by simp [binOp, Op.intBits], .int _ _ (has_wrap _ _), h⟩
  case eql => exact ⟨_, _, by simp [binOp, Op.intCmp], .bool _, h⟩
  case neq => exact ⟨_, _, by simp [binOp, Op.intCmp], .bool _, h⟩
  case lss => exact ⟨_, _, by simp [binOp, Op.intCmp], .bool _, h⟩
  case leq => exact ⟨_, _, by simp [binOp, Op.intCmp], .bool _, h⟩
  case gtr => exact ⟨_, _, by simp [binOp, Op.intCmp], .bool _, h⟩
  case geq => exact ⟨_, _, by simp [binOp, Op.intCmp], .bool _, h⟩
  all_goals first | exact h.elim | cases hs

theorem shI_ev {op : BinOp} {kk k2 : IntKind} {x y : Int} (hx : kk.has x) {k : D → AR} {ups : List Upd} {R : List Loc} {ob : Obs} (t : TypeId) (h : (shI op kk x y k).Ev C s ups R) :
    ∃ d v, (binOp op t (.int kk x) (.int k2 y)).run P w = .ok v w ∧ EncS w Z0 ob φ d v ∧ (k d).Ev C s ups R := by
  cases op <;> simp only [shI, AR.Ev] at h
  case shl => exact ⟨_, _, by simp [binOp, Op.shift, Int.not_lt.2 h.1], .int _ _ (has_wrap _ _), h.2⟩
  case shr => exact ⟨_, _, by simp [binOp, Op.shift, Int.not_lt.2 h.1], .int _ _ (has_fdiv hx (by have := Int.pow_pos (n := 2) (m := min y.toNat kk.bits) (by decide); omega)), h.2⟩
  all_goals exact h.elim

theorem binS_ev {op : BinOp} {x y : ByteArray} {k : D → AR} {ups : List Upd} {R : List Loc} {ob : Obs} (t : TypeId) (h : (binS op x y k).Ev C s ups R) :
    ∃ d v, (binOp op t (.string x) (.string y)).run P w = .ok v w ∧ EncS w Z0 ob φ d v ∧ (k d).Ev C s ups R := by
  cases op <;> simp only [binS, AR.Ev] at h
  case add =>
    refine ⟨_, _, ?_, .str (x ++ y) (by rw [ByteArray.size_append]; exact h.1), h.2⟩
    have h1 := h.1
    simp only [lim] at h1
    simp [binOp, Op.stringOp]
    omega
  case eql => exact ⟨_, _, by simp [binOp, Op.stringOp], .bool _, h⟩
  case neq => exact ⟨_, _, by simp [binOp, Op.stringOp], .bool _, h⟩
  case lss => exact ⟨_, _, by simp [binOp, Op.stringOp], .bool _, h⟩
  case leq => exact ⟨_, _, by simp [binOp, Op.stringOp], .bool _, h⟩
  case gtr => exact ⟨_, _, by simp [binOp, Op.stringOp], .bool _, h⟩
  case geq => exact ⟨_, _, by simp [binOp, Op.stringOp], .bool _, h⟩
  all_goals exact h.elim

end
end Go.Abs
/- A block of the call's own is made, written, or put out of writing: everything else stays realised. -/
namespace Go.Abs
open Go Go.RowKit

def upd (φ : Nat → Value) (id : Nat) (v : Value) : Nat → Value := fun i => if i = id then v else φ i

/-- The block 'id' becomes 'o' (value 'v'), while only the block 'row' of the world may turn. -/
structure Turns (w w' : World) (ob : Obs) (φ : Nat → Value) (id : Nat) (o : Ob) (v : Value) (row : Option Nat) : Prop where
  grown : w.grownBy w' row
  own : ∀ k, row = some k → ∃ o1, look ob id = some o1 ∧ o1.mt = true ∧ blk (φ id) = some k
  ver : ∀ o1, look ob id = some o1 → o1.ver < o.ver ∨ (o1.ver = o.ver ∧ v = φ id ∧ o1.sz = o.sz)
  new : ∀ b, blk v = some b → w.heap.size ≤ b ∨ ∃ o1, look ob id = some o1 ∧ blk (φ id) = some b ∧ (o.mt = true → o1.mt = true)

section
variable {w w' w0 : World} {Z0 : Nat → Prop} {φ : Nat → Value} {ob : Obs} {s : AS} {a : Act} {base id : Nat} {o : Ob} {v : Value} {row : Option Nat}

theorem Turns.enc (h : Turns w w' ob φ id o v row) {d : D} {u : Value} (hd : EncS w Z0 ob φ d u) : EncS w' Z0 ((id, o) :: ob) (upd φ id v) d u := by
  refine Enc.mono hd (fun b hz hlt => ⟨?_, ?_⟩) (fun i ver u h1 => ?_) (fun i ver r c u h1 => ?_)
  · refine h.grown.block b hlt (fun e => hz ?_)
    obtain ⟨o1, h1, h2, h3⟩ := h.own b e.symm
    exact .inr ⟨id, o1, h1, h2, h3⟩
  · rintro (h0 | ⟨i, o1, h1, h2, h3⟩)
    · exact hz (.inl h0)
    · rw [look_put] at h1
      unfold upd at h3
      by_cases hi : i = id
      · subst hi
        simp only [if_true] at h1 h3
        cases h1
        rcases h.new b h3 with hge | ⟨o2, h4, h5, h6⟩
        · omega
        · exact hz (.inr ⟨i, o2, h4, h6 h2, h5⟩)
      · rw [if_neg (Ne.symm hi)] at h1
        rw [if_neg hi] at h3
        exact hz (.inr ⟨i, o1, h1, h2, h3⟩)
  · obtain ⟨o1, h2, h3, h4, h4'⟩ := h1
    unfold oslE upd
    by_cases hi : i = id
    · subst hi
      refine ⟨o, by simp [look_put], ?_, fun e => ?_, h4'⟩
      · rcases h.ver o1 h2 with h5 | ⟨h5, _, _⟩ <;> omega
      · simp only [if_true]
        rcases h.ver o1 h2 with h5 | ⟨h5, h6, _⟩
        · omega
        · rw [h6]; exact h4 (by omega)
    · exact ⟨o1, by rw [look_put, if_neg (Ne.symm hi)]; exact h2, h3, fun e => (by rw [if_neg hi]; exact h4 e), h4'⟩
  · obtain ⟨o1, h2, h3, h4, h4'⟩ := h1
    unfold ptrF upd
    by_cases hi : i = id
    · subst hi
      refine ⟨o, by simp [look_put], ?_, fun e => ?_, h4'⟩
      · rcases h.ver o1 h2 with h5 | ⟨h5, _, _⟩ <;> omega
      · simp only [if_true]
        rcases h.ver o1 h2 with h5 | ⟨h5, h6, h7⟩
        · omega
        · rw [h6, ← h7]; exact h4 (by omega)
    · exact ⟨o1, by rw [look_put, if_neg (Ne.symm hi)]; exact h2, h3, fun e => (by rw [if_neg hi]; exact h4 e), h4'⟩

theorem Turns.good (h : Turns w w' ob φ id o v row) (hg : Good w base Z0 ob φ) (hok : ObOk w' base (EncS w' Z0 ((id, o) :: ob) (upd φ id v)) v o) :
    Good w' base Z0 ((id, o) :: ob) (upd φ id v) := by
  refine ⟨fun i j oi oj b hi hj hbi hbj => ?_, fun i oi hi => ?_⟩
  · rw [look_put] at hi hj
    unfold upd at hbi hbj
    by_cases e1 : i = id <;> by_cases e2 : j = id
    · rw [e1, e2]
    · subst e1
      rw [if_neg (Ne.symm e2)] at hj
      simp only [if_true] at hbi
      rw [if_neg e2] at hbj
      have hlt := ((hg.ok j oj hj).block_ge hbj).2
      rcases h.new b hbi with hge | ⟨o2, h4, h5, _⟩
      · omega
      · exact hg.inj i j o2 oj b h4 hj h5 hbj
    · subst e2
      rw [if_neg (Ne.symm e1)] at hi
      simp only [if_true] at hbj
      rw [if_neg e1] at hbi
      have hlt := ((hg.ok i oi hi).block_ge hbi).2
      rcases h.new b hbj with hge | ⟨o2, h4, h5, _⟩
      · omega
      · exact hg.inj i j oi o2 b hi h4 hbi h5
    · rw [if_neg (Ne.symm e1)] at hi
      rw [if_neg (Ne.symm e2)] at hj
      rw [if_neg e1] at hbi
      rw [if_neg e2] at hbj
      exact hg.inj i j oi oj b hi hj hbi hbj
  · by_cases e1 : i = id
    · subst e1
      rw [look_put] at hi
      simp only [if_true] at hi
      cases hi
      simpa [upd] using hok
    · rw [look_put, if_neg (Ne.symm e1)] at hi
      have hi0 := hg.ok i oi hi
      rw [show upd φ id v i = φ i from if_neg e1]
      refine hi0.mono (fun d u hd => h.enc hd) (fun b hb => h.grown.block b (hi0.block_ge hb).2 (fun e => ?_))
      obtain ⟨o1, h1, h2, h3⟩ := h.own b e.symm
      exact e1 (hg.inj i id oi o1 b hi h1 hb h3)

theorem RelF.z0 (hR : RelF w0 Z0 φ s a w) : ∀ b, Z0 b → b < w.heap.size := fun b hb => Nat.lt_of_lt_of_le (hR.amb b hb) hR.below.size

theorem RelF.turn (hR : RelF w0 Z0 φ s a w) (h : Turns w w' s.ob φ id o v row) (hok : ObOk w' w0.heap.size (EncS w' Z0 ((id, o) :: s.ob) (upd φ id v)) v o) :
    RelF w0 Z0 (upd φ id v) { s with ob := (id, o) :: s.ob } a w' := by
  refine ⟨hR.size, hR.defers, fun n => h.enc (hR.slot n), h.good hR.good hok, ?_, hR.amb⟩
  refine hR.below.grown h.grown hR.below.size (fun k hk => ?_)
  obtain ⟨o1, h1, _, h3⟩ := h.own k hk
  exact ((hR.good.ok id o1 h1).block_ge h3).1

/-- A new block. -/
theorem Turns.alloc (hv : ∀ o1, look ob id = some o1 → o1.ver < o.ver) (hg : w.grownBy w' none) (hb : ∀ b, blk v = some b → w.heap.size ≤ b) : Turns w w' ob φ id o v none :=
  ⟨hg, fun k hk => (by cases hk), fun o1 h1 => .inl (hv o1 h1), fun b h1 => .inl (hb b h1)⟩

/-- A block is put out of writing. -/
theorem RelF.freeze (hR : RelF w0 Z0 φ s a w) {id : Nat} {o : Ob} (ho : s.look id = some o) : RelF w0 Z0 φ { s with ob := (id, { o with mt := false }) :: s.ob } a w := by
  have ht : Turns w w s.ob φ id { o with mt := false } (φ id) none :=
    ⟨⟨rfl, rfl, rfl, Nat.le_refl _, fun _ _ _ => rfl⟩, fun k hk => (by cases hk), fun o1 h1 => (by
      have h2 : some o1 = some o := h1.symm.trans ho
      cases h2
      exact .inr ⟨rfl, rfl, rfl⟩), fun b hb => .inr ⟨o, ho, hb, fun h => (by cases h)⟩⟩
  have h0 := hR.good.ok id o ho
  have hok : ObOk w w0.heap.size (EncS w Z0 ((id, { o with mt := false }) :: s.ob) (upd φ id (φ id))) (φ id) { o with mt := false } := by
    obtain ⟨xs, hx, h1, h2⟩ := h0.there
    exact ⟨h0.pure, xs, hx.mono fun d u hd => ht.enc hd, h1, h2⟩
  have := hR.turn ht hok
  rwa [show upd φ id (φ id) = φ from by funext i; unfold upd; split <;> simp_all] at this

end
end Go.Abs
/- Operations on memory: variables, loads, stores, places of elements and fields. -/
namespace Go.Abs
open Go Go.RowKit

/-- The cells of a value that goes into memory. -/
def cellsOf : D → Option (List D)
  | .agg cs => some cs
  | .undef | .void | .tup _ | .nsl _ _ _ | .ubool _ => none
  | d => some [d]

/-- A part of a row is written. -/
def splice (r : List D) (col : Nat) (cs : List D) : List D := r.take col ++ cs ++ r.drop (col + cs.length)

def bump (id : Nat) (k : Nat → AR) : AR := .look id fun o => k (match o with | none => 0 | some o => o.ver + 1)

/-- The cells of type 't' from place 'col' on. -/
def takeT (T : Tab) (t : TypeId) (cells : List D) (col : Nat) (k : D → AR) : AR :=
  match tlook T t with
  | some i =>
    match i.td with
    | .st _ => .req (col + i.sz ≤ cells.length) (k (.agg ((cells.drop col).take i.sz)))
    | _ => .req (col < cells.length ∧ i.sz = 1) (k (getC cells col))
  | none => .fail

def aBox (o : Oper) (ty : TypeId) (cs : Option (List D)) : AR :=
  match cs, o.dst with
  | some cs, some n => bump (n * 100) fun ver => .ret [.ob (n * 100) ⟨ver, true, true, cs.length, ty, [cs]⟩, .slot n (.ptr (n * 100) ver 0 0)]
  | _, _ => .fail

def aLoad (T : Tab) (o : Oper) (t : TypeId) (x : Operand) : AR :=
  opd x fun
  | .fptr cells col => takeT T t cells col fun d => done o d []
  | .ptr id ver row col => .look id fun
    | some b => .req (b.ver = ver ∧ row < b.rows.length) (takeT T t (getR b.rows row) col fun d => done o d [])
    | none => .fail
  | _ => .fail

def aFieldAddr (T : Tab) (o : Oper) (t : TypeId) (x : Operand) (f : Nat) : AR :=
  match tlook T t with
  | some i =>
    match i.td with
    | .st fs =>
      match fs[f]? with
      | some p =>
        match tlook T p.2 with
        | some j =>
          if j.sz = 0 then .fail else
          opd x fun
          | .fptr cells col => done o (.fptr cells (col + p.1)) []
          | .ptr id ver row col => .look id fun
            | some b => .req (b.ver = ver) (done o (.ptr id ver row (col + p.1)) [])
            | none => .fail
          | _ => .fail
        | none => .fail
      | none => .fail
    | _ => .fail
  | none => .fail

def elemT (T : Tab) (t : TypeId) (k : TypeId → TI → AR) : AR :=
  match tlook T t with
  | some i =>
    match i.td with
    | .sl e => match tlook T e with
      | some j => k e j
      | none => .fail
    | _ => .fail
  | none => .fail

def aIndexAddr (T : Tab) (o : Oper) (t : TypeId) (x ix : Operand) : AR :=
  elemT T t fun _ j => opd x fun d => opd ix fun
    | .int _ i =>
      match d with
      | .fsl sz rows => .req (0 ≤ i ∧ i < (rows.length : Int) ∧ sz = j.sz) (done o (.fptr (getR rows i.toNat) 0) [])
      | .osl id ver => .look id fun
        | some b => .req (b.ver = ver ∧ b.box = false ∧ b.sz = j.sz ∧ 0 ≤ i ∧ i < (b.rows.length : Int)) (done o (.ptr id ver i.toNat 0) [])
        | none => .fail
      | _ => .fail
    | _ => .fail

def aStore (T : Tab) (t : TypeId) (x y : Operand) : AR :=
  match tlook T t with
  | some i => opd x fun d => opd y fun e =>
    match d, cellsOf e with
    | .ptr id ver row col, some cs => .look id fun
      | some b => .req (b.ver = ver ∧ b.mt = true ∧ row < b.rows.length ∧ cs.length = i.sz ∧ col + cs.length ≤ b.sz ∧ (b.box = false → ∀ c ∈ cs, D.pc c = true))
          (.ret [.ob id { b with rows := b.rows.set row (splice (getR b.rows row) col cs) }])
      | none => .fail
    | _, _ => .fail
  | none => .fail

section
variable {C : Cons} {P : Program} {T : Tab} {w w0 : World} {Z0 : Nat → Prop} {φ : Nat → Value} {s : AS} {a : Act} {Z : Nat → Prop} {E : Nat → Nat → Value → Prop} {F : Nat → Nat → Nat → Nat → Value → Prop}

theorem cells_enc {ob : Obs} {d : D} {v : Value} {cs : List D} (h : EncS w Z0 ob φ d v) (hc : cellsOf d = some cs) :
    v.cells.size = cs.length ∧ ∀ i, i < cs.length → EncS w Z0 ob φ (getC cs i) (v.cells.getD i Go.undef) ∧ (v.cells.getD i Go.undef).oneCell' = true := by
  have one : ∀ {d : D} {v : Value}, EncS w Z0 ob φ d v → v.oneCell' = true → (v.cells = #[v]) → cs = [d] → v.cells.size = cs.length ∧ ∀ i, i < cs.length → EncS w Z0 ob φ (getC cs i) (v.cells.getD i Go.undef) ∧ (v.cells.getD i Go.undef).oneCell' = true := by
    intro d v h1 h2 h3 h4
    subst h4
    rw [h3]
    refine ⟨rfl, fun i hi => ?_⟩
    obtain rfl : i = 0 := by simpa using hi
    exact ⟨h1, h2⟩
  cases h with
  | undef v => cases hc
  | void => cases hc
  | tup cs vs hs h => cases hc
  | agg cs' vs hs h1 h =>
    cases hc
    exact ⟨hs, fun i hi => ⟨h i hi, h1 i hi⟩⟩
  | int k n h => cases hc; exact one (.int k n h) rfl rfl rfl
  | bool b => cases hc; exact one (.bool b) rfl rfl rfl
  | str s h => cases hc; exact one (.str s h) rfl rfl rfl
  | fslNil sz => cases hc; exact one (.fslNil sz) rfl rfl rfl
  | fslE sz a c => cases hc; exact one (.fslE sz a c) rfl rfl rfl
  | ubool p b h => cases hc
  | fsl sz rows b off c cv hc' hl hr hz hcell h1 h => cases hc; exact one (.fsl sz rows b off c cv hc' hl hr hz hcell h1 h) rfl rfl rfl
  | nil => cases hc; exact one .nil rfl rfl rfl
  | osl id ver v h =>
    cases hc
    obtain ⟨o, h1, h2, h3, h4⟩ := h
    exact one (.osl id ver v ⟨o, h1, h2, h3, h4⟩) h4 (by cases v <;> first | rfl | cases h4) rfl
  | ptr id ver row col v h =>
    cases hc
    obtain ⟨o, h1, h2, h3, h4⟩ := h
    exact one (.ptr id ver row col v ⟨o, h1, h2, h3, h4⟩) h4 (by cases v <;> first | rfl | cases h4) rfl
  | fptr cells col b off cv hr hz hcell h1 h => cases hc; exact one (.fptr cells col b off cv hr hz hcell h1 h) rfl rfl rfl
  | fn f caps vs hs h => cases hc; exact one (.fn f caps vs hs h) rfl rfl rfl

theorem bump_ev {id : Nat} {k : Nat → AR} {ups : List Upd} {R : List Loc} (h : (bump id k).Ev C s ups R) : ∃ ver R', (∀ o, s.look id = some o → o.ver < ver) ∧ (k ver).Ev C s ups R' := by
  obtain ⟨R', _, h⟩ := h
  refine ⟨_, R', fun o ho => ?_, h⟩
  simp [ho]

theorem arr_getD (xs : List Value) (i : Nat) : xs.toArray.getD i Go.undef = xs.getD i Go.undef := by simp [Array.getD_eq_getD_getElem?, List.getD_eq_getElem?_getD]
theorem toList_getD (xs : Array Value) (i : Nat) : xs.toList.getD i Go.undef = xs.getD i Go.undef := by simp [Array.getD_eq_getD_getElem?, List.getD_eq_getElem?_getD]

/-- A variable in memory. -/
theorem snd_box (hR : RelF w0 Z0 φ s a w) {o : Oper} (hd : ∀ n, o.dst = some n → n < s.nt) {ty : TypeId} {d : D} {v : Value} (he : EncS w Z0 s.ob φ d v) {ups : List Upd} {R : List Loc} (h : (aBox o ty (cellsOf d)).Ev C s ups R) :
    Rel w0 Z0 (s.app ups) (a.put o.dst (.pointer (some ⟨w.heap.size, 0, none⟩))) (w.alloc (.cells v.cells ty)) := by
  unfold aBox at h
  split at h
  · rename_i cs n hcs hn
    obtain ⟨ver, R', hver, rfl, _⟩ := bump_ev h
    obtain ⟨hsz, henc⟩ := cells_enc he hcs
    have hg : w.grownBy (w.alloc (.cells v.cells ty)) none := World.grownBy_alloc w _ none
    have ht : Turns w (w.alloc (.cells v.cells ty)) s.ob φ (n * 100) ⟨ver, true, true, cs.length, ty, [cs]⟩ (.pointer (some ⟨w.heap.size, 0, none⟩)) none :=
      Turns.alloc hver hg (fun b hb => by simp [blk] at hb; omega)
    have hok : ObOk (w.alloc (.cells v.cells ty)) w0.heap.size (EncS (w.alloc (.cells v.cells ty)) Z0 ((n * 100, ⟨ver, true, true, cs.length, ty, [cs]⟩) :: s.ob) (upd φ (n * 100) (.pointer (some ⟨w.heap.size, 0, none⟩)))) (.pointer (some ⟨w.heap.size, 0, none⟩)) ⟨ver, true, true, cs.length, ty, [cs]⟩ := by
      refine ⟨fun hb => by simp at hb, v.cells.toList, ⟨by simp [hsz], by simp, fun i j hi hj => ?_, fun x hx => ?_, by simp [lim]⟩, fun hb => by simp at hb, fun _ => ⟨w.heap.size, rfl, hR.below.size, ?_⟩⟩
      · obtain rfl : i = 0 := by simpa using hi
        simp only [Nat.zero_mul, Nat.zero_add, toList_getD]
        exact ht.enc (henc j hj).1
      · obtain ⟨i, hi, rfl⟩ := List.getElem_of_mem hx
        have := (henc i (by simpa [hsz] using hi)).2
        rwa [← toList_getD, List.getD_eq_getElem?_getD, List.getElem?_eq_getElem hi] at this
      · rw [heap_alloc_new]
    have h1 := hR.turn ht hok
    have h2 := h1.put (n := n) (d := .ptr (n * 100) ver 0 0) (v := .pointer (some ⟨w.heap.size, 0, none⟩)) (hd n hn) (.ptr _ _ _ _ _ ⟨⟨ver, true, true, cs.length, ty, [cs]⟩, by simp [look_put], Nat.le_refl _, fun _ => ⟨w.heap.size, by simp [upd, blk], by simp⟩, rfl⟩)
    rw [hn]
    exact ⟨_, h2⟩
  · exact h.elim

theorem cell_at {g j : Nat} {cs : Array Value} {t : TypeId} {fr : Nat × Nat} (hg : w.heap[g]? = some (.cells cs t fr)) : w.cell? ⟨g, j, none⟩ = cs[j]? := by simp [World.cell?, hg]

theorem mul_lt {i n sz j : Nat} (hi : i < n) (hj : j < sz) : i * sz + j < n * sz := by
  have := Nat.mul_le_mul_right sz (show i + 1 ≤ n by omega)
  rw [Nat.add_mul] at this
  omega

/-- A cell of a block of the call's own. -/
theorem ob_cell {base : Nat} {R : D → Value → Prop} {v : Value} {o : Ob} (h : ObOk w base R v o) {b : Nat} (hb : blk v = some b) {i j : Nat} (hi : i < o.rows.length) (hj : j < o.sz) :
    ∃ u, w.cell? ⟨b, i * o.sz + j, none⟩ = some u ∧ R (getC (getR o.rows i) j) u ∧ u.oneCell' = true := by
  obtain ⟨xs, hx, hs, hp⟩ := h.there
  have hlt : i * o.sz + j < xs.length := by rw [hx.len]; exact mul_lt hi hj
  refine ⟨xs.getD (i * o.sz + j) Go.undef, ?_, hx.enc i j hi hj, hx.one _ (by rw [List.getD_eq_getElem?_getD, List.getElem?_eq_getElem hlt]; exact List.getElem_mem hlt)⟩
  rw [List.getD_eq_getElem?_getD, List.getElem?_eq_getElem hlt]
  cases hbox : o.box with
  | true =>
    obtain ⟨b', rfl, _, hh⟩ := hp hbox
    simp [blk] at hb; subst hb
    rw [cell_at hh]
    simp [hlt]
  | false =>
    rcases (hs hbox).2 with ⟨rfl, _⟩ | ⟨g, cap, cur, rfl, _, hg, hnc, _, hcs, htake⟩
    · simp [blk] at hb
    · simp [blk] at hb; subst hb
      rw [cell_at hg]
      have h2 : (cur.toList.take (o.rows.length * o.sz))[i * o.sz + j]? = some xs[i * o.sz + j] := by rw [htake]; exact List.getElem?_eq_getElem hlt
      rw [List.getElem?_take] at h2
      split at h2
      · simpa using h2
      · cases h2

end
end Go.Abs
/- Loads and places. -/
namespace Go.Abs
open Go Go.RowKit

section
variable {C : Cons} {P : Program} {T : Tab} {w w0 : World} {Z0 : Nat → Prop} {φ : Nat → Value} {s : AS} {a : Act} {Z : Nat → Prop} {E : Nat → Nat → Value → Prop} {F : Nat → Nat → Nat → Nat → Value → Prop}

theorem tdB_st {d : TypeDesc} {fs : List (Nat × TypeId)} (h : tdB d (.st fs) = true) : ∃ l, d = .struct l ∧ l.toList.map (fun f => (f.offset, f.type)) = fs := by
  cases d <;> simp [tdB] at h
  exact ⟨_, rfl, h⟩

theorem tdB_sl {d : TypeDesc} {e : TypeId} (h : tdB d (.sl e) = true) : d = .slice e := by
  cases d <;> simp [tdB] at h
  rw [h]

theorem tdB_int {d : TypeDesc} {k : IntKind} (h : tdB d (.int k) = true) : d = .int k := by
  cases d <;> simp [tdB] at h
  rw [h]

theorem tdB_str {d : TypeDesc} (h : tdB d .str = true) : d = .string := by cases d <;> simp [tdB] at h; rfl
theorem tdB_bool {d : TypeDesc} (h : tdB d .bool = true) : d = .bool := by cases d <;> simp [tdB] at h; rfl

theorem isAgg_of {t : TypeId} {i : TI} (hT : TOk P T) (ht : tlook T t = some i) : (isAgg t).run P w = .ok (match i.td with | .st _ => true | _ => false) w := by
  obtain ⟨info, d, h1, h2, h3, h4, h5, _⟩ := (hT.ok ht).ex
  unfold isAgg
  simp only [Sem.run_bind, run_underlying h2, Result.andThen_ok]
  cases hd : i.td with
  | st fs =>
    rw [hd] at h5
    obtain ⟨l, rfl, _⟩ := tdB_st h5
    rfl
  | _ =>
    rw [hd] at h5
    cases d <;> simp [tdB] at h5 <;> rfl

theorem sizeOf_of {t : TypeId} {i : TI} (hT : TOk P T) (ht : tlook T t = some i) : (sizeOf t).run P w = .ok i.sz w := by
  obtain ⟨info, d, h1, h2, h3, h4, h5, _⟩ := (hT.ok ht).ex
  simp [sizeOf, typeInfo, h1, h3]

/-- What stands in memory from an address on, as a value of a type. -/
theorem load_of (hT : TOk P T) {t : TypeId} {cells : List D} {col b off : Nat} {k : D → AR} {ups : List Upd} {R : List Loc} {Q : D → Value → Prop}
    (hQ : ∀ (cs : List D) (vs : Array Value), vs.size = cs.length → (∀ i, i < cs.length → Q (getC cs i) (vs.getD i Go.undef) ∧ (vs.getD i Go.undef).oneCell' = true) → Q (.agg cs) (.agg vs))
    (hc : ∀ j, j < cells.length → ∃ u, w.cell? ⟨b, off + j, none⟩ = some u ∧ Q (getC cells j) u ∧ u.oneCell' = true) (h : (takeT T t cells col k).Ev C s ups R) :
    ∃ d v, (loadVar t ⟨b, off + col, none⟩).run P w = .ok v w ∧ Q d v ∧ (k d).Ev C s ups R := by
  unfold takeT at h
  split at h
  · rename_i i hi
    have hA := isAgg_of (w := w) hT hi
    have hS := sizeOf_of (w := w) hT hi
    split at h
    · rename_i fs hfs
      obtain ⟨hle, h⟩ := h
      rw [hfs] at hA
      have hcell : ∀ j, j < i.sz → ∃ u, w.cell? ⟨b, off + (col + j), none⟩ = some u ∧ Q (getC cells (col + j)) u ∧ u.oneCell' = true := fun j hj => hc (col + j) (by omega)
      have hf : ∀ j, j < i.sz → w.cell? ((⟨b, off + col, none⟩ : Addr).add j) = some ((w.cell? ⟨b, off + (col + j), none⟩).getD Go.undef) := fun j hj => by
        obtain ⟨u, h1, _, _⟩ := hcell j hj
        rw [Addr.add_lit, Nat.add_assoc, h1]; try rfl
      have hr := run_loadCells (P := P) w ⟨b, off + col, none⟩ i.sz (fun j => (w.cell? ⟨b, off + (col + j), none⟩).getD Go.undef) hf
      refine ⟨_, _, ?_, hQ ((cells.drop col).take i.sz) ((List.range i.sz).map fun j => (w.cell? ⟨b, off + (col + j), none⟩).getD Go.undef).toArray ?_ (fun j hj => ?_), h⟩
      · simp only [loadVar, Sem.run_bind, hA, Result.andThen_ok, if_true, hS, hr]
        rfl
      · simp; omega
      · have hj' : j < i.sz := by simp at hj; omega
        obtain ⟨u, h1, h2, h3⟩ := hcell j hj'
        have e : ((List.range i.sz).map fun j => (w.cell? ⟨b, off + (col + j), none⟩).getD Go.undef).toArray.getD j Go.undef = u := by
          rw [arr_getD, List.getD_eq_getElem?_getD]; simp [hj', h1]
        have e2 : getC ((cells.drop col).take i.sz) j = getC cells (col + j) := by
          simp only [getC, List.getD_eq_getElem?_getD, List.getElem?_take, List.getElem?_drop, hj', if_true]
        rw [e, e2]
        exact ⟨h2, h3⟩
    · rename_i hns
      obtain ⟨⟨hlt, h1s⟩, h⟩ := h
      have hAf : (isAgg t).run P w = .ok false w := by
        rw [hA]; cases hd : i.td <;> first | rfl | (exact absurd hd (hns _))
      obtain ⟨u, h1, h2, _⟩ := hc col hlt
      refine ⟨_, u, ?_, h2, h⟩
      simp [loadVar, hAf, h1]
  · exact h.elim

theorem snd_load (hT : TOk P T) (hR : RelF w0 Z0 φ s a w) {o : Oper} (hd : ∀ n, o.dst = some n → n < s.nt) {t : TypeId} {x : Operand} {ups : List Upd} {R : List Loc} (h : (aLoad T o t x).Ev C s ups R) :
    ∃ v, (Instr.loadAt t (a.eval x)).run P w = .ok v w ∧ Rel w0 Z0 (s.app ups) (a.put o.dst v) w := by
  obtain ⟨d, R1, he, h⟩ := opd_ev hR h
  have hQ : ∀ (cs : List D) (vs : Array Value), vs.size = cs.length → (∀ i, i < cs.length → EncS w Z0 s.ob φ (getC cs i) (vs.getD i Go.undef) ∧ (vs.getD i Go.undef).oneCell' = true) → EncS w Z0 s.ob φ (.agg cs) (.agg vs) :=
    fun cs vs h1 h2 => .agg cs vs h1 (fun i hi => (h2 i hi).2) (fun i hi => (h2 i hi).1)
  generalize a.eval x = xv at he
  cases d <;> (try exact h.elim)
  case fptr cells col =>
    cases he with
    | fptr _ _ b off cv hr hz hcell h1 henc =>
      obtain ⟨d, v, h1, h2, h3⟩ := load_of (Q := EncS w Z0 s.ob φ) hT hQ (fun j hj => ⟨cv j, hcell j hj, henc j hj, h1 j hj⟩) h
      exact ⟨v, by simpa [Instr.loadAt, Instr.sureAddr] using h1, φ, rel_done hR hd h2 h3⟩
  case ptr id ver row col =>
    cases he with
    | ptr _ _ _ _ _ hp =>
      obtain ⟨o1, h1, h2, h3, h4⟩ := hp
      obtain ⟨R2, _, h⟩ := h
      rw [show s.look id = some o1 from h1] at h
      obtain ⟨⟨hv, hrow⟩, h⟩ := h
      obtain ⟨b, hb, rfl⟩ := h3 hv
      have hok := hR.good.ok id o1 h1
      have hrl : (getR o1.rows row).length = o1.sz := by obtain ⟨xs, hx, _⟩ := hok.there; exact hx.row _ (getR_mem hrow)
      obtain ⟨d, v, h1, h2, h3⟩ := load_of (Q := EncS w Z0 s.ob φ) (b := b) (off := row * o1.sz) hT hQ (fun j hj => ob_cell hok hb hrow (by omega)) h
      exact ⟨v, by simpa [Instr.loadAt, Instr.sureAddr] using h1, φ, rel_done hR hd h2 h3⟩

theorem snd_fieldAddr (hT : TOk P T) (hR : RelF w0 Z0 φ s a w) {o : Oper} (hd : ∀ n, o.dst = some n → n < s.nt) {t : TypeId} {x : Operand} {f : Nat} {ups : List Upd} {R : List Loc} (h : (aFieldAddr T o t x f).Ev C s ups R) :
    ∃ v, (Instr.fieldAt t (a.eval x) f).run P w = .ok v w ∧ Rel w0 Z0 (s.app ups) (a.put o.dst v) w := by
  unfold aFieldAddr at h
  split at h
  · rename_i i hi
    split at h
    · rename_i fs hfs
      split at h
      · rename_i p hp
        split at h
        · rename_i j hj
          by_cases hz : j.sz = 0
          · rw [if_pos hz] at h; exact h.elim
          rw [if_neg hz] at h
          obtain ⟨info, dd, q1, q2, q3, q4, q5, _⟩ := (hT.ok hi).ex
          rw [hfs] at q5
          obtain ⟨l, rfl, hl⟩ := tdB_st q5
          have hf : ∃ fld, l[f]? = some fld ∧ fld.offset = p.1 ∧ fld.type = p.2 := by
            rw [← hl, List.getElem?_map] at hp
            cases hq : l.toList[f]? with
            | none => rw [hq] at hp; cases hp
            | some fld => rw [hq] at hp; cases hp; exact ⟨fld, by simpa using hq, rfl, rfl⟩
          obtain ⟨fld, hf1, hf2, hf3⟩ := hf
          have hS := sizeOf_of (w := w) hT hj
          rw [← hf3] at hS
          have hrun : ∀ b off, (Instr.fieldAt t (.pointer (some ⟨b, off, none⟩)) f).run P w = .ok (.pointer (some ⟨b, off + p.1, none⟩)) w := fun b off => by
            simp [Instr.fieldAt, run_underlying q2, hf1, Instr.sureAddr, fieldPlace, hS, hz, hf2, Addr.add_lit]
          obtain ⟨d, R1, he, h⟩ := opd_ev hR h
          generalize a.eval x = xv at he
          cases d <;> (try exact h.elim)
          case fptr cells col =>
            cases he with
            | fptr _ _ b off cv hr hz hcell h1 henc =>
              refine ⟨_, hrun b (off + col), φ, rel_done hR hd ?_ h⟩
              rw [Nat.add_assoc]
              exact .fptr cells (col + p.1) b off cv hr hz hcell h1 henc
          case ptr id ver row col =>
            cases he with
            | ptr _ _ _ _ _ hp =>
              obtain ⟨o1, h1, h2, h3, h4⟩ := hp
              obtain ⟨R2, _, h⟩ := h
              rw [show s.look id = some o1 from h1] at h
              obtain ⟨hv, h⟩ := h
              obtain ⟨b, hb, rfl⟩ := h3 hv
              exact ⟨_, hrun b _, φ, rel_done hR hd (.ptr _ _ _ _ _ ⟨o1, h1, h2, fun _ => ⟨b, hb, by rw [Nat.add_assoc]⟩, rfl⟩) h⟩
        · exact h.elim
      · exact h.elim
    · exact h.elim
  · exact h.elim

theorem snd_indexAddr (hT : TOk P T) (hR : RelF w0 Z0 φ s a w) {o : Oper} (hd : ∀ n, o.dst = some n → n < s.nt) {t : TypeId} {x ix : Operand} {ups : List Upd} {R : List Loc} (h : (aIndexAddr T o t x ix).Ev C s ups R) :
    ∃ v, (Instr.indexAt t (a.eval x) (a.eval ix)).run P w = .ok v w ∧ Rel w0 Z0 (s.app ups) (a.put o.dst v) w := by
  unfold aIndexAddr elemT at h
  split at h
  · rename_i i hi
    split at h
    · rename_i e hfs
      split at h
      · rename_i j hj
        obtain ⟨info, dd, q1, q2, q3, q4, q5, _⟩ := (hT.ok hi).ex
        rw [hfs] at q5
        have q6 := tdB_sl q5; subst q6
        have hS := sizeOf_of (w := w) hT hj
        obtain ⟨d, R1, he, g1⟩ := opd_ev hR h
        clear h
        obtain ⟨d2, R2, he2, h⟩ := opd_ev hR g1
        clear g1
        generalize a.eval x = xv at he
        generalize a.eval ix = iv at he2
        cases d2 <;> (try exact h.elim)
        rename_i kk n
        cases he2 with
        | int _ _ hn =>
          have hrun : ∀ b off len c : Nat, 0 ≤ n → n < (len : Int) → (Instr.indexAt t (.slice (some ⟨b, off, none⟩) len c) (.int kk n)).run P w = .ok (.pointer (some ⟨b, off + n.toNat * j.sz, none⟩)) w := fun b off len c h0 h1 => by
            simp [Instr.indexAt, asIntOf, run_underlying q2, h0, h1, hS, Addr.add_lit]
          cases d <;> (try exact h.elim)
          case fsl sz rows =>
            obtain ⟨⟨h0, h1, h2⟩, h⟩ := h
            have hlt : n.toNat < rows.length := by omega
            cases he with
            | fslNil => simp at hlt
            | fslE => simp at hlt
            | fsl _ _ b off c cv hc hl hr hz hcell hone henc =>
              refine ⟨_, hrun b off _ c h0 h1, φ, rel_done hR hd ?_ h⟩
              have hm := hr _ (getR_mem hlt)
              subst h2
              have := Enc.fptr (w := w) (Z := ZZ Z0 s.ob φ) (E := oslE s.ob φ) (F := ptrF s.ob φ) (getR rows n.toNat) 0 b (off + n.toNat * j.sz) (cv n.toNat) hm.2
                (fun jj hj2 => hz n.toNat jj hlt (by omega)) (fun jj hj2 => by rw [Nat.add_assoc]; exact hcell n.toNat jj hlt (by omega)) (fun jj hj2 => hone n.toNat jj hlt (by omega)) (fun jj hj2 => henc n.toNat jj hlt (by omega))
              simpa using this
          case osl id ver =>
            cases he with
            | osl _ _ _ hp =>
              obtain ⟨o1, h1, h2, h3, h4⟩ := hp
              obtain ⟨R3, _, h⟩ := h
              rw [show s.look id = some o1 from h1] at h
              obtain ⟨⟨hv, hbox, hsz, h5, h6⟩, h⟩ := h
              rw [h3 hv]
              have hok := hR.good.ok id o1 h1
              obtain ⟨xs, hx, hs, _⟩ := hok.there
              rcases (hs hbox).2 with ⟨e1, e2⟩ | ⟨g, cap, cur, e1, _⟩
              · rw [e2] at h6; simp at h6; omega
              · rw [e1]
                refine ⟨_, hrun g 0 _ cap h5 h6, φ, rel_done hR hd (.ptr _ _ _ _ _ ⟨o1, h1, h2, fun _ => ⟨g, by rw [e1]; try rfl, by simp [hsz]⟩, rfl⟩) h⟩
      · exact h.elim
    · exact h.elim
  · exact h.elim

end
end Go.Abs
/- Stores. -/
namespace Go.Abs
open Go Go.RowKit

theorem splice_get {α : Type} (l vs : List α) (o m : Nat) (ho : o + vs.length ≤ l.length) :
    (l.take o ++ vs ++ l.drop (o + vs.length))[m]? = if m < o then l[m]? else if m < o + vs.length then vs[m - o]? else l[m]? := by
  have ht : (l.take o).length = o := by simp; omega
  rw [List.append_assoc]
  by_cases h1 : m < o
  · rw [if_pos h1, List.getElem?_append_left (by omega), List.getElem?_take, if_pos h1]
  · rw [if_neg h1, List.getElem?_append_right (by omega), ht]
    by_cases h2 : m < o + vs.length
    · rw [if_pos h2, List.getElem?_append_left (by omega)]
    · rw [if_neg h2, List.getElem?_append_right (by omega), List.getElem?_drop]
      congr 1; omega

theorem getD_of_get {α : Type} (l l' : List α) (i j : Nat) (d : α) (h : l[i]? = l'[j]?) : l.getD i d = l'.getD j d := by
  rw [List.getD_eq_getElem?_getD, List.getD_eq_getElem?_getD, h]

theorem splice_len (r : List D) (col : Nat) (cs : List D) (h : col + cs.length ≤ r.length) : (splice r col cs).length = r.length := by
  unfold splice; simp; omega

theorem idx_lt {i row sz j : Nat} (hj : j < sz) (h : i < row) : i * sz + j < row * sz := mul_lt h hj

theorem rows_splice {R : D → Value → Prop} {sz : Nat} {rows : List (List D)} {xs : List Value} (h : RowsEnc R sz rows xs) {row col : Nat} (hrow : row < rows.length) {cs : List D} {vs : List Value} (hl : vs.length = cs.length)
    (hc : col + cs.length ≤ sz) (henc : ∀ i, i < cs.length → R (getC cs i) (vs.getD i Go.undef)) (h1 : ∀ x ∈ vs, x.oneCell' = true) :
    RowsEnc R sz (rows.set row (splice (getR rows row) col cs)) (xs.take (row * sz + col) ++ vs ++ xs.drop (row * sz + col + vs.length)) := by
  have hr := h.row _ (getR_mem hrow)
  have hb : row * sz + sz ≤ rows.length * sz := by
    have := Nat.mul_le_mul_right sz (show row + 1 ≤ rows.length by omega)
    rwa [Nat.add_mul, Nat.one_mul] at this
  have hfit : row * sz + col + vs.length ≤ xs.length := by rw [h.len]; omega
  refine ⟨?_, ?_, ?_, ?_, ?_⟩
  · have := h.len
    simp only [List.length_append, List.length_take, List.length_drop, List.length_set]
    omega
  · intro r hmem
    rcases List.mem_or_eq_of_mem_set hmem with h2 | h2
    · exact h.row r h2
    · rw [h2, splice_len _ _ _ (by omega), hr]
  · intro i j hi hj
    simp only [List.length_set] at hi
    by_cases e : i = row
    · subst e
      have e1 : getR (rows.set i (splice (getR rows i) col cs)) i = splice (getR rows i) col cs := by
        simp only [getR, List.getD_eq_getElem?_getD, List.getElem?_set, hrow, if_true]
        rfl
      rw [e1]
      have e2 : getC (splice (getR rows i) col cs) j = if j < col then getC (getR rows i) j else if j < col + cs.length then getC cs (j - col) else getC (getR rows i) j := by
        have := splice_get (getR rows i) cs col j (by omega)
        split
        · rename_i q; rw [if_pos q] at this; exact getD_of_get _ _ _ _ _ this
        · rename_i q; rw [if_neg q] at this
          split
          · rename_i q2; rw [if_pos q2] at this; exact getD_of_get _ _ _ _ _ this
          · rename_i q2; rw [if_neg q2] at this; exact getD_of_get _ _ _ _ _ this
      have e3 := splice_get xs vs (i * sz + col) (i * sz + j) hfit
      rw [e2]
      split
      · rename_i q
        rw [if_pos (by omega)] at e3
        rw [getD_of_get _ _ _ _ _ e3]
        exact h.enc i j hi hj
      · rename_i q
        rw [if_neg (by omega)] at e3
        split
        · rename_i q2
          rw [if_pos (by omega)] at e3
          rw [getD_of_get _ _ _ _ _ e3, show i * sz + j - (i * sz + col) = j - col by omega]
          exact henc (j - col) (by omega)
        · rename_i q2
          rw [if_neg (by omega)] at e3
          rw [getD_of_get _ _ _ _ _ e3]
          exact h.enc i j hi hj
    · have e1 : getR (rows.set row (splice (getR rows row) col cs)) i = getR rows i := by
        apply getD_of_get
        rw [List.getElem?_set, if_neg (Ne.symm e)]
      rw [e1]
      have e3 := splice_get xs vs (row * sz + col) (i * sz + j) hfit
      have e4 : (xs.take (row * sz + col) ++ vs ++ xs.drop (row * sz + col + vs.length)).getD (i * sz + j) Go.undef = xs.getD (i * sz + j) Go.undef := by
        apply getD_of_get
        rw [e3]
        by_cases q : i < row
        · have := idx_lt hj q
          rw [if_pos (by omega)]
        · have q2 : row < i := by omega
          have : row * sz + sz ≤ i * sz := by
            have := Nat.mul_le_mul_right sz (show row + 1 ≤ i by omega)
            rwa [Nat.add_mul, Nat.one_mul] at this
          rw [if_neg (by omega), if_neg (by omega)]
      rw [e4]
      exact h.enc i j hi hj
  · intro x hx
    rcases List.mem_append.1 hx with hx | hx
    · rcases List.mem_append.1 hx with hx | hx
      · exact h.one x (List.mem_of_mem_take hx)
      · exact h1 x hx
    · exact h.one x (List.mem_of_mem_drop hx)
  · simpa using h.lim

section
variable {C : Cons} {P : Program} {T : Tab} {w w0 : World} {Z0 : Nat → Prop} {φ : Nat → Value} {s : AS} {a : Act} {base : Nat}

theorem grown_setRow (w : World) (g : Nat) (cs : Array Value) : w.grownBy (w.setRow g cs) (some g) :=
  ⟨rfl, rfl, rfl, by simp, fun k _ hk => setRow_other w g k _ (fun e => hk (by rw [e]))⟩

/-- The block of a row of the call's own, written from a place on. -/
theorem snd_store (hT : TOk P T) (hR : RelF w0 Z0 φ s a w) {t : TypeId} {x y : Operand} {ups : List Upd} {R : List Loc} (h : (aStore T t x y).Ev C s ups R) :
    ∃ w', (Instr.storeAt t (a.eval x) (a.eval y)).run P w = .ok () w' ∧ Rel w0 Z0 (s.app ups) a w' := by
  unfold aStore at h
  split at h
  · rename_i i hi
    have hS := fun w => sizeOf_of (w := w) hT hi
    obtain ⟨d, R1, he, g1⟩ := opd_ev hR h
    clear h
    obtain ⟨e, R2, he2, h⟩ := opd_ev hR g1
    clear g1
    generalize a.eval x = xv at he
    generalize a.eval y = yv at he2
    split at h
    · rename_i d' o' id ver row col cs hcs
      cases he with
      | ptr _ _ _ _ _ hp =>
        obtain ⟨o1, h1, h2, h3, h4⟩ := hp
        obtain ⟨R3, _, h⟩ := h
        rw [show s.look id = some o1 from h1] at h
        obtain ⟨⟨hv, hmt, hrow, hlen, hcol, hpc⟩, rfl, _⟩ := h
        obtain ⟨b, hb, rfl⟩ := h3 hv
        obtain ⟨hsz, henc⟩ := cells_enc he2 hcs
        have hok := hR.good.ok id o1 h1
        obtain ⟨xs, hx, hs, hpp⟩ := hok.there
        have hvl : yv.cells.toList.length = cs.length := by simpa using hsz
        have hone : ∀ u ∈ yv.cells.toList, u.oneCell' = true := fun u hu => by
          obtain ⟨q, hq, rfl⟩ := List.getElem_of_mem hu
          have := (henc q (by omega)).2
          rwa [← toList_getD, List.getD_eq_getElem?_getD, List.getElem?_eq_getElem hq] at this
        have hb2 : row * o1.sz + o1.sz ≤ o1.rows.length * o1.sz := by
          have := Nat.mul_le_mul_right o1.sz (show row + 1 ≤ o1.rows.length by omega)
          rwa [Nat.add_mul, Nat.one_mul] at this
        have hxl := hx.len
        -- the memory behind the store
        have key : ∃ cur : Array Value, w.heap[b]? = some (.cells cur o1.ty (0, 0)) ∧ o1.rows.length * o1.sz ≤ cur.size ∧ cur.toList.take (o1.rows.length * o1.sz) = xs := by
          cases hbox : o1.box with
          | true =>
            obtain ⟨b', e1, _, hh⟩ := hpp hbox
            rw [e1] at hb; simp [blk] at hb; subst hb
            exact ⟨_, hh, by simp [hxl], by rw [← hxl]; exact List.take_length⟩
          | false =>
            rcases (hs hbox).2 with ⟨e1, _⟩ | ⟨g, cap, cur, e1, _, hg, hnc, _, hcs2, htake⟩
            · rw [e1] at hb; simp [blk] at hb
            · rw [e1] at hb; simp [blk] at hb; subst hb
              exact ⟨cur, hg, by rw [hcs2]; exact Nat.mul_le_mul_right _ hnc, htake⟩
        obtain ⟨cur, hg, hcl, htk⟩ := key
        have hrun := run_storeCells_at P b (row * o1.sz + col) o1.ty yv.cells.toList 0 cur w hg (by omega) hone
        simp only [Nat.add_zero] at hrun
        have hrun2 : (Instr.storeAt t (.pointer (some ⟨b, row * o1.sz + col, none⟩)) yv).run P w = .ok () (w.setRow b (cur.toList.take (row * o1.sz + col) ++ yv.cells.toList ++ cur.toList.drop (row * o1.sz + col + yv.cells.toList.length)).toArray) := by
          have : ¬ (yv.cells.size ≠ i.sz) := by simp [hsz, hlen]
          simp only [Instr.storeAt, Instr.sureAddr, storeVar, Sem.run_bind, Sem.run_pure, Result.andThen_ok, hS, if_neg this, hrun]
        refine ⟨_, hrun2, ?_⟩
        have hgr := grown_setRow w b (cur.toList.take (row * o1.sz + col) ++ yv.cells.toList ++ cur.toList.drop (row * o1.sz + col + yv.cells.toList.length)).toArray
        have hheap := setRow_heap w b cur (cur.toList.take (row * o1.sz + col) ++ yv.cells.toList ++ cur.toList.drop (row * o1.sz + col + yv.cells.toList.length)).toArray o1.ty _ hg
        have hxs' : (cur.toList.take (row * o1.sz + col) ++ yv.cells.toList ++ cur.toList.drop (row * o1.sz + col + yv.cells.toList.length)).take (o1.rows.length * o1.sz) = xs.take (row * o1.sz + col) ++ yv.cells.toList ++ xs.drop (row * o1.sz + col + yv.cells.toList.length) := by
          apply List.ext_getElem?
          intro m
          rw [List.getElem?_take, splice_get _ _ _ _ (by simp; omega), splice_get _ _ _ _ (by omega), ← htk]
          simp only [List.getElem?_take]
          by_cases q : m < o1.rows.length * o1.sz
          · simp only [if_pos q]
          · simp only [if_neg q]
            rw [if_neg (by omega), if_neg (by omega)]
        generalize hL : cur.toList.take (row * o1.sz + col) ++ yv.cells.toList ++ cur.toList.drop (row * o1.sz + col + yv.cells.toList.length) = L at *
        have hLl : L.length = cur.size := by rw [← hL]; simp; omega
        have ht : Turns w (w.setRow b L.toArray) s.ob φ id { o1 with rows := o1.rows.set row (splice (getR o1.rows row) col cs) } (φ id) (some b) :=
          ⟨hgr, fun k hk => (by cases hk; exact ⟨o1, h1, hmt, hb⟩), fun o2 h5 => (by
            have h6 : some o2 = some o1 := h5.symm.trans h1
            cases h6
            exact .inr ⟨rfl, rfl, rfl⟩), fun b2 hb2 => .inr ⟨o1, h1, hb2, fun _ => hmt⟩⟩
        refine ⟨_, hR.turn ht ?_⟩
        refine ⟨fun hbox r hr c hc => ?_, xs.take (row * o1.sz + col) ++ yv.cells.toList ++ xs.drop (row * o1.sz + col + yv.cells.toList.length), ?_, fun hbox => ?_, fun hbox => ?_⟩
        · have hp0 := hok.pure hbox
          rcases List.mem_or_eq_of_mem_set hr with h5 | h5
          · exact hp0 r h5 c hc
          · subst h5
            unfold splice at hc
            rcases List.mem_append.1 hc with hc | hc
            · rcases List.mem_append.1 hc with hc | hc
              · exact hp0 _ (getR_mem hrow) c (List.mem_of_mem_take hc)
              · exact hpc hbox c hc
            · exact hp0 _ (getR_mem hrow) c (List.mem_of_mem_drop hc)
        · exact rows_splice (hx.mono fun d u hd => ht.enc hd) hrow hvl hcol (fun q hq => ht.enc (by rw [toList_getD]; exact (henc q hq).1)) hone
        · have hown := hs hbox
          refine ⟨?_, ?_⟩
          · have := hx.len
            simp only [List.length_append, List.length_take, List.length_drop, List.length_set]
            omega
          · rcases hown.2 with ⟨e1, _⟩ | ⟨g, cap, cur2, e1, hge, hg2, hnc, hcm, hcs2, _⟩
            · rw [e1] at hb; simp [blk] at hb
            · rw [e1] at hb; simp [blk] at hb; subst hb
              have : some (Obj.cells cur o1.ty (0, 0)) = some (Obj.cells cur2 o1.ty (0, 0)) := hg.symm.trans hg2
              cases this
              refine .inr ⟨g, cap, L.toArray, by simpa using e1, hge, hheap, by simpa using hnc, hcm, by simp [hLl, hcs2], ?_⟩
              simpa using hxs'
        · obtain ⟨b', e1, hge, hh⟩ := hpp hbox
          have hb0 := hb
          rw [e1] at hb; simp [blk] at hb; subst hb
          have : some (Obj.cells cur o1.ty (0, 0)) = some (Obj.cells xs.toArray o1.ty (0, 0)) := hg.symm.trans hh
          cases this
          refine ⟨b', e1, hge, ?_⟩
          rw [hheap]
          have : L = xs.take (row * o1.sz + col) ++ yv.cells.toList ++ xs.drop (row * o1.sz + col + yv.cells.toList.length) := by rw [← hL]
          rw [this]
    · exact h.elim
  · exact h.elim

end
end Go.Abs
/- Slices of the call's own: append, literals, make. -/
namespace Go.Abs
open Go Go.RowKit

theorem ownBlock_blk {w : World} {base : Nat} {e : TypeId} {size : Nat} {v : Value} {n : Nat} {xs : List Value} (h : w.ownsRow base e size v n xs) : v.ownBlock = blk v := by
  rcases h.2 with ⟨rfl, _⟩ | ⟨g, cap, cur, rfl, _⟩ <;> rfl

theorem maxLen_big {n : Nat} (h : n ≤ lim) : n ≤ maxLen := by unfold lim at h; simp only [maxLen]; omega

/-- A row in a block that was just made. -/
theorem owns_new {w' : World} {base g e size n cap : Nat} {cur : Array Value} {xs : List Value} (hg : w'.heap[g]? = some (.cells cur e (0, 0))) (hb : base ≤ g) (hl : xs.length = n * size) (hnc : n ≤ cap) (hcm : cap ≤ maxLen)
    (hcs : cur.size = cap * size) (ht : cur.toList.take (n * size) = xs) : w'.ownsRow base e size (.slice (some ⟨g, 0, none⟩) n cap) n xs :=
  ⟨hl, .inr ⟨g, cap, cur, rfl, hb, hg, hnc, hcm, hcs, ht⟩⟩

section
variable {P : Program} (w : World)

/-- Go's append to a row of one's own, from a row that can be read: where the new row lies is told. -/
theorem run_append2 (base : Nat) (t ty e : TypeId) (i : TypeInfo) (z : Value) (ht : P.underlying t = some (.slice e)) (hi : P.info? e = some i) (hz : i.zero = some z)
    (hzs : z.cells.size = i.size) (v : Value) (n : Nat) (xs : List Value) (hown : w.ownsRow base e i.size v n xs)
    (a : Addr) (m c : Nat) (news : List Value) (hl : news.length = m * i.size) (hnews : ∀ j u, news[j]? = some u → w.cell? (a.add j) = some u) (h1 : ∀ u ∈ news, u.oneCell' = true)
    (hlim : n + m ≤ lim) (hbytes : (n + m) * i.bytes ≤ lim) (hbase : base ≤ w.heap.size) :
    ∃ v' w', (Builtin.append_ #[t, t] ty #[v, .slice (some a) m c]).run P w = .ok v' w' ∧ w'.ownsRow base e i.size v' (n + m) (xs ++ news) ∧ w.grownBy w' v.ownBlock ∧ (∀ k, blk v' = some k → w.heap.size ≤ k ∨ blk v = some k) := by
  have h63 := maxLen_big hlim
  have hlen : (xs ++ news).length = (n + m) * i.size := by rw [List.length_append, hown.1, hl, Nat.add_mul]
  have hb2 : (n + m) * i.bytes ≤ 140737488355328 := hbytes
  have hs63 : ((n + m : Nat) : Int) ≤ 9223372036854775807 := by have := h63; simp only [maxLen] at this; omega
  -- a new block
  have fresh : ∀ (old : Nat), (w.drew.alloc (.cells (xs.toArray ++ news.toArray ++ Builtin.zeroCells z.cells (grownCap w (n + m) old e - (n + m))) e)).ownsRow base e i.size
        (.slice (some ⟨w.heap.size, 0, none⟩) (n + m) (grownCap w (n + m) old e)) (n + m) (xs ++ news) := by
    intro old
    have hge := grownCap_ge w (n + m) old e
    refine owns_new (heap_alloc_new w.drew _) hbase hlen hge (grownCap_le_maxLen w (n + m) old e h63) ?_ ?_
    · simp only [Array.size_append, List.size_toArray, size_zeroCells, hzs, hown.1, hl, ← Nat.add_mul]
      congr 1
      omega
    · simp only [Array.toList_append]
      rw [← hlen]
      exact List.take_left
  have gr : ∀ (o : Obj) (row : Option Nat), w.grownBy (w.drew.alloc o) row := fun o row => ⟨rfl, rfl, rfl, by simp, fun k hk _ => heap_alloc_old w.drew o k hk⟩
  rcases hown.2 with ⟨rfl, rfl⟩ | ⟨g, cap, cur, rfl, hbg, hg, hnc, hcm, hcs, htake⟩
  · obtain rfl : xs = [] := List.eq_nil_of_length_eq_zero (by simpa using hown.1)
    by_cases hm : m = 0
    · subst hm
      obtain rfl : news = [] := List.eq_nil_of_length_eq_zero (by simpa using hl)
      exact ⟨.slice none 0 0, w, by simp [Builtin.append_, run_underlying ht, sizeOf, typeInfo, hi, Builtin.lenOf, Builtin.firstCells, loadCells, loadCellsFrom], World.ownsRow_nil w base e i.size, ⟨rfl, rfl, rfl, Nat.le_refl _, fun _ _ _ => rfl⟩, fun k hk => by simp [blk] at hk⟩
    · have hr := run_append_nil (P := P) w t ty e i z ht hi hz a m c news hl hnews (by omega) (by simpa using hs63) (by have := hb2; simp only [Nat.zero_add] at this; omega)
      have hf := fresh 0
      simp only [Nat.zero_add, List.nil_append, Array.empty_append] at hf ⊢
      exact ⟨_, _, hr, hf, gr _ _, fun k hk => by simp [blk] at hk; omega⟩
  · by_cases hroom : n + m ≤ cap
    · have hfit : n * i.size + news.length ≤ cur.size := by rw [hl, hcs, ← Nat.add_mul]; exact Nat.mul_le_mul_right _ hroom
      have hr := run_append_room (P := P) w t ty e i ht hi g n cap cur hg a m c news hl hnews h1 hroom hfit
      refine ⟨_, _, hr, owns_new (setRow_heap w g cur _ e _ hg) hbg hlen hroom hcm ?_ ?_, ⟨rfl, rfl, rfl, by simp, fun k _ hk => setRow_other w g k _ (fun e => hk (by simp [Value.ownBlock, e]))⟩, fun k hk => .inr (by simpa [blk] using hk)⟩
      · simp only [List.size_toArray, List.length_append, List.length_take, List.length_drop, Array.length_toList]
        omega
      · rw [htake, ← hlen]
        exact List.take_left
    · have holds : ∀ j u, xs[j]? = some u → w.cell? ((⟨g, 0, none⟩ : Addr).add j) = some u := hown.cells (g := g) rfl
      have hr := run_append_grow (P := P) w t ty e i z ht hi hz ⟨g, 0, none⟩ n cap xs hown.1 holds a m c news hl hnews (by omega) (by simpa using hs63) (growslice_fits (by omega) hb2)
      exact ⟨_, _, hr, fresh cap, gr _ _, fun k hk => by simp [blk] at hk; omega⟩

/-- .. and from nil. -/
theorem run_append_none (base : Nat) (t ty e : TypeId) (i : TypeInfo) (ht : P.underlying t = some (.slice e)) (hi : P.info? e = some i) (v : Value) (n : Nat) (xs : List Value) (hown : w.ownsRow base e i.size v n xs) :
    (Builtin.append_ #[t, t] ty #[v, .slice none 0 0]).run P w = .ok v w := by
  rcases hown.2 with ⟨rfl, rfl⟩ | ⟨g, cap, cur, rfl, hbg, hg, hnc, hcm, hcs, htake⟩
  · simp [Builtin.append_, run_underlying ht, sizeOf, typeInfo, hi, Builtin.lenOf, Builtin.firstCells]
  · simp [Builtin.append_, run_underlying ht, sizeOf, typeInfo, hi, Builtin.lenOf, Builtin.firstCells, hnc, storeCells]

end

/-- An element type that can be made: its zero value is known. -/
def madeT (T : Tab) (t : TypeId) (k : TypeId → TI → List D → AR) : AR :=
  elemT T t fun e j =>
    match j.zero with
    | some z => if z.length = j.sz ∧ 0 < j.sz then k e j z else .fail
    | none => .fail

/-- The rows of a slice that is read. -/
def rowsOf (sz : Nat) (d : D) (k : List (List D) → AR) : AR :=
  match d with
  | .nil => k []
  | .fsl sz2 rows => .req (sz2 = sz) (k rows)
  | .osl id ver => .look id fun
    | some b => .req (b.ver = ver ∧ b.box = false ∧ b.sz = sz) (k b.rows)
    | none => .fail
  | _ => .fail

def aAppend (T : Tab) (o : Oper) (t : TypeId) (x y : Operand) : AR :=
  madeT T t fun e j _ => opd x fun dx => opd y fun dy => rowsOf j.sz dy fun rows2 =>
    match dx, o.dst with
    | .nil, some n => bump (n * 100) fun ver =>
      .req (rows2.length * j.bytes ≤ lim ∧ rows2.length ≤ lim) (.ret [.ob (n * 100) ⟨ver, true, false, j.sz, e, rows2⟩, .slot n (.osl (n * 100) ver)])
    | .osl id ver, some n => .look id fun
      | some b => .req (b.ver = ver ∧ b.mt = true ∧ b.box = false ∧ b.sz = j.sz ∧ b.ty = e ∧ (b.rows.length + rows2.length) * j.bytes ≤ lim ∧ b.rows.length + rows2.length ≤ lim)
          (.ret [.ob id ⟨ver + 1, true, false, j.sz, e, b.rows ++ rows2⟩, .slot n (.osl id (ver + 1))])
      | none => .fail
    | _, _ => .fail

section
variable {C : Cons} {P : Program} {T : Tab} {w w0 : World} {Z0 : Nat → Prop} {φ : Nat → Value} {s : AS} {a : Act}

theorem zerosB_len : ∀ {vs : List Value} {ds : List D}, zerosB vs ds = true → vs.length = ds.length
  | [], [], _ => rfl
  | v :: vs, d :: ds, h => by simp only [zerosB, Bool.and_eq_true] at h; simp [zerosB_len h.2]
  | [], _ :: _, h => by cases h
  | _ :: _, [], h => by cases h

structure MadeOk (P : Program) (t e : TypeId) (j : TI) (z : List D) : Prop where
  ex : ∃ info zv, P.underlying t = some (.slice e) ∧ P.info? e = some info ∧ info.zero = some zv ∧ zv.cells.size = info.size ∧ 0 < info.size ∧ info.size = j.sz ∧ info.bytes = j.bytes ∧ zerosB zv.cells.toList z = true

theorem madeT_ev (hT : TOk P T) {t : TypeId} {k : TypeId → TI → List D → AR} {ups : List Upd} {R : List Loc} (h : (madeT T t k).Ev C s ups R) :
    ∃ e j z, MadeOk P t e j z ∧ (k e j z).Ev C s ups R := by
  unfold madeT elemT at h
  split at h
  · rename_i i hi
    split at h
    · rename_i e hfs
      split at h
      · rename_i j hj
        dsimp only at h
        split at h
        · rename_i z hz
          split at h
          · rename_i hc
            obtain ⟨info, dd, q1, q2, q3, q4, q5, _⟩ := (hT.ok hi).ex
            obtain ⟨info2, dd2, p1, p2, p3, p4, p5, p6⟩ := (hT.ok hj).ex
            rw [hfs] at q5
            have q6 := tdB_sl q5; subst q6
            obtain ⟨zv, hzv, hzb⟩ := p6 z hz
            have hl := zerosB_len hzb
            exact ⟨e, j, z, ⟨info2, zv, q2, p1, hzv, by simp at hl; omega, by omega, p3, p4, hzb⟩, h⟩
          · exact h.elim
        · exact h.elim
      · exact h.elim
    · exact h.elim
  · exact h.elim

/-- A slice that is read: nil, or a row of cells. -/
theorem rowsOf_ev (hR : RelF w0 Z0 φ s a w) {sz : Nat} {d : D} {v : Value} (hd : EncS w Z0 s.ob φ d v) {k : List (List D) → AR} {ups : List Upd} {R : List Loc} (h : (rowsOf sz d k).Ev C s ups R) :
    ∃ rows R', (k rows).Ev C s ups R' ∧ (∀ r ∈ rows, ∀ c ∈ r, D.pc c = true) ∧ rows.length ≤ lim ∧
      ((v = .slice none 0 0 ∧ rows = []) ∨ ∃ ad c news, v = .slice (some ad) rows.length c ∧ RowsEnc (EncS w Z0 s.ob φ) sz rows news ∧ ∀ j u, news[j]? = some u → w.cell? (ad.add j) = some u) := by
  cases d <;> (try exact h.elim)
  case nil =>
    cases hd
    exact ⟨[], R, h, by simp, by simp [lim], .inl ⟨rfl, rfl⟩⟩
  case fsl sz2 rows =>
    obtain ⟨rfl, h⟩ := h
    cases hd with
    | fslNil => exact ⟨[], R, h, by simp, by simp [lim], .inl ⟨rfl, rfl⟩⟩
    | fslE _ ad c => exact ⟨[], R, h, by simp, by simp [lim], .inr ⟨ad, c, [], rfl, ⟨by simp, by simp, by simp, by simp, by simp [lim]⟩, by simp⟩⟩
    | fsl _ _ b off c cv hc hl hr hz hcell hone henc =>
      refine ⟨rows, R, h, fun r hr2 => (hr r hr2).2, hl, .inr ⟨⟨b, off, none⟩, c, (List.range (rows.length * sz2)).map fun q => cv (q / sz2) (q % sz2), rfl, ⟨by simp, fun r hr2 => (hr r hr2).1, fun i j hi hj => ?_, fun x hx => ?_, hl⟩, fun j u hu => ?_⟩⟩
      · have hlt := mul_lt hi hj
        have : ((List.range (rows.length * sz2)).map fun q => cv (q / sz2) (q % sz2)).getD (i * sz2 + j) Go.undef = cv i j := by
          rw [List.getD_eq_getElem?_getD]
          simp only [List.getElem?_map, List.getElem?_range hlt, Option.map_some, Option.getD_some]
          rw [Nat.mul_comm i sz2, Nat.mul_add_div (by omega), Nat.mul_add_mod, Nat.div_eq_of_lt hj, Nat.mod_eq_of_lt hj, Nat.add_zero]
        rw [this]
        exact henc i j hi hj
      · obtain ⟨q, hq, rfl⟩ := List.mem_map.1 hx
        have hq := List.mem_range.1 hq
        have hs0 : 0 < sz2 := Nat.pos_of_ne_zero fun e => by subst e; simp at hq
        exact hone _ _ (by rw [Nat.div_lt_iff_lt_mul hs0]; exact hq) (Nat.mod_lt _ hs0)
      · have hj : j < rows.length * sz2 := by
          have := (List.getElem?_eq_some_iff.1 hu).1
          simpa using this
        have hs0 : 0 < sz2 := Nat.pos_of_ne_zero fun e => by subst e; simp at hj
        simp only [List.getElem?_map, List.getElem?_range hj, Option.map_some, Option.some.injEq] at hu
        subst hu
        have := hcell (j / sz2) (j % sz2) (by rw [Nat.div_lt_iff_lt_mul hs0]; exact hj) (Nat.mod_lt _ hs0)
        rw [Addr.add_lit, Nat.mul_comm, Nat.div_add_mod] at *
        simpa using this
  case osl id ver =>
    cases hd with
    | osl _ _ _ hp =>
      obtain ⟨o1, h1, h2, h3, h4⟩ := hp
      obtain ⟨R2, _, h⟩ := h
      rw [show s.look id = some o1 from h1] at h
      obtain ⟨⟨hv, hbox, hsz⟩, h⟩ := h
      have hok := hR.good.ok id o1 h1
      obtain ⟨xs, hx, hs, _⟩ := hok.there
      subst hsz
      refine ⟨o1.rows, R2, h, hok.pure hbox, hx.lim, ?_⟩
      rw [h3 hv]
      have hown := hs hbox
      rcases hown.2 with ⟨e1, e2⟩ | ⟨g, cap, cur, e1, _⟩
      · exact .inl ⟨e1, List.eq_nil_of_length_eq_zero e2⟩
      · refine .inr ⟨⟨g, 0, none⟩, cap, xs, e1, hx, fun j u hu => hown.cells (g := g) (by rw [e1]; try rfl) j u hu⟩

theorem rows_append {R : D → Value → Prop} {sz : Nat} {r1 r2 : List (List D)} {x1 x2 : List Value} (h1 : RowsEnc R sz r1 x1) (h2 : RowsEnc R sz r2 x2) (hl : r1.length + r2.length ≤ lim) : RowsEnc R sz (r1 ++ r2) (x1 ++ x2) := by
  refine ⟨by rw [List.length_append, List.length_append, h1.len, h2.len, Nat.add_mul], fun r hr => ?_, fun i j hi hj => ?_, fun x hx => ?_, by simpa using hl⟩
  · rcases List.mem_append.1 hr with h | h
    · exact h1.row r h
    · exact h2.row r h
  · by_cases q : i < r1.length
    · have hlt := mul_lt q hj
      have e1 : getR (r1 ++ r2) i = getR r1 i := getD_of_get _ _ _ _ _ (List.getElem?_append_left q)
      have e2 : (x1 ++ x2).getD (i * sz + j) Go.undef = x1.getD (i * sz + j) Go.undef := getD_of_get _ _ _ _ _ (List.getElem?_append_left (by rw [h1.len]; exact hlt))
      rw [e1, e2]; exact h1.enc i j q hj
    · have hi2 : i - r1.length < r2.length := by simp at hi; omega
      have e1 : getR (r1 ++ r2) i = getR r2 (i - r1.length) := getD_of_get _ _ _ _ _ (List.getElem?_append_right (by omega))
      have hm : r1.length * sz ≤ i * sz := Nat.mul_le_mul_right _ (by omega)
      have e2 : (x1 ++ x2).getD (i * sz + j) Go.undef = x2.getD ((i - r1.length) * sz + j) Go.undef := by
        apply getD_of_get
        rw [List.getElem?_append_right (by rw [h1.len]; omega), h1.len, Nat.sub_mul]
        congr 1; omega
      rw [e1, e2]; exact h2.enc _ j hi2 hj
  · rcases List.mem_append.1 hx with h | h
    · exact h1.one x h
    · exact h2.one x h

theorem rowsEnc_nil {R : D → Value → Prop} {sz : Nat} : RowsEnc R sz [] [] := ⟨by simp, by simp, by simp, by simp, by simp [lim]⟩

/-- A slice of the call's own takes a new value. -/
theorem rel_own (hR : RelF w0 Z0 φ s a w) {id : Nat} {o : Ob} {v : Value} {row : Option Nat} {w' : World} {xs : List Value} (hbox : o.box = false) (ht : Turns w w' s.ob φ id o v row)
    (hpc : ∀ r ∈ o.rows, ∀ c ∈ r, D.pc c = true) (hx : RowsEnc (EncS w Z0 s.ob φ) o.sz o.rows xs) (hown : w'.ownsRow w0.heap.size o.ty o.sz v o.rows.length xs) {n : Nat} (hn : n < s.nt) :
    Rel w0 Z0 { s with ob := (id, o) :: s.ob, sl := (n, .osl id o.ver) :: s.sl } (a.put (some n) v) w' := by
  have h1 := hR.turn ht ⟨fun _ => hpc, xs, hx.mono fun d u hd => ht.enc hd, fun _ => hown, fun h => by rw [hbox] at h; cases h⟩
  refine ⟨_, h1.put (n := n) (d := .osl id o.ver) (v := v) hn (.osl _ _ _ ⟨o, by simp [look_put], Nat.le_refl _, fun _ => by simp [upd], ?_⟩)⟩
  rcases hown.2 with ⟨rfl, _⟩ | ⟨g, cap, cur, rfl, _⟩ <;> rfl

theorem snd_append (hT : TOk P T) (hR : RelF w0 Z0 φ s a w) {o : Oper} (hd : ∀ n, o.dst = some n → n < s.nt) {t ty : TypeId} {x y : Operand} {ups : List Upd} {R : List Loc} (h : (aAppend T o t x y).Ev C s ups R) :
    ∃ v w', (Builtin.append_ #[t, t] ty #[a.eval x, a.eval y]).run P w = .ok v w' ∧ Rel w0 Z0 (s.app ups) (a.put o.dst v) w' := by
  obtain ⟨e, j, z, ⟨info, zv, q1, q2, q3, q4, q5, q6, q7, _⟩, h⟩ := madeT_ev hT h
  obtain ⟨dx, R1, hdx, g1⟩ := opd_ev hR h
  clear h
  obtain ⟨dy, R2, hdy, g2⟩ := opd_ev hR g1
  clear g1
  obtain ⟨rows2, R3, h, hpc2, hlim2, hsrc⟩ := rowsOf_ev hR hdy g2
  clear g2
  have hbase := hR.below.size
  -- one law for both forms of the source
  have law : ∀ (v : Value) (n : Nat) (xs : List Value), w.ownsRow w0.heap.size e info.size v n xs → n + rows2.length ≤ lim → (n + rows2.length) * info.bytes ≤ lim →
      ∃ news v' w', RowsEnc (EncS w Z0 s.ob φ) j.sz rows2 news ∧ (Builtin.append_ #[t, t] ty #[v, a.eval y]).run P w = .ok v' w' ∧ w'.ownsRow w0.heap.size e info.size v' (n + rows2.length) (xs ++ news) ∧ w.grownBy w' v.ownBlock ∧ (∀ k, blk v' = some k → w.heap.size ≤ k ∨ blk v = some k) := by
    intro v n xs hown hl hb
    rcases hsrc with ⟨e1, e2⟩ | ⟨ad, c, news, e1, hx, hcell⟩
    · subst e2
      rw [e1]
      exact ⟨[], v, w, rowsEnc_nil, run_append_none w w0.heap.size t ty e info q1 q2 v n xs hown, by simpa using hown, ⟨rfl, rfl, rfl, Nat.le_refl _, fun _ _ _ => rfl⟩, fun k hk => .inr hk⟩
    · rw [e1]
      obtain ⟨v', w', h1, h2, h3, h4⟩ := run_append2 (P := P) w w0.heap.size t ty e info zv q1 q2 q3 q4 v n xs hown ad rows2.length c news (by rw [hx.len, q6]) hcell hx.one hl hb hbase
      exact ⟨news, v', w', hx, h1, h2, h3, h4⟩
  generalize a.eval x = xv at hdx ⊢
  split at h
  · rename_i _ _ n hn
    obtain ⟨ver, R4, hver, ⟨hb, hl⟩, rfl, _⟩ := bump_ev h
    obtain ⟨news, v', w', hx, h1, h2, h3, h4⟩ := law (.slice none 0 0) 0 [] (World.ownsRow_nil _ _ _ _) (by simpa using hl) (by rw [q7]; simpa using hb)
    cases hdx
    refine ⟨v', w', h1, ?_⟩
    rw [hn]
    simp only [Nat.zero_add, List.nil_append] at h2
    exact rel_own (o := ⟨ver, true, false, j.sz, e, rows2⟩) hR rfl (Turns.alloc hver (by simpa [Value.ownBlock] using h3) (fun b hb => by rcases h4 b hb with h | h; exact h; simp [blk] at h)) hpc2 hx (by rw [← q6]; exact h2) (hd n hn)
  · rename_i _ _ id ver n hn
    obtain ⟨R4, _, h⟩ := h
    cases hdx with
    | osl _ _ _ hp =>
      obtain ⟨o1, h1, h2, h3, h4⟩ := hp
      rw [show s.look id = some o1 from h1] at h
      obtain ⟨⟨hv, hmt, hbox, hsz, hty, hb, hl⟩, rfl, _⟩ := h
      have hok := hR.good.ok id o1 h1
      obtain ⟨xs, hxs, hs, _⟩ := hok.there
      have hown := hs hbox
      rw [hty, hsz, ← q6] at hown
      obtain ⟨news, v', w', hx, g1, g2, g3, g4⟩ := law (φ id) o1.rows.length xs hown hl (by rw [q7]; exact hb)
      rw [h3 hv]
      refine ⟨v', w', g1, ?_⟩
      rw [hn]
      have hob := ownBlock_blk hown
      refine rel_own (o := ⟨ver + 1, true, false, j.sz, e, o1.rows ++ rows2⟩) hR rfl ⟨g3, fun k hk => ?_, fun o2 h5 => ?_, fun b hb => ?_⟩ (fun r hr => ?_) (rows_append (by rw [← hsz]; exact hxs) hx hl) (by rw [← q6]; simpa using g2) (hd n hn)
      · rw [hob] at hk; exact ⟨o1, h1, hmt, hk⟩
      · have h6 : some o2 = some o1 := h5.symm.trans h1
        cases h6
        exact .inl (by rw [hv]; exact Nat.lt_succ_self _)
      · rcases g4 b hb with h | h
        · exact .inl h
        · exact .inr ⟨o1, h1, h, fun _ => hmt⟩
      · rcases List.mem_append.1 hr with h | h
        · exact hok.pure hbox r h
        · exact hpc2 r h
  · exact h.elim

end
end Go.Abs
/- Own data by value: what is read by others, and what is put out of writing. -/
namespace Go.Abs
open Go Go.RowKit

def resCell (d : D) (k : D → List Nat → AR) : AR :=
  match d with
  | .osl id ver => .look id fun
    | some b => .req (b.ver = ver ∧ b.box = false) (k (.fsl b.sz b.rows) [id])
    | none => .fail
  | .int _ _ | .bool _ | .str _ | .nil | .fsl _ _ => k d []
  | _ => .fail

def resCells : List D → (List D → List Nat → AR) → AR
  | [], k => k [] []
  | d :: r, k => resCell d fun d' i1 => resCells r fun r' i2 => k (d' :: r') (i1 ++ i2)

def resCap (d : D) (k : D → List Nat → AR) : AR :=
  match d with
  | .ptr id ver row col => .look id fun
    | some b => .req (b.ver = ver ∧ row < b.rows.length) (resCells (getR b.rows row) fun cs ids => k (.fptr cs col) (id :: ids))
    | none => .fail
  | .agg cs => resCells cs fun cs' ids => k (.agg cs') ids
  | .fptr _ _ => k d []
  | .undef => k .undef []
  | d => resCell d k

def resCaps : List D → (List D → List Nat → AR) → AR
  | [], k => k [] []
  | d :: r, k => resCap d fun d' i1 => resCaps r fun r' i2 => k (d' :: r') (i1 ++ i2)

def resArg (d : D) (k : D → List Nat → AR) : AR :=
  match d with
  | .fn f caps => resCaps caps fun cs ids => k (.fn f cs) ids
  | d => resCap d k

def resArgs : List D → (List D → List Nat → AR) → AR
  | [], k => k [] []
  | d :: r, k => resArg d fun d' i1 => resArgs r fun r' i2 => k (d' :: r') (i1 ++ i2)

/-- The updates that put blocks out of writing. -/
def frzU : List Nat → (List Upd → AR) → AR
  | [], k => k []
  | id :: r, k => .look id fun
    | some b => frzU r fun us => k (.ob id { b with mt := false } :: us)
    | none => .fail

/-- Out of 's' by putting blocks out of writing. -/
structure Frz (s s' : AS) (ids : List Nat) : Prop where
  nt : s'.nt = s.nt
  sl : s'.sl = s.sl
  same : ∀ id, id ∉ ids → look s'.ob id = look s.ob id
  froz : ∀ id, id ∈ ids → ∃ b, look s.ob id = some b ∧ look s'.ob id = some { b with mt := false }

section
variable {C : Cons} {P : Program} {T : Tab} {w w0 : World} {Z0 : Nat → Prop} {φ : Nat → Value} {s : AS} {a : Act}

theorem AS.app_append (s : AS) : ∀ (u v : List Upd), s.app (u ++ v) = (s.app u).app v
  | [], v => rfl
  | .slot n d :: r, v => by simpa [AS.app] using AS.app_append _ r v
  | .ob id o :: r, v => by simpa [AS.app] using AS.app_append _ r v

/-- The freezing of blocks that are told of the state 's', one after the other from 't' on. -/
theorem frz_go (s : AS) : ∀ (ids : List Nat) (k : List Upd → AR) {ups : List Upd} {R : List Loc}, (frzU ids k).Ev C s ups R →
    ∃ us R', (k us).Ev C s ups R' ∧ ∀ (t : AS) (done : List Nat), Frz s t done → RelF w0 Z0 φ t a w → Frz s (t.app us) (ids ++ done) ∧ RelF w0 Z0 φ (t.app us) a w
  | [], k, ups, R, h => ⟨[], R, h, fun t done h1 h2 => ⟨h1, h2⟩⟩
  | id :: r, k, ups, R, h => by
    obtain ⟨R1, _, h⟩ := h
    cases ho : s.look id with
    | none => rw [ho] at h; exact h.elim
    | some b =>
      rw [ho] at h
      obtain ⟨us, R', h1, h2⟩ := frz_go s r _ h
      refine ⟨_, R', h1, fun t done hf hr => ?_⟩
      have hl : ∃ o, look t.ob id = some o ∧ ({ o with mt := false } : Ob) = { b with mt := false } := by
        by_cases hm : id ∈ done
        · obtain ⟨b2, e1, e2⟩ := hf.froz id hm
          have : some b2 = some b := e1.symm.trans ho
          cases this
          exact ⟨_, e2, rfl⟩
        · exact ⟨b, (hf.same id hm).trans ho, rfl⟩
      obtain ⟨o, hl1, hl2⟩ := hl
      have hr2 := hr.freeze (id := id) (o := o) hl1
      rw [hl2] at hr2
      have hf2 : Frz s { t with ob := (id, { b with mt := false }) :: t.ob } (id :: done) := by
        refine ⟨hf.nt, hf.sl, fun i hi => ?_, fun i hi => ?_⟩
        · simp only [List.mem_cons, not_or] at hi
          show look ((id, _) :: t.ob) i = _
          rw [look_put, if_neg (Ne.symm hi.1)]
          exact hf.same i hi.2
        · show ∃ b', look s.ob i = some b' ∧ look ((id, _) :: t.ob) i = _
          rw [look_put]
          by_cases e : id = i
          · subst e
            exact ⟨b, ho, by simp⟩
          · rw [if_neg e]
            rcases List.mem_cons.1 hi with h3 | h3
            · exact absurd h3.symm e
            · exact hf.froz i h3
      obtain ⟨h3, h4⟩ := h2 _ _ hf2 hr2
      refine ⟨?_, h4⟩
      refine ⟨h3.nt, h3.sl, fun i hi => h3.same i (fun hm => hi ?_), fun i hi => h3.froz i ?_⟩
      · simp only [List.mem_append, List.mem_cons] at hm ⊢
        rcases hm with h | h | h
        · exact .inl (.inr h)
        · exact .inl (.inl h)
        · exact .inr h
      · simp only [List.cons_append, List.mem_append, List.mem_cons] at hi ⊢
        rcases hi with h | h | h
        · exact .inr (.inl h)
        · exact .inl h
        · exact .inr (.inr h)

theorem frz_ev (hR : RelF w0 Z0 φ s a w) {ids : List Nat} {k : List Upd → AR} {ups : List Upd} {R : List Loc} (h : (frzU ids k).Ev C s ups R) :
    ∃ us R', (k us).Ev C s ups R' ∧ Frz s (s.app us) ids ∧ RelF w0 Z0 φ (s.app us) a w := by
  obtain ⟨us, R', h1, h2⟩ := frz_go (w0 := w0) (Z0 := Z0) (φ := φ) (a := a) (w := w) s ids k h
  have := h2 s [] ⟨rfl, rfl, fun _ _ => rfl, fun _ h => by cases h⟩ hR
  simp only [List.append_nil] at this
  exact ⟨us, R', h1, this⟩

/-- 'Z'' avoids what was to be avoided, but for the blocks of 'ids'. -/
def Avoids (s : AS) (Z0 : Nat → Prop) (φ : Nat → Value) (w : World) (ids : List Nat) (Z' : Nat → Prop) : Prop :=
  (∀ b, b < w.heap.size → ¬ ZZ Z0 s.ob φ b → ¬ Z' b) ∧ ∀ id, id ∈ ids → ∀ b, blk (φ id) = some b → ¬ Z' b

theorem Avoids.sub {Z' : Nat → Prop} {i1 i2 : List Nat} (h : Avoids s Z0 φ w i1 Z') (hs : ∀ i, i ∈ i2 → i ∈ i1) : Avoids s Z0 φ w i2 Z' := ⟨h.1, fun id hi => h.2 id (hs id hi)⟩

/-- An own slice, by value. -/
theorem osl_value (hR : RelF w0 Z0 φ s a w) {id ver : Nat} {v : Value} {b : Ob} (h : EncS w Z0 s.ob φ (.osl id ver) v) (hl : s.look id = some b) (hv : b.ver = ver) (hbox : b.box = false)
    {Z' : Nat → Prop} {E : Nat → Nat → Value → Prop} {F : Nat → Nat → Nat → Nat → Value → Prop} (ha : Avoids s Z0 φ w [id] Z') : Enc w Z' E F (.fsl b.sz b.rows) v := by
  cases h with
  | osl _ _ _ hp =>
    obtain ⟨o1, h1, h2, h3, h4⟩ := hp
    obtain rfl : o1 = b := Option.some.inj (h1.symm.trans hl)
    rw [h3 hv]
    have hok := hR.good.ok id o1 h1
    obtain ⟨xs, hx, hs, _⟩ := hok.there
    rcases (hs hbox).2 with ⟨e1, e2⟩ | ⟨g, cap, cur, e1, hge, hg, hnc, hcm, hcs, htake⟩
    · have : o1.rows = [] := List.eq_nil_of_length_eq_zero e2
      rw [e1, this]; exact .fslNil _
    · rw [e1]
      have hb : blk (φ id) = some g := by rw [e1]; try rfl
      have hcell := fun i j (hi : i < o1.rows.length) (hj : j < o1.sz) => ob_cell hok hb hi hj
      refine .fsl o1.sz o1.rows g 0 cap (fun i j => xs.getD (i * o1.sz + j) Go.undef) hnc hx.lim (fun r hr => ⟨hx.row r hr, hok.pure hbox r hr⟩) (fun i j hi hj => ha.2 id (by simp) g hb) (fun i j hi hj => ?_) (fun i j hi hj => ?_) (fun i j hi hj => ?_)
      · have hlt : i * o1.sz + j < xs.length := by rw [hx.len]; exact mul_lt hi hj
        have hc := (hs hbox).cells (g := g) (by rw [e1]; try rfl) (i * o1.sz + j) xs[i * o1.sz + j] (List.getElem?_eq_getElem hlt)
        rw [Addr.add_lit] at hc
        rw [List.getD_eq_getElem?_getD, List.getElem?_eq_getElem hlt]
        simpa using hc
      · have hlt : i * o1.sz + j < xs.length := by rw [hx.len]; exact mul_lt hi hj
        exact hx.one _ (by rw [List.getD_eq_getElem?_getD, List.getElem?_eq_getElem hlt]; exact List.getElem_mem hlt)
      · have h5 := hx.enc i j hi hj
        have hm : D.pc (getC (getR o1.rows i) j) = true := hok.pure hbox _ (getR_mem hi) _ (getC_mem (by rw [hx.row _ (getR_mem hi)]; exact hj))
        refine Enc.ofPc (h5.mono (w' := w) (Z' := Z') (fun b hz hlt => ⟨rfl, ha.1 b hlt hz⟩) (fun _ _ _ h => h) (fun _ _ _ _ _ h => h)) hm

/-- A cell, by value. -/
theorem resCell_ev (hR : RelF w0 Z0 φ s a w) {d : D} {k : D → List Nat → AR} {ups : List Upd} {R : List Loc} (h : (resCell d k).Ev C s ups R) :
    ∃ d' ids R', (k d' ids).Ev C s ups R' ∧ D.pc d' = true ∧ ∀ (v : Value) (Z' : Nat → Prop) (E : Nat → Nat → Value → Prop) (F : Nat → Nat → Nat → Nat → Value → Prop), EncS w Z0 s.ob φ d v → Avoids s Z0 φ w ids Z' → Enc w Z' E F d' v := by
  have keep : ∀ {d : D}, D.pc d = true → ∀ (v : Value) (Z' : Nat → Prop) (E : Nat → Nat → Value → Prop) (F : Nat → Nat → Nat → Nat → Value → Prop), EncS w Z0 s.ob φ d v → Avoids s Z0 φ w [] Z' → Enc w Z' E F d v := by
    intro d hp v Z' E F hd ha
    exact Enc.ofPc (hd.mono (w' := w) (Z' := Z') (fun b hz hlt => ⟨rfl, ha.1 b hlt hz⟩) (fun _ _ _ h => h) (fun _ _ _ _ _ h => h)) hp
  cases d <;> (try exact h.elim)
  case osl id ver =>
    obtain ⟨R1, _, h⟩ := h
    cases ho : s.look id with
    | none => rw [ho] at h; exact h.elim
    | some b =>
      rw [ho] at h
      obtain ⟨⟨hv, hbox⟩, h⟩ := h
      exact ⟨_, _, R1, h, rfl, fun v Z' E F hd ha => osl_value hR hd ho hv hbox ha⟩
  all_goals exact ⟨_, _, R, h, rfl, keep rfl⟩

theorem resCells_ev (hR : RelF w0 Z0 φ s a w) : ∀ {ds : List D} {k : List D → List Nat → AR} {ups : List Upd} {R : List Loc}, (resCells ds k).Ev C s ups R →
    ∃ ds' ids R', (k ds' ids).Ev C s ups R' ∧ ds'.length = ds.length ∧ (∀ d ∈ ds', D.pc d = true) ∧ ∀ (i : Nat) (v : Value) (Z' : Nat → Prop) (E : Nat → Nat → Value → Prop) (F : Nat → Nat → Nat → Nat → Value → Prop), i < ds.length → EncS w Z0 s.ob φ (getC ds i) v → Avoids s Z0 φ w ids Z' → Enc w Z' E F (getC ds' i) v
  | [], k, ups, R, h => ⟨[], [], R, h, rfl, by simp, by simp⟩
  | d :: r, k, ups, R, h => by
    obtain ⟨d', i1, R1, h1, hp, he⟩ := resCell_ev hR h
    obtain ⟨r', i2, R2, h2, hl, hp2, he2⟩ := resCells_ev hR h1
    refine ⟨_, _, R2, h2, by simp [hl], fun x hx => ?_, fun i v Z' E F hi hd ha => ?_⟩
    · rcases List.mem_cons.1 hx with rfl | hx
      · exact hp
      · exact hp2 x hx
    · cases i with
      | zero => exact he v Z' E F hd (ha.sub (fun i hi => by simp [hi]))
      | succ i => exact he2 i v Z' E F (by simpa using hi) hd (ha.sub (fun i hi => by simp [hi]))

theorem resCap_ev (hR : RelF w0 Z0 φ s a w) {d : D} {k : D → List Nat → AR} {ups : List Upd} {R : List Loc} (h : (resCap d k).Ev C s ups R) :
    ∃ d' ids R', (k d' ids).Ev C s ups R' ∧ ∀ (v : Value) (Z' : Nat → Prop) (E : Nat → Nat → Value → Prop) (F : Nat → Nat → Nat → Nat → Value → Prop), EncS w Z0 s.ob φ d v → Avoids s Z0 φ w ids Z' → Enc w Z' E F d' v := by
  cases d
  case ptr id ver row col =>
    obtain ⟨R1, _, h⟩ := h
    cases ho : s.look id with
    | none => rw [ho] at h; exact h.elim
    | some b =>
      rw [ho] at h
      obtain ⟨⟨hv, hrow⟩, h⟩ := h
      obtain ⟨cs, ids, R2, h2, hl, hp, he⟩ := resCells_ev hR h
      refine ⟨_, _, R2, h2, fun v Z' E F hd ha => ?_⟩
      cases hd with
      | ptr _ _ _ _ _ hq =>
        obtain ⟨o1, h1, h3, h4, h5⟩ := hq
        obtain rfl : o1 = b := Option.some.inj (h1.symm.trans ho)
        obtain ⟨bl, hb, rfl⟩ := h4 hv
        have hok := hR.good.ok id o1 h1
        have hrl : (getR o1.rows row).length = o1.sz := by obtain ⟨xs, hx, _⟩ := hok.there; exact hx.row _ (getR_mem hrow)
        have hcell : ∀ j, j < cs.length → ∃ u, w.cell? ⟨bl, row * o1.sz + j, none⟩ = some u ∧ EncS w Z0 s.ob φ (getC (getR o1.rows row) j) u ∧ u.oneCell' = true := fun j hj => ob_cell hok hb hrow (by omega)
        refine .fptr cs col bl (row * o1.sz) (fun j => (w.cell? ⟨bl, row * o1.sz + j, none⟩).getD Go.undef) hp (fun j hj => ha.2 id (by simp) bl hb) (fun j hj => ?_) (fun j hj => ?_) (fun j hj => ?_)
        · obtain ⟨u, q1, _⟩ := hcell j hj; rw [q1]; try rfl
        · obtain ⟨u, q1, _, q3⟩ := hcell j hj; rw [q1]; exact q3
        · obtain ⟨u, q1, q2, _⟩ := hcell j hj; rw [q1]
          exact he j u Z' E F (by omega) q2 (ha.sub (fun i hi => by simp [hi]))
  case agg cs =>
    obtain ⟨cs', ids, R2, h2, hl, hp, he⟩ := resCells_ev hR h
    refine ⟨_, _, R2, h2, fun v Z' E F hd ha => ?_⟩
    cases hd with
    | agg _ vs hs h1 hc => exact .agg cs' vs (by omega) (fun i hi => h1 i (by omega)) (fun i hi => he i _ Z' E F (by omega) (hc i (by omega)) ha)
  case fptr cells col =>
    refine ⟨_, _, R, h, fun v Z' E F hd ha => ?_⟩
    exact Enc.ofPure (hd.mono (w' := w) (Z' := Z') (fun b hz hlt => ⟨rfl, ha.1 b hlt hz⟩) (fun _ _ _ h => h) (fun _ _ _ _ _ h => h)) (.fptr _ _)
  case undef => exact ⟨_, _, R, h, fun v Z' E F hd ha => .undef v⟩
  all_goals
    simp only [resCap] at h
    obtain ⟨d', ids, R2, h2, hp, he⟩ := resCell_ev hR h
    exact ⟨d', ids, R2, h2, he⟩

theorem resCaps_ev (hR : RelF w0 Z0 φ s a w) : ∀ {ds : List D} {k : List D → List Nat → AR} {ups : List Upd} {R : List Loc}, (resCaps ds k).Ev C s ups R →
    ∃ ds' ids R', (k ds' ids).Ev C s ups R' ∧ ds'.length = ds.length ∧ ∀ (i : Nat) (v : Value) (Z' : Nat → Prop) (E : Nat → Nat → Value → Prop) (F : Nat → Nat → Nat → Nat → Value → Prop), i < ds.length → EncS w Z0 s.ob φ (getC ds i) v → Avoids s Z0 φ w ids Z' → Enc w Z' E F (getC ds' i) v
  | [], k, ups, R, h => ⟨[], [], R, h, rfl, by simp⟩
  | d :: r, k, ups, R, h => by
    obtain ⟨d', i1, R1, h1, he⟩ := resCap_ev hR h
    obtain ⟨r', i2, R2, h2, hl, he2⟩ := resCaps_ev hR h1
    refine ⟨_, _, R2, h2, by simp [hl], fun i v Z' E F hi hd ha => ?_⟩
    cases i with
    | zero => exact he v Z' E F hd (ha.sub (fun i hi => by simp [hi]))
    | succ i => exact he2 i v Z' E F (by simpa using hi) hd (ha.sub (fun i hi => by simp [hi]))

theorem resArg_ev (hR : RelF w0 Z0 φ s a w) {d : D} {k : D → List Nat → AR} {ups : List Upd} {R : List Loc} (h : (resArg d k).Ev C s ups R) :
    ∃ d' ids R', (k d' ids).Ev C s ups R' ∧ ∀ (v : Value) (Z' : Nat → Prop) (E : Nat → Nat → Value → Prop) (F : Nat → Nat → Nat → Nat → Value → Prop), EncS w Z0 s.ob φ d v → Avoids s Z0 φ w ids Z' → Enc w Z' E F d' v := by
  cases d
  case fn f caps =>
    obtain ⟨cs', ids, R2, h2, hl, he⟩ := resCaps_ev hR h
    refine ⟨_, _, R2, h2, fun v Z' E F hd ha => ?_⟩
    cases hd with
    | fn _ _ vs hs hc => exact .fn f cs' vs (by omega) (fun i hi => he i _ Z' E F (by omega) (hc i (by omega)) ha)
  all_goals
    simp only [resArg] at h
    exact resCap_ev hR h

theorem resArgs_ev (hR : RelF w0 Z0 φ s a w) : ∀ {ds : List D} {k : List D → List Nat → AR} {ups : List Upd} {R : List Loc}, (resArgs ds k).Ev C s ups R →
    ∃ ds' ids R', (k ds' ids).Ev C s ups R' ∧ ds'.length = ds.length ∧ ∀ (i : Nat) (v : Value) (Z' : Nat → Prop) (E : Nat → Nat → Value → Prop) (F : Nat → Nat → Nat → Nat → Value → Prop), i < ds.length → EncS w Z0 s.ob φ (getC ds i) v → Avoids s Z0 φ w ids Z' → Enc w Z' E F (getC ds' i) v
  | [], k, ups, R, h => ⟨[], [], R, h, rfl, by simp⟩
  | d :: r, k, ups, R, h => by
    obtain ⟨d', i1, R1, h1, he⟩ := resArg_ev hR h
    obtain ⟨r', i2, R2, h2, hl, he2⟩ := resArgs_ev hR h1
    refine ⟨_, _, R2, h2, by simp [hl], fun i v Z' E F hi hd ha => ?_⟩
    cases i with
    | zero => exact he v Z' E F hd (ha.sub (fun i hi => by simp [hi]))
    | succ i => exact he2 i v Z' E F (by simpa using hi) hd (ha.sub (fun i hi => by simp [hi]))

/-- Behind the freezing the blocks may be read by anyone. -/
theorem Frz.avoids (hR : RelF w0 Z0 φ s a w) {s' : AS} {ids : List Nat} (h : Frz s s' ids) : Avoids s Z0 φ w ids (ZZ Z0 s'.ob φ) := by
  refine ⟨fun b hlt hz hz' => hz ?_, fun id hi b hb hz => ?_⟩
  · rcases hz' with h0 | ⟨i, o, h1, h2, h3⟩
    · exact .inl h0
    · by_cases hm : i ∈ ids
      · obtain ⟨b2, _, e2⟩ := h.froz i hm
        rw [e2] at h1; cases h1; simp at h2
      · exact .inr ⟨i, o, by rw [← h.same i hm]; exact h1, h2, h3⟩
  · obtain ⟨b2, e1, e2⟩ := h.froz id hi
    rcases hz with h0 | ⟨i, o, h1, h2, h3⟩
    · have := (hR.good.ok id b2 e1).block_ge hb
      have := hR.amb b h0
      omega
    · by_cases hm : i ∈ ids
      · obtain ⟨b3, _, e3⟩ := h.froz i hm
        rw [e3] at h1; cases h1; simp at h2
      · rw [h.same i hm] at h1
        exact hm (by rw [hR.good.inj i id o b2 b h1 e1 h3 hb]; exact hi)

end
end Go.Abs
/- Contracts of functions on pure data, and their calls. -/
namespace Go.Abs
open Go Go.RowKit

/-! ### Results: fresh slices get names -/

def impC (off : Nat) (vf : Nat → Nat) : List D → Nat → List D × Obs × Nat
  | [], k => ([], [], k)
  | .nsl ty sz rows :: r, k => (.osl (off + k) (vf k) :: (impC off vf r (k + 1)).1, (off + k, ⟨vf k, true, false, sz, ty, rows⟩) :: (impC off vf r (k + 1)).2.1, (impC off vf r (k + 1)).2.2)
  | d :: r, k => (d :: (impC off vf r k).1, (impC off vf r k).2.1, (impC off vf r k).2.2)

def impL (off : Nat) (vf : Nat → Nat) : List D → Nat → List D × Obs × Nat
  | [], k => ([], [], k)
  | .nsl ty sz rows :: r, k => (.osl (off + k) (vf k) :: (impL off vf r (k + 1)).1, (off + k, ⟨vf k, true, false, sz, ty, rows⟩) :: (impL off vf r (k + 1)).2.1, (impL off vf r (k + 1)).2.2)
  | .agg cs :: r, k => (.agg (impC off vf cs k).1 :: (impL off vf r (impC off vf cs k).2.2).1, (impC off vf cs k).2.1 ++ (impL off vf r (impC off vf cs k).2.2).2.1, (impL off vf r (impC off vf cs k).2.2).2.2)
  | d :: r, k => (d :: (impL off vf r k).1, (impL off vf r k).2.1, (impL off vf r k).2.2)

/-- A result with names for its fresh slices; the blocks. -/
def imp (off : Nat) (vf : Nat → Nat) : D → D × Obs
  | .tup vs => (.tup (impL off vf vs 0).1, (impL off vf vs 0).2.1)
  | d => (getC (impL off vf [d] 0).1 0, (impL off vf [d] 0).2.1)

/-- How many fresh slices. -/
def cntL : List D → Nat
  | [] => 0
  | .nsl _ _ _ :: r => cntL r + 1
  | .agg cs :: r => cntC cs + cntL r
  | _ :: r => cntL r
where cntC : List D → Nat
  | [] => 0
  | .nsl _ _ _ :: r => cntC r + 1
  | _ :: r => cntC r

def cnt : D → Nat
  | .tup vs => cntL vs
  | d => cntL [d]

/-- Nothing in it leads into memory. -/
def flatB : D → Bool
  | .int _ _ | .bool _ | .str _ | .void | .nil => true
  | _ => false

def flat : D → Bool
  | .tup vs => vs.all flatB
  | d => flatB d

/-! ### Contracts -/

/-- Whatever stands behind a call. -/
def Goes (P : Program) (f : FuncId) (vs : Array Value) (w : World) (R : Value → World → Prop) : Prop :=
  ∀ (o : Oper) (a : Act) (next : Act → World → Prop) (Q : Exit → Act → World → Prop), (∀ v w', R v w' → next (a.put o.dst v) w') → o.upon P a next Q ((callFunc f vs).run P w)

/-- What holds of the result. -/
def Post (w : World) (Z0 : Nat → Prop) (r : D) (v : Value) (w' : World) : Prop :=
  Below w.heap.size w w' ∧ ∃ vals : Nat → Value, ∀ off vf, Good w' w.heap.size Z0 (imp off vf r).2 (fun i => vals (i - off)) ∧ EncS w' Z0 (imp off vf r).2 (fun i => vals (i - off)) (imp off vf r).1 v

def ConV (P : Program) (f : FuncId) (args : List D) (r : D) : Prop :=
  ∀ (w : World) (Z0 : Nat → Prop) (vs : Array Value), (∀ b, Z0 b → b < w.heap.size) → vs.size = args.length → (∀ i, i < args.length → Enc w Z0 noE noF (getC args i) (vs.getD i Go.undef)) →
    Goes P f vs w (Post w Z0 r)

/-- A cell that leads nowhere. -/
def cellB : D → Bool
  | .int _ _ | .bool _ | .str _ | .nil => true
  | _ => false

abbrev encF (w : World) : D → Value → Prop := Enc w (fun _ => False) noE noF

/-- What a function leaves that works in place on a slice of its caller's own. -/
def PostI (w : World) (base : Nat) (ty : TypeId) (sz : Nat) (v : Value) (r : D) (res : Value) (w' : World) : Prop :=
  w.grownBy w' (blk v) ∧
  match r with
  | .tup [.nsl _ _ rows'] => res = .tuple #[] ∧ (∀ r ∈ rows', ∀ d ∈ r, cellB d = true) ∧ ∃ xs', RowsEnc (encF w') sz rows' xs' ∧ w'.ownsRow base ty sz v rows'.length xs'
  | .nsl _ _ rows' => (∀ b, blk res = some b → blk v = some b) ∧ (∀ r ∈ rows', ∀ d ∈ r, cellB d = true) ∧ ∃ xs', RowsEnc (encF w') sz rows' xs' ∧ w'.ownsRow base ty sz res rows'.length xs'
  | _ => False

/-- Such a function: its only argument is 'nsl'; 'tup [nsl ..]': no result, the slice is this; 'nsl ..': the result, in the slice's place. -/
def ConI (P : Program) (f : FuncId) (ty : TypeId) (sz : Nat) (rows : List (List D)) (r : D) : Prop :=
  (∀ r ∈ rows, ∀ d ∈ r, cellB d = true) ∧ ∀ (w : World) (base : Nat) (v : Value) (xs : List Value), RowsEnc (encF w) sz rows xs → w.ownsRow base ty sz v rows.length xs → Goes P f #[v] w (PostI w base ty sz v r)

def nslArgs : List D → Bool
  | [.nsl _ _ _] => true
  | _ => false

def Con (P : Program) (f : FuncId) (args : List D) (r : D) : Prop :=
  match args with
  | [.nsl ty sz rows] => ConI P f ty sz rows r
  | _ => ConV P f args r

theorem Con.v {P : Program} {f : FuncId} {args : List D} {r : D} (h : Con P f args r) (hn : nslArgs args = false) : ConV P f args r := by
  unfold Con at h
  split at h
  · simp [nslArgs] at hn
  · exact h

theorem ConV.con {P : Program} {f : FuncId} {args : List D} {r : D} (h : ConV P f args r) (hn : nslArgs args = false) : Con P f args r := by
  unfold Con
  split
  · simp [nslArgs] at hn
  · exact h

theorem nslArgs_of {args : List D} {w : World} {Z : Nat → Prop} {E : Nat → Nat → Value → Prop} {F : Nat → Nat → Nat → Nat → Value → Prop} (h : ∀ i, i < args.length → ∃ v, Enc w Z E F (getC args i) v) : nslArgs args = false := by
  unfold nslArgs
  split
  · obtain ⟨v, hv⟩ := h 0 (by simp)
    cases hv
  · rfl

def ConC (P : Program) (f : FuncId) (args : List D) (r : D) : Prop :=
  ∀ (w : World) (Z0 : Nat → Prop) (vs : Array Value), (∀ b, Z0 b → b < w.heap.size) → vs.size = args.length → (∀ i, i < args.length → Enc w Z0 noE noF (getC args i) (vs.getD i Go.undef)) →
    Calls P f vs w fun e w' => ∃ v, e = .returned v ∧ Post w Z0 r v w'

structure EnterOk (P : Program) (f : FuncId) : Prop where
  ex : ∃ fn, P.funcs[f]? = some fn ∧ (fn.name == "runtime.NumGoroutine") = false ∧ fn.body.isNone = false

theorem ConC.con {P : Program} {f : FuncId} {args : List D} {r : D} (he : EnterOk P f) (h : ConC P f args r) (hna : nslArgs args = false := by rfl) : Con P f args r := by
  refine ConV.con ?_ hna
  intro w Z0 vs h1 h2 h3 o a next Q hn
  obtain ⟨fn, e1, e2, e3⟩ := he.ex
  have hr : (callFunc f vs).run P w = .ok (.enter f vs) w := by
    have q1 : fn.name ≠ "runtime.NumGoroutine" := by simpa using e2
    have q2 : fn.body ≠ none := by intro e; rw [e] at e3; cases e3
    simp [callFunc, e1, q1, q2]
  rw [hr, Oper.upon_enter]
  refine (h w Z0 vs h1 h2 h3).mono fun e w' ⟨v, hv, hp⟩ => ?_
  subst hv
  exact hn v w' hp

/-! ### The call -/

def bumps (off : Nat) : Nat → Nat → (List Nat → AR) → AR
  | 0, _, k => k []
  | n + 1, i, k => bump (off + i) fun v => bumps off n (i + 1) fun vs => k (v :: vs)

def obUps (ob : Obs) : List Upd := ob.map fun x => .ob x.1 x.2

def aCallF (o : Oper) (f : FuncId) (ds : List D) : AR :=
  resArgs ds fun ds' ids => .call f ds' fun r =>
    if flat r then done o r [] else
    frzU ids fun us =>
      match o.dst with
      | some n => bumps (n * 100) (cnt r) 0 fun vl => .ret (us ++ obUps (imp (n * 100) (fun k => vl.getD k 0) r).2 ++ [.slot n (imp (n * 100) (fun k => vl.getD k 0) r).1])
      | none => .ret us

/-! ### .. of a function that works in place -/

def inpR (o : Oper) (id ver : Nat) (b : Ob) (r : D) : AR :=
  match r with
  | .tup [.nsl _ _ rows] => done o (.tup []) [.ob id { b with rows := rows }]
  | .nsl _ _ rows => match o.dst with
    | some n => .ret [.ob id { b with ver := ver + 1, rows := rows }, .slot n (.osl id (ver + 1))]
    | none => .fail
  | _ => .fail

def inpO (o : Oper) (f : FuncId) (id ver : Nat) (x : Option Ob) : AR :=
  match x with
  | some b => .req (b.ver = ver ∧ b.box = false ∧ b.mt = true) (.call f [.nsl b.ty b.sz b.rows] (inpR o id ver b))
  | none => .fail

def aCallI (o : Oper) (f : FuncId) (id ver : Nat) : AR := .look id (inpO o f id ver)

def aCallX (T : Tab) (o : Oper) (f : FuncId) (ds : List D) : AR :=
  match ds with
  | [.osl id ver] => match isInp T f with
    | true => aCallI o f id ver
    | false => aCallF o f ds
  | _ => aCallF o f ds

section
variable {P : Program} {T : Tab} {w w' w0 : World} {Z0 : Nat → Prop} {φ : Nat → Value} {s : AS} {a : Act}

theorem app_obUps (s : AS) : ∀ (ob : Obs), (s.app (obUps ob)).nt = s.nt ∧ (s.app (obUps ob)).sl = s.sl ∧ ∀ i, look (s.app (obUps ob)).ob i = look (ob.reverse ++ s.ob) i
  | [] => ⟨rfl, rfl, fun _ => rfl⟩
  | (id, o) :: r => by
    obtain ⟨h1, h2, h3⟩ := app_obUps { s with ob := (id, o) :: s.ob } r
    refine ⟨h1, h2, fun i => ?_⟩
    rw [show s.app (obUps ((id, o) :: r)) = AS.app { s with ob := (id, o) :: s.ob } (obUps r) from rfl, h3 i]
    simp

theorem look_append (o1 o2 : Obs) (i : Nat) : look (o1 ++ o2) i = match look o1 i with | some o => some o | none => look o2 i := by
  induction o1 with
  | nil => rfl
  | cons x r ih =>
    obtain ⟨j, o⟩ := x
    simp only [List.cons_append, look_put]
    split
    · rfl
    · exact ih

/-- The names of the fresh slices, one after the other. -/
theorem impC_ids (off : Nat) (vf : Nat → Nat) : ∀ (ds : List D) (k : Nat), k ≤ (impC off vf ds k).2.2 ∧ (impC off vf ds k).2.2 = k + cntL.cntC ds ∧ (∀ x ∈ (impC off vf ds k).2.1, ∃ j, k ≤ j ∧ j < (impC off vf ds k).2.2 ∧ x.1 = off + j ∧ x.2.ver = vf j) ∧ (impC off vf ds k).2.1.Pairwise (fun x y => x.1 ≠ y.1)
  | [], k => ⟨Nat.le_refl _, by simp [impC, cntL.cntC], by simp [impC], by simp [impC]⟩
  | d :: r, k => by
    cases d
    case nsl ty sz rows =>
      obtain ⟨h1, h2, h3, h4⟩ := impC_ids off vf r (k + 1)
      simp only [impC]
      refine ⟨by omega, by rw [h2]; simp [cntL.cntC]; omega, fun x hx => ?_, ?_⟩
      · rcases List.mem_cons.1 hx with rfl | hx
        · exact ⟨k, Nat.le_refl _, by omega, rfl, rfl⟩
        · obtain ⟨j, q1, q2, q3, q4⟩ := h3 x hx
          exact ⟨j, by omega, q2, q3, q4⟩
      · refine List.Pairwise.cons (fun x hx => ?_) h4
        obtain ⟨j, q1, q2, q3, q4⟩ := h3 x hx
        show off + k ≠ x.1
        omega
    all_goals
      obtain ⟨h1, h2, h3, h4⟩ := impC_ids off vf r k
      exact ⟨h1, by simpa [impC, cntL.cntC] using h2, h3, h4⟩

theorem impL_ids (off : Nat) (vf : Nat → Nat) : ∀ (ds : List D) (k : Nat), k ≤ (impL off vf ds k).2.2 ∧ (impL off vf ds k).2.2 = k + cntL ds ∧ (∀ x ∈ (impL off vf ds k).2.1, ∃ j, k ≤ j ∧ j < (impL off vf ds k).2.2 ∧ x.1 = off + j ∧ x.2.ver = vf j) ∧ (impL off vf ds k).2.1.Pairwise (fun x y => x.1 ≠ y.1)
  | [], k => ⟨Nat.le_refl _, by simp [impL, cntL], by simp [impL], by simp [impL]⟩
  | d :: r, k => by
    cases d
    case nsl ty sz rows =>
      obtain ⟨h1, h2, h3, h4⟩ := impL_ids off vf r (k + 1)
      simp only [impL]
      refine ⟨by omega, by rw [h2]; simp [cntL]; omega, fun x hx => ?_, ?_⟩
      · rcases List.mem_cons.1 hx with rfl | hx
        · exact ⟨k, Nat.le_refl _, by omega, rfl, rfl⟩
        · obtain ⟨j, q1, q2, q3, q4⟩ := h3 x hx
          exact ⟨j, by omega, q2, q3, q4⟩
      · refine List.Pairwise.cons (fun x hx => ?_) h4
        obtain ⟨j, q1, q2, q3, q4⟩ := h3 x hx
        show off + k ≠ x.1
        omega
    case agg cs =>
      obtain ⟨g1, g2, g3, g4⟩ := impC_ids off vf cs k
      obtain ⟨h1, h2, h3, h4⟩ := impL_ids off vf r (impC off vf cs k).2.2
      simp only [impL]
      refine ⟨by omega, by rw [h2, g2]; simp [cntL]; omega, fun x hx => ?_, ?_⟩
      · rcases List.mem_append.1 hx with hx | hx
        · obtain ⟨j, q1, q2, q3, q4⟩ := g3 x hx
          exact ⟨j, q1, by omega, q3, q4⟩
        · obtain ⟨j, q1, q2, q3, q4⟩ := h3 x hx
          exact ⟨j, by omega, q2, q3, q4⟩
      · refine List.pairwise_append.2 ⟨g4, h4, fun x hx y hy => ?_⟩
        obtain ⟨j, q1, q2, q3, q4⟩ := g3 x hx
        obtain ⟨j', p1, p2, p3, p4⟩ := h3 y hy
        omega
    all_goals
      obtain ⟨h1, h2, h3, h4⟩ := impL_ids off vf r k
      exact ⟨h1, by simpa [impL, cntL] using h2, h3, h4⟩

theorem imp_ids (off : Nat) (vf : Nat → Nat) (r : D) : (∀ x ∈ (imp off vf r).2, ∃ j, j < cnt r ∧ x.1 = off + j ∧ x.2.ver = vf j) ∧ (imp off vf r).2.Pairwise (fun x y => x.1 ≠ y.1) := by
  have key : ∀ ds : List D, (∀ x ∈ (impL off vf ds 0).2.1, ∃ j, j < cntL ds ∧ x.1 = off + j ∧ x.2.ver = vf j) ∧ (impL off vf ds 0).2.1.Pairwise (fun x y => x.1 ≠ y.1) := fun ds => by
    obtain ⟨h1, h2, h3, h4⟩ := impL_ids off vf ds 0
    refine ⟨fun x hx => ?_, h4⟩
    obtain ⟨j, _, q2, q3, q4⟩ := h3 x hx
    exact ⟨j, by omega, q3, q4⟩
  cases r <;> exact key _

theorem look_mem {ob : Obs} {i : Nat} {o : Ob} (h : look ob i = some o) : (i, o) ∈ ob := by
  induction ob with
  | nil => cases h
  | cons x r ih =>
    obtain ⟨j, p⟩ := x
    rw [look_put] at h
    split at h
    · rename_i e; subst e; cases h; exact List.mem_cons_self
    · exact List.mem_cons_of_mem _ (ih h)

theorem look_of_mem {ob : Obs} (hp : ob.Pairwise (fun x y => x.1 ≠ y.1)) {i : Nat} {o : Ob} (h : (i, o) ∈ ob) : look ob i = some o := by
  induction ob with
  | nil => cases h
  | cons x r ih =>
    obtain ⟨j, p⟩ := x
    rw [look_put]
    rcases List.mem_cons.1 h with e | h
    · cases e; simp
    · have := (List.pairwise_cons.1 hp).1 _ h
      rw [if_neg this]
      exact ih (List.pairwise_cons.1 hp).2 h

theorem look_reverse {ob : Obs} (hp : ob.Pairwise (fun x y => x.1 ≠ y.1)) (i : Nat) : look ob.reverse i = look ob i := by
  have hp' : ob.reverse.Pairwise (fun x y => x.1 ≠ y.1) := by
    rw [List.pairwise_reverse]
    exact hp.imp fun h => Ne.symm h
  cases h : look ob i with
  | some o => exact look_of_mem hp' (List.mem_reverse.2 (look_mem h))
  | none =>
    cases h2 : look ob.reverse i with
    | none => rfl
    | some o => rw [look_of_mem hp (List.mem_reverse.1 (look_mem h2))] at h; cases h

theorem ownsRow_base {base base' : Nat} {e : TypeId} {size : Nat} {v : Value} {n : Nat} {xs : List Value} (h : w.ownsRow base e size v n xs) (hb : base' ≤ base) : w.ownsRow base' e size v n xs := by
  refine ⟨h.1, ?_⟩
  rcases h.2 with h2 | ⟨g, cap, cur, e1, hge, rest⟩
  · exact .inl h2
  · exact .inr ⟨g, cap, cur, e1, Nat.le_trans hb hge, rest⟩

/-- Behind a call: what was there, and the fresh blocks. -/
theorem merge (hR : RelF w0 Z0 φ s a w) (hb : Below w.heap.size w w') {ob' : Obs} {ψ : Nat → Value} {Zc : Nat → Prop} (hZ : ∀ b, b < w.heap.size → ZZ Z0 s.ob φ b → Zc b) (hG : Good w' w.heap.size Zc ob' ψ)
    (hver : ∀ i o', look ob' i = some o' → ∀ o, look s.ob i = some o → o.ver < o'.ver) {s' : AS} (hnt : s'.nt = s.nt) (hsl : s'.sl = s.sl) (hob : ∀ i, look s'.ob i = look (ob' ++ s.ob) i) :
    ∃ φ2, RelF w0 Z0 φ2 s' a w' ∧ ∀ d v, EncS w' Zc ob' ψ d v → EncS w' Z0 s'.ob φ2 d v := by
  have hsize := hR.below.size
  let φ2 : Nat → Value := fun i => match look ob' i with | some _ => ψ i | none => φ i
  have hnew : ∀ {i : Nat} {o : Ob}, look ob' i = some o → look s'.ob i = some o ∧ φ2 i = ψ i := fun {i o} h => by
    refine ⟨by rw [hob, look_append, h], by simp only [φ2, h]⟩
  have hold : ∀ {i : Nat}, look ob' i = none → look s'.ob i = look s.ob i ∧ φ2 i = φ i := fun {i} h => by
    refine ⟨by rw [hob, look_append, h], by simp only [φ2, h]⟩
  have hcase : ∀ {i : Nat} {o : Ob}, look s'.ob i = some o → (look ob' i = some o ∧ φ2 i = ψ i) ∨ (look ob' i = none ∧ look s.ob i = some o ∧ φ2 i = φ i) := fun {i o} h => by
    cases h2 : look ob' i with
    | some o' => obtain ⟨q1, q2⟩ := hnew h2; rw [q1] at h; cases h; exact .inl ⟨rfl, q2⟩
    | none => obtain ⟨q1, q2⟩ := hold h2; rw [q1] at h; exact .inr ⟨rfl, h, q2⟩
  have told : ∀ {d : D} {v : Value}, EncS w Z0 s.ob φ d v → EncS w' Z0 s'.ob φ2 d v := fun {d v} hd => by
    refine Enc.mono hd (fun b hz hlt => ⟨hb.block b hlt, fun hz2 => ?_⟩) (fun i ver u ⟨o, h1, h2, h3, h4⟩ => ?_) (fun i ver r c u ⟨o, h1, h2, h3, h4⟩ => ?_)
    · rcases hz2 with h0 | ⟨i, o, h1, h2, h3⟩
      · exact hz (.inl h0)
      · rcases hcase h1 with ⟨q1, q2⟩ | ⟨q1, q2, q3⟩
        · rw [q2] at h3
          have := ((hG.ok i o q1).block_ge h3).1
          omega
        · rw [q3] at h3
          exact hz (.inr ⟨i, o, q2, h2, h3⟩)
    · cases h5 : look ob' i with
      | some o' =>
        have := hver i o' h5 o h1
        exact ⟨o', (hnew h5).1, by omega, fun e => by omega, h4⟩
      | none => exact ⟨o, by rw [(hold h5).1]; exact h1, h2, fun e => by rw [(hold h5).2]; exact h3 e, h4⟩
    · cases h5 : look ob' i with
      | some o' =>
        have := hver i o' h5 o h1
        exact ⟨o', (hnew h5).1, by omega, fun e => by omega, h4⟩
      | none => exact ⟨o, by rw [(hold h5).1]; exact h1, h2, fun e => by rw [(hold h5).2]; exact h3 e, h4⟩
  have tnew : ∀ {d : D} {v : Value}, EncS w' Zc ob' ψ d v → EncS w' Z0 s'.ob φ2 d v := fun {d v} hd => by
    refine Enc.mono hd (fun b hz hlt => ⟨rfl, fun hz2 => hz ?_⟩) (fun i ver u ⟨o, h1, h2, h3, h4⟩ => ⟨o, (hnew h1).1, h2, fun e => by rw [(hnew h1).2]; exact h3 e, h4⟩) (fun i ver r c u ⟨o, h1, h2, h3, h4⟩ => ⟨o, (hnew h1).1, h2, fun e => by rw [(hnew h1).2]; exact h3 e, h4⟩)
    rcases hz2 with h0 | ⟨i, o, h1, h2, h3⟩
    · exact .inl (hZ b (Nat.lt_of_lt_of_le (hR.amb b h0) hsize) (.inl h0))
    · rcases hcase h1 with ⟨q1, q2⟩ | ⟨q1, q2, q3⟩
      · rw [q2] at h3; exact .inr ⟨i, o, q1, h2, h3⟩
      · rw [q3] at h3
        exact .inl (hZ b ((hR.good.ok i o q2).block_ge h3).2 (.inr ⟨i, o, q2, h2, h3⟩))
  refine ⟨φ2, ⟨by rw [hnt]; exact hR.size, hR.defers, fun n => ?_, ⟨fun i j oi oj b hi hj hbi hbj => ?_, fun i o hi => ?_⟩, hR.below.trans (hb.mono hsize), hR.amb⟩, fun d v => tnew⟩
  · have : s'.get n = s.get n := by simp [AS.get, hsl]
    rw [this]
    exact told (hR.slot n)
  · rcases hcase hi with ⟨q1, q2⟩ | ⟨q1, q2, q3⟩ <;> rcases hcase hj with ⟨p1, p2⟩ | ⟨p1, p2, p3⟩
    · rw [q2] at hbi; rw [p2] at hbj; exact hG.inj i j oi oj b q1 p1 hbi hbj
    · rw [q2] at hbi; rw [p3] at hbj
      have := ((hG.ok i oi q1).block_ge hbi).1
      have := ((hR.good.ok j oj p2).block_ge hbj).2
      omega
    · rw [q3] at hbi; rw [p2] at hbj
      have := ((hG.ok j oj p1).block_ge hbj).1
      have := ((hR.good.ok i oi q2).block_ge hbi).2
      omega
    · rw [q3] at hbi; rw [p3] at hbj; exact hR.good.inj i j oi oj b q2 p2 hbi hbj
  · rcases hcase hi with ⟨q1, q2⟩ | ⟨q1, q2, q3⟩
    · rw [q2]
      obtain ⟨xs, hx, hs, hp⟩ := (hG.ok i o q1).there
      refine ⟨(hG.ok i o q1).pure, xs, hx.mono fun d v hd => tnew hd, fun hbox => ownsRow_base (hs hbox) hsize, fun hbox => ?_⟩
      obtain ⟨b, e1, hge, hh⟩ := hp hbox
      exact ⟨b, e1, Nat.le_trans hsize hge, hh⟩
    · rw [q3]
      exact (hR.good.ok i o q2).mono (fun d v hd => told hd) (fun b hbk => hb.block b ((hR.good.ok i o q2).block_ge hbk).2)

end
end Go.Abs
/- The call of a function by its contract. -/
namespace Go.Abs
open Go Go.RowKit

section
variable {P : Program} {T : Tab} {w w' w0 : World} {Z0 : Nat → Prop} {φ : Nat → Value} {s : AS} {a : Act}

theorem flatB_enc {Z Z' : Nat → Prop} {E E' : Nat → Nat → Value → Prop} {F F' : Nat → Nat → Nat → Nat → Value → Prop} {d : D} {v : Value} (h : Enc w Z E F d v) (hf : flatB d = true) : Enc w' Z' E' F' d v := by
  cases h with
  | void => exact .void
  | int k n h => exact .int k n h
  | bool b => exact .bool b
  | str s h => exact .str s h
  | nil => exact .nil
  | _ => cases hf

theorem flat_enc {Z Z' : Nat → Prop} {E E' : Nat → Nat → Value → Prop} {F F' : Nat → Nat → Nat → Nat → Value → Prop} {d : D} {v : Value} (h : Enc w Z E F d v) (hf : flat d = true) : Enc w' Z' E' F' d v := by
  cases h with
  | tup cs vs hs hc => exact .tup cs vs hs fun i hi => flatB_enc (hc i hi) (by simp only [flat, List.all_eq_true] at hf; exact hf _ (getC_mem hi))
  | void => exact .void
  | int k n h => exact .int k n h
  | bool b => exact .bool b
  | str s h => exact .str s h
  | nil => exact .nil
  | _ => cases hf

theorem impL_flat (off : Nat) (vf : Nat → Nat) : ∀ (ds : List D) (k : Nat), ds.all flatB = true → impL off vf ds k = (ds, [], k)
  | [], k, _ => rfl
  | d :: r, k, h => by
    simp only [List.all_cons, Bool.and_eq_true] at h
    have ih := impL_flat off vf r k h.2
    cases d <;> first | (simp [flatB] at h; done) | simp [impL, ih]

theorem imp_flat (off : Nat) (vf : Nat → Nat) {r : D} (h : flat r = true) : imp off vf r = (r, []) := by
  cases r <;> first | (simp [flat, flatB] at h; done) | (simp [imp, impL, getC]; done) | skip
  rename_i vs
  simp [imp, impL_flat off vf vs 0 h]

theorem bumps_ev {C : Cons} (off : Nat) : ∀ (n i : Nat) (k : List Nat → AR) {ups : List Upd} {R : List Loc}, (bumps off n i k).Ev C s ups R →
    ∃ vl R', (∀ j, j < n → ∀ o, s.look (off + (i + j)) = some o → o.ver < vl.getD j 0) ∧ (k vl).Ev C s ups R'
  | 0, i, k, ups, R, h => ⟨[], R, fun j hj => absurd hj (by omega), h⟩
  | n + 1, i, k, ups, R, h => by
    obtain ⟨v, R1, hv, h1⟩ := bump_ev h
    obtain ⟨vs, R2, hvs, h2⟩ := bumps_ev off n (i + 1) _ h1
    refine ⟨_, R2, fun j hj o ho => ?_, h2⟩
    cases j with
    | zero => simpa using hv o (by simpa using ho)
    | succ j => simpa using hvs j (by omega) o (by rw [show i + 1 + j = i + (j + 1) by omega]; exact ho)

theorem snd_callF (hR : RelF w0 Z0 φ s a w) {o : Oper} (hd : ∀ n, o.dst = some n → n < s.nt) {f : FuncId} {ds : List D} {vs : Array Value} (hs : vs.size = ds.length) (hds : ∀ i, i < ds.length → EncS w Z0 s.ob φ (getC ds i) (vs.getD i Go.undef))
    {ups : List Upd} {R : List Loc} (h : (aCallF o f ds).Ev (Con P) s ups R) {K : Act → World → Prop} {Q : Exit → Act → World → Prop} (hK : ∀ a' w', Rel w0 Z0 (s.app ups) a' w' → K a' w') :
    o.upon P a K Q ((callFunc f vs).run P w) := by
  unfold aCallF at h
  obtain ⟨ds', ids, R1, ⟨r, hcon, h⟩, hl, hres⟩ := resArgs_ev hR h
  dsimp only at h
  by_cases hfl : flat r = true
  · rw [if_pos hfl] at h
    -- nothing of it leads into memory: what was lent stays one's own
    let Zc : Nat → Prop := fun b => ZZ Z0 s.ob φ b ∧ ∀ id, id ∈ ids → blk (φ id) ≠ some b
    have hav : Avoids s Z0 φ w ids Zc := ⟨fun b _ hz h2 => hz h2.1, fun id hi b hb h2 => h2.2 id hi hb⟩
    refine (hcon.v (nslArgs_of (w := w) (Z := Zc) (E := noE) (F := noF) fun i hi => ⟨_, hres i _ Zc noE noF (by omega) (hds i (by omega)) hav⟩)) w Zc vs (fun b hb => ?_) (by omega) (fun i hi => hres i _ Zc noE noF (by omega) (hds i (by omega)) hav) o a K Q (fun v w' ⟨hbel, vals, hp⟩ => ?_)
    · rcases hb.1 with h0 | ⟨i, o2, q1, _, q3⟩
      · exact hR.z0 b h0
      · exact ((hR.good.ok i o2 q1).block_ge q3).2
    · obtain ⟨_, he⟩ := hp 0 (fun _ => 0)
      rw [imp_flat 0 _ hfl] at he
      exact hK _ _ ⟨φ, rel_done (hR.grow hbel) hd (flat_enc he hfl) h⟩
  · rw [if_neg hfl] at h
    obtain ⟨us, R2, h, hfrz, hR1⟩ := frz_ev hR h
    have hav := hfrz.avoids hR
    refine (hcon.v (nslArgs_of (w := w) (Z := ZZ Z0 (s.app us).ob φ) (E := noE) (F := noF) fun i hi => ⟨_, hres i _ _ noE noF (by omega) (hds i (by omega)) hav⟩)) w (ZZ Z0 (s.app us).ob φ) vs (fun b hb => ?_) (by omega) (fun i hi => hres i _ _ noE noF (by omega) (hds i (by omega)) hav) o a K Q (fun v w' ⟨hbel, vals, hp⟩ => ?_)
    · rcases hb with h0 | ⟨i, o2, q1, _, q3⟩
      · exact hR.z0 b h0
      · exact ((hR1.good.ok i o2 q1).block_ge q3).2
    · split at h
      · rename_i n hn
        obtain ⟨vl, R3, hvl, rfl, _⟩ := bumps_ev _ _ _ _ h
        obtain ⟨hG, he⟩ := hp (n * 100) (fun k => vl.getD k 0)
        generalize hI : imp (n * 100) (fun k => vl.getD k 0) r = I at *
        obtain ⟨hids, hpw⟩ := imp_ids (n * 100) (fun k => vl.getD k 0) r
        rw [hI] at hids hpw
        have hver : ∀ i o', look I.2 i = some o' → ∀ o2, look (s.app us).ob i = some o2 → o2.ver < o'.ver := fun i o' h1 o2 h2 => by
          obtain ⟨j, q1, q2, q3⟩ := hids _ (look_mem h1)
          simp only at q2 q3
          have hlk : ∃ o3, s.look i = some o3 ∧ o3.ver = o2.ver := by
            by_cases hm : i ∈ ids
            · obtain ⟨b, e1, e2⟩ := hfrz.froz i hm
              rw [e2] at h2; cases h2
              exact ⟨b, e1, rfl⟩
            · exact ⟨o2, (hfrz.same i hm).symm.trans h2, rfl⟩
          obtain ⟨o3, e1, e2⟩ := hlk
          rw [q3, ← e2]
          exact hvl j q1 o3 (by rw [Nat.zero_add, ← q2]; exact e1)
        obtain ⟨t1, t2, t3⟩ := app_obUps (s.app us) I.2
        obtain ⟨φ2, hR2, htr⟩ := merge hR1 hbel (Zc := ZZ Z0 (s.app us).ob φ) (fun b _ hz => hz) hG hver t1 t2 (fun i => by rw [t3 i, look_append, look_append, look_reverse hpw])
        refine hK _ _ ⟨φ2, ?_⟩
        rw [AS.app_append, AS.app_append, hn]
        exact hR2.put (by rw [t1]; exact Nat.lt_of_lt_of_le (hd n hn) (by rw [hfrz.nt]; exact Nat.le_refl _)) (htr _ _ he)
      · rename_i hn
        obtain ⟨rfl, _⟩ := h
        refine hK _ _ ⟨φ, ?_⟩
        have := hR1.grow hbel
        rw [hn]
        exact this

theorem cellB_flat {d : D} (h : cellB d = true) : flatB d = true := by cases d <;> first | rfl | cases h
theorem cellB_pc {d : D} (h : cellB d = true) : D.pc d = true := by cases d <;> first | rfl | cases h

theorem rows_flat {R R' : D → Value → Prop} {sz : Nat} {rows : List (List D)} {xs : List Value} (h : RowsEnc R sz rows xs) (hf : ∀ r ∈ rows, ∀ d ∈ r, cellB d = true) (hR : ∀ d v, flatB d = true → R d v → R' d v) : RowsEnc R' sz rows xs :=
  ⟨h.len, h.row, fun i j hi hj => hR _ _ (cellB_flat (hf _ (getR_mem hi) _ (getC_mem (by rw [h.row _ (getR_mem hi)]; exact hj)))) (h.enc i j hi hj), h.one, h.lim⟩

/-- The call of a function that works in place. -/
theorem snd_callI (hR : RelF w0 Z0 φ s a w) {o : Oper} (hd : ∀ n, o.dst = some n → n < s.nt) {f : FuncId} {id ver : Nat} {v : Value} (he : EncS w Z0 s.ob φ (.osl id ver) v)
    {ups : List Upd} {R : List Loc} (h : (aCallI o f id ver).Ev (Con P) s ups R) {K : Act → World → Prop} {Q : Exit → Act → World → Prop} (hK : ∀ a' w', Rel w0 Z0 (s.app ups) a' w' → K a' w') :
    o.upon P a K Q ((callFunc f #[v]).run P w) := by
  unfold aCallI at h
  obtain ⟨R1, _, h⟩ := h
  cases he with | osl _ _ _ hp => ?_
  obtain ⟨o1, h1, h2, h3, h4⟩ := hp
  rw [show s.look id = some o1 from h1] at h
  obtain ⟨⟨hv, hbox, hmt⟩, r, hcon, h⟩ := h
  obtain ⟨hflat, hcon⟩ : ConI P f o1.ty o1.sz o1.rows r := hcon
  have hok := hR.good.ok id o1 h1
  obtain ⟨xs, hx, hs, _⟩ := hok.there
  have hown := hs hbox
  have hphi := h3 hv
  rw [← hphi] at hown
  refine hcon w w0.heap.size v xs (rows_flat hx hflat fun d v hf hd => flatB_enc hd hf) hown o a K Q (fun res w' hp => ?_)
  obtain ⟨hg, hp⟩ := hp
  unfold inpR at h
  split at h
  · rename_i t' s' rows'
    obtain ⟨rfl, hfl, xs', hx', hown'⟩ := hp
    have ht : Turns w w' s.ob φ id { o1 with rows := rows' } v (blk v) :=
      ⟨hg, fun k hk => ⟨o1, h1, hmt, by rw [← hphi]; exact hk⟩, fun o2 e => .inr (by cases h1.symm.trans e; exact ⟨rfl, hphi, rfl⟩), fun b hb => .inr ⟨o1, h1, by rw [← hphi]; exact hb, fun _ => hmt⟩⟩
    have h5 := hR.turn ht ⟨fun _ r hr d hd => cellB_pc (hfl r hr d hd), xs', rows_flat hx' hfl fun d v hf hd => flatB_enc hd hf, fun _ => hown', fun hh => by rw [show ({ o1 with rows := rows' } : Ob).box = o1.box from rfl, hbox] at hh; cases hh⟩
    obtain ⟨rfl, _⟩ := h
    refine hK _ _ ⟨upd φ id v, ?_⟩
    cases ho : o.dst with
    | none => exact h5
    | some n => exact h5.put (hd n ho) (.tup [] #[] rfl (by simp))
  · rename_i t' s' rows'
    obtain ⟨hb', hfl, xs', hx', hown'⟩ := hp
    split at h
    · rename_i n hn
      obtain ⟨rfl, _⟩ := h
      have ht : Turns w w' s.ob φ id { o1 with ver := ver + 1, rows := rows' } res (blk v) :=
        ⟨hg, fun k hk => ⟨o1, h1, hmt, by rw [← hphi]; exact hk⟩, fun o2 e => .inl (by cases h1.symm.trans e; show o1.ver < ver + 1; omega), fun b hb => .inr ⟨o1, h1, by rw [← hphi]; exact hb' b hb, fun _ => hmt⟩⟩
      rw [hn]
      exact hK _ _ (rel_own (o := { o1 with ver := ver + 1, rows := rows' }) hR hbox ht (fun r hr d hd => cellB_pc (hfl r hr d hd)) (rows_flat hx' hfl fun d v hf hd => flatB_enc hd hf) hown' (hd n hn))
    · exact h.elim
  · exact h.elim

/-- The call of a function. -/
theorem snd_callX (hR : RelF w0 Z0 φ s a w) {o : Oper} (hd : ∀ n, o.dst = some n → n < s.nt) {f : FuncId} {ds : List D} {vs : Array Value} (hs : vs.size = ds.length) (hds : ∀ i, i < ds.length → EncS w Z0 s.ob φ (getC ds i) (vs.getD i Go.undef))
    {ups : List Upd} {R : List Loc} (h : (aCallX T o f ds).Ev (Con P) s ups R) {K : Act → World → Prop} {Q : Exit → Act → World → Prop} (hK : ∀ a' w', Rel w0 Z0 (s.app ups) a' w' → K a' w') :
    o.upon P a K Q ((callFunc f vs).run P w) := by
  unfold aCallX at h
  split at h
  · rename_i id ver
    split at h
    · have hvs : vs = #[vs.getD 0 Go.undef] := by
        apply Array.ext (by simpa using hs)
        intro i hi _
        have : i = 0 := by simp at hs; omega
        subst this; simp [hi]
      rw [hvs]
      exact snd_callI hR hd (hds 0 (by simp)) h hK
    · exact snd_callF hR hd hs hds h hK
  · exact snd_callF hR hd hs hds h hK

end
end Go.Abs
/- Structs of whole numbers: equality. -/
namespace Go.Abs
open Go Go.RowKit

abbrev vI (x : IntKind × Int) : Value := .int x.1 x.2
abbrev lI (x : IntKind × Int) : Lit := .int x.1 x.2

theorem flatF_lits {P : Program} {g : TypeId → Option (List IntKind)} {d : Nat} {l : List (IntKind × Int)} (hw : ∀ x ∈ l, (lI x).wf = true)
    (hg : ∀ t ks, g t = some ks → ∀ l : List (IntKind × Int), l.map (·.1) = ks → (∀ x ∈ l, (lI x).wf = true) → P.keyLits d t (l.map vI) = some (l.map lI)) :
    ∀ (fs : List Field) (o : Nat) (ks : List IntKind), flatF P g o fs = some ks → (l.drop o).map (·.1) = ks →
      ∃ as, fs.mapM (fun f => P.keyLits d f.type (((l.map vI).drop f.offset).take (P.cellsOf f.type))) = some as ∧ as.flatten = (l.drop o).map lI
  | [], o, ks, h, hl => by
    cases h
    have : l.drop o = [] := by simpa using hl
    exact ⟨[], rfl, by rw [this]; try rfl⟩
  | f :: r, o, ks, h, hl => by
    simp only [flatF] at h
    split at h
    · rename_i k1 hk1
      split at h
      · rename_i hc
        obtain ⟨ho, hs⟩ := hc
        obtain ⟨k2, h2, rfl⟩ := Option.map_eq_some_iff.1 h
        have hlen : (l.drop o).length = k1.length + k2.length := by rw [← List.length_map (f := (·.1)), hl, List.length_append]
        have e1 : ((l.drop o).take k1.length).map (·.1) = k1 := by rw [List.map_take, hl, List.take_left']; try rfl
        have e2 : (l.drop (o + k1.length)).map (·.1) = k2 := by rw [← List.drop_drop, List.map_drop, hl, List.drop_left']; try rfl
        obtain ⟨as, h3, h4⟩ := flatF_lits hw hg r _ k2 h2 e2
        have h5 := hg f.type k1 hk1 _ e1 fun x hx => hw x (List.mem_of_mem_drop (List.mem_of_mem_take hx))
        refine ⟨((l.drop o).take k1.length).map lI :: as, ?_, ?_⟩
        · have e3 : ((l.map vI).drop f.offset).take (P.cellsOf f.type) = ((l.drop o).take k1.length).map vI := by rw [ho, hs, List.map_take, List.map_drop]
          simp only [List.mapM_cons, e3, h5, h3]; rfl
        · rw [List.flatten_cons, h4, ← List.map_append, ← List.drop_drop, List.take_append_drop]
      · cases h
    · cases h

theorem flatK_lits {P : Program} : ∀ (d : Nat) (t : TypeId) (ks : List IntKind), flatK P d t = some ks → ∀ l : List (IntKind × Int), l.map (·.1) = ks → (∀ x ∈ l, (lI x).wf = true) → P.keyLits d t (l.map vI) = some (l.map lI)
  | 0, _, _, h, _, _, _ => by cases h
  | d + 1, t, ks, h, l, hl, hw => by
    unfold flatK at h
    unfold Program.keyLits
    split at h
    · rename_i q hu
      cases h
      match l, hl with
      | [x], hl =>
        obtain ⟨k, n⟩ := x
        have hl : k = q := by simpa using hl
        subst hl
        have := hw (k, n) (by simp)
        simp only [hu, List.map_cons, List.map_nil, this, and_self, if_true]
    · rename_i fs hu
      split at h
      · rename_i k1 hk1
        split at h
        · rename_i hc
          cases h
          obtain ⟨as, h1, h2⟩ := flatF_lits hw (flatK_lits d) fs.toList 0 _ hk1 (by simpa using hl)
          have hlen : (l.map vI).length = P.cellsOf t := by rw [hc.2, ← hl]; simp
          simp only [hu, hlen, hc.1, and_self, if_true, h1, Option.map_some, h2, List.drop_zero]
        · cases h
      · cases h
    · cases h

theorem lits_eq : ∀ {l m : List (IntKind × Int)}, l.map lI = m.map lI ↔ l = m
  | [], [] => by simp
  | [], _ :: _ => by simp
  | _ :: _, [] => by simp
  | x :: l, y :: m => by
    obtain ⟨a, b⟩ := x; obtain ⟨c, d⟩ := y
    simp only [List.map_cons, List.cons.injEq, lits_eq, Prod.mk.injEq, Lit.int.injEq]

theorem run_eq_ints {P : Program} {w : World} {t : TypeId} {ks : List IntKind} (hk : keyB P t ks = true) {l m : List (IntKind × Int)} (hl : l.map (·.1) = ks) (hm : m.map (·.1) = ks)
    (hlw : ∀ x ∈ l, (lI x).wf = true) (hmw : ∀ x ∈ m, (lI x).wf = true) : (Op.equalIn 10000 t (.agg (l.map vI).toArray) (.agg (m.map vI).toArray)).run P w = .ok (decide (l = m)) w := by
  unfold keyB at hk
  simp only [Bool.and_eq_true, Bool.not_eq_true', decide_eq_true_eq] at hk
  obtain ⟨⟨⟨h0, h1⟩, h2⟩, h3⟩ := hk
  have hf : ∀ l : List (IntKind × Int), l.map (·.1) = ks → (Value.agg (l.map vI).toArray).formed P t = true := fun l hl => by
    unfold structB at h0
    unfold flatK at h3
    simp only [Value.formed]
    split at h0
    · rename_i fs hu
      simp only [hu] at h3 ⊢
      split at h3
      · split at h3
        · rename_i hc
          cases h3
          rw [hc.2, ← hl]; simp
        · cases h3
      · cases h3
    · cases h0
  obtain ⟨r, h4, h5⟩ := run_equalIn_deep 9992 8 t h1 w 8 8 (.agg (l.map vI).toArray) (.agg (m.map vI).toArray) (l.map lI) (m.map lI) (hf l hl) (hf m hm) (by simpa [Value.cells] using flatK_lits 8 t ks h3 l hl hlw) (by simpa [Value.cells] using flatK_lits 8 t ks h3 m hm hmw)
  rw [h4]
  congr 1
  rw [lits_eq] at h5
  cases r <;> simp_all

end Go.Abs
/- The rest of the operations, and all of them together. -/
namespace Go.Abs
open Go Go.RowKit

def pickD (c : Bool) (a b : D) : D := bif c then a else b

def aPick (o : Oper) (c x y : Operand) : AR := opd c fun
  | .bool c => opd x fun a => opd y fun b => done o (pickD c a b) []
  | _ => .fail

/-- Comparison of a slice with nil. -/
def nilEq (d : D) (k : Bool → AR) : AR :=
  match d with
  | .nil => k true
  | .fsl _ rows => .req (rows ≠ []) (k false)
  | .osl id ver => .look id fun
    | some b => .req (b.ver = ver ∧ b.box = false ∧ b.rows ≠ []) (k false)
    | none => .fail
  | _ => .fail

def isSl (T : Tab) (t : TypeId) : Bool :=
  match tlook T t with
  | some i => match i.td with
    | .sl _ => true
    | _ => false
  | none => false

def isBl (T : Tab) (t : TypeId) : Bool :=
  match tlook T t with
  | some i => match i.td with
    | .bool => true
    | _ => false
  | none => false

/-- Cells that are whole numbers of these kinds: are they equal? -/
def eqC : List IntKind → List D → List D → (Bool → AR) → AR
  | [], [], [], k => k true
  | q :: qs, .int a n :: r, .int b m :: r', k => if a = q ∧ b = q then eqC qs r r' fun e => k ((n == m) && e) else .fail
  | _, _, _, _ => .fail

def aBin (T : Tab) (o : Oper) (op : BinOp) (t : TypeId) (x y : Operand) : AR :=
  opd x fun a => opd y fun b =>
    match a, b with
    | .int k n, .int k2 m =>
      if isShift op then shI op k n m fun d => done o d [] else
      if k = k2 then binI op k n m fun d => done o d [] else .fail
    | .str u, .str v => binS op u v fun d => done o d []
    | .bool u, .bool v =>
      if isBl T t then
        match op with
        | .eql => done o (.bool (u == v)) []
        | .neq => done o (.bool (!(u == v))) []
        | _ => .fail
      else .fail
    | .agg cs, .agg ds =>
      match klook T t with
      | some ks =>
        match op with
        | .eql => eqC ks cs ds fun r => done o (.bool r) []
        | .neq => eqC ks cs ds fun r => done o (.bool (!r)) []
        | _ => .fail
      | none => .fail
    | .fsl _ rows, .nil =>
      if isSl T t then
        match op with
        | .eql => done o (.ubool (rows = [])) []
        | _ => .fail
      else .fail
    | d, .nil =>
      if isSl T t then
        match op with
        | .eql => nilEq d fun r => done o (.bool r) []
        | .neq => nilEq d fun r => done o (.bool (!r)) []
        | _ => .fail
      else .fail
    | _, _ => .fail

def aUn (o : Oper) (op : UnOp) (x : Operand) : AR :=
  opd x fun d =>
    match op, d with
    | .neg, .int k n => done o (.int k (k.wrap (0 - n))) []
    | .not, .bool b => done o (.bool (!b)) []
    | _, _ => .fail

def aConv (T : Tab) (o : Oper) (src dst : TypeId) (x : Operand) : AR :=
  match tlook T src, tlook T dst with
  | some i, some j =>
    match i.td, j.td with
    | .int _, .int k => opd x fun
      | .int _ n => done o (.int k (k.wrap n)) []
      | _ => .fail
    | _, _ => .fail
  | _, _ => .fail

def aExtract (o : Oper) (x : Operand) (i : Nat) : AR :=
  opd x fun
  | .tup vs => if i < vs.length then done o (getC vs i) [] else .fail
  | _ => .fail

def aNil (o : Oper) (x : Operand) : AR :=
  opd x fun d =>
    match d with
    | .fptr _ _ | .fn _ _ => done o d []
    | .ptr id ver _ _ => .look id fun
      | some b => .req (b.ver = ver) (done o d [])
      | none => .fail
    | _ => .fail

def aIndexS (T : Tab) (o : Oper) (t : TypeId) (x ix : Operand) : AR :=
  match tlook T t with
  | some i =>
    match i.td with
    | .str => opd x fun d => opd ix fun e =>
      match d, e with
      | .str s, .int _ n => .req (0 ≤ n ∧ n < (s.size : Int)) (done o (.int .u8 ((s.get! n.toNat).toNat : Int)) [])
      | _, _ => .fail
    | _ => .fail
  | none => .fail

def aField (T : Tab) (o : Oper) (t : TypeId) (x : Operand) (f : Nat) : AR :=
  match tlook T t with
  | some i =>
    match i.td with
    | .st fs =>
      match fs[f]? with
      | some p =>
        opd x fun
        | .agg cs => takeT T p.2 cs p.1 fun d => done o d []
        | _ => .fail
      | none => .fail
    | _ => .fail
  | none => .fail

def isInt (T : Tab) (t : TypeId) : Bool := match tlook T t with | some i => (match i.td with | .sl _ | .str => true | _ => false) | none => false

def aLen (T : Tab) (o : Oper) (t : TypeId) (x : Operand) : AR :=
  match tlook T t with
  | some i =>
    match i.td with
    | .sl _ => opd x fun
      | .nil => done o (.int .i64 0) []
      | .fsl _ rows => done o (.int .i64 rows.length) []
      | .osl id ver => .look id fun
        | some b => .req (b.ver = ver ∧ b.box = false) (done o (.int .i64 b.rows.length) [])
        | none => .fail
      | _ => .fail
    | .str => opd x fun
      | .str s => done o (.int .i64 s.size) []
      | _ => .fail
    | _ => .fail
  | none => .fail

def aMinMax (o : Oper) (mx : Bool) (x y : Operand) : AR :=
  opd x fun d => opd y fun e =>
    match d, e with
    | .int k n, .int k2 m => if k = k2 then done o (.int k (if mx then (if n < m then m else n) else (if m < n then m else n))) [] else .fail
    | _, _ => .fail

section
variable {P : Program} {C : Cons} {T : Tab} {w w' w0 : World} {Z0 : Nat → Prop} {φ : Nat → Value} {s : AS} {a : Act} {o : Oper} {K : Act → World → Prop} {Q : Exit → Act → World → Prop} {ups : List Upd} {R : List Loc}

theorem has_len {n : Nat} (h : n ≤ lim) : IntKind.i64.has (n : Int) := by
  simp only [lim] at h
  simp [IntKind.has, IntKind.min, IntKind.max, IntKind.bits, IntKind.signed]
  omega

theorem fsl_len {ob : Obs} {sz : Nat} {rows : List (List D)} {v : Value} (h : EncS w Z0 ob φ (.fsl sz rows) v) : rows.length ≤ lim ∧ ((v = .slice none 0 0 ∧ rows = []) ∨ ∃ ad c, v = .slice (some ad) rows.length c) := by
  cases h with
  | fslNil => exact ⟨by simp [lim], .inl ⟨rfl, rfl⟩⟩
  | fslE _ ad c => exact ⟨by simp [lim], .inr ⟨ad, c, rfl⟩⟩
  | fsl _ _ b off c cv hc hl hr hz hcell h1 h => exact ⟨hl, .inr ⟨_, _, rfl⟩⟩

theorem osl_len (hR : RelF w0 Z0 φ s a w) {id ver : Nat} {v : Value} {b : Ob} (h : EncS w Z0 s.ob φ (.osl id ver) v) (hl : s.look id = some b) (hv : b.ver = ver) (hbox : b.box = false) :
    b.rows.length ≤ lim ∧ ((v = .slice none 0 0 ∧ b.rows = []) ∨ ∃ ad c, v = .slice (some ad) b.rows.length c) := by
  have hz : ∀ b, ¬ ZZ (fun _ => False) [] φ b := fun b hz => by
    rcases hz with h | ⟨_, _, h, _⟩
    · exact h
    · cases h
  exact fsl_len (w := w) (Z0 := fun _ => False) (φ := φ) (ob := []) (v := v) (sz := b.sz) (rows := b.rows) (osl_value hR h hl hv hbox (Z' := ZZ (fun _ => False) [] φ) ⟨fun b _ _ => hz b, fun id _ b _ => hz b⟩)

theorem run_equal {t : TypeId} {x y : Value} {r : Bool} (h : ∀ d, (Op.equalIn (d + 1) t x y).run P w = .ok r w) : (Op.equal t x y).run P w = .ok r w := h 9999

theorem run_binEq {t : TypeId} {x y : Value} {r : Bool} (h : (Op.equal t x y).run P w = .ok r w) (hx : ∀ k n, x ≠ .int k n) (hf : ∀ k n, x ≠ .float k n) (hc : ∀ k n m, x ≠ .complex k n m) (hs : ∀ s, x ≠ .string s) :
    (binOp .eql t x y).run P w = .ok (.bool r) w ∧ (binOp .neq t x y).run P w = .ok (.bool (!r)) w := by
  cases x <;> first | (exact absurd rfl (hx _ _)) | (exact absurd rfl (hf _ _)) | (exact absurd rfl (hc _ _ _)) | (exact absurd rfl (hs _)) | (simp [binOp, h])

theorem wp_move {x : Operand} (ho : o.op = .move x ∨ o.op = .assign x) (hR : RelF w0 Z0 φ s a w) (hd : ∀ n, o.dst = some n → n < s.nt) (h : (opd x fun d => done o d []).Ev C s ups R) (hK : ∀ a' w', Rel w0 Z0 (s.app ups) a' w' → K a' w') : o.wp P a w K Q := by
  obtain ⟨d, R1, he, h⟩ := opd_ev hR h
  refine wp_value (v := a.eval x) (w' := w) (by rcases ho with ho | ho <;> simp [execOp, ho]) (hK _ _ ⟨φ, rel_done hR hd he h⟩)

theorem wp_pick {c x y : Operand} (ho : o.op = .pick c x y) (hR : RelF w0 Z0 φ s a w) (hd : ∀ n, o.dst = some n → n < s.nt) (h : (aPick o c x y).Ev C s ups R) (hK : ∀ a' w', Rel w0 Z0 (s.app ups) a' w' → K a' w') : o.wp P a w K Q := by
  obtain ⟨d, R1, he, g⟩ := opd_ev hR h
  clear h
  generalize hc : a.eval c = cv at he
  cases d <;> (try exact g.elim)
  rename_i b
  cases he
  obtain ⟨d1, R2, he1, g1⟩ := opd_ev hR g
  obtain ⟨d2, R3, he2, g2⟩ := opd_ev hR g1
  refine wp_value (v := if b then a.eval x else a.eval y) (w' := w) (by cases b <;> simp [execOp, ho, hc, asBool]) (hK _ _ ⟨φ, rel_done hR hd ?_ g2⟩)
  cases b
  · exact he2
  · exact he1

theorem wp_un {op : UnOp} {t : TypeId} {x : Operand} (ho : o.op = .unOp op t x) (hR : RelF w0 Z0 φ s a w) (hd : ∀ n, o.dst = some n → n < s.nt) (h : (aUn o op x).Ev C s ups R) (hK : ∀ a' w', Rel w0 Z0 (s.app ups) a' w' → K a' w') : o.wp P a w K Q := by
  obtain ⟨d, R1, he, g⟩ := opd_ev hR h
  clear h
  generalize hx : a.eval x = xv at he
  split at g
  · rename_i k n
    cases he
    refine wp_value (v := .int k (k.wrap (0 - n))) (w' := w) (by simp [execOp, ho, hx, Op.unary, Op.intArith]) (hK _ _ ⟨φ, rel_done hR hd (.int _ _ (has_wrap _ _)) g⟩)
  · rename_i b
    cases he
    refine wp_value (v := .bool (!b)) (w' := w) (by simp [execOp, ho, hx, Op.unary]) (hK _ _ ⟨φ, rel_done hR hd (.bool _) g⟩)
  · exact g.elim

theorem eqGuard_slice (op : BinOp) (t : TypeId) (x y : Operand) {u v : Value} (h : ∀ cs, u ≠ .agg cs) (h2 : u ≠ .nilIface) : (eqGuard op t x y u v).run P w = .ok () w := by
  unfold eqGuard
  cases op <;> simp <;> (cases u <;> simp_all)

theorem nilEq_ev (hR : RelF w0 Z0 φ s a w) {d : D} {v : Value} (he : EncS w Z0 s.ob φ d v) {k : Bool → AR} (h : (nilEq d k).Ev C s ups R) :
    ∃ r R', (k r).Ev C s ups R' ∧ ((r = true ∧ v = .slice none 0 0) ∨ (r = false ∧ ∃ ad n c, v = .slice (some ad) n c)) := by
  cases d <;> (try exact h.elim)
  case nil => cases he; exact ⟨true, R, h, .inl ⟨rfl, rfl⟩⟩
  case fsl sz rows =>
    obtain ⟨hne, h⟩ := h
    rcases (fsl_len he).2 with ⟨_, e⟩ | ⟨ad, c, e⟩
    · exact absurd e hne
    · exact ⟨false, R, h, .inr ⟨rfl, ad, _, c, e⟩⟩
  case osl id ver =>
    obtain ⟨R1, _, h⟩ := h
    cases ho : s.look id with
    | none => rw [ho] at h; exact h.elim
    | some b =>
      rw [ho] at h
      obtain ⟨⟨hv, hbox, hne⟩, h⟩ := h
      rcases (osl_len hR he ho hv hbox).2 with ⟨_, e⟩ | ⟨ad, c, e⟩
      · exact absurd e hne
      · exact ⟨false, R1, h, .inr ⟨rfl, ad, _, c, e⟩⟩

theorem isSl_ok (hT : TOk P T) {t : TypeId} (h : isSl T t = true) : ∃ e, P.underlying t = some (.slice e) := by
  unfold isSl at h
  split at h
  · rename_i i hi
    split at h
    · rename_i e he
      obtain ⟨info, d, q1, q2, q3, q4, q5, _⟩ := (hT.ok hi).ex
      rw [he] at q5
      rw [tdB_sl q5] at q2
      exact ⟨e, q2⟩
    · cases h
  · cases h

theorem isBl_ok (hT : TOk P T) {t : TypeId} (h : isBl T t = true) : P.underlying t = some .bool := by
  unfold isBl at h
  split at h
  · rename_i i hi
    split at h
    · rename_i he
      obtain ⟨info, d, q1, q2, q3, q4, q5, _⟩ := (hT.ok hi).ex
      rw [he] at q5
      rw [tdB_bool q5] at q2
      exact q2
    · cases h
  · cases h

abbrev dI (x : IntKind × Int) : D := .int x.1 x.2

theorem eqC_ev {C : Cons} : ∀ {ks : List IntKind} {cs ds : List D} {k : Bool → AR} {ups : List Upd} {R : List Loc}, (eqC ks cs ds k).Ev C s ups R →
    ∃ l m : List (IntKind × Int), cs = l.map dI ∧ ds = m.map dI ∧ l.map (·.1) = ks ∧ m.map (·.1) = ks ∧ (k (decide (l = m))).Ev C s ups R := by
  intro ks
  induction ks with
  | nil =>
    intro cs ds k ups R h
    unfold eqC at h
    split at h
    · exact ⟨[], [], rfl, rfl, rfl, rfl, by simpa using h⟩
    · contradiction
    · exact h.elim
  | cons q qs ih =>
    intro cs ds k ups R h
    unfold eqC at h
    split at h
    · contradiction
    · rename_i q' qs' a n r b m r' h1
      cases h1
      split at h
      · rename_i hab
        obtain ⟨rfl, rfl⟩ := hab
        obtain ⟨l, m', rfl, rfl, h1, h2, h3⟩ := ih h
        refine ⟨(b, n) :: l, (b, m) :: m', rfl, rfl, by simp [h1], by simp [h2], ?_⟩
        have : ((n == m) && decide (l = m')) = decide ((b, n) :: l = (b, m) :: m') := by
          rw [Bool.eq_iff_iff]; simp
        rwa [this] at h3
      · exact h.elim
    · exact h.elim

theorem enc_ints {w : World} {Z : Nat → Prop} {E : Nat → Nat → Value → Prop} {F : Nat → Nat → Nat → Nat → Value → Prop} {l : List (IntKind × Int)} {v : Value} (h : Enc w Z E F (.agg (l.map dI)) v) :
    v = .agg (l.map vI).toArray ∧ ∀ x ∈ l, (lI x).wf = true := by
  cases h with
  | agg _ vs hs h1 hc =>
    have key : ∀ i (hi : i < l.length), vs.getD i Go.undef = vI l[i] ∧ l[i].1.has l[i].2 := fun i hi => by
      have := hc i (by simpa using hi)
      have e : getC (l.map dI) i = dI l[i] := by simp [getC, hi]
      rw [e] at this
      generalize vs.getD i Go.undef = u at this
      cases this with | int _ _ hh => exact ⟨rfl, hh⟩
    refine ⟨?_, fun x hx => ?_⟩
    · congr 1
      apply Array.ext
      · simpa using hs
      · intro i h2 h3
        have hi : i < l.length := by simpa using h3
        have := (key i hi).1
        simp only [Array.getD_eq_getD_getElem?, Array.getElem?_eq_getElem h2, Option.getD_some] at this
        rw [this]; simp
    · obtain ⟨i, hi, rfl⟩ := List.getElem_of_mem hx
      simpa [Lit.wf, IntKind.has] using (key i hi).2

theorem wp_bin (hT : TOk P T) {op : BinOp} {t t2 : TypeId} {x y : Operand} (ho : o.op = .binOp op t x y t2) (hR : RelF w0 Z0 φ s a w) (hd : ∀ n, o.dst = some n → n < s.nt) (h : (aBin T o op t x y).Ev C s ups R) (hK : ∀ a' w', Rel w0 Z0 (s.app ups) a' w' → K a' w') : o.wp P a w K Q := by
  obtain ⟨d, R1, he, g⟩ := opd_ev hR h
  clear h
  obtain ⟨e, R2, he2, h⟩ := opd_ev hR g
  clear g
  have fin : ∀ (v : Value), (∀ cs, a.eval x ≠ .agg cs) → a.eval x ≠ .nilIface → (binOp op t (a.eval x) (a.eval y)).run P w = .ok v w → K (a.put o.dst v) w → o.wp P a w K Q := fun v h1 h2 h3 h4 =>
    wp_value (v := v) (w' := w) (by simp only [execOp, ho, Sem.run_bind, eqGuard_slice op t x y h1 h2, Result.andThen_ok, h3]; rfl) h4
  have fin2 : ∀ {v : Value} (xs ys : Array Value), a.eval x = .agg xs → a.eval y = .agg ys → P.eqGuardType P.depth t = false → (binOp op t (a.eval x) (a.eval y)).run P w = .ok v w → K (a.put o.dst v) w → o.wp P a w K Q := fun {v} xs ys h1 h2 hg h3 h4 =>
    wp_value (v := v) (w' := w) (by rw [h1, h2] at h3; simp only [execOp, ho, Sem.run_bind, h1, h2, run_eqGuard_agg w op t x y xs ys hg, Result.andThen_ok, h3]; try rfl) h4
  generalize a.eval x = xv at he fin fin2
  generalize a.eval y = yv at he2 fin fin2
  split at h
  · rename_i k n k2 m
    cases he with | int _ _ hn => ?_
    cases he2
    by_cases hs : isShift op = true
    · rw [if_pos hs] at h
      obtain ⟨d, v, h1, h2, h3⟩ := shI_ev (P := P) (w := w) (Z0 := Z0) (φ := φ) (ob := s.ob) (k2 := k2) hn t h
      exact fin v (fun _ => by simp) (by simp) h1 (hK _ _ ⟨φ, rel_done hR hd h2 h3⟩)
    · rw [if_neg hs] at h
      by_cases hk : k = k2
      · subst hk
        rw [if_pos rfl] at h
        obtain ⟨d, v, h1, h2, h3⟩ := binI_ev (P := P) (w := w) (Z0 := Z0) (φ := φ) (ob := s.ob) (by simpa using hs) hn t h
        exact fin v (fun _ => by simp) (by simp) h1 (hK _ _ ⟨φ, rel_done hR hd h2 h3⟩)
      · rw [if_neg hk] at h; exact h.elim
  · cases he
    cases he2
    obtain ⟨d, v, h1, h2, h3⟩ := binS_ev (P := P) (w := w) (Z0 := Z0) (φ := φ) (ob := s.ob) t h
    exact fin v (fun _ => by simp) (by simp) h1 (hK _ _ ⟨φ, rel_done hR hd h2 h3⟩)
  · rename_i u v
    cases he
    cases he2
    by_cases hb : isBl T t = true
    · rw [if_pos hb] at h
      have hu := isBl_ok hT hb
      split at h
      · exact fin (.bool (u == v)) (fun _ => by simp) (by simp) (run_binEq (run_equal fun d => by simp [Op.equalIn, run_underlying hu]) (by simp) (by simp) (by simp) (by simp)).1 (hK _ _ ⟨φ, rel_done hR hd (.bool _) h⟩)
      · exact fin (.bool (!(u == v))) (fun _ => by simp) (by simp) (run_binEq (run_equal fun d => by simp [Op.equalIn, run_underlying hu]) (by simp) (by simp) (by simp) (by simp)).2 (hK _ _ ⟨φ, rel_done hR hd (.bool _) h⟩)
      · exact h.elim
    · rw [if_neg hb] at h; exact h.elim
  · split at h
    · rename_i ks hks
      have hkb := hT.key hks
      have hg : P.eqGuardType P.depth t = false := by
        unfold keyB at hkb
        simp only [Bool.and_eq_true, Bool.not_eq_true'] at hkb
        exact hkb.1.2
      split at h
      · obtain ⟨l, m, rfl, rfl, h1, h2, h3⟩ := eqC_ev h
        obtain ⟨rfl, hl⟩ := enc_ints he
        obtain ⟨rfl, hm⟩ := enc_ints he2
        refine fin2 _ _ rfl rfl hg ?_ (hK _ _ ⟨φ, rel_done hR hd (.bool _) h3⟩)
        rw [run_eql_struct, run_eq_ints hkb h1 h2 hl hm]; try rfl
      · obtain ⟨l, m, rfl, rfl, h1, h2, h3⟩ := eqC_ev h
        obtain ⟨rfl, hl⟩ := enc_ints he
        obtain ⟨rfl, hm⟩ := enc_ints he2
        refine fin2 _ _ rfl rfl hg ?_ (hK _ _ ⟨φ, rel_done hR hd (.bool _) h3⟩)
        rw [run_neq_struct, run_eq_ints hkb h1 h2 hl hm]; try rfl
      · exact h.elim
    · exact h.elim
  · cases he2
    by_cases hb : isSl T t = true
    · rw [if_pos hb] at h
      obtain ⟨el, hu⟩ := isSl_ok hT hb
      split at h
      · rcases (fsl_len he).2 with ⟨rfl, e⟩ | ⟨ad, c, rfl⟩
        · exact fin (.bool true) (fun _ => by simp) (by simp) (run_binEq (r := true) (run_equal fun d => by simp [Op.equalIn, run_underlying hu]) (by simp) (by simp) (by simp) (by simp)).1 (hK _ _ ⟨φ, rel_done hR hd (.ubool _ _ fun _ => e) h⟩)
        · exact fin (.bool false) (fun _ => by simp) (by simp) (run_binEq (r := false) (run_equal fun d => by simp [Op.equalIn, run_underlying hu]) (by simp) (by simp) (by simp) (by simp)).1 (hK _ _ ⟨φ, rel_done hR hd (.ubool _ _ fun h => by cases h) h⟩)
      · exact h.elim
    · rw [if_neg hb] at h; exact h.elim
  · cases he2
    by_cases hb : isSl T t = true
    · rw [if_pos hb] at h
      obtain ⟨el, hu⟩ := isSl_ok hT hb
      split at h
      · obtain ⟨r, R3, h1, h2⟩ := nilEq_ev hR he h
        rcases h2 with ⟨rfl, rfl⟩ | ⟨rfl, ad, n, c, rfl⟩
        · exact fin (.bool true) (fun _ => by simp) (by simp) (run_binEq (r := true) (run_equal fun d => by simp [Op.equalIn, run_underlying hu]) (by simp) (by simp) (by simp) (by simp)).1 (hK _ _ ⟨φ, rel_done hR hd (.bool _) h1⟩)
        · exact fin (.bool false) (fun _ => by simp) (by simp) (run_binEq (r := false) (run_equal fun d => by simp [Op.equalIn, run_underlying hu]) (by simp) (by simp) (by simp) (by simp)).1 (hK _ _ ⟨φ, rel_done hR hd (.bool _) h1⟩)
      · obtain ⟨r, R3, h1, h2⟩ := nilEq_ev hR he h
        rcases h2 with ⟨rfl, rfl⟩ | ⟨rfl, ad, n, c, rfl⟩
        · exact fin (.bool false) (fun _ => by simp) (by simp) (run_binEq (r := true) (run_equal fun d => by simp [Op.equalIn, run_underlying hu]) (by simp) (by simp) (by simp) (by simp)).2 (hK _ _ ⟨φ, rel_done hR hd (.bool _) h1⟩)
        · exact fin (.bool true) (fun _ => by simp) (by simp) (run_binEq (r := false) (run_equal fun d => by simp [Op.equalIn, run_underlying hu]) (by simp) (by simp) (by simp) (by simp)).2 (hK _ _ ⟨φ, rel_done hR hd (.bool _) h1⟩)
      · exact h.elim
    · rw [if_neg hb] at h; exact h.elim
  · exact h.elim

end
end Go.Abs
/- Conversions, parts, lengths; functions as values; literals, makes, cuts. -/
namespace Go.Abs
open Go Go.RowKit

section
variable {P : Program} {C : Cons} {T : Tab} {w w' w0 : World} {Z0 : Nat → Prop} {φ : Nat → Value} {s : AS} {a : Act} {o : Oper} {K : Act → World → Prop} {Q : Exit → Act → World → Prop} {ups : List Upd} {R : List Loc}

theorem has_zero : IntKind.i64.has 0 := by simp [IntKind.has, IntKind.min, IntKind.max, IntKind.bits, IntKind.signed]

theorem wp_conv (hT : TOk P T) {src dst : TypeId} {x : Operand} (ho : o.op = .convert src dst x) (hR : RelF w0 Z0 φ s a w) (hd : ∀ n, o.dst = some n → n < s.nt) (h : (aConv T o src dst x).Ev C s ups R) (hK : ∀ a' w', Rel w0 Z0 (s.app ups) a' w' → K a' w') : o.wp P a w K Q := by
  unfold aConv at h
  split at h
  · rename_i i j hi hj
    split at h
    · rename_i k0 k h1 h2
      obtain ⟨_, d1, _, q1, _, _, q5, _⟩ := (hT.ok hi).ex
      obtain ⟨_, d2, _, p1, _, _, p5, _⟩ := (hT.ok hj).ex
      rw [h1] at q5; rw [h2] at p5
      rw [tdB_int q5] at q1
      rw [tdB_int p5] at p1
      obtain ⟨d, R1, he, g⟩ := opd_ev hR h
      clear h
      generalize hx : a.eval x = xv at he
      cases d <;> (try exact g.elim)
      rename_i kk n
      cases he
      refine wp_value (v := .int k (k.wrap n)) (w' := w) (by simp [execOp, ho, hx, convert, run_underlying q1, run_underlying p1, Conv.intToInt]) (hK _ _ ⟨φ, rel_done hR hd (.int _ _ (has_wrap _ _)) g⟩)
    · exact h.elim
  · exact h.elim

theorem wp_extract {x : Operand} {i : Nat} (ho : o.op = .extract x i) (hR : RelF w0 Z0 φ s a w) (hd : ∀ n, o.dst = some n → n < s.nt) (h : (aExtract o x i).Ev C s ups R) (hK : ∀ a' w', Rel w0 Z0 (s.app ups) a' w' → K a' w') : o.wp P a w K Q := by
  obtain ⟨d, R1, he, g⟩ := opd_ev hR h
  clear h
  generalize hx : a.eval x = xv at he
  cases d <;> (try exact g.elim)
  rename_i ds
  cases he with
  | tup _ vs hs hc =>
    by_cases hi : i < ds.length
    · simp only [if_pos hi] at g
      have hlt : i < vs.size := by omega
      have hv : vs[i]? = some vs[i] := Array.getElem?_eq_getElem hlt
      have he : vs.getD i Go.undef = vs[i] := by rw [Array.getD_eq_getD_getElem?, hv]; try rfl
      have hc2 := hc i hi
      rw [he] at hc2
      exact wp_value (v := vs[i]) (w' := w) (by simp [execOp, ho, hx, Instr.extract, hlt]) (hK _ _ ⟨φ, rel_done hR hd hc2 g⟩)
    · simp only [if_neg hi] at g; exact g.elim

theorem wp_nil {x : Operand} (ho : o.op = .nilCheck x) (hR : RelF w0 Z0 φ s a w) (hd : ∀ n, o.dst = some n → n < s.nt) (h : (aNil o x).Ev C s ups R) (hK : ∀ a' w', Rel w0 Z0 (s.app ups) a' w' → K a' w') : o.wp P a w K Q := by
  obtain ⟨d, R1, he, g⟩ := opd_ev hR h
  clear h
  generalize hx : a.eval x = xv at he
  cases d <;> (try exact g.elim)
  case fptr cells col =>
    have he0 := he
    cases he
    exact wp_value (v := _) (w' := w) (by simp [execOp, ho, hx]) (hK _ _ ⟨φ, rel_done hR hd he0 g⟩)
  case fn f caps =>
    have he0 := he
    cases he
    exact wp_value (v := _) (w' := w) (by simp [execOp, ho, hx]) (hK _ _ ⟨φ, rel_done hR hd he0 g⟩)
  case ptr id ver row col =>
    have he0 := he
    obtain ⟨R2, _, g⟩ := g
    cases hl : s.look id with
    | none => rw [hl] at g; exact g.elim
    | some b =>
      rw [hl] at g
      obtain ⟨hv, g⟩ := g
      cases he with
      | ptr _ _ _ _ _ hp =>
        obtain ⟨o1, h1, h2, h3, h4⟩ := hp
        obtain rfl : o1 = b := Option.some.inj (h1.symm.trans hl)
        obtain ⟨bb, hb, rfl⟩ := h3 hv
        exact wp_value (v := _) (w' := w) (by simp [execOp, ho, hx]) (hK _ _ ⟨φ, rel_done hR hd he0 g⟩)

theorem wp_indexS (hT : TOk P T) {t : TypeId} {x ix : Operand} (ho : o.op = .index t x ix) (hR : RelF w0 Z0 φ s a w) (hd : ∀ n, o.dst = some n → n < s.nt) (h : (aIndexS T o t x ix).Ev C s ups R) (hK : ∀ a' w', Rel w0 Z0 (s.app ups) a' w' → K a' w') : o.wp P a w K Q := by
  unfold aIndexS at h
  split at h
  · rename_i i hi
    split at h
    · rename_i hst
      obtain ⟨_, d1, _, q1, _, _, q5, _⟩ := (hT.ok hi).ex
      rw [hst] at q5
      rw [tdB_str q5] at q1
      obtain ⟨d, R1, he, g⟩ := opd_ev hR h
      clear h
      obtain ⟨e, R2, he2, h⟩ := opd_ev hR g
      clear g
      generalize hx : a.eval x = xv at he
      generalize hy : a.eval ix = yv at he2
      split at h
      · rename_i st k n
        obtain ⟨⟨h0, h1⟩, h⟩ := h
        cases he
        cases he2
        have hlt : n.toNat < st.size := by omega
        have hg : st[n.toNat]? = some (st.get! n.toNat) := by
          rw [getElem?_pos st n.toNat hlt]
          congr 1
          show st.data[n.toNat] = st.data[n.toNat]!
          rw [getElem!_pos st.data n.toNat hlt]
        refine wp_value (v := .int .u8 ((st.get! n.toNat).toNat : Int)) (w' := w) ?_ (hK _ _ ⟨φ, rel_done hR hd (.int _ _ ?_) h⟩)
        · simp [execOp, ho, hx, hy, Instr.index, asIntOf, run_underlying q1, h0, hg]
        · have := (st.get! n.toNat).toNat_lt
          simp [IntKind.has, IntKind.min, IntKind.max, IntKind.bits, IntKind.signed]
          omega
      · exact h.elim
    · exact h.elim
  · exact h.elim

theorem wp_len (hT : TOk P T) {c : Call} {t : TypeId} {x : Operand} (ho : o.op = .call c) (hc : c.callee = .builtin .len) (ha : c.args = #[x]) (ht : c.argTypes = #[t]) (hR : RelF w0 Z0 φ s a w) (hd : ∀ n, o.dst = some n → n < s.nt) (h : (aLen T o t x).Ev C s ups R) (hK : ∀ a' w', Rel w0 Z0 (s.app ups) a' w' → K a' w') : o.wp P a w K Q := by
  have fin : ∀ v : Value, (Builtin.len_ #[t] o.type #[a.eval x]).run P w = .ok v w → K (a.put o.dst v) w → o.wp P a w K Q := fun v h1 h2 =>
    wp_value (v := v) (w' := w) (by simp [execOp, ho, resolve, hc, ha, ht, invoke, builtin, h1]) h2
  unfold aLen at h
  split at h
  · rename_i i hi
    obtain ⟨_, d1, _, q1, _, _, q5, _⟩ := (hT.ok hi).ex
    split at h
    · rename_i e hst
      rw [hst] at q5
      rw [tdB_sl q5] at q1
      obtain ⟨d, R1, he, g⟩ := opd_ev hR h
      clear h
      generalize a.eval x = xv at he fin
      cases d <;> (try exact g.elim)
      case nil =>
        cases he
        exact fin (.int .i64 0) (by simp [Builtin.len_, run_underlying q1, goInt]) (hK _ _ ⟨φ, rel_done hR hd (.int _ _ has_zero) g⟩)
      case fsl sz rows =>
        obtain ⟨hl, h2⟩ := fsl_len he
        rcases h2 with ⟨rfl, rfl⟩ | ⟨ad, c, rfl⟩
        · exact fin (.int .i64 0) (by simp [Builtin.len_, run_underlying q1, goInt]) (hK _ _ ⟨φ, rel_done hR hd (.int _ _ has_zero) (by simpa using g)⟩)
        · exact fin (.int .i64 rows.length) (by simp [Builtin.len_, run_underlying q1, goInt]) (hK _ _ ⟨φ, rel_done hR hd (.int _ _ (has_len hl)) g⟩)
      case osl id ver =>
        obtain ⟨R2, _, g⟩ := g
        cases hl : s.look id with
        | none => rw [hl] at g; exact g.elim
        | some b =>
          rw [hl] at g
          obtain ⟨⟨hv, hbox⟩, g⟩ := g
          obtain ⟨hle, h2⟩ := osl_len hR he hl hv hbox
          rcases h2 with ⟨rfl, e⟩ | ⟨ad, c, rfl⟩
          · rw [e] at g
            exact fin (.int .i64 0) (by simp [Builtin.len_, run_underlying q1, goInt]) (hK _ _ ⟨φ, rel_done hR hd (.int _ _ has_zero) g⟩)
          · exact fin (.int .i64 b.rows.length) (by simp [Builtin.len_, run_underlying q1, goInt]) (hK _ _ ⟨φ, rel_done hR hd (.int _ _ (has_len hle)) g⟩)
    · rename_i hst
      rw [hst] at q5
      rw [tdB_str q5] at q1
      obtain ⟨d, R1, he, g⟩ := opd_ev hR h
      clear h
      generalize a.eval x = xv at he fin
      cases d <;> (try exact g.elim)
      rename_i st
      cases he with
      | str _ hs => exact fin (.int .i64 st.size) (by simp [Builtin.len_, run_underlying q1, goInt]) (hK _ _ ⟨φ, rel_done hR hd (.int _ _ (has_len hs)) g⟩)
    · exact h.elim
  · exact h.elim

theorem wp_minmax {c : Call} {mx : Bool} {x y : Operand} (ho : o.op = .call c) (hc : c.callee = .builtin (if mx then .max else .min)) (ha : c.args = #[x, y]) (hR : RelF w0 Z0 φ s a w) (hd : ∀ n, o.dst = some n → n < s.nt) (h : (aMinMax o mx x y).Ev C s ups R) (hK : ∀ a' w', Rel w0 Z0 (s.app ups) a' w' → K a' w') : o.wp P a w K Q := by
  obtain ⟨d, R1, he, g⟩ := opd_ev hR h
  clear h
  obtain ⟨e, R2, he2, h⟩ := opd_ev hR g
  clear g
  generalize hx : a.eval x = xv at he
  generalize hy : a.eval y = yv at he2
  split at h
  · rename_i k n k2 m
    cases he with | int _ _ hn => ?_
    cases he2 with | int _ _ hm => ?_
    by_cases hk : k = k2
    · subst hk
      rw [if_pos rfl] at h
      cases mx
      · refine wp_value (v := .int k (if m < n then m else n)) (w' := w) ?_ (hK _ _ ⟨φ, rel_done hR hd (.int _ _ (by split <;> assumption)) h⟩)
        simp [execOp, ho, resolve, hc, ha, invoke, builtin, Builtin.min_, hx, hy, Builtin.min2]
      · refine wp_value (v := .int k (if n < m then m else n)) (w' := w) ?_ (hK _ _ ⟨φ, rel_done hR hd (.int _ _ (by split <;> assumption)) h⟩)
        simp [execOp, ho, resolve, hc, ha, invoke, builtin, Builtin.max_, hx, hy, Builtin.max2]
    · rw [if_neg hk] at h; exact h.elim
  · exact h.elim

end

/-! ### Functions as values -/

def aMakeFunc (o : Oper) (f : FuncId) (caps : List Operand) : AR := opds caps fun ds => done o (.fn f ds) []

/-! ### A value of a struct out of its parts -/

def buildC (T : Tab) (fs : List (Nat × TypeId)) : List Nat → List D → List D → Option (List D)
  | [], _, cells => some cells
  | f :: r, ds, cells =>
    match ds, fs[f]? with
    | d :: ds', some p =>
      match tlook T p.2, cellsOf d with
      | some i, some cs => if cs.length = i.sz ∧ p.1 + cs.length ≤ cells.length then buildC T fs r ds' (splice cells p.1 cs) else none
      | _, _ => none
    | _, _ => none

def aBuild (T : Tab) (o : Oper) (t : TypeId) (parts : List (Nat × Operand)) : AR :=
  match tlook T t with
  | some i =>
    match i.td, i.zero with
    | .st fs, some z =>
      if z.length = i.sz ∧ (fs.all fun p => (tlook T p.2).isSome) = true then
        opds (parts.map (·.2)) fun ds =>
          match buildC T fs (parts.map (·.1)) ds z with
          | some cs => done o (.agg cs) []
          | none => .fail
      else .fail
    | _, _ => .fail
  | none => .fail

def aAlloc (T : Tab) (o : Oper) (t : TypeId) : AR :=
  match tlook T t with
  | some i => aBox o t (i.zero)
  | none => .fail

/-! ### Slices that are made -/

def aMakeSlice (T : Tab) (o : Oper) (t : TypeId) (l c : Operand) : AR :=
  madeT T t fun e j z => opd l fun d => opd c fun d2 =>
    match d, d2, o.dst with
    | .int _ n, .int _ m, some k => .req (n = m ∧ 0 ≤ n ∧ n ≤ 140737488355328 ∧ (j.bytes : Int) * n ≤ 140737488355328 ∧ ∀ d ∈ z, D.pc d = true) (bump (k * 100) fun ver =>
        .ret [.ob (k * 100) ⟨ver, true, false, j.sz, e, List.replicate n.toNat z⟩, .slot k (.osl (k * 100) ver)])
    | _, _, _ => .fail

/-- Rows of single elements. -/
def cellsAll (sz : Nat) : List D → Option (List (List D))
  | [] => some []
  | d :: r => match cellsOf d, cellsAll sz r with
    | some cs, some l => if cs.length = sz then some (cs :: l) else none
    | _, _ => none

def resRows : List (List D) → (List (List D) → List Nat → AR) → AR
  | [], k => k [] []
  | r :: l, k => resCells r fun r' i1 => resRows l fun l' i2 => k (r' :: l') (i1 ++ i2)

def aBuildSlice (T : Tab) (o : Oper) (t : TypeId) (len : Nat) (parts : List (Nat × Operand)) : AR :=
  madeT T t fun e j _ =>
    if parts.map (·.1) = List.range len ∧ len * j.sz ≤ 16777216 then
      opds (parts.map (·.2)) fun ds =>
        match cellsAll j.sz ds, o.dst with
        | some rows, some n => resRows rows fun rows' ids => frzU ids fun us => bump (n * 100) fun ver =>
          .ret (us ++ [.ob (n * 100) ⟨ver, true, false, j.sz, e, rows'⟩, .slot n (.osl (n * 100) ver)])
        | _, _ => .fail
    else .fail

/-! ### Cuts -/

def optD (x : Option Operand) (k : Option Int → AR) : AR :=
  match x with
  | none => k none
  | some x => opd x fun
    | .int _ n => k (some n)
    | _ => .fail

def aSlice (T : Tab) (o : Oper) (t : TypeId) (x : Operand) (lo hi mx : Option Operand) : AR :=
  match tlook T t, mx with
  | some i, none =>
    match i.td with
    | .str => opd x fun
      | .str s => optD lo fun l => optD hi fun h =>
        .req (0 ≤ l.getD 0 ∧ l.getD 0 ≤ h.getD s.size ∧ h.getD s.size ≤ (s.size : Int)) (done o (.str (s.extract (l.getD 0).toNat (h.getD s.size).toNat)) [])
      | _ => .fail
    | .sl e =>
      match tlook T e with
      | some j => opd x fun
        | .fsl sz rows => optD lo fun l => optD hi fun h =>
          .req (sz = j.sz ∧ 0 ≤ l.getD 0 ∧ l.getD 0 ≤ h.getD rows.length ∧ h.getD rows.length ≤ (rows.length : Int)) (done o (.fsl sz ((rows.take (h.getD rows.length).toNat).drop (l.getD 0).toNat)) [])
        | .osl id ver =>
          match lo, o.dst with
          | none, some n => optD hi fun h => .look id fun
            | some b => .req (b.ver = ver ∧ b.mt = true ∧ b.box = false ∧ b.sz = j.sz ∧ 0 ≤ h.getD b.rows.length ∧ h.getD b.rows.length ≤ (b.rows.length : Int))
                (.ret [.ob id { b with ver := ver + 1, rows := b.rows.take (h.getD b.rows.length).toNat }, .slot n (.osl id (ver + 1))])
            | none => .fail
          | _, _ => .fail
        | _ => .fail
      | none => .fail
    | _ => .fail
  | _, _ => .fail

/-! ### All operations -/

def aCall (T : Tab) (o : Oper) (c : Call) : AR :=
  match c.callee with
  | .builtin b =>
    match b, c.args.toList, c.argTypes.toList with
    | .len, [x], [t] => aLen T o t x
    | .append, [x, y], [t, u] => if t = u then aAppend T o t x y else .fail
    | .min, [x, y], _ => aMinMax o false x y
    | .max, [x, y], _ => aMinMax o true x y
    | _, _, _ => .fail
  | .value f => opd f fun
    | .fn g caps => opds c.args.toList fun ds => aCallX T o g (ds ++ caps)
    | _ => .fail
  | .invoke _ _ => .fail

def aop (T : Tab) (o : Oper) : AR :=
  match o.op with
  | .move x => opd x fun d => done o d []
  | .assign x => opd x fun d => done o d []
  | .pick c x y => aPick o c x y
  | .alloc t => aAlloc T o t
  | .box t x => opd x fun d => aBox o t (cellsOf d)
  | .build t parts => aBuild T o t parts.toList
  | .buildSlice t len parts => aBuildSlice T o t len parts.toList
  | .load t x => aLoad T o t x
  | .store t x y => match o.dst with
    | none => aStore T t x y
    | some _ => .fail
  | .nilCheck x => aNil o x
  | .binOp op t x y _ => aBin T o op t x y
  | .unOp op _ x => aUn o op x
  | .convert src dst x => aConv T o src dst x
  | .makeFunc (.func f) first caps => if first.size = 0 then aMakeFunc o f caps.toList else .fail
  | .makeSlice t l c => aMakeSlice T o t l c
  | .slice t x lo hi mx => aSlice T o t x lo hi mx
  | .fieldAddr t x f => aFieldAddr T o t x f
  | .field t x f => aField T o t x f
  | .indexAddr t x ix => aIndexAddr T o t x ix
  | .index t x ix => aIndexS T o t x ix
  | .extract x i => aExtract o x i
  | .call c => aCall T o c
  | _ => .fail

end Go.Abs
/- Literals, makes, cuts: that they are right; and the master statement on operations. -/
namespace Go.Abs
open Go Go.RowKit

section
variable {P : Program} {C : Cons} {T : Tab} {w w' w0 : World} {Z0 : Nat → Prop} {φ : Nat → Value} {s : AS} {a : Act} {o : Oper} {K : Act → World → Prop} {Q : Exit → Act → World → Prop} {ups : List Upd} {R : List Loc}

theorem wp_makeFunc {f : FuncId} {first caps : Array Operand} (ho : o.op = .makeFunc (.func f) first caps) (h0 : first.size = 0) (hR : RelF w0 Z0 φ s a w) (hd : ∀ n, o.dst = some n → n < s.nt) (h : (aMakeFunc o f caps.toList).Ev C s ups R) (hK : ∀ a' w', Rel w0 Z0 (s.app ups) a' w' → K a' w') : o.wp P a w K Q := by
  obtain ⟨ds, R1, hl, hds, g⟩ := opds_ev hR h
  have hf : first = #[] := Array.eq_empty_of_size_eq_zero h0
  refine wp_value (v := .func (.func f) #[] (caps.map a.eval)) (w' := w) (by simp [execOp, ho, hf, Instr.makeFunc]) (hK _ _ ⟨φ, rel_done hR hd (.fn f ds _ (by simp [hl]) (fun i hi => ?_)) g⟩)
  have := hds i (by omega)
  rwa [← arr_getD, ← List.map_toArray, Array.toArray_toList] at this

theorem zeroB_enc {Z : Nat → Prop} {E : Nat → Nat → Value → Prop} {F : Nat → Nat → Nat → Nat → Value → Prop} {v : Value} {d : D} (h : zeroB v d = true) : Enc w Z E F d v ∧ v.oneCell' = true := by
  unfold zeroB at h
  split at h
  · rename_i k n k' n'
    simp only [Bool.and_eq_true, beq_iff_eq] at h
    obtain ⟨⟨rfl, rfl⟩, rfl⟩ := h
    refine ⟨.int _ _ ?_, rfl⟩
    cases k <;> simp [IntKind.has, IntKind.min, IntKind.max, IntKind.bits, IntKind.signed]
  · exact ⟨.bool _, rfl⟩
  · rename_i s t
    simp only [Bool.and_eq_true, beq_iff_eq] at h
    obtain ⟨h1, h2⟩ := h
    have : s = t := by cases s; cases t; simp_all
    subst this
    have hz : s.size = 0 := by show s.data.size = 0; rw [h1]; try rfl
    exact ⟨.str _ (by rw [hz]; simp [lim]), rfl⟩
  · exact ⟨.nil, rfl⟩
  · cases h

theorem zerosB_enc {Z : Nat → Prop} {E : Nat → Nat → Value → Prop} {F : Nat → Nat → Nat → Nat → Value → Prop} : ∀ {vs : List Value} {ds : List D}, zerosB vs ds = true → ∀ i, i < ds.length → Enc w Z E F (getC ds i) (vs.getD i Go.undef) ∧ (vs.getD i Go.undef).oneCell' = true
  | [], [], _, i, hi => absurd hi (by simp)
  | v :: vs, d :: ds, h, i, hi => by
    simp only [zerosB, Bool.and_eq_true] at h
    cases i with
    | zero => simpa [getC] using zeroB_enc h.1
    | succ i => simpa [getC] using zerosB_enc h.2 i (by simpa using hi)
  | [], _ :: _, h, _, _ => by cases h
  | _ :: _, [], h, _, _ => by cases h

theorem foldl_cells (off : Nat) : ∀ (vs : List Value) (k : Nat) (cs : Array Value),
    ((vs.zipIdx k).foldl (fun cs (c : Value × Nat) => cs.setIfInBounds (off + c.2) c.1) cs).size = cs.size ∧
    (off + k + vs.length ≤ cs.size → ((vs.zipIdx k).foldl (fun cs (c : Value × Nat) => cs.setIfInBounds (off + c.2) c.1) cs).toList = cs.toList.take (off + k) ++ vs ++ cs.toList.drop (off + k + vs.length))
  | [], k, cs => ⟨rfl, fun _ => by simp⟩
  | v :: r, k, cs => by
    obtain ⟨h1, h2⟩ := foldl_cells off r (k + 1) (cs.setIfInBounds (off + k) v)
    simp only [List.zipIdx_cons, List.foldl_cons]
    refine ⟨by rw [h1]; simp, fun hl => ?_⟩
    simp only [List.length_cons] at hl
    rw [h2 (by simp; omega)]
    have e := list_seg_step cs.toList (off + k) v r (by simp; omega)
    simp only [Array.toList_setIfInBounds]
    rw [show off + (k + 1) = off + k + 1 by omega]
    rw [e]
    simp

/-- Parts are laid into cells. -/
theorem fill_enc {R0 : D → Value → Prop} {fs : List (Nat × TypeId)} {place : Nat → Option (Nat × Nat)} (hp : ∀ f p i, fs[f]? = some p → tlook T p.2 = some i → place f = some (p.1, i.sz)) :
    ∀ (fi : List Nat) (ds : List D) (vs : List Value) (cellsD : List D) (cellsV : Array Value) (cs : List D), buildC T fs fi ds cellsD = some cs → vs.length = fi.length → ds.length = fi.length →
      (∀ i, i < ds.length → ∀ l, cellsOf (getC ds i) = some l → (vs.getD i Go.undef).cells.size = l.length ∧ ∀ j, j < l.length → R0 (getC l j) ((vs.getD i Go.undef).cells.getD j Go.undef) ∧ ((vs.getD i Go.undef).cells.getD j Go.undef).oneCell' = true) →
      cellsV.size = cellsD.length → (∀ i, i < cellsD.length → R0 (getC cellsD i) (cellsV.getD i Go.undef) ∧ (cellsV.getD i Go.undef).oneCell' = true) →
      ∃ out, Instr.fill place cellsV (fi.zip vs) = some out ∧ out.size = cs.length ∧ ∀ i, i < cs.length → R0 (getC cs i) (out.getD i Go.undef) ∧ (out.getD i Go.undef).oneCell' = true
  | [], ds, vs, cellsD, cellsV, cs, h, hv, hd, hds, hs, hc => by
    simp only [buildC, Option.some.injEq] at h
    subst h
    exact ⟨cellsV, by simp [Instr.fill], hs, hc⟩
  | f :: fi, [], vs, cellsD, cellsV, cs, h, hv, hd, hds, hs, hc => by simp at hd
  | f :: fi, d :: ds, [], cellsD, cellsV, cs, h, hv, hd, hds, hs, hc => by simp at hv
  | f :: fi, d :: ds, v :: vs, cellsD, cellsV, cs, h, hv, hd, hds, hs, hc => by
    simp only [buildC] at h
    split at h
    · rename_i d2 ds2 p e1 e2
      cases e1
      split at h
      · rename_i i l hi hl
        split at h
        · rename_i hcond
          have h0 := hds 0 (by simp) l (by simpa [getC] using hl)
          simp only [List.getD_cons_zero] at h0
          obtain ⟨hz, hcell⟩ := h0
          have hfit : p.1 + v.cells.size ≤ cellsV.size := by omega
          obtain ⟨q1, q2⟩ := foldl_cells p.1 v.cells.toList 0 cellsV
          have q3 := q2 (by simpa using hfit)
          have hfold : (v.cells.zipIdx.foldl (fun cs (c : Value × Nat) => cs.setIfInBounds (p.1 + c.2) c.1) cellsV) = (v.cells.toList.zipIdx.foldl (fun cs (c : Value × Nat) => cs.setIfInBounds (p.1 + c.2) c.1) cellsV) := by
            rw [← Array.foldl_toList]; congr 1; simp
          have hstep : Instr.fill place cellsV ((f, v) :: fi.zip vs) = Instr.fill place (v.cells.zipIdx.foldl (fun cs (c : Value × Nat) => cs.setIfInBounds (p.1 + c.2) c.1) cellsV) (fi.zip vs) := by
            simp only [Instr.fill, hp f p i e2 hi]
            have hc1 := hcond.1
            have hcnd : ¬ (v.cells.size ≠ i.sz ∨ p.1 + v.cells.size > cellsV.size) := by
              rintro (h | h)
              · exact h (by omega)
              · omega
            rw [if_neg (by simpa using hcnd)]
          rw [show (f :: fi).zip (v :: vs) = (f, v) :: fi.zip vs from rfl, hstep, hfold]
          generalize hA : (v.cells.toList.zipIdx.foldl (fun cs (c : Value × Nat) => cs.setIfInBounds (p.1 + c.2) c.1) cellsV) = A at *
          refine fill_enc hp fi ds vs (splice cellsD p.1 l) A cs h (by simpa using hv) (by simpa using hd) (fun k hk l2 hl2 => ?_) (by rw [q1, splice_len _ _ _ hcond.2, hs]) (fun k hk => ?_)
          · have := hds (k + 1) (by simpa using hk) l2 (by simpa [getC] using hl2)
            simpa using this
          · rw [splice_len _ _ _ hcond.2] at hk
            have e3 := splice_get cellsD l p.1 k hcond.2
            have e4 := splice_get cellsV.toList v.cells.toList p.1 k (by simpa using hfit)
            simp only [Nat.add_zero] at q3
            rw [← q3] at e4
            rw [← toList_getD]
            by_cases c1 : k < p.1
            · rw [if_pos c1] at e3 e4
              rw [show getC (splice cellsD p.1 l) k = getC cellsD k from getD_of_get _ _ _ _ _ e3, getD_of_get _ _ _ _ _ e4, toList_getD]
              exact hc k hk
            · rw [if_neg c1] at e3 e4
              have hvl : v.cells.toList.length = l.length := by simpa using hz
              by_cases c2 : k < p.1 + l.length
              · rw [if_pos c2] at e3
                rw [if_pos (by omega)] at e4
                rw [show getC (splice cellsD p.1 l) k = getC l (k - p.1) from getD_of_get _ _ _ _ _ e3, getD_of_get _ _ _ _ _ e4, toList_getD]
                exact hcell (k - p.1) (by omega)
              · rw [if_neg c2] at e3
                rw [if_neg (by omega)] at e4
                rw [show getC (splice cellsD p.1 l) k = getC cellsD k from getD_of_get _ _ _ _ _ e3, getD_of_get _ _ _ _ _ e4, toList_getD]
                exact hc k hk
        · cases h
      · cases h
    · cases h

def szOf (T : Tab) (t : TypeId) : Nat := ((tlook T t).map (·.sz)).getD 0

theorem places_of (hT : TOk P T) : ∀ (L : List Field), (∀ f ∈ L, (tlook T f.type).isSome = true) → (L.mapM fun f => (P.info? f.type).map fun i => (f.offset, i.size)) = some (L.map fun f => (f.offset, szOf T f.type))
  | [], _ => by simp
  | f :: L, h => by
    obtain ⟨i, hi⟩ := Option.isSome_iff_exists.1 (h f (by simp))
    obtain ⟨info, _, q1, _, q3, _⟩ := (hT.ok hi).ex
    simp [List.mapM_cons, q1, q3, places_of hT L (fun f hf => h f (by simp [hf])), szOf, hi]

theorem wp_build (hT : TOk P T) {t : TypeId} {parts : Array (Nat × Operand)} (ho : o.op = .build t parts) (hR : RelF w0 Z0 φ s a w) (hd : ∀ n, o.dst = some n → n < s.nt) (h : (aBuild T o t parts.toList).Ev C s ups R) (hK : ∀ a' w', Rel w0 Z0 (s.app ups) a' w' → K a' w') : o.wp P a w K Q := by
  unfold aBuild at h
  split at h
  · rename_i i hi
    split at h
    · rename_i fs z hfs hz
      split at h
      · rename_i hcond
        obtain ⟨hzl, hall⟩ := hcond
        obtain ⟨info, dd, q1, q2, q3, q4, q5, q6⟩ := (hT.ok hi).ex
        rw [hfs] at q5
        obtain ⟨l, rfl, hl⟩ := tdB_st q5
        obtain ⟨zv, hzv, hzb⟩ := q6 z hz
        obtain ⟨ds, R1, hdl, hds, h⟩ := opds_ev hR h
        split at h
        · rename_i cs hcs
          have hm := places_of (P := P) hT l.toList (fun f hf => by
            rw [← hl] at hall
            simp only [List.all_map, List.all_eq_true] at hall
            exact hall f hf)
          have hplace : ∀ (f : Nat) (p : Nat × TypeId) (i : TI), fs[f]? = some p → tlook T p.2 = some i → ((l.toList.map fun f => (f.offset, szOf T f.type)).toArray[f]?) = some (p.1, i.sz) := fun f p i h1 h2 => by
            rw [← hl, List.getElem?_map] at h1
            cases hq : l.toList[f]? with
            | none => rw [hq] at h1; cases h1
            | some fld =>
              rw [hq] at h1; cases h1
              simp [hq, szOf, h2]
          have hlen := zerosB_len hzb
          obtain ⟨out, hout, hos, henc⟩ := fill_enc (T := T) (R0 := EncS w Z0 s.ob φ) hplace (parts.toList.map (·.1)) ds (parts.toList.map fun x => a.eval x.2) z zv.cells cs hcs (by simp) (by simpa using hdl)
            (fun k hk l2 hl2 => by
              have := hds k (by rw [← hdl]; exact hk)
              rw [List.map_map] at this
              exact cells_enc this hl2)
            (by simpa using hlen) (fun k hk => by
              have := zerosB_enc (w := w) (Z := ZZ Z0 s.ob φ) (E := oslE s.ob φ) (F := ptrF s.ob φ) hzb k hk
              rwa [toList_getD] at this)
          have hzip : (parts.toList.map (·.1)).zip (parts.toList.map fun x => a.eval x.2) = (parts.map fun x => (x.1, a.eval x.2)).toList := by
            rw [List.zip_map', Array.toList_map]
          rw [hzip] at hout
          have hbuilt : P.built t (parts.map fun x => (x.1, a.eval x.2)).toList = some out := by
            simp only [Program.built, q1, q2, hzv, hm]
            exact hout
          refine wp_value (v := .agg out) (w' := w) (by simp only [execOp, ho, Sem.run_bind, run_build w t _ out hbuilt, Result.andThen_ok]; rfl) (hK _ _ ⟨φ, rel_done hR hd (.agg cs out hos (fun k hk => (henc k hk).2) (fun k hk => (henc k hk).1)) h⟩)
        · exact h.elim
      · exact h.elim
    · exact h.elim
  · exact h.elim

theorem wp_alloc (hT : TOk P T) {t : TypeId} (ho : o.op = .alloc t) (hR : RelF w0 Z0 φ s a w) (hd : ∀ n, o.dst = some n → n < s.nt) (h : (aAlloc T o t).Ev C s ups R) (hK : ∀ a' w', Rel w0 Z0 (s.app ups) a' w' → K a' w') : o.wp P a w K Q := by
  unfold aAlloc at h
  split at h
  · rename_i i hi
    obtain ⟨info, dd, q1, q2, q3, q4, q5, q6⟩ := (hT.ok hi).ex
    cases hz : i.zero with
    | none => rw [hz] at h; unfold aBox at h; exact h.elim
    | some z =>
      rw [hz] at h
      obtain ⟨zv, hzv, hzb⟩ := q6 z hz
      have hlen := zerosB_len hzb
      have he : EncS w Z0 s.ob φ (.agg z) (.agg zv.cells) := .agg z zv.cells (by simpa using hlen) (fun k hk => by
          have := zerosB_enc (w := w) (Z := ZZ Z0 s.ob φ) (E := oslE s.ob φ) (F := ptrF s.ob φ) hzb k hk
          rw [toList_getD] at this; exact this.2) (fun k hk => by
          have := zerosB_enc (w := w) (Z := ZZ Z0 s.ob φ) (E := oslE s.ob φ) (F := ptrF s.ob φ) hzb k hk
          rw [toList_getD] at this; exact this.1)
      have := snd_box hR hd (ty := t) he (ups := ups) (R := R) h
      exact wp_value (by simp [execOp, ho, Instr.alloc, zeroValue, typeInfo, q1, hzv, newVar, newRow]; rfl) (hK _ _ this)
  · exact h.elim

theorem wp_box {t : TypeId} {x : Operand} (ho : o.op = .box t x) (hR : RelF w0 Z0 φ s a w) (hd : ∀ n, o.dst = some n → n < s.nt) (h : (opd x fun d => aBox o t (cellsOf d)).Ev C s ups R) (hK : ∀ a' w', Rel w0 Z0 (s.app ups) a' w' → K a' w') : o.wp P a w K Q := by
  obtain ⟨d, R1, he, h⟩ := opd_ev hR h
  exact wp_value (v := .pointer (some ⟨w.heap.size, 0, none⟩)) (w' := w.alloc (.cells (a.eval x).cells t)) (by simp [execOp, ho, Instr.box, newVar, newRow]) (hK _ _ (snd_box hR hd he h))

theorem madeCells_get (z : Array Value) (n i : Nat) (hi : i < n) (hz : 0 < z.size) : (madeCells z n).getD i Go.undef = z.getD (i % z.size) Go.undef := by
  have h1 : i % z.size < z.size := Nat.mod_lt _ hz
  simp [madeCells, Array.getD_eq_getD_getElem?, hi, getElem!_pos z (i % z.size) h1, h1]

theorem wp_makeSlice (hT : TOk P T) {t : TypeId} {l c : Operand} (ho : o.op = .makeSlice t l c) (hR : RelF w0 Z0 φ s a w) (hd : ∀ n, o.dst = some n → n < s.nt) (h : (aMakeSlice T o t l c).Ev C s ups R) (hK : ∀ a' w', Rel w0 Z0 (s.app ups) a' w' → K a' w') : o.wp P a w K Q := by
  obtain ⟨e, j, z, ⟨info, zv, q1, q2, q3, q4, q5, q6, q7, q8⟩, h⟩ := madeT_ev hT h
  obtain ⟨d, R1, he, g⟩ := opd_ev hR h
  clear h
  obtain ⟨d2, R2, he2, h⟩ := opd_ev hR g
  clear g
  generalize hx : a.eval l = xv at he
  generalize hy : a.eval c = yv at he2
  split at h
  · rename_i _ _ _ kl n kc m k hk
    cases he
    cases he2
    obtain ⟨⟨rfl, h0, h1, h2, hpc⟩, h⟩ := h
    obtain ⟨ver, R3, hver, rfl, _⟩ := bump_ev h
    have hr := run_make (P := P) w t e info zv q1 q2 q3 kl kc n n h0 (Int.le_refl _) (by rw [q7]; omega) (by omega)
    refine wp_value (by simp only [execOp, ho, hx, hy, Sem.run_bind, hr, Result.andThen_ok]; rfl) (hK _ _ ?_)
    have hlen := zerosB_len q8
    have hn : n.toNat ≤ lim := by unfold lim; omega
    have hzp : 0 < zv.cells.size := by omega
    have hown : (w.alloc (.cells (madeCells zv.cells (n.toNat * info.size)) e)).ownsRow w0.heap.size e j.sz (.slice (some ⟨w.heap.size, 0, none⟩) n.toNat n.toNat) n.toNat (madeCells zv.cells (n.toNat * info.size)).toList :=
      owns_new (heap_alloc_new w _) hR.below.size (by simp [size_madeCells, q6]) (Nat.le_refl _) (maxLen_big hn) (by simp [size_madeCells, q6]) (by
        rw [← q6]
        exact List.take_of_length_le (by simp [size_madeCells]))
    have henc : RowsEnc (EncS w Z0 s.ob φ) j.sz (List.replicate n.toNat z) (madeCells zv.cells (n.toNat * info.size)).toList := by
      have hsz : zv.cells.size = j.sz := by omega
      refine ⟨by simp [size_madeCells, q6], fun r hr => ?_, fun i q hi hq => ?_, fun x hx => ?_, by simpa using hn⟩
      · rw [List.eq_of_mem_replicate hr]; simp at hlen; omega
      · simp only [List.length_replicate] at hi
        have hlt := mul_lt hi hq
        rw [toList_getD, madeCells_get _ _ _ (by rw [q6]; exact hlt) hzp, hsz, Nat.mul_comm i, Nat.mul_add_mod, Nat.mod_eq_of_lt hq]
        have e1 : getR (List.replicate n.toNat z) i = z := by
          simp only [getR, List.getD_eq_getElem?_getD, List.getElem?_replicate, hi, if_true]; rfl
        rw [e1]
        have := (zerosB_enc (w := w) (Z := ZZ Z0 s.ob φ) (E := oslE s.ob φ) (F := ptrF s.ob φ) q8 q (by simp at hlen; omega)).1
        rwa [toList_getD] at this
      · obtain ⟨i, hi, rfl⟩ := List.getElem_of_mem hx
        have hi2 : i < n.toNat * info.size := by simpa [size_madeCells] using hi
        have hm : i % zv.cells.size < z.length := by
          have := Nat.mod_lt i hzp
          simp at hlen; omega
        have := (zerosB_enc (w := w) (Z := ZZ Z0 s.ob φ) (E := oslE s.ob φ) (F := ptrF s.ob φ) q8 _ hm).2
        rw [toList_getD, ← madeCells_get _ _ _ hi2 hzp, ← toList_getD, List.getD_eq_getElem?_getD, List.getElem?_eq_getElem hi] at this
        exact this
    rw [hk]
    exact rel_own (o := ⟨ver, true, false, j.sz, e, List.replicate n.toNat z⟩) hR rfl (Turns.alloc hver (World.grownBy_alloc w _ none) (fun b hb => by simp [blk] at hb; omega)) (fun r hr d hd => hpc d (by rw [← List.eq_of_mem_replicate hr]; exact hd)) henc (by simpa using hown) (hd k hk)
  · exact h.elim

end
end Go.Abs
/- Slice literals and cuts; all operations together. -/
namespace Go.Abs
open Go Go.RowKit

theorem fill_rows (sz : Nat) : ∀ (vs : List Value) (k : Nat) (cells : Array Value), (∀ v ∈ vs, v.cells.size = sz) → (k + vs.length) * sz ≤ cells.size →
    ∃ out, Instr.fill (fun i => some (i * sz, sz)) cells ((List.range' k vs.length).zip vs) = some out ∧ out.toList = cells.toList.take (k * sz) ++ vs.flatMap (fun v => v.cells.toList) ++ cells.toList.drop ((k + vs.length) * sz)
  | [], k, cells, _, _ => ⟨cells, by simp [Instr.fill], by simp⟩
  | v :: vs, k, cells, hv, hl => by
    have hz := hv v (by simp)
    simp only [List.length_cons] at hl
    have e1 : (k + (vs.length + 1)) * sz = k * sz + sz + vs.length * sz := by rw [Nat.add_mul, Nat.add_mul, Nat.one_mul]; omega
    have e2 : (k + 1) * sz = k * sz + sz := by rw [Nat.add_mul, Nat.one_mul]
    have hfit : k * sz + v.cells.size ≤ cells.size := by rw [e1] at hl; omega
    obtain ⟨q1, q2⟩ := foldl_cells (k * sz) v.cells.toList 0 cells
    have q3 := q2 (by simpa using hfit)
    have hfold : (v.cells.zipIdx.foldl (fun cs (c : Value × Nat) => cs.setIfInBounds (k * sz + c.2) c.1) cells) = (v.cells.toList.zipIdx.foldl (fun cs (c : Value × Nat) => cs.setIfInBounds (k * sz + c.2) c.1) cells) := by
      rw [← Array.foldl_toList]; congr 1; simp
    generalize hA : (v.cells.toList.zipIdx.foldl (fun cs (c : Value × Nat) => cs.setIfInBounds (k * sz + c.2) c.1) cells) = A at *
    obtain ⟨out, h1, h2⟩ := fill_rows sz vs (k + 1) A (fun x hx => hv x (by simp [hx])) (by rw [q1, show k + 1 + vs.length = k + (vs.length + 1) by omega]; exact hl)
    refine ⟨out, ?_, ?_⟩
    · rw [List.length_cons, List.range'_succ, List.zip_cons_cons]
      simp only [Instr.fill]
      have hcnd : ¬ (v.cells.size ≠ sz ∨ k * sz + v.cells.size > cells.size) := by
        rintro (h | h)
        · exact h hz
        · omega
      rw [if_neg (by simpa using hcnd), hfold]
      exact h1
    · rw [h2, q3]
      have hvl : v.cells.toList.length = sz := by simpa using hz
      have ht : (cells.toList.take (k * sz)).length = k * sz := by simp; omega
      simp only [Nat.add_zero]
      have g1 : (cells.toList.take (k * sz) ++ v.cells.toList ++ cells.toList.drop (k * sz + v.cells.toList.length)).take ((k + 1) * sz) = cells.toList.take (k * sz) ++ v.cells.toList := by
        rw [e2]
        have : (cells.toList.take (k * sz) ++ v.cells.toList).length = k * sz + sz := by rw [List.length_append, ht, hvl]
        rw [← this]
        exact List.take_left
      have g2 : (cells.toList.take (k * sz) ++ v.cells.toList ++ cells.toList.drop (k * sz + v.cells.toList.length)).drop ((k + 1 + vs.length) * sz) = cells.toList.drop ((k + (vs.length + 1)) * sz) := by
        have : (k + 1 + vs.length) * sz = (cells.toList.take (k * sz) ++ v.cells.toList).length + vs.length * sz := by
          rw [List.length_append, ht, hvl, show k + 1 + vs.length = k + (vs.length + 1) by omega, e1]
        rw [this, List.drop_append, List.drop_of_length_le (by omega), List.nil_append, Nat.add_sub_cancel_left, List.drop_drop, hvl, e1]
      rw [g1, g2]
      simp

section
variable {P : Program} {T : Tab} {w w' w0 : World} {Z0 : Nat → Prop} {φ : Nat → Value} {s : AS} {a : Act} {o : Oper} {K : Act → World → Prop} {Q : Exit → Act → World → Prop} {ups : List Upd} {R : List Loc}

theorem rows_of_cells {ob : Obs} {sz : Nat} : ∀ {ds : List D} {vs : List Value} {rows : List (List D)}, cellsAll sz ds = some rows → vs.length = ds.length → (∀ i, i < ds.length → EncS w Z0 ob φ (getC ds i) (vs.getD i Go.undef)) → ds.length ≤ lim →
    rows.length = ds.length ∧ (∀ v ∈ vs, v.cells.size = sz) ∧ RowsEnc (EncS w Z0 ob φ) sz rows (vs.flatMap fun v => v.cells.toList)
  | [], vs, rows, h, hl, _, _ => by
    simp only [cellsAll, Option.some.injEq] at h
    subst h
    obtain rfl : vs = [] := List.eq_nil_of_length_eq_zero hl
    exact ⟨rfl, by simp, rowsEnc_nil⟩
  | d :: ds, [], rows, h, hl, _, _ => by simp at hl
  | d :: ds, v :: vs, rows, h, hl, he, hlim => by
    simp only [cellsAll] at h
    split at h
    · rename_i cs l hcs hl2
      split at h
      · rename_i hsz
        cases h
        obtain ⟨i1, i2, i3⟩ := rows_of_cells hl2 (by simpa using hl) (fun i hi => by simpa [getC] using he (i + 1) (by simpa using hi)) (by simp at hlim; omega)
        obtain ⟨c1, c2⟩ := cells_enc (by simpa [getC] using he 0 (by simp)) hcs
        refine ⟨by simp [i1], fun x hx => ?_, ?_⟩
        · rcases List.mem_cons.1 hx with rfl | hx
          · omega
          · exact i2 x hx
        · have one : RowsEnc (EncS w Z0 ob φ) sz [cs] v.cells.toList := by
            refine ⟨by simp; omega, by simp [hsz], fun i j hi hj => ?_, fun x hx => ?_, by simp [lim]⟩
            · obtain rfl : i = 0 := by simpa using hi
              simp only [Nat.zero_mul, Nat.zero_add, toList_getD]
              exact (c2 j (by omega)).1
            · obtain ⟨q, hq, rfl⟩ := List.getElem_of_mem hx
              have := (c2 q (by simp at hq; omega)).2
              rwa [← toList_getD, List.getD_eq_getElem?_getD, List.getElem?_eq_getElem hq] at this
          have := rows_append one i3 (by simp at hlim ⊢; omega)
          simpa using this
      · cases h
    · cases h

theorem resRows_ev {C : Cons} (hR : RelF w0 Z0 φ s a w) : ∀ {rows : List (List D)} {k : List (List D) → List Nat → AR} {ups : List Upd} {R : List Loc}, (resRows rows k).Ev C s ups R →
    ∃ rows' ids R', (k rows' ids).Ev C s ups R' ∧ rows'.length = rows.length ∧ (∀ i, i < rows.length → (getR rows' i).length = (getR rows i).length) ∧ (∀ r ∈ rows', ∀ d ∈ r, D.pc d = true) ∧
      ∀ (i j : Nat) (v : Value) (Z' : Nat → Prop) (E : Nat → Nat → Value → Prop) (F : Nat → Nat → Nat → Nat → Value → Prop), i < rows.length → j < (getR rows i).length → EncS w Z0 s.ob φ (getC (getR rows i) j) v → Avoids s Z0 φ w ids Z' → Enc w Z' E F (getC (getR rows' i) j) v
  | [], k, ups, R, h => ⟨[], [], R, h, rfl, by simp, by simp, by simp⟩
  | r :: l, k, ups, R, h => by
    obtain ⟨r', i1, R1, h1, hl1, hp1, he1⟩ := resCells_ev hR h
    obtain ⟨l', i2, R2, h2, hl2, hr2, hp2, he2⟩ := resRows_ev hR h1
    refine ⟨_, _, R2, h2, by simp [hl2], fun i hi => ?_, fun x hx => ?_, fun i j v Z' E F hi hj hd ha => ?_⟩
    · cases i with
      | zero => exact hl1
      | succ i => exact hr2 i (by simpa using hi)
    · rcases List.mem_cons.1 hx with rfl | hx
      · exact hp1
      · exact hp2 x hx
    · cases i with
      | zero => exact he1 j v Z' E F hj hd (ha.sub (fun i hi => by simp [hi]))
      | succ i => exact he2 i j v Z' E F (by simpa using hi) hj hd (ha.sub (fun i hi => by simp [hi]))

theorem wp_buildSlice {C : Cons} (hT : TOk P T) {t : TypeId} {len : Nat} {parts : Array (Nat × Operand)} (ho : o.op = .buildSlice t len parts) (hR : RelF w0 Z0 φ s a w) (hd : ∀ n, o.dst = some n → n < s.nt) (h : (aBuildSlice T o t len parts.toList).Ev C s ups R) (hK : ∀ a' w', Rel w0 Z0 (s.app ups) a' w' → K a' w') : o.wp P a w K Q := by
  obtain ⟨e, j, z, ⟨info, zv, q1, q2, q3, q4, q5, q6, q7, q8⟩, h⟩ := madeT_ev hT h
  split at h
  · rename_i hcond
    obtain ⟨hidx, hmax⟩ := hcond
    obtain ⟨ds, R1, hdl, hds, h⟩ := opds_ev hR h
    split at h
    · rename_i rows n hrows hn
      have hpl : parts.toList.length = len := by
        have := congrArg List.length hidx
        simpa using this
      have hll : ds.length = len := by rw [hdl]; simp [hpl]
      have hlim : len ≤ lim := by
        have : len * 1 ≤ len * j.sz := Nat.mul_le_mul_left _ (by omega)
        unfold lim; omega
      obtain ⟨g1, g2, g3⟩ := rows_of_cells (vs := parts.toList.map fun x => a.eval x.2) hrows (by simp [hll, hpl]) (fun i hi => by
        have := hds i (by rw [← hdl]; exact hi)
        rwa [List.map_map] at this) (by omega)
      obtain ⟨rows', ids, R2, h2, r1, r2, r3, r4⟩ := resRows_ev hR h
      clear h
      obtain ⟨us, R3, h, hfrz, hR1⟩ := frz_ev hR h2
      clear h2
      obtain ⟨ver, R4, hver, rfl, _⟩ := bump_ev h
      have hav := hfrz.avoids hR
      -- the memory
      generalize hvs : (parts.toList.map fun x => a.eval x.2) = vs at *
      have hvl : vs.length = len := by rw [← hvs]; simp [hpl]
      have hz0 : (if len * info.size = 0 then (pure #[] : Sem (Array Value)) else do pure (← zeroValue e).cells).run P w = .ok (if len * info.size = 0 then #[] else zv.cells) w := by
        by_cases c : len * info.size = 0 <;> simp [c, zeroValue, typeInfo, q2, q3]
      obtain ⟨out, f1, f2⟩ := fill_rows info.size vs 0 ((Array.range (len * info.size)).map fun i => (if len * info.size = 0 then #[] else zv.cells)[i % (if len * info.size = 0 then #[] else zv.cells).size]!) (fun v hv => by rw [q6]; exact g2 v hv) (by simp [hvl])
      have hzip : (List.range' 0 vs.length).zip vs = (parts.map fun x => (x.1, a.eval x.2)).toList := by
        rw [hvl, ← List.range_eq_range', ← hidx, ← hvs, List.zip_map', Array.toList_map]
      rw [hzip] at f1
      have hrun : (Instr.buildSlice t len (parts.map fun x => (x.1, a.eval x.2))).run P w = .ok (.slice (some ⟨w.heap.size, 0, none⟩) len len) (w.alloc (.cells out e)) := by
        have hbig : ¬ (len * info.size > 2 ^ 24) := by rw [q6]; omega
        have hS : (sizeOf e).run P w = .ok info.size w := by simp [sizeOf, typeInfo, q2]
        by_cases c : len * info.size = 0
        · have f1' : Instr.fill (fun i => some (i * info.size, info.size)) (Array.map (fun _ => (default : Value)) (Array.range 0)) (parts.toList.map fun x => (x.1, a.eval x.2)) = some out := by
            simpa [c] using f1
          simp [Instr.buildSlice, run_underlying q1, hS, c, newRow, f1']
        · have f1' : Instr.fill (fun i => some (i * info.size, info.size)) (Array.map (fun x => zv.cells[x % zv.cells.size]!) (Array.range (len * info.size))) (parts.toList.map fun x => (x.1, a.eval x.2)) = some out := by
            simpa [c] using f1
          have hb2 : ¬ (16777216 < len * info.size) := by omega
          simp [Instr.buildSlice, run_underlying q1, hS, c, hb2, zeroValue, typeInfo, q2, q3, newRow, f1']
      refine wp_value (v := .slice (some ⟨w.heap.size, 0, none⟩) len len) (w' := w.alloc (.cells out e)) (by simp only [execOp, ho, Sem.run_bind, hrun, Result.andThen_ok]; rfl) (hK _ _ ?_)
      rw [AS.app_append, hn]
      have hout : out.toList = vs.flatMap fun v => v.cells.toList := by
        rw [f2]; simp [hvl]
      have hol : out.size = len * info.size := by
        have := g3.len
        rw [g1, hll, ← hout] at this
        simpa [q6] using this
      have hxs : RowsEnc (EncS w Z0 (s.app us).ob φ) j.sz rows' out.toList := by
        refine ⟨by rw [r1, hout]; exact g3.len, fun r hr => ?_, fun i q hi hq => ?_, by rw [hout]; exact g3.one, by rw [r1]; exact g3.lim⟩
        · obtain ⟨i, hi, rfl⟩ := List.getElem_of_mem hr
          have e1 : getR rows' i = rows'[i] := by simp only [getR, List.getD_eq_getElem?_getD, List.getElem?_eq_getElem hi]; rfl
          rw [← e1, r2 i (by omega)]
          exact g3.row _ (getR_mem (by omega))
        · have hrl : (getR rows i).length = j.sz := g3.row _ (getR_mem (by omega))
          exact r4 i q _ _ _ _ (by omega) (by omega) (by rw [hout]; exact g3.enc i q (by omega) hq) hav
      have hver' : ∀ o1, look (s.app us).ob (n * 100) = some o1 → o1.ver < ver := fun o1 h1 => by
        by_cases hm : n * 100 ∈ ids
        · obtain ⟨b, e1, e2⟩ := hfrz.froz _ hm
          rw [e2] at h1; cases h1
          exact hver b e1
        · exact hver o1 ((hfrz.same _ hm).symm.trans h1)
      have hown : (w.alloc (.cells out e)).ownsRow w0.heap.size e j.sz (.slice (some ⟨w.heap.size, 0, none⟩) len len) rows'.length out.toList := by
        have e1 : rows'.length = len := by omega
        rw [e1]
        exact owns_new (heap_alloc_new w _) hR.below.size (by simp [hol, q6]) (Nat.le_refl _) (maxLen_big hlim) (by rw [hol, q6]) (List.take_of_length_le (by simp [hol, q6]))
      exact rel_own (o := ⟨ver, true, false, j.sz, e, rows'⟩) hR1 rfl (Turns.alloc hver' (World.grownBy_alloc w _ none) (fun b hb => by simp [blk] at hb; omega)) r3 hxs hown (by rw [hfrz.nt]; exact hd n hn)
    · exact h.elim
  · exact h.elim

end
end Go.Abs
/- Cuts and calls; what holds of every operation. -/
namespace Go.Abs
open Go Go.RowKit

section
variable {P : Program} {T : Tab} {w w' w0 : World} {Z0 : Nat → Prop} {φ : Nat → Value} {s : AS} {a : Act} {o : Oper} {K : Act → World → Prop} {Q : Exit → Act → World → Prop} {ups : List Upd} {R : List Loc}

theorem optD_ev {C : Cons} (hR : RelF w0 Z0 φ s a w) {x : Option Operand} {k : Option Int → AR} (h : (optD x k).Ev C s ups R) :
    ∃ n R', (k n).Ev C s ups R' ∧ ((x = none ∧ n = none) ∨ ∃ y kk m, x = some y ∧ n = some m ∧ a.eval y = .int kk m) := by
  cases x with
  | none => exact ⟨none, R, h, .inl ⟨rfl, rfl⟩⟩
  | some y =>
    obtain ⟨d, R1, he, g⟩ := opd_ev hR h
    clear h
    generalize hv : a.eval y = v at he
    cases d <;> (try exact g.elim)
    rename_i kk m
    cases he
    exact ⟨some m, R1, g, .inr ⟨y, kk, m, rfl, rfl, hv⟩⟩

theorem cut_rows {rows : List (List D)} {l h i : Nat} (hi : i < h - l) : getR ((rows.take h).drop l) i = getR rows (l + i) := by
  simp only [getR, List.getD_eq_getElem?_getD, List.getElem?_drop, List.getElem?_take]
  rw [if_pos (by omega)]

theorem run_bounds {n c : Nat} {lo hi : Option Operand} {l h : Option Int} {isS : Bool}
    (hl : (lo = none ∧ l = none) ∨ ∃ y kk m, lo = some y ∧ l = some m ∧ a.eval y = .int kk m) (hh : (hi = none ∧ h = none) ∨ ∃ y kk m, hi = some y ∧ h = some m ∧ a.eval y = .int kk m)
    (h0 : 0 ≤ l.getD 0) (h1 : l.getD 0 ≤ h.getD n) (h2 : h.getD n ≤ (n : Int)) (hc : n ≤ c) :
    (Instr.sliceBounds isS n c (lo.map a.eval) (hi.map a.eval) none).run P w = .ok ((l.getD 0).toNat, (h.getD n).toNat, c) w := by
  rcases hl with ⟨rfl, rfl⟩ | ⟨y, kk, m, rfl, rfl, e1⟩ <;> rcases hh with ⟨rfl, rfl⟩ | ⟨y2, k2, m2, rfl, rfl, e2⟩ <;>
    simp only [Option.getD_some, Option.getD_none] at h0 h1 h2 ⊢
  · simp [Instr.sliceBounds]
  · have : m2 ≤ (c : Int) := by omega
    simp [Instr.sliceBounds, Instr.sliceBound, e2, asIntOf, h1, this]
  · have : m ≤ (n : Int) := h1
    simp [Instr.sliceBounds, Instr.sliceBound, e1, asIntOf, h0, this]
  · have q1 : m2 ≤ (c : Int) := by omega
    have q2 : 0 ≤ m2 := by omega
    have q3 : m ≤ max m2 0 := by omega
    simp [Instr.sliceBounds, Instr.sliceBound, e1, e2, asIntOf, h0, q1, q2, q3]

theorem wp_slice {C : Cons} (hT : TOk P T) {t : TypeId} {x : Operand} {lo hiO mx : Option Operand} (ho : o.op = .slice t x lo hiO mx) (hR : RelF w0 Z0 φ s a w) (hd : ∀ n, o.dst = some n → n < s.nt) (h : (aSlice T o t x lo hiO mx).Ev C s ups R) (hK : ∀ a' w', Rel w0 Z0 (s.app ups) a' w' → K a' w') : o.wp P a w K Q := by
  unfold aSlice at h
  split at h
  · rename_i i hi
    obtain ⟨info, dd, q1, q2, q3, q4, q5, _⟩ := (hT.ok hi).ex
    split at h
    · rename_i hst
      rw [hst] at q5
      have := tdB_str q5; subst this
      obtain ⟨d, R1, he, g⟩ := opd_ev hR h
      clear h
      generalize hx : a.eval x = xv at he
      cases d <;> (try exact g.elim)
      rename_i st
      cases he with | str _ hsz => ?_
      obtain ⟨l, R2, g1, hl⟩ := optD_ev hR g
      obtain ⟨hh, R3, ⟨⟨c0, c1, c2⟩, g2⟩, hh2⟩ := optD_ev hR g1
      have hb := run_bounds (P := P) (w := w) (isS := false) hl hh2 c0 c1 c2 (Nat.le_refl st.size)
      refine wp_value (v := .string (st.extract (l.getD 0).toNat (hh.getD st.size).toNat)) (w' := w) ?_ (hK _ _ ⟨φ, rel_done hR hd (.str _ ?_) g2⟩)
      · simp [execOp, ho, hx, Instr.sliceAt, run_underlying q2, Instr.slice, hb]
      · rw [ByteArray.size_extract]; omega
    · rename_i e hst
      rw [hst] at q5
      have := tdB_sl q5; subst this
      split at h
      · rename_i j hj
        have hS := sizeOf_of (w := w) hT hj
        obtain ⟨d, R1, he, g⟩ := opd_ev hR h
        clear h
        generalize hx : a.eval x = xv at he
        cases d <;> (try exact g.elim)
        case fsl sz rows =>
          obtain ⟨l, R2, g1, hl⟩ := optD_ev hR g
          obtain ⟨hh, R3, ⟨⟨c3, c0, c1, c2⟩, g2⟩, hh2⟩ := optD_ev hR g1
          subst c3
          have hlim := (fsl_len he).1
          cases he with
          | fslNil =>
            have hb := run_bounds (P := P) (w := w) (isS := true) hl hh2 c0 c1 c2 (Nat.le_refl 0)
            simp only [List.length_nil] at c1 c2 hb
            have e1 : (l.getD 0).toNat = 0 := by omega
            have e2 : (hh.getD ((0 : Nat) : Int)).toNat = 0 := by omega
            simp only [e1, e2] at hb
            refine wp_value (v := .slice none 0 0) (w' := w) ?_ (hK _ _ ⟨φ, rel_done hR hd ?_ g2⟩)
            · simp [execOp, ho, hx, Instr.sliceAt, run_underlying q2, Instr.slice, hS, hb]
            · simp only [List.take_nil, List.drop_nil]; exact .fslNil _
          | fslE _ ad c =>
            have hb := run_bounds (P := P) (w := w) (isS := true) hl hh2 c0 c1 c2 (Nat.zero_le c)
            simp only [List.length_nil] at c1 c2 hb
            have e1 : (l.getD 0).toNat = 0 := by omega
            have e2 : (hh.getD ((0 : Nat) : Int)).toNat = 0 := by omega
            simp only [e1, e2] at hb
            refine wp_value (v := .slice (some ad) 0 c) (w' := w) ?_ (hK _ _ ⟨φ, rel_done hR hd ?_ g2⟩)
            · simp [execOp, ho, hx, Instr.sliceAt, run_underlying q2, Instr.slice, hS, hb, Addr.add]
            · simp only [List.take_nil, List.drop_nil]; exact .fslE _ _ _
          | fsl _ _ b off c cv hc hl2 hr hz hcell hone henc =>
            have hb := run_bounds (P := P) (w := w) (isS := true) hl hh2 c0 c1 c2 hc
            generalize hlo : (l.getD 0).toNat = lo' at *
            generalize hhi : (hh.getD (rows.length : Int)).toNat = hi' at *
            have k1 : lo' ≤ hi' := by omega
            have k2 : hi' ≤ rows.length := by omega
            have hlen : ((rows.take hi').drop lo').length = hi' - lo' := by simp; omega
            refine wp_value (v := .slice (if c = lo' then some ⟨b, off, none⟩ else some ⟨b, off + lo' * j.sz, none⟩) (hi' - lo') (c - lo')) (w' := w) ?_ (hK _ _ ⟨φ, rel_done hR hd ?_ g2⟩)
            · simp [execOp, ho, hx, Instr.sliceAt, run_underlying q2, Instr.slice, hS, hb, Addr.add_lit]
            · have gen : ∀ off2, (lo' < hi' → off2 = off + lo' * j.sz) → EncS w Z0 s.ob φ (.fsl j.sz ((rows.take hi').drop lo')) (.slice (some ⟨b, off2, none⟩) (hi' - lo') (c - lo')) := fun off2 ho2 => by
                rw [← hlen]
                have hrow : ∀ i, i < ((rows.take hi').drop lo').length → getR ((rows.take hi').drop lo') i = getR rows (lo' + i) ∧ lo' + i < rows.length := fun i hi => ⟨cut_rows (by omega), by omega⟩
                have hidx : ∀ i q, off + lo' * j.sz + (i * j.sz + q) = off + ((lo' + i) * j.sz + q) := fun i q => by rw [Nat.add_mul]; omega
                refine .fsl j.sz _ b off2 (c - lo') (fun i q => cv (lo' + i) q) (by omega) (by unfold lim at *; omega) (fun r hr2 => hr r (List.mem_of_mem_take (List.mem_of_mem_drop hr2))) (fun i q hi hq => hz (lo' + i) q (hrow i hi).2 hq) (fun i q hi hq => ?_) (fun i q hi hq => hone _ _ (hrow i hi).2 hq) (fun i q hi hq => ?_)
                · rw [ho2 (by omega), hidx]
                  exact hcell _ _ (hrow i hi).2 hq
                · rw [(hrow i hi).1]
                  exact henc _ _ (hrow i hi).2 hq
              by_cases hcl : c = lo'
              · rw [if_pos hcl]
                exact gen off (fun h => by omega)
              · rw [if_neg hcl]
                exact gen _ (fun _ => rfl)
        case osl id ver =>
          dsimp only at g
          split at g
          · rename_i n hn
            obtain ⟨hh, R3, g2, hh2⟩ := optD_ev hR g
            obtain ⟨R4, _, g3⟩ := g2
            cases hl : s.look id with
            | none => rw [hl] at g3; exact g3.elim
            | some b =>
              rw [hl] at g3
              obtain ⟨⟨hv, hmt, hbox, hsz, c1, c2⟩, rfl, _⟩ := g3
              cases he with
              | osl _ _ _ hp =>
                obtain ⟨o1, h1, h2, h3, h4⟩ := hp
                obtain rfl : o1 = b := Option.some.inj (h1.symm.trans hl)
                have hok := hR.good.ok id o1 h1
                obtain ⟨xs, hx2, hs, _⟩ := hok.there
                have hown := hs hbox
                have hphi := h3 hv
                generalize hhi : (hh.getD (o1.rows.length : Int)).toNat = hi' at *
                have k2 : hi' ≤ o1.rows.length := by omega
                have hcut : RowsEnc (EncS w Z0 s.ob φ) o1.sz (o1.rows.take hi') (xs.take (hi' * o1.sz)) := by
                  have hm : hi' * o1.sz ≤ o1.rows.length * o1.sz := Nat.mul_le_mul_right _ k2
                  have hxl := hx2.len
                  have htl : (o1.rows.take hi').length = hi' := by simp; omega
                  refine ⟨by rw [htl]; simp; omega, fun r hr => hx2.row r (List.mem_of_mem_take hr), fun i q hi hq => ?_, fun y hy => hx2.one y (List.mem_of_mem_take hy), by have := hx2.lim; rw [htl]; unfold lim at *; omega⟩
                  rw [htl] at hi
                  have hlt := mul_lt hi hq
                  rw [show getR (o1.rows.take hi') i = getR o1.rows i from getD_of_get _ _ _ _ _ (by rw [List.getElem?_take, if_pos hi]), getD_of_get (xs.take (hi' * o1.sz)) xs (i * o1.sz + q) (i * o1.sz + q) Go.undef (by rw [List.getElem?_take, if_pos hlt])]
                  exact hx2.enc i q (by omega) hq
                have key : ∃ v', (Instr.sliceAt t xv none (hiO.map a.eval) none).run P w = .ok v' w ∧ w.ownsRow w0.heap.size o1.ty o1.sz v' hi' (xs.take (hi' * o1.sz)) ∧ blk v' = blk (φ id) := by
                  rw [hphi]
                  have hm : hi' * o1.sz ≤ o1.rows.length * o1.sz := Nat.mul_le_mul_right _ k2
                  have hxl := hx2.len
                  rcases hown.2 with ⟨e1, e2⟩ | ⟨gg, cap, cur, e1, hge, hg, hnc, hcm, hcs, htake⟩
                  · have hb := run_bounds (P := P) (w := w) (a := a) (isS := true) (lo := none) (l := none) (.inl ⟨rfl, rfl⟩) hh2 (by simp) (by simpa using c1) c2 (Nat.le_refl _)
                    rw [e2] at hb k2
                    have : hi' = 0 := by omega
                    subst this
                    rw [e1]
                    refine ⟨.slice none 0 0, ?_, ⟨by simp, .inl ⟨rfl, rfl⟩⟩, rfl⟩
                    rw [e2] at hhi
                    rw [hhi] at hb
                    simp only [Option.map_none] at hb
                    simp [Instr.sliceAt, run_underlying q2, Instr.slice, hS, hb]
                  · have hb := run_bounds (P := P) (w := w) (a := a) (isS := true) (lo := none) (l := none) (.inl ⟨rfl, rfl⟩) hh2 (by simp) (by simpa using c1) c2 hnc
                    rw [e1]
                    refine ⟨.slice (some ⟨gg, 0, none⟩) hi' cap, ?_, owns_new hg hge (by simp; omega) (by omega) hcm hcs ?_, rfl⟩
                    · rw [hhi] at hb
                      simp only [Option.map_none] at hb
                      simp [Instr.sliceAt, run_underlying q2, Instr.slice, hS, hb, Addr.add]
                    · rw [← htake, List.take_take]
                      congr 1; omega
                obtain ⟨v', hrun, hown', hblk⟩ := key
                refine wp_value (v := v') (w' := w) (by simp only [execOp, ho, hx, Option.map_none, Sem.run_bind, hrun, Result.andThen_ok]; rfl) (hK _ _ ?_)
                rw [hn]
                have htl : (o1.rows.take hi').length = hi' := by simp; omega
                refine rel_own (row := none) (o := { o1 with ver := ver + 1, rows := o1.rows.take hi' }) hR hbox ⟨⟨rfl, rfl, rfl, Nat.le_refl _, fun _ _ _ => rfl⟩, fun k hk => (by cases hk), fun o2 h5 => ?_, fun bb hb => ?_⟩ (fun r hr => hok.pure hbox r (List.mem_of_mem_take hr)) hcut (by simpa [htl] using hown') (hd n hn)
                · have h6 := Option.some.inj (h5.symm.trans h1)
                  subst h6
                  exact .inl (by rw [hv]; exact Nat.lt_succ_self _)
                · exact .inr ⟨o1, h1, by rw [← hblk]; exact hb, fun _ => hmt⟩
          · exact g.elim
      · exact h.elim
    · exact h.elim
  · exact h.elim

theorem wp_field {C : Cons} (hT : TOk P T) {t : TypeId} {x : Operand} {f : Nat} (ho : o.op = .field t x f) (hR : RelF w0 Z0 φ s a w) (hd : ∀ n, o.dst = some n → n < s.nt) (h : (aField T o t x f).Ev C s ups R) (hK : ∀ a' w', Rel w0 Z0 (s.app ups) a' w' → K a' w') : o.wp P a w K Q := by
  unfold aField at h
  split at h
  · rename_i i hi
    split at h
    · rename_i fs hfs
      split at h
      · rename_i p hp
        obtain ⟨info, dd, q1, q2, q3, q4, q5, _⟩ := (hT.ok hi).ex
        rw [hfs] at q5
        obtain ⟨l, rfl, hl⟩ := tdB_st q5
        have hf : ∃ fld, l[f]? = some fld ∧ fld.offset = p.1 ∧ fld.type = p.2 := by
          rw [← hl, List.getElem?_map] at hp
          cases hq : l.toList[f]? with
          | none => rw [hq] at hp; cases hp
          | some fld => rw [hq] at hp; cases hp; exact ⟨fld, by simpa using hq, rfl, rfl⟩
        obtain ⟨fld, hf1, hf2, hf3⟩ := hf
        obtain ⟨d, R1, he, g⟩ := opd_ev hR h
        clear h
        generalize hx : a.eval x = xv at he
        cases d <;> (try exact g.elim)
        rename_i cs
        cases he with
        | agg _ vs hs h1 hc =>
          dsimp only at g
          unfold takeT at g
          split at g
          · rename_i j hj
            have hA := isAgg_of (w := w) hT hj
            have hS := sizeOf_of (w := w) hT hj
            have hpart : ∀ v, (part p.2 vs p.1).run P w = .ok v w → K (a.put o.dst v) w → o.wp P a w K Q := fun v h1 h2 =>
              wp_value (v := v) (w' := w) (by simp [execOp, ho, hx, Instr.field, run_underlying q2, hf1, hf2, hf3, asAgg, h1]) h2
            split at g
            · rename_i fs2 hfs2
              obtain ⟨hle, g⟩ := g
              rw [hfs2] at hA
              refine hpart (.agg (vs.extract p.1 (p.1 + j.sz))) (by simp only [part, Sem.run_bind, hA, Result.andThen_ok, if_true, hS]; rfl) (hK _ _ ⟨φ, rel_done hR hd (.agg _ _ ?_ (fun q hq => ?_) (fun q hq => ?_)) g⟩)
              · simp; omega
              · have hq' : q < j.sz := by simp at hq; omega
                have e : (vs.extract p.1 (p.1 + j.sz)).getD q Go.undef = vs.getD (p.1 + q) Go.undef := by
                  simp only [Array.getD_eq_getD_getElem?, Array.getElem?_extract]
                  rw [if_pos (by omega)]
                rw [e]; exact h1 _ (by omega)
              · have hq' : q < j.sz := by simp at hq; omega
                have e : (vs.extract p.1 (p.1 + j.sz)).getD q Go.undef = vs.getD (p.1 + q) Go.undef := by
                  simp only [Array.getD_eq_getD_getElem?, Array.getElem?_extract]
                  rw [if_pos (by omega)]
                have e2 : getC ((cs.drop p.1).take j.sz) q = getC cs (p.1 + q) := by
                  simp only [getC, List.getD_eq_getElem?_getD, List.getElem?_take, List.getElem?_drop, hq', if_true]
                rw [e, e2]; exact hc _ (by omega)
            · rename_i hns
              obtain ⟨⟨hlt, _⟩, g⟩ := g
              have hAf : (isAgg p.2).run P w = .ok false w := by
                rw [hA]; cases hd2 : j.td <;> first | rfl | (exact absurd hd2 (hns _))
              have hv : vs[p.1]? = some vs[p.1] := Array.getElem?_eq_getElem (by omega)
              have he : vs.getD p.1 Go.undef = vs[p.1] := by rw [Array.getD_eq_getD_getElem?, hv]; try rfl
              have hc2 := hc p.1 hlt
              rw [he] at hc2
              exact hpart vs[p.1] (by simp [part, hAf, hv]) (hK _ _ ⟨φ, rel_done hR hd hc2 g⟩)
          · exact g.elim
      · exact h.elim
    · exact h.elim
  · exact h.elim

theorem wp_call (hT : TOk P T) {c : Call} (ho : o.op = .call c) (hR : RelF w0 Z0 φ s a w) (hd : ∀ n, o.dst = some n → n < s.nt) (h : (aCall T o c).Ev (Con P) s ups R) (hK : ∀ a' w', Rel w0 Z0 (s.app ups) a' w' → K a' w') : o.wp P a w K Q := by
  unfold aCall at h
  split at h
  · rename_i b hc
    split at h
    · rename_i x t h1 h2
      exact wp_len hT ho hc (by rw [← Array.toArray_toList (xs := c.args), h1]) (by rw [← Array.toArray_toList (xs := c.argTypes), h2]) hR hd h hK
    · rename_i x y t u h1 h2
      by_cases htu : t = u
      · subst htu
        rw [if_pos rfl] at h
        obtain ⟨v, w', hr, hrel⟩ := snd_append (ty := o.type) hT hR hd h
        have ha : c.args = #[x, y] := by rw [← Array.toArray_toList (xs := c.args), h1]
        have ht : c.argTypes = #[t, t] := by rw [← Array.toArray_toList (xs := c.argTypes), h2]
        exact wp_value (by simp only [execOp, ho, resolve, hc, ha, ht, invoke, builtin, Sem.run_bind, Sem.run_pure, Result.andThen_ok, List.map_toArray, List.map_cons, List.map_nil, hr]) (hK _ _ hrel)
      · rw [if_neg htu] at h; exact h.elim
    · rename_i x y h1
      exact wp_minmax (mx := false) ho (by simpa using hc) (by rw [← Array.toArray_toList (xs := c.args), h1]) hR hd h hK
    · rename_i x y h1
      exact wp_minmax (mx := true) ho (by simpa using hc) (by rw [← Array.toArray_toList (xs := c.args), h1]) hR hd h hK
    · exact h.elim
  · rename_i f hc
    obtain ⟨d, R1, he, g⟩ := opd_ev hR h
    clear h
    generalize hx : a.eval f = fv at he
    cases d <;> (try exact g.elim)
    rename_i gf caps
    obtain ⟨ds, R2, hl, hds, g2⟩ := opds_ev hR g
    cases he with
    | fn _ _ vs hs hcap =>
      have hex : (execOp a.eval o).run P w = (callFunc gf ((c.args.map a.eval) ++ vs)).run P w := by
        simp [execOp, ho, resolve, hc, hx, Deferred.ofValue, invoke]
      unfold Oper.wp
      rw [hex]
      refine snd_callX hR hd (ds := ds ++ caps) (by simp [hl, hs]) (fun i hi => ?_) g2 hK
      have hal : (c.args.map a.eval).size = ds.length := by simp [hl]
      by_cases q : i < ds.length
      · have := hds i (by rw [← hl]; exact q)
        have e1 : getC (ds ++ caps) i = getC ds i := getD_of_get _ _ _ _ _ (List.getElem?_append_left q)
        have e2 : ((c.args.map a.eval) ++ vs).getD i Go.undef = (c.args.toList.map a.eval).getD i Go.undef := by
          rw [← toList_getD, Array.toList_append, Array.toList_map]
          exact getD_of_get _ _ _ _ _ (List.getElem?_append_left (by rw [List.length_map, ← hl]; exact q))
        rw [e1, e2]; exact this
      · have hi2 : i - ds.length < caps.length := by simp at hi; omega
        have := hcap _ hi2
        have e1 : getC (ds ++ caps) i = getC caps (i - ds.length) := getD_of_get _ _ _ _ _ (List.getElem?_append_right (by omega))
        have e2 : ((c.args.map a.eval) ++ vs).getD i Go.undef = vs.getD (i - ds.length) Go.undef := by
          rw [← toList_getD, ← toList_getD, Array.toList_append, Array.toList_map]
          have hll : (c.args.toList.map a.eval).length = ds.length := by simp [hl]
          apply getD_of_get
          rw [List.getElem?_append_right (by omega), hll]
        rw [e1, e2]; exact this
  · exact h.elim

/-- Every operation. -/
theorem aop_sound (hT : TOk P T) (hR : RelF w0 Z0 φ s a w) (hd : ∀ n, o.dst = some n → n < s.nt) (h : (aop T o).Ev (Con P) s ups R) (hK : ∀ a' w', Rel w0 Z0 (s.app ups) a' w' → K a' w') : o.wp P a w K Q := by
  unfold aop at h
  split at h
  · rename_i x ho; exact wp_move (.inl ho) hR hd h hK
  · rename_i x ho; exact wp_move (.inr ho) hR hd h hK
  · rename_i c x y ho; exact wp_pick ho hR hd h hK
  · rename_i t ho; exact wp_alloc hT ho hR hd h hK
  · rename_i t x ho; exact wp_box ho hR hd h hK
  · rename_i t parts ho; exact wp_build hT ho hR hd h hK
  · rename_i t len parts ho; exact wp_buildSlice hT ho hR hd h hK
  · rename_i t x ho
    obtain ⟨v, h1, h2⟩ := snd_load hT hR hd h
    exact wp_value (v := v) (w' := w) (by simp only [execOp, ho, Sem.run_bind, h1, Result.andThen_ok]; rfl) (hK _ _ h2)
  · rename_i t x y ho
    split at h
    · rename_i hn
      obtain ⟨w', h1, h2⟩ := snd_store hT hR h
      have hr : (execOp a.eval o).run P w = .ok .skip w' := by simp only [execOp, ho, Sem.run_bind, h1, Result.andThen_ok]; rfl
      unfold Oper.wp
      rw [hr, Oper.upon_skip, hn]
      exact hK _ _ h2
    · exact h.elim
  · rename_i x ho; exact wp_nil ho hR hd h hK
  · rename_i op t x y t2 ho; exact wp_bin hT ho hR hd h hK
  · rename_i op t x ho; exact wp_un ho hR hd h hK
  · rename_i src dst x ho; exact wp_conv hT ho hR hd h hK
  · rename_i f first caps ho
    by_cases h0 : first.size = 0
    · rw [if_pos h0] at h; exact wp_makeFunc ho h0 hR hd h hK
    · rw [if_neg h0] at h; exact h.elim
  · rename_i t l c ho; exact wp_makeSlice hT ho hR hd h hK
  · rename_i t x lo hi mx ho; exact wp_slice hT ho hR hd h hK
  · rename_i t x f ho
    obtain ⟨v, h1, h2⟩ := snd_fieldAddr hT hR hd h
    exact wp_value (v := v) (w' := w) (by simp only [execOp, ho, Sem.run_bind, h1, Result.andThen_ok]; rfl) (hK _ _ h2)
  · rename_i t x f ho
    exact wp_field hT ho hR hd h hK
  · rename_i t x ix ho
    obtain ⟨v, h1, h2⟩ := snd_indexAddr hT hR hd h
    exact wp_value (v := v) (w' := w) (by simp only [execOp, ho, Sem.run_bind, h1, Result.andThen_ok]; rfl) (hK _ _ h2)
  · rename_i t x ix ho; exact wp_indexS hT ho hR hd h hK
  · rename_i x i ho; exact wp_extract ho hR hd h hK
  · rename_i c ho; exact wp_call hT ho hR hd h hK
  · exact h.elim

end
end Go.Abs
