import Derived.Test.YticiiadkpddgoaaGreatMB1
import Derived.Orders
import Derived.Deep.LoopGhost
import Derived.Test.YticiiadkpddgoaaGreatProg
import Derived.KernelRfl
import Derived.ChangeArms
import Derived.WideShapes
import Derived.SizedLaws
import Derived.Laws.Externs
/- States that answer alike; operations under guards; a region in the order of its text. -/
set_option linter.unusedSimpArgs false
set_option linter.unusedVariables false
namespace Go.Abs
open Go Go.RowKit

structure Same (s t : AS) : Prop where
  nt : t.nt = s.nt
  at' : ∀ l, t.at l = s.at l

theorem Same.refl (s : AS) : Same s s := ⟨rfl, fun _ => rfl⟩
theorem Same.symm {s t : AS} (h : Same s t) : Same t s := ⟨h.nt.symm, fun l => (h.at' l).symm⟩
theorem Same.trans {s t u : AS} (h : Same s t) (k : Same t u) : Same s u := ⟨k.nt.trans h.nt, fun l => (k.at' l).trans (h.at' l)⟩
theorem Same.get {s t : AS} (h : Same s t) (n : Nat) : t.get n = s.get n := by have := h.at' (.slot n); simpa [AS.at] using this
theorem Same.look {s t : AS} (h : Same s t) (n : Nat) : t.look n = s.look n := by have := h.at' (.ob n); simpa [AS.at] using this

def Upd.loc : Upd → Loc
  | .slot n _ => .slot n
  | .ob id _ => .ob id

def writes (u : List Upd) : List Loc := u.map Upd.loc

section
variable {C : Cons} {P : Program} {T : Tab} {w w' w0 : World} {Z0 : Nat → Prop} {φ : Nat → Value} {s t : AS} {a : Act}

theorem RelF.ext (h : RelF w0 Z0 φ s a w) (e : Same s t) : RelF w0 Z0 φ t a w := by
  have hlook : ∀ i, look t.ob i = look s.ob i := fun i => e.look i
  have hE : oslE t.ob φ = oslE s.ob φ := by funext i ver v; simp only [oslE, hlook]
  have hF : ptrF t.ob φ = ptrF s.ob φ := by funext i ver r c v; simp only [ptrF, hlook]
  have hZ : ZZ Z0 t.ob φ = ZZ Z0 s.ob φ := by funext b; simp only [ZZ, hlook]
  have hR : ∀ w, EncS w Z0 t.ob φ = EncS w Z0 s.ob φ := fun w => by simp only [EncS, hE, hF, hZ]
  refine ⟨h.size.trans e.nt.symm, h.defers, fun n => ?_, ⟨fun i j oi oj b hi hj => ?_, fun i o hi => ?_⟩, h.below, h.amb⟩
  · rw [hR, e.get]; exact h.slot n
  · rw [hlook] at hi hj; exact h.good.inj i j oi oj b hi hj
  · rw [hlook] at hi; rw [hR]; exact h.good.ok i o hi

theorem Rel.ext (h : Rel w0 Z0 s a w) (e : Same s t) : Rel w0 Z0 t a w := let ⟨φ, h⟩ := h; ⟨φ, h.ext e⟩

theorem put_at (l : Loc) (n : Nat) (d : D) : AS.at { s with sl := (n, d) :: s.sl } l = if l = .slot n then .inl d else s.at l := by
  cases l with
  | slot m =>
    simp only [AS.at, AS.get, lookD_put]
    by_cases h : n = m
    · subst h; simp
    · have : ¬ (Loc.slot m = Loc.slot n) := fun e => h (by cases e; rfl)
      simp [h, this]
  | ob id => simp [AS.at, AS.look]

theorem putO_at (l : Loc) (n : Nat) (d : Ob) : AS.at { s with ob := (n, d) :: s.ob } l = if l = .ob n then .inr (some d) else s.at l := by
  cases l with
  | ob m =>
    simp only [AS.at, AS.look, look_put]
    by_cases h : n = m
    · subst h; simp
    · have : ¬ (Loc.ob m = Loc.ob n) := fun e => h (by cases e; rfl)
      simp [h, this]
  | slot id => simp [AS.at, AS.get]

/-- What the updates leave where. -/
def wr : List Upd → Loc → D ⊕ Option Ob → D ⊕ Option Ob
  | [], _, x => x
  | .slot n d :: r, l, x => wr r l (if l = .slot n then .inl d else x)
  | .ob id o :: r, l, x => wr r l (if l = .ob id then .inr (some o) else x)

theorem app_at : ∀ (u : List Upd) (s : AS) (l : Loc), (s.app u).at l = wr u l (s.at l)
  | [], s, l => rfl
  | .slot n d :: r, s, l => by simp only [AS.app, wr]; rw [app_at r, put_at]
  | .ob id o :: r, s, l => by simp only [AS.app, wr]; rw [app_at r, putO_at]

theorem app_nt : ∀ (u : List Upd) (s : AS), (s.app u).nt = s.nt
  | [], s => rfl
  | .slot n d :: r, s => by simp only [AS.app]; rw [app_nt r]
  | .ob id o :: r, s => by simp only [AS.app]; rw [app_nt r]

theorem wr_not : ∀ (u : List Upd) (l : Loc) (x : D ⊕ Option Ob), l ∉ writes u → wr u l x = x
  | [], l, x, _ => rfl
  | .slot n d :: r, l, x, h => by
    simp only [writes, List.map_cons, Upd.loc, List.mem_cons, not_or] at h
    simp only [wr, if_neg h.1]; exact wr_not r l x h.2
  | .ob n d :: r, l, x, h => by
    simp only [writes, List.map_cons, Upd.loc, List.mem_cons, not_or] at h
    simp only [wr, if_neg h.1]; exact wr_not r l x h.2

theorem wr_in : ∀ (u : List Upd) (l : Loc) (x y : D ⊕ Option Ob), l ∈ writes u → wr u l x = wr u l y
  | [], l, x, y, h => by cases h
  | .slot n d :: r, l, x, y, h => by
    simp only [wr]
    by_cases e : l = .slot n
    · simp only [if_pos e]
    · simp only [if_neg e]
      refine wr_in r l x y ?_
      simpa [writes, Upd.loc, e] using h
  | .ob n d :: r, l, x, y, h => by
    simp only [wr]
    by_cases e : l = .ob n
    · simp only [if_pos e]
    · simp only [if_neg e]
      refine wr_in r l x y ?_
      simpa [writes, Upd.loc, e] using h

theorem Same.app (h : Same s t) (u : List Upd) : Same (s.app u) (t.app u) := ⟨by rw [app_nt, app_nt, h.nt], fun l => by rw [app_at, app_at, h.at']⟩

theorem Same.put (h : Same s t) {n : Nat} {d : D} (hd : s.get n = d) : Same s { t with sl := (n, d) :: t.sl } :=
  ⟨h.nt, fun l => by
    rw [put_at]
    split
    · rename_i e; subst e; simp [AS.at, hd]
    · exact h.at' l⟩

/-! ### An operation under its guard -/

def skipUps (o : Oper) : List Upd := match o.dst with | some n => [.slot n .void] | none => []

def OpEv (C : Cons) (T : Tab) (ops : Array Oper) (o : Oper) (s : AS) (ups : List Upd) (R : List Loc) : Prop :=
  match o.guard with
  | none => (aop T o).Ev C s ups R
  | some (g, want) => ∃ t, (ops[g]?).bind (·.dst) = some t ∧
      ((s.get t = .bool want ∧ ∃ R', R = .slot t :: R' ∧ (aop T o).Ev C s ups R') ∨ ((s.get t = .bool (!want) ∨ s.get t = .void) ∧ R = [.slot t] ∧ ups = skipUps o))

theorem OpEv.local {ops : Array Oper} {o : Oper} {ups : List Upd} {R : List Loc} (h : OpEv C T ops o s ups R) (ha : ∀ l ∈ R, t.at l = s.at l) : OpEv C T ops o t ups R := by
  unfold OpEv at *
  cases hg : o.guard with
  | none => rw [hg] at h; exact AR.Ev.local _ h ha
  | some gw =>
    obtain ⟨g, want⟩ := gw
    rw [hg] at h
    obtain ⟨u, hu, h⟩ := h
    refine ⟨u, hu, ?_⟩
    have hget : Loc.slot u ∈ R → t.get u = s.get u := fun hm => by have := ha _ hm; simpa [AS.at] using this
    rcases h with ⟨h1, R', rfl, h2⟩ | ⟨h1, rfl, h2⟩
    · exact .inl ⟨by rw [hget (by simp)]; exact h1, R', rfl, AR.Ev.local _ h2 fun l hl => ha l (by simp [hl])⟩
    · exact .inr ⟨by rw [hget (by simp)]; exact h1, rfl, h2⟩

theorem slot_bool {Z : Nat → Prop} {E : Nat → Nat → Value → Prop} {F : Nat → Nat → Nat → Nat → Value → Prop} {b : Bool} {v : Value} (h : Enc w Z E F (.bool b) v) : v = .bool b := by cases h; rfl
theorem slot_void {Z : Nat → Prop} {E : Nat → Nat → Value → Prop} {F : Nat → Nat → Nat → Nat → Value → Prop} {v : Value} (h : Enc w Z E F .void v) : v = Go.undef := by cases h; rfl

theorem yielded_of {ops : Array Oper} {g u : Nat} (hu : (ops[g]?).bind (·.dst) = some u) (tm : Array Value) : yielded ops tm g = match tm.getD u Go.undef with | .bool b => some b | _ => none := by
  unfold yielded
  rw [hu, Option.bind_some, Array.getD_eq_getD_getElem?]
  cases h : tm[u]? with
  | none => simp [Go.undef]
  | some v => cases v <;> rfl

theorem opEv_sound (hT : TOk P T) (hR : RelF w0 Z0 φ s a w) {ops : Array Oper} {i : Nat} {o : Oper} (hi : ops[i]? = some o) (hd : ∀ n, o.dst = some n → n < s.nt) {ups : List Upd} {R : List Loc} (h : OpEv (Con P) T ops o s ups R)
    {K : Act → World → Prop} {Q : Exit → Act → World → Prop} (hK : ∀ a' w', Rel w0 Z0 (s.app ups) a' w' → K a' w') : wpOp P ops Q i K a w := by
  unfold wpOp
  rw [hi]
  dsimp only
  unfold OpEv at h
  cases hg : o.guard with
  | none =>
    rw [hg] at h
    have hw : Region.wanted o (yielded ops a.tmps) = true := by simp [Region.wanted, hg]
    rw [if_pos hw]
    exact .inl (aop_sound hT hR hd h hK)
  | some gw =>
    obtain ⟨g, want⟩ := gw
    rw [hg] at h
    obtain ⟨u, hu, h⟩ := h
    have hy := yielded_of hu a.tmps
    rcases h with ⟨h1, R', rfl, h2⟩ | ⟨h1, rfl, rfl⟩
    · have hs := hR.slot u
      rw [h1] at hs
      rw [slot_bool hs] at hy
      have hw : Region.wanted o (yielded ops a.tmps) = true := by simp [Region.wanted, hg, hy]
      rw [if_pos hw]
      exact .inl (aop_sound hT hR hd h2 hK)
    · have hw : ¬ Region.wanted o (yielded ops a.tmps) = true := by
        have hs := hR.slot u
        rcases h1 with h1 | h1
        · rw [h1] at hs
          rw [slot_bool hs] at hy
          simp [Region.wanted, hg, hy]
        · rw [h1] at hs
          rw [slot_void hs] at hy
          simp [Region.wanted, hg, hy, Go.undef]
      rw [if_neg hw]
      refine hK _ _ ⟨φ, ?_⟩
      cases ho : o.dst with
      | none => simpa [skipUps, ho, AS.app, Act.put] using hR
      | some n => simpa [skipUps, ho, AS.app] using hR.put (hd n ho) .void

/-! ### The walk through the operations of a region -/

def cond2 (b : Bool) (p q : Prop) : Prop := (b = true → p) ∧ (b = false → q)
theorem cond2_true (p q : Prop) : cond2 true p q = p := by simp [cond2]
theorem cond2_false (p q : Prop) : cond2 false p q = q := by simp [cond2]
theorem cond2_not (b : Bool) (p q : Prop) : cond2 (!b) p q = cond2 b q p := by cases b <;> simp [cond2]

abbrev Fps := List (List Loc × List Loc)

def locNext (go : AS → Fps → Prop) (s : AS) (fps : Fps) (u : List Upd) (R : List Loc) : Prop := go (s.app u) ((writes u, R) :: fps)

def dstOk (o : Oper) (nt : Nat) : Prop := match o.dst with | some n => n < nt | none => True

def AS.setB (s : AS) (t : Nat) (b : Bool) : AS := { s with sl := (t, .bool b) :: s.sl }

/-- Where the guard lets the operation in, and where not. -/
def guardWp (C : Cons) (T : Tab) (ops : Array Oper) (o : Oper) (s : AS) (go : AS → Fps → Prop) (fps : Fps) : Prop :=
  match o.guard with
  | none => (aop T o).wp C s [] (locNext go s fps)
  | some (g, want) => match (ops[g]?).bind (·.dst) with
    | none => False
    | some t => match s.get t with
      | .bool b => cond2 b
          (match want with | true => (aop T o).wp C (s.setB t true) [.slot t] (locNext go (s.setB t true) fps) | false => locNext go (s.setB t true) fps (skipUps o) [.slot t])
          (match want with | false => (aop T o).wp C (s.setB t false) [.slot t] (locNext go (s.setB t false) fps) | true => locNext go (s.setB t false) fps (skipUps o) [.slot t])
      | .void => locNext go s fps (skipUps o) [.slot t]
      | _ => False

def vcOps (C : Cons) (T : Tab) (ops : Array Oper) (fin : Fps → Prop) (K : AS → Prop) : List Oper → AS → Fps → Prop
  | [], s, fps => fin fps ∧ K s
  | o :: r, s, fps => dstOk o s.nt ∧ guardWp C T ops o s (vcOps C T ops fin K r) fps

theorem same_setB {u : Nat} {b : Bool} (h : s.get u = .bool b) : Same s (s.setB u b) := (Same.refl s).put h

/-- One operation of the text: from a state that answers as 's'. -/
theorem guard_ev {ops : Array Oper} {o : Oper} {go : AS → Fps → Prop} {fps : Fps} (h : guardWp C T ops o s go fps) :
    ∃ ups R Rr s', OpEv C T ops o s ups R ∧ (∀ l, l ∈ R → l ∈ Rr) ∧ Same s s' ∧ go (s'.app ups) ((writes ups, Rr) :: fps) := by
  unfold guardWp at h
  cases hg : o.guard with
  | none =>
    rw [hg] at h
    obtain ⟨ups, R, h1, h2⟩ := AR.ev_of_wp _ h
    exact ⟨ups, R, _, s, by unfold OpEv; rw [hg]; exact h1, fun l hl => by simpa using hl, .refl s, h2⟩
  | some gw =>
    obtain ⟨g, want⟩ := gw
    rw [hg] at h
    dsimp only at h ⊢
    cases hu : (ops[g]?).bind (·.dst) with
    | none => rw [hu] at h; exact h.elim
    | some u =>
      rw [hu] at h
      dsimp only at h ⊢
      have go1 : ∀ b, s.get u = .bool b → (aop T o).wp C (s.setB u b) [.slot u] (locNext go (s.setB u b) fps) → b = want →
          ∃ ups R Rr s', OpEv C T ops o s ups R ∧ (∀ l, l ∈ R → l ∈ Rr) ∧ Same s s' ∧ go (s'.app ups) ((writes ups, Rr) :: fps) := fun b hb hw e => by
        obtain ⟨ups, R, h1, h2⟩ := AR.ev_of_wp _ hw
        have hs := same_setB hb
        refine ⟨ups, .slot u :: R, _, s.setB u b, ?_, fun l hl => ?_, hs, h2⟩
        · unfold OpEv; rw [hg]
          exact ⟨u, hu, .inl ⟨by rw [hb, e], R, rfl, AR.Ev.local _ h1 fun l _ => hs.symm.at' l⟩⟩
        · simp only [List.mem_cons] at hl; rcases hl with rfl | hl <;> simp [*]
      have go2 : ∀ s', Same s s' → (s.get u = .bool (!want) ∨ s.get u = .void) → locNext go s' fps (skipUps o) [.slot u] →
          ∃ ups R Rr s', OpEv C T ops o s ups R ∧ (∀ l, l ∈ R → l ∈ Rr) ∧ Same s s' ∧ go (s'.app ups) ((writes ups, Rr) :: fps) := fun s' hs hb hw => by
        refine ⟨skipUps o, [.slot u], [.slot u], s', ?_, fun l hl => hl, hs, hw⟩
        unfold OpEv; rw [hg]
        exact ⟨u, hu, .inr ⟨hb, rfl, rfl⟩⟩
      cases hd : s.get u with
      | bool b =>
        rw [hd] at h
        dsimp only at h
        cases b with
        | true =>
          have h := h.1 rfl
          cases want with
          | true => exact go1 true hd h rfl
          | false => exact go2 _ (same_setB hd) (.inl hd) h
        | false =>
          have h := h.2 rfl
          cases want with
          | true => exact go2 _ (same_setB hd) (.inl hd) h
          | false => exact go1 false hd h rfl
      | void =>
        rw [hd] at h
        exact go2 s (.refl s) (.inr hd) h
      | _ => rw [hd] at h; exact h.elim

inductive Chain (C : Cons) (T : Tab) (ops : Array Oper) : List Oper → AS → AS → List (List Upd × List Loc) → Prop
  | nil {s s' : AS} (h : Same s s') : Chain C T ops [] s s' []
  | cons {o : Oper} {r : List Oper} {s s' : AS} {ups : List Upd} {R : List Loc} {us : List (List Upd × List Loc)} (hd : ∀ n, o.dst = some n → n < s.nt) (h : OpEv C T ops o s ups R) (hr : Chain C T ops r (s.app ups) s' us) : Chain C T ops (o :: r) s s' ((ups, R) :: us)

def Covers (us : List (List Upd × List Loc)) (fps : Fps) : Prop := fps.length = us.length ∧ ∀ j, j < us.length → (fps.getD j ([], [])).1 = writes (us.getD j ([], [])).1 ∧ ∀ l, l ∈ (us.getD j ([], [])).2 → l ∈ (fps.getD j ([], [])).2

theorem vc_chain {ops : Array Oper} {fin : Fps → Prop} {K : AS → Prop} : ∀ (r : List Oper) {s1 s : AS} {fps : Fps}, Same s1 s → vcOps C T ops fin K r s fps →
    ∃ s' us f, Chain C T ops r s1 s' us ∧ Covers us f ∧ fin (f.reverse ++ fps) ∧ K s'
  | [], s1, s, fps, hs, h => ⟨s, [], [], .nil hs, ⟨rfl, fun j hj => by cases hj⟩, h.1, h.2⟩
  | o :: r, s1, s, fps, hs, h => by
    obtain ⟨hd, h⟩ := h
    obtain ⟨ups, R, Rr, s2, h1, h2, h3, h4⟩ := guard_ev h
    have hs2 : Same (s1.app ups) (s2.app ups) := (hs.trans h3).app ups
    obtain ⟨s', us, f, g1, g2, g3, g4⟩ := vc_chain r hs2 h4
    refine ⟨s', (ups, R) :: us, (writes ups, Rr) :: f, .cons (fun n hn => ?_) (h1.local fun l _ => hs.symm.at' l) g1, ⟨by simp [g2.1], fun j hj => ?_⟩, by simpa using g3, g4⟩
    · unfold dstOk at hd; rw [hn] at hd; rw [← hs.nt]; exact hd
    · cases j with
      | zero => exact ⟨rfl, h2⟩
      | succ j => simpa using g2.2 j (by simpa using hj)

/-- In the order of the text. -/
theorem chain_text (hT : TOk P T) {ops : Array Oper} {Q : Exit → Act → World → Prop} : ∀ (r : List Oper) (i : Nat) {s s' : AS} {us : List (List Upd × List Loc)} {a : Act} {w : World}, (∀ j, j < r.length → ops[i + j]? = r[j]?) → Chain (Con P) T ops r s s' us →
    Rel w0 Z0 s a w → (∀ a' w', Rel w0 Z0 s' a' w' → Q .normal a' w') → wpOps P ops Q ((List.range r.length).map (i + ·)) a w
  | [], i, s, s', us, a, w, _, h, hR, hK => by
    cases h with | nil h => exact hK _ _ (hR.ext h)
  | o :: r, i, s, s', us, a, w, hi, h, hR, hK => by
    cases h with
    | cons hd h hr =>
      rename_i us2
      have e : (List.range (r.length + 1)).map (i + ·) = i :: (List.range r.length).map (i + 1 + ·) := by
        rw [List.range_succ_eq_map]
        simp only [List.map_cons, List.map_map, Nat.add_zero]
        congr 1
        refine List.map_congr_left fun x _ => ?_
        simp only [Function.comp]; omega
      rw [List.length_cons, e, wpOps_cons]
      obtain ⟨φ, hR⟩ := hR
      refine opEv_sound hT hR (by simpa using hi 0 (by simp)) hd h fun a' w' hR' => ?_
      exact chain_text hT r (i + 1) (fun j hj => by have := hi (j + 1) (by simpa using hj); rw [show i + 1 + j = i + (j + 1) by omega, this]; simp) hr hR' hK

theorem region_text (hT : TOk P T) {id : Nat} {ops : Array Oper} {Q : Exit → Act → World → Prop} {s' : AS} {us : List (List Upd × List Loc)} (h : Chain (Con P) T ops ops.toList s s' us) (hR : Rel w0 Z0 s a w)
    (hK : ∀ a' w', Rel w0 Z0 s' a' w' → Q .normal a' w') : (Code.region id ops false).wp P Q a w := by
  refine wp_region ?_
  have := chain_text hT ops.toList 0 (Q := Q) (fun j hj => by simp) h hR hK
  simpa using this

end
end Go.Abs
/- A region whose order is drawn: where no two operations meet, all orders end alike. -/
namespace Go.Abs
open Go Go.RowKit

def meets (A B : List Loc) : Bool := A.any fun l => B.contains l
def clash (x y : List Loc × List Loc) : Bool := meets x.1 y.1 || (meets x.1 y.2 || meets x.2 y.1)

def edgesOf (ops : Array Oper) (j : Nat) : List Nat := match ops[j]? with | some o => (o.after.toList.filter fun e => Region.binds .any e).map (·.on) | none => []

def depStep (ops : Array Oper) (D : List Nat) (j : Nat) : Nat := (edgesOf ops j).foldl (fun m i => m ||| (1 <<< i) ||| D.getD i 0) 0

def depsTo (ops : Array Oper) : Nat → List Nat
  | 0 => []
  | n + 1 => depsTo ops n ++ [depStep ops (depsTo ops n) n]

def okAll (ops : Array Oper) (fps : Fps) : Bool :=
  (List.range ops.size).all fun j => (edgesOf ops j).all (· < j) &&
    (List.range j).all fun k => !clash (fps.getD k ([], [])) (fps.getD j ([], [])) || ((depsTo ops ops.size).getD j 0).testBit k

section
variable {C : Cons} {P : Program} {T : Tab} {w w' w0 : World} {Z0 : Nat → Prop} {φ : Nat → Value} {s t : AS} {a : Act} {ops : Array Oper}

theorem meets_mem {A B : List Loc} {l : Loc} (h1 : l ∈ A) (h2 : l ∈ B) : meets A B = true := List.any_eq_true.2 ⟨l, h1, by simpa using h2⟩

theorem depsTo_length (n : Nat) : (depsTo ops n).length = n := by
  induction n with
  | zero => rfl
  | succ n ih => simp [depsTo, ih]

theorem depsTo_get {n j : Nat} (h : j < n) : (depsTo ops n).getD j 0 = depStep ops (depsTo ops j) j := by
  induction n with
  | zero => omega
  | succ n ih =>
    simp only [depsTo]
    rcases Nat.lt_or_ge j n with h1 | h1
    · rw [List.getD_eq_getElem?_getD, List.getElem?_append_left (by rw [depsTo_length]; exact h1), ← List.getD_eq_getElem?_getD]
      exact ih h1
    · obtain rfl : j = n := by omega
      rw [List.getD_eq_getElem?_getD, List.getElem?_append_right (by rw [depsTo_length]; exact Nat.le_refl _), depsTo_length]
      simp

theorem foldl_bit (D : List Nat) : ∀ (es : List Nat) (m k : Nat), ((es.foldl (fun m i => m ||| (1 <<< i) ||| D.getD i 0) m).testBit k = true) → m.testBit k = true ∨ ∃ i, i ∈ es ∧ (i = k ∨ (D.getD i 0).testBit k = true)
  | [], m, k, h => .inl h
  | e :: r, m, k, h => by
    rcases foldl_bit D r _ k h with h | ⟨i, h1, h2⟩
    · simp only [Nat.testBit_or, Bool.or_eq_true] at h
      rcases h with (h | h) | h
      · exact .inl h
      · refine .inr ⟨e, by simp, .inl ?_⟩
        rw [Nat.shiftLeft_eq, Nat.one_mul, Nat.testBit_two_pow] at h
        simpa using h
      · exact .inr ⟨e, by simp, .inr h⟩
    · exact .inr ⟨i, by simp [h1], h2⟩

def Closed (ops : Array Oper) (L : Nat → Bool) : Prop := ∀ j, L j = true → ∀ i ∈ edgesOf ops j, L i = true

theorem deps_listed {L : Nat → Bool} (hc : Closed ops L) : ∀ (j k : Nat), (∀ i ∈ edgesOf ops j, i < j) → (∀ j', j' < j → ∀ i ∈ edgesOf ops j', i < j') → (∀ i ∈ edgesOf ops j, L i = true) → (depStep ops (depsTo ops j) j).testBit k = true → L k = true := by
  intro j
  induction j using Nat.strongRecOn with
  | _ j ih =>
    intro k hlt hall hL hb
    rcases foldl_bit _ _ _ _ hb with h | ⟨i, h1, h2⟩
    · simp at h
    · rcases h2 with rfl | h2
      · exact hL _ h1
      · have hij := hlt i h1
        rw [depsTo_get hij] at h2
        exact ih i hij k (hall i hij) (fun j' hj' => hall j' (by omega)) (hc i (hL i h1)) h2

/-! ### Values -/

def foldW (l : Loc) : List (List Upd × List Loc) → D ⊕ Option Ob → D ⊕ Option Ob
  | [], x => x
  | u :: r, x => foldW l r (wr u.1 l x)

def valL (l : Loc) (L : Nat → Bool) : List (List Upd × List Loc) → Nat → D ⊕ Option Ob → D ⊕ Option Ob
  | [], _, x => x
  | u :: r, i, x => valL l L r (i + 1) (if L i then wr u.1 l x else x)

theorem valL_congr {l : Loc} {L L' : Nat → Bool} : ∀ (us : List (List Upd × List Loc)) (i : Nat) (x : D ⊕ Option Ob), (∀ k, k < us.length → L (i + k) = L' (i + k)) → valL l L us i x = valL l L' us i x
  | [], _, _, _ => rfl
  | u :: r, i, x, h => by
    have h0 := h 0 (by simp)
    simp only [Nat.add_zero] at h0
    simp only [valL, h0]
    exact valL_congr r (i + 1) _ fun k hk => by have := h (k + 1) (by simpa using hk); rw [show i + 1 + k = i + (k + 1) by omega]; exact this

theorem valL_none {l : Loc} {L : Nat → Bool} : ∀ (us : List (List Upd × List Loc)) (i : Nat) (x : D ⊕ Option Ob), (∀ k, k < us.length → l ∈ writes (us.getD k ([], [])).1 → L (i + k) = false) → valL l L us i x = x
  | [], _, _, _ => rfl
  | u :: r, i, x, h => by
    have h0 := h 0 (by simp)
    simp only [Nat.add_zero, List.getD_cons_zero] at h0
    have e : (if L i then wr u.1 l x else x) = x := by
      split
      · rename_i hL
        refine wr_not _ _ _ fun hm => ?_
        rw [h0 hm] at hL; cases hL
      · rfl
    simp only [valL, e]
    exact valL_none r (i + 1) x fun k hk hm => by have := h (k + 1) (by simpa using hk) (by simpa using hm); rw [show i + 1 + k = i + (k + 1) by omega]; exact this

theorem valL_take {l : Loc} {L : Nat → Bool} : ∀ (us : List (List Upd × List Loc)) (i j : Nat) (x : D ⊕ Option Ob), (∀ k, k < us.length → l ∈ writes (us.getD k ([], [])).1 → (L (i + k) = true ↔ k < j)) → valL l L us i x = foldW l (us.take j) x
  | [], _, j, _, _ => by simp [valL, foldW]
  | u :: r, i, 0, x, h => by
    rw [valL_none (u :: r) i x fun k hk hm => by
      have := h k hk hm
      cases hL : L (i + k) with
      | false => rfl
      | true => exact absurd (this.1 hL) (by omega)]
    rfl
  | u :: r, i, j + 1, x, h => by
    have h0 := h 0 (by simp)
    simp only [Nat.add_zero, List.getD_cons_zero] at h0
    have e : (if L i then wr u.1 l x else x) = wr u.1 l x := by
      split
      · rfl
      · rename_i hL
        refine (wr_not _ _ _ fun hm => ?_).symm
        exact hL ((h0 hm).2 (by omega))
    simp only [valL, e, List.take_succ_cons, foldW]
    exact valL_take r (i + 1) j _ fun k hk hm => by
      have := h (k + 1) (by simpa using hk) (by simpa using hm)
      rw [show i + 1 + k = i + (k + 1) by omega, this]; omega

theorem valL_step {l : Loc} {L : Nat → Bool} : ∀ (us : List (List Upd × List Loc)) (i j : Nat) (x : D ⊕ Option Ob), j < us.length → L (i + j) = false →
    (∀ k, j < k → k < us.length → l ∈ writes (us.getD j ([], [])).1 → l ∈ writes (us.getD k ([], [])).1 → L (i + k) = false) →
    valL l (fun k => L k || k == i + j) us i x = wr (us.getD j ([], [])).1 l (valL l L us i x)
  | [], _, _, _, h, _, _ => by simp at h
  | u :: r, i, 0, x, _, hL, h => by
    simp only [Nat.add_zero] at hL ⊢
    have ec : ∀ y, valL l (fun k => L k || k == i) r (i + 1) y = valL l L r (i + 1) y := fun y => valL_congr r (i + 1) y fun k _ => by
      have : (i + 1 + k == i) = false := by simp; omega
      simp [this]
    simp only [valL, hL, beq_self_eq_true, Bool.or_true, if_true, List.getD_cons_zero, ec]
    simp only [Bool.false_eq_true, if_false]
    by_cases hm : l ∈ writes u.1
    · have en : ∀ y, valL l L r (i + 1) y = y := fun y => valL_none r (i + 1) y fun k hk hk2 => by
        have := h (k + 1) (by omega) (by simpa using hk) (by simpa using hm) (by simpa using hk2)
        rw [show i + 1 + k = i + (k + 1) by omega]; exact this
      rw [en, en]
    · rw [wr_not _ _ _ hm, wr_not _ _ _ hm]
  | u :: r, i, j + 1, x, hj, hL, h => by
    have e0 : (i == i + (j + 1)) = false := by simp
    simp only [valL, e0, Bool.or_false, List.getD_cons_succ]
    have := valL_step (l := l) (L := L) r (i + 1) j (if L i then wr u.1 l x else x) (by simpa using hj) (by rw [show i + 1 + j = i + (j + 1) by omega]; exact hL)
      (fun k h1 h2 h3 h4 => by have := h (k + 1) (by omega) (by simpa using h2) (by simpa using h3) (by simpa using h4); rw [show i + 1 + k = i + (k + 1) by omega]; exact this)
    rw [← this]
    rw [show i + 1 + j = i + (j + 1) by omega]

theorem chain_at : ∀ {l : List Oper} {s s' : AS} {us : List (List Upd × List Loc)}, Chain C T ops l s s' us → us.length = l.length ∧ s'.nt = s.nt ∧ (∀ c, s'.at c = foldW c us (s.at c)) ∧
    ∀ j o, l[j]? = some o → ∃ sj : AS, sj.nt = s.nt ∧ (∀ c, sj.at c = foldW c (us.take j) (s.at c)) ∧ OpEv C T ops o sj (us.getD j ([], [])).1 (us.getD j ([], [])).2 ∧ ∀ n, o.dst = some n → n < s.nt
  | [], s, s', us, h => by
    cases h with
    | nil h => exact ⟨rfl, h.nt, fun c => h.at' c, fun j o hj => by simp at hj⟩
  | o :: r, s, s', us, h => by
    cases h with
    | cons hd h hr =>
      rename_i ups R us
      obtain ⟨h1, h2, h3, h4⟩ := chain_at hr
      refine ⟨by simp [h1], by rw [h2, app_nt], fun c => by rw [h3, app_at]; try rfl, fun j o' hj => ?_⟩
      cases j with
      | zero =>
        simp only [List.getElem?_cons_zero, Option.some.injEq] at hj
        subst hj
        exact ⟨s, rfl, fun c => by simp [foldW], by simpa using h, hd⟩
      | succ j =>
        obtain ⟨sj, q1, q2, q3, q4⟩ := h4 j o' (by simpa using hj)
        refine ⟨sj, by rw [q1, app_nt], fun c => by rw [q2, app_at]; try rfl, by simpa using q3, fun n hn => by have := q4 n hn; rwa [app_nt] at this⟩

def unl (n : Nat) (L : Array Bool) : Nat := (List.range n).countP fun k => !L.getD k false

theorem unl_zero {n : Nat} {L : Array Bool} (h : unl n L = 0) : ∀ k, k < n → L.getD k false = true := fun k hk => by
  have := List.countP_eq_zero.1 h k (List.mem_range.2 hk)
  simpa using this

theorem countP_lt {p q : Nat → Bool} {j : Nat} : ∀ {l : List Nat}, j ∈ l → (∀ x, q x = true → p x = true) → p j = true → q j = false → l.countP q < l.countP p
  | [], h, _, _, _ => by cases h
  | x :: r, h, h1, h2, h3 => by
    have hle : ∀ r : List Nat, r.countP q ≤ r.countP p := fun r => List.countP_mono_left fun x _ => h1 x
    simp only [List.countP_cons]
    rcases List.mem_cons.1 h with rfl | h
    · have := hle r; simp only [h2, h3]; simp; omega
    · have ih := countP_lt h h1 h2 h3
      have : (if q x = true then 1 else 0) ≤ (if p x = true then 1 else 0) := by
        split
        · rename_i hq; rw [if_pos (h1 x hq)]; exact Nat.le_refl _
        · exact Nat.zero_le _
      omega

theorem unl_set {n j : Nat} {L : Array Bool} (hs : L.size = n) (hj : j < n) (h : L.getD j false = false) : unl n (L.setIfInBounds j true) < unl n L := by
  unfold unl
  refine countP_lt (j := j) (List.mem_range.2 hj) (fun x hx => ?_) (by simp [h]) ?_
  · simp only [Bool.not_eq_true'] at hx ⊢
    cases hL : L.getD x false with
    | false => rfl
    | true => rw [getD_set_true hL] at hx; cases hx
  · have : j < L.size := by omega
    simp [this]

theorem mem_edges {o : Oper} {j i : Nat} (ho : ops[j]? = some o) : i ∈ edgesOf ops j ↔ ∃ e ∈ o.after, Region.binds .any e = true ∧ e.on = i := by
  unfold edgesOf
  rw [ho]
  simp [and_assoc]

theorem any_go (hT : TOk P T) {Q : Exit → Act → World → Prop} {s0 s' : AS} {us : List (List Upd × List Loc)} {f : Fps} (h : Chain (Con P) T ops ops.toList s0 s' us) (hcov : Covers us f) (hok : okAll ops f = true)
    (hK : ∀ a' w', Rel w0 Z0 s' a' w' → Q .normal a' w') :
    ∀ (fuel : Nat) (L : Array Bool) (s : AS) (a : Act) (w : World), L.size = ops.size → Closed ops (fun k => L.getD k false) → unl ops.size L ≤ fuel → s.nt = s0.nt → (∀ c, s.at c = valL c (fun k => L.getD k false) us 0 (s0.at c)) →
      Rel w0 Z0 s a w → wpAny P .any ops Q fuel L a w := by
  obtain ⟨hlen, hnt, hfin, hop⟩ := chain_at h
  have hlen' : us.length = ops.size := by rw [hlen]; simp
  have hok' : ∀ j, j < ops.size → (∀ i ∈ edgesOf ops j, i < j) ∧ ∀ k, k < j → clash (f.getD k ([], [])) (f.getD j ([], [])) = true → (depStep ops (depsTo ops j) j).testBit k = true := fun j hj => by
    unfold okAll at hok
    have := List.all_eq_true.1 hok j (List.mem_range.2 hj)
    simp only [Bool.and_eq_true, List.all_eq_true, decide_eq_true_eq, List.mem_range, Bool.or_eq_true, Bool.not_eq_true'] at this
    refine ⟨this.1, fun k hk hc => ?_⟩
    rcases this.2 k hk with h1 | h1
    · rw [h1] at hc; cases hc
    · rw [depsTo_get hj] at h1; exact h1
  have hedge : ∀ j, ∀ i ∈ edgesOf ops j, i < j := fun j i hi => by
    rcases Nat.lt_or_ge j ops.size with hj | hj
    · exact (hok' j hj).1 i hi
    · simp [edgesOf, Array.getElem?_eq_none hj] at hi
  -- two operations that meet: the first one comes first
  have hclash : ∀ {k j : Nat} {l : Loc}, k < j → j < ops.size → ((l ∈ writes (us.getD k ([], [])).1 ∧ l ∈ writes (us.getD j ([], [])).1) ∨ (l ∈ writes (us.getD k ([], [])).1 ∧ l ∈ (us.getD j ([], [])).2) ∨ (l ∈ (us.getD k ([], [])).2 ∧ l ∈ writes (us.getD j ([], [])).1)) →
      (depStep ops (depsTo ops j) j).testBit k = true := fun {k j l} hkj hj hm => by
    obtain ⟨e1, e2⟩ := hcov.2 k (by omega)
    obtain ⟨e3, e4⟩ := hcov.2 j (by omega)
    refine (hok' j hj).2 k hkj ?_
    unfold clash
    rw [e1, e3]
    rcases hm with ⟨h1, h2⟩ | ⟨h1, h2⟩ | ⟨h1, h2⟩
    · rw [meets_mem h1 h2, Bool.true_or]
    · rw [meets_mem h1 (e4 _ h2), Bool.true_or, Bool.or_true]
    · rw [meets_mem (e2 _ h1) h2, Bool.or_true, Bool.or_true]
  have hend : ∀ (L : Array Bool) (s : AS) (a : Act) (w : World), (∀ k, k < ops.size → L.getD k false = true) → s.nt = s0.nt → (∀ c, s.at c = valL c (fun k => L.getD k false) us 0 (s0.at c)) → Rel w0 Z0 s a w → Q .normal a w := fun L s a w hall hn hs hR => by
    refine hK _ _ (hR.ext ⟨by rw [hnt, hn], fun c => ?_⟩)
    rw [hfin, hs, valL_take us 0 us.length (s0.at c) fun k hk _ => by
      rw [Nat.zero_add, hall k (by omega)]; simp [hk], List.take_length]
  have hready : ∀ (L : Array Bool), L.size = ops.size → Region.ready .any ops L = [] → ∀ k, k < ops.size → L.getD k false = true := fun L hsz hr k => by
    induction k using Nat.strongRecOn with
    | _ k ih =>
      intro hk
      cases hL : L.getD k false with
      | true => rfl
      | false =>
        exfalso
        have : k ∈ Region.ready .any ops L := by
          rw [mem_ready]
          have hkL : k < L.size := by omega
          refine ⟨by simpa [hkL] using hL, ops[k], by simp [hk], fun e he hb => ?_⟩
          have hi : e.on ∈ edgesOf ops k := (mem_edges (o := ops[k]) (by simp [hk])).2 ⟨e, he, hb, rfl⟩
          have := hedge k _ hi
          exact ih _ this (by omega)
        rw [hr] at this; cases this
  intro fuel
  induction fuel with
  | zero =>
    intro L s a w hsz hc hu hn hs hR
    have hall := unl_zero (Nat.le_zero.1 hu)
    refine ⟨?_, hend L s a w hall hn hs hR⟩
    cases hr : Region.ready .any ops L with
    | nil => rfl
    | cons x r =>
      have hx : x ∈ Region.ready .any ops L := by rw [hr]; simp
      obtain ⟨h1, o, h2, _⟩ := mem_ready.1 hx
      have hlt := (Array.getElem?_eq_some_iff.1 h2).1
      have := hall x hlt
      have hxL : x < L.size := by omega
      simp [hxL] at h1 this
      rw [h1] at this; cases this
  | succ fuel ih =>
    intro L s a w hsz hc hu hn hs hR
    refine ⟨fun hr => hend L s a w (hready L hsz hr) hn hs hR, fun j hj => ?_⟩
    obtain ⟨h1, o, h2, h3⟩ := mem_ready.1 hj
    have hlt := (Array.getElem?_eq_some_iff.1 h2).1
    have hjL : j < L.size := by omega
    have h1' : L.getD j false = false := by simpa [hjL] using h1
    have hdir : ∀ i ∈ edgesOf ops j, L.getD i false = true := fun i hi => by
      obtain ⟨e, he, hb, rfl⟩ := (mem_edges h2).1 hi
      exact h3 e he hb
    have hbefore : ∀ k, (depStep ops (depsTo ops j) j).testBit k = true → L.getD k false = true := fun k hb => deps_listed (L := fun k => L.getD k false) hc j k (hedge j) (fun j' _ => hedge j') hdir hb
    have hafter : ∀ k, k < ops.size → (depStep ops (depsTo ops k) k).testBit j = true → L.getD k false = false := fun k hk hb => by
      cases hL : L.getD k false with
      | false => rfl
      | true =>
        have := deps_listed (L := fun k => L.getD k false) hc k j (hedge k) (fun j' _ => hedge j') (hc k hL) hb
        rw [h1'] at this; cases this
    obtain ⟨sj, q1, q2, q3, q4⟩ := hop j o (by simpa using h2)
    -- what it reads is as in the text
    have hev : OpEv (Con P) T ops o s (us.getD j ([], [])).1 (us.getD j ([], [])).2 := q3.local fun l hl => by
      rw [hs, q2]
      refine valL_take us 0 j _ fun k hk hm => ?_
      rw [Nat.zero_add]
      constructor
      · intro hL
        rcases Nat.lt_trichotomy k j with h | rfl | h
        · exact h
        · rw [h1'] at hL; cases hL
        · have := hafter k (by omega) (hclash h (by omega) (.inr (.inr ⟨hl, hm⟩)))
          rw [this] at hL; cases hL
      · intro hkj
        exact hbefore k (hclash hkj hlt (.inr (.inl ⟨hm, hl⟩)))
    obtain ⟨φ, hR'⟩ := hR
    refine opEv_sound hT hR' h2 (fun n hn' => by rw [hn]; exact q4 n hn') hev fun a' w' hR2 => ?_
    have hL' : (fun k => (L.setIfInBounds j true).getD k false) = fun k => L.getD k false || k == 0 + j := by
      funext k
      by_cases hkj : k = j
      · subst hkj; simp [hjL]
      · have : (k == 0 + j) = false := by simp [hkj]
        rw [this, Bool.or_false]; exact getD_set_ne false (Ne.symm hkj)
    refine ih _ (s.app (us.getD j ([], [])).1) a' w' (by simp [hsz]) (fun k hk i hi => ?_) ?_ (by rw [app_nt, hn]) (fun c => ?_) hR2
    · by_cases hkj : k = j
      · subst hkj; exact getD_set_true (hdir i hi)
      · refine getD_set_true (hc k ?_ i hi)
        dsimp only at hk
        rwa [getD_set_ne false (Ne.symm hkj)] at hk
    · have := unl_set hsz hlt h1'; omega
    · rw [hL', app_at, hs]
      refine (valL_step us 0 j _ (by omega) (by rw [Nat.zero_add]; exact h1') fun k hk1 hk2 hm1 hm2 => ?_).symm
      rw [Nat.zero_add]
      exact hafter k (by omega) (hclash hk1 (by omega) (.inl ⟨hm1, hm2⟩))

theorem rel_drew (hR : Rel w0 Z0 s a w) : Rel w0 Z0 s a { w with drawn := w.drawn + 1 } := by
  obtain ⟨φ, h⟩ := hR
  exact ⟨φ, h.grow ⟨rfl, rfl, rfl, Nat.le_refl _, fun _ _ => rfl⟩⟩

theorem region_any (hT : TOk P T) (hm : P.follows .mixedOrders = true) {id : Nat} {Q : Exit → Act → World → Prop} {s' : AS} {us : List (List Upd × List Loc)} {f : Fps} (h : Chain (Con P) T ops ops.toList s s' us) (hcov : Covers us f) (hok : okAll ops f = true)
    (hR : Rel w0 Z0 s a w) (hK : ∀ a' w', Rel w0 Z0 s' a' w' → Q .normal a' w') : (Code.region id ops true).wp P Q a w := by
  refine wp_region_any hm ?_
  have hgd : ∀ k, (Array.replicate ops.size false).getD k false = false := fun k => by
    rw [Array.getD_eq_getD_getElem?, Array.getElem?_replicate]; split <;> rfl
  refine any_go hT h hcov hok hK ops.size _ s a _ (by simp) (fun j hj => ?_) ?_ rfl (fun c => ?_) (rel_drew hR)
  · dsimp only at hj; rw [hgd] at hj; cases hj
  · unfold unl
    exact Nat.le_trans List.countP_le_length (by simp)
  · exact (valL_none us 0 _ fun k _ _ => by rw [Nat.zero_add]; exact hgd k).symm

def finR (ops : Array Oper) (draw : Bool) (fps : Fps) : Prop := match draw with | true => okAll ops fps.reverse = true | false => True

/-- A region. -/
theorem wp_vcRegion (hT : TOk P T) (hm : P.follows .mixedOrders = true) {id : Nat} {draw : Bool} {Q : Exit → Act → World → Prop} {K : AS → Prop} (h : vcOps (Con P) T ops (finR ops draw) K ops.toList s []) (hR : Rel w0 Z0 s a w)
    (hK : ∀ s' a' w', K s' → Rel w0 Z0 s' a' w' → Q .normal a' w') : (Code.region id ops draw).wp P Q a w := by
  obtain ⟨s', us, f, h1, h2, h3, h4⟩ := vc_chain ops.toList (.refl s) h
  cases draw with
  | false => exact region_text hT h1 hR (hK s' · · h4)
  | true =>
    simp only [finR, List.append_nil, List.reverse_reverse] at h3
    exact region_any hT hm h1 h2 h3 hR (hK s' · · h4)

end
end Go.Abs
/- The walk through code: rules; what a call yields. -/
namespace Go.Abs
open Go Go.RowKit

structure EnvOk (P : Program) (T : Tab) : Prop where
  tok : TOk P T
  mix : P.follows .mixedOrders = true

def AWP (P : Program) (c : Code) (Q : Exit → AS → Prop) (s : AS) : Prop :=
  ∀ w0 Z0 a w, Rel w0 Z0 s a w → c.wp P (fun e a' w' => ∃ s', Rel w0 Z0 s' a' w' ∧ Q e s') a w

def Wk (s t : AS) : Prop := ∀ w0 Z0 a w, Rel w0 Z0 s a w → Rel w0 Z0 t a w

def thenA (K : AS → Prop) (Q : Exit → AS → Prop) : Exit → AS → Prop
  | .normal, s => K s
  | e, s => Q e s

def blockA (id : Nat) (Q : Exit → AS → Prop) : Exit → AS → Prop
  | .exit id', s => if id' = id then Q .normal s else Q (.exit id') s
  | e, s => Q e s

section
variable {P : Program} {T : Tab} {w w' w0 : World} {Z0 : Nat → Prop} {φ : Nat → Value} {s t : AS} {a : Act} {Q : Exit → AS → Prop}

theorem Wk.refl (s : AS) : Wk s s := fun _ _ _ _ h => h
theorem Wk.trans {u : AS} (h : Wk s t) (k : Wk t u) : Wk s u := fun _ _ _ _ h' => k _ _ _ _ (h _ _ _ _ h')
theorem Wk.of_same (h : Same s t) : Wk s t := fun _ _ _ _ h' => h'.ext h

theorem AWP.weaken {c : Code} (h : Wk s t) (k : AWP P c Q t) : AWP P c Q s := fun _ _ _ _ h' => k _ _ _ _ (h _ _ _ _ h')

theorem AWP.seq {x y : Code} (h : ∀ K : AS → Prop, (∀ s, AWP P y Q s → K s) → AWP P x (thenA K Q) s) : AWP P (.seq x y) Q s := fun w0 Z0 a w hR => by
  refine wp_seq (wp_mono (h (AWP P y Q) (fun _ h => h) w0 Z0 a w hR) fun e a' w' hq => ?_)
  obtain ⟨s', hR', hq⟩ := hq
  cases e <;> first | exact hq w0 Z0 a' w' hR' | exact ⟨s', hR', hq⟩

theorem AWP.skip (h : Q .normal s) : AWP P .skip Q s := fun _ _ _ _ hR => wp_skip ⟨s, hR, h⟩
theorem AWP.exit {id : Nat} (h : Q (.exit id) s) : AWP P (.exit id) Q s := fun _ _ _ _ hR => wp_exit ⟨s, hR, h⟩
theorem AWP.ret (h : Q .ret s) : AWP P .ret Q s := fun _ _ _ _ hR => wp_ret ⟨s, hR, h⟩

theorem AWP.block {id : Nat} {c : Code} (h : AWP P c (blockA id Q) s) : AWP P (.block id c) Q s := fun w0 Z0 a w hR => by
  refine wp_block (wp_mono (h w0 Z0 a w hR) fun e a' w' hq => ?_)
  obtain ⟨s', hR', hq⟩ := hq
  cases e with
  | exit id' =>
    simp only [blockA] at hq
    simp only [Exit.inBlock]
    by_cases h : id' = id
    · rw [if_pos h] at hq ⊢; exact ⟨s', hR', hq⟩
    · rw [if_neg h] at hq ⊢; exact ⟨s', hR', hq⟩
  | _ => exact ⟨s', hR', hq⟩

def condA (d : D) (p q : Prop) : Prop := match d with | .bool b => cond2 b p q | .ubool r => (r → p) ∧ q | _ => False

/-- A truth value of which too little is known: what it is. -/
theorem Rel.setB (hR : Rel w0 Z0 s a w) {n : Nat} {b : Bool} (h : a.tmps.getD n Go.undef = .bool b) : Rel w0 Z0 (s.setB n b) a w := by
  obtain ⟨φ, hR⟩ := hR
  refine ⟨φ, hR.size, hR.defers, fun m => ?_, hR.good, hR.below, hR.amb⟩
  show EncS w Z0 s.ob φ (lookD ((n, .bool b) :: s.sl) m) _
  rw [lookD_put]
  split
  · rename_i e; subst e; rw [h]; exact .bool b
  · exact hR.slot m

theorem AWP.cond {n : Nat} {x y : Code} (h : condA (s.get n) (AWP P x Q (s.setB n true)) (AWP P y Q (s.setB n false))) : AWP P (.cond (.tmp n) x y) Q s := fun w0 Z0 a w hR => by
  cases hd : s.get n with
  | bool b =>
    rw [hd] at h
    have hs : a.tmps.getD n Go.undef = .bool b := by
      obtain ⟨φ, h'⟩ := hR
      have := h'.slot n
      rw [hd] at this
      exact slot_bool this
    refine wp_cond (t := b) ?_ ?_
    · exact hs
    · cases b with
      | true => exact h.1 rfl w0 Z0 a w (hR.ext (same_setB hd))
      | false => exact h.2 rfl w0 Z0 a w (hR.ext (same_setB hd))
  | ubool r =>
    rw [hd] at h
    have hs : ∃ b, a.tmps.getD n Go.undef = .bool b ∧ (b = true → r) := by
      obtain ⟨φ, h'⟩ := hR
      have := h'.slot n
      rw [hd] at this
      generalize a.tmps.getD n Go.undef = v at this
      cases this with | ubool _ b hb => exact ⟨b, rfl, hb⟩
    obtain ⟨b, hs, hr⟩ := hs
    refine wp_cond (t := b) ?_ ?_
    · exact hs
    · cases b with
      | true => exact h.1 (hr rfl) w0 Z0 a w (hR.setB hs)
      | false => exact h.2 w0 Z0 a w (hR.setB hs)
  | _ => rw [hd] at h; exact h.elim

theorem AWP.condC {b : Bool} {x y : Code} (h : AWP P (if b then x else y) Q s) : AWP P (.cond (.const (.bool b)) x y) Q s := fun w0 Z0 a w hR => wp_cond (t := b) rfl (h w0 Z0 a w hR)

theorem AWP.region (hE : EnvOk P T) {id : Nat} {ops : Array Oper} {draw : Bool} (h : ∀ K : AS → Prop, (∀ s, Q .normal s → K s) → vcOps (Con P) T ops (finR ops draw) K ops.toList s []) : AWP P (.region id ops draw) Q s := fun w0 Z0 a w hR =>
  wp_vcRegion hE.tok hE.mix (h (Q .normal) fun _ h => h) hR fun s' _ _ hk hR' => ⟨s', hR', hk⟩

theorem AWP.loop {c : Code} {α : Type} (St : α → AS) (μ : α → Nat) (x : α) (h0 : Wk s (St x))
    (round : ∀ x, ∀ K : AS → Prop, (∀ s' y, μ y < μ x → Wk s' (St y) → K s') → AWP P c (thenA K Q) (St x)) : AWP P (.loop c) Q s := fun w0 Z0 a w hR => by
  refine wp_loop_ghost (fun n a w => ∃ x, μ x = n ∧ Rel w0 Z0 (St x) a w) (μ x) ⟨x, rfl, h0 _ _ _ _ hR⟩ fun n a w hI => ?_
  obtain ⟨x, rfl, hR⟩ := hI
  refine wp_mono (round x (fun s' => ∃ y, μ y < μ x ∧ Wk s' (St y)) (fun s' y h1 h2 => ⟨y, h1, h2⟩) w0 Z0 a w hR) fun e a' w' hq => ?_
  obtain ⟨s', hR', hq⟩ := hq
  cases e with
  | normal =>
    obtain ⟨y, h1, h2⟩ := hq
    exact ⟨μ y, h1, y, rfl, h2 _ _ _ _ hR'⟩
  | _ => exact ⟨s', hR', hq⟩

/-! ### Fewer things known -/

def refsB (is : List Nat) : Nat → D → Bool
  | _, .osl id _ => is.contains id
  | _, .ptr id _ _ _ => is.contains id
  | n + 1, .agg cs => cs.all (refsB is n)
  | n + 1, .tup cs => cs.all (refsB is n)
  | n + 1, .fn _ cs => cs.all (refsB is n)
  | _, .agg [] => true
  | _, .fn _ [] => true
  | _, .tup [] => true
  | 0, .agg _ => false
  | 0, .tup _ => false
  | 0, .fn _ _ => false
  | _, _ => true

def obRefs (is : List Nat) (o : Ob) : Bool := !o.box || o.rows.all fun r => r.all (refsB is 3)

def AS.keep (s : AS) (ss is : List Nat) : AS := ⟨s.nt, ss.map fun n => (n, s.get n), is.filterMap fun i => (s.look i).map (i, ·)⟩

def keepOk (s : AS) (ss is : List Nat) : Bool := ss.all (fun n => refsB is 4 (s.get n)) && is.all fun i => match s.look i with | some o => obRefs is o | none => true

theorem Enc.restrict {Z Z' : Nat → Prop} {E E' : Nat → Nat → Value → Prop} {F F' : Nat → Nat → Nat → Nat → Value → Prop} {is : List Nat} {d : D} {v : Value} (h : Enc w Z E F d v) (hZ : ∀ b, Z' b → Z b)
    (hE : ∀ i ver v, i ∈ is → E i ver v → E' i ver v) (hF : ∀ i ver r c v, i ∈ is → F i ver r c v → F' i ver r c v) : ∀ n, refsB is n d = true → Enc w Z' E' F' d v := by
  induction h with
  | undef v => intro n _; exact .undef v
  | void => intro n _; exact .void
  | int k n h => intro m _; exact .int k n h
  | bool b => intro m _; exact .bool b
  | str s h => intro m _; exact .str s h
  | agg cs vs hs h1 h0 ih =>
    intro n hn
    refine .agg cs vs hs h1 fun i hi => ?_
    cases n with
    | succ n => exact ih i hi n (by simp only [refsB, List.all_eq_true] at hn; exact hn _ (getC_mem hi))
    | zero => cases cs with
      | nil => cases hi
      | cons x r => simp [refsB] at hn
  | tup cs vs hs h0 ih =>
    intro n hn
    refine .tup cs vs hs fun i hi => ?_
    cases n with
    | succ n => exact ih i hi n (by simp only [refsB, List.all_eq_true] at hn; exact hn _ (getC_mem hi))
    | zero => cases cs with
      | nil => cases hi
      | cons x r => simp [refsB] at hn
  | fslNil sz => intro n _; exact .fslNil sz
  | fslE sz a c => intro n _; exact .fslE sz a c
  | ubool p b h => intro n _; exact .ubool p b h
  | fsl sz rows b off c cv hc hl hr hz hcell h1 h0 ih =>
    intro n _
    exact .fsl sz rows b off c cv hc hl hr (fun i j hi hj hb => hz i j hi hj (hZ b hb)) hcell h1 fun i j hi hj => by
      have hm := hr _ (getR_mem hi)
      exact ((h0 i j hi hj).mono (Z' := Z') (fun b hb hlt => ⟨rfl, fun h => hb (hZ b h)⟩) (fun _ _ _ h => h) (fun _ _ _ _ _ h => h)).ofPc (hm.2 _ (getC_mem (by rw [hm.1]; exact hj)))
  | nil => intro n _; exact .nil
  | osl id ver v h => intro n hn; exact .osl id ver v (hE _ _ _ (by cases n <;> simpa [refsB] using hn) h)
  | ptr id ver row col v h => intro n hn; exact .ptr id ver row col v (hF _ _ _ _ _ (by cases n <;> simpa [refsB] using hn) h)
  | fptr cells col b off cv hr hz hcell h1 h0 ih =>
    intro n _
    exact .fptr cells col b off cv hr (fun j hj hb => hz j hj (hZ b hb)) hcell h1 fun j hj =>
      ((h0 j hj).mono (Z' := Z') (fun b hb hlt => ⟨rfl, fun h => hb (hZ b h)⟩) (fun _ _ _ h => h) (fun _ _ _ _ _ h => h)).ofPc (hr _ (getC_mem hj))
  | fn f caps vs hs h0 ih =>
    intro n hn
    refine .fn f caps vs hs fun i hi => ?_
    cases n with
    | succ n => exact ih i hi n (by simp only [refsB, List.all_eq_true] at hn; exact hn _ (getC_mem hi))
    | zero => cases caps with
      | nil => cases hi
      | cons x r => simp [refsB] at hn

theorem lookD_map (s : AS) : ∀ (ss : List Nat) (n : Nat), lookD (ss.map fun n => (n, s.get n)) n = s.get n ∧ n ∈ ss ∨ lookD (ss.map fun n => (n, s.get n)) n = .undef
  | [], n => .inr rfl
  | m :: r, n => by
    simp only [List.map_cons, lookD_put]
    by_cases h : m = n
    · subst h; exact .inl ⟨by simp, by simp⟩
    · rw [if_neg h]
      rcases lookD_map s r n with ⟨h1, h2⟩ | h1
      · exact .inl ⟨h1, by simp [h2]⟩
      · exact .inr h1

theorem look_filterMap (s : AS) : ∀ (is : List Nat) (i : Nat), Abs.look (is.filterMap fun i => (s.look i).map (i, ·)) i = if i ∈ is then s.look i else none
  | [], i => rfl
  | j :: r, i => by
    have ih := look_filterMap s r i
    cases hj : s.look j with
    | none =>
      simp only [List.filterMap_cons, hj, Option.map_none, ih, List.mem_cons]
      by_cases e : i = j
      · subst e; rw [hj]; split <;> simp
      · simp [e]
    | some o =>
      simp only [List.filterMap_cons, hj, Option.map_some, look_put, List.mem_cons]
      by_cases e : j = i
      · subst e; simp [hj]
      · rw [if_neg e, ih]; simp [Ne.symm e]

theorem Wk.keep {ss is : List Nat} (h : keepOk s ss is = true) : Wk s (s.keep ss is) := fun w0 Z0 a w hR => by
  obtain ⟨φ, hR⟩ := hR
  simp only [keepOk, Bool.and_eq_true, List.all_eq_true] at h
  have hlk : ∀ i, Abs.look (s.keep ss is).ob i = if i ∈ is then s.look i else none := look_filterMap s is
  have hlk' : ∀ i o, Abs.look (s.keep ss is).ob i = some o → i ∈ is ∧ Abs.look s.ob i = some o := fun i o h => by
    rw [hlk] at h
    split at h
    · exact ⟨‹_›, h⟩
    · cases h
  have hZ : ∀ b, ZZ Z0 (s.keep ss is).ob φ b → ZZ Z0 s.ob φ b := fun b hb => by
    rcases hb with hb | ⟨i, o, h1, h2, h3⟩
    · exact .inl hb
    · exact .inr ⟨i, o, (hlk' i o h1).2, h2, h3⟩
  have hE : ∀ i ver v, i ∈ is → oslE s.ob φ i ver v → oslE (s.keep ss is).ob φ i ver v := fun i ver v hi ⟨o, h1, h2⟩ => ⟨o, by rw [hlk, if_pos hi]; exact h1, h2⟩
  have hF : ∀ i ver r c v, i ∈ is → ptrF s.ob φ i ver r c v → ptrF (s.keep ss is).ob φ i ver r c v := fun i ver r c v hi ⟨o, h1, h2⟩ => ⟨o, by rw [hlk, if_pos hi]; exact h1, h2⟩
  refine ⟨φ, hR.size, hR.defers, fun n => ?_, ⟨fun i j oi oj b hi hj => hR.good.inj i j oi oj b (hlk' i oi hi).2 (hlk' j oj hj).2, fun i o hi => ?_⟩, hR.below, hR.amb⟩
  · show EncS w Z0 (s.keep ss is).ob φ (lookD (ss.map fun n => (n, s.get n)) n) _
    rcases lookD_map s ss n with ⟨h1, h2⟩ | h1
    · rw [h1]; exact (hR.slot n).restrict hZ hE hF 4 (h.1 n h2)
    · rw [h1]; exact .undef _
  · obtain ⟨him, hi'⟩ := hlk' i o hi
    have hok := hR.good.ok i o hi'
    have hre := h.2 i him
    rw [show s.look i = some o from hi'] at hre
    obtain ⟨xs, hx, h1, h2⟩ := hok.there
    refine ⟨hok.pure, xs, ⟨hx.len, hx.row, fun p q hp hq => ?_, hx.one, hx.lim⟩, h1, h2⟩
    have he := hx.enc p q hp hq
    have hmem : getC (getR o.rows p) q ∈ getR o.rows p := getC_mem (by rw [hx.row _ (getR_mem hp)]; exact hq)
    cases hbox : o.box with
    | false => exact (he.mono (Z' := ZZ Z0 (s.keep ss is).ob φ) (fun b hb hlt => ⟨rfl, fun h => hb (hZ b h)⟩) (fun _ _ _ h => h) (fun _ _ _ _ _ h => h)).ofPc (hok.pure hbox _ (getR_mem hp) _ hmem)
    | true =>
      simp only [obRefs, hbox, Bool.not_true, Bool.false_or, List.all_eq_true] at hre
      exact he.restrict hZ hE hF 3 (hre _ (getR_mem hp) _ hmem)

/-- Weakening, as told by what is kept. -/
theorem Wk.of_keep {ss is : List Nat} (h : keepOk s ss is = true) (e : s.keep ss is = t) : Wk s t := e ▸ Wk.keep h

/-- A nil slice is an own slice without elements. -/
theorem Wk.ghost {n id ver sz : Nat} {ty : TypeId} (hn : s.get n = .nil) (hv : ∀ o, s.look id = some o → o.ver < ver) :
    Wk s { s with sl := (n, .osl id ver) :: s.sl, ob := (id, ⟨ver, true, false, sz, ty, []⟩) :: s.ob } := fun w0 Z0 a w hR => by
  obtain ⟨φ, hR⟩ := hR
  have hg : w.grownBy w none := ⟨rfl, rfl, rfl, Nat.le_refl _, fun _ _ _ => rfl⟩
  have ht : Turns w w s.ob φ id ⟨ver, true, false, sz, ty, []⟩ (.slice none 0 0) none := Turns.alloc hv hg (fun b hb => by cases hb)
  have h1 := hR.turn ht ⟨fun _ r hr => (by cases hr), [], rowsEnc_nil, fun _ => World.ownsRow_nil w w0.heap.size ty sz, fun h => (by cases h)⟩
  refine ⟨_, h1.size, h1.defers, fun m => ?_, h1.good, h1.below, h1.amb⟩
  show EncS w Z0 _ _ (lookD ((n, .osl id ver) :: s.sl) m) _
  rw [lookD_put]
  split
  · rename_i e; subst e
    have h2 := hR.slot n
    rw [hn] at h2
    generalize a.tmps.getD n Go.undef = u at h2 ⊢
    have hv : u = .slice none 0 0 := by cases h2; rfl
    rw [hv]
    exact .osl id ver _ ⟨_, by rw [look_put, if_pos rfl], Nat.le_refl _, fun _ => by simp [upd], rfl⟩
  · exact h1.slot m

end
end Go.Abs
/- What a function hands out, and the contract of a function from its body. -/
namespace Go.Abs
open Go Go.RowKit

/-! ### Facts about arguments -/

inductive DOk : D → Prop
  | int (k : IntKind) (n : Int) (h : k.has n) : DOk (.int k n)
  | str (s : ByteArray) (h : s.size ≤ lim) : DOk (.str s)
  | fsl (sz : Nat) (rows : List (List D)) (hl : rows.length ≤ lim) (hr : ∀ r ∈ rows, r.length = sz) (h : ∀ r ∈ rows, ∀ d ∈ r, DOk d) : DOk (.fsl sz rows)
  | agg (cs : List D) (h : ∀ d ∈ cs, DOk d) : DOk (.agg cs)
  | tup (cs : List D) : DOk (.tup cs)
  | undef : DOk .undef
  | void : DOk .void
  | bool (b : Bool) : DOk (.bool b)
  | nil : DOk .nil
  | osl (id ver : Nat) : DOk (.osl id ver)
  | ptr (id ver r c : Nat) : DOk (.ptr id ver r c)
  | fptr (cells : List D) (col : Nat) (h : ∀ d ∈ cells, DOk d) : DOk (.fptr cells col)
  | fn (f : FuncId) (caps : List D) (h : ∀ d ∈ caps, DOk d) : DOk (.fn f caps)
  | ubool (p : Prop) : DOk (.ubool p)

theorem mem_getC {cs : List D} {d : D} (h : d ∈ cs) : ∃ i, i < cs.length ∧ getC cs i = d := by
  obtain ⟨i, hi, e⟩ := List.getElem_of_mem h
  exact ⟨i, hi, by rw [getC, List.getD_eq_getElem?_getD, List.getElem?_eq_getElem hi]; exact e⟩

theorem mem_getR {cs : List (List D)} {d : List D} (h : d ∈ cs) : ∃ i, i < cs.length ∧ getR cs i = d := by
  obtain ⟨i, hi, e⟩ := List.getElem_of_mem h
  exact ⟨i, hi, by rw [getR, List.getD_eq_getElem?_getD, List.getElem?_eq_getElem hi]; exact e⟩

theorem Enc.ok {w : World} {Z : Nat → Prop} {E : Nat → Nat → Value → Prop} {F : Nat → Nat → Nat → Nat → Value → Prop} {d : D} {v : Value} (h : Enc w Z E F d v) : DOk d := by
  induction h with
  | undef v => exact .undef
  | void => exact .void
  | int k n h => exact .int k n h
  | bool b => exact .bool b
  | str s h => exact .str s h
  | agg cs vs hs h1 _ ih => exact .agg cs fun d hd => by obtain ⟨i, hi, rfl⟩ := mem_getC hd; exact ih i hi
  | tup cs vs hs _ ih => exact .tup cs
  | fslNil sz => exact .fsl sz [] (by simp [lim]) (by simp) (by simp)
  | fslE sz a c => exact .fsl sz [] (by simp [lim]) (by simp) (by simp)
  | ubool p b h => exact .ubool p
  | fsl sz rows b off c cv hc hl hr hz hcell h1 _ ih =>
    refine .fsl sz rows hl (fun r hr' => (hr r hr').1) fun r hr' d hd => ?_
    obtain ⟨i, hi, rfl⟩ := mem_getR hr'
    obtain ⟨j, hj, rfl⟩ := mem_getC hd
    exact ih i j hi (by rw [← (hr _ hr').1]; exact hj)
  | nil => exact .nil
  | osl id ver v h => exact .osl _ _
  | ptr id ver row col v h => exact .ptr _ _ _ _
  | fptr cells col b off cv hr hz hcell h1 _ ih => exact .fptr cells col fun d hd => by obtain ⟨i, hi, rfl⟩ := mem_getC hd; exact ih i hi
  | fn f caps vs hs _ ih => exact .fn f caps fun d hd => by obtain ⟨i, hi, rfl⟩ := mem_getC hd; exact ih i hi

/-! ### Results -/

def expCell (d : D) (k : D → List Nat → List Nat → AR) : AR :=
  match d with
  | .osl id ver => .look id fun
    | some b => match b.mt with
      | true => .req (b.ver = ver ∧ b.box = false) (k (.nsl b.ty b.sz b.rows) [id] [])
      | false => .req (b.ver = ver ∧ b.box = false) (k (.fsl b.sz b.rows) [] [id])
    | none => .fail
  | .int _ _ | .bool _ | .str _ | .nil | .fsl _ _ => k d [] []
  | _ => .fail

def expCells : List D → (List D → List Nat → List Nat → AR) → AR
  | [], k => k [] [] []
  | d :: r, k => expCell d fun d' n1 f1 => expCells r fun r' n2 f2 => k (d' :: r') (n1 ++ n2) (f1 ++ f2)

def expTop (d : D) (k : D → List Nat → List Nat → AR) : AR :=
  match d with
  | .agg cs => expCells cs fun cs' n f => k (.agg cs') n f
  | d => expCell d k

def expTops : List D → (List D → List Nat → List Nat → AR) → AR
  | [], k => k [] [] []
  | d :: r, k => expTop d fun d' n1 f1 => expTops r fun r' n2 f2 => k (d' :: r') (n1 ++ n2) (f1 ++ f2)

def resVars (T : Tab) : List ResultVar → (List D → AR) → AR
  | [], k => k []
  | .tmp t :: r, k => .get t fun d => resVars T r fun ds => k (d :: ds)
  | .cell a t :: r, k => .get a fun
    | .ptr id ver row col => .look id fun
      | some b => .req (b.ver = ver ∧ row < b.rows.length) (takeT T t (getR b.rows row) col fun d => resVars T r fun ds => k (d :: ds))
      | none => .fail
    | _ => .fail

def mkR : List D → D
  | [d] => d
  | ds => .tup ds

/-- What is told of a result may be less than what is known: nil is a fresh slice without elements. -/
def nilR : D → Prop
  | .nsl _ _ rows => rows = []
  | .nil => True
  | _ => False

def leR (a b : D) : Prop :=
  match a with
  | .nil => nilR b
  | a => a = b

def resAll (T : Tab) (rs : List ResultVar) (r : D) : AR := resVars T rs fun ds => expTops ds fun ds' nl _ => .req (nl.Nodup ∧ leR (mkR ds') r) (.ret [])

def okRet (_ : List Upd) (_ : List Loc) : Prop := True

/-- What must hold at a return. -/
def retA (C : Cons) (T : Tab) (rs : List ResultVar) (r : D) : Exit → AS → Prop
  | .normal, s => (resAll T rs r).wp C s [] okRet
  | .ret, s => (resAll T rs r).wp C s [] okRet
  | _, _ => False

section
variable {C : Cons} {P : Program} {T : Tab} {w w' w0 : World} {Z0 : Nat → Prop} {φ : Nat → Value} {s t : AS} {a : Act}

structure ExpOk (w : World) (w0 : World) (Z0 : Nat → Prop) (φ : Nat → Value) (s : AS) (ds : List D) (impf : Nat → (Nat → Nat) → Nat → List D × Obs × Nat) (nl fl : List Nat) : Prop where
  hnl : ∀ id ∈ nl, ∃ o, s.look id = some o ∧ o.mt = true ∧ o.box = false
  hfl : ∀ id ∈ fl, ∃ o, s.look id = some o ∧ o.mt = false
  num : ∀ off vf k0, (impf off vf k0).2.2 = k0 + nl.length
  obs : ∀ off vf k0, ∀ x ∈ (impf off vf k0).2.1, ∃ j o, j < nl.length ∧ x.1 = off + (k0 + j) ∧ s.look (nl.getD j 0) = some o ∧ x.2 = { o with ver := vf (k0 + j) }
  has : ∀ off vf k0 j, j < nl.length → ∃ o, s.look (nl.getD j 0) = some o ∧ (off + (k0 + j), { o with ver := vf (k0 + j) }) ∈ (impf off vf k0).2.1
  len : ∀ off vf k0, (impf off vf k0).1.length = ds.length
  enc : ∀ off vf k0 i v Z' (E : Nat → Nat → Value → Prop) (F : Nat → Nat → Nat → Nat → Value → Prop), i < ds.length → EncS w Z0 s.ob φ (getC ds i) v → Avoids s Z0 φ w fl Z' →
    (∀ j, j < nl.length → (φ (nl.getD j 0)).oneCell' = true → E (off + (k0 + j)) (vf (k0 + j)) (φ (nl.getD j 0))) → Enc w Z' E F (getC (impf off vf k0).1 i) v

/-- One after the other. -/
theorem ExpOk.cons {d : D} {ds : List D} {f g h : Nat → (Nat → Nat) → Nat → List D × Obs × Nat} {n1 n2 f1 f2 : List Nat} (h1 : ExpOk w w0 Z0 φ s [d] f n1 f1) (h2 : ExpOk w w0 Z0 φ s ds g n2 f2)
    (hh : ∀ off vf k, h off vf k = (getC (f off vf k).1 0 :: (g off vf (f off vf k).2.2).1, (f off vf k).2.1 ++ (g off vf (f off vf k).2.2).2.1, (g off vf (f off vf k).2.2).2.2)) :
    ExpOk w w0 Z0 φ s (d :: ds) h (n1 ++ n2) (f1 ++ f2) := by
  have gl : ∀ j, j < n1.length → (n1 ++ n2).getD j 0 = n1.getD j 0 := fun j hj => by simp [List.getElem?_append_left hj]
  have gr : ∀ j, (n1 ++ n2).getD (n1.length + j) 0 = n2.getD j 0 := fun j => by simp [List.getElem?_append_right]
  refine ⟨fun id hi => ?_, fun id hi => ?_, fun off vf k => ?_, fun off vf k x hx => ?_, fun off vf k j hj => ?_, fun off vf k => ?_, fun off vf k i v Z' E F hi hd ha hE => ?_⟩
  · rcases List.mem_append.1 hi with hi | hi
    · exact h1.hnl id hi
    · exact h2.hnl id hi
  · rcases List.mem_append.1 hi with hi | hi
    · exact h1.hfl id hi
    · exact h2.hfl id hi
  · rw [hh]; simp only [h2.num, h1.num, List.length_append]; omega
  · rw [hh] at hx
    rcases List.mem_append.1 hx with hx | hx
    · obtain ⟨j, o, q1, q2, q3, q4⟩ := h1.obs off vf k x hx
      exact ⟨j, o, by simp; omega, q2, by rw [gl j q1]; exact q3, q4⟩
    · obtain ⟨j, o, q1, q2, q3, q4⟩ := h2.obs off vf _ x hx
      rw [h1.num] at q2 q4
      exact ⟨n1.length + j, o, by simp; omega, by rw [q2]; omega, by rw [gr j]; exact q3, by rw [q4, Nat.add_assoc]⟩
  · rw [hh]
    rcases Nat.lt_or_ge j n1.length with hlt | hge
    · obtain ⟨o, q1, q2⟩ := h1.has off vf k j hlt
      exact ⟨o, by rw [gl j hlt]; exact q1, List.mem_append_left _ q2⟩
    · obtain ⟨m, rfl⟩ := Nat.exists_eq_add_of_le hge
      obtain ⟨o, q1, q2⟩ := h2.has off vf (k + n1.length) m (by simp at hj; omega)
      refine ⟨o, by rw [gr m]; exact q1, List.mem_append_right _ ?_⟩
      rw [h1.num]
      rw [show k + (n1.length + m) = k + n1.length + m by omega]
      exact q2
  · rw [hh]; simp only [List.length_cons, h2.len]
  · rw [hh]
    cases i with
    | zero =>
      exact h1.enc off vf k 0 v Z' E F (by simp) hd (ha.sub (fun i hi => by simp [hi])) fun j hj ho => by
        have := hE j (by simp; omega)
        rw [gl j hj] at this
        exact this ho
    | succ i =>
      refine h2.enc off vf _ i v Z' E F (by simpa using hi) hd (ha.sub (fun i hi => by simp [hi])) fun j hj ho => ?_
      have := hE (n1.length + j) (by simp; omega)
      rw [gr j] at this
      rw [h1.num, Nat.add_assoc]
      exact this ho

theorem impC_cons (off : Nat) (vf : Nat → Nat) (d : D) (ds : List D) (k : Nat) : impC off vf (d :: ds) k = (getC (impC off vf [d] k).1 0 :: (impC off vf ds (impC off vf [d] k).2.2).1, (impC off vf [d] k).2.1 ++ (impC off vf ds (impC off vf [d] k).2.2).2.1, (impC off vf ds (impC off vf [d] k).2.2).2.2) := by
  cases d <;> rfl

theorem impL_cons (off : Nat) (vf : Nat → Nat) (d : D) (ds : List D) (k : Nat) : impL off vf (d :: ds) k = (getC (impL off vf [d] k).1 0 :: (impL off vf ds (impL off vf [d] k).2.2).1, (impL off vf [d] k).2.1 ++ (impL off vf ds (impL off vf [d] k).2.2).2.1, (impL off vf ds (impL off vf [d] k).2.2).2.2) := by
  cases d <;> first | rfl | (simp [impL, getC])

theorem expCell_ev (hR : RelF w0 Z0 φ s a w) {d : D} {k : D → List Nat → List Nat → AR} {ups : List Upd} {R : List Loc} (h : (expCell d k).Ev C s ups R) :
    ∃ d' nl fl R', (k d' nl fl).Ev C s ups R' ∧ ExpOk w w0 Z0 φ s [d] (fun off vf k => impC off vf [d'] k) nl fl ∧ (∀ off vf k, impL off vf [d'] k = impC off vf [d'] k) ∧ (∀ vs, d' ≠ .tup vs) := by
  have keep : ∀ {d : D}, D.pc d = true → (∀ off vf k, impC off vf [d] k = ([d], [], k)) → ExpOk w w0 Z0 φ s [d] (fun off vf k => impC off vf [d] k) [] [] := fun {d} hp hi => by
    refine ⟨by simp, by simp, fun off vf k => by rw [hi]; try rfl, fun off vf k x hx => (by rw [hi] at hx; cases hx), fun off vf k j hj => (by cases hj), fun off vf k => by rw [hi], fun off vf k i v Z' E F h1 hd ha _ => ?_⟩
    obtain rfl : i = 0 := by simpa using h1
    rw [hi]
    exact Enc.ofPc (hd.mono (w' := w) (Z' := Z') (fun b hz hlt => ⟨rfl, ha.1 b hlt hz⟩) (fun _ _ _ h => h) (fun _ _ _ _ _ h => h)) hp
  cases d <;> (try exact h.elim)
  case osl id ver =>
    obtain ⟨R1, _, h⟩ := h
    cases ho : s.look id with
    | none => rw [ho] at h; exact h.elim
    | some b =>
      rw [ho] at h
      dsimp only at h
      cases hm : b.mt with
      | true =>
        rw [hm] at h
        obtain ⟨⟨hv, hbox⟩, h⟩ := h
        refine ⟨_, _, _, R1, h, ⟨fun i hi => ?_, by simp, fun off vf k => rfl, fun off vf k x hx => ?_, fun off vf k j hj => ?_, fun off vf k => rfl, fun off vf k i v Z' E F h1 hd ha hE => ?_⟩, fun off vf k => rfl, fun vs e => (by cases e)⟩
        · obtain rfl : i = id := by simpa using hi
          exact ⟨b, ho, hm, hbox⟩
        · obtain rfl : x = (off + k, ⟨vf k, true, false, b.sz, b.ty, b.rows⟩) := by simpa [impC] using hx
          exact ⟨0, b, by simp, rfl, ho, by simp [hm, hbox]⟩
        · obtain rfl : j = 0 := by simpa using hj
          exact ⟨b, ho, by simp [impC, hm, hbox]⟩
        · obtain rfl : i = 0 := by simpa using h1
          cases hd with
          | osl _ _ _ hp =>
            obtain ⟨o1, g1, g2, g3, g4⟩ := hp
            obtain rfl : o1 = b := Option.some.inj (g1.symm.trans ho)
            have e := g3 hv
            refine .osl _ _ _ ?_
            have := hE 0 (by simp) (by rw [List.getD_cons_zero, ← e]; exact g4)
            rw [List.getD_cons_zero, ← e] at this
            exact this
      | false =>
        rw [hm] at h
        obtain ⟨⟨hv, hbox⟩, h⟩ := h
        refine ⟨_, _, _, R1, h, ⟨by simp, fun i hi => ?_, fun off vf k => rfl, fun off vf k x hx => (by cases hx), fun off vf k j hj => (by cases hj), fun off vf k => rfl, fun off vf k i v Z' E F h1 hd ha hE => ?_⟩, fun off vf k => rfl, fun vs e => (by cases e)⟩
        · obtain rfl : i = id := by simpa using hi
          exact ⟨b, ho, hm⟩
        · obtain rfl : i = 0 := by simpa using h1
          exact osl_value hR hd ho hv hbox ha
  all_goals exact ⟨_, _, _, R, h, keep rfl (fun _ _ _ => rfl), fun off vf k => rfl, fun vs e => (by cases e)⟩

theorem ExpOk.nil : ExpOk w w0 Z0 φ s [] (fun _ _ k => ([], [], k)) [] [] := ⟨by simp, by simp, fun _ _ _ => rfl, by simp, by simp, fun _ _ _ => rfl, by simp⟩

theorem expCells_ev (hR : RelF w0 Z0 φ s a w) : ∀ {ds : List D} {k : List D → List Nat → List Nat → AR} {ups : List Upd} {R : List Loc}, (expCells ds k).Ev C s ups R →
    ∃ ds' nl fl R', (k ds' nl fl).Ev C s ups R' ∧ ExpOk w w0 Z0 φ s ds (fun off vf k => impC off vf ds' k) nl fl
  | [], k, ups, R, h => ⟨_, _, _, R, h, .nil⟩
  | d :: r, k, ups, R, h => by
    obtain ⟨d', n1, f1, R1, h1, e1, _, _⟩ := expCell_ev hR h
    obtain ⟨r', n2, f2, R2, h2, e2⟩ := expCells_ev hR h1
    exact ⟨_, _, _, R2, h2, e1.cons e2 fun off vf k => impC_cons off vf d' r' k⟩

theorem expTop_ev (hR : RelF w0 Z0 φ s a w) {d : D} {k : D → List Nat → List Nat → AR} {ups : List Upd} {R : List Loc} (h : (expTop d k).Ev C s ups R) :
    ∃ d' nl fl R', (k d' nl fl).Ev C s ups R' ∧ ExpOk w w0 Z0 φ s [d] (fun off vf k => impL off vf [d'] k) nl fl ∧ (∀ vs, d' ≠ .tup vs) := by
  cases d
  case agg cs =>
    obtain ⟨cs', nl, fl, R1, h1, e⟩ := expCells_ev hR h
    refine ⟨_, _, _, R1, h1, ⟨e.hnl, e.hfl, fun off vf k => by simpa [impL] using e.num off vf k, fun off vf k x hx => e.obs off vf k x (by simpa [impL] using hx), fun off vf k j hj => ?_, fun off vf k => rfl, fun off vf k i v Z' E F hi hd ha hE => ?_⟩, fun vs e => (by cases e)⟩
    · obtain ⟨o, q1, q2⟩ := e.has off vf k j hj
      exact ⟨o, q1, by simpa [impL] using q2⟩
    · obtain rfl : i = 0 := by simpa using hi
      simp only [impL, getC, List.getD_cons_zero] at hd ⊢
      cases hd with
      | agg _ vs hs h1 hc =>
        have hl := e.len off vf k
        exact .agg _ vs (by omega) (fun i hi => h1 i (by omega)) fun i hi => e.enc off vf k i _ Z' E F (by omega) (hc i (by omega)) ha hE
  all_goals
    simp only [expTop] at h
    obtain ⟨d', nl, fl, R1, h1, e1, e2, e3⟩ := expCell_ev hR h
    exact ⟨d', nl, fl, R1, h1, by simpa only [e2] using e1, e3⟩

theorem expTops_ev (hR : RelF w0 Z0 φ s a w) : ∀ {ds : List D} {k : List D → List Nat → List Nat → AR} {ups : List Upd} {R : List Loc}, (expTops ds k).Ev C s ups R →
    ∃ ds' nl fl R', (k ds' nl fl).Ev C s ups R' ∧ ExpOk w w0 Z0 φ s ds (fun off vf k => impL off vf ds' k) nl fl ∧ ds'.length = ds.length ∧ ∀ d ∈ ds', ∀ vs, d ≠ .tup vs
  | [], k, ups, R, h => ⟨_, _, _, R, h, .nil, rfl, by simp⟩
  | d :: r, k, ups, R, h => by
    obtain ⟨d', n1, f1, R1, h1, e1, t1⟩ := expTop_ev hR h
    obtain ⟨r', n2, f2, R2, h2, e2, l2, t2⟩ := expTops_ev hR h1
    refine ⟨_, _, _, R2, h2, e1.cons e2 fun off vf k => impL_cons off vf d' r' k, by simp [l2], fun x hx => ?_⟩
    rcases List.mem_cons.1 hx with rfl | hx
    · exact t1
    · exact t2 x hx

def resF (tmps : Array Value) : ResultVar → Sem Value
  | .tmp t => pure (tmps.getD t undef)
  | .cell a t => do loadVar t (← asAddr (tmps.getD a undef))

theorem results_run {fn : Func} {tmps : Array Value} {vs : List Value} (h : (fn.results.toList.mapM (resF tmps)).run P w = .ok vs w) :
    (results fn tmps).run P w = .ok (if h : vs.toArray.size = 1 then vs.toArray[0] else .tuple vs.toArray) w := by
  have e : results fn tmps = (do let vs ← fn.results.mapM (resF tmps); pure (if h : vs.size = 1 then vs[0] else .tuple vs)) := by
    unfold results
    congr 1
  rw [e, Array.mapM_eq_mapM_toList, map_eq_pure_bind]
  simp only [Sem.run_bind, h, Result.andThen_ok, Sem.run_pure]

theorem resVars_ev (hT : TOk P T) (hR : RelF w0 Z0 φ s a w) : ∀ {rs : List ResultVar} {k : List D → AR} {ups : List Upd} {R : List Loc}, (resVars T rs k).Ev C s ups R →
    ∃ ds vs R', (k ds).Ev C s ups R' ∧ (rs.mapM (resF a.tmps)).run P w = .ok vs w ∧ vs.length = ds.length ∧ ∀ i, i < ds.length → EncS w Z0 s.ob φ (getC ds i) (vs.getD i Go.undef)
  | [], k, ups, R, h => ⟨[], [], R, h, rfl, rfl, by simp⟩
  | .tmp t :: r, k, ups, R, h => by
    obtain ⟨R1, _, h⟩ := h
    obtain ⟨ds, vs, R', h1, h2, h3, h4⟩ := resVars_ev hT hR h
    refine ⟨_, a.tmps.getD t Go.undef :: vs, R', h1, ?_, by simp [h3], fun i hi => ?_⟩
    · simp only [List.mapM_cons, Sem.run_bind, resF, Sem.run_pure, Result.andThen_ok, h2]
    · cases i with
      | zero => exact hR.slot t
      | succ i => exact h4 i (by simpa using hi)
  | .cell ad t :: r, k, ups, R, h => by
    obtain ⟨R1, _, h⟩ := h
    have hs := hR.slot ad
    cases hd : s.get ad <;> rw [hd] at h <;> (try exact h.elim)
    rename_i id ver row col
    obtain ⟨R2, _, h⟩ := h
    rw [hd] at hs
    generalize hx : a.tmps.getD ad Go.undef = xv at hs
    cases hs with
    | ptr _ _ _ _ _ hp =>
      obtain ⟨o1, h1, h2, h3, h4⟩ := hp
      rw [show s.look id = some o1 from h1] at h
      obtain ⟨⟨hv, hrow⟩, h⟩ := h
      obtain ⟨b, hb, rfl⟩ := h3 hv
      have hok := hR.good.ok id o1 h1
      have hrl : (getR o1.rows row).length = o1.sz := by obtain ⟨xs, hx, _⟩ := hok.there; exact hx.row _ (getR_mem hrow)
      have hQ : ∀ (cs : List D) (vs : Array Value), vs.size = cs.length → (∀ i, i < cs.length → EncS w Z0 s.ob φ (getC cs i) (vs.getD i Go.undef) ∧ (vs.getD i Go.undef).oneCell' = true) → EncS w Z0 s.ob φ (.agg cs) (.agg vs) :=
        fun cs vs h1 h2 => .agg cs vs h1 (fun i hi => (h2 i hi).2) (fun i hi => (h2 i hi).1)
      obtain ⟨d, v, g1, g2, g3⟩ := load_of (Q := EncS w Z0 s.ob φ) (b := b) (off := row * o1.sz) hT hQ (fun j hj => ob_cell hok hb hrow (by omega)) h
      obtain ⟨ds, vs, R', q1, q2, q3, q4⟩ := resVars_ev hT hR g3
      refine ⟨_, v :: vs, R', q1, ?_, by simp [q3], fun i hi => ?_⟩
      · simp only [List.mapM_cons, Sem.run_bind, resF, hx, asAddr, Sem.run_pure, Result.andThen_ok, g1, q2]
      · cases i with
        | zero => exact g2
        | succ i => exact q4 i (by simpa using hi)

theorem post_of (hR : RelF w0 Z0 φ s a w) {ds ds' : List D} {vs : List Value} {nl fl : List Nat} (e : ExpOk w w0 Z0 φ s ds (fun off vf k => impL off vf ds' k) nl fl) (hl : ds'.length = ds.length) (ht : ∀ d ∈ ds', ∀ vs, d ≠ .tup vs) (hn : nl.Nodup)
    (hvl : vs.length = ds.length) (hv : ∀ i, i < ds.length → EncS w Z0 s.ob φ (getC ds i) (vs.getD i Go.undef)) :
    Post w0 Z0 (mkR ds') (if h : vs.toArray.size = 1 then vs.toArray[0] else .tuple vs.toArray) w := by
  refine ⟨hR.below, fun k => φ (nl.getD k 0), fun off vf => ?_⟩
  let ob' := (impL off vf ds' 0).2.1
  let ψ : Nat → Value := fun i => φ (nl.getD (i - off) 0)
  have hob : ∀ i o, look ob' i = some o → ∃ j o1, j < nl.length ∧ i = off + j ∧ s.look (nl.getD j 0) = some o1 ∧ o = { o1 with ver := vf j } ∧ ψ i = φ (nl.getD j 0) := fun i o h => by
    obtain ⟨j, o1, q1, q2, q3, q4⟩ := e.obs off vf 0 _ (look_mem h)
    rw [Nat.zero_add] at q2 q4
    simp only at q2 q4
    exact ⟨j, o1, q1, q2, q3, q4, by simp only [ψ, q2]; congr 2; omega⟩
  have hmem : ∀ {j}, j < nl.length → nl.getD j 0 ∈ nl := fun {j} hj => by rw [List.getD_eq_getElem?_getD, List.getElem?_eq_getElem hj]; exact List.getElem_mem hj
  have hZ : ∀ b, ZZ Z0 ob' ψ b → ZZ Z0 s.ob φ b := fun b hb => by
    rcases hb with hb | ⟨i, o, h1, h2, h3⟩
    · exact .inl hb
    · obtain ⟨j, o1, q1, rfl, q3, rfl, q5⟩ := hob i o h1
      rw [q5] at h3
      exact .inr ⟨_, o1, q3, h2, h3⟩
  have hav : Avoids s Z0 φ w fl (ZZ Z0 ob' ψ) := by
    refine ⟨fun b _ hz h => hz (hZ b h), fun id hi b hb h => ?_⟩
    obtain ⟨o, g1, g2⟩ := e.hfl id hi
    rcases h with h0 | ⟨i, o2, h1, h2, h3⟩
    · have := (hR.good.ok id o g1).block_ge hb
      have := hR.amb b h0
      omega
    · obtain ⟨j, o1, q1, rfl, q3, rfl, q5⟩ := hob i o2 h1
      rw [q5] at h3
      have heq := hR.good.inj _ id o1 o b q3 g1 h3 hb
      rw [heq] at q3
      obtain rfl : o1 = o := Option.some.inj (q3.symm.trans g1)
      have h2' : o1.mt = true := h2
      rw [g2] at h2'; cases h2'
  have hpw : ob'.Pairwise (fun x y => x.1 ≠ y.1) := (impL_ids off vf ds' 0).2.2.2
  have hE : ∀ j, j < nl.length → (φ (nl.getD j 0)).oneCell' = true → oslE ob' ψ (off + (0 + j)) (vf (0 + j)) (φ (nl.getD j 0)) := fun j hj ho => by
    obtain ⟨o, q1, q2⟩ := e.has off vf 0 j hj
    refine ⟨_, look_of_mem hpw q2, Nat.le_refl _, fun _ => ?_, ho⟩
    simp only [ψ]; congr 2; omega
  have hgood : Good w w0.heap.size Z0 ob' ψ := by
    refine ⟨fun i j oi oj b hi hj hbi hbj => ?_, fun i o hi => ?_⟩
    · obtain ⟨j1, o1, q1, rfl, q3, rfl, q5⟩ := hob i oi hi
      obtain ⟨j2, o2, p1, rfl, p3, rfl, p5⟩ := hob j oj hj
      rw [q5] at hbi; rw [p5] at hbj
      have heq := hR.good.inj _ _ o1 o2 b q3 p3 hbi hbj
      have : j1 = j2 := by
        rw [List.getD_eq_getElem?_getD, List.getD_eq_getElem?_getD, List.getElem?_eq_getElem q1, List.getElem?_eq_getElem p1] at heq
        exact (List.getElem_inj (h₀ := q1) (h₁ := p1) hn).1 heq
      rw [this]
    · obtain ⟨j1, o1, q1, rfl, q3, rfl, q5⟩ := hob i o hi
      rw [q5]
      have hok := hR.good.ok _ o1 q3
      obtain ⟨o2, g1, g2, g3⟩ := e.hnl _ (hmem q1)
      obtain rfl : o1 = o2 := Option.some.inj (q3.symm.trans g1)
      obtain ⟨xs, hx, h1, h2⟩ := hok.there
      refine ⟨hok.pure, xs, ⟨hx.len, hx.row, fun p q hp hq => ?_, hx.one, hx.lim⟩, h1, h2⟩
      have hpc : D.pc (getC (getR o1.rows p) q) = true := hok.pure g3 _ (getR_mem hp) _ (getC_mem (by rw [hx.row _ (getR_mem hp)]; exact hq))
      exact Enc.ofPc ((hx.enc p q hp hq).mono (w' := w) (Z' := ZZ Z0 ob' ψ) (fun b hz hlt => ⟨rfl, fun h => hz (hZ b h)⟩) (fun _ _ _ h => h) (fun _ _ _ _ _ h => h)) hpc
  have henc : ∀ i, i < ds.length → EncS w Z0 ob' ψ (getC (impL off vf ds' 0).1 i) (vs.getD i Go.undef) := fun i hi => e.enc off vf 0 i _ _ _ _ hi (hv i hi) hav hE
  have hlen := e.len off vf 0
  by_cases h1 : ds'.length = 1
  · obtain ⟨d, rfl⟩ := List.length_eq_one_iff.1 h1
    have hi : imp off vf (mkR [d]) = (getC (impL off vf [d] 0).1 0, (impL off vf [d] 0).2.1) := by
      have := ht d (by simp)
      cases d <;> first | rfl | exact absurd rfl (this _)
    rw [hi]
    have hs : vs.toArray.size = 1 := by simp; omega
    rw [dif_pos hs]
    refine ⟨hgood, ?_⟩
    have := henc 0 (by omega)
    have e0 : vs.toArray[0] = vs.getD 0 Go.undef := by
      have : 0 < vs.length := by omega
      simp [this]
    rw [e0]; exact this
  · have hi : imp off vf (mkR ds') = (.tup (impL off vf ds' 0).1, (impL off vf ds' 0).2.1) := by
      cases ds' with
      | nil => rfl
      | cons x r => cases r with
        | nil => exact absurd rfl h1
        | cons y r => rfl
    rw [hi]
    have hs : ¬ vs.toArray.size = 1 := by simp; omega
    rw [dif_neg hs]
    refine ⟨hgood, .tup _ _ (by simp; omega) fun i hi => ?_⟩
    have := henc i (by omega)
    have e0 : vs.toArray.getD i Go.undef = vs.getD i Go.undef := arr_getD vs i
    rw [e0]; exact this

theorem Post.le {w w' : World} {Z0 : Nat → Prop} {d r : D} {v : Value} (h : leR d r) (hp : Post w Z0 d v w') : Post w Z0 r v w' := by
  unfold leR at h
  split at h
  · unfold nilR at h
    split at h
    · rename_i ty sz rows
      subst h
      obtain ⟨hb, vals, hv⟩ := hp
      have hv0 : v = .slice none 0 0 := by
        have := (hv 0 (fun _ => 0)).2
        change EncS w' Z0 _ _ .nil v at this
        cases this; rfl
      subst hv0
      refine ⟨hb, fun _ => .slice none 0 0, fun off vf => ⟨⟨fun i j oi oj b hi hj hbi hbj => (by cases hbi), fun i o hi => ?_⟩, ?_⟩⟩
      · have hi' : Abs.look [(off + 0, (⟨vf 0, true, false, sz, ty, []⟩ : Ob))] i = some o := hi
        rw [look_put] at hi'
        split at hi'
        · cases hi'
          exact ⟨fun _ r hr => (by cases hr), [], rowsEnc_nil, fun _ => ⟨by simp, .inl ⟨rfl, rfl⟩⟩, fun h => (by cases h)⟩
        · cases hi'
      · show EncS w' Z0 [(off + 0, (⟨vf 0, true, false, sz, ty, []⟩ : Ob))] _ (.osl (off + 0) (vf 0)) _
        exact .osl _ _ _ ⟨_, by rw [look_put, if_pos rfl], Nat.le_refl _, fun _ => rfl, rfl⟩
    · exact hp
    · exact h.elim
  · subst h; exact hp

theorem resAll_post (hT : TOk P T) (hR : Rel w0 Z0 s a w) {fn : Func} {r : D} (h : (resAll T fn.results.toList r).wp C s [] okRet) :
    a.defers = [] ∧ ∃ v, (results fn a.tmps).run P w = .ok v w ∧ Post w0 Z0 r v w := by
  obtain ⟨φ, hR⟩ := hR
  obtain ⟨ups, R, h1, _⟩ := AR.ev_of_wp _ h
  obtain ⟨ds, vs, R1, h2, h3, h4, h5⟩ := resVars_ev hT hR h1
  obtain ⟨ds', nl, fl, R2, h6, h7, h8, h9⟩ := expTops_ev hR h2
  obtain ⟨⟨hn, hle⟩, _⟩ := h6
  exact ⟨hR.defers, _, results_run h3, (post_of hR h7 h8 h9 hn h4 h5).le hle⟩

def number : Nat → List D → List (Nat × D)
  | _, [] => []
  | i, d :: r => (i, d) :: number (i + 1) r

theorem lookD_number : ∀ (ds : List D) (i n : Nat), lookD (number i ds) n = if i ≤ n ∧ n < i + ds.length then getC ds (n - i) else .undef
  | [], i, n => by simp only [number, lookD, List.length_nil, Nat.add_zero]; rw [if_neg (by omega)]
  | d :: r, i, n => by
    simp only [number, lookD_put, List.length_cons]
    by_cases h : i = n
    · subst h; simp [getC]
    · rw [if_neg h, lookD_number r (i + 1) n]
      by_cases h2 : i + 1 ≤ n ∧ n < i + 1 + r.length
      · rw [if_pos h2, if_pos (by omega)]
        rw [show n - i = (n - (i + 1)) + 1 by omega]; simp [getC]
      · rw [if_neg h2, if_neg (by omega)]

def initS (args : List D) (nt : Nat) : AS := ⟨nt, number 0 args, []⟩

/-- The contract of a function from its body. -/
theorem con_of_body (hE : EnvOk P T) {f : FuncId} {fn : Func} {c : Code} (hf : P.funcs[f]? = some fn) (hb : fn.body = some c) {args : List D} {r : D} {nt : Nat} {rs : List ResultVar} (hnt : fn.ntmps = nt) (hrs : fn.results.toList = rs) (hl : args.length ≤ nt)
    (h : (∀ d ∈ args, DOk d) → AWP P c (retA (Con P) T rs r) (initS args nt)) : ConC P f args r := by
  subst hnt hrs
  intro w Z0 vs hZ hvs hargs
  have hok : ∀ d ∈ args, DOk d := fun d hd => by obtain ⟨i, hi, rfl⟩ := mem_getC hd; exact (hargs i hi).ok
  refine calls_of_wp hf hb (wp_mono (h hok w Z0 _ w ⟨fun _ => Go.undef, ?_⟩) fun e a' w' hq => ?_)
  · refine ⟨by simp [initS]; omega, rfl, fun n => ?_, ⟨fun i j oi oj b hi => (by cases hi), fun i o hi => (by cases hi)⟩, Below.refl _ _, hZ⟩
    show EncS w Z0 [] _ (lookD (number 0 args) n) _
    rw [lookD_number]
    by_cases h1 : 0 ≤ n ∧ n < 0 + args.length
    · rw [if_pos h1]
      have h2 : n < vs.size := by omega
      have e : (vs ++ Array.replicate (fn.ntmps - vs.size) Go.undef).getD n Go.undef = vs.getD n Go.undef := by
        rw [Array.getD_eq_getD_getElem?, Array.getD_eq_getD_getElem?, Array.getElem?_append_left h2]
      rw [Nat.sub_zero, e]
      refine (hargs n (by omega)).mono (fun b hz _ => ⟨rfl, fun h => ?_⟩) (fun _ _ _ h => h.elim) (fun _ _ _ _ _ h => h.elim)
      rcases h with h | ⟨i, o, h, _⟩
      · exact hz h
      · cases h
    · rw [if_neg h1]; exact .undef _
  · obtain ⟨s', hR', hq⟩ := hq
    cases e with
    | normal => obtain ⟨h1, v, h2, h3⟩ := resAll_post hE.tok hR' hq; exact ⟨h1, v, h2, v, rfl, h3⟩
    | ret => obtain ⟨h1, v, h2, h3⟩ := resAll_post hE.tok hR' hq; exact ⟨h1, v, h2, v, rfl, h3⟩
    | _ => exact hq.elim

end
end Go.Abs
/- The equations by which the walk goes on. -/
namespace Go.Abs
open Go Go.RowKit

/-- The slot of an operation, out of the list of all of them. -/
def dlAt : List (Option Tmp) → Nat → Option Tmp
  | [], _ => none
  | o :: _, 0 => o
  | _ :: r, n + 1 => dlAt r n

def dl (l : List Oper) : List (Option Tmp) := l.map (·.dst)

theorem dlAt_eq : ∀ (l : List Oper) (g : Nat), dlAt (dl l) g = (l[g]?).bind (·.dst)
  | [], g => by simp [dlAt, dl]
  | o :: r, 0 => by simp [dlAt, dl]
  | o :: r, n + 1 => by simpa [dlAt, dl] using dlAt_eq r n

/-- The guard's slot is known. -/
def guardT (want : Bool) (d : D) (yes : AS → Prop) (no : AS → Prop) (s : AS) (t : Nat) : Prop :=
  match d with
  | .bool b => cond2 b (match want with | true => yes (s.setB t true) | false => no (s.setB t true)) (match want with | true => no (s.setB t false) | false => yes (s.setB t false))
  | .void => no s
  | _ => False

def gYes (C : Cons) (T : Tab) (o : Oper) (go : AS → Fps → Prop) (fps : Fps) (t : Nat) (s : AS) : Prop := (aop T o).wp C s [.slot t] (locNext go s fps)
def gNo (o : Oper) (go : AS → Fps → Prop) (fps : Fps) (t : Nat) (s : AS) : Prop := locNext go s fps (skipUps o) [.slot t]

def guardD (C : Cons) (T : Tab) (o : Oper) (want : Bool) (t : Option Tmp) (s : AS) (go : AS → Fps → Prop) (fps : Fps) : Prop :=
  match t with
  | none => False
  | some t => guardT want (s.get t) (gYes C T o go fps t) (gNo o go fps t) s t

def guardL (C : Cons) (T : Tab) (l : List (Option Tmp)) (o : Oper) (s : AS) (go : AS → Fps → Prop) (fps : Fps) : Prop :=
  match o.guard with
  | none => (aop T o).wp C s [] (locNext go s fps)
  | some (g, want) => guardD C T o want (dlAt l g) s go fps

def vcL (C : Cons) (T : Tab) (l : List (Option Tmp)) (fin : Fps → Prop) (K : AS → Prop) : List Oper → AS → Fps → Prop
  | [], s, fps => fin fps ∧ K s
  | o :: r, s, fps => dstOk o s.nt ∧ guardL C T l o s (vcL C T l fin K r) fps

section
variable {C : Cons} {P : Program} {T : Tab} {s : AS} {Q : Exit → AS → Prop}

theorem AR.wp_mono {m : AR} {K K' : List Upd → List Loc → Prop} (h : ∀ u R, K u R → K' u R) : ∀ {s : AS} {R : List Loc}, m.wp C s R K → m.wp C s R K' := by
  induction m with
  | fail => intro s R h; exact h
  | ret u => intro s R h'; exact h _ _ h'
  | get n k ih => intro s R h'; exact ih _ h'
  | look n k ih => intro s R h'; exact ih _ h'
  | req p k ih => intro s R h'; exact ⟨h'.1, fun hp => ih (h'.2 hp)⟩
  | call f ds k ih => intro s R ⟨r, h1, h2⟩; exact ⟨r, h1, ih _ h2⟩

theorem guard_of {ops : Array Oper} {o : Oper} {go go' : AS → Fps → Prop} (h : ∀ s f, go s f → go' s f) {s : AS} {fps : Fps} (hh : guardL C T (dl ops.toList) o s go fps) : guardWp C T ops o s go' fps := by
  have hw : ∀ {s R}, (aop T o).wp C s R (locNext go s fps) → (aop T o).wp C s R (locNext go' s fps) := fun {s R} hw => AR.wp_mono (fun u R' h' => h _ _ h') hw
  unfold guardWp
  unfold guardL at hh
  cases hg : o.guard with
  | none => rw [hg] at hh; exact hw hh
  | some gw =>
    obtain ⟨g, want⟩ := gw
    rw [hg] at hh
    dsimp only at hh ⊢
    rw [dlAt_eq, Array.getElem?_toList] at hh
    revert hh
    cases (ops[g]?).bind (·.dst) with
    | none => exact id
    | some t =>
      dsimp only [guardD]
      cases hd : s.get t with
      | bool b =>
        intro hh
        cases b <;> cases want
        · exact ⟨fun e => (by cases e), fun _ => hw (hh.2 rfl)⟩
        · exact ⟨fun e => (by cases e), fun _ => h _ _ (hh.2 rfl)⟩
        · exact ⟨fun _ => h _ _ (hh.1 rfl), fun e => (by cases e)⟩
        · exact ⟨fun _ => hw (hh.1 rfl), fun e => (by cases e)⟩
      | void => exact h _ _
      | _ => exact id

theorem vcOps_of {ops : Array Oper} {fin fin' : Fps → Prop} {K K' : AS → Prop} (hf : ∀ f, fin f → fin' f) (hk : ∀ s, K s → K' s) : ∀ (l : List Oper) (s : AS) (fps : Fps), vcL C T (dl ops.toList) fin K l s fps → vcOps C T ops fin' K' l s fps
  | [], _, _, h => ⟨hf _ h.1, hk _ h.2⟩
  | _ :: r, _, _, h => ⟨h.1, guard_of (fun s f h' => vcOps_of hf hk r s f h') h.2⟩

theorem AWP.mono {c : Code} {Q' : Exit → AS → Prop} (h : AWP P c Q s) (hq : ∀ e s, Q e s → Q' e s) : AWP P c Q' s := fun w0 Z0 a w hR =>
  Go.wp_mono (h w0 Z0 a w hR) fun e a' w' ⟨s', h1, h2⟩ => ⟨s', h1, hq e s' h2⟩


/-- No order is drawn. -/
def finT (_ : Fps) : Prop := True
theorem finT_eq (f : Fps) : finT f = True := rfl

/-- What is to be shown afterwards, behind a name. -/
structure Kt (Q : AS → Prop) where
  f : AS → Prop
  h : ∀ s, Q s → f s

structure Ft (ops : Array Oper) where
  f : Fps → Prop
  h : ∀ fps, okAll ops fps.reverse = true → f fps

def fin1 (ops : Array Oper) (fps : Fps) : Prop := okAll ops fps.reverse = true

theorem Ft.k {ops : Array Oper} {fin : Ft ops} {fps : Fps} {q : Prop} (h : okAll ops fps.reverse = true) (hq : q) : fin.f fps ∧ q := ⟨fin.h fps h, hq⟩
theorem cond2_intro {b : Bool} {p q : Prop} (h1 : b = true → p) (h2 : b = false → q) : cond2 b p q := ⟨h1, h2⟩

/-- What is to be shown next. -/
def stepR (P : Program) (T : Tab) (Q : AS → Prop) (s : AS) : Array Oper → Bool → Prop
  | ops, false => ∀ K : Kt Q, ∀ _ : True, vcL (Con P) T (dl ops.toList) finT K.f ops.toList s []
  | ops, true => ∀ K : Kt Q, ∀ fin : Ft ops, vcL (Con P) T (dl ops.toList) fin.f K.f ops.toList s []

def stepN (P : Program) (T : Tab) (Q : Exit → AS → Prop) (s : AS) : Code → Prop
  | .seq (.region _ ops d) y => stepR P T (AWP P y Q) s ops d
  | .region _ ops d => stepR P T (Q .normal) s ops d
  | .seq x y => ∀ K : Kt (AWP P y Q), ∀ _ : True, AWP P x (thenA K.f Q) s
  | .cond (.tmp n) x y => ∀ K : Kt (AWP P x Q), ∀ fin : Kt (AWP P y Q), condA (s.get n) (K.f (s.setB n true)) (fin.f (s.setB n false))
  | .block id c => ∀ _ : True, ∀ _ : True, AWP P c (blockA id Q) s
  | .skip => ∀ _ : True, ∀ _ : True, Q .normal s
  | .exit id => ∀ _ : True, ∀ _ : True, Q (.exit id) s
  | .ret => ∀ _ : True, ∀ _ : True, Q .ret s
  | _ => False

theorem AWP.rg (hE : EnvOk P T) {id : Nat} {ops : Array Oper} {d : Bool} (h : stepR P T (Q .normal) s ops d) : AWP P (.region id ops d) Q s :=
  AWP.region hE fun K hK => by
    cases d with
    | false => exact vcOps_of (fun _ _ => True.intro) (fun _ h => h) _ _ _ (h ⟨K, hK⟩ True.intro)
    | true => exact vcOps_of (fun _ h => h) (fun _ h => h) _ _ _ (h ⟨K, hK⟩ ⟨fin1 ops, fun _ h => h⟩)

theorem AWP.sq {x y : Code} (h : AWP P x (thenA (AWP P y Q) Q) s) : AWP P (.seq x y) Q s := AWP.seq fun K hK => AWP.mono h fun e s h => by cases e <;> first | exact hK _ h | exact h

theorem AWP.go (hE : EnvOk P T) {c : Code} (h : stepN P T Q s c) : AWP P c Q s := by
  unfold stepN at h
  split at h
  · exact AWP.sq (AWP.rg hE h)
  · exact AWP.rg hE h
  · exact AWP.sq (h ⟨_, fun _ h => h⟩ True.intro)
  · exact AWP.cond (h ⟨_, fun _ h => h⟩ ⟨_, fun _ h => h⟩)
  · exact AWP.block (h True.intro True.intro)
  · exact AWP.skip (h True.intro True.intro)
  · exact AWP.exit (h True.intro True.intro)
  · exact AWP.ret (h True.intro True.intro)
  · exact h.elim
end

theorem constD_int {k : IntKind} {n : Int} (h : hasB k n = true) : constD (.int k n) = .int k n := by simp [constD, h]
theorem constD_str {s : ByteArray} (h : s.size ≤ 1000000) : constD (.string s) = .str s := by simp [constD, h]

/-- Control. -/
theorem E1 :
    (∀ (C : Cons) (T : Tab) (l : List (Option Tmp)) (fin : Fps → Prop) (K : AS → Prop) (s : AS) (fps : Fps), vcL C T l fin K [] s fps = (fin fps ∧ K s)) ∧
    (∀ (C : Cons) (T : Tab) (l : List (Option Tmp)) (fin : Fps → Prop) (K : AS → Prop) (o : Oper) (r : List Oper) (nt : Nat) (sl : List (Nat × D)) (ob : Obs) (fps : Fps), vcL C T l fin K (o :: r) ⟨nt, sl, ob⟩ fps = (dstOk o nt ∧ guardL C T l o ⟨nt, sl, ob⟩ (vcL C T l fin K r) fps)) ∧
    (∀ (n : Nat) (op : Op) (ty : TypeId) (pos : String) (af : Array Edge) (g : Option (Nat × Bool)) (nt : Nat), dstOk ⟨some n, op, ty, pos, af, g⟩ nt = (n < nt)) ∧
    (∀ (op : Op) (ty : TypeId) (pos : String) (af : Array Edge) (g : Option (Nat × Bool)) (nt : Nat), dstOk ⟨none, op, ty, pos, af, g⟩ nt = True) ∧
    (∀ (C : Cons) (T : Tab) (l : List (Option Tmp)) (dst : Option Tmp) (op : Op) (ty : TypeId) (pos : String) (af : Array Edge) (s : AS) (go : AS → Fps → Prop) (fps : Fps), guardL C T l ⟨dst, op, ty, pos, af, none⟩ s go fps = (aop T ⟨dst, op, ty, pos, af, none⟩).wp C s [] (locNext go s fps)) ∧
    (∀ (C : Cons) (T : Tab) (l : List (Option Tmp)) (dst : Option Tmp) (op : Op) (ty : TypeId) (pos : String) (af : Array Edge) (g : Nat) (w : Bool) (s : AS) (go : AS → Fps → Prop) (fps : Fps), guardL C T l ⟨dst, op, ty, pos, af, some (g, w)⟩ s go fps = guardD C T ⟨dst, op, ty, pos, af, some (g, w)⟩ w (dlAt l g) s go fps) ∧
    (∀ (C : Cons) (T : Tab) (o : Oper) (w : Bool) (t : Nat) (s : AS) (go : AS → Fps → Prop) (fps : Fps), guardD C T o w (some t) s go fps = guardT w (s.get t) (gYes C T o go fps t) (gNo o go fps t) s t) ∧
    (∀ (b : Bool) (yes no : AS → Prop) (s : AS) (t : Nat), guardT true (.bool b) yes no s t = cond2 b (yes (s.setB t true)) (no (s.setB t false))) ∧
    (∀ (b : Bool) (yes no : AS → Prop) (s : AS) (t : Nat), guardT false (.bool b) yes no s t = cond2 b (no (s.setB t true)) (yes (s.setB t false))) ∧
    (∀ (w : Bool) (yes no : AS → Prop) (s : AS) (t : Nat), guardT w .void yes no s t = no s) ∧
    (∀ (C : Cons) (T : Tab) (o : Oper) (go : AS → Fps → Prop) (fps : Fps) (t : Nat) (s : AS), gYes C T o go fps t s = (aop T o).wp C s [.slot t] (locNext go s fps)) ∧
    (∀ (o : Oper) (go : AS → Fps → Prop) (fps : Fps) (t : Nat) (s : AS), gNo o go fps t s = locNext go s fps (skipUps o) [.slot t]) ∧
    (∀ (go : AS → Fps → Prop) (s : AS) (fps : Fps) (u : List Upd) (R : List Loc), locNext go s fps u R = go (s.app u) ((writes u, R) :: fps)) ∧
    (∀ (n : Nat) (op : Op) (ty : TypeId) (pos : String) (af : Array Edge) (g : Option (Nat × Bool)), skipUps ⟨some n, op, ty, pos, af, g⟩ = [.slot n .void]) ∧
    (∀ (op : Op) (ty : TypeId) (pos : String) (af : Array Edge) (g : Option (Nat × Bool)), skipUps ⟨none, op, ty, pos, af, g⟩ = []) ∧
    (∀ (o : Option Tmp) (r : List (Option Tmp)), dlAt (o :: r) 0 = o) ∧
    (∀ (o : Option Tmp) (r : List (Option Tmp)) (n : Nat), dlAt (o :: r) (n + 1) = dlAt r n) ∧
    (dl [] = []) ∧
    (∀ (dst : Option Tmp) (op : Op) (ty : TypeId) (pos : String) (af : Array Edge) (g : Option (Nat × Bool)) (r : List Oper), dl (⟨dst, op, ty, pos, af, g⟩ :: r) = dst :: dl r) :=
  ⟨fun _ _ _ _ _ _ _ => rfl, fun _ _ _ _ _ _ _ _ _ _ _ => rfl, fun _ _ _ _ _ _ _ => rfl, fun _ _ _ _ _ _ => rfl, fun _ _ _ _ _ _ _ _ _ _ _ => rfl, fun _ _ _ _ _ _ _ _ _ _ _ _ _ => rfl, fun _ _ _ _ _ _ _ _ => rfl, fun _ _ _ _ _ => rfl, fun _ _ _ _ _ => rfl, fun _ _ _ _ _ => rfl, fun _ _ _ _ _ _ _ => rfl, fun _ _ _ _ _ => rfl, fun _ _ _ _ _ => rfl, fun _ _ _ _ _ _ => rfl, fun _ _ _ _ _ => rfl, fun _ _ => rfl, fun _ _ _ => rfl, rfl, fun _ _ _ _ _ _ _ => rfl⟩

/-- States. -/
theorem E2 :
    (∀ (nt : Nat) (sl : List (Nat × D)) (ob : Obs) (n : Nat), AS.get ⟨nt, sl, ob⟩ n = lookD sl n) ∧
    (∀ (n : Nat) (d : D) (sl : List (Nat × D)), lookD ((n, d) :: sl) n = d) ∧
    (∀ (n m : Nat) (d : D) (sl : List (Nat × D)), n ≠ m → lookD ((n, d) :: sl) m = lookD sl m) ∧
    (∀ (m : Nat), lookD [] m = .undef) ∧
    (∀ (nt : Nat) (sl : List (Nat × D)) (ob : Obs) (n : Nat), AS.look ⟨nt, sl, ob⟩ n = Abs.look ob n) ∧
    (∀ (n : Nat) (o : Ob) (ob : Obs), Abs.look ((n, o) :: ob) n = some o) ∧
    (∀ (n m : Nat) (o : Ob) (ob : Obs), n ≠ m → Abs.look ((n, o) :: ob) m = Abs.look ob m) ∧
    (∀ (m : Nat), Abs.look [] m = none) ∧
    (∀ (nt : Nat) (sl : List (Nat × D)) (ob : Obs), AS.app ⟨nt, sl, ob⟩ [] = ⟨nt, sl, ob⟩) ∧
    (∀ (nt : Nat) (sl : List (Nat × D)) (ob : Obs) (n : Nat) (d : D) (r : List Upd), AS.app ⟨nt, sl, ob⟩ (.slot n d :: r) = AS.app ⟨nt, (n, d) :: sl, ob⟩ r) ∧
    (∀ (nt : Nat) (sl : List (Nat × D)) (ob : Obs) (n : Nat) (o : Ob) (r : List Upd), AS.app ⟨nt, sl, ob⟩ (.ob n o :: r) = AS.app ⟨nt, sl, (n, o) :: ob⟩ r) ∧
    (∀ (nt : Nat) (sl : List (Nat × D)) (ob : Obs) (n : Nat) (b : Bool), AS.setB ⟨nt, sl, ob⟩ n b = ⟨nt, (n, .bool b) :: sl, ob⟩) ∧
    (writes [] = []) ∧
    (∀ (n : Nat) (d : D) (r : List Upd), writes (.slot n d :: r) = .slot n :: writes r) ∧
    (∀ (n : Nat) (o : Ob) (r : List Upd), writes (.ob n o :: r) = .ob n :: writes r) ∧
    (∀ (nt : Nat), initS [] nt = ⟨nt, [], []⟩) ∧
    (∀ (nt : Nat) (d0 : D), initS [d0] nt = ⟨nt, [(0, d0)], []⟩) ∧
    (∀ (nt : Nat) (d0 d1 : D), initS [d0, d1] nt = ⟨nt, [(0, d0), (1, d1)], []⟩) ∧
    (∀ (nt : Nat) (d0 d1 d2 : D), initS [d0, d1, d2] nt = ⟨nt, [(0, d0), (1, d1), (2, d2)], []⟩) ∧
    (∀ (nt : Nat) (d0 d1 d2 d3 : D), initS [d0, d1, d2, d3] nt = ⟨nt, [(0, d0), (1, d1), (2, d2), (3, d3)], []⟩) ∧
    (∀ (nt : Nat) (d0 d1 d2 d3 d4 : D), initS [d0, d1, d2, d3, d4] nt = ⟨nt, [(0, d0), (1, d1), (2, d2), (3, d3), (4, d4)], []⟩) ∧
    (∀ (nt : Nat) (d0 d1 d2 d3 d4 d5 : D), initS [d0, d1, d2, d3, d4, d5] nt = ⟨nt, [(0, d0), (1, d1), (2, d2), (3, d3), (4, d4), (5, d5)], []⟩) ∧
    (∀ (nt : Nat) (d0 d1 d2 d3 d4 d5 d6 : D), initS [d0, d1, d2, d3, d4, d5, d6] nt = ⟨nt, [(0, d0), (1, d1), (2, d2), (3, d3), (4, d4), (5, d5), (6, d6)], []⟩) ∧
    (∀ (nt : Nat) (d0 d1 d2 d3 d4 d5 d6 d7 : D), initS [d0, d1, d2, d3, d4, d5, d6, d7] nt = ⟨nt, [(0, d0), (1, d1), (2, d2), (3, d3), (4, d4), (5, d5), (6, d6), (7, d7)], []⟩) ∧
    (∀ (nt : Nat) (d0 d1 d2 d3 d4 d5 d6 d7 d8 : D), initS [d0, d1, d2, d3, d4, d5, d6, d7, d8] nt = ⟨nt, [(0, d0), (1, d1), (2, d2), (3, d3), (4, d4), (5, d5), (6, d6), (7, d7), (8, d8)], []⟩) ∧
    (∀ (nt : Nat) (d0 d1 d2 d3 d4 d5 d6 d7 d8 d9 : D), initS [d0, d1, d2, d3, d4, d5, d6, d7, d8, d9] nt = ⟨nt, [(0, d0), (1, d1), (2, d2), (3, d3), (4, d4), (5, d5), (6, d6), (7, d7), (8, d8), (9, d9)], []⟩) := by
  refine ⟨?_, ?_, ?_, ?_, ?_, ?_, ?_, ?_, ?_, ?_, ?_, ?_, ?_, ?_, ?_, ?_, ?_, ?_, ?_, ?_, ?_, ?_, ?_, ?_, ?_, ?_⟩
  all_goals first | (intros; rfl) | (intro n d sl; simp [lookD]; done) | (intro n d sl; simp [Abs.look]; done) | (intro n m d sl h; simp [lookD, h]) | (intro n m d sl h; simp [Abs.look, h])

/-- Readers. -/
theorem E3 :
    (∀ (C : Cons) (s : AS) (R : List Loc) (K : List Upd → List Loc → Prop), AR.wp C .fail s R K = False) ∧
    (∀ (C : Cons) (s : AS) (R : List Loc) (K : List Upd → List Loc → Prop) (u : List Upd), AR.wp C (.ret u) s R K = K u R) ∧
    (∀ (C : Cons) (s : AS) (R : List Loc) (K : List Upd → List Loc → Prop) (n : Nat) (k : D → AR), AR.wp C (.get n k) s R K = AR.wp C (k (s.get n)) s (.slot n :: R) K) ∧
    (∀ (C : Cons) (s : AS) (R : List Loc) (K : List Upd → List Loc → Prop) (n : Nat) (k : Option Ob → AR), AR.wp C (.look n k) s R K = AR.wp C (k (s.look n)) s (.ob n :: R) K) ∧
    (∀ (C : Cons) (s : AS) (R : List Loc) (K : List Upd → List Loc → Prop) (p : Prop) (k : AR), AR.wp C (.req p k) s R K = (p ∧ (p → AR.wp C k s R K))) ∧
    (∀ (C : Cons) (s : AS) (R : List Loc) (K : List Upd → List Loc → Prop) (f : FuncId) (ds : List D) (k : D → AR), AR.wp C (.call f ds k) s R K = ∃ r, C f ds r ∧ AR.wp C (k r) s R K) ∧
    (∀ (k : D → AR) (t : Tmp), opd (.tmp t) k = .get t k) ∧
    (∀ (k : D → AR) (v : Value), opd (.const v) k = k (constD v)) ∧
    (∀ (k : D → AR) (f : FuncId), opd (.func f) k = k (.fn f [])) ∧
    (∀ (k : List D → AR), opds [] k = k []) ∧
    (∀ (x : Operand) (r : List Operand) (k : List D → AR), opds (x :: r) k = opd x fun d => opds r fun ds => k (d :: ds)) ∧
    (∀ (k : IntKind) (n : Int), hasB k n = true → constD (.int k n) = .int k n) ∧
    (∀ (b : Bool), constD (.bool b) = .bool b) ∧
    (∀ (s : ByteArray), s.size ≤ 1000000 → constD (.string s) = .str s) ∧
    (constD (.slice none 0 0) = .nil) ∧
    (∀ (n : Nat) (op : Op) (ty : TypeId) (pos : String) (af : Array Edge) (g : Option (Nat × Bool)) (d : D) (ups : List Upd), done ⟨some n, op, ty, pos, af, g⟩ d ups = .ret (ups ++ [.slot n d])) ∧
    (∀ (op : Op) (ty : TypeId) (pos : String) (af : Array Edge) (g : Option (Nat × Bool)) (d : D) (ups : List Upd), done ⟨none, op, ty, pos, af, g⟩ d ups = .ret (ups ++ [])) := by
  refine ⟨?_, ?_, ?_, ?_, ?_, ?_, ?_, ?_, ?_, ?_, ?_, ?_, ?_, ?_, ?_, ?_, ?_⟩
  all_goals first | (intros; rfl) | exact fun _ _ h => constD_int h | exact fun _ h => constD_str h

/-- Operations. -/
theorem E4 :
    (∀ (T : Tab) (dst : Option Tmp) (ty : TypeId) (pos : String) (af : Array Edge) (g : Option (Nat × Bool)) (x : Operand), aop T ⟨dst, .move x, ty, pos, af, g⟩ = opd x fun d => done ⟨dst, .move x, ty, pos, af, g⟩ d []) ∧
    (∀ (T : Tab) (dst : Option Tmp) (ty : TypeId) (pos : String) (af : Array Edge) (g : Option (Nat × Bool)) (x : Operand), aop T ⟨dst, .assign x, ty, pos, af, g⟩ = opd x fun d => done ⟨dst, .assign x, ty, pos, af, g⟩ d []) ∧
    (∀ (T : Tab) (dst : Option Tmp) (ty : TypeId) (pos : String) (af : Array Edge) (g : Option (Nat × Bool)) (c x y : Operand), aop T ⟨dst, .pick c x y, ty, pos, af, g⟩ = aPick ⟨dst, .pick c x y, ty, pos, af, g⟩ c x y) ∧
    (∀ (T : Tab) (dst : Option Tmp) (ty : TypeId) (pos : String) (af : Array Edge) (g : Option (Nat × Bool)) (t : TypeId), aop T ⟨dst, .alloc t, ty, pos, af, g⟩ = aAlloc T ⟨dst, .alloc t, ty, pos, af, g⟩ t) ∧
    (∀ (T : Tab) (dst : Option Tmp) (ty : TypeId) (pos : String) (af : Array Edge) (g : Option (Nat × Bool)) (t : TypeId) (x : Operand), aop T ⟨dst, .box t x, ty, pos, af, g⟩ = opd x fun d => aBox ⟨dst, .box t x, ty, pos, af, g⟩ t (cellsOf d)) ∧
    (∀ (T : Tab) (dst : Option Tmp) (ty : TypeId) (pos : String) (af : Array Edge) (g : Option (Nat × Bool)) (t : TypeId) (p : Array (Nat × Operand)), aop T ⟨dst, .build t p, ty, pos, af, g⟩ = aBuild T ⟨dst, .build t p, ty, pos, af, g⟩ t p.toList) ∧
    (∀ (T : Tab) (dst : Option Tmp) (ty : TypeId) (pos : String) (af : Array Edge) (g : Option (Nat × Bool)) (t : TypeId) (n : Nat) (p : Array (Nat × Operand)), aop T ⟨dst, .buildSlice t n p, ty, pos, af, g⟩ = aBuildSlice T ⟨dst, .buildSlice t n p, ty, pos, af, g⟩ t n p.toList) ∧
    (∀ (T : Tab) (dst : Option Tmp) (ty : TypeId) (pos : String) (af : Array Edge) (g : Option (Nat × Bool)) (t : TypeId) (x : Operand), aop T ⟨dst, .load t x, ty, pos, af, g⟩ = aLoad T ⟨dst, .load t x, ty, pos, af, g⟩ t x) ∧
    (∀ (T : Tab) (ty : TypeId) (pos : String) (af : Array Edge) (g : Option (Nat × Bool)) (t : TypeId) (x y : Operand), aop T ⟨none, .store t x y, ty, pos, af, g⟩ = aStore T t x y) ∧
    (∀ (T : Tab) (dst : Option Tmp) (ty : TypeId) (pos : String) (af : Array Edge) (g : Option (Nat × Bool)) (x : Operand), aop T ⟨dst, .nilCheck x, ty, pos, af, g⟩ = aNil ⟨dst, .nilCheck x, ty, pos, af, g⟩ x) ∧
    (∀ (T : Tab) (dst : Option Tmp) (ty : TypeId) (pos : String) (af : Array Edge) (g : Option (Nat × Bool)) (op : BinOp) (t : TypeId) (x y : Operand) (t2 : TypeId), aop T ⟨dst, .binOp op t x y t2, ty, pos, af, g⟩ = aBin T ⟨dst, .binOp op t x y t2, ty, pos, af, g⟩ op t x y) ∧
    (∀ (T : Tab) (dst : Option Tmp) (ty : TypeId) (pos : String) (af : Array Edge) (g : Option (Nat × Bool)) (op : UnOp) (t : TypeId) (x : Operand), aop T ⟨dst, .unOp op t x, ty, pos, af, g⟩ = aUn ⟨dst, .unOp op t x, ty, pos, af, g⟩ op x) ∧
    (∀ (T : Tab) (dst : Option Tmp) (ty : TypeId) (pos : String) (af : Array Edge) (g : Option (Nat × Bool)) (t u : TypeId) (x : Operand), aop T ⟨dst, .convert t u x, ty, pos, af, g⟩ = aConv T ⟨dst, .convert t u x, ty, pos, af, g⟩ t u x) ∧
    (∀ (T : Tab) (dst : Option Tmp) (ty : TypeId) (pos : String) (af : Array Edge) (g : Option (Nat × Bool)) (f : FuncId) (c : Array Operand), aop T ⟨dst, .makeFunc (.func f) #[] c, ty, pos, af, g⟩ = aMakeFunc ⟨dst, .makeFunc (.func f) #[] c, ty, pos, af, g⟩ f c.toList) ∧
    (∀ (T : Tab) (dst : Option Tmp) (ty : TypeId) (pos : String) (af : Array Edge) (g : Option (Nat × Bool)) (t : TypeId) (l c : Operand), aop T ⟨dst, .makeSlice t l c, ty, pos, af, g⟩ = aMakeSlice T ⟨dst, .makeSlice t l c, ty, pos, af, g⟩ t l c) ∧
    (∀ (T : Tab) (dst : Option Tmp) (ty : TypeId) (pos : String) (af : Array Edge) (g : Option (Nat × Bool)) (t : TypeId) (x : Operand) (l h m : Option Operand), aop T ⟨dst, .slice t x l h m, ty, pos, af, g⟩ = aSlice T ⟨dst, .slice t x l h m, ty, pos, af, g⟩ t x l h m) ∧
    (∀ (T : Tab) (dst : Option Tmp) (ty : TypeId) (pos : String) (af : Array Edge) (g : Option (Nat × Bool)) (t : TypeId) (x : Operand) (f : Nat), aop T ⟨dst, .fieldAddr t x f, ty, pos, af, g⟩ = aFieldAddr T ⟨dst, .fieldAddr t x f, ty, pos, af, g⟩ t x f) ∧
    (∀ (T : Tab) (dst : Option Tmp) (ty : TypeId) (pos : String) (af : Array Edge) (g : Option (Nat × Bool)) (t : TypeId) (x : Operand) (f : Nat), aop T ⟨dst, .field t x f, ty, pos, af, g⟩ = aField T ⟨dst, .field t x f, ty, pos, af, g⟩ t x f) ∧
    (∀ (T : Tab) (dst : Option Tmp) (ty : TypeId) (pos : String) (af : Array Edge) (g : Option (Nat × Bool)) (t : TypeId) (x y : Operand), aop T ⟨dst, .indexAddr t x y, ty, pos, af, g⟩ = aIndexAddr T ⟨dst, .indexAddr t x y, ty, pos, af, g⟩ t x y) ∧
    (∀ (T : Tab) (dst : Option Tmp) (ty : TypeId) (pos : String) (af : Array Edge) (g : Option (Nat × Bool)) (t : TypeId) (x y : Operand), aop T ⟨dst, .index t x y, ty, pos, af, g⟩ = aIndexS T ⟨dst, .index t x y, ty, pos, af, g⟩ t x y) ∧
    (∀ (T : Tab) (dst : Option Tmp) (ty : TypeId) (pos : String) (af : Array Edge) (g : Option (Nat × Bool)) (x : Operand) (i : Nat), aop T ⟨dst, .extract x i, ty, pos, af, g⟩ = aExtract ⟨dst, .extract x i, ty, pos, af, g⟩ x i) ∧
    (∀ (T : Tab) (dst : Option Tmp) (ty : TypeId) (pos : String) (af : Array Edge) (g : Option (Nat × Bool)) (c : Call), aop T ⟨dst, .call c, ty, pos, af, g⟩ = aCall T ⟨dst, .call c, ty, pos, af, g⟩ c) :=
  ⟨fun _ _ _ _ _ _ _ => rfl, fun _ _ _ _ _ _ _ => rfl, fun _ _ _ _ _ _ _ _ _ => rfl, fun _ _ _ _ _ _ _ => rfl, fun _ _ _ _ _ _ _ _ => rfl, fun _ _ _ _ _ _ _ _ => rfl, fun _ _ _ _ _ _ _ _ _ => rfl, fun _ _ _ _ _ _ _ _ => rfl, fun _ _ _ _ _ _ _ _ => rfl, fun _ _ _ _ _ _ _ => rfl, fun _ _ _ _ _ _ _ _ _ _ _ => rfl, fun _ _ _ _ _ _ _ _ _ => rfl, fun _ _ _ _ _ _ _ _ _ => rfl, fun _ _ _ _ _ _ _ _ => rfl, fun _ _ _ _ _ _ _ _ _ => rfl, fun _ _ _ _ _ _ _ _ _ _ _ => rfl, fun _ _ _ _ _ _ _ _ _ => rfl, fun _ _ _ _ _ _ _ _ _ => rfl, fun _ _ _ _ _ _ _ _ _ => rfl, fun _ _ _ _ _ _ _ _ _ => rfl, fun _ _ _ _ _ _ _ _ => rfl, fun _ _ _ _ _ _ _ => rfl⟩


/-! ### Weakening to a state that is written down -/

def wkSl (s : AS) (is : List Nat) : List (Nat × D) → Prop
  | [] => True
  | (n, d) :: r => s.get n = d ∧ refsB is 4 d = true ∧ wkSl s is r

def wkOb (s : AS) (is : List Nat) : Obs → Prop
  | [] => True
  | (n, o) :: r => s.look n = some o ∧ obRefs is o = true ∧ wkOb s is r

def ids : Obs → List Nat
  | [] => []
  | (n, _) :: r => n :: ids r

theorem wkSl_get {s : AS} {is : List Nat} : ∀ {l : List (Nat × D)}, wkSl s is l → ∀ n, lookD l n = .undef ∨ (s.get n = lookD l n ∧ refsB is 4 (lookD l n) = true)
  | [], _, n => .inl rfl
  | (m, d) :: r, h, n => by
    rw [lookD_put]
    split
    · rename_i e; subst e; exact .inr ⟨h.1, h.2.1⟩
    · exact wkSl_get h.2.2 n

theorem wkOb_look {s : AS} {is : List Nat} : ∀ {l : Obs}, wkOb s is l → ∀ n o, Abs.look l n = some o → s.look n = some o ∧ obRefs is o = true
  | [], _, n, o, h => by cases h
  | (m, d) :: r, h, n, o, e => by
    rw [look_put] at e
    split at e
    · rename_i e1; subst e1; cases e; exact ⟨h.1, h.2.1⟩
    · exact wkOb_look h.2.2 n o e

theorem ids_look {i : Nat} : ∀ {l : Obs}, i ∈ ids l → ∃ o, Abs.look l i = some o
  | [], h => by cases h
  | (m, d) :: r, h => by
    rw [look_put]
    by_cases e : m = i
    · exact ⟨d, if_pos e⟩
    · rw [if_neg e]
      exact ids_look (by simpa [ids, Ne.symm e] using h)

theorem look_ids {i : Nat} {o : Ob} : ∀ {l : Obs}, Abs.look l i = some o → i ∈ ids l
  | [], h => by cases h
  | (m, d) :: r, h => by
    rw [look_put] at h
    by_cases e : m = i
    · subst e; simp [ids]
    · rw [if_neg e] at h; simp [ids, look_ids h]

theorem Wk.to {s : AS} {nt : Nat} {sl : List (Nat × D)} {ob : Obs} (hnt : nt = s.nt) (hs : wkSl s (ids ob) sl) (ho : wkOb s (ids ob) ob) : Wk s ⟨nt, sl, ob⟩ := fun w0 Z0 a w hR => by
  obtain ⟨φ, hR⟩ := hR
  have hlk' : ∀ i o, Abs.look ob i = some o → Abs.look s.ob i = some o := fun i o h => (wkOb_look ho i o h).1
  have hZ : ∀ b, ZZ Z0 ob φ b → ZZ Z0 s.ob φ b := fun b hb => by
    rcases hb with hb | ⟨i, o, h1, h2, h3⟩
    · exact .inl hb
    · exact .inr ⟨i, o, hlk' i o h1, h2, h3⟩
  have hi : ∀ i o, i ∈ ids ob → Abs.look s.ob i = some o → Abs.look ob i = some o := fun i o him h => by
    obtain ⟨o', h'⟩ := ids_look him
    have := hlk' i o' h'
    rw [this] at h; cases h; exact h'
  have hE : ∀ i ver v, i ∈ ids ob → oslE s.ob φ i ver v → oslE ob φ i ver v := fun i ver v him ⟨o, h1, h2⟩ => ⟨o, hi i o him h1, h2⟩
  have hF : ∀ i ver r c v, i ∈ ids ob → ptrF s.ob φ i ver r c v → ptrF ob φ i ver r c v := fun i ver r c v him ⟨o, h1, h2⟩ => ⟨o, hi i o him h1, h2⟩
  refine ⟨φ, by rw [hR.size, hnt], hR.defers, fun n => ?_, ⟨fun i j oi oj b h1 h2 => hR.good.inj i j oi oj b (hlk' i oi h1) (hlk' j oj h2), fun i o hi => ?_⟩, hR.below, hR.amb⟩
  · show EncS w Z0 ob φ (lookD sl n) _
    rcases wkSl_get hs n with h1 | ⟨h1, h2⟩
    · rw [h1]; exact .undef _
    · have := hR.slot n
      rw [h1] at this
      exact this.restrict hZ hE hF 4 h2
  · have hok := hR.good.ok i o (hlk' i o hi)
    have hre := (wkOb_look ho i o hi).2
    obtain ⟨xs, hx, h1, h2⟩ := hok.there
    refine ⟨hok.pure, xs, ⟨hx.len, hx.row, fun p q hp hq => ?_, hx.one, hx.lim⟩, h1, h2⟩
    have he := hx.enc p q hp hq
    have hmem : getC (getR o.rows p) q ∈ getR o.rows p := getC_mem (by rw [hx.row _ (getR_mem hp)]; exact hq)
    cases hbox : o.box with
    | false => exact (he.mono (Z' := ZZ Z0 ob φ) (fun b hb hlt => ⟨rfl, fun h => hb (hZ b h)⟩) (fun _ _ _ h => h) (fun _ _ _ _ _ h => h)).ofPc (hok.pure hbox _ (getR_mem hp) _ hmem)
    | true =>
      simp only [obRefs, hbox, Bool.not_true, Bool.false_or, List.all_eq_true] at hre
      exact he.restrict hZ hE hF 3 (hre _ (getR_mem hp) _ hmem)

def wkTo (s t : AS) : Prop := t.nt = s.nt ∧ wkSl s (ids t.ob) t.sl ∧ wkOb s (ids t.ob) t.ob
theorem Wk.of {s t : AS} (h : wkTo s t) : Wk s t := Wk.to h.1 h.2.1 h.2.2

theorem AWP.lp {P : Program} {Q : Exit → AS → Prop} {s : AS} {c : Code} {α : Type} (St : α → AS) (μ : α → Nat) (x : α) (h0 : wkTo s (St x))
    (round : ∀ x, ∀ K : Kt (fun s' => ∃ y, μ y < μ x ∧ wkTo s' (St y)), AWP P c (thenA K.f Q) (St x)) : AWP P (.loop c) Q s :=
  AWP.loop St μ x (.of h0) fun x K hK => round x ⟨K, fun s' ⟨y, h1, h2⟩ => hK s' y h1 (.of h2)⟩

/-- What is kept. -/
theorem E5 :
    (∀ (s : AS) (nt : Nat) (sl : List (Nat × D)) (ob : Obs), wkTo s ⟨nt, sl, ob⟩ = (nt = s.nt ∧ wkSl s (ids ob) sl ∧ wkOb s (ids ob) ob)) ∧
    (∀ (s : AS) (is : List Nat), wkSl s is [] = True) ∧ (∀ (s : AS) (is : List Nat) (n : Nat) (d : D) (r : List (Nat × D)), wkSl s is ((n, d) :: r) = (s.get n = d ∧ refsB is 4 d = true ∧ wkSl s is r)) ∧
    (∀ (s : AS) (is : List Nat), wkOb s is [] = True) ∧ (∀ (s : AS) (is : List Nat) (n : Nat) (o : Ob) (r : Obs), wkOb s is ((n, o) :: r) = (s.look n = some o ∧ obRefs is o = true ∧ wkOb s is r)) ∧
    (ids [] = []) ∧ (∀ (n : Nat) (o : Ob) (r : Obs), ids ((n, o) :: r) = n :: ids r) ∧
    (∀ (is : List Nat) (n : Nat) (k : IntKind) (i : Int), refsB is n (.int k i) = true) ∧ (∀ (is : List Nat) (n : Nat) (b : Bool), refsB is n (.bool b) = true) ∧ (∀ (is : List Nat) (n : Nat) (b : ByteArray), refsB is n (.str b) = true) ∧
    (∀ (is : List Nat) (n : Nat), refsB is n .nil = true) ∧ (∀ (is : List Nat) (n : Nat), refsB is n .void = true) ∧ (∀ (is : List Nat) (n : Nat), refsB is n .undef = true) ∧ (∀ (is : List Nat) (n sz : Nat) (rows : List (List D)), refsB is n (.fsl sz rows) = true) ∧ (∀ (is : List Nat) (n : Nat) (cs : List D) (c : Nat), refsB is n (.fptr cs c) = true) ∧
    (∀ (is : List Nat) (n id ver : Nat), refsB is n (.osl id ver) = is.contains id) ∧ (∀ (is : List Nat) (n id ver r c : Nat), refsB is n (.ptr id ver r c) = is.contains id) ∧
    (∀ (is : List Nat) (n : Nat) (cs : List D), refsB is (n + 1) (.agg cs) = cs.all (refsB is n)) ∧ (∀ (is : List Nat) (n : Nat) (cs : List D), refsB is (n + 1) (.tup cs) = cs.all (refsB is n)) ∧ (∀ (is : List Nat) (n : Nat) (f : FuncId) (cs : List D), refsB is (n + 1) (.fn f cs) = cs.all (refsB is n)) := by
  refine ⟨fun _ _ _ _ => rfl, fun _ _ => rfl, fun _ _ _ _ _ => rfl, fun _ _ => rfl, fun _ _ _ _ _ => rfl, rfl, fun _ _ _ => rfl, ?_, ?_, ?_, ?_, ?_, ?_, ?_, ?_, ?_, ?_, fun _ _ _ => rfl, fun _ _ _ => rfl, fun _ _ _ _ => rfl⟩ <;> (intro is n; cases n <;> intros <;> rfl)

theorem cond2_decide (p : Prop) [Decidable p] (a b : Prop) : cond2 (decide p) a b = ((p → a) ∧ (¬ p → b)) := by simp [cond2]

attribute [go_sem] finT_eq E1 E2 E3 E4 E5 cond2_true cond2_false cond2_not condA List.nil_append List.append_nil List.cons_append true_and and_true decide_true decide_false Bool.and_true Bool.true_and Bool.and_false Bool.false_and Bool.or_true Bool.true_or Bool.or_false Bool.false_or Bool.not_true Bool.not_false cond_true cond_false List.length_cons List.length_nil Bool.false_eq_true false_and and_false forall_const List.length_map if_true if_false Option.some.injEq implies_true List.nodup_nil D.bool.injEq D.int.injEq List.append_assoc Option.getD_some Option.getD_none List.drop_zero List.drop_succ_cons List.take_zero List.take_succ_cons List.drop_nil List.take_nil List.set_cons_zero List.set_cons_succ List.all_cons List.all_nil List.map_cons List.map_nil
attribute [go_sem] aPick pickD aAlloc aBox aBuild buildC aBuildSlice cellsAll resRows aLoad aStore aNil aBin aUn aConv aMakeFunc aMakeSlice aSlice optD aFieldAddr aField aIndexAddr aIndexS aExtract aCall aLen aMinMax isSl isBl isShift
  binI shI binS elemT madeT rowsOf aAppend takeT bump splice resArgs resCaps resCells frzU bumps obUps imp impL impC cnt cntL flat flatB
  retA resAll resVars expTops expTop expCells expCell mkR okRet thenA blockA D.pc

end Go.Abs
/- Calls, lists and bounds for the walk. -/
namespace Go.Abs
open Go Go.RowKit

/-! ### Calls -/

def callU (fl : Bool) (o : Oper) (ids : List Nat) (r : D) : AR :=
  match fl with
  | true => done o r []
  | false => frzU ids fun us =>
      match o.dst with
      | some n => bumps (n * 100) (cnt r) 0 fun vl => .ret (us ++ obUps (imp (n * 100) (fun k => vl.getD k 0) r).2 ++ [.slot n (imp (n * 100) (fun k => vl.getD k 0) r).1])
      | none => .ret us

def callT (o : Oper) (ids : List Nat) (r : D) : AR := callU (flat r) o ids r

theorem E6 :
    (∀ (o : Oper) (f : FuncId) (ds : List D), aCallF o f ds = resArgs ds fun ds' ids => .call f ds' (callT o ids)) ∧
    (∀ (o : Oper) (ids : List Nat) (b : Bool), callT o ids (.bool b) = done o (.bool b) []) ∧
    (∀ (o : Oper) (ids : List Nat) (k : IntKind) (b : Int), callT o ids (.int k b) = done o (.int k b) []) ∧
    (∀ (o : Oper) (ids : List Nat) (b : ByteArray), callT o ids (.str b) = done o (.str b) []) ∧
    (∀ (o : Oper) (ids : List Nat), callT o ids .void = done o .void []) ∧
    (∀ (o : Oper) (ids : List Nat), callT o ids .nil = done o .nil []) ∧
    (∀ (o : Oper) (ids : List Nat) (vs : List D), callT o ids (.tup vs) = callU (vs.all flatB) o ids (.tup vs)) ∧
    (∀ (o : Oper) (ids : List Nat) (vs : List D), callT o ids (.agg vs) = callU false o ids (.agg vs)) ∧
    (∀ (o : Oper) (ids : List Nat) (sz : Nat) (vs : List (List D)), callT o ids (.fsl sz vs) = callU false o ids (.fsl sz vs)) ∧
    (∀ (o : Oper) (ids : List Nat) (ty sz : Nat) (vs : List (List D)), callT o ids (.nsl ty sz vs) = callU false o ids (.nsl ty sz vs)) ∧
    (∀ (o : Oper) (ids : List Nat) (r : D), callU true o ids r = done o r []) ∧
    (∀ (n : Nat) (op : Op) (ty : TypeId) (pos : String) (af : Array Edge) (g : Option (Nat × Bool)) (ids : List Nat) (r : D), callU false ⟨some n, op, ty, pos, af, g⟩ ids r =
      frzU ids fun us => bumps (n * 100) (cnt r) 0 fun vl => .ret (us ++ obUps (imp (n * 100) (fun k => vl.getD k 0) r).2 ++ [.slot n (imp (n * 100) (fun k => vl.getD k 0) r).1])) := by
  refine ⟨fun o f ds => ?_, fun _ _ _ => rfl, fun _ _ _ _ => rfl, fun _ _ _ => rfl, fun _ _ => rfl, fun _ _ => rfl, fun _ _ _ => rfl, fun _ _ _ => rfl, fun _ _ _ _ => rfl, fun _ _ _ _ _ => rfl, fun _ _ _ => rfl, fun _ _ _ _ _ _ _ _ => rfl⟩
  unfold aCallF callT callU
  congr 1
  funext ds' ids
  congr 1
  funext r
  cases flat r <;> simp <;> rfl

theorem E7 : (∀ (d : D) (r : List D), getC (d :: r) 0 = d) ∧ (∀ (d : D) (r : List D) (n : Nat), getC (d :: r) (n + 1) = getC r n) ∧
    (∀ {X : Type} (f : X → List D) (pre : List X) (x : X) (post : List X), getR ((pre ++ x :: post).map f) pre.length = f x) ∧
    (∀ {X : Type} (f : X → List D) (pre : List X) (x : X) (post : List X), getR (pre.map f ++ f x :: post.map f) pre.length = f x) ∧
    (∀ n : Nat, ((n : Int).toNat) = n) := by
  refine ⟨fun _ _ => rfl, fun _ _ _ => rfl, fun f pre x post => ?_, fun f pre x post => ?_, fun n => Int.toNat_natCast n⟩
  · simp [getR]
  · simp [getR]

theorem wrap64 {n : Int} (h1 : -9223372036854775808 ≤ n) (h2 : n ≤ 9223372036854775807) : IntKind.i64.wrap n = n := by
  simp only [IntKind.wrap, IntKind.bits, IntKind.signed]; simp; omega

theorem DOk.len {sz : Nat} {rows : List (List D)} (h : DOk (.fsl sz rows)) : rows.length ≤ 140737488355328 := by cases h; assumption
theorem DOk.i64 {n : Int} (h : DOk (.int .i64 n)) : -9223372036854775808 ≤ n ∧ n ≤ 9223372036854775807 := by cases h with | int _ _ h => simpa [IntKind.has, IntKind.min, IntKind.max, IntKind.bits, IntKind.signed] using h
theorem DOk.u8 {n : Int} (h : DOk (.int .u8 n)) : 0 ≤ n ∧ n ≤ 255 := by cases h with | int _ _ h => simpa [IntKind.has, IntKind.min, IntKind.max, IntKind.bits, IntKind.signed] using h
theorem DOk.size {s : ByteArray} (h : DOk (.str s)) : s.size ≤ 140737488355328 := by cases h; assumption

def resO (ver id : Nat) (o : Option Ob) (k : D → List Nat → AR) : AR := match o with | some b => .req (b.ver = ver ∧ b.box = false) (k (.fsl b.sz b.rows) [id]) | none => .fail
def resP (ver row col id : Nat) (o : Option Ob) (k : D → List Nat → AR) : AR := match o with | some b => .req (b.ver = ver ∧ row < b.rows.length) (resCells (getR b.rows row) fun cs ids => k (.fptr cs col) (id :: ids)) | none => .fail

/-- By value. -/
theorem E8 : (∀ (k : D → List Nat → AR) (a : IntKind) (b : Int), resCell (.int a b) k = k (.int a b) []) ∧
    (∀ (k : D → List Nat → AR) (a : Bool), resCell (.bool a) k = k (.bool a) []) ∧
    (∀ (k : D → List Nat → AR) (a : ByteArray), resCell (.str a) k = k (.str a) []) ∧
    (∀ (k : D → List Nat → AR) , resCell (.nil) k = k (.nil) []) ∧
    (∀ (k : D → List Nat → AR) (a : Nat) (b : List (List D)), resCell (.fsl a b) k = k (.fsl a b) []) ∧
    (∀ (k : D → List Nat → AR) (id ver : Nat), resCell (.osl id ver) k = .look id fun o => resO ver id o k) ∧
    (∀ (k : D → List Nat → AR) (a : IntKind) (b : Int), resCap (.int a b) k = k (.int a b) []) ∧
    (∀ (k : D → List Nat → AR) (a : Bool), resCap (.bool a) k = k (.bool a) []) ∧
    (∀ (k : D → List Nat → AR) (a : ByteArray), resCap (.str a) k = k (.str a) []) ∧
    (∀ (k : D → List Nat → AR) , resCap (.nil) k = k (.nil) []) ∧
    (∀ (k : D → List Nat → AR) (a : Nat) (b : List (List D)), resCap (.fsl a b) k = k (.fsl a b) []) ∧
    (∀ (k : D → List Nat → AR) (id ver : Nat), resCap (.osl id ver) k = .look id fun o => resO ver id o k) ∧
    (∀ (k : D → List Nat → AR) (a : IntKind) (b : Int), resArg (.int a b) k = k (.int a b) []) ∧
    (∀ (k : D → List Nat → AR) (a : Bool), resArg (.bool a) k = k (.bool a) []) ∧
    (∀ (k : D → List Nat → AR) (a : ByteArray), resArg (.str a) k = k (.str a) []) ∧
    (∀ (k : D → List Nat → AR) , resArg (.nil) k = k (.nil) []) ∧
    (∀ (k : D → List Nat → AR) (a : Nat) (b : List (List D)), resArg (.fsl a b) k = k (.fsl a b) []) ∧
    (∀ (k : D → List Nat → AR) (id ver : Nat), resArg (.osl id ver) k = .look id fun o => resO ver id o k) ∧
    (∀ (k : D → List Nat → AR) (id ver row col : Nat), resCap (.ptr id ver row col) k = .look id fun o => resP ver row col id o k) ∧
    (∀ (k : D → List Nat → AR) (cs : List D), resCap (.agg cs) k = resCells cs fun cs' ids => k (.agg cs') ids) ∧
    (∀ (k : D → List Nat → AR) (cs : List D) (c : Nat), resCap (.fptr cs c) k = k (.fptr cs c) []) ∧
    (∀ (k : D → List Nat → AR), resCap .undef k = k .undef []) ∧
    (∀ (k : D → List Nat → AR) (id ver row col : Nat), resArg (.ptr id ver row col) k = .look id fun o => resP ver row col id o k) ∧
    (∀ (k : D → List Nat → AR) (cs : List D), resArg (.agg cs) k = resCells cs fun cs' ids => k (.agg cs') ids) ∧
    (∀ (k : D → List Nat → AR) (cs : List D) (c : Nat), resArg (.fptr cs c) k = k (.fptr cs c) []) ∧
    (∀ (k : D → List Nat → AR), resArg .undef k = k .undef []) ∧
    (∀ (k : D → List Nat → AR) (f : FuncId) (cs : List D), resArg (.fn f cs) k = resCaps cs fun cs' ids => k (.fn f cs') ids) ∧
    (∀ (k : D → List Nat → AR) (b : Ob) (ver id : Nat), resO ver id (some b) k = .req (b.ver = ver ∧ b.box = false) (k (.fsl b.sz b.rows) [id])) ∧
    (∀ (k : D → List Nat → AR) (b : Ob) (ver row col id : Nat), resP ver row col id (some b) k = .req (b.ver = ver ∧ row < b.rows.length) (resCells (getR b.rows row) fun cs ids => k (.fptr cs col) (id :: ids))) ∧
    (∀ (a : IntKind) (b : Int), cellsOf (.int a b) = some [.int a b]) ∧
    (∀ (a : Bool), cellsOf (.bool a) = some [.bool a]) ∧
    (∀ (a : ByteArray), cellsOf (.str a) = some [.str a]) ∧
    (cellsOf .nil = some [.nil]) ∧
    (∀ (a : Nat) (b : List (List D)), cellsOf (.fsl a b) = some [.fsl a b]) ∧
    (∀ (a b : Nat), cellsOf (.osl a b) = some [.osl a b]) ∧
    (∀ (a b c d : Nat), cellsOf (.ptr a b c d) = some [.ptr a b c d]) ∧
    (∀ (cs : List D) (c : Nat), cellsOf (.fptr cs c) = some [.fptr cs c]) ∧
    (∀ (f : FuncId) (cs : List D), cellsOf (.fn f cs) = some [.fn f cs]) ∧
    (∀ (cs : List D), cellsOf (.agg cs) = some cs) ∧
    (∀ (k : Bool → AR), nilEq .nil k = k true) ∧
    (∀ (k : Bool → AR) (sz : Nat) (rows : List (List D)), nilEq (.fsl sz rows) k = .req (rows ≠ []) (k false)) := by
  refine ⟨?_, ?_, ?_, ?_, ?_, ?_, ?_, ?_, ?_, ?_, ?_, ?_, ?_, ?_, ?_, ?_, ?_, ?_, ?_, ?_, ?_, ?_, ?_, ?_, ?_, ?_, ?_, ?_, ?_, ?_, ?_, ?_, ?_, ?_, ?_, ?_, ?_, ?_, ?_, ?_, ?_⟩ <;> intros <;> rfl

theorem getR_zero (r : List D) (l : List (List D)) : getR (r :: l) 0 = r := rfl
theorem getR_succ (r : List D) (l : List (List D)) (n : Nat) : getR (r :: l) (n + 1) = getR l n := rfl
attribute [go_sem] getR_zero getR_succ

theorem opds_cons' (x : Operand) (r : List Operand) (k : List D → AR) : opds (x :: r) k = opd x fun d => opds r fun ds => k (d :: ds) := rfl
theorem opds_nil' (k : List D → AR) : opds [] k = k [] := rfl
theorem opd_const' (v : Value) (k : D → AR) : opd (.const v) k = k (constD v) := rfl
theorem resRows_cons' (r : List D) (l : List (List D)) (k : List (List D) → List Nat → AR) : resRows (r :: l) k = resCells r fun r' i1 => resRows l fun l' i2 => k (r' :: l') (i1 ++ i2) := rfl
theorem resCells_cons' (d : D) (r : List D) (k : List D → List Nat → AR) : resCells (d :: r) k = resCell d fun d' i1 => resCells r fun r' i2 => k (d' :: r') (i1 ++ i2) := rfl
theorem resCells_nil' (k : List D → List Nat → AR) : resCells [] k = k [] [] := rfl
theorem resCell_str' (s : ByteArray) (k : D → List Nat → AR) : resCell (.str s) k = k (.str s) [] := rfl
theorem resCell_int' (a : IntKind) (b : Int) (k : D → List Nat → AR) : resCell (.int a b) k = k (.int a b) [] := rfl
attribute [go_sem ↓] opds_cons' opds_nil' opd_const' resRows_cons' resCells_cons' resCells_nil' resCell_str' resCell_int'

theorem obRefs_sl (is : List Nat) (v : Nat) (m : Bool) (sz : Nat) (ty : TypeId) (rows : List (List D)) : obRefs is ⟨v, m, false, sz, ty, rows⟩ = true := rfl
theorem obRefs_box (is : List Nat) (v : Nat) (m : Bool) (sz : Nat) (ty : TypeId) (rows : List (List D)) : obRefs is ⟨v, m, true, sz, ty, rows⟩ = rows.all fun r => r.all (refsB is 3) := by simp [obRefs]
attribute [go_sem] obRefs_sl obRefs_box cntL.cntC

theorem E10 : (∀  (r : D), leR (.undef) r = (.undef = r)) ∧
    (∀  (r : D), leR (.void) r = (.void = r)) ∧
    (∀ (k : IntKind) (n : Int) (r : D), leR (.int k n) r = (.int k n = r)) ∧
    (∀ (b : Bool) (r : D), leR (.bool b) r = (.bool b = r)) ∧
    (∀ (z : ByteArray) (r : D), leR (.str z) r = (.str z = r)) ∧
    (∀ (cs : List D) (r : D), leR (.agg cs) r = (.agg cs = r)) ∧
    (∀ (cs : List D) (r : D), leR (.tup cs) r = (.tup cs = r)) ∧
    (∀ (z : Nat) (rows : List (List D)) (r : D), leR (.fsl z rows) r = (.fsl z rows = r)) ∧
    (∀ (a b : Nat) (r : D), leR (.osl a b) r = (.osl a b = r)) ∧
    (∀ (a b c d : Nat) (r : D), leR (.ptr a b c d) r = (.ptr a b c d = r)) ∧
    (∀ (cs : List D) (c : Nat) (r : D), leR (.fptr cs c) r = (.fptr cs c = r)) ∧
    (∀ (g : FuncId) (cs : List D) (r : D), leR (.fn g cs) r = (.fn g cs = r)) ∧
    (∀ (a b : Nat) (rows : List (List D)) (r : D), leR (.nsl a b rows) r = (.nsl a b rows = r)) ∧
    (∀ (p : Prop) (r : D), leR (.ubool p) r = (.ubool p = r)) ∧
    (leR .nil .nil = True) ∧
    (∀ (ty sz : Nat) (rows : List (List D)), leR .nil (.nsl ty sz rows) = (rows = [])) := by
  refine ⟨?_, ?_, ?_, ?_, ?_, ?_, ?_, ?_, ?_, ?_, ?_, ?_, ?_, ?_, ?_, ?_⟩ <;> intros <;> rfl

/-- Calls in place. -/
theorem E9 : (∀ (T : Tab) (o : Oper) (f : FuncId), aCallX T o f [] = aCallF o f []) ∧
    (∀ (T : Tab) (o : Oper) (f : FuncId) (d e : D) (r : List D), aCallX T o f (d :: e :: r) = aCallF o f (d :: e :: r)) ∧
    (∀ (T : Tab) (o : Oper) (f : FuncId) (id ver : Nat), aCallX T o f [.osl id ver] = match isInp T f with | true => aCallI o f id ver | false => aCallF o f [.osl id ver]) ∧
    (∀ (T : Tab) (o : Oper) (f : FuncId) (r : List D), aCallX T o f (.undef :: r) = aCallF o f (.undef :: r)) ∧
    (∀ (T : Tab) (o : Oper) (f : FuncId) (r : List D), aCallX T o f (.void :: r) = aCallF o f (.void :: r)) ∧
    (∀ (T : Tab) (o : Oper) (f : FuncId) (k : IntKind) (n : Int) (r : List D), aCallX T o f (.int k n :: r) = aCallF o f (.int k n :: r)) ∧
    (∀ (T : Tab) (o : Oper) (f : FuncId) (b : Bool) (r : List D), aCallX T o f (.bool b :: r) = aCallF o f (.bool b :: r)) ∧
    (∀ (T : Tab) (o : Oper) (f : FuncId) (z : ByteArray) (r : List D), aCallX T o f (.str z :: r) = aCallF o f (.str z :: r)) ∧
    (∀ (T : Tab) (o : Oper) (f : FuncId) (cs : List D) (r : List D), aCallX T o f (.agg cs :: r) = aCallF o f (.agg cs :: r)) ∧
    (∀ (T : Tab) (o : Oper) (f : FuncId) (cs : List D) (r : List D), aCallX T o f (.tup cs :: r) = aCallF o f (.tup cs :: r)) ∧
    (∀ (T : Tab) (o : Oper) (f : FuncId) (z : Nat) (rows : List (List D)) (r : List D), aCallX T o f (.fsl z rows :: r) = aCallF o f (.fsl z rows :: r)) ∧
    (∀ (T : Tab) (o : Oper) (f : FuncId) (r : List D), aCallX T o f (.nil :: r) = aCallF o f (.nil :: r)) ∧
    (∀ (T : Tab) (o : Oper) (f : FuncId) (a b c d : Nat) (r : List D), aCallX T o f (.ptr a b c d :: r) = aCallF o f (.ptr a b c d :: r)) ∧
    (∀ (T : Tab) (o : Oper) (f : FuncId) (cs : List D) (c : Nat) (r : List D), aCallX T o f (.fptr cs c :: r) = aCallF o f (.fptr cs c :: r)) ∧
    (∀ (T : Tab) (o : Oper) (f : FuncId) (g : FuncId) (cs : List D) (r : List D), aCallX T o f (.fn g cs :: r) = aCallF o f (.fn g cs :: r)) ∧
    (∀ (T : Tab) (o : Oper) (f : FuncId) (a b : Nat) (rows : List (List D)) (r : List D), aCallX T o f (.nsl a b rows :: r) = aCallF o f (.nsl a b rows :: r)) ∧
    (∀ (T : Tab) (o : Oper) (f : FuncId) (p : Prop) (r : List D), aCallX T o f (.ubool p :: r) = aCallF o f (.ubool p :: r)) ∧
    (∀ (o : Oper) (f : FuncId) (id ver : Nat), aCallI o f id ver = .look id (inpO o f id ver)) ∧
    (∀ (o : Oper) (f : FuncId) (id ver : Nat) (b : Ob), inpO o f id ver (some b) = .req (b.ver = ver ∧ b.box = false ∧ b.mt = true) (.call f [.nsl b.ty b.sz b.rows] (inpR o id ver b))) ∧
    (∀ (o : Oper) (id ver : Nat) (b : Ob) (ty sz : Nat) (rows : List (List D)), inpR o id ver b (.tup [.nsl ty sz rows]) = done o (.tup []) [.ob id { b with rows := rows }]) ∧
    (∀ (n : Nat) (op : Op) (tt : TypeId) (pos : String) (af : Array Go.Edge) (g : Option (Nat × Bool)) (id ver : Nat) (b : Ob) (ty sz : Nat) (rows : List (List D)), inpR ⟨some n, op, tt, pos, af, g⟩ id ver b (.nsl ty sz rows) = .ret [.ob id { b with ver := ver + 1, rows := rows }, .slot n (.osl id (ver + 1))]) ∧
    (∀ (n : FuncId), inpL [] n = false) ∧
    (∀ (n : FuncId) (r : List FuncId), inpL (n :: r) n = true) ∧
    (∀ (a n : FuncId) (r : List FuncId), a ≠ n → inpL (a :: r) n = inpL r n) := by
  refine ⟨?_, ?_, ?_, ?_, ?_, ?_, ?_, ?_, ?_, ?_, ?_, ?_, ?_, ?_, ?_, ?_, ?_, ?_, ?_, ?_, ?_, ?_, ?_, ?_⟩
  all_goals first | (intros; rfl) | (intros; rename_i r; cases r <;> rfl) | (intro T o f d e r; cases d <;> rfl) | (intro n r; simp [inpL]; done) | (intro a n r h; simp [inpL, h])

theorem vs2 {vs : Array Value} (h : vs.size = 2) : vs = #[vs.getD 0 Go.undef, vs.getD 1 Go.undef] := by
  apply Array.ext (by simp [h])
  intro i hi _
  have hi' : i = 0 ∨ i = 1 := by omega
  rcases hi' with rfl | rfl <;> simp [h]

attribute [go_sem] Int.toNat_one Int.toNat_zero List.getElem?_cons_zero List.getElem?_cons_succ List.getD_cons_zero List.getD_cons_succ ne_eq not_false_eq_true not_true_eq_false
attribute [go_sem] E6 E7 E8 E9 E10
theorem eqC_nil (k : Bool → AR) : eqC [] [] [] k = k true := rfl
theorem eqC_cons (q : IntKind) (qs : List IntKind) (n m : Int) (r r' : List D) (k : Bool → AR) : eqC (q :: qs) (.int q n :: r) (.int q m :: r') k = eqC qs r r' fun e => k ((n == m) && e) := by simp [eqC]
attribute [go_sem] eqC_nil eqC_cons

end Go.Abs
/- The table of the types of the program. -/
namespace Go.Abs
open Go Go.RowKit Go.Proofs

def T : Tab := ⟨[(3, ⟨1, 8, .int .i64, (some [.int .i64 0])⟩),
  (4, ⟨1, 1, .bool, (some [.bool false])⟩),
  (5, ⟨1, 1, .int .u8, (some [.int .u8 0])⟩),
  (9, ⟨1, 16, .str, (some [.str ⟨#[]⟩])⟩),
  (22, ⟨1, 24, .sl 115, (some [.nil])⟩),
  (23, ⟨1, 24, .sl 120, (some [.nil])⟩),
  (25, ⟨2, 48, .st [(0, 22), (1, 23)], (some [.nil, .nil])⟩),
  (26, ⟨1, 24, .sl 3, (some [.nil])⟩),
  (27, ⟨1, 24, .sl 143, (some [.nil])⟩),
  (29, ⟨2, 48, .st [(0, 26), (1, 27)], (some [.nil, .nil])⟩),
  (30, ⟨1, 24, .sl 161, (some [.nil])⟩),
  (31, ⟨1, 24, .sl 182, (some [.nil])⟩),
  (33, ⟨5, 104, .st [(0, 29), (2, 30), (3, 3), (4, 31)], (some [.nil, .nil, .nil, .int .i64 0, .nil])⟩),
  (35, ⟨2, 48, .st [(0, 26), (1, 26)], (some [.nil, .nil])⟩),
  (36, ⟨2, 48, .st [(0, 26), (1, 26)], (some [.nil, .nil])⟩),
  (37, ⟨1, 24, .sl 39, (some [.nil])⟩),
  (39, ⟨9, 184, .st [(0, 3), (1, 37), (2, 36), (4, 33)], (some [.int .i64 0, .nil, .nil, .nil, .nil, .nil, .nil, .int .i64 0, .nil])⟩),
  (41, ⟨25, 512, .st [(0, 9), (1, 33), (6, 33), (11, 35), (13, 36), (15, 4), (16, 39)], (some [.str ⟨#[]⟩, .nil, .nil, .nil, .int .i64 0, .nil, .nil, .nil, .nil, .int .i64 0, .nil, .nil, .nil, .nil, .nil, .bool false, .int .i64 0, .nil, .nil, .nil, .nil, .nil, .nil, .int .i64 0, .nil])⟩),
  (44, ⟨1, 8, .int .i64, (some [.int .i64 0])⟩),
  (51, ⟨1, 24, .sl 57, (some [.nil])⟩),
  (57, ⟨2, 16, .st [(0, 3), (1, 3)], (some [.int .i64 0, .int .i64 0])⟩),
  (66, ⟨1, 8, .int .u64, (some [.int .u64 0])⟩),
  (113, ⟨1, 24, .sl 118, (some [.nil])⟩),
  (115, ⟨4, 56, .st [(0, 9), (1, 3), (2, 4), (3, 113)], (some [.str ⟨#[]⟩, .int .i64 0, .bool false, .nil])⟩),
  (116, ⟨1, 24, .sl 9, (some [.nil])⟩),
  (118, ⟨4, 56, .st [(0, 9), (1, 3), (2, 3), (3, 116)], (some [.str ⟨#[]⟩, .int .i64 0, .int .i64 0, .nil])⟩),
  (120, ⟨7, 64, .st [(0, 9), (1, 3), (2, 3), (3, 3), (4, 3), (5, 3), (6, 3)], (some [.str ⟨#[]⟩, .int .i64 0, .int .i64 0, .int .i64 0, .int .i64 0, .int .i64 0, .int .i64 0])⟩),
  (143, ⟨3, 24, .st [(0, 3), (1, 3), (2, 3)], (some [.int .i64 0, .int .i64 0, .int .i64 0])⟩),
  (151, ⟨3, 32, .st [(0, 3), (1, 9), (2, 3)], (some [.int .i64 0, .str ⟨#[]⟩, .int .i64 0])⟩),
  (157, ⟨1, 24, .sl 4, (some [.nil])⟩),
  (159, ⟨2, 16, .st [(0, 3), (1, 3)], (some [.int .i64 0, .int .i64 0])⟩),
  (161, ⟨4, 32, .st [(0, 3), (1, 3), (2, 159)], (some [.int .i64 0, .int .i64 0, .int .i64 0, .int .i64 0])⟩),
  (182, ⟨5, 40, .st [(0, 3), (1, 159), (3, 159)], (some [.int .i64 0, .int .i64 0, .int .i64 0, .int .i64 0, .int .i64 0])⟩),
  (196, ⟨1, 8, .int .u64, (some [.int .u64 0])⟩),
  (239, ⟨1, 8, .int .i64, (some [.int .i64 0])⟩),
  (246, ⟨1, 4, .int .u32, (some [.int .u32 0])⟩),
  (276, ⟨1, 8, .int .u64, (some [.int .u64 0])⟩)],
  [87, 233, 289],
  [(57, [.i64, .i64]), (143, [.i64, .i64, .i64]), (159, [.i64, .i64]), (161, [.i64, .i64, .i64, .i64]), (182, [.i64, .i64, .i64, .i64, .i64])]⟩

theorem tok1 : (T.ts.all fun x => tiB Tryz.prog x.1 x.2) = true := by kernel_rfl
theorem tok2 : (T.keys.all fun x => keyB Tryz.prog x.1 x.2) = true := by kernel_rfl
theorem tok : TOk Tryz.prog T := ⟨tok1, tok2⟩

theorem env : EnvOk Tryz.prog T := ⟨tok, by kernel_rfl⟩

/-- The rows. -/
theorem TL : (tlook T 3 = some ⟨1, 8, .int .i64, (some [.int .i64 0])⟩) ∧
    (tlook T 4 = some ⟨1, 1, .bool, (some [.bool false])⟩) ∧
    (tlook T 5 = some ⟨1, 1, .int .u8, (some [.int .u8 0])⟩) ∧
    (tlook T 9 = some ⟨1, 16, .str, (some [.str ⟨#[]⟩])⟩) ∧
    (tlook T 22 = some ⟨1, 24, .sl 115, (some [.nil])⟩) ∧
    (tlook T 23 = some ⟨1, 24, .sl 120, (some [.nil])⟩) ∧
    (tlook T 25 = some ⟨2, 48, .st [(0, 22), (1, 23)], (some [.nil, .nil])⟩) ∧
    (tlook T 26 = some ⟨1, 24, .sl 3, (some [.nil])⟩) ∧
    (tlook T 27 = some ⟨1, 24, .sl 143, (some [.nil])⟩) ∧
    (tlook T 29 = some ⟨2, 48, .st [(0, 26), (1, 27)], (some [.nil, .nil])⟩) ∧
    (tlook T 30 = some ⟨1, 24, .sl 161, (some [.nil])⟩) ∧
    (tlook T 31 = some ⟨1, 24, .sl 182, (some [.nil])⟩) ∧
    (tlook T 33 = some ⟨5, 104, .st [(0, 29), (2, 30), (3, 3), (4, 31)], (some [.nil, .nil, .nil, .int .i64 0, .nil])⟩) ∧
    (tlook T 35 = some ⟨2, 48, .st [(0, 26), (1, 26)], (some [.nil, .nil])⟩) ∧
    (tlook T 36 = some ⟨2, 48, .st [(0, 26), (1, 26)], (some [.nil, .nil])⟩) ∧
    (tlook T 37 = some ⟨1, 24, .sl 39, (some [.nil])⟩) ∧
    (tlook T 39 = some ⟨9, 184, .st [(0, 3), (1, 37), (2, 36), (4, 33)], (some [.int .i64 0, .nil, .nil, .nil, .nil, .nil, .nil, .int .i64 0, .nil])⟩) ∧
    (tlook T 41 = some ⟨25, 512, .st [(0, 9), (1, 33), (6, 33), (11, 35), (13, 36), (15, 4), (16, 39)], (some [.str ⟨#[]⟩, .nil, .nil, .nil, .int .i64 0, .nil, .nil, .nil, .nil, .int .i64 0, .nil, .nil, .nil, .nil, .nil, .bool false, .int .i64 0, .nil, .nil, .nil, .nil, .nil, .nil, .int .i64 0, .nil])⟩) ∧
    (tlook T 44 = some ⟨1, 8, .int .i64, (some [.int .i64 0])⟩) ∧
    (tlook T 51 = some ⟨1, 24, .sl 57, (some [.nil])⟩) ∧
    (tlook T 57 = some ⟨2, 16, .st [(0, 3), (1, 3)], (some [.int .i64 0, .int .i64 0])⟩) ∧
    (tlook T 66 = some ⟨1, 8, .int .u64, (some [.int .u64 0])⟩) ∧
    (tlook T 113 = some ⟨1, 24, .sl 118, (some [.nil])⟩) ∧
    (tlook T 115 = some ⟨4, 56, .st [(0, 9), (1, 3), (2, 4), (3, 113)], (some [.str ⟨#[]⟩, .int .i64 0, .bool false, .nil])⟩) ∧
    (tlook T 116 = some ⟨1, 24, .sl 9, (some [.nil])⟩) ∧
    (tlook T 118 = some ⟨4, 56, .st [(0, 9), (1, 3), (2, 3), (3, 116)], (some [.str ⟨#[]⟩, .int .i64 0, .int .i64 0, .nil])⟩) ∧
    (tlook T 120 = some ⟨7, 64, .st [(0, 9), (1, 3), (2, 3), (3, 3), (4, 3), (5, 3), (6, 3)], (some [.str ⟨#[]⟩, .int .i64 0, .int .i64 0, .int .i64 0, .int .i64 0, .int .i64 0, .int .i64 0])⟩) ∧
    (tlook T 143 = some ⟨3, 24, .st [(0, 3), (1, 3), (2, 3)], (some [.int .i64 0, .int .i64 0, .int .i64 0])⟩) ∧
    (tlook T 151 = some ⟨3, 32, .st [(0, 3), (1, 9), (2, 3)], (some [.int .i64 0, .str ⟨#[]⟩, .int .i64 0])⟩) ∧
    (tlook T 157 = some ⟨1, 24, .sl 4, (some [.nil])⟩) ∧
    (tlook T 159 = some ⟨2, 16, .st [(0, 3), (1, 3)], (some [.int .i64 0, .int .i64 0])⟩) ∧
    (tlook T 161 = some ⟨4, 32, .st [(0, 3), (1, 3), (2, 159)], (some [.int .i64 0, .int .i64 0, .int .i64 0, .int .i64 0])⟩) ∧
    (tlook T 182 = some ⟨5, 40, .st [(0, 3), (1, 159), (3, 159)], (some [.int .i64 0, .int .i64 0, .int .i64 0, .int .i64 0, .int .i64 0])⟩) ∧
    (tlook T 196 = some ⟨1, 8, .int .u64, (some [.int .u64 0])⟩) ∧
    (tlook T 239 = some ⟨1, 8, .int .i64, (some [.int .i64 0])⟩) ∧
    (tlook T 246 = some ⟨1, 4, .int .u32, (some [.int .u32 0])⟩) ∧
    (tlook T 276 = some ⟨1, 8, .int .u64, (some [.int .u64 0])⟩) :=
  ⟨rfl, rfl, rfl, rfl, rfl, rfl, rfl, rfl, rfl, rfl, rfl, rfl, rfl, rfl, rfl, rfl, rfl, rfl, rfl, rfl, rfl, rfl, rfl, rfl, rfl, rfl, rfl, rfl, rfl, rfl, rfl, rfl, rfl, rfl, rfl, rfl, rfl⟩

/-- The kinds of the cells of structs that are compared. -/
theorem KL : (klook T 57 = some [.i64, .i64]) ∧
    (klook T 143 = some [.i64, .i64, .i64]) ∧
    (klook T 159 = some [.i64, .i64]) ∧
    (klook T 161 = some [.i64, .i64, .i64, .i64]) ∧
    (klook T 182 = some [.i64, .i64, .i64, .i64, .i64]) :=
  ⟨rfl, rfl, rfl, rfl, rfl⟩

theorem inp_T (n : FuncId) : isInp T n = inpL [87, 233, 289] n := rfl

end Go.Abs
/- The data of the programs: numbers, bytes, graphs, rules; how they lie in memory. -/
namespace Go.Abs
open Go Go.RowKit

/-- The byte at a place, as a number. -/
def byteAt (s : ByteArray) (i : Nat) : Int := ((s.get! i).toNat : Int)

/-- From a place on: the first place whose byte does not please. -/
def runN (p : Int → Bool) (s : ByteArray) : Nat → Nat → Nat
  | 0, n => n
  | f + 1, n => bif decide (n < s.size) && p (byteAt s n) then runN p s f (n + 1) else n

def runF (p : Int → Bool) (s : ByteArray) (n : Nat) : Nat := runN p s (s.size - n) n

theorem runF_stop {p : Int → Bool} {s : ByteArray} {n : Nat} (h : ¬ (n < s.size ∧ p (byteAt s n) = true)) : runF p s n = n := by
  unfold runF
  cases hf : s.size - n with
  | zero => rfl
  | succ f =>
    have : n < s.size := by omega
    have hp : p (byteAt s n) = false := by
      cases hp : p (byteAt s n) with
      | false => rfl
      | true => exact absurd ⟨this, hp⟩ h
    simp [runN, this, hp]

theorem runF_step {p : Int → Bool} {s : ByteArray} {n : Nat} (h1 : n < s.size) (h2 : p (byteAt s n) = true) : runF p s n = runF p s (n + 1) := by
  unfold runF
  have : s.size - n = (s.size - (n + 1)) + 1 := by omega
  rw [this]
  simp [runN, h1, h2]

theorem runF_ge {p : Int → Bool} {s : ByteArray} : ∀ (k n : Nat), s.size - n = k → n ≤ runF p s n ∧ (n ≤ s.size → runF p s n ≤ s.size)
  | 0, n, h => by rw [runF_stop (by omega)]; exact ⟨Nat.le_refl _, id⟩
  | k + 1, n, h => by
    by_cases hp : n < s.size ∧ p (byteAt s n) = true
    · rw [runF_step hp.1 hp.2]
      have := runF_ge (p := p) (s := s) k (n + 1) (by omega)
      exact ⟨by omega, fun _ => this.2 (by omega)⟩
    · rw [runF_stop hp]; exact ⟨Nat.le_refl _, id⟩

abbrev rI (n : Int) : List D := [.int .i64 n]
abbrev rS (s : ByteArray) : List D := [.str s]
abbrev rB (b : Bool) : List D := [.bool b]

structure Edge where
  typ : Int
  src : Int
  tgt : Int

def rEdge (e : Edge) : List D := [.int .i64 e.typ, .int .i64 e.src, .int .i64 e.tgt]

structure Graph where
  nodes : List Int
  edges : List Edge

abbrev dInts (l : List Int) : D := .fsl 1 (l.map rI)
abbrev dGraph (g : Graph) : D := .agg [dInts g.nodes, .fsl 3 (g.edges.map rEdge)]

structure Attr where
  name : ByteArray
  low : Int
  high : Int
  names : List ByteArray

def rAttr (a : Attr) : List D := [.str a.name, .int .i64 a.low, .int .i64 a.high, .fsl 1 (a.names.map rS)]

structure NodeT where
  name : ByteArray
  parent : Int
  abstr : Bool
  attrs : List Attr

def rNodeT (n : NodeT) : List D := [.str n.name, .int .i64 n.parent, .bool n.abstr, .fsl 4 (n.attrs.map rAttr)]

structure EdgeT where
  name : ByteArray
  src : Int
  tgt : Int
  outLow : Int
  outHigh : Int
  inLow : Int
  inHigh : Int

def rEdgeT (e : EdgeT) : List D := [.str e.name, .int .i64 e.src, .int .i64 e.tgt, .int .i64 e.outLow, .int .i64 e.outHigh, .int .i64 e.inLow, .int .i64 e.inHigh]

structure Types where
  nodes : List NodeT
  edges : List EdgeT

abbrev dTypes (t : Types) : D := .agg [.fsl 4 (t.nodes.map rNodeT), .fsl 7 (t.edges.map rEdgeT)]

structure Term where
  var : Int
  add : Int

structure Tst where
  kind : Int
  left : Term
  right : Term

def rTest (x : Tst) : List D := [.int .i64 x.kind, .int .i64 x.left.var, .int .i64 x.left.add, .int .i64 x.right.var, .int .i64 x.right.add]

structure Slot where
  node : Int
  attr : Int
  term : Term

def rSlot (x : Slot) : List D := [.int .i64 x.node, .int .i64 x.attr, .int .i64 x.term.var, .int .i64 x.term.add]

structure Patt where
  graph : Graph
  slots : List Slot
  vars : Int
  tests : List Tst

abbrev dPatt (p : Patt) : D := .agg [dInts p.graph.nodes, .fsl 3 (p.graph.edges.map rEdge), .fsl 4 (p.slots.map rSlot), .int .i64 p.vars, .fsl 5 (p.tests.map rTest)]

/-- Parts and morphisms. -/
structure Two where
  nodes : List Int
  edges : List Int

abbrev dTwo (m : Two) : D := .agg [dInts m.nodes, dInts m.edges]

/-! ### Places in lists -/

theorem getR_map {X : Type} (f : X → List D) (l : List X) (i : Nat) (h : i < l.length) : getR (l.map f) i = f l[i] := by simp [getR, h]

theorem getR_map_mem {X : Type} (f : X → List D) (l : List X) (i : Nat) (h : i < l.length) : ∃ x, l[i]? = some x ∧ getR (l.map f) i = f x := ⟨l[i], by simp [h], getR_map f l i h⟩

end Go.Abs
/- Own slices by value. -/
namespace Go.Abs
open Go Go.RowKit

section
variable {s t : AS}

theorem AvoidsFrz {w w0 : World} {Z0 : Nat → Prop} {φ : Nat → Value} {a : Act} {id : Nat} {o : Ob} (hR : RelF w0 Z0 φ s a w) (ho : s.look id = some o) :
    Avoids { s with ob := (id, { o with mt := false }) :: s.ob } Z0 φ w [id] (ZZ Z0 ((id, { o with mt := false }) :: s.ob) φ) := by
  refine ⟨fun b _ hz => hz, fun i hi b hb hz => ?_⟩
  obtain rfl : i = id := by simpa using hi
  rcases hz with h0 | ⟨j, oj, h1, h2, h3⟩
  · have := (hR.good.ok i o ho).block_ge hb
    have := hR.amb b h0
    omega
  · rw [look_put] at h1
    split at h1
    · cases h1; cases h2
    · rename_i hne
      exact hne (hR.good.inj i j o oj b ho h1 hb h3)

/-- An own slice that is not written any more: by value. -/
theorem Wk.val {n id ver : Nat} {o : Ob} (hn : s.get n = .osl id ver) (ho : s.look id = some o) (hv : o.ver = ver) (hb : o.box = false) :
    Wk s { s with sl := (n, .fsl o.sz o.rows) :: s.sl, ob := (id, { o with mt := false }) :: s.ob } := fun w0 Z0 a w hR => by
  obtain ⟨φ, hR⟩ := hR
  have h1 := hR.freeze ho
  refine ⟨φ, h1.size, h1.defers, fun m => ?_, h1.good, h1.below, h1.amb⟩
  show EncS w Z0 _ _ (lookD ((n, .fsl o.sz o.rows) :: s.sl) m) _
  rw [lookD_put]
  split
  · rename_i e; subst e
    have h2 := h1.slot n
    rw [show AS.get { s with ob := (id, { o with mt := false }) :: s.ob } n = .osl id ver from hn] at h2
    exact osl_value h1 (b := { o with mt := false }) h2 (by show Abs.look ((id, { o with mt := false }) :: s.ob) id = _; rw [look_put, if_pos rfl]) hv hb (AvoidsFrz hR ho)
  · exact h1.slot m

/-- Nil, as a slice of the call's own without elements. -/
theorem Wk.nilOwn {n id : Nat} (ty : TypeId) (sz : Nat) (hn : s.get n = .nil) (ho : s.look id = none) :
    Wk s { s with sl := (n, .osl id 0) :: s.sl, ob := (id, ⟨0, true, false, sz, ty, []⟩) :: s.ob } := fun w0 Z0 a w hR => by
  obtain ⟨φ, hR⟩ := hR
  have ht : Turns w w s.ob φ id ⟨0, true, false, sz, ty, []⟩ (.slice none 0 0) none :=
    ⟨⟨rfl, rfl, rfl, Nat.le_refl _, fun _ _ _ => rfl⟩, fun k hk => (by cases hk), fun o1 h1 => (by rw [show Abs.look s.ob id = none from ho] at h1; cases h1), fun b hb => (by cases hb)⟩
  have h1 := hR.turn ht ⟨fun _ r hr => (by cases hr), [], rowsEnc_nil, fun _ => ⟨by simp, .inl ⟨rfl, rfl⟩⟩, fun h => (by cases h)⟩
  refine ⟨_, h1.size, h1.defers, fun m => ?_, h1.good, h1.below, h1.amb⟩
  show EncS w Z0 _ _ (lookD ((n, .osl id 0) :: s.sl) m) _
  rw [lookD_put]
  split
  · rename_i e; subst e
    have h2 := hR.slot n
    rw [hn] at h2
    generalize a.tmps.getD n Go.undef = v at h2
    cases h2
    exact .osl _ _ _ ⟨_, by rw [look_put, if_pos rfl], Nat.le_refl _, fun _ => by simp [upd], rfl⟩
  · exact h1.slot m

end
end Go.Abs
/- What a statement's reading of its arguments gives: data, encoded. -/
namespace Go.Abs
open Go Go.RowKit

/-- Types whose data are plain: a closed list of them. -/
def tileB (T : Tab) : Nat → List (Nat × TypeId) → Option Nat
  | o, [] => some o
  | o, (f, t) :: r => if f = o then match tlook T t with
    | some i => tileB T (o + i.sz) r
    | none => none
    else none

def covB1 (T : Tab) (S : List TypeId) (t : TypeId) : Bool :=
  match tlook T t with
  | some i =>
    match i.td with
    | .int _ => i.sz == 1
    | .bool => i.sz == 1
    | .str => i.sz == 1
    | .sl e => i.sz == 1 && S.contains e && (match tlook T e with | some j => decide (1 ≤ j.bytes) && decide (1 ≤ j.sz) | none => false)
    | .st fs => (tileB T 0 fs == some i.sz) && fs.all (fun f => S.contains f.2)
    | .other => false
  | none => false

def CovB (T : Tab) (S : List TypeId) : Prop := ∀ t ∈ S, covB1 T S t = true

/-- The cells of a value of a type. -/
inductive Sh (T : Tab) : TypeId → List D → Prop
  | int {t : TypeId} {i : TI} {k : IntKind} (ht : tlook T t = some i) (hd : i.td = .int k) (n : Int) : Sh T t [.int k n]
  | bool {t : TypeId} {i : TI} (ht : tlook T t = some i) (hd : i.td = .bool) (b : Bool) : Sh T t [.bool b]
  | str {t : TypeId} {i : TI} (ht : tlook T t = some i) (hd : i.td = .str) (s : ByteArray) : Sh T t [.str s]
  | sl {t e : TypeId} {i j : TI} (ht : tlook T t = some i) (hd : i.td = .sl e) (hj : tlook T e = some j) (rows : List (List D)) (h : ∀ r ∈ rows, Sh T e r) : Sh T t [.fsl j.sz rows]
  | st {t : TypeId} {i : TI} {fs : List (Nat × TypeId)} (ht : tlook T t = some i) (hd : i.td = .st fs) (cs : List D) (hl : cs.length = i.sz) (h : ∀ f ∈ fs, ∀ j, tlook T f.2 = some j → Sh T f.2 ((cs.drop f.1).take j.sz)) : Sh T t cs

/-- Cells that encode data. -/
structure EncL (w : World) (ds : List D) (vs : List Value) : Prop where
  len : vs.length = ds.length
  enc : ∀ j, j < ds.length → encF w (getC ds j) (vs.getD j Go.undef)
  one : ∀ j, j < ds.length → (vs.getD j Go.undef).oneCell' = true
  pc : ∀ d ∈ ds, D.pc d = true

theorem EncL.single {w : World} {d : D} {v : Value} (h : encF w d v) (hp : D.pc d = true) : EncL w [d] [v] := by
  refine ⟨rfl, fun j hj => ?_, fun j hj => ?_, fun x hx => ?_⟩
  · obtain rfl : j = 0 := by simpa using hj
    exact h
  · obtain rfl : j = 0 := by simpa using hj
    exact h.oneCell hp
  · obtain rfl : x = d := by simpa using hx
    exact hp

theorem EncL.append {w : World} {d1 d2 : List D} {v1 v2 : List Value} (h1 : EncL w d1 v1) (h2 : EncL w d2 v2) : EncL w (d1 ++ d2) (v1 ++ v2) := by
  have hl := h1.len
  have key : ∀ j, j < (d1 ++ d2).length → (j < d1.length ∧ getC (d1 ++ d2) j = getC d1 j ∧ (v1 ++ v2).getD j Go.undef = v1.getD j Go.undef) ∨
      (j - d1.length < d2.length ∧ getC (d1 ++ d2) j = getC d2 (j - d1.length) ∧ (v1 ++ v2).getD j Go.undef = v2.getD (j - d1.length) Go.undef) := fun j hj => by
    by_cases h : j < d1.length
    · exact .inl ⟨h, getD_of_get _ _ _ _ _ (List.getElem?_append_left h), getD_of_get _ _ _ _ _ (List.getElem?_append_left (by omega))⟩
    · refine .inr ⟨by simp at hj; omega, getD_of_get _ _ _ _ _ (List.getElem?_append_right (by omega)), getD_of_get _ _ _ _ _ ?_⟩
      rw [List.getElem?_append_right (by omega), hl]
  refine ⟨by simp [h1.len, h2.len], fun j hj => ?_, fun j hj => ?_, fun x hx => ?_⟩
  · rcases key j hj with ⟨a, b, c⟩ | ⟨a, b, c⟩
    · rw [b, c]; exact h1.enc _ a
    · rw [b, c]; exact h2.enc _ a
  · rcases key j hj with ⟨a, b, c⟩ | ⟨a, b, c⟩
    · rw [c]; exact h1.one _ a
    · rw [c]; exact h2.one _ a
  · rcases List.mem_append.1 hx with h | h
    · exact h1.pc _ h
    · exact h2.pc _ h

theorem tileB_ge {T : Tab} : ∀ (fs : List (Nat × TypeId)) (o m : Nat), tileB T o fs = some m → o ≤ m
  | [], o, m, h => by cases h; exact Nat.le_refl _
  | (f, t) :: r, o, m, h => by
    simp only [tileB] at h
    split at h
    · split at h
      · have := tileB_ge r _ m h; omega
      · cases h
    · cases h

theorem fields_enc {T : Tab} {w : World} {vs : List Value} : ∀ (fs : List (Nat × TypeId)) (o m : Nat), tileB T o fs = some m → vs.length = m →
    (∀ f ∈ fs, ∀ j, tlook T f.2 = some j → ∃ ds, Sh T f.2 ds ∧ EncL w ds ((vs.drop f.1).take j.sz)) →
    ∃ ds, EncL w ds (vs.drop o) ∧ ∀ f ∈ fs, ∀ j, tlook T f.2 = some j → o ≤ f.1 ∧ Sh T f.2 ((ds.drop (f.1 - o)).take j.sz)
  | [], o, m, h, hl, _ => by
    cases h
    refine ⟨[], ⟨by simp; omega, by simp, by simp, by simp⟩, by simp⟩
  | (f, t) :: r, o, m, h, hl, hf => by
    simp only [tileB] at h
    split at h
    · rename_i hfo
      subst hfo
      split at h
      · rename_i i hi
        obtain ⟨d1, s1, e1⟩ := hf (f, t) (by simp) i hi
        obtain ⟨d2, e2, s2⟩ := fields_enc r _ m h hl fun g hg => hf g (by simp [hg])
        have hge := tileB_ge r _ m h
        have hl1 : d1.length = i.sz := by rw [← e1.len]; simp; omega
        refine ⟨d1 ++ d2, ?_, fun g hg j hj => ?_⟩
        · have := e1.append e2
          rwa [show (vs.drop f).take i.sz ++ vs.drop (f + i.sz) = vs.drop f by rw [← List.drop_drop]; exact List.take_append_drop _ _] at this
        · rcases List.mem_cons.1 hg with rfl | hg
          · refine ⟨Nat.le_refl _, ?_⟩
            have : i = j := by rw [hi] at hj; exact Option.some.inj hj
            subst this
            rw [Nat.sub_self, List.drop_zero, List.take_append_of_le_length (by omega), List.take_of_length_le (by omega)]
            exact s1
          · obtain ⟨g1, g2⟩ := s2 g hg j hj
            refine ⟨by omega, ?_⟩
            have : g.1 - f = d1.length + (g.1 - (f + i.sz)) := by omega
            rw [this, ← List.drop_drop, List.drop_left' rfl]
            exact g2
      · cases h
    · cases h

theorem weights_each {H : Type} {P : Program} : ∀ (ts : List TypeId) (ds : List (DataW H)), ds.length = ts.length → ∀ (i : Nat) (t : TypeId) (d : DataW H), ts[i]? = some t → ds[i]? = some d → ∀ n ∈ d.weights P t, n ∈ DataW.weightsEach P ts ds
  | [], [], _, i, t, d, h, _, _, _ => by simp at h
  | t0 :: ts, d0 :: ds, hl, i, t, d, h1, h2, n, hn => by
    simp only [DataW.weightsEach, List.mem_append]
    cases i with
    | zero => simp only [List.getElem?_cons_zero, Option.some.injEq] at h1 h2; subst h1 h2; exact .inl hn
    | succ i => exact .inr (weights_each ts ds (by simpa using hl) i t d (by simpa using h1) (by simpa using h2) n hn)
  | [], _ :: _, hl, _, _, _, _, _, _, _ => by cases hl
  | _ :: _, [], hl, _, _, _, _, _, _, _ => by cases hl

theorem weights_all {H : Type} {P : Program} {e : TypeId} : ∀ (ds : List (DataW H)) (d : DataW H), d ∈ ds → ∀ n ∈ d.weights P e, n ∈ DataW.weightsAll P e ds
  | [], d, h, _, _ => by cases h
  | d0 :: ds, d, h, n, hn => by
    simp only [DataW.weightsAll, List.mem_append]
    rcases List.mem_cons.1 h with rfl | h
    · exact .inl hn
    · exact .inr (weights_all ds d h n hn)

theorem cells_some {w : World} {base : Nat} {a : Addr} {n : Nat} {l : List Value} (h : w.cells? base a n = some l) : l.length = n ∧ ∀ j, j < n → w.cell? (a.add j) = l[j]? := by
  unfold World.cells? at h
  split at h
  · exact ⟨by simpa using mapM_some_length h, fun j hj => mapM_some_get h j j (by simp [hj])⟩
  · cases h

theorem cell_spot {w : World} {a : Addr} {v : Value} (h : w.cell? a = some v) : a = ⟨a.block, a.off, none⟩ := by
  unfold World.cell? at h
  split at h
  · split at h
    · cases h
    · rename_i hs
      obtain ⟨b, o, s⟩ := a
      cases s with
      | none => rfl
      | some x => simp at hs
  · cases h

section
variable {P : Program} {T : Tab} {w : World} {S : List TypeId} {H : Type} {enc : TypeId × Value → H} {base : Nat} {spare : Nat → Bool} {held : Bool}

/-- The cells of a value that a statement reads encode data of its type. -/
theorem trod_cells (hT : TOk P T) (hS : CovB T S) : ∀ (fuel : Nat) (t : TypeId) (cs : List Value) (x : DataW H × List MemPlace), t ∈ S → DataW.trod enc P w base spare held fuel t cs = some x →
    (∀ n ∈ x.1.weights P t, n ≤ reachBytes) → ∃ ds, Sh T t ds ∧ EncL w ds cs
  | 0, t, cs, x, _, h, _ => by simp [DataW.trod] at h
  | fuel + 1, t, cs, x, ht, h, hw => by
    have hc := hS t ht
    unfold covB1 at hc
    split at hc
    · rename_i i hi
      obtain ⟨info, dd, q1, q2, q3, q4, q5, _⟩ := (hT.ok hi).ex
      have hsz : P.cellsOf t = i.sz := by simp [Program.cellsOf, q1, q3]
      split at hc
      · rename_i k hk
        rw [hk] at q5
        have hdd : dd = .int k := by cases dd <;> simp [tdB] at q5 <;> rw [q5]
        subst hdd
        obtain ⟨n, rfl, rfl, hwf⟩ := DataW.trod_int q2 h
        refine ⟨_, .int hi hk n, .single (.int k n ?_) rfl⟩
        simpa [Lit.wf, IntKind.has] using hwf
      · rename_i hk
        rw [hk] at q5
        rw [tdB_bool q5] at q2
        have : ∃ b, cs = [.bool b] := by
          unfold DataW.trod at h
          rw [q2] at h
          split at h <;> simp_all
        obtain ⟨b, rfl⟩ := this
        exact ⟨_, .bool hi hk b, .single (.bool b) rfl⟩
      · rename_i hk
        rw [hk] at q5
        rw [tdB_str q5] at q2
        obtain ⟨s, rfl, rfl, hsl⟩ := DataW.trod_string q2 h
        refine ⟨_, .str hi hk s, .single (.str s ?_) rfl⟩
        have := hw s.size (by simp [DataW.weights])
        unfold lim; unfold reachBytes at this; omega
      · rename_i e hk
        rw [hk] at q5
        rw [tdB_sl q5] at q2
        simp only [Bool.and_eq_true, beq_iff_eq] at hc
        obtain ⟨⟨hc1, hc2⟩, hc3⟩ := hc
        have he : e ∈ S := by simpa using hc2
        split at hc3
        · rename_i j hj
          simp only [Bool.and_eq_true, decide_eq_true_eq] at hc3
          obtain ⟨hb1, hs1⟩ := hc3
          obtain ⟨info2, d2, p1, p2, p3, p4, _⟩ := (hT.ok hj).ex
          have hsze : P.cellsOf e = j.sz := by simp [Program.cellsOf, p1, p3]
          have hbye : P.bytesOf e = j.bytes := by simp [Program.bytesOf, p1, p4]
          rcases DataW.trod_slice q2 h with ⟨rfl, rfl⟩ | ⟨a, len, cap, elems, rest, n, hfe, rfl, rfl, hbase, hlc, hcm, hel, hget, _, _⟩
          · exact ⟨_, .sl hi hk hj [] (by simp), .single (.fslNil _) rfl⟩
          · obtain rfl : fuel = n := by omega
            rw [hsze] at hget
            have hlen : len ≤ lim := by
              have h1 := hw ((elems.length + rest.length) * P.bytesOf e) (by simp [DataW.weights, q2])
              have h2 : len ≤ (elems.length + rest.length) * P.bytesOf e := by
                rw [hbye, hel]
                calc len ≤ len + rest.length := by omega
                  _ = (len + rest.length) * 1 := by omega
                  _ ≤ (len + rest.length) * j.bytes := Nat.mul_le_mul_left _ hb1
              unfold lim; unfold reachBytes at h1; omega
            have each : ∀ q, q < len → ∃ (l : List Value) (ds : List D), w.cells? base (a.add (q * j.sz)) j.sz = some l ∧ Sh T e ds ∧ EncL w ds l := fun q hq => by
              have h1 := hget q hq
              have hq2 : q < elems.length := by omega
              rw [List.getElem?_eq_getElem hq2, Option.bind_eq_some_iff] at h1
              obtain ⟨l, h2, h3⟩ := h1
              obtain ⟨ds, h4, h5⟩ := trod_cells hT hS fuel e l _ he h3 (fun m hm => hw m (by
                simp only [DataW.weights, q2, List.mem_cons, List.mem_append]
                exact .inr (.inl (weights_all _ _ (List.mem_map.2 ⟨_, List.getElem_mem hq2, rfl⟩) _ hm))))
              exact ⟨l, ds, h2, h4, h5⟩
            have hch : ∃ rows : List (List D), rows.length = len ∧ ∀ q, q < len → ∃ (l : List Value), w.cells? base (a.add (q * j.sz)) j.sz = some l ∧ Sh T e (getR rows q) ∧ EncL w (getR rows q) l := by
              refine ⟨(List.range len).map fun q => if hq : q < len then (each q hq).choose_spec.choose else [], by simp, fun q hq => ?_⟩
              have e1 : getR ((List.range len).map fun q => if hq : q < len then (each q hq).choose_spec.choose else []) q = (each q hq).choose_spec.choose := by
                simp [getR, hq]
              rw [e1]
              exact ⟨_, (each q hq).choose_spec.choose_spec⟩
            obtain ⟨rows, hrl, hrows⟩ := hch
            have hshr : ∀ r ∈ rows, Sh T e r := fun r hr => by
              obtain ⟨q, hq, rfl⟩ := mem_getR hr
              obtain ⟨l, _, h4, _⟩ := hrows q (by omega)
              exact h4
            refine ⟨_, .sl hi hk hj rows hshr, .single ?_ rfl⟩
            subst hrl
            have hrlen : ∀ q, q < rows.length → (getR rows q).length = j.sz := fun q hq => by
              obtain ⟨l, h3, _, h5⟩ := hrows q hq
              rw [← h5.len, (cells_some h3).1]
            cases hrows0 : rows with
            | nil => exact .fslE _ _ _
            | cons r0 rr =>
              rw [← hrows0]
              have h0 : 0 < rows.length := by rw [hrows0]; simp
              have ha : a = ⟨a.block, a.off, none⟩ := by
                obtain ⟨l, h3, _, h5⟩ := hrows 0 h0
                have h6 := cells_some h3
                have h7 := h6.2 0 (by omega)
                have h8 : 0 < l.length := by omega
                rw [List.getElem?_eq_getElem h8, Nat.zero_mul] at h7
                have h9 : (a.add 0).add 0 = a := by simp [Addr.add]
                rw [h9] at h7
                exact cell_spot h7
              have hadd : ∀ q m, (a.add (q * j.sz)).add m = ⟨a.block, a.off + (q * j.sz + m), none⟩ := fun q m => by
                rw [ha, Addr.add_lit, Addr.add_lit]; simp [Nat.add_assoc]
              rw [ha]
              refine .fsl j.sz rows a.block a.off cap (fun q m => (w.cell? ⟨a.block, a.off + (q * j.sz + m), none⟩).getD Go.undef) hlc hlen (fun r hr => ?_) (fun _ _ _ _ h => h) (fun q m hq hm => ?_) (fun q m hq hm => ?_) (fun q m hq hm => ?_)
              · obtain ⟨q, hq, rfl⟩ := mem_getR hr
                obtain ⟨l, h3, _, h5⟩ := hrows q hq
                exact ⟨hrlen q hq, h5.pc⟩
              all_goals
                obtain ⟨l, h3, _, h5⟩ := hrows q hq
                obtain ⟨h6, h7⟩ := cells_some h3
                have h8 := h7 m hm
                rw [hadd, List.getElem?_eq_getElem (by omega)] at h8
                have h9 : l.getD m Go.undef = l[m]'(by omega) := by simp [List.getD_eq_getElem?_getD, show m < l.length by omega]
              · rw [h8]; try rfl
              · rw [h8, Option.getD_some, ← h9]; exact h5.one m (by rw [hrlen q hq]; exact hm)
              · rw [h8, Option.getD_some, ← h9]; exact h5.enc m (by rw [hrlen q hq]; exact hm)
        · cases hc3
      · rename_i fs hk
        rw [hk] at q5
        simp only [Bool.and_eq_true, beq_iff_eq, List.all_eq_true] at hc
        obtain ⟨hc1, hc2⟩ := hc
        have hdd : ∃ l, dd = .struct l ∧ l.toList.map (fun f => (f.offset, f.type)) = fs := by
          cases dd <;> simp [tdB] at q5
          exact ⟨_, rfl, by simpa using q5⟩
        obtain ⟨l, rfl, hfs⟩ := hdd
        obtain ⟨xs, n, hfe, rfl, hlen, hxl, hget⟩ := DataW.trod_struct q2 h
        obtain rfl : fuel = n := by omega
        have hf : ∀ f ∈ fs, ∀ j, tlook T f.2 = some j → ∃ ds, Sh T f.2 ds ∧ EncL w ds ((cs.drop f.1).take j.sz) := fun f hf j hj => by
          rw [← hfs] at hf
          obtain ⟨fd, hfd, rfl⟩ := List.mem_map.1 hf
          obtain ⟨q, hq, he⟩ := List.getElem_of_mem hfd
          have hq' : q < l.size := by simpa using hq
          have hlq : l[q]? = some fd := by rw [Array.getElem?_eq_getElem hq']; simpa using he
          have h1 := hget q fd hlq
          rw [List.getElem?_eq_getElem (by omega)] at h1
          obtain ⟨info2, d2, p1, p2, p3, p4, _⟩ := (hT.ok hj).ex
          have hszf : P.cellsOf fd.type = j.sz := by
            have hp3 : info2.size = j.sz := p3
            simp only [Program.cellsOf, show P.info? fd.type = some info2 from p1, Option.map_some, Option.getD_some, hp3]
          rw [hszf] at h1
          refine trod_cells hT hS fuel fd.type _ _ (by simpa using hc2 (fd.offset, fd.type) (by rw [← hfs]; exact List.mem_map.2 ⟨fd, hfd, rfl⟩)) h1 (fun m hm => hw m ?_)
          simp only [DataW.weights, q2]
          refine weights_each _ _ (by simp [hxl]) q fd.type _ ?_ ?_ m hm
          · simp [hlq]
          · simp [show q < xs.length by omega]
        obtain ⟨ds, e1, s1⟩ := fields_enc (T := T) (w := w) fs 0 i.sz hc1 (by rw [hlen, hsz]) hf
        rw [List.drop_zero] at e1
        refine ⟨ds, .st hi hk ds (by rw [← e1.len, hlen, hsz]) fun f hf j hj => ?_, e1⟩
        have := (s1 f hf j hj).2
        simpa using this
      · cases hc
    · cases hc
end
end Go.Abs
/- Conditions and rules. -/
namespace Go.Abs
open Go Go.RowKit

inductive Cond where
  | mk (kind : Int) (kids : List Cond) (map : Two) (patt : Patt)

abbrev pattCells (p : Patt) : List D := [dInts p.graph.nodes, .fsl 3 (p.graph.edges.map rEdge), .fsl 4 (p.slots.map rSlot), .int .i64 p.vars, .fsl 5 (p.tests.map rTest)]

mutual
def Cond.row : Cond → List D
  | .mk k kids m p => [.int .i64 k, .fsl 9 (Cond.rows kids), dInts m.nodes, dInts m.edges, dInts p.graph.nodes, .fsl 3 (p.graph.edges.map rEdge), .fsl 4 (p.slots.map rSlot), .int .i64 p.vars, .fsl 5 (p.tests.map rTest)]
def Cond.rows : List Cond → List (List D)
  | [] => []
  | c :: r => Cond.row c :: Cond.rows r
end

def Cond.kind : Cond → Int | .mk k _ _ _ => k
def Cond.kids : Cond → List Cond | .mk _ l _ _ => l
def Cond.map : Cond → Two | .mk _ _ m _ => m
def Cond.patt : Cond → Patt | .mk _ _ _ p => p

theorem Cond.rows_eq : ∀ l : List Cond, Cond.rows l = l.map Cond.row
  | [] => rfl
  | c :: r => by rw [Cond.rows, Cond.rows_eq r]; try rfl

def rCond (c : Cond) : List D := [.int .i64 c.kind, .fsl 9 (c.kids.map Cond.row), dInts c.map.nodes, dInts c.map.edges, dInts c.patt.graph.nodes, .fsl 3 (c.patt.graph.edges.map rEdge), .fsl 4 (c.patt.slots.map rSlot), .int .i64 c.patt.vars, .fsl 5 (c.patt.tests.map rTest)]

theorem Cond.row_eq (c : Cond) : c.row = rCond c := by
  cases c; simp [Cond.row, Cond.rows_eq, rCond, Cond.kind, Cond.kids, Cond.map, Cond.patt]

structure Rul where
  name : ByteArray
  left : Patt
  right : Patt
  keep : Two
  into : Two
  inj : Bool
  cond : Cond

abbrev dRule (r : Rul) : D := .agg [.str r.name, dInts r.left.graph.nodes, .fsl 3 (r.left.graph.edges.map rEdge), .fsl 4 (r.left.slots.map rSlot), .int .i64 r.left.vars, .fsl 5 (r.left.tests.map rTest), dInts r.right.graph.nodes, .fsl 3 (r.right.graph.edges.map rEdge), .fsl 4 (r.right.slots.map rSlot), .int .i64 r.right.vars, .fsl 5 (r.right.tests.map rTest), dInts r.keep.nodes, dInts r.keep.edges, dInts r.into.nodes, dInts r.into.edges, .bool r.inj, .int .i64 r.cond.kind, .fsl 9 (r.cond.kids.map Cond.row), dInts r.cond.map.nodes, dInts r.cond.map.edges, dInts r.cond.patt.graph.nodes, .fsl 3 (r.cond.patt.graph.edges.map rEdge), .fsl 4 (r.cond.patt.slots.map rSlot), .int .i64 r.cond.patt.vars, .fsl 5 (r.cond.patt.tests.map rTest)]

/-! ### From shapes to data -/

section
variable {T : Tab}

theorem Sh.inv_int {t : TypeId} {cs : List D} {i : TI} {k : IntKind} (h : Sh T t cs) (ht : tlook T t = some i) (hd : i.td = .int k) : ∃ n, cs = [.int k n] := by
  cases h with
  | int ht' hd' n => rw [ht] at ht'; cases ht'; rw [hd] at hd'; cases hd'; exact ⟨n, rfl⟩
  | bool ht' hd' | str ht' hd' | sl ht' hd' | st ht' hd' => rw [ht] at ht'; cases ht'; rw [hd] at hd'; cases hd'

theorem Sh.inv_bool {t : TypeId} {cs : List D} {i : TI} (h : Sh T t cs) (ht : tlook T t = some i) (hd : i.td = .bool) : ∃ n, cs = [.bool n] := by
  cases h with
  | bool ht' hd' n => exact ⟨n, rfl⟩
  | int ht' hd' | str ht' hd' | sl ht' hd' | st ht' hd' => rw [ht] at ht'; cases ht'; rw [hd] at hd'; cases hd'

theorem Sh.inv_str {t : TypeId} {cs : List D} {i : TI} (h : Sh T t cs) (ht : tlook T t = some i) (hd : i.td = .str) : ∃ n, cs = [.str n] := by
  cases h with
  | str ht' hd' n => exact ⟨n, rfl⟩
  | int ht' hd' | bool ht' hd' | sl ht' hd' | st ht' hd' => rw [ht] at ht'; cases ht'; rw [hd] at hd'; cases hd'

theorem Sh.inv_sl {t e : TypeId} {cs : List D} {i j : TI} (h : Sh T t cs) (ht : tlook T t = some i) (hd : i.td = .sl e) (hj : tlook T e = some j) : ∃ rows, cs = [.fsl j.sz rows] ∧ ∀ r ∈ rows, Sh T e r := by
  cases h with
  | sl ht' hd' hj' rows hr =>
    rw [ht] at ht'; cases ht'; rw [hd] at hd'; cases hd'; rw [hj] at hj'; cases hj'
    exact ⟨rows, rfl, hr⟩
  | int ht' hd' | bool ht' hd' | str ht' hd' | st ht' hd' => rw [ht] at ht'; cases ht'; rw [hd] at hd'; cases hd'

theorem Sh.inv_st {t : TypeId} {cs : List D} {i : TI} {fs : List (Nat × TypeId)} (h : Sh T t cs) (ht : tlook T t = some i) (hd : i.td = .st fs) :
    cs.length = i.sz ∧ ∀ f ∈ fs, ∀ j, tlook T f.2 = some j → Sh T f.2 ((cs.drop f.1).take j.sz) := by
  cases h with
  | st ht' hd' cs hl hf =>
    rw [ht] at ht'; cases ht'; rw [hd] at hd'; cases hd'
    exact ⟨hl, hf⟩
  | int ht' hd' | bool ht' hd' | str ht' hd' | sl ht' hd' => rw [ht] at ht'; cases ht'; rw [hd] at hd'; cases hd'

theorem rows_map {X : Type} {f : X → List D} : ∀ {rows : List (List D)}, (∀ r ∈ rows, ∃ x, r = f x) → ∃ xs : List X, rows = xs.map f
  | [], _ => ⟨[], rfl⟩
  | r :: rows, h => by
    obtain ⟨x, rfl⟩ := h r (by simp)
    obtain ⟨xs, rfl⟩ := rows_map (rows := rows) (f := f) fun r' h' => h r' (by simp [h'])
    exact ⟨x :: xs, rfl⟩

end
end Go.Abs
/- Looking for elements of lists. -/
set_option linter.unusedSimpArgs false
set_option linter.unusedVariables false
set_option maxRecDepth 20000
namespace Go.Abs
open Go Go.RowKit Go.Proofs
attribute [local irreducible] Con AWP
attribute [go_sem] TL KL inp_T

theorem ent (f : FuncId) {fn : Func} {c : Code} (h : Tryz.prog.funcs[f]? = some fn) (hb : fn.body = some c) (hn : (fn.name == "runtime.NumGoroutine") = false) : EnterOk Tryz.prog f := ⟨fn, h, hn, by rw [hb]; try rfl⟩

def idxF {X : Type} (p : X → Bool) : List X → Int
  | [] => -1
  | x :: r => bif p x then 0 else bif decide (idxF p r < 0) then -1 else idxF p r + 1

structure PP {X : Type} (p : X → Bool) (xs : List X) where
  pre : List X
  post : List X
  eq : xs = pre ++ post
  no : ∀ x ∈ pre, p x = false

theorem idxF_at {X : Type} {p : X → Bool} : ∀ (pre : List X) (x : X) (post : List X), (∀ y ∈ pre, p y = false) → p x = true → idxF p (pre ++ x :: post) = pre.length
  | [], x, post, _, h => by simp [idxF, h]
  | y :: r, x, post, h1, h => by
    have ih := idxF_at r x post (fun z hz => h1 z (by simp [hz])) h
    simp only [List.cons_append, idxF, h1 y (by simp), ih, cond_false]
    have : ¬ ((r.length : Int) < 0) := by omega
    simp [this]

theorem idxF_no {X : Type} {p : X → Bool} : ∀ (pre : List X), (∀ y ∈ pre, p y = false) → idxF p pre = -1
  | [], _ => rfl
  | y :: r, h1 => by
    have ih := idxF_no r (fun z hz => h1 z (by simp [hz]))
    simp [idxF, h1 y (by simp), ih]

theorem idxF_any {X : Type} {p : X → Bool} : ∀ l : List X, decide (0 ≤ idxF p l) = l.any p
  | [] => rfl
  | x :: r => by
    have ih := idxF_any (p := p) r
    rw [List.any_cons, ← ih]
    by_cases hp : p x = true
    · simp [idxF, hp]
    · have hp : p x = false := by simpa using hp
      by_cases h : idxF p r < 0
      · have : ¬ (0 ≤ idxF p r) := by omega
        simp [idxF, hp, h, this]
      · have : 0 ≤ idxF p r := by omega
        have h2 : 0 ≤ idxF p r + 1 := by omega
        simp [idxF, hp, h, this, h2]

theorem indexFuncintC {g : FuncId} {caps : List D} {p : Int → Bool} {xs : List Int} (hr : ∀ k, resArgs caps k = k caps []) (hcap : ∀ is, caps.all (refsB is 3) = true)
    (hp : ∀ x, x ∈ xs → Con Tryz.prog g ((.int .i64 x) :: caps) (.bool (p x))) : Con Tryz.prog 186 [.fsl 1 (xs.map rI), .fn g caps] (.int .i64 (idxF p xs)) := by
  refine ConC.con (ent _ Tryz.func186 rfl rfl) (con_of_body env Tryz.func186 rfl (nt := 19) (rs := [.tmp 4]) rfl rfl (Nat.le_of_ble_eq_true rfl) fun hok => ?_)
  repeat (first | (refine AWP.go env ?_; intro K fin; try simp +decide (maxSteps := 4000000) only [go_sem, Nat.reduceAdd, Nat.reduceMul]) | refine Kt.h _ _ ?_ | refine Ft.k (by decide +kernel) ?_)
  refine AWP.lp (α := PP p xs) (fun x => ⟨19, [(0, .fsl 1 (xs.map rI)), (1, .fn g caps), (7, .int .i64 xs.length), (8, .int .i64 x.pre.length)], []⟩) (fun x => x.post.length) ⟨[], xs, rfl, by simp⟩ (by simp +decide (maxSteps := 4000000) only [go_sem, Nat.reduceAdd, Nat.reduceMul]; simp [hcap]) fun x K => ?_
  obtain ⟨pre, post, rfl, hno⟩ := x
  have hl := (hok _ (List.mem_cons_self ..)).len
  repeat (first | (refine AWP.go env ?_; intro K fin; try simp +decide (maxSteps := 4000000) only [go_sem, Nat.reduceAdd, Nat.reduceMul]) | refine Kt.h _ _ ?_ | refine Ft.k (by decide +kernel) ?_)
  cases post with
  | nil =>
    simp only [List.append_nil, Int.lt_irrefl, decide_false, cond2_false]
    repeat (first | (refine AWP.go env ?_; intro K fin; try simp +decide (maxSteps := 4000000) only [go_sem, Nat.reduceAdd, Nat.reduceMul]) | refine Kt.h _ _ ?_ | refine Ft.k (by decide +kernel) ?_)
    exact (idxF_no pre hno).symm
  | cons x post =>
    simp only [List.length_map, List.length_append, List.length_cons] at hl
    have hlt : (pre.length : Int) < (pre ++ x :: post).length := by simp; omega
    simp only [hlt, decide_true, cond2_true]
    repeat (first | (refine AWP.go env ?_; intro K fin; try simp +decide (maxSteps := 4000000) only [go_sem, Nat.reduceAdd, Nat.reduceMul]) | refine Kt.h _ _ ?_ | refine Ft.k (by decide +kernel) ?_)
    refine ⟨⟨by omega, hlt⟩, fun _ => ?_⟩
    simp +decide (maxSteps := 4000000) only [hr, go_sem, Nat.reduceAdd, Nat.reduceMul]
    refine ⟨_, hp x (by simp), ?_⟩
    simp +decide (maxSteps := 4000000) only [go_sem, Nat.reduceAdd, Nat.reduceMul]
    repeat (first | (refine AWP.go env ?_; intro K fin; try simp +decide (maxSteps := 4000000) only [go_sem, Nat.reduceAdd, Nat.reduceMul]) | refine Kt.h _ _ ?_ | refine Ft.k (by decide +kernel) ?_)
    refine ⟨fun hx => ?_, fun hx => ?_⟩
    · repeat (first | (refine AWP.go env ?_; intro K fin; try simp +decide (maxSteps := 4000000) only [go_sem, Nat.reduceAdd, Nat.reduceMul]) | refine Kt.h _ _ ?_ | refine Ft.k (by decide +kernel) ?_)
      exact (idxF_at pre x post hno hx).symm
    · repeat (first | (refine AWP.go env ?_; intro K fin; try simp +decide (maxSteps := 4000000) only [go_sem, Nat.reduceAdd, Nat.reduceMul]) | refine Kt.h _ _ ?_ | refine Ft.k (by decide +kernel) ?_)
      refine ⟨⟨pre ++ [x], post, by simp, fun y hy => ?_⟩, by simp, ?_⟩
      · rcases List.mem_append.1 hy with hy | hy
        · exact hno y hy
        · simp at hy; subst hy; exact hx
      · rw [wrap64 (by omega) (by omega)]
        simp +decide (maxSteps := 4000000) only [go_sem, Nat.reduceAdd, Nat.reduceMul]
        simp [hcap]

theorem contFuncintC {g : FuncId} {caps : List D} {p : Int → Bool} {xs : List Int} (hr : ∀ k, resArgs caps k = k caps []) (hr2 : ∀ k, resCaps caps k = k caps []) (hcap : ∀ is, caps.all (refsB is 3) = true)
    (hp : ∀ x, x ∈ xs → Con Tryz.prog g ((.int .i64 x) :: caps) (.bool (p x))) : Con Tryz.prog 108 [.fsl 1 (xs.map rI), .fn g caps] (.bool (xs.any p)) := by
  refine ConC.con (ent _ Tryz.func108 rfl rfl) (con_of_body env Tryz.func108 rfl (nt := 9) (rs := [.tmp 4]) rfl rfl (Nat.le_of_ble_eq_true rfl) fun hok => ?_)
  repeat (first | (refine AWP.go env ?_; intro K fin; try simp +decide (maxSteps := 4000000) only [go_sem, Nat.reduceAdd, Nat.reduceMul]) | refine Kt.h _ _ ?_ | refine Ft.k (by decide +kernel) ?_)
  simp +decide (maxSteps := 4000000) only [hr2, go_sem, Nat.reduceAdd, Nat.reduceMul]
  refine ⟨_, indexFuncintC hr hcap hp, ?_⟩
  simp +decide (maxSteps := 4000000) only [go_sem, Nat.reduceAdd, Nat.reduceMul]
  repeat (first | (refine AWP.go env ?_; intro K fin; try simp +decide (maxSteps := 4000000) only [go_sem, Nat.reduceAdd, Nat.reduceMul]) | refine Kt.h _ _ ?_ | refine Ft.k (by decide +kernel) ?_)
  rw [idxF_any]


theorem indexFuncEdgeC {g : FuncId} {caps : List D} {p : Edge → Bool} {xs : List Edge} (hr : ∀ k, resArgs caps k = k caps []) (hcap : ∀ is, caps.all (refsB is 3) = true)
    (hp : ∀ x, x ∈ xs → Con Tryz.prog g ((.agg (rEdge x)) :: caps) (.bool (p x))) : Con Tryz.prog 187 [.fsl 3 (xs.map rEdge), .fn g caps] (.int .i64 (idxF p xs)) := by
  refine ConC.con (ent _ Tryz.func187 rfl rfl) (con_of_body env Tryz.func187 rfl (nt := 19) (rs := [.tmp 4]) rfl rfl (Nat.le_of_ble_eq_true rfl) fun hok => ?_)
  repeat (first | (refine AWP.go env ?_; intro K fin; try simp +decide (maxSteps := 4000000) only [go_sem, Nat.reduceAdd, Nat.reduceMul]) | refine Kt.h _ _ ?_ | refine Ft.k (by decide +kernel) ?_)
  refine AWP.lp (α := PP p xs) (fun x => ⟨19, [(0, .fsl 3 (xs.map rEdge)), (1, .fn g caps), (7, .int .i64 xs.length), (8, .int .i64 x.pre.length)], []⟩) (fun x => x.post.length) ⟨[], xs, rfl, by simp⟩ (by simp +decide (maxSteps := 4000000) only [go_sem, Nat.reduceAdd, Nat.reduceMul]; simp [hcap]) fun x K => ?_
  obtain ⟨pre, post, rfl, hno⟩ := x
  have hl := (hok _ (List.mem_cons_self ..)).len
  repeat (first | (refine AWP.go env ?_; intro K fin; try simp +decide (maxSteps := 4000000) only [go_sem, Nat.reduceAdd, Nat.reduceMul]) | refine Kt.h _ _ ?_ | refine Ft.k (by decide +kernel) ?_)
  cases post with
  | nil =>
    simp only [List.append_nil, Int.lt_irrefl, decide_false, cond2_false]
    repeat (first | (refine AWP.go env ?_; intro K fin; try simp +decide (maxSteps := 4000000) only [go_sem, Nat.reduceAdd, Nat.reduceMul]) | refine Kt.h _ _ ?_ | refine Ft.k (by decide +kernel) ?_)
    exact (idxF_no pre hno).symm
  | cons x post =>
    simp only [List.length_map, List.length_append, List.length_cons] at hl
    have hlt : (pre.length : Int) < (pre ++ x :: post).length := by simp; omega
    simp only [hlt, decide_true, cond2_true]
    repeat (first | (refine AWP.go env ?_; intro K fin; try simp +decide (maxSteps := 4000000) only [go_sem, Nat.reduceAdd, Nat.reduceMul]) | refine Kt.h _ _ ?_ | refine Ft.k (by decide +kernel) ?_)
    refine ⟨⟨by omega, hlt⟩, fun _ => ?_⟩
    simp +decide (maxSteps := 4000000) only [rEdge, hr, go_sem, Nat.reduceAdd, Nat.reduceMul]
    refine ⟨_, hp x (by simp), ?_⟩
    simp +decide (maxSteps := 4000000) only [go_sem, Nat.reduceAdd, Nat.reduceMul]
    repeat (first | (refine AWP.go env ?_; intro K fin; try simp +decide (maxSteps := 4000000) only [go_sem, Nat.reduceAdd, Nat.reduceMul]) | refine Kt.h _ _ ?_ | refine Ft.k (by decide +kernel) ?_)
    refine ⟨fun hx => ?_, fun hx => ?_⟩
    · repeat (first | (refine AWP.go env ?_; intro K fin; try simp +decide (maxSteps := 4000000) only [go_sem, Nat.reduceAdd, Nat.reduceMul]) | refine Kt.h _ _ ?_ | refine Ft.k (by decide +kernel) ?_)
      exact (idxF_at pre x post hno hx).symm
    · repeat (first | (refine AWP.go env ?_; intro K fin; try simp +decide (maxSteps := 4000000) only [go_sem, Nat.reduceAdd, Nat.reduceMul]) | refine Kt.h _ _ ?_ | refine Ft.k (by decide +kernel) ?_)
      refine ⟨⟨pre ++ [x], post, by simp, fun y hy => ?_⟩, by simp, ?_⟩
      · rcases List.mem_append.1 hy with hy | hy
        · exact hno y hy
        · simp at hy; subst hy; exact hx
      · rw [wrap64 (by omega) (by omega)]
        simp +decide (maxSteps := 4000000) only [go_sem, Nat.reduceAdd, Nat.reduceMul]
        simp [hcap]

theorem contFuncEdgeC {g : FuncId} {caps : List D} {p : Edge → Bool} {xs : List Edge} (hr : ∀ k, resArgs caps k = k caps []) (hr2 : ∀ k, resCaps caps k = k caps []) (hcap : ∀ is, caps.all (refsB is 3) = true)
    (hp : ∀ x, x ∈ xs → Con Tryz.prog g ((.agg (rEdge x)) :: caps) (.bool (p x))) : Con Tryz.prog 110 [.fsl 3 (xs.map rEdge), .fn g caps] (.bool (xs.any p)) := by
  refine ConC.con (ent _ Tryz.func110 rfl rfl) (con_of_body env Tryz.func110 rfl (nt := 9) (rs := [.tmp 4]) rfl rfl (Nat.le_of_ble_eq_true rfl) fun hok => ?_)
  repeat (first | (refine AWP.go env ?_; intro K fin; try simp +decide (maxSteps := 4000000) only [go_sem, Nat.reduceAdd, Nat.reduceMul]) | refine Kt.h _ _ ?_ | refine Ft.k (by decide +kernel) ?_)
  simp +decide (maxSteps := 4000000) only [hr2, go_sem, Nat.reduceAdd, Nat.reduceMul]
  refine ⟨_, indexFuncEdgeC hr hcap hp, ?_⟩
  simp +decide (maxSteps := 4000000) only [go_sem, Nat.reduceAdd, Nat.reduceMul]
  repeat (first | (refine AWP.go env ?_; intro K fin; try simp +decide (maxSteps := 4000000) only [go_sem, Nat.reduceAdd, Nat.reduceMul]) | refine Kt.h _ _ ?_ | refine Ft.k (by decide +kernel) ?_)
  rw [idxF_any]


theorem indexFuncNodeTypeC {g : FuncId} {caps : List D} {p : NodeT → Bool} {xs : List NodeT} (hr : ∀ k, resArgs caps k = k caps []) (hcap : ∀ is, caps.all (refsB is 3) = true)
    (hp : ∀ x, x ∈ xs → Con Tryz.prog g ((.agg (rNodeT x)) :: caps) (.bool (p x))) : Con Tryz.prog 240 [.fsl 4 (xs.map rNodeT), .fn g caps] (.int .i64 (idxF p xs)) := by
  refine ConC.con (ent _ Tryz.func240 rfl rfl) (con_of_body env Tryz.func240 rfl (nt := 19) (rs := [.tmp 4]) rfl rfl (Nat.le_of_ble_eq_true rfl) fun hok => ?_)
  repeat (first | (refine AWP.go env ?_; intro K fin; try simp +decide (maxSteps := 4000000) only [go_sem, Nat.reduceAdd, Nat.reduceMul]) | refine Kt.h _ _ ?_ | refine Ft.k (by decide +kernel) ?_)
  refine AWP.lp (α := PP p xs) (fun x => ⟨19, [(0, .fsl 4 (xs.map rNodeT)), (1, .fn g caps), (7, .int .i64 xs.length), (8, .int .i64 x.pre.length)], []⟩) (fun x => x.post.length) ⟨[], xs, rfl, by simp⟩ (by simp +decide (maxSteps := 4000000) only [go_sem, Nat.reduceAdd, Nat.reduceMul]; simp [hcap]) fun x K => ?_
  obtain ⟨pre, post, rfl, hno⟩ := x
  have hl := (hok _ (List.mem_cons_self ..)).len
  repeat (first | (refine AWP.go env ?_; intro K fin; try simp +decide (maxSteps := 4000000) only [go_sem, Nat.reduceAdd, Nat.reduceMul]) | refine Kt.h _ _ ?_ | refine Ft.k (by decide +kernel) ?_)
  cases post with
  | nil =>
    simp only [List.append_nil, Int.lt_irrefl, decide_false, cond2_false]
    repeat (first | (refine AWP.go env ?_; intro K fin; try simp +decide (maxSteps := 4000000) only [go_sem, Nat.reduceAdd, Nat.reduceMul]) | refine Kt.h _ _ ?_ | refine Ft.k (by decide +kernel) ?_)
    exact (idxF_no pre hno).symm
  | cons x post =>
    simp only [List.length_map, List.length_append, List.length_cons] at hl
    have hlt : (pre.length : Int) < (pre ++ x :: post).length := by simp; omega
    simp only [hlt, decide_true, cond2_true]
    repeat (first | (refine AWP.go env ?_; intro K fin; try simp +decide (maxSteps := 4000000) only [go_sem, Nat.reduceAdd, Nat.reduceMul]) | refine Kt.h _ _ ?_ | refine Ft.k (by decide +kernel) ?_)
    refine ⟨⟨by omega, hlt⟩, fun _ => ?_⟩
    simp +decide (maxSteps := 4000000) only [rNodeT, hr, go_sem, Nat.reduceAdd, Nat.reduceMul]
    refine ⟨_, hp x (by simp), ?_⟩
    simp +decide (maxSteps := 4000000) only [go_sem, Nat.reduceAdd, Nat.reduceMul]
    repeat (first | (refine AWP.go env ?_; intro K fin; try simp +decide (maxSteps := 4000000) only [go_sem, Nat.reduceAdd, Nat.reduceMul]) | refine Kt.h _ _ ?_ | refine Ft.k (by decide +kernel) ?_)
    refine ⟨fun hx => ?_, fun hx => ?_⟩
    · repeat (first | (refine AWP.go env ?_; intro K fin; try simp +decide (maxSteps := 4000000) only [go_sem, Nat.reduceAdd, Nat.reduceMul]) | refine Kt.h _ _ ?_ | refine Ft.k (by decide +kernel) ?_)
      exact (idxF_at pre x post hno hx).symm
    · repeat (first | (refine AWP.go env ?_; intro K fin; try simp +decide (maxSteps := 4000000) only [go_sem, Nat.reduceAdd, Nat.reduceMul]) | refine Kt.h _ _ ?_ | refine Ft.k (by decide +kernel) ?_)
      refine ⟨⟨pre ++ [x], post, by simp, fun y hy => ?_⟩, by simp, ?_⟩
      · rcases List.mem_append.1 hy with hy | hy
        · exact hno y hy
        · simp at hy; subst hy; exact hx
      · rw [wrap64 (by omega) (by omega)]
        simp +decide (maxSteps := 4000000) only [go_sem, Nat.reduceAdd, Nat.reduceMul]
        simp [hcap]

theorem contFuncNodeTypeC {g : FuncId} {caps : List D} {p : NodeT → Bool} {xs : List NodeT} (hr : ∀ k, resArgs caps k = k caps []) (hr2 : ∀ k, resCaps caps k = k caps []) (hcap : ∀ is, caps.all (refsB is 3) = true)
    (hp : ∀ x, x ∈ xs → Con Tryz.prog g ((.agg (rNodeT x)) :: caps) (.bool (p x))) : Con Tryz.prog 177 [.fsl 4 (xs.map rNodeT), .fn g caps] (.bool (xs.any p)) := by
  refine ConC.con (ent _ Tryz.func177 rfl rfl) (con_of_body env Tryz.func177 rfl (nt := 9) (rs := [.tmp 4]) rfl rfl (Nat.le_of_ble_eq_true rfl) fun hok => ?_)
  repeat (first | (refine AWP.go env ?_; intro K fin; try simp +decide (maxSteps := 4000000) only [go_sem, Nat.reduceAdd, Nat.reduceMul]) | refine Kt.h _ _ ?_ | refine Ft.k (by decide +kernel) ?_)
  simp +decide (maxSteps := 4000000) only [hr2, go_sem, Nat.reduceAdd, Nat.reduceMul]
  refine ⟨_, indexFuncNodeTypeC hr hcap hp, ?_⟩
  simp +decide (maxSteps := 4000000) only [go_sem, Nat.reduceAdd, Nat.reduceMul]
  repeat (first | (refine AWP.go env ?_; intro K fin; try simp +decide (maxSteps := 4000000) only [go_sem, Nat.reduceAdd, Nat.reduceMul]) | refine Kt.h _ _ ?_ | refine Ft.k (by decide +kernel) ?_)
  rw [idxF_any]


theorem indexFuncEdgeTypeC {g : FuncId} {caps : List D} {p : EdgeT → Bool} {xs : List EdgeT} (hr : ∀ k, resArgs caps k = k caps []) (hcap : ∀ is, caps.all (refsB is 3) = true)
    (hp : ∀ x, x ∈ xs → Con Tryz.prog g ((.agg (rEdgeT x)) :: caps) (.bool (p x))) : Con Tryz.prog 244 [.fsl 7 (xs.map rEdgeT), .fn g caps] (.int .i64 (idxF p xs)) := by
  refine ConC.con (ent _ Tryz.func244 rfl rfl) (con_of_body env Tryz.func244 rfl (nt := 19) (rs := [.tmp 4]) rfl rfl (Nat.le_of_ble_eq_true rfl) fun hok => ?_)
  repeat (first | (refine AWP.go env ?_; intro K fin; try simp +decide (maxSteps := 4000000) only [go_sem, Nat.reduceAdd, Nat.reduceMul]) | refine Kt.h _ _ ?_ | refine Ft.k (by decide +kernel) ?_)
  refine AWP.lp (α := PP p xs) (fun x => ⟨19, [(0, .fsl 7 (xs.map rEdgeT)), (1, .fn g caps), (7, .int .i64 xs.length), (8, .int .i64 x.pre.length)], []⟩) (fun x => x.post.length) ⟨[], xs, rfl, by simp⟩ (by simp +decide (maxSteps := 4000000) only [go_sem, Nat.reduceAdd, Nat.reduceMul]; simp [hcap]) fun x K => ?_
  obtain ⟨pre, post, rfl, hno⟩ := x
  have hl := (hok _ (List.mem_cons_self ..)).len
  repeat (first | (refine AWP.go env ?_; intro K fin; try simp +decide (maxSteps := 4000000) only [go_sem, Nat.reduceAdd, Nat.reduceMul]) | refine Kt.h _ _ ?_ | refine Ft.k (by decide +kernel) ?_)
  cases post with
  | nil =>
    simp only [List.append_nil, Int.lt_irrefl, decide_false, cond2_false]
    repeat (first | (refine AWP.go env ?_; intro K fin; try simp +decide (maxSteps := 4000000) only [go_sem, Nat.reduceAdd, Nat.reduceMul]) | refine Kt.h _ _ ?_ | refine Ft.k (by decide +kernel) ?_)
    exact (idxF_no pre hno).symm
  | cons x post =>
    simp only [List.length_map, List.length_append, List.length_cons] at hl
    have hlt : (pre.length : Int) < (pre ++ x :: post).length := by simp; omega
    simp only [hlt, decide_true, cond2_true]
    repeat (first | (refine AWP.go env ?_; intro K fin; try simp +decide (maxSteps := 4000000) only [go_sem, Nat.reduceAdd, Nat.reduceMul]) | refine Kt.h _ _ ?_ | refine Ft.k (by decide +kernel) ?_)
    refine ⟨⟨by omega, hlt⟩, fun _ => ?_⟩
    simp +decide (maxSteps := 4000000) only [rEdgeT, hr, go_sem, Nat.reduceAdd, Nat.reduceMul]
    refine ⟨_, hp x (by simp), ?_⟩
    simp +decide (maxSteps := 4000000) only [go_sem, Nat.reduceAdd, Nat.reduceMul]
    repeat (first | (refine AWP.go env ?_; intro K fin; try simp +decide (maxSteps := 4000000) only [go_sem, Nat.reduceAdd, Nat.reduceMul]) | refine Kt.h _ _ ?_ | refine Ft.k (by decide +kernel) ?_)
    refine ⟨fun hx => ?_, fun hx => ?_⟩
    · repeat (first | (refine AWP.go env ?_; intro K fin; try simp +decide (maxSteps := 4000000) only [go_sem, Nat.reduceAdd, Nat.reduceMul]) | refine Kt.h _ _ ?_ | refine Ft.k (by decide +kernel) ?_)
      exact (idxF_at pre x post hno hx).symm
    · repeat (first | (refine AWP.go env ?_; intro K fin; try simp +decide (maxSteps := 4000000) only [go_sem, Nat.reduceAdd, Nat.reduceMul]) | refine Kt.h _ _ ?_ | refine Ft.k (by decide +kernel) ?_)
      refine ⟨⟨pre ++ [x], post, by simp, fun y hy => ?_⟩, by simp, ?_⟩
      · rcases List.mem_append.1 hy with hy | hy
        · exact hno y hy
        · simp at hy; subst hy; exact hx
      · rw [wrap64 (by omega) (by omega)]
        simp +decide (maxSteps := 4000000) only [go_sem, Nat.reduceAdd, Nat.reduceMul]
        simp [hcap]

theorem contFuncEdgeTypeC {g : FuncId} {caps : List D} {p : EdgeT → Bool} {xs : List EdgeT} (hr : ∀ k, resArgs caps k = k caps []) (hr2 : ∀ k, resCaps caps k = k caps []) (hcap : ∀ is, caps.all (refsB is 3) = true)
    (hp : ∀ x, x ∈ xs → Con Tryz.prog g ((.agg (rEdgeT x)) :: caps) (.bool (p x))) : Con Tryz.prog 182 [.fsl 7 (xs.map rEdgeT), .fn g caps] (.bool (xs.any p)) := by
  refine ConC.con (ent _ Tryz.func182 rfl rfl) (con_of_body env Tryz.func182 rfl (nt := 9) (rs := [.tmp 4]) rfl rfl (Nat.le_of_ble_eq_true rfl) fun hok => ?_)
  repeat (first | (refine AWP.go env ?_; intro K fin; try simp +decide (maxSteps := 4000000) only [go_sem, Nat.reduceAdd, Nat.reduceMul]) | refine Kt.h _ _ ?_ | refine Ft.k (by decide +kernel) ?_)
  simp +decide (maxSteps := 4000000) only [hr2, go_sem, Nat.reduceAdd, Nat.reduceMul]
  refine ⟨_, indexFuncEdgeTypeC hr hcap hp, ?_⟩
  simp +decide (maxSteps := 4000000) only [go_sem, Nat.reduceAdd, Nat.reduceMul]
  repeat (first | (refine AWP.go env ?_; intro K fin; try simp +decide (maxSteps := 4000000) only [go_sem, Nat.reduceAdd, Nat.reduceMul]) | refine Kt.h _ _ ?_ | refine Ft.k (by decide +kernel) ?_)
  rw [idxF_any]


theorem indexFuncAttrC {g : FuncId} {caps : List D} {p : Attr → Bool} {xs : List Attr} (hr : ∀ k, resArgs caps k = k caps []) (hcap : ∀ is, caps.all (refsB is 3) = true)
    (hp : ∀ x, x ∈ xs → Con Tryz.prog g ((.agg (rAttr x)) :: caps) (.bool (p x))) : Con Tryz.prog 285 [.fsl 4 (xs.map rAttr), .fn g caps] (.int .i64 (idxF p xs)) := by
  refine ConC.con (ent _ Tryz.func285 rfl rfl) (con_of_body env Tryz.func285 rfl (nt := 19) (rs := [.tmp 4]) rfl rfl (Nat.le_of_ble_eq_true rfl) fun hok => ?_)
  repeat (first | (refine AWP.go env ?_; intro K fin; try simp +decide (maxSteps := 4000000) only [go_sem, Nat.reduceAdd, Nat.reduceMul]) | refine Kt.h _ _ ?_ | refine Ft.k (by decide +kernel) ?_)
  refine AWP.lp (α := PP p xs) (fun x => ⟨19, [(0, .fsl 4 (xs.map rAttr)), (1, .fn g caps), (7, .int .i64 xs.length), (8, .int .i64 x.pre.length)], []⟩) (fun x => x.post.length) ⟨[], xs, rfl, by simp⟩ (by simp +decide (maxSteps := 4000000) only [go_sem, Nat.reduceAdd, Nat.reduceMul]; simp [hcap]) fun x K => ?_
  obtain ⟨pre, post, rfl, hno⟩ := x
  have hl := (hok _ (List.mem_cons_self ..)).len
  repeat (first | (refine AWP.go env ?_; intro K fin; try simp +decide (maxSteps := 4000000) only [go_sem, Nat.reduceAdd, Nat.reduceMul]) | refine Kt.h _ _ ?_ | refine Ft.k (by decide +kernel) ?_)
  cases post with
  | nil =>
    simp only [List.append_nil, Int.lt_irrefl, decide_false, cond2_false]
    repeat (first | (refine AWP.go env ?_; intro K fin; try simp +decide (maxSteps := 4000000) only [go_sem, Nat.reduceAdd, Nat.reduceMul]) | refine Kt.h _ _ ?_ | refine Ft.k (by decide +kernel) ?_)
    exact (idxF_no pre hno).symm
  | cons x post =>
    simp only [List.length_map, List.length_append, List.length_cons] at hl
    have hlt : (pre.length : Int) < (pre ++ x :: post).length := by simp; omega
    simp only [hlt, decide_true, cond2_true]
    repeat (first | (refine AWP.go env ?_; intro K fin; try simp +decide (maxSteps := 4000000) only [go_sem, Nat.reduceAdd, Nat.reduceMul]) | refine Kt.h _ _ ?_ | refine Ft.k (by decide +kernel) ?_)
    refine ⟨⟨by omega, hlt⟩, fun _ => ?_⟩
    simp +decide (maxSteps := 4000000) only [rAttr, hr, go_sem, Nat.reduceAdd, Nat.reduceMul]
    refine ⟨_, hp x (by simp), ?_⟩
    simp +decide (maxSteps := 4000000) only [go_sem, Nat.reduceAdd, Nat.reduceMul]
    repeat (first | (refine AWP.go env ?_; intro K fin; try simp +decide (maxSteps := 4000000) only [go_sem, Nat.reduceAdd, Nat.reduceMul]) | refine Kt.h _ _ ?_ | refine Ft.k (by decide +kernel) ?_)
    refine ⟨fun hx => ?_, fun hx => ?_⟩
    · repeat (first | (refine AWP.go env ?_; intro K fin; try simp +decide (maxSteps := 4000000) only [go_sem, Nat.reduceAdd, Nat.reduceMul]) | refine Kt.h _ _ ?_ | refine Ft.k (by decide +kernel) ?_)
      exact (idxF_at pre x post hno hx).symm
    · repeat (first | (refine AWP.go env ?_; intro K fin; try simp +decide (maxSteps := 4000000) only [go_sem, Nat.reduceAdd, Nat.reduceMul]) | refine Kt.h _ _ ?_ | refine Ft.k (by decide +kernel) ?_)
      refine ⟨⟨pre ++ [x], post, by simp, fun y hy => ?_⟩, by simp, ?_⟩
      · rcases List.mem_append.1 hy with hy | hy
        · exact hno y hy
        · simp at hy; subst hy; exact hx
      · rw [wrap64 (by omega) (by omega)]
        simp +decide (maxSteps := 4000000) only [go_sem, Nat.reduceAdd, Nat.reduceMul]
        simp [hcap]

theorem contFuncAttrC {g : FuncId} {caps : List D} {p : Attr → Bool} {xs : List Attr} (hr : ∀ k, resArgs caps k = k caps []) (hr2 : ∀ k, resCaps caps k = k caps []) (hcap : ∀ is, caps.all (refsB is 3) = true)
    (hp : ∀ x, x ∈ xs → Con Tryz.prog g ((.agg (rAttr x)) :: caps) (.bool (p x))) : Con Tryz.prog 241 [.fsl 4 (xs.map rAttr), .fn g caps] (.bool (xs.any p)) := by
  refine ConC.con (ent _ Tryz.func241 rfl rfl) (con_of_body env Tryz.func241 rfl (nt := 9) (rs := [.tmp 4]) rfl rfl (Nat.le_of_ble_eq_true rfl) fun hok => ?_)
  repeat (first | (refine AWP.go env ?_; intro K fin; try simp +decide (maxSteps := 4000000) only [go_sem, Nat.reduceAdd, Nat.reduceMul]) | refine Kt.h _ _ ?_ | refine Ft.k (by decide +kernel) ?_)
  simp +decide (maxSteps := 4000000) only [hr2, go_sem, Nat.reduceAdd, Nat.reduceMul]
  refine ⟨_, indexFuncAttrC hr hcap hp, ?_⟩
  simp +decide (maxSteps := 4000000) only [go_sem, Nat.reduceAdd, Nat.reduceMul]
  repeat (first | (refine AWP.go env ?_; intro K fin; try simp +decide (maxSteps := 4000000) only [go_sem, Nat.reduceAdd, Nat.reduceMul]) | refine Kt.h _ _ ?_ | refine Ft.k (by decide +kernel) ?_)
  rw [idxF_any]


theorem indexFuncSlotC {g : FuncId} {caps : List D} {p : Slot → Bool} {xs : List Slot} (hr : ∀ k, resArgs caps k = k caps []) (hcap : ∀ is, caps.all (refsB is 3) = true)
    (hp : ∀ x, x ∈ xs → Con Tryz.prog g ((.agg (rSlot x)) :: caps) (.bool (p x))) : Con Tryz.prog 254 [.fsl 4 (xs.map rSlot), .fn g caps] (.int .i64 (idxF p xs)) := by
  refine ConC.con (ent _ Tryz.func254 rfl rfl) (con_of_body env Tryz.func254 rfl (nt := 19) (rs := [.tmp 4]) rfl rfl (Nat.le_of_ble_eq_true rfl) fun hok => ?_)
  repeat (first | (refine AWP.go env ?_; intro K fin; try simp +decide (maxSteps := 4000000) only [go_sem, Nat.reduceAdd, Nat.reduceMul]) | refine Kt.h _ _ ?_ | refine Ft.k (by decide +kernel) ?_)
  refine AWP.lp (α := PP p xs) (fun x => ⟨19, [(0, .fsl 4 (xs.map rSlot)), (1, .fn g caps), (7, .int .i64 xs.length), (8, .int .i64 x.pre.length)], []⟩) (fun x => x.post.length) ⟨[], xs, rfl, by simp⟩ (by simp +decide (maxSteps := 4000000) only [go_sem, Nat.reduceAdd, Nat.reduceMul]; simp [hcap]) fun x K => ?_
  obtain ⟨pre, post, rfl, hno⟩ := x
  have hl := (hok _ (List.mem_cons_self ..)).len
  repeat (first | (refine AWP.go env ?_; intro K fin; try simp +decide (maxSteps := 4000000) only [go_sem, Nat.reduceAdd, Nat.reduceMul]) | refine Kt.h _ _ ?_ | refine Ft.k (by decide +kernel) ?_)
  cases post with
  | nil =>
    simp only [List.append_nil, Int.lt_irrefl, decide_false, cond2_false]
    repeat (first | (refine AWP.go env ?_; intro K fin; try simp +decide (maxSteps := 4000000) only [go_sem, Nat.reduceAdd, Nat.reduceMul]) | refine Kt.h _ _ ?_ | refine Ft.k (by decide +kernel) ?_)
    exact (idxF_no pre hno).symm
  | cons x post =>
    simp only [List.length_map, List.length_append, List.length_cons] at hl
    have hlt : (pre.length : Int) < (pre ++ x :: post).length := by simp; omega
    simp only [hlt, decide_true, cond2_true]
    repeat (first | (refine AWP.go env ?_; intro K fin; try simp +decide (maxSteps := 4000000) only [go_sem, Nat.reduceAdd, Nat.reduceMul]) | refine Kt.h _ _ ?_ | refine Ft.k (by decide +kernel) ?_)
    refine ⟨⟨by omega, hlt⟩, fun _ => ?_⟩
    simp +decide (maxSteps := 4000000) only [rSlot, hr, go_sem, Nat.reduceAdd, Nat.reduceMul]
    refine ⟨_, hp x (by simp), ?_⟩
    simp +decide (maxSteps := 4000000) only [go_sem, Nat.reduceAdd, Nat.reduceMul]
    repeat (first | (refine AWP.go env ?_; intro K fin; try simp +decide (maxSteps := 4000000) only [go_sem, Nat.reduceAdd, Nat.reduceMul]) | refine Kt.h _ _ ?_ | refine Ft.k (by decide +kernel) ?_)
    refine ⟨fun hx => ?_, fun hx => ?_⟩
    · repeat (first | (refine AWP.go env ?_; intro K fin; try simp +decide (maxSteps := 4000000) only [go_sem, Nat.reduceAdd, Nat.reduceMul]) | refine Kt.h _ _ ?_ | refine Ft.k (by decide +kernel) ?_)
      exact (idxF_at pre x post hno hx).symm
    · repeat (first | (refine AWP.go env ?_; intro K fin; try simp +decide (maxSteps := 4000000) only [go_sem, Nat.reduceAdd, Nat.reduceMul]) | refine Kt.h _ _ ?_ | refine Ft.k (by decide +kernel) ?_)
      refine ⟨⟨pre ++ [x], post, by simp, fun y hy => ?_⟩, by simp, ?_⟩
      · rcases List.mem_append.1 hy with hy | hy
        · exact hno y hy
        · simp at hy; subst hy; exact hx
      · rw [wrap64 (by omega) (by omega)]
        simp +decide (maxSteps := 4000000) only [go_sem, Nat.reduceAdd, Nat.reduceMul]
        simp [hcap]

theorem contFuncSlotC {g : FuncId} {caps : List D} {p : Slot → Bool} {xs : List Slot} (hr : ∀ k, resArgs caps k = k caps []) (hr2 : ∀ k, resCaps caps k = k caps []) (hcap : ∀ is, caps.all (refsB is 3) = true)
    (hp : ∀ x, x ∈ xs → Con Tryz.prog g ((.agg (rSlot x)) :: caps) (.bool (p x))) : Con Tryz.prog 193 [.fsl 4 (xs.map rSlot), .fn g caps] (.bool (xs.any p)) := by
  refine ConC.con (ent _ Tryz.func193 rfl rfl) (con_of_body env Tryz.func193 rfl (nt := 9) (rs := [.tmp 4]) rfl rfl (Nat.le_of_ble_eq_true rfl) fun hok => ?_)
  repeat (first | (refine AWP.go env ?_; intro K fin; try simp +decide (maxSteps := 4000000) only [go_sem, Nat.reduceAdd, Nat.reduceMul]) | refine Kt.h _ _ ?_ | refine Ft.k (by decide +kernel) ?_)
  simp +decide (maxSteps := 4000000) only [hr2, go_sem, Nat.reduceAdd, Nat.reduceMul]
  refine ⟨_, indexFuncSlotC hr hcap hp, ?_⟩
  simp +decide (maxSteps := 4000000) only [go_sem, Nat.reduceAdd, Nat.reduceMul]
  repeat (first | (refine AWP.go env ?_; intro K fin; try simp +decide (maxSteps := 4000000) only [go_sem, Nat.reduceAdd, Nat.reduceMul]) | refine Kt.h _ _ ?_ | refine Ft.k (by decide +kernel) ?_)
  rw [idxF_any]


theorem indexStringC {v : ByteArray} {xs : List ByteArray} : Con Tryz.prog 294 [.fsl 1 (xs.map rS), .str v] (.int .i64 (idxF (fun x => v.toList == x.toList) xs)) := by
  refine ConC.con (ent _ Tryz.func294 rfl rfl) (con_of_body env Tryz.func294 rfl (nt := 19) (rs := [.tmp 4]) rfl rfl (Nat.le_of_ble_eq_true rfl) fun hok => ?_)
  repeat (first | (refine AWP.go env ?_; intro K fin; try simp +decide (maxSteps := 4000000) only [go_sem, Nat.reduceAdd, Nat.reduceMul]) | refine Kt.h _ _ ?_ | refine Ft.k (by decide +kernel) ?_)
  refine AWP.lp (α := PP (fun x => v.toList == x.toList) xs) (fun x => ⟨19, [(0, .fsl 1 (xs.map rS)), (1, .str v), (7, .int .i64 xs.length), (8, .int .i64 x.pre.length)], []⟩) (fun x => x.post.length) ⟨[], xs, rfl, by simp⟩ (by simp +decide (maxSteps := 4000000) only [go_sem, Nat.reduceAdd, Nat.reduceMul]; try simp) fun x K => ?_
  obtain ⟨pre, post, rfl, hno⟩ := x
  have hl := (hok _ (List.mem_cons_self ..)).len
  repeat (first | (refine AWP.go env ?_; intro K fin; try simp +decide (maxSteps := 4000000) only [go_sem, Nat.reduceAdd, Nat.reduceMul]) | refine Kt.h _ _ ?_ | refine Ft.k (by decide +kernel) ?_)
  cases post with
  | nil =>
    simp only [List.append_nil, Int.lt_irrefl, decide_false, cond2_false]
    repeat (first | (refine AWP.go env ?_; intro K fin; try simp +decide (maxSteps := 4000000) only [go_sem, Nat.reduceAdd, Nat.reduceMul]) | refine Kt.h _ _ ?_ | refine Ft.k (by decide +kernel) ?_)
    exact (idxF_no pre hno).symm
  | cons x post =>
    simp only [List.length_map, List.length_append, List.length_cons] at hl
    have hlt : (pre.length : Int) < (pre ++ x :: post).length := by simp; omega
    simp only [hlt, decide_true, cond2_true]
    repeat (first | (refine AWP.go env ?_; intro K fin; try simp +decide (maxSteps := 4000000) only [go_sem, Nat.reduceAdd, Nat.reduceMul]) | refine Kt.h _ _ ?_ | refine Ft.k (by decide +kernel) ?_)
    refine ⟨⟨by omega, hlt⟩, fun _ => ?_⟩
    try simp +decide (maxSteps := 4000000) only [go_sem, Nat.reduceAdd, Nat.reduceMul]
    repeat (first | (refine AWP.go env ?_; intro K fin; try simp +decide (maxSteps := 4000000) only [go_sem, Nat.reduceAdd, Nat.reduceMul]) | refine Kt.h _ _ ?_ | refine Ft.k (by decide +kernel) ?_)
    refine ⟨fun hx => ?_, fun hx => ?_⟩
    · repeat (first | (refine AWP.go env ?_; intro K fin; try simp +decide (maxSteps := 4000000) only [go_sem, Nat.reduceAdd, Nat.reduceMul]) | refine Kt.h _ _ ?_ | refine Ft.k (by decide +kernel) ?_)
      exact (idxF_at pre x post hno hx).symm
    · repeat (first | (refine AWP.go env ?_; intro K fin; try simp +decide (maxSteps := 4000000) only [go_sem, Nat.reduceAdd, Nat.reduceMul]) | refine Kt.h _ _ ?_ | refine Ft.k (by decide +kernel) ?_)
      refine ⟨⟨pre ++ [x], post, by simp, fun y hy => ?_⟩, by simp, ?_⟩
      · rcases List.mem_append.1 hy with hy | hy
        · exact hno y hy
        · simp at hy; subst hy; exact hx
      · rw [wrap64 (by omega) (by omega)]
        simp +decide (maxSteps := 4000000) only [go_sem, Nat.reduceAdd, Nat.reduceMul]
        try simp

theorem containsStringC {v : ByteArray} {xs : List ByteArray} : Con Tryz.prog 286 [.fsl 1 (xs.map rS), .str v] (.bool (xs.any fun x => v.toList == x.toList)) := by
  refine ConC.con (ent _ Tryz.func286 rfl rfl) (con_of_body env Tryz.func286 rfl (nt := 9) (rs := [.tmp 4]) rfl rfl (Nat.le_of_ble_eq_true rfl) fun hok => ?_)
  repeat (first | (refine AWP.go env ?_; intro K fin; try simp +decide (maxSteps := 4000000) only [go_sem, Nat.reduceAdd, Nat.reduceMul]) | refine Kt.h _ _ ?_ | refine Ft.k (by decide +kernel) ?_)
  refine ⟨_, indexStringC, ?_⟩
  simp +decide (maxSteps := 4000000) only [go_sem, Nat.reduceAdd, Nat.reduceMul]
  repeat (first | (refine AWP.go env ?_; intro K fin; try simp +decide (maxSteps := 4000000) only [go_sem, Nat.reduceAdd, Nat.reduceMul]) | refine Kt.h _ _ ?_ | refine Ft.k (by decide +kernel) ?_)
  rw [idxF_any]


theorem indexBoolC {v : Bool} {xs : List Bool} : Con Tryz.prog 190 [.fsl 1 (xs.map rB), .bool v] (.int .i64 (idxF (fun x => v == x) xs)) := by
  refine ConC.con (ent _ Tryz.func190 rfl rfl) (con_of_body env Tryz.func190 rfl (nt := 19) (rs := [.tmp 4]) rfl rfl (Nat.le_of_ble_eq_true rfl) fun hok => ?_)
  repeat (first | (refine AWP.go env ?_; intro K fin; try simp +decide (maxSteps := 4000000) only [go_sem, Nat.reduceAdd, Nat.reduceMul]) | refine Kt.h _ _ ?_ | refine Ft.k (by decide +kernel) ?_)
  refine AWP.lp (α := PP (fun x => v == x) xs) (fun x => ⟨19, [(0, .fsl 1 (xs.map rB)), (1, .bool v), (7, .int .i64 xs.length), (8, .int .i64 x.pre.length)], []⟩) (fun x => x.post.length) ⟨[], xs, rfl, by simp⟩ (by simp +decide (maxSteps := 4000000) only [go_sem, Nat.reduceAdd, Nat.reduceMul]; try simp) fun x K => ?_
  obtain ⟨pre, post, rfl, hno⟩ := x
  have hl := (hok _ (List.mem_cons_self ..)).len
  repeat (first | (refine AWP.go env ?_; intro K fin; try simp +decide (maxSteps := 4000000) only [go_sem, Nat.reduceAdd, Nat.reduceMul]) | refine Kt.h _ _ ?_ | refine Ft.k (by decide +kernel) ?_)
  cases post with
  | nil =>
    simp only [List.append_nil, Int.lt_irrefl, decide_false, cond2_false]
    repeat (first | (refine AWP.go env ?_; intro K fin; try simp +decide (maxSteps := 4000000) only [go_sem, Nat.reduceAdd, Nat.reduceMul]) | refine Kt.h _ _ ?_ | refine Ft.k (by decide +kernel) ?_)
    exact (idxF_no pre hno).symm
  | cons x post =>
    simp only [List.length_map, List.length_append, List.length_cons] at hl
    have hlt : (pre.length : Int) < (pre ++ x :: post).length := by simp; omega
    simp only [hlt, decide_true, cond2_true]
    repeat (first | (refine AWP.go env ?_; intro K fin; try simp +decide (maxSteps := 4000000) only [go_sem, Nat.reduceAdd, Nat.reduceMul]) | refine Kt.h _ _ ?_ | refine Ft.k (by decide +kernel) ?_)
    refine ⟨⟨by omega, hlt⟩, fun _ => ?_⟩
    try simp +decide (maxSteps := 4000000) only [go_sem, Nat.reduceAdd, Nat.reduceMul]
    repeat (first | (refine AWP.go env ?_; intro K fin; try simp +decide (maxSteps := 4000000) only [go_sem, Nat.reduceAdd, Nat.reduceMul]) | refine Kt.h _ _ ?_ | refine Ft.k (by decide +kernel) ?_)
    refine ⟨fun hx => ?_, fun hx => ?_⟩
    · repeat (first | (refine AWP.go env ?_; intro K fin; try simp +decide (maxSteps := 4000000) only [go_sem, Nat.reduceAdd, Nat.reduceMul]) | refine Kt.h _ _ ?_ | refine Ft.k (by decide +kernel) ?_)
      exact (idxF_at pre x post hno hx).symm
    · repeat (first | (refine AWP.go env ?_; intro K fin; try simp +decide (maxSteps := 4000000) only [go_sem, Nat.reduceAdd, Nat.reduceMul]) | refine Kt.h _ _ ?_ | refine Ft.k (by decide +kernel) ?_)
      refine ⟨⟨pre ++ [x], post, by simp, fun y hy => ?_⟩, by simp, ?_⟩
      · rcases List.mem_append.1 hy with hy | hy
        · exact hno y hy
        · simp at hy; subst hy; exact hx
      · rw [wrap64 (by omega) (by omega)]
        simp +decide (maxSteps := 4000000) only [go_sem, Nat.reduceAdd, Nat.reduceMul]
        try simp

theorem containsBoolC {v : Bool} {xs : List Bool} : Con Tryz.prog 115 [.fsl 1 (xs.map rB), .bool v] (.bool (xs.any fun x => v == x)) := by
  refine ConC.con (ent _ Tryz.func115 rfl rfl) (con_of_body env Tryz.func115 rfl (nt := 9) (rs := [.tmp 4]) rfl rfl (Nat.le_of_ble_eq_true rfl) fun hok => ?_)
  repeat (first | (refine AWP.go env ?_; intro K fin; try simp +decide (maxSteps := 4000000) only [go_sem, Nat.reduceAdd, Nat.reduceMul]) | refine Kt.h _ _ ?_ | refine Ft.k (by decide +kernel) ?_)
  refine ⟨_, indexBoolC, ?_⟩
  simp +decide (maxSteps := 4000000) only [go_sem, Nat.reduceAdd, Nat.reduceMul]
  repeat (first | (refine AWP.go env ?_; intro K fin; try simp +decide (maxSteps := 4000000) only [go_sem, Nat.reduceAdd, Nat.reduceMul]) | refine Kt.h _ _ ?_ | refine Ft.k (by decide +kernel) ?_)
  rw [idxF_any]


theorem indexIntC {v : Int} {xs : List Int} : Con Tryz.prog 141 [.fsl 1 (xs.map rI), .int .i64 v] (.int .i64 (idxF (fun x => v == x) xs)) := by
  refine ConC.con (ent _ Tryz.func141 rfl rfl) (con_of_body env Tryz.func141 rfl (nt := 19) (rs := [.tmp 4]) rfl rfl (Nat.le_of_ble_eq_true rfl) fun hok => ?_)
  repeat (first | (refine AWP.go env ?_; intro K fin; try simp +decide (maxSteps := 4000000) only [go_sem, Nat.reduceAdd, Nat.reduceMul]) | refine Kt.h _ _ ?_ | refine Ft.k (by decide +kernel) ?_)
  refine AWP.lp (α := PP (fun x => v == x) xs) (fun x => ⟨19, [(0, .fsl 1 (xs.map rI)), (1, .int .i64 v), (7, .int .i64 xs.length), (8, .int .i64 x.pre.length)], []⟩) (fun x => x.post.length) ⟨[], xs, rfl, by simp⟩ (by simp +decide (maxSteps := 4000000) only [go_sem, Nat.reduceAdd, Nat.reduceMul]; try simp) fun x K => ?_
  obtain ⟨pre, post, rfl, hno⟩ := x
  have hl := (hok _ (List.mem_cons_self ..)).len
  repeat (first | (refine AWP.go env ?_; intro K fin; try simp +decide (maxSteps := 4000000) only [go_sem, Nat.reduceAdd, Nat.reduceMul]) | refine Kt.h _ _ ?_ | refine Ft.k (by decide +kernel) ?_)
  cases post with
  | nil =>
    simp only [List.append_nil, Int.lt_irrefl, decide_false, cond2_false]
    repeat (first | (refine AWP.go env ?_; intro K fin; try simp +decide (maxSteps := 4000000) only [go_sem, Nat.reduceAdd, Nat.reduceMul]) | refine Kt.h _ _ ?_ | refine Ft.k (by decide +kernel) ?_)
    exact (idxF_no pre hno).symm
  | cons x post =>
    simp only [List.length_map, List.length_append, List.length_cons] at hl
    have hlt : (pre.length : Int) < (pre ++ x :: post).length := by simp; omega
    simp only [hlt, decide_true, cond2_true]
    repeat (first | (refine AWP.go env ?_; intro K fin; try simp +decide (maxSteps := 4000000) only [go_sem, Nat.reduceAdd, Nat.reduceMul]) | refine Kt.h _ _ ?_ | refine Ft.k (by decide +kernel) ?_)
    refine ⟨⟨by omega, hlt⟩, fun _ => ?_⟩
    try simp +decide (maxSteps := 4000000) only [go_sem, Nat.reduceAdd, Nat.reduceMul]
    repeat (first | (refine AWP.go env ?_; intro K fin; try simp +decide (maxSteps := 4000000) only [go_sem, Nat.reduceAdd, Nat.reduceMul]) | refine Kt.h _ _ ?_ | refine Ft.k (by decide +kernel) ?_)
    refine ⟨fun hx => ?_, fun hx => ?_⟩
    · repeat (first | (refine AWP.go env ?_; intro K fin; try simp +decide (maxSteps := 4000000) only [go_sem, Nat.reduceAdd, Nat.reduceMul]) | refine Kt.h _ _ ?_ | refine Ft.k (by decide +kernel) ?_)
      exact (idxF_at pre x post hno hx).symm
    · repeat (first | (refine AWP.go env ?_; intro K fin; try simp +decide (maxSteps := 4000000) only [go_sem, Nat.reduceAdd, Nat.reduceMul]) | refine Kt.h _ _ ?_ | refine Ft.k (by decide +kernel) ?_)
      refine ⟨⟨pre ++ [x], post, by simp, fun y hy => ?_⟩, by simp, ?_⟩
      · rcases List.mem_append.1 hy with hy | hy
        · exact hno y hy
        · simp at hy; subst hy; exact hx
      · rw [wrap64 (by omega) (by omega)]
        simp +decide (maxSteps := 4000000) only [go_sem, Nat.reduceAdd, Nat.reduceMul]
        try simp

theorem containsIntC {v : Int} {xs : List Int} : Con Tryz.prog 196 [.fsl 1 (xs.map rI), .int .i64 v] (.bool (xs.any fun x => v == x)) := by
  refine ConC.con (ent _ Tryz.func196 rfl rfl) (con_of_body env Tryz.func196 rfl (nt := 9) (rs := [.tmp 4]) rfl rfl (Nat.le_of_ble_eq_true rfl) fun hok => ?_)
  repeat (first | (refine AWP.go env ?_; intro K fin; try simp +decide (maxSteps := 4000000) only [go_sem, Nat.reduceAdd, Nat.reduceMul]) | refine Kt.h _ _ ?_ | refine Ft.k (by decide +kernel) ?_)
  refine ⟨_, indexIntC, ?_⟩
  simp +decide (maxSteps := 4000000) only [go_sem, Nat.reduceAdd, Nat.reduceMul]
  repeat (first | (refine AWP.go env ?_; intro K fin; try simp +decide (maxSteps := 4000000) only [go_sem, Nat.reduceAdd, Nat.reduceMul]) | refine Kt.h _ _ ?_ | refine Ft.k (by decide +kernel) ?_)
  rw [idxF_any]


theorem indexFuncConditionC {g : FuncId} {caps : List D} {p : Cond → Bool} {xs : List Cond} (hr : ∀ k, resArgs caps k = k caps []) (hcap : ∀ is, caps.all (refsB is 3) = true)
    (hp : ∀ x, x ∈ xs → Con Tryz.prog g ((.agg (rCond x)) :: caps) (.bool (p x))) : Con Tryz.prog 290 [.fsl 9 (xs.map Cond.row), .fn g caps] (.int .i64 (idxF p xs)) := by
  refine ConC.con (ent _ Tryz.func290 rfl rfl) (con_of_body env Tryz.func290 rfl (nt := 19) (rs := [.tmp 4]) rfl rfl (Nat.le_of_ble_eq_true rfl) fun hok => ?_)
  repeat (first | (refine AWP.go env ?_; intro K fin; try simp +decide (maxSteps := 4000000) only [go_sem, Nat.reduceAdd, Nat.reduceMul]) | refine Kt.h _ _ ?_ | refine Ft.k (by decide +kernel) ?_)
  refine AWP.lp (α := PP p xs) (fun x => ⟨19, [(0, .fsl 9 (xs.map Cond.row)), (1, .fn g caps), (7, .int .i64 xs.length), (8, .int .i64 x.pre.length)], []⟩) (fun x => x.post.length) ⟨[], xs, rfl, by simp⟩ (by simp +decide (maxSteps := 4000000) only [go_sem, Nat.reduceAdd, Nat.reduceMul]; simp [hcap]) fun x K => ?_
  obtain ⟨pre, post, rfl, hno⟩ := x
  have hl := (hok _ (List.mem_cons_self ..)).len
  repeat (first | (refine AWP.go env ?_; intro K fin; try simp +decide (maxSteps := 4000000) only [go_sem, Nat.reduceAdd, Nat.reduceMul]) | refine Kt.h _ _ ?_ | refine Ft.k (by decide +kernel) ?_)
  cases post with
  | nil =>
    simp only [List.append_nil, Int.lt_irrefl, decide_false, cond2_false]
    repeat (first | (refine AWP.go env ?_; intro K fin; try simp +decide (maxSteps := 4000000) only [go_sem, Nat.reduceAdd, Nat.reduceMul]) | refine Kt.h _ _ ?_ | refine Ft.k (by decide +kernel) ?_)
    exact (idxF_no pre hno).symm
  | cons x post =>
    simp only [List.length_map, List.length_append, List.length_cons] at hl
    have hlt : (pre.length : Int) < (pre ++ x :: post).length := by simp; omega
    simp only [hlt, decide_true, cond2_true]
    repeat (first | (refine AWP.go env ?_; intro K fin; try simp +decide (maxSteps := 4000000) only [go_sem, Nat.reduceAdd, Nat.reduceMul]) | refine Kt.h _ _ ?_ | refine Ft.k (by decide +kernel) ?_)
    refine ⟨⟨by omega, hlt⟩, fun _ => ?_⟩
    simp +decide (maxSteps := 4000000) only [Cond.row_eq, rCond, hr, go_sem, Nat.reduceAdd, Nat.reduceMul]
    refine ⟨_, hp x (by simp), ?_⟩
    simp +decide (maxSteps := 4000000) only [go_sem, Nat.reduceAdd, Nat.reduceMul]
    repeat (first | (refine AWP.go env ?_; intro K fin; try simp +decide (maxSteps := 4000000) only [go_sem, Nat.reduceAdd, Nat.reduceMul]) | refine Kt.h _ _ ?_ | refine Ft.k (by decide +kernel) ?_)
    refine ⟨fun hx => ?_, fun hx => ?_⟩
    · repeat (first | (refine AWP.go env ?_; intro K fin; try simp +decide (maxSteps := 4000000) only [go_sem, Nat.reduceAdd, Nat.reduceMul]) | refine Kt.h _ _ ?_ | refine Ft.k (by decide +kernel) ?_)
      exact (idxF_at pre x post hno hx).symm
    · repeat (first | (refine AWP.go env ?_; intro K fin; try simp +decide (maxSteps := 4000000) only [go_sem, Nat.reduceAdd, Nat.reduceMul]) | refine Kt.h _ _ ?_ | refine Ft.k (by decide +kernel) ?_)
      refine ⟨⟨pre ++ [x], post, by simp, fun y hy => ?_⟩, by simp, ?_⟩
      · rcases List.mem_append.1 hy with hy | hy
        · exact hno y hy
        · simp at hy; subst hy; exact hx
      · rw [wrap64 (by omega) (by omega)]
        simp +decide (maxSteps := 4000000) only [go_sem, Nat.reduceAdd, Nat.reduceMul]
        simp [hcap]

theorem contFuncConditionC {g : FuncId} {caps : List D} {p : Cond → Bool} {xs : List Cond} (hr : ∀ k, resArgs caps k = k caps []) (hr2 : ∀ k, resCaps caps k = k caps []) (hcap : ∀ is, caps.all (refsB is 3) = true)
    (hp : ∀ x, x ∈ xs → Con Tryz.prog g ((.agg (rCond x)) :: caps) (.bool (p x))) : Con Tryz.prog 258 [.fsl 9 (xs.map Cond.row), .fn g caps] (.bool (xs.any p)) := by
  refine ConC.con (ent _ Tryz.func258 rfl rfl) (con_of_body env Tryz.func258 rfl (nt := 9) (rs := [.tmp 4]) rfl rfl (Nat.le_of_ble_eq_true rfl) fun hok => ?_)
  repeat (first | (refine AWP.go env ?_; intro K fin; try simp +decide (maxSteps := 4000000) only [go_sem, Nat.reduceAdd, Nat.reduceMul]) | refine Kt.h _ _ ?_ | refine Ft.k (by decide +kernel) ?_)
  simp +decide (maxSteps := 4000000) only [hr2, go_sem, Nat.reduceAdd, Nat.reduceMul]
  refine ⟨_, indexFuncConditionC hr hcap hp, ?_⟩
  simp +decide (maxSteps := 4000000) only [go_sem, Nat.reduceAdd, Nat.reduceMul]
  repeat (first | (refine AWP.go env ?_; intro K fin; try simp +decide (maxSteps := 4000000) only [go_sem, Nat.reduceAdd, Nat.reduceMul]) | refine Kt.h _ _ ?_ | refine Ft.k (by decide +kernel) ?_)
  rw [idxF_any]



end Go.Abs
/- The tokens of a text. -/
set_option linter.unusedSimpArgs false
set_option linter.unusedVariables false
set_option maxRecDepth 20000
namespace Go.Abs
open Go Go.RowKit Go.Proofs
attribute [local irreducible] Con AWP

def isDigit (c : Int) : Bool := decide (48 ≤ c) && decide (c ≤ 57)
def isLetter (c : Int) : Bool := (decide (97 ≤ c) && decide (c ≤ 122)) || (decide (65 ≤ c) && decide (c ≤ 90))
def isPart (c : Int) : Bool := isLetter c || isDigit c || c == 95
def isChar (c : Int) : Bool := decide (32 ≤ c) && decide (c ≤ 126) && !(c == 34)

theorem digitC {c : Int} : Con Tryz.prog 248 [.int .u8 c] (.bool (isDigit c)) := by
  refine ConC.con (ent _ Tryz.func248 rfl rfl) (con_of_body env Tryz.func248 rfl (nt := 9) (rs := [.tmp 2]) rfl rfl (Nat.le_of_ble_eq_true rfl) fun hok => ?_)
  unfold isDigit
  repeat' (first | (first | (refine AWP.go env ?_; intro K fin; try simp +decide (maxSteps := 4000000) only [go_sem, Nat.reduceAdd, Nat.reduceMul]) | refine Kt.h _ _ ?_ | refine Ft.k (by decide +kernel) ?_) | apply cond2_intro | with_reducible apply And.intro | intro h)
  all_goals grind

theorem letterC {c : Int} : Con Tryz.prog 245 [.int .u8 c] (.bool (isLetter c)) := by
  refine ConC.con (ent _ Tryz.func245 rfl rfl) (con_of_body env Tryz.func245 rfl (nt := 17) (rs := [.tmp 2]) rfl rfl (Nat.le_of_ble_eq_true rfl) fun hok => ?_)
  unfold isLetter
  repeat' (first | (first | (refine AWP.go env ?_; intro K fin; try simp +decide (maxSteps := 4000000) only [go_sem, Nat.reduceAdd, Nat.reduceMul]) | refine Kt.h _ _ ?_ | refine Ft.k (by decide +kernel) ?_) | apply cond2_intro | with_reducible apply And.intro | intro h)
  all_goals grind

theorem partC {c : Int} : Con Tryz.prog 247 [.int .u8 c] (.bool (isPart c)) := by
  refine ConC.con (ent _ Tryz.func247 rfl rfl) (con_of_body env Tryz.func247 rfl (nt := 13) (rs := [.tmp 2]) rfl rfl (Nat.le_of_ble_eq_true rfl) fun hok => ?_)
  unfold isPart
  repeat' (first | (first | (refine AWP.go env ?_; intro K fin; try simp +decide (maxSteps := 4000000) only [go_sem, Nat.reduceAdd, Nat.reduceMul]) | refine Kt.h _ _ ?_ | refine Ft.k (by decide +kernel) ?_ | ((first | refine ⟨_, digitC, ?_⟩ | refine ⟨_, letterC, ?_⟩); simp +decide (maxSteps := 4000000) only [go_sem, Nat.reduceAdd, Nat.reduceMul])) | apply cond2_intro | with_reducible apply And.intro | intro h)
  all_goals grind

theorem charC {c : Int} : Con Tryz.prog 287 [.int .u8 c] (.bool (isChar c)) := by
  refine ConC.con (ent _ Tryz.func287 rfl rfl) (con_of_body env Tryz.func287 rfl (nt := 13) (rs := [.tmp 2]) rfl rfl (Nat.le_of_ble_eq_true rfl) fun hok => ?_)
  unfold isChar
  repeat' (first | (first | (refine AWP.go env ?_; intro K fin; try simp +decide (maxSteps := 4000000) only [go_sem, Nat.reduceAdd, Nat.reduceMul]) | refine Kt.h _ _ ?_ | refine Ft.k (by decide +kernel) ?_ | ((first | refine ⟨_, digitC, ?_⟩ | refine ⟨_, letterC, ?_⟩); simp +decide (maxSteps := 4000000) only [go_sem, Nat.reduceAdd, Nat.reduceMul])) | apply cond2_intro | with_reducible apply And.intro | intro h)
  all_goals grind

theorem runC {s : ByteArray} {g : FuncId} {p : Int → Bool} (hp : ∀ c, Con Tryz.prog g [.int .u8 c] (.bool (p c))) : Con Tryz.prog 246 [.str s, .fn g []] (.int .i64 (runF p s 0)) := by
  refine ConC.con (ent _ Tryz.func246 rfl rfl) (con_of_body env Tryz.func246 rfl (nt := 20) (rs := [.tmp 4]) rfl rfl (Nat.le_of_ble_eq_true rfl) fun hok => ?_)
  have hs := (hok _ (List.mem_cons_self ..)).size
  repeat (first | (refine AWP.go env ?_; intro K fin; try simp +decide (maxSteps := 4000000) only [go_sem, Nat.reduceAdd, Nat.reduceMul]) | refine Kt.h _ _ ?_ | refine Ft.k (by decide +kernel) ?_ | ((first | refine ⟨_, digitC, ?_⟩ | refine ⟨_, letterC, ?_⟩ | refine ⟨_, hp _, ?_⟩); simp +decide (maxSteps := 4000000) only [go_sem, Nat.reduceAdd, Nat.reduceMul]))
  refine AWP.lp (α := { n : Nat // runF p s n = runF p s 0 ∧ n ≤ s.size }) (fun x => ⟨20, [(0, .str s), (1, .fn g []), (5, .int .i64 x.1)], []⟩) (fun x => s.size - x.1) ⟨0, rfl, Nat.zero_le _⟩ (by simp +decide (maxSteps := 4000000) only [go_sem, Nat.reduceAdd, Nat.reduceMul]) fun x K => ?_
  obtain ⟨n, hn, hle⟩ := x
  repeat' (first | (first | (refine AWP.go env ?_; intro K fin; try simp +decide (maxSteps := 4000000) only [go_sem, Nat.reduceAdd, Nat.reduceMul]) | refine Kt.h _ _ ?_ | refine Ft.k (by decide +kernel) ?_ | ((first | refine ⟨_, digitC, ?_⟩ | refine ⟨_, letterC, ?_⟩ | refine ⟨_, hp _, ?_⟩); simp +decide (maxSteps := 4000000) only [go_sem, Nat.reduceAdd, Nat.reduceMul])) | apply cond2_intro | with_reducible apply And.intro | intro h)
  all_goals try simp only [decide_eq_true_eq, decide_eq_false_iff_not] at *
  all_goals try omega
  · have h1 : n < s.size := by omega
    rw [wrap64 (by omega) (by omega)]
    refine ⟨⟨n + 1, ?_, h1⟩, by simp; omega, by simp +decide (maxSteps := 4000000) only [go_sem, Nat.reduceAdd, Nat.reduceMul]; simp⟩
    rw [← hn, runF_step h1 (by assumption)]
  · rw [← hn, runF_stop fun h => ?_]
    have : p ↑(s.get! n).toNat = false := by assumption
    have h2 : p ↑(s.get! n).toNat = true := h.2
    rw [h2] at this; cases this
  · rw [← hn, runF_stop (by omega)]


def quotedF (s : ByteArray) : Int × Int :=
  let n := runF isChar (s.extract 1 s.size) 0
  if 1 + n = s.size ∨ byteAt s (1 + n) ≠ 34 then (0, 2) else if n > 60 then (0, 3) else (n + 2, 0)

theorem quotedC {s : ByteArray} (h0 : 0 < s.size) : Con Tryz.prog 249 [.str s] (.tup [.int .i64 (quotedF s).1, .int .i64 (quotedF s).2]) := by
  refine ConC.con (ent _ Tryz.func249 rfl rfl) (con_of_body env Tryz.func249 rfl (nt := 24) (rs := [.tmp 2, .tmp 3]) rfl rfl (Nat.le_of_ble_eq_true rfl) fun hok => ?_)
  have hs := (hok _ (List.mem_cons_self ..)).size
  have hm := (runF_ge (p := isChar) (s := s.extract 1 s.size) _ 0 rfl).2 (Nat.zero_le _)
  simp only [ByteArray.size_extract, Nat.min_self] at hm
  have w1 : IntKind.i64.wrap (1 + (runF isChar (s.extract 1 s.size) 0 : Int)) = ((1 + runF isChar (s.extract 1 s.size) 0 : Nat) : Int) := by rw [wrap64 (by omega) (by omega)]; try rfl
  have w2 : IntKind.i64.wrap ((runF isChar (s.extract 1 s.size) 0 : Int) + 2) = ((runF isChar (s.extract 1 s.size) 0 + 2 : Nat) : Int) := by rw [wrap64 (by omega) (by omega)]; try rfl
  unfold quotedF byteAt
  generalize hmm : runF isChar (s.extract 1 s.size) 0 = m at *
  repeat' (first | (first | (refine AWP.go env ?_; intro K fin; try simp +decide (maxSteps := 4000000) only [w1, w2, hmm, go_sem, Nat.reduceAdd, Nat.reduceMul]) | refine Kt.h _ _ ?_ | refine Ft.k (by decide +kernel) ?_ | ((first | refine ⟨_, digitC, ?_⟩ | refine ⟨_, letterC, ?_⟩ | refine ⟨_, hp _, ?_⟩ | refine ⟨_, charC, ?_⟩ | refine ⟨_, runC fun _ => charC, ?_⟩ | refine ⟨_, runC fun _ => partC, ?_⟩ | refine ⟨_, runC fun _ => digitC, ?_⟩); simp +decide (maxSteps := 4000000) only [w1, w2, hmm, go_sem, Nat.reduceAdd, Nat.reduceMul])) | apply cond2_intro | with_reducible apply And.intro | intro h)
  all_goals clear hmm w1 w2
  all_goals grind

theorem firstIdx_le (s : ByteArray) (c : UInt8) : -1 ≤ firstIdx s c ∧ firstIdx s c < s.size := by
  unfold firstIdx
  split
  · rename_i i h
    have := List.mem_of_find?_eq_some h
    simp at this
    omega
  · omega

theorem indexByteStrC {s : ByteArray} {c : Int} : Con Tryz.prog 295 [.str s, .int .u8 c] (.int .i64 (firstIdx s c.toNat.toUInt8)) := by
  unfold Con
  intro w Z0 vs h1 h2 h3 o a next Q hn
  have e0 := h3 0 (by simp)
  have e1 := h3 1 (by simp)
  have hv := vs2 h2
  generalize vs.getD 0 Go.undef = v0 at e0 hv
  generalize vs.getD 1 Go.undef = v1 at e1 hv
  have e2 : v1 = .int .u8 c := by cases e1; rfl
  have e3 : v0 = .string s ∧ s.size ≤ lim := by cases e0; exact ⟨rfl, by assumption⟩
  obtain ⟨rfl, hs⟩ := e3
  subst e2
  have hr : (callFunc 295 vs).run Tryz.prog w = .ok (.value (.int .i64 (firstIdx s c.toNat.toUInt8))) w := by
    rw [run_callFunc_extern (e := Extern.BytealgIndexByte.indexByte) Tryz.func295 rfl rfl rfl rfl, hv, run_indexByte_string]
    rfl
  rw [hr]
  refine hn _ _ ⟨Below.refl _ _, fun _ => Go.undef, fun off vf => ⟨⟨fun i j oi oj b hi => (by cases hi), fun i o hi => (by cases hi)⟩, .int _ _ ?_⟩⟩
  have := firstIdx_le s c.toNat.toUInt8
  generalize firstIdx s c.toNat.toUInt8 = m at this ⊢
  unfold lim at hs
  simp [IntKind.has, IntKind.min, IntKind.max, IntKind.bits, IntKind.signed]
  omega

theorem indexByte2C {s : ByteArray} {c : Int} : Con Tryz.prog 288 [.str s, .int .u8 c] (.int .i64 (firstIdx s c.toNat.toUInt8)) := by
  refine ConC.con (ent _ Tryz.func288 rfl rfl) (con_of_body env Tryz.func288 rfl (nt := 8) (rs := [.tmp 4]) rfl rfl (Nat.le_of_ble_eq_true rfl) fun hok => ?_)
  repeat' (first | (first | (refine AWP.go env ?_; intro K fin; try simp +decide (maxSteps := 4000000) only [go_sem, Nat.reduceAdd, Nat.reduceMul]) | refine Kt.h _ _ ?_ | refine Ft.k (by decide +kernel) ?_ | ((first | refine ⟨_, digitC, ?_⟩ | refine ⟨_, letterC, ?_⟩ | refine ⟨_, hp _, ?_⟩ | refine ⟨_, charC, ?_⟩ | refine ⟨_, runC fun _ => charC, ?_⟩ | refine ⟨_, runC fun _ => partC, ?_⟩ | refine ⟨_, runC fun _ => digitC, ?_⟩ | refine ⟨_, indexByteStrC, ?_⟩); simp +decide (maxSteps := 4000000) only [go_sem, Nat.reduceAdd, Nat.reduceMul])) | apply cond2_intro | with_reducible apply And.intro | intro h)

theorem indexByteC {s : ByteArray} {c : Int} : Con Tryz.prog 251 [.str s, .int .u8 c] (.int .i64 (firstIdx s c.toNat.toUInt8)) := by
  refine ConC.con (ent _ Tryz.func251 rfl rfl) (con_of_body env Tryz.func251 rfl (nt := 8) (rs := [.tmp 4]) rfl rfl (Nat.le_of_ble_eq_true rfl) fun hok => ?_)
  repeat' (first | (first | (refine AWP.go env ?_; intro K fin; try simp +decide (maxSteps := 4000000) only [go_sem, Nat.reduceAdd, Nat.reduceMul]) | refine Kt.h _ _ ?_ | refine Ft.k (by decide +kernel) ?_ | ((first | refine ⟨_, digitC, ?_⟩ | refine ⟨_, letterC, ?_⟩ | refine ⟨_, hp _, ?_⟩ | refine ⟨_, charC, ?_⟩ | refine ⟨_, runC fun _ => charC, ?_⟩ | refine ⟨_, runC fun _ => partC, ?_⟩ | refine ⟨_, runC fun _ => digitC, ?_⟩ | refine ⟨_, indexByteStrC, ?_⟩ | refine ⟨_, indexByte2C, ?_⟩); simp +decide (maxSteps := 4000000) only [go_sem, Nat.reduceAdd, Nat.reduceMul])) | apply cond2_intro | with_reducible apply And.intro | intro h)

def pairs5 : List ByteArray := [⟨#[45, 62]⟩, ⟨#[60, 61]⟩, ⟨#[62, 61]⟩, ⟨#[61, 61]⟩, ⟨#[33, 61]⟩]
def isPair (s : ByteArray) : Bool := decide (2 ≤ s.size) && pairs5.any fun x => (s.extract 0 2).toList == x.toList

theorem pairC {s : ByteArray} : Con Tryz.prog 250 [.str s] (.bool (isPair s)) := by
  refine ConC.con (ent _ Tryz.func250 rfl rfl) (con_of_body env Tryz.func250 rfl (nt := 12) (rs := [.tmp 2]) rfl rfl (Nat.le_of_ble_eq_true rfl) fun hok => ?_)
  repeat' (first | (first | (refine AWP.go env ?_; intro K fin; try simp +decide (maxSteps := 4000000) only [go_sem, Nat.reduceAdd, Nat.reduceMul]) | refine Kt.h _ _ ?_ | refine Ft.k (by decide +kernel) ?_ | ((first | refine ⟨_, digitC, ?_⟩ | refine ⟨_, letterC, ?_⟩ | refine ⟨_, hp _, ?_⟩ | refine ⟨_, charC, ?_⟩ | refine ⟨_, runC fun _ => charC, ?_⟩ | refine ⟨_, runC fun _ => partC, ?_⟩ | refine ⟨_, runC fun _ => digitC, ?_⟩ | refine ⟨_, indexByteStrC, ?_⟩ | refine ⟨_, indexByte2C, ?_⟩ | refine ⟨_, indexByteC, ?_⟩); simp +decide (maxSteps := 4000000) only [go_sem, Nat.reduceAdd, Nat.reduceMul])) | apply cond2_intro | with_reducible apply And.intro | intro h)
  · simp at h; omega
  · refine ⟨_, containsStringC (xs := pairs5), ?_⟩
    simp +decide (maxSteps := 4000000) only [go_sem, Nat.reduceAdd, Nat.reduceMul]
    repeat' (first | (first | (refine AWP.go env ?_; intro K fin; try simp +decide (maxSteps := 4000000) only [go_sem, Nat.reduceAdd, Nat.reduceMul]) | refine Kt.h _ _ ?_ | refine Ft.k (by decide +kernel) ?_ | ((first | refine ⟨_, digitC, ?_⟩ | refine ⟨_, letterC, ?_⟩ | refine ⟨_, hp _, ?_⟩ | refine ⟨_, charC, ?_⟩ | refine ⟨_, runC fun _ => charC, ?_⟩ | refine ⟨_, runC fun _ => partC, ?_⟩ | refine ⟨_, runC fun _ => digitC, ?_⟩ | refine ⟨_, indexByteStrC, ?_⟩ | refine ⟨_, indexByte2C, ?_⟩ | refine ⟨_, indexByteC, ?_⟩); simp +decide (maxSteps := 4000000) only [go_sem, Nat.reduceAdd, Nat.reduceMul])) | apply cond2_intro | with_reducible apply And.intro | intro h)
    have h : 2 ≤ s.size := by omega
    simp [isPair, h]
  · have h : ¬ 2 ≤ s.size := by simp at h; omega
    simp [isPair, h]

end Go.Abs
/- The next token of a text; names. -/
set_option linter.unusedSimpArgs false
set_option linter.unusedVariables false
set_option maxRecDepth 20000
set_option maxHeartbeats 2000000
namespace Go.Abs
open Go Go.RowKit Go.Proofs
attribute [local irreducible] Con AWP

def singles : ByteArray := ⟨#[123, 125, 40, 41, 91, 93, 44, 59, 58, 61, 43, 45, 42, 60, 62, 33, 38, 124, 46, 63]⟩

def nextF (s : ByteArray) : Int × Int × Int :=
  if isLetter (byteAt s 0) then (if runF isPart s 0 > 20 then (0, 0, 3) else (1, runF isPart s 0, 0))
  else if isDigit (byteAt s 0) then (if runF isDigit s 0 > 9 then (0, 0, 3) else (2, runF isDigit s 0, 0))
  else if byteAt s 0 = 34 then (3, (quotedF s).1, (quotedF s).2)
  else if isPair s then (4, 2, 0)
  else if 0 ≤ firstIdx singles (byteAt s 0).toNat.toUInt8 then (4, 1, 0) else (0, 0, 2)

theorem nextC {s : ByteArray} (h0 : 0 < s.size) : Con Tryz.prog 185 [.str s] (.tup [.int .i64 (nextF s).1, .int .i64 (nextF s).2.1, .int .i64 (nextF s).2.2]) := by
  refine ConC.con (ent _ Tryz.func185 rfl rfl) (con_of_body env Tryz.func185 rfl (nt := 45) (rs := [.tmp 2, .tmp 3, .tmp 4]) rfl rfl (Nat.le_of_ble_eq_true rfl) fun hok => ?_)
  have hb : ((s.get! 0).toNat : Int) = byteAt s 0 := rfl
  repeat' (first | (first | (refine AWP.go env ?_; intro K fin; try simp +decide (maxSteps := 4000000) only [hb, go_sem, Nat.reduceAdd, Nat.reduceMul]) | refine Kt.h _ _ ?_ | refine Ft.k (by decide +kernel) ?_ | ((first | refine ⟨_, digitC, ?_⟩ | refine ⟨_, letterC, ?_⟩ | refine ⟨_, runC fun _ => partC, ?_⟩ | refine ⟨_, runC fun _ => digitC, ?_⟩ | refine ⟨_, quotedC h0, ?_⟩ | refine ⟨_, pairC, ?_⟩ | refine ⟨_, indexByteC (s := singles), ?_⟩); simp +decide (maxSteps := 4000000) only [hb, go_sem, Nat.reduceAdd, Nat.reduceMul])) | apply cond2_intro | with_reducible apply And.intro | intro h)
  all_goals first | omega | (unfold nextF; grind)

theorem toList_size (s : ByteArray) : s.toList.length = s.size := by rw [ByteArray.toList_eq]; try rfl

theorem beq_empty (s : ByteArray) : (s.toList == (⟨#[]⟩ : ByteArray).toList) = decide (s.size = 0) := by
  have h1 : (⟨#[]⟩ : ByteArray).toList = [] := by rw [ByteArray.toList_eq]
  rw [h1]
  have := toList_size s
  cases h : s.toList with
  | nil => rw [h] at this; simp at this; simp [← this]
  | cons x r => rw [h] at this; simp at this; simp [← this]

theorem wholeC {k l : Int} {s : ByteArray} (h0 : 0 < s.size) (hk : k ≠ 3) : Con Tryz.prog 107 [.agg [.int .i64 k, .str s, .int .i64 l]] (.tup [.str s, .bool (decide ((nextF s).2.2 = 0) && decide ((nextF s).1 = k) && decide ((nextF s).2.1 = s.size))]) := by
  refine ConC.con (ent _ Tryz.func107 rfl rfl) (con_of_body env Tryz.func107 rfl (nt := 39) (rs := [.tmp 2, .tmp 3]) rfl rfl (Nat.le_of_ble_eq_true rfl) fun hok => ?_)
  have hk' : (k == 3) = false := by simpa using hk
  have he : decide (s.size = 0) = false := by simp only [decide_eq_false_iff_not]; omega
  repeat' (first | (first | (refine AWP.go env ?_; intro K fin; try simp +decide (maxSteps := 4000000) only [hk', he, beq_empty, go_sem, Nat.reduceAdd, Nat.reduceMul]) | refine Kt.h _ _ ?_ | refine Ft.k (by decide +kernel) ?_ | ((first | refine ⟨_, digitC, ?_⟩ | refine ⟨_, letterC, ?_⟩ | refine ⟨_, runC fun _ => partC, ?_⟩ | refine ⟨_, runC fun _ => digitC, ?_⟩ | refine ⟨_, quotedC h0, ?_⟩ | refine ⟨_, pairC, ?_⟩ | refine ⟨_, indexByteC (s := singles), ?_⟩ | refine ⟨_, nextC h0, ?_⟩); simp +decide (maxSteps := 4000000) only [hk', he, beq_empty, go_sem, Nat.reduceAdd, Nat.reduceMul])) | apply cond2_intro | with_reducible apply And.intro | intro h)
  all_goals grind

theorem whole0C {k l : Int} {s : ByteArray} (h0 : s.size = 0) (hk : k ≠ 3) : Con Tryz.prog 107 [.agg [.int .i64 k, .str s, .int .i64 l]] (.tup [.str ⟨#[]⟩, .bool false]) := by
  refine ConC.con (ent _ Tryz.func107 rfl rfl) (con_of_body env Tryz.func107 rfl (nt := 39) (rs := [.tmp 2, .tmp 3]) rfl rfl (Nat.le_of_ble_eq_true rfl) fun hok => ?_)
  have hk' : (k == 3) = false := by simpa using hk
  repeat' (first | (first | (refine AWP.go env ?_; intro K fin; try simp +decide (maxSteps := 4000000) only [hk', beq_empty, h0, go_sem, Nat.reduceAdd, Nat.reduceMul]) | refine Kt.h _ _ ?_ | refine Ft.k (by decide +kernel) ?_ | ((first | refine ⟨_, digitC, ?_⟩ | refine ⟨_, letterC, ?_⟩ | refine ⟨_, runC fun _ => partC, ?_⟩ | refine ⟨_, runC fun _ => digitC, ?_⟩ | refine ⟨_, quotedC h0, ?_⟩ | refine ⟨_, pairC, ?_⟩ | refine ⟨_, indexByteC (s := singles), ?_⟩ | refine ⟨_, nextC h0, ?_⟩); simp +decide (maxSteps := 4000000) only [hk', beq_empty, h0, go_sem, Nat.reduceAdd, Nat.reduceMul])) | apply cond2_intro | with_reducible apply And.intro | intro h)

/-- What names are. -/
def isNameF (s : ByteArray) : Bool := decide (0 < s.size) && isLetter (byteAt s 0) && decide (runF isPart s 0 ≤ 20) && decide (runF isPart s 0 = s.size)

theorem isNameC {s : ByteArray} : Con Tryz.prog 47 [.str s] (.bool (isNameF s)) := by
  refine ConC.con (ent _ Tryz.func47 rfl rfl) (con_of_body env Tryz.func47 rfl (nt := 12) (rs := [.tmp 2]) rfl rfl (Nat.le_of_ble_eq_true rfl) fun hok => ?_)
  by_cases h0 : 0 < s.size
  · repeat (first | (refine AWP.go env ?_; intro K fin; try simp +decide (maxSteps := 4000000) only [go_sem, Nat.reduceAdd, Nat.reduceMul]) | refine Kt.h _ _ ?_ | refine Ft.k (by decide +kernel) ?_ | ((first | refine ⟨_, digitC, ?_⟩ | refine ⟨_, letterC, ?_⟩ | refine ⟨_, runC fun _ => partC, ?_⟩ | refine ⟨_, runC fun _ => digitC, ?_⟩ | refine ⟨_, quotedC h0, ?_⟩ | refine ⟨_, pairC, ?_⟩ | refine ⟨_, indexByteC (s := singles), ?_⟩ | refine ⟨_, nextC h0, ?_⟩); simp +decide (maxSteps := 4000000) only [go_sem, Nat.reduceAdd, Nat.reduceMul]))
    refine ⟨_, wholeC h0 (by decide), ?_⟩
    simp +decide (maxSteps := 4000000) only [go_sem, Nat.reduceAdd, Nat.reduceMul]
    repeat (first | (refine AWP.go env ?_; intro K fin; try simp +decide (maxSteps := 4000000) only [go_sem, Nat.reduceAdd, Nat.reduceMul]) | refine Kt.h _ _ ?_ | refine Ft.k (by decide +kernel) ?_ | ((first | refine ⟨_, digitC, ?_⟩ | refine ⟨_, letterC, ?_⟩ | refine ⟨_, runC fun _ => partC, ?_⟩ | refine ⟨_, runC fun _ => digitC, ?_⟩ | refine ⟨_, quotedC h0, ?_⟩ | refine ⟨_, pairC, ?_⟩ | refine ⟨_, indexByteC (s := singles), ?_⟩ | refine ⟨_, nextC h0, ?_⟩); simp +decide (maxSteps := 4000000) only [go_sem, Nat.reduceAdd, Nat.reduceMul]))
    unfold nextF isNameF
    grind
  · repeat (first | (refine AWP.go env ?_; intro K fin; try simp +decide (maxSteps := 4000000) only [go_sem, Nat.reduceAdd, Nat.reduceMul]) | refine Kt.h _ _ ?_ | refine Ft.k (by decide +kernel) ?_ | ((first | refine ⟨_, digitC, ?_⟩ | refine ⟨_, letterC, ?_⟩ | refine ⟨_, runC fun _ => partC, ?_⟩ | refine ⟨_, runC fun _ => digitC, ?_⟩ | refine ⟨_, quotedC h0, ?_⟩ | refine ⟨_, pairC, ?_⟩ | refine ⟨_, indexByteC (s := singles), ?_⟩ | refine ⟨_, nextC h0, ?_⟩); simp +decide (maxSteps := 4000000) only [go_sem, Nat.reduceAdd, Nat.reduceMul]))
    refine ⟨_, whole0C (by omega) (by decide), ?_⟩
    simp +decide (maxSteps := 4000000) only [go_sem, Nat.reduceAdd, Nat.reduceMul]
    repeat (first | (refine AWP.go env ?_; intro K fin; try simp +decide (maxSteps := 4000000) only [go_sem, Nat.reduceAdd, Nat.reduceMul]) | refine Kt.h _ _ ?_ | refine Ft.k (by decide +kernel) ?_ | ((first | refine ⟨_, digitC, ?_⟩ | refine ⟨_, letterC, ?_⟩ | refine ⟨_, runC fun _ => partC, ?_⟩ | refine ⟨_, runC fun _ => digitC, ?_⟩ | refine ⟨_, quotedC h0, ?_⟩ | refine ⟨_, pairC, ?_⟩ | refine ⟨_, indexByteC (s := singles), ?_⟩ | refine ⟨_, nextC h0, ?_⟩); simp +decide (maxSteps := 4000000) only [go_sem, Nat.reduceAdd, Nat.reduceMul]))
    simp [isNameF, h0]

end Go.Abs
/- The tokens of the specification. -/
set_option linter.unusedSimpArgs false
set_option linter.unusedVariables false
set_option maxRecDepth 20000
set_option maxHeartbeats 2000000
namespace Go.Abs
open Go Go.RowKit Go.Proofs
attribute [local irreducible] Con AWP

theorem rDigitC {c : Int} : Con Tryz.prog 263 [.int .u8 c] (.bool (isDigit c)) := by
  refine ConC.con (ent _ Tryz.func263 rfl rfl) (con_of_body env Tryz.func263 rfl (nt := 9) (rs := [.tmp 2]) rfl rfl (Nat.le_of_ble_eq_true rfl) fun hok => ?_)
  unfold isDigit
  repeat' (first | (first | (refine AWP.go env ?_; intro K fin; try simp +decide (maxSteps := 4000000) only [go_sem, Nat.reduceAdd, Nat.reduceMul]) | refine Kt.h _ _ ?_ | refine Ft.k (by decide +kernel) ?_) | apply cond2_intro | with_reducible apply And.intro | intro h)
  all_goals grind

theorem rLetterC {c : Int} : Con Tryz.prog 262 [.int .u8 c] (.bool (isLetter c)) := by
  refine ConC.con (ent _ Tryz.func262 rfl rfl) (con_of_body env Tryz.func262 rfl (nt := 17) (rs := [.tmp 2]) rfl rfl (Nat.le_of_ble_eq_true rfl) fun hok => ?_)
  unfold isLetter
  repeat' (first | (first | (refine AWP.go env ?_; intro K fin; try simp +decide (maxSteps := 4000000) only [go_sem, Nat.reduceAdd, Nat.reduceMul]) | refine Kt.h _ _ ?_ | refine Ft.k (by decide +kernel) ?_) | apply cond2_intro | with_reducible apply And.intro | intro h)
  all_goals grind

def runP (d : Bool) (c : Int) : Bool := isDigit c || (!d && (isLetter c || c == 95))

theorem rRunC {s : ByteArray} {at' : Int} {d : Bool} (h0 : 0 ≤ at') (h1 : at' ≤ s.size) : Con Tryz.prog 264 [.str s, .int .i64 at', .bool d] (.int .i64 (runF (runP d) s at'.toNat - at')) := by
  refine ConC.con (ent _ Tryz.func264 rfl rfl) (con_of_body env Tryz.func264 rfl (nt := 45) (rs := [.tmp 6]) rfl rfl (Nat.le_of_ble_eq_true rfl) fun hok => ?_)
  have hs := (hok _ (List.mem_cons_self ..)).size
  obtain ⟨at', rfl⟩ := Int.eq_ofNat_of_zero_le h0
  repeat (first | (refine AWP.go env ?_; intro K fin; try simp +decide (maxSteps := 4000000) only [go_sem, Nat.reduceAdd, Nat.reduceMul]) | refine Kt.h _ _ ?_ | refine Ft.k (by decide +kernel) ?_ | ((first | refine ⟨_, rDigitC, ?_⟩ | refine ⟨_, rLetterC, ?_⟩); simp +decide (maxSteps := 4000000) only [go_sem, Nat.reduceAdd, Nat.reduceMul]))
  refine AWP.lp (α := { n : Nat // runF (runP d) s (at' + n) = runF (runP d) s at' ∧ at' + n ≤ s.size }) (fun x => ⟨45, [(0, .str s), (1, .int .i64 at'), (2, .bool d), (7, .int .i64 x.1)], []⟩) (fun x => s.size - x.1) ⟨0, rfl, by omega⟩ (by simp +decide (maxSteps := 4000000) only [go_sem, Nat.reduceAdd, Nat.reduceMul]; try simp) fun x K => ?_
  obtain ⟨n, hn, hle⟩ := x
  have hw : IntKind.i64.wrap ((at' : Int) + n) = ((at' + n : Nat) : Int) := by rw [wrap64 (by omega) (by omega)]; try rfl
  have hw2 : IntKind.i64.wrap ((n : Int) + 1) = ((n + 1 : Nat) : Int) := by rw [wrap64 (by omega) (by omega)]; try rfl
  have hb : ((s.get! (at' + n)).toNat : Int) = byteAt s (at' + n) := rfl
  repeat' (first | (first | (refine AWP.go env ?_; intro K fin; try simp +decide (maxSteps := 4000000) only [hw, hw2, hb, go_sem, Nat.reduceAdd, Nat.reduceMul]) | refine Kt.h _ _ ?_ | refine Ft.k (by decide +kernel) ?_ | ((first | refine ⟨_, rDigitC, ?_⟩ | refine ⟨_, rLetterC, ?_⟩); simp +decide (maxSteps := 4000000) only [hw, hw2, hb, go_sem, Nat.reduceAdd, Nat.reduceMul])) | apply cond2_intro | with_reducible apply And.intro | intro h)
  all_goals try simp only [decide_eq_true_eq, decide_eq_false_iff_not] at *
  all_goals try omega
  all_goals first
    | (have h3 : at' + n < s.size := by omega
       have h2 : runP d (byteAt s (at' + n)) = true := by unfold runP; grind only
       refine ⟨⟨n + 1, ?_, h3⟩, by simp; omega, ?_⟩
       · rw [← hn, runF_step h3 h2]; try rfl
       · simp +decide (maxSteps := 4000000) only [go_sem, Nat.reduceAdd, Nat.reduceMul])
    | (rw [← hn, runF_stop fun h => ?_]
       · omega
       · have h3 := h.2
         unfold runP at h3; grind only)
    | (rw [← hn, runF_stop (by omega)]; omega)

def signs25 : List ByteArray := [⟨#[45, 62]⟩, ⟨#[60, 61]⟩, ⟨#[62, 61]⟩, ⟨#[61, 61]⟩, ⟨#[33, 61]⟩, ⟨#[123]⟩, ⟨#[125]⟩, ⟨#[40]⟩, ⟨#[41]⟩, ⟨#[91]⟩, ⟨#[93]⟩, ⟨#[44]⟩, ⟨#[59]⟩, ⟨#[58]⟩, ⟨#[61]⟩, ⟨#[43]⟩, ⟨#[45]⟩, ⟨#[42]⟩, ⟨#[60]⟩, ⟨#[62]⟩, ⟨#[33]⟩, ⟨#[38]⟩, ⟨#[124]⟩, ⟨#[46]⟩, ⟨#[63]⟩]

end Go.Abs
