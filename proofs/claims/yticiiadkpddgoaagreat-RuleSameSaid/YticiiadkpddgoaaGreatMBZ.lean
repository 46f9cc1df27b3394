/- What all claims of this seat have in common. -/
import Derived.Test.YticiiadkpddgoaaGreatMB4
/- Keep and Into. -/
set_option linter.unusedSimpArgs false
set_option linter.unusedVariables false
set_option maxRecDepth 20000
set_option maxHeartbeats 4000000
set_option linter.unusedSimpArgs false
set_option linter.unusedVariables false
namespace Go.Abs
open Go Go.RowKit Go.Proofs
attribute [local irreducible] Con AWP

def spanF (r : Rul) : Int := if subF r.left.graph r.keep ≠ 0 then subF r.left.graph r.keep else morF (extractF r.left.graph r.keep) r.right.graph r.into
def keptF (r : Rul) : Int := if spanF r ≠ 0 then spanF r else if (distF r.into.nodes && distF r.into.edges) = true then 0 else 11

theorem spanF_ok {r : Rul} (h : spanF r = 0) : subF r.left.graph r.keep = 0 ∧ morF (extractF r.left.graph r.keep) r.right.graph r.into = 0 := by
  unfold spanF at h
  split at h
  · rename_i h1; exact absurd h h1
  · rename_i h1; exact ⟨by simpa using h1, h⟩

theorem keptC {r : Rul} : Con Tryz.prog 50 [dRule r] (.int .i64 (keptF r)) := by
  by_cases h1 : subF r.left.graph r.keep = 0
  case neg =>
    have hx := extErrC h1
    have q : (subF r.left.graph r.keep != 0) = true := by simpa using h1
    have hF : keptF r = subF r.left.graph r.keep := by unfold keptF spanF; simp [h1]
    refine ConC.con (ent _ Tryz.func50 rfl rfl) (con_of_body env Tryz.func50 rfl (nt := 38) (rs := [.tmp 2]) rfl rfl (Nat.le_of_ble_eq_true rfl) fun hok => ?_)
    repeat' (first | (first | (refine AWP.go env ?_; intro K fin; try simp +decide (maxSteps := 4000000) only [q, hF, go_sem, Nat.reduceAdd, Nat.reduceMul]) | refine Kt.h _ _ ?_ | refine Ft.k (by decide +kernel) ?_ | ((first | refine ⟨_, hx, ?_⟩ | refine ⟨_, morC, ?_⟩ | refine ⟨_, injC, ?_⟩); simp +decide (maxSteps := 4000000) only [q, hF, go_sem, Nat.reduceAdd, Nat.reduceMul])) | apply cond2_intro | with_reducible apply And.intro | intro h)
  have hx := extOkC h1
  have q00 : ((0 : Int) != 0) = false := rfl
  by_cases h2 : morF (extractF r.left.graph r.keep) r.right.graph r.into = 0
  case neg =>
    have q : (morF (extractF r.left.graph r.keep) r.right.graph r.into != 0) = true := by simpa using h2
    have hF : keptF r = morF (extractF r.left.graph r.keep) r.right.graph r.into := by unfold keptF spanF; simp [h1, h2]
    refine ConC.con (ent _ Tryz.func50 rfl rfl) (con_of_body env Tryz.func50 rfl (nt := 38) (rs := [.tmp 2]) rfl rfl (Nat.le_of_ble_eq_true rfl) fun hok => ?_)
    repeat' (first | (first | (refine AWP.go env ?_; intro K fin; try simp +decide (maxSteps := 4000000) only [q, hF, q00, go_sem, Nat.reduceAdd, Nat.reduceMul]) | refine Kt.h _ _ ?_ | refine Ft.k (by decide +kernel) ?_ | ((first | refine ⟨_, hx, ?_⟩ | refine ⟨_, morC, ?_⟩ | refine ⟨_, injC, ?_⟩); simp +decide (maxSteps := 4000000) only [q, hF, q00, go_sem, Nat.reduceAdd, Nat.reduceMul])) | apply cond2_intro | with_reducible apply And.intro | intro h)
  have q : (morF (extractF r.left.graph r.keep) r.right.graph r.into != 0) = false := by simpa using h2
  have hi : injF (extractF r.left.graph r.keep) r.right.graph r.into = (distF r.into.nodes && distF r.into.edges) := by unfold injF; simp [h2]
  refine ConC.con (ent _ Tryz.func50 rfl rfl) (con_of_body env Tryz.func50 rfl (nt := 38) (rs := [.tmp 2]) rfl rfl (Nat.le_of_ble_eq_true rfl) fun hok => ?_)
  repeat' (first | (first | (refine AWP.go env ?_; intro K fin; try simp +decide (maxSteps := 4000000) only [q, hi, q00, go_sem, Nat.reduceAdd, Nat.reduceMul]) | refine Kt.h _ _ ?_ | refine Ft.k (by decide +kernel) ?_ | ((first | refine ⟨_, hx, ?_⟩ | refine ⟨_, morC, ?_⟩ | refine ⟨_, injC, ?_⟩); simp +decide (maxSteps := 4000000) only [q, hi, q00, go_sem, Nat.reduceAdd, Nat.reduceMul])) | apply cond2_intro | with_reducible apply And.intro | intro h)
  all_goals (unfold keptF spanF; simp_all)

theorem spanC {r : Rul} : Con Tryz.prog 58 [dRule r] (.int .i64 (spanF r)) := by
  by_cases h1 : subF r.left.graph r.keep = 0
  case neg =>
    have hx := rExtErrC h1
    have q : (subF r.left.graph r.keep != 0) = true := by simpa using h1
    have hF : spanF r = subF r.left.graph r.keep := by unfold spanF; simp [h1]
    refine ConC.con (ent _ Tryz.func58 rfl rfl) (con_of_body env Tryz.func58 rfl (nt := 33) (rs := [.tmp 2]) rfl rfl (Nat.le_of_ble_eq_true rfl) fun hok => ?_)
    repeat' (first | (first | (refine AWP.go env ?_; intro K fin; try simp +decide (maxSteps := 4000000) only [q, hF, go_sem, Nat.reduceAdd, Nat.reduceMul]) | refine Kt.h _ _ ?_ | refine Ft.k (by decide +kernel) ?_ | ((first | refine ⟨_, hx, ?_⟩ | refine ⟨_, morC, ?_⟩ | refine ⟨_, injC, ?_⟩ | refine ⟨_, hx, ?_⟩ | refine ⟨_, rSubC, ?_⟩ | refine ⟨_, rMorC, ?_⟩); simp +decide (maxSteps := 4000000) only [q, hF, go_sem, Nat.reduceAdd, Nat.reduceMul])) | apply cond2_intro | with_reducible apply And.intro | intro h)
  have hx := rExtOkC h1
  have q : (subF r.left.graph r.keep != 0) = false := by simpa using h1
  have hF : spanF r = morF (extractF r.left.graph r.keep) r.right.graph r.into := by unfold spanF; simp [h1]
  refine ConC.con (ent _ Tryz.func58 rfl rfl) (con_of_body env Tryz.func58 rfl (nt := 33) (rs := [.tmp 2]) rfl rfl (Nat.le_of_ble_eq_true rfl) fun hok => ?_)
  repeat' (first | (first | (refine AWP.go env ?_; intro K fin; try simp +decide (maxSteps := 4000000) only [q, hF, go_sem, Nat.reduceAdd, Nat.reduceMul]) | refine Kt.h _ _ ?_ | refine Ft.k (by decide +kernel) ?_ | ((first | refine ⟨_, hx, ?_⟩ | refine ⟨_, morC, ?_⟩ | refine ⟨_, injC, ?_⟩ | refine ⟨_, hx, ?_⟩ | refine ⟨_, rSubC, ?_⟩ | refine ⟨_, rMorC, ?_⟩); simp +decide (maxSteps := 4000000) only [q, hF, go_sem, Nat.reduceAdd, Nat.reduceMul])) | apply cond2_intro | with_reducible apply And.intro | intro h)
end Go.Abs
/- The form of conditions. -/
set_option linter.unusedSimpArgs false
set_option linter.unusedVariables false
set_option maxRecDepth 20000
set_option maxHeartbeats 4000000
namespace Go.Abs
open Go Go.RowKit Go.Proofs
attribute [local irreducible] Con AWP

abbrev dCond (c : Cond) : D := .agg (rCond c)

theorem DOk.mem {cs : List D} {d : D} (h : DOk (.agg cs)) (hm : d ∈ cs) : DOk d := by cases h with | agg _ h => exact h d hm

def sizes (c : Cond) : Nat := c.map.nodes.length + c.map.edges.length + c.patt.graph.nodes.length + c.patt.graph.edges.length + c.patt.slots.length + c.patt.tests.length

def bareF (c : Cond) : Bool := decide (sizes c = 0) && c.patt.vars == 0

theorem rCond_lens {c : Cond} (h : DOk (dCond c)) : c.kids.length ≤ 140737488355328 ∧ c.map.nodes.length ≤ 140737488355328 ∧ c.map.edges.length ≤ 140737488355328 ∧ c.patt.graph.nodes.length ≤ 140737488355328 ∧ c.patt.graph.edges.length ≤ 140737488355328 ∧ c.patt.slots.length ≤ 140737488355328 ∧ c.patt.tests.length ≤ 140737488355328 := by
  have e1 : DOk (.fsl 9 (c.kids.map Cond.row)) := h.mem (by simp [rCond])
  have e2 : DOk (dInts c.map.nodes) := h.mem (by simp [rCond])
  have e3 : DOk (dInts c.map.edges) := h.mem (by simp [rCond])
  have e4 : DOk (dInts c.patt.graph.nodes) := h.mem (by simp [rCond])
  have e5 : DOk (.fsl 3 (c.patt.graph.edges.map rEdge)) := h.mem (by simp [rCond])
  have e6 : DOk (.fsl 4 (c.patt.slots.map rSlot)) := h.mem (by simp [rCond])
  have e7 : DOk (.fsl 5 (c.patt.tests.map rTest)) := h.mem (by simp [rCond])
  exact ⟨by simpa using e1.len, by simpa using e2.len, by simpa using e3.len, by simpa using e4.len, by simpa using e5.len, by simpa using e6.len, by simpa using e7.len⟩

theorem wadd {a b : Nat} (h : a + b ≤ 4611686018427387904) : IntKind.i64.wrap ((a : Int) + (b : Int)) = ((a + b : Nat) : Int) := by rw [wrap64 (by omega) (by omega)]; try rfl

theorem bareC {c : Cond} : Con Tryz.prog 257 [dCond c] (.bool (bareF c)) := by
  refine ConC.con (ent _ Tryz.func257 rfl rfl) (con_of_body env Tryz.func257 rfl (nt := 39) (rs := [.tmp 2]) rfl rfl (Nat.le_of_ble_eq_true rfl) fun hok => ?_)
  obtain ⟨l0, l1, l2, l3, l4, l5, l6⟩ := rCond_lens (hok (dCond c) (by simp))
  have w1 := wadd (a := c.map.nodes.length) (b := c.map.edges.length) (by omega)
  have w2 := wadd (a := c.map.nodes.length + c.map.edges.length) (b := c.patt.graph.nodes.length) (by omega)
  have w3 := wadd (a := c.map.nodes.length + c.map.edges.length + c.patt.graph.nodes.length) (b := c.patt.graph.edges.length) (by omega)
  have w4 := wadd (a := c.map.nodes.length + c.map.edges.length + c.patt.graph.nodes.length + c.patt.graph.edges.length) (b := c.patt.slots.length) (by omega)
  have w5 := wadd (a := c.map.nodes.length + c.map.edges.length + c.patt.graph.nodes.length + c.patt.graph.edges.length + c.patt.slots.length) (b := c.patt.tests.length) (by omega)
  by_cases hs : sizes c = 0
  · have hs' := hs
    unfold sizes at hs'
    have e : (((c.map.nodes.length + c.map.edges.length + c.patt.graph.nodes.length + c.patt.graph.edges.length + c.patt.slots.length + c.patt.tests.length : Nat) : Int) == 0) = true := by rw [hs']; try rfl
    repeat' (first | (first | (refine AWP.go env ?_; intro K fin; try simp +decide (maxSteps := 4000000) only [w1, w2, w3, w4, w5, e, rCond, go_sem, Nat.reduceAdd, Nat.reduceMul]) | refine Kt.h _ _ ?_ | refine Ft.k (by decide +kernel) ?_) | apply cond2_intro | with_reducible apply And.intro | intro h)
    all_goals try (simp only [List.mem_cons, List.not_mem_nil, or_false] at h; (repeat' (first | (subst h; rfl) | rcases h with h | h)))
    all_goals (unfold bareF; simp [hs])
  · have hs' := hs
    unfold sizes at hs'
    have e : (((c.map.nodes.length + c.map.edges.length + c.patt.graph.nodes.length + c.patt.graph.edges.length + c.patt.slots.length + c.patt.tests.length : Nat) : Int) == 0) = false := by rw [beq_eq_false_iff_ne]; omega
    repeat' (first | (first | (refine AWP.go env ?_; intro K fin; try simp +decide (maxSteps := 4000000) only [w1, w2, w3, w4, w5, e, rCond, go_sem, Nat.reduceAdd, Nat.reduceMul]) | refine Kt.h _ _ ?_ | refine Ft.k (by decide +kernel) ?_) | apply cond2_intro | with_reducible apply And.intro | intro h)
    all_goals try (simp only [List.mem_cons, List.not_mem_nil, or_false] at h; (repeat' (first | (subst h; rfl) | rcases h with h | h)))
    all_goals (unfold bareF; simp [hs])

theorem unusedC {c : Cond} : Con Tryz.prog 291 [dCond c] (.bool (bareF c)) := by
  refine ConC.con (ent _ Tryz.func291 rfl rfl) (con_of_body env Tryz.func291 rfl (nt := 45) (rs := [.tmp 2]) rfl rfl (Nat.le_of_ble_eq_true rfl) fun hok => ?_)
  obtain ⟨l0, l1, l2, l3, l4, l5, l6⟩ := rCond_lens (hok (dCond c) (by simp))
  have w1 := wadd (a := c.map.nodes.length) (b := c.map.edges.length) (by omega)
  have w2 := wadd (a := c.map.nodes.length + c.map.edges.length) (b := c.patt.graph.nodes.length) (by omega)
  have w3 := wadd (a := c.map.nodes.length + c.map.edges.length + c.patt.graph.nodes.length) (b := c.patt.graph.edges.length) (by omega)
  have w4 := wadd (a := c.patt.slots.length) (b := c.patt.tests.length) (by omega)
  by_cases hs : c.map.nodes.length + c.map.edges.length + c.patt.graph.nodes.length + c.patt.graph.edges.length = 0
  · have e : (((c.map.nodes.length + c.map.edges.length + c.patt.graph.nodes.length + c.patt.graph.edges.length : Nat) : Int) == 0) = true := by rw [hs]; try rfl
    by_cases hs2 : c.patt.slots.length + c.patt.tests.length = 0
    · have e2 : (((c.patt.slots.length + c.patt.tests.length : Nat) : Int) == 0) = true := by rw [hs2]; try rfl
      have hz : sizes c = 0 := by unfold sizes; omega
      repeat' (first | (first | (refine AWP.go env ?_; intro K fin; try simp +decide (maxSteps := 4000000) only [w1, w2, w3, w4, e, e2, rCond, go_sem, Nat.reduceAdd, Nat.reduceMul]) | refine Kt.h _ _ ?_ | refine Ft.k (by decide +kernel) ?_) | apply cond2_intro | with_reducible apply And.intro | intro h)
      all_goals (unfold bareF; simp [hz])
    · have e2 : (((c.patt.slots.length + c.patt.tests.length : Nat) : Int) == 0) = false := by rw [beq_eq_false_iff_ne]; omega
      have hz : sizes c ≠ 0 := by unfold sizes; omega
      repeat' (first | (first | (refine AWP.go env ?_; intro K fin; try simp +decide (maxSteps := 4000000) only [w1, w2, w3, w4, e, e2, rCond, go_sem, Nat.reduceAdd, Nat.reduceMul]) | refine Kt.h _ _ ?_ | refine Ft.k (by decide +kernel) ?_) | apply cond2_intro | with_reducible apply And.intro | intro h)
      all_goals (unfold bareF; simp [hz])
  · have e : (((c.map.nodes.length + c.map.edges.length + c.patt.graph.nodes.length + c.patt.graph.edges.length : Nat) : Int) == 0) = false := by rw [beq_eq_false_iff_ne]; omega
    have hz : sizes c ≠ 0 := by unfold sizes; omega
    repeat' (first | (first | (refine AWP.go env ?_; intro K fin; try simp +decide (maxSteps := 4000000) only [w1, w2, w3, w4, e, rCond, go_sem, Nat.reduceAdd, Nat.reduceMul]) | refine Kt.h _ _ ?_ | refine Ft.k (by decide +kernel) ?_) | apply cond2_intro | with_reducible apply And.intro | intro h)
    all_goals (unfold bareF; simp [hz])

def oneOk (c : Cond) : Bool :=
  if c.kind = 1 then decide (c.kids.length = 0) && bareF c else if c.kind = 2 then decide (c.kids.length = 1) && bareF c
  else if c.kind = 3 ∨ c.kind = 4 then decide (1 ≤ c.kids.length) && bareF c else if c.kind = 5 then decide (c.kids.length = 1) else false

mutual
def wellF : Cond → Bool
  | .mk k kids m p => oneOk (.mk k kids m p) && wellL kids
def wellL : List Cond → Bool
  | [] => true
  | c :: r => wellF c && wellL r
end

theorem wellL_eq : ∀ l : List Cond, wellL l = l.all wellF
  | [] => rfl
  | c :: r => by rw [wellL, wellL_eq r, List.all_cons]

theorem wellF_eq (c : Cond) : wellF c = (oneOk c && c.kids.all wellF) := by
  cases c; rw [wellF, wellL_eq]; try rfl

theorem kid_lt {c x : Cond} (h : x ∈ c.kids) : SizeOf.sizeOf x < SizeOf.sizeOf c := by
  cases c with
  | mk k kids m p =>
    have := List.sizeOf_lt_of_mem (show x ∈ kids from h)
    simp only [Cond.mk.sizeOf_spec]; omega

theorem rOneOkC {c : Cond} : Con Tryz.prog 270 [dCond c] (.bool (oneOk c)) := by
  by_cases k1 : c.kind = 1
  · have e1 : (c.kind == 1) = true := by simp [k1]
    refine ConC.con (ent _ Tryz.func270 rfl rfl) (con_of_body env Tryz.func270 rfl (nt := 42) (rs := [.tmp 2]) rfl rfl (Nat.le_of_ble_eq_true rfl) fun hok => ?_)
    repeat' (first | (first | (refine AWP.go env ?_; intro K fin; try simp +decide (maxSteps := 4000000) only [e1, rCond, go_sem, Nat.reduceAdd, Nat.reduceMul]) | refine Kt.h _ _ ?_ | refine Ft.k (by decide +kernel) ?_ | (refine ⟨_, unusedC, ?_⟩; simp +decide (maxSteps := 4000000) only [e1, rCond, go_sem, Nat.reduceAdd, Nat.reduceMul])) | apply cond2_intro | with_reducible apply And.intro | intro h)
    all_goals (unfold oneOk; rw [if_pos k1]; grind)
  have e1 : (c.kind == 1) = false := by simp [k1]
  by_cases k2 : c.kind = 2
  · have e2 : (c.kind == 2) = true := by simp [k2]
    refine ConC.con (ent _ Tryz.func270 rfl rfl) (con_of_body env Tryz.func270 rfl (nt := 42) (rs := [.tmp 2]) rfl rfl (Nat.le_of_ble_eq_true rfl) fun hok => ?_)
    repeat' (first | (first | (refine AWP.go env ?_; intro K fin; try simp +decide (maxSteps := 4000000) only [e1, e2, rCond, go_sem, Nat.reduceAdd, Nat.reduceMul]) | refine Kt.h _ _ ?_ | refine Ft.k (by decide +kernel) ?_ | (refine ⟨_, unusedC, ?_⟩; simp +decide (maxSteps := 4000000) only [e1, e2, rCond, go_sem, Nat.reduceAdd, Nat.reduceMul])) | apply cond2_intro | with_reducible apply And.intro | intro h)
    all_goals (unfold oneOk; rw [if_neg k1, if_pos k2]; grind)
  have e2 : (c.kind == 2) = false := by simp [k2]
  by_cases k3 : c.kind = 3
  · have e3 : (c.kind == 3) = true := by simp [k3]
    refine ConC.con (ent _ Tryz.func270 rfl rfl) (con_of_body env Tryz.func270 rfl (nt := 42) (rs := [.tmp 2]) rfl rfl (Nat.le_of_ble_eq_true rfl) fun hok => ?_)
    repeat' (first | (first | (refine AWP.go env ?_; intro K fin; try simp +decide (maxSteps := 4000000) only [e1, e2, e3, rCond, go_sem, Nat.reduceAdd, Nat.reduceMul]) | refine Kt.h _ _ ?_ | refine Ft.k (by decide +kernel) ?_ | (refine ⟨_, unusedC, ?_⟩; simp +decide (maxSteps := 4000000) only [e1, e2, e3, rCond, go_sem, Nat.reduceAdd, Nat.reduceMul])) | apply cond2_intro | with_reducible apply And.intro | intro h)
    all_goals (unfold oneOk; rw [if_neg k1, if_neg k2, if_pos (.inl k3)]; grind)
  have e3 : (c.kind == 3) = false := by simp [k3]
  by_cases k4 : c.kind = 4
  · have e4 : (c.kind == 4) = true := by simp [k4]
    refine ConC.con (ent _ Tryz.func270 rfl rfl) (con_of_body env Tryz.func270 rfl (nt := 42) (rs := [.tmp 2]) rfl rfl (Nat.le_of_ble_eq_true rfl) fun hok => ?_)
    repeat' (first | (first | (refine AWP.go env ?_; intro K fin; try simp +decide (maxSteps := 4000000) only [e1, e2, e3, e4, rCond, go_sem, Nat.reduceAdd, Nat.reduceMul]) | refine Kt.h _ _ ?_ | refine Ft.k (by decide +kernel) ?_ | (refine ⟨_, unusedC, ?_⟩; simp +decide (maxSteps := 4000000) only [e1, e2, e3, e4, rCond, go_sem, Nat.reduceAdd, Nat.reduceMul])) | apply cond2_intro | with_reducible apply And.intro | intro h)
    all_goals (unfold oneOk; rw [if_neg k1, if_neg k2, if_pos (.inr k4)]; grind)
  have e4 : (c.kind == 4) = false := by simp [k4]
  by_cases k5 : c.kind = 5
  · have e5 : (c.kind == 5) = true := by simp [k5]
    refine ConC.con (ent _ Tryz.func270 rfl rfl) (con_of_body env Tryz.func270 rfl (nt := 42) (rs := [.tmp 2]) rfl rfl (Nat.le_of_ble_eq_true rfl) fun hok => ?_)
    repeat' (first | (first | (refine AWP.go env ?_; intro K fin; try simp +decide (maxSteps := 4000000) only [e1, e2, e3, e4, e5, rCond, go_sem, Nat.reduceAdd, Nat.reduceMul]) | refine Kt.h _ _ ?_ | refine Ft.k (by decide +kernel) ?_ | (refine ⟨_, unusedC, ?_⟩; simp +decide (maxSteps := 4000000) only [e1, e2, e3, e4, e5, rCond, go_sem, Nat.reduceAdd, Nat.reduceMul])) | apply cond2_intro | with_reducible apply And.intro | intro h)
    all_goals (unfold oneOk; rw [if_neg k1, if_neg k2, if_neg (by simp [k3, k4]), if_pos k5]; grind)
  have e5 : (c.kind == 5) = false := by simp [k5]
  refine ConC.con (ent _ Tryz.func270 rfl rfl) (con_of_body env Tryz.func270 rfl (nt := 42) (rs := [.tmp 2]) rfl rfl (Nat.le_of_ble_eq_true rfl) fun hok => ?_)
  repeat' (first | (first | (refine AWP.go env ?_; intro K fin; try simp +decide (maxSteps := 4000000) only [e1, e2, e3, e4, e5, rCond, go_sem, Nat.reduceAdd, Nat.reduceMul]) | refine Kt.h _ _ ?_ | refine Ft.k (by decide +kernel) ?_ | (refine ⟨_, unusedC, ?_⟩; simp +decide (maxSteps := 4000000) only [e1, e2, e3, e4, e5, rCond, go_sem, Nat.reduceAdd, Nat.reduceMul])) | apply cond2_intro | with_reducible apply And.intro | intro h)
  all_goals (unfold oneOk; rw [if_neg k1, if_neg k2, if_neg (by simp [k3, k4]), if_neg k5])
end Go.Abs
/- The form of conditions, all in one; size and depth. -/
set_option linter.unusedSimpArgs false
set_option linter.unusedVariables false
set_option maxRecDepth 20000
set_option maxHeartbeats 4000000
namespace Go.Abs
open Go Go.RowKit Go.Proofs
attribute [local irreducible] Con AWP

theorem wellKidC {c : Cond} (h : Con Tryz.prog 199 [dCond c] (.bool (wellF c))) : Con Tryz.prog 259 [dCond c] (.bool (!wellF c)) := by
  refine ConC.con (ent _ Tryz.func259 rfl rfl) (con_of_body env Tryz.func259 rfl (nt := 6) (rs := [.tmp 2]) rfl rfl (Nat.le_of_ble_eq_true rfl) fun hok => ?_)
  repeat' (first | (first | (refine AWP.go env ?_; intro K fin; try simp +decide (maxSteps := 4000000) only [rCond, go_sem, Nat.reduceAdd, Nat.reduceMul]) | refine Kt.h _ _ ?_ | refine Ft.k (by decide +kernel) ?_ | (refine ⟨_, h, ?_⟩; simp +decide (maxSteps := 4000000) only [rCond, go_sem, Nat.reduceAdd, Nat.reduceMul])) | apply cond2_intro | with_reducible apply And.intro | intro h)

theorem wellStepC {c : Cond} (ih : ∀ x ∈ c.kids, Con Tryz.prog 199 [dCond x] (.bool (wellF x))) : Con Tryz.prog 199 [dCond c] (.bool (wellF c)) := by
  have hw := wellF_eq c
  have hna := not_all wellF c.kids
  by_cases k1 : c.kind = 1
  · have e1 : (c.kind == 1) = true := by simp [k1]
    have ho : oneOk c = (decide (c.kids.length = 0) && bareF c) := by unfold oneOk; rw [if_pos k1]
    refine ConC.con (ent _ Tryz.func199 rfl rfl) (con_of_body env Tryz.func199 rfl (nt := 46) (rs := [.tmp 2]) rfl rfl (Nat.le_of_ble_eq_true rfl) fun hok => ?_)
    repeat' (first | (first | (refine AWP.go env ?_; intro K fin; try simp +decide (maxSteps := 4000000) only [e1, rCond, hna, go_sem, Nat.reduceAdd, Nat.reduceMul]) | refine Kt.h _ _ ?_ | refine Ft.k (by decide +kernel) ?_ | ((first | refine ⟨_, h, ?_⟩ | refine ⟨_, bareC, ?_⟩ | refine ⟨_, contFuncConditionC (caps := []) (p := fun x => !wellF x) (xs := c.kids) (fun _ => rfl) (fun _ => rfl) (fun _ => rfl) (fun x hx => wellKidC (ih x hx)), ?_⟩); simp +decide (maxSteps := 4000000) only [e1, rCond, hna, go_sem, Nat.reduceAdd, Nat.reduceMul])) | apply cond2_intro | with_reducible apply And.intro | intro h)
    all_goals (rw [hw, ho]; grind)
  have e1 : (c.kind == 1) = false := by simp [k1]
  by_cases k2 : c.kind = 2
  · have e2 : (c.kind == 2) = true := by simp [k2]
    have ho : oneOk c = (decide (c.kids.length = 1) && bareF c) := by unfold oneOk; rw [if_neg k1, if_pos k2]
    refine ConC.con (ent _ Tryz.func199 rfl rfl) (con_of_body env Tryz.func199 rfl (nt := 46) (rs := [.tmp 2]) rfl rfl (Nat.le_of_ble_eq_true rfl) fun hok => ?_)
    repeat' (first | (first | (refine AWP.go env ?_; intro K fin; try simp +decide (maxSteps := 4000000) only [e1, e2, rCond, hna, go_sem, Nat.reduceAdd, Nat.reduceMul]) | refine Kt.h _ _ ?_ | refine Ft.k (by decide +kernel) ?_ | ((first | refine ⟨_, h, ?_⟩ | refine ⟨_, bareC, ?_⟩ | refine ⟨_, contFuncConditionC (caps := []) (p := fun x => !wellF x) (xs := c.kids) (fun _ => rfl) (fun _ => rfl) (fun _ => rfl) (fun x hx => wellKidC (ih x hx)), ?_⟩); simp +decide (maxSteps := 4000000) only [e1, e2, rCond, hna, go_sem, Nat.reduceAdd, Nat.reduceMul])) | apply cond2_intro | with_reducible apply And.intro | intro h)
    all_goals (rw [hw, ho]; grind)
  have e2 : (c.kind == 2) = false := by simp [k2]
  by_cases k3 : c.kind = 3
  · have e3 : (c.kind == 3) = true := by simp [k3]
    have ho : oneOk c = (decide (1 ≤ c.kids.length) && bareF c) := by unfold oneOk; rw [if_neg k1, if_neg k2, if_pos (.inl k3)]
    refine ConC.con (ent _ Tryz.func199 rfl rfl) (con_of_body env Tryz.func199 rfl (nt := 46) (rs := [.tmp 2]) rfl rfl (Nat.le_of_ble_eq_true rfl) fun hok => ?_)
    repeat' (first | (first | (refine AWP.go env ?_; intro K fin; try simp +decide (maxSteps := 4000000) only [e1, e2, e3, rCond, hna, go_sem, Nat.reduceAdd, Nat.reduceMul]) | refine Kt.h _ _ ?_ | refine Ft.k (by decide +kernel) ?_ | ((first | refine ⟨_, h, ?_⟩ | refine ⟨_, bareC, ?_⟩ | refine ⟨_, contFuncConditionC (caps := []) (p := fun x => !wellF x) (xs := c.kids) (fun _ => rfl) (fun _ => rfl) (fun _ => rfl) (fun x hx => wellKidC (ih x hx)), ?_⟩); simp +decide (maxSteps := 4000000) only [e1, e2, e3, rCond, hna, go_sem, Nat.reduceAdd, Nat.reduceMul])) | apply cond2_intro | with_reducible apply And.intro | intro h)
    all_goals (rw [hw, ho]; grind)
  have e3 : (c.kind == 3) = false := by simp [k3]
  by_cases k4 : c.kind = 4
  · have e4 : (c.kind == 4) = true := by simp [k4]
    have ho : oneOk c = (decide (1 ≤ c.kids.length) && bareF c) := by unfold oneOk; rw [if_neg k1, if_neg k2, if_pos (.inr k4)]
    refine ConC.con (ent _ Tryz.func199 rfl rfl) (con_of_body env Tryz.func199 rfl (nt := 46) (rs := [.tmp 2]) rfl rfl (Nat.le_of_ble_eq_true rfl) fun hok => ?_)
    repeat' (first | (first | (refine AWP.go env ?_; intro K fin; try simp +decide (maxSteps := 4000000) only [e1, e2, e3, e4, rCond, hna, go_sem, Nat.reduceAdd, Nat.reduceMul]) | refine Kt.h _ _ ?_ | refine Ft.k (by decide +kernel) ?_ | ((first | refine ⟨_, h, ?_⟩ | refine ⟨_, bareC, ?_⟩ | refine ⟨_, contFuncConditionC (caps := []) (p := fun x => !wellF x) (xs := c.kids) (fun _ => rfl) (fun _ => rfl) (fun _ => rfl) (fun x hx => wellKidC (ih x hx)), ?_⟩); simp +decide (maxSteps := 4000000) only [e1, e2, e3, e4, rCond, hna, go_sem, Nat.reduceAdd, Nat.reduceMul])) | apply cond2_intro | with_reducible apply And.intro | intro h)
    all_goals (rw [hw, ho]; grind)
  have e4 : (c.kind == 4) = false := by simp [k4]
  by_cases k5 : c.kind = 5
  · have e5 : (c.kind == 5) = true := by simp [k5]
    have ho : oneOk c = decide (c.kids.length = 1) := by unfold oneOk; rw [if_neg k1, if_neg k2, if_neg (by simp [k3, k4]), if_pos k5]
    refine ConC.con (ent _ Tryz.func199 rfl rfl) (con_of_body env Tryz.func199 rfl (nt := 46) (rs := [.tmp 2]) rfl rfl (Nat.le_of_ble_eq_true rfl) fun hok => ?_)
    repeat' (first | (first | (refine AWP.go env ?_; intro K fin; try simp +decide (maxSteps := 4000000) only [e1, e2, e3, e4, e5, rCond, hna, go_sem, Nat.reduceAdd, Nat.reduceMul]) | refine Kt.h _ _ ?_ | refine Ft.k (by decide +kernel) ?_ | ((first | refine ⟨_, h, ?_⟩ | refine ⟨_, bareC, ?_⟩ | refine ⟨_, contFuncConditionC (caps := []) (p := fun x => !wellF x) (xs := c.kids) (fun _ => rfl) (fun _ => rfl) (fun _ => rfl) (fun x hx => wellKidC (ih x hx)), ?_⟩); simp +decide (maxSteps := 4000000) only [e1, e2, e3, e4, e5, rCond, hna, go_sem, Nat.reduceAdd, Nat.reduceMul])) | apply cond2_intro | with_reducible apply And.intro | intro h)
    all_goals (rw [hw, ho]; grind)
  have e5 : (c.kind == 5) = false := by simp [k5]
  have ho : oneOk c = false := by unfold oneOk; rw [if_neg k1, if_neg k2, if_neg (by simp [k3, k4]), if_neg k5]
  refine ConC.con (ent _ Tryz.func199 rfl rfl) (con_of_body env Tryz.func199 rfl (nt := 46) (rs := [.tmp 2]) rfl rfl (Nat.le_of_ble_eq_true rfl) fun hok => ?_)
  repeat' (first | (first | (refine AWP.go env ?_; intro K fin; try simp +decide (maxSteps := 4000000) only [e1, e2, e3, e4, e5, rCond, hna, go_sem, Nat.reduceAdd, Nat.reduceMul]) | refine Kt.h _ _ ?_ | refine Ft.k (by decide +kernel) ?_ | ((first | refine ⟨_, h, ?_⟩ | refine ⟨_, bareC, ?_⟩ | refine ⟨_, contFuncConditionC (caps := []) (p := fun x => !wellF x) (xs := c.kids) (fun _ => rfl) (fun _ => rfl) (fun _ => rfl) (fun x hx => wellKidC (ih x hx)), ?_⟩); simp +decide (maxSteps := 4000000) only [e1, e2, e3, e4, e5, rCond, hna, go_sem, Nat.reduceAdd, Nat.reduceMul])) | apply cond2_intro | with_reducible apply And.intro | intro h)
  all_goals (rw [hw, ho]; grind)

theorem wellC (c : Cond) : Con Tryz.prog 199 [dCond c] (.bool (wellF c)) :=
  wellStepC fun x hx => have := kid_lt hx; wellC x
termination_by SizeOf.sizeOf c

theorem kid_row {l a b : List Cond} {k : Cond} (h : l = a ++ k :: b) : getR (l.map Cond.row) a.length = rCond k := by
  rw [h]; simp [getR, Cond.row_eq]

theorem allStepC {c : Cond} (ih : ∀ x ∈ c.kids, Con Tryz.prog 211 [dCond x] (.bool (wellF x))) : Con Tryz.prog 211 [dCond c] (.bool (wellF c)) := by
  have hw := wellF_eq c
  by_cases h1 : oneOk c = true
  case neg =>
    have h1 : oneOk c = false := by simpa using h1
    rw [hw, h1]
    refine ConC.con (ent _ Tryz.func211 rfl rfl) (con_of_body env Tryz.func211 rfl (nt := 21) (rs := [.tmp 2]) rfl rfl (Nat.le_of_ble_eq_true rfl) fun hok => ?_)
    repeat' (first | (first | (refine AWP.go env ?_; intro K fin; try simp +decide (maxSteps := 4000000) only [h1, rCond, go_sem, Nat.reduceAdd, Nat.reduceMul]) | refine Kt.h _ _ ?_ | refine Ft.k (by decide +kernel) ?_ | ((first | refine ⟨_, h, ?_⟩ | refine ⟨_, bareC, ?_⟩ | refine ⟨_, contFuncConditionC (caps := []) (p := fun x => !wellF x) (xs := c.kids) (fun _ => rfl) (fun _ => rfl) (fun _ => rfl) (fun x hx => wellKidC (ih x hx)), ?_⟩ | refine ⟨_, rOneOkC, ?_⟩ | refine ⟨_, ihk, ?_⟩); simp +decide (maxSteps := 4000000) only [h1, rCond, go_sem, Nat.reduceAdd, Nat.reduceMul])) | apply cond2_intro | with_reducible apply And.intro | intro h)
  refine ConC.con (ent _ Tryz.func211 rfl rfl) (con_of_body env Tryz.func211 rfl (nt := 21) (rs := [.tmp 2]) rfl rfl (Nat.le_of_ble_eq_true rfl) fun hok => ?_)
  obtain ⟨hl, _⟩ := rCond_lens (hok (dCond c) (by simp))
  repeat' (first | (first | (refine AWP.go env ?_; intro K fin; try simp +decide (maxSteps := 4000000) only [h1, rCond, go_sem, Nat.reduceAdd, Nat.reduceMul]) | refine Kt.h _ _ ?_ | refine Ft.k (by decide +kernel) ?_ | ((first | refine ⟨_, h, ?_⟩ | refine ⟨_, bareC, ?_⟩ | refine ⟨_, contFuncConditionC (caps := []) (p := fun x => !wellF x) (xs := c.kids) (fun _ => rfl) (fun _ => rfl) (fun _ => rfl) (fun x hx => wellKidC (ih x hx)), ?_⟩ | refine ⟨_, rOneOkC, ?_⟩ | refine ⟨_, ihk, ?_⟩); simp +decide (maxSteps := 4000000) only [h1, rCond, go_sem, Nat.reduceAdd, Nat.reduceMul])) | apply cond2_intro | with_reducible apply And.intro | intro h)
  refine AWP.lp (α := Way c.kids fun a _ => a.all wellF = true)
    (fun w => ⟨21, [(1, .ptr 100 0 0 0), (3, .int .i64 w.pre.length)],
      [(100, ⟨0, true, true, 9, 39, [rCond c]⟩)]⟩) (fun w => w.post.length) ⟨[], c.kids, rfl, rfl⟩ (by simp +decide (maxSteps := 4000000) only [rCond, go_sem, Nat.reduceAdd, Nat.reduceMul]; try simp) fun w K => ?_
  obtain ⟨a, b, hab, hinv⟩ := w
  cases b with
  | nil =>
    have hab : c.kids = a := by simpa using hab
    have hn2 : ((a.length : Int) < (c.kids.length : Int)) = False := by simp [hab]
    repeat' (first | (first | (refine AWP.go env ?_; intro K fin; try simp +decide (maxSteps := 4000000) only [hn2, rCond, go_sem, Nat.reduceAdd, Nat.reduceMul]) | refine Kt.h _ _ ?_ | refine Ft.k (by decide +kernel) ?_ | ((first | refine ⟨_, h, ?_⟩ | refine ⟨_, bareC, ?_⟩ | refine ⟨_, contFuncConditionC (caps := []) (p := fun x => !wellF x) (xs := c.kids) (fun _ => rfl) (fun _ => rfl) (fun _ => rfl) (fun x hx => wellKidC (ih x hx)), ?_⟩ | refine ⟨_, rOneOkC, ?_⟩ | refine ⟨_, ihk, ?_⟩); simp +decide (maxSteps := 4000000) only [hn2, rCond, go_sem, Nat.reduceAdd, Nat.reduceMul])) | apply cond2_intro | with_reducible apply And.intro | intro h)
    rw [hw, h1, hab, hinv]; try rfl
  | cons k b =>
    have hal : a.length < c.kids.length := by rw [hab]; simp
    have hn2 : ((a.length : Int) < (c.kids.length : Int)) = True := by simp [hal]
    have hget := kid_row hab
    have v3 : IntKind.i64.wrap ((a.length : Int) + 1) = ((a.length + 1 : Nat) : Int) := by rw [wrap64 (by omega) (by omega)]; try rfl
    have ihk := ih k (by rw [hab]; simp)
    repeat' (first | (first | (refine AWP.go env ?_; intro K fin; try simp +decide (maxSteps := 4000000) only [hn2, hget, v3, rCond, go_sem, Nat.reduceAdd, Nat.reduceMul]) | refine Kt.h _ _ ?_ | refine Ft.k (by decide +kernel) ?_ | ((first | refine ⟨_, h, ?_⟩ | refine ⟨_, bareC, ?_⟩ | refine ⟨_, contFuncConditionC (caps := []) (p := fun x => !wellF x) (xs := c.kids) (fun _ => rfl) (fun _ => rfl) (fun _ => rfl) (fun x hx => wellKidC (ih x hx)), ?_⟩ | refine ⟨_, rOneOkC, ?_⟩ | refine ⟨_, ihk, ?_⟩); simp +decide (maxSteps := 4000000) only [hn2, hget, v3, rCond, go_sem, Nat.reduceAdd, Nat.reduceMul])) | apply cond2_intro | with_reducible apply And.intro | intro h)
    all_goals try omega
    all_goals try (simp only [List.mem_cons, List.not_mem_nil, or_false] at h; (repeat' (first | (subst h; rfl) | rcases h with h | h)))
    · have h : wellF k = true := by assumption
      refine ⟨⟨a ++ [k], b, by simp [hab], by rw [List.all_append, hinv]; simp [h]⟩, by simp, by simp +decide (maxSteps := 4000000) only [rCond, go_sem, Nat.reduceAdd, Nat.reduceMul]; simp⟩
    · have h : wellF k = false := by assumption
      rw [hw, hab]; simp [h]

theorem allC (c : Cond) : Con Tryz.prog 211 [dCond c] (.bool (wellF c)) :=
  allStepC fun x hx => have := kid_lt hx; allC x
termination_by SizeOf.sizeOf c

mutual
def measF : Cond → Int × Int
  | .mk k kids _ _ => ((measL kids 1 0).1, if k = 5 then IntKind.i64.wrap ((measL kids 1 0).2 + 1) else (measL kids 1 0).2)
def measL : List Cond → Int → Int → Int × Int
  | [], s, d => (s, d)
  | c :: r, s, d => measL r (IntKind.i64.wrap (s + (measF c).1)) (if d < (measF c).2 then (measF c).2 else d)
end

theorem measF_eq (c : Cond) : measF c = ((measL c.kids 1 0).1, if c.kind = 5 then IntKind.i64.wrap ((measL c.kids 1 0).2 + 1) else (measL c.kids 1 0).2) := by
  cases c; rw [measF]; try rfl

theorem measStepC {c : Cond} (ih : ∀ x ∈ c.kids, Con Tryz.prog 200 [dCond x] (.tup [.int .i64 (measF x).1, .int .i64 (measF x).2])) : Con Tryz.prog 200 [dCond c] (.tup [.int .i64 (measF c).1, .int .i64 (measF c).2]) := by
  have hw := measF_eq c
  refine ConC.con (ent _ Tryz.func200 rfl rfl) (con_of_body env Tryz.func200 rfl (nt := 36) (rs := [.tmp 2, .tmp 3]) rfl rfl (Nat.le_of_ble_eq_true rfl) fun hok => ?_)
  obtain ⟨hl, _⟩ := rCond_lens (hok (dCond c) (by simp))
  repeat' (first | (first | (refine AWP.go env ?_; intro K fin; try simp +decide (maxSteps := 4000000) only [rCond, go_sem, Nat.reduceAdd, Nat.reduceMul]) | refine Kt.h _ _ ?_ | refine Ft.k (by decide +kernel) ?_ | ((first | refine ⟨_, h, ?_⟩ | refine ⟨_, bareC, ?_⟩ | refine ⟨_, contFuncConditionC (caps := []) (p := fun x => !wellF x) (xs := c.kids) (fun _ => rfl) (fun _ => rfl) (fun _ => rfl) (fun x hx => wellKidC (ih x hx)), ?_⟩ | refine ⟨_, rOneOkC, ?_⟩ | refine ⟨_, ihk, ?_⟩ | refine ⟨_, ihk, ?_⟩); simp +decide (maxSteps := 4000000) only [rCond, go_sem, Nat.reduceAdd, Nat.reduceMul])) | apply cond2_intro | with_reducible apply And.intro | intro h)
  refine AWP.lp (α := (x : Int × Int) × Way c.kids fun _ b => measL b x.1 x.2 = measL c.kids 1 0)
    (fun w => ⟨36, [(1, .ptr 100 0 0 0), (4, .int .i64 w.1.1), (5, .int .i64 w.1.2), (11, .fsl 9 (c.kids.map Cond.row)), (12, .int .i64 c.kids.length), (13, .int .i64 w.2.pre.length)],
      [(100, ⟨0, true, true, 9, 39, [rCond c]⟩)]⟩) (fun w => w.2.post.length) ⟨(1, 0), [], c.kids, rfl, rfl⟩ (by simp +decide (maxSteps := 4000000) only [rCond, go_sem, Nat.reduceAdd, Nat.reduceMul]; try simp) fun w K => ?_
  obtain ⟨⟨s, d⟩, a, b, hab, hinv⟩ := w
  cases b with
  | nil =>
    have hab : c.kids = a := by simpa using hab
    have hn2 : ((a.length : Int) < (c.kids.length : Int)) = False := by simp [hab]
    rw [measL] at hinv
    by_cases k5 : c.kind = 5
    · have e5 : (c.kind == 5) = true := by simp [k5]
      repeat' (first | (first | (refine AWP.go env ?_; intro K fin; try simp +decide (maxSteps := 4000000) only [hn2, rCond, e5, go_sem, Nat.reduceAdd, Nat.reduceMul]) | refine Kt.h _ _ ?_ | refine Ft.k (by decide +kernel) ?_ | ((first | refine ⟨_, h, ?_⟩ | refine ⟨_, bareC, ?_⟩ | refine ⟨_, contFuncConditionC (caps := []) (p := fun x => !wellF x) (xs := c.kids) (fun _ => rfl) (fun _ => rfl) (fun _ => rfl) (fun x hx => wellKidC (ih x hx)), ?_⟩ | refine ⟨_, rOneOkC, ?_⟩ | refine ⟨_, ihk, ?_⟩ | refine ⟨_, ihk, ?_⟩); simp +decide (maxSteps := 4000000) only [hn2, rCond, e5, go_sem, Nat.reduceAdd, Nat.reduceMul])) | apply cond2_intro | with_reducible apply And.intro | intro h)
      rw [hw, ← hinv, if_pos k5]
    · have e5 : (c.kind == 5) = false := by simp [k5]
      repeat' (first | (first | (refine AWP.go env ?_; intro K fin; try simp +decide (maxSteps := 4000000) only [hn2, rCond, e5, go_sem, Nat.reduceAdd, Nat.reduceMul]) | refine Kt.h _ _ ?_ | refine Ft.k (by decide +kernel) ?_ | ((first | refine ⟨_, h, ?_⟩ | refine ⟨_, bareC, ?_⟩ | refine ⟨_, contFuncConditionC (caps := []) (p := fun x => !wellF x) (xs := c.kids) (fun _ => rfl) (fun _ => rfl) (fun _ => rfl) (fun x hx => wellKidC (ih x hx)), ?_⟩ | refine ⟨_, rOneOkC, ?_⟩ | refine ⟨_, ihk, ?_⟩ | refine ⟨_, ihk, ?_⟩); simp +decide (maxSteps := 4000000) only [hn2, rCond, e5, go_sem, Nat.reduceAdd, Nat.reduceMul])) | apply cond2_intro | with_reducible apply And.intro | intro h)
      rw [hw, ← hinv, if_neg k5]
  | cons k b =>
    have hal : a.length < c.kids.length := by rw [hab]; simp
    have hn2 : ((a.length : Int) < (c.kids.length : Int)) = True := by simp [hal]
    have hget := kid_row hab
    have v3 : IntKind.i64.wrap ((a.length : Int) + 1) = ((a.length + 1 : Nat) : Int) := by rw [wrap64 (by omega) (by omega)]; try rfl
    have ihk := ih k (by rw [hab]; simp)
    rw [measL] at hinv
    repeat' (first | (first | (refine AWP.go env ?_; intro K fin; try simp +decide (maxSteps := 4000000) only [hn2, hget, v3, rCond, go_sem, Nat.reduceAdd, Nat.reduceMul]) | refine Kt.h _ _ ?_ | refine Ft.k (by decide +kernel) ?_ | ((first | refine ⟨_, h, ?_⟩ | refine ⟨_, bareC, ?_⟩ | refine ⟨_, contFuncConditionC (caps := []) (p := fun x => !wellF x) (xs := c.kids) (fun _ => rfl) (fun _ => rfl) (fun _ => rfl) (fun x hx => wellKidC (ih x hx)), ?_⟩ | refine ⟨_, rOneOkC, ?_⟩ | refine ⟨_, ihk, ?_⟩ | refine ⟨_, ihk, ?_⟩); simp +decide (maxSteps := 4000000) only [hn2, hget, v3, rCond, go_sem, Nat.reduceAdd, Nat.reduceMul])) | apply cond2_intro | with_reducible apply And.intro | intro h)
    all_goals try omega
    all_goals try (simp only [List.mem_cons, List.not_mem_nil, or_false] at h; (repeat' (first | (subst h; rfl) | rcases h with h | h)))
    all_goals refine ⟨⟨(IntKind.i64.wrap (s + (measF k).1), if d < (measF k).2 then (measF k).2 else d), a ++ [k], b, by simp [hab], hinv⟩, by simp, by simp +decide (maxSteps := 4000000) only [rCond, go_sem, Nat.reduceAdd, Nat.reduceMul]; simp⟩

theorem measC (c : Cond) : Con Tryz.prog 200 [dCond c] (.tup [.int .i64 (measF c).1, .int .i64 (measF c).2]) :=
  measStepC fun x hx => have := kid_lt hx; measC x
termination_by SizeOf.sizeOf c

theorem rMeasStepC {c : Cond} (ih : ∀ x ∈ c.kids, Con Tryz.prog 212 [dCond x] (.tup [.int .i64 (measF x).1, .int .i64 (measF x).2])) : Con Tryz.prog 212 [dCond c] (.tup [.int .i64 (measF c).1, .int .i64 (measF c).2]) := by
  have hw := measF_eq c
  refine ConC.con (ent _ Tryz.func212 rfl rfl) (con_of_body env Tryz.func212 rfl (nt := 38) (rs := [.tmp 2, .tmp 3]) rfl rfl (Nat.le_of_ble_eq_true rfl) fun hok => ?_)
  obtain ⟨hl, _⟩ := rCond_lens (hok (dCond c) (by simp))
  repeat' (first | (first | (refine AWP.go env ?_; intro K fin; try simp +decide (maxSteps := 4000000) only [rCond, go_sem, Nat.reduceAdd, Nat.reduceMul]) | refine Kt.h _ _ ?_ | refine Ft.k (by decide +kernel) ?_ | ((first | refine ⟨_, h, ?_⟩ | refine ⟨_, bareC, ?_⟩ | refine ⟨_, contFuncConditionC (caps := []) (p := fun x => !wellF x) (xs := c.kids) (fun _ => rfl) (fun _ => rfl) (fun _ => rfl) (fun x hx => wellKidC (ih x hx)), ?_⟩ | refine ⟨_, rOneOkC, ?_⟩ | refine ⟨_, ihk, ?_⟩ | refine ⟨_, ihk, ?_⟩ | refine ⟨_, ihk, ?_⟩); simp +decide (maxSteps := 4000000) only [rCond, go_sem, Nat.reduceAdd, Nat.reduceMul])) | apply cond2_intro | with_reducible apply And.intro | intro h)
  refine AWP.lp (α := (x : Int × Int) × Way c.kids fun _ b => measL b x.1 x.2 = measL c.kids 1 0)
    (fun w => ⟨38, [(1, .ptr 100 0 0 0), (4, .int .i64 w.1.1), (5, .int .i64 w.1.2), (6, .int .i64 w.2.pre.length)],
      [(100, ⟨0, true, true, 9, 39, [rCond c]⟩)]⟩) (fun w => w.2.post.length) ⟨(1, 0), [], c.kids, rfl, rfl⟩ (by simp +decide (maxSteps := 4000000) only [rCond, go_sem, Nat.reduceAdd, Nat.reduceMul]; try simp) fun w K => ?_
  obtain ⟨⟨s, d⟩, a, b, hab, hinv⟩ := w
  cases b with
  | nil =>
    have hab : c.kids = a := by simpa using hab
    have hn2 : ((a.length : Int) < (c.kids.length : Int)) = False := by simp [hab]
    rw [measL] at hinv
    by_cases k5 : c.kind = 5
    · have e5 : (c.kind == 5) = true := by simp [k5]
      repeat' (first | (first | (refine AWP.go env ?_; intro K fin; try simp +decide (maxSteps := 4000000) only [hn2, rCond, e5, go_sem, Nat.reduceAdd, Nat.reduceMul]) | refine Kt.h _ _ ?_ | refine Ft.k (by decide +kernel) ?_ | ((first | refine ⟨_, h, ?_⟩ | refine ⟨_, bareC, ?_⟩ | refine ⟨_, contFuncConditionC (caps := []) (p := fun x => !wellF x) (xs := c.kids) (fun _ => rfl) (fun _ => rfl) (fun _ => rfl) (fun x hx => wellKidC (ih x hx)), ?_⟩ | refine ⟨_, rOneOkC, ?_⟩ | refine ⟨_, ihk, ?_⟩ | refine ⟨_, ihk, ?_⟩ | refine ⟨_, ihk, ?_⟩); simp +decide (maxSteps := 4000000) only [hn2, rCond, e5, go_sem, Nat.reduceAdd, Nat.reduceMul])) | apply cond2_intro | with_reducible apply And.intro | intro h)
      rw [hw, ← hinv, if_pos k5]
    · have e5 : (c.kind == 5) = false := by simp [k5]
      repeat' (first | (first | (refine AWP.go env ?_; intro K fin; try simp +decide (maxSteps := 4000000) only [hn2, rCond, e5, go_sem, Nat.reduceAdd, Nat.reduceMul]) | refine Kt.h _ _ ?_ | refine Ft.k (by decide +kernel) ?_ | ((first | refine ⟨_, h, ?_⟩ | refine ⟨_, bareC, ?_⟩ | refine ⟨_, contFuncConditionC (caps := []) (p := fun x => !wellF x) (xs := c.kids) (fun _ => rfl) (fun _ => rfl) (fun _ => rfl) (fun x hx => wellKidC (ih x hx)), ?_⟩ | refine ⟨_, rOneOkC, ?_⟩ | refine ⟨_, ihk, ?_⟩ | refine ⟨_, ihk, ?_⟩ | refine ⟨_, ihk, ?_⟩); simp +decide (maxSteps := 4000000) only [hn2, rCond, e5, go_sem, Nat.reduceAdd, Nat.reduceMul])) | apply cond2_intro | with_reducible apply And.intro | intro h)
      rw [hw, ← hinv, if_neg k5]
  | cons k b =>
    have hal : a.length < c.kids.length := by rw [hab]; simp
    have hn2 : ((a.length : Int) < (c.kids.length : Int)) = True := by simp [hal]
    have hget := kid_row hab
    have v3 : IntKind.i64.wrap ((a.length : Int) + 1) = ((a.length + 1 : Nat) : Int) := by rw [wrap64 (by omega) (by omega)]; try rfl
    have ihk := ih k (by rw [hab]; simp)
    rw [measL] at hinv
    repeat' (first | (first | (refine AWP.go env ?_; intro K fin; try simp +decide (maxSteps := 4000000) only [hn2, hget, v3, rCond, go_sem, Nat.reduceAdd, Nat.reduceMul]) | refine Kt.h _ _ ?_ | refine Ft.k (by decide +kernel) ?_ | ((first | refine ⟨_, h, ?_⟩ | refine ⟨_, bareC, ?_⟩ | refine ⟨_, contFuncConditionC (caps := []) (p := fun x => !wellF x) (xs := c.kids) (fun _ => rfl) (fun _ => rfl) (fun _ => rfl) (fun x hx => wellKidC (ih x hx)), ?_⟩ | refine ⟨_, rOneOkC, ?_⟩ | refine ⟨_, ihk, ?_⟩ | refine ⟨_, ihk, ?_⟩ | refine ⟨_, ihk, ?_⟩); simp +decide (maxSteps := 4000000) only [hn2, hget, v3, rCond, go_sem, Nat.reduceAdd, Nat.reduceMul])) | apply cond2_intro | with_reducible apply And.intro | intro h)
    all_goals try omega
    all_goals try (simp only [List.mem_cons, List.not_mem_nil, or_false] at h; (repeat' (first | (subst h; rfl) | rcases h with h | h)))
    all_goals refine ⟨⟨(IntKind.i64.wrap (s + (measF k).1), if d < (measF k).2 then (measF k).2 else d), a ++ [k], b, by simp [hab], hinv⟩, by simp, by simp +decide (maxSteps := 4000000) only [rCond, go_sem, Nat.reduceAdd, Nat.reduceMul]; simp⟩

theorem rMeasC (c : Cond) : Con Tryz.prog 212 [dCond c] (.tup [.int .i64 (measF c).1, .int .i64 (measF c).2]) :=
  rMeasStepC fun x hx => have := kid_lt hx; rMeasC x
termination_by SizeOf.sizeOf c

def shapeF (c : Cond) : Int := if wellF c = false then 1 else if 12 < (measF c).1 ∨ 3 < (measF c).2 then 3 else 0

theorem shapeC {c : Cond} : Con Tryz.prog 123 [dCond c] (.int .i64 (shapeF c)) := by
  refine ConC.con (ent _ Tryz.func123 rfl rfl) (con_of_body env Tryz.func123 rfl (nt := 19) (rs := [.tmp 2]) rfl rfl (Nat.le_of_ble_eq_true rfl) fun hok => ?_)
  repeat' (first | (first | (refine AWP.go env ?_; intro K fin; try simp +decide (maxSteps := 4000000) only [rCond, go_sem, Nat.reduceAdd, Nat.reduceMul]) | refine Kt.h _ _ ?_ | refine Ft.k (by decide +kernel) ?_ | ((first | refine ⟨_, h, ?_⟩ | refine ⟨_, bareC, ?_⟩ | refine ⟨_, contFuncConditionC (caps := []) (p := fun x => !wellF x) (xs := c.kids) (fun _ => rfl) (fun _ => rfl) (fun _ => rfl) (fun x hx => wellKidC (ih x hx)), ?_⟩ | refine ⟨_, rOneOkC, ?_⟩ | refine ⟨_, ihk, ?_⟩ | refine ⟨_, ihk, ?_⟩ | refine ⟨_, ihk, ?_⟩ | refine ⟨_, wellC c, ?_⟩ | refine ⟨_, measC c, ?_⟩); simp +decide (maxSteps := 4000000) only [rCond, go_sem, Nat.reduceAdd, Nat.reduceMul])) | apply cond2_intro | with_reducible apply And.intro | intro h)
  all_goals (unfold shapeF; grind)

theorem rShapeC {c : Cond} : Con Tryz.prog 137 [dCond c] (.int .i64 (shapeF c)) := by
  refine ConC.con (ent _ Tryz.func137 rfl rfl) (con_of_body env Tryz.func137 rfl (nt := 19) (rs := [.tmp 2]) rfl rfl (Nat.le_of_ble_eq_true rfl) fun hok => ?_)
  repeat' (first | (first | (refine AWP.go env ?_; intro K fin; try simp +decide (maxSteps := 4000000) only [rCond, go_sem, Nat.reduceAdd, Nat.reduceMul]) | refine Kt.h _ _ ?_ | refine Ft.k (by decide +kernel) ?_ | ((first | refine ⟨_, h, ?_⟩ | refine ⟨_, bareC, ?_⟩ | refine ⟨_, contFuncConditionC (caps := []) (p := fun x => !wellF x) (xs := c.kids) (fun _ => rfl) (fun _ => rfl) (fun _ => rfl) (fun x hx => wellKidC (ih x hx)), ?_⟩ | refine ⟨_, rOneOkC, ?_⟩ | refine ⟨_, ihk, ?_⟩ | refine ⟨_, ihk, ?_⟩ | refine ⟨_, ihk, ?_⟩ | refine ⟨_, wellC c, ?_⟩ | refine ⟨_, measC c, ?_⟩ | refine ⟨_, allC c, ?_⟩ | refine ⟨_, rMeasC c, ?_⟩); simp +decide (maxSteps := 4000000) only [rCond, go_sem, Nat.reduceAdd, Nat.reduceMul])) | apply cond2_intro | with_reducible apply And.intro | intro h)
  all_goals (unfold shapeF; grind)
end Go.Abs
/- Conditions over a pattern. Printed by gen/mk_c3.py. -/
set_option linter.unusedSimpArgs false
set_option linter.unusedVariables false
set_option maxRecDepth 20000
set_option maxHeartbeats 4000000
namespace Go.Abs
open Go Go.RowKit Go.Proofs
attribute [local irreducible] Con AWP

def freshB (q : Patt) (vars : Int) : Bool := (List.range (q.vars - vars).toNat).all fun i : Nat => usedB q.slots (vars + (i : Int))

theorem freshB_iff {q : Patt} {vars : Int} : freshB q vars = true ↔ ∀ u, vars ≤ u → u < q.vars → usedB q.slots u = true := by
  unfold freshB
  rw [List.all_eq_true]
  constructor
  · intro h u h1 h2
    have := h (u - vars).toNat (List.mem_range.2 (by omega))
    rwa [show vars + ((u - vars).toNat : Int) = u by omega] at this
  · intro h i hi
    have := List.mem_range.1 hi
    exact h _ (by omega) (by omega)

def innerF (t : Types) (vars : Int) (q : Patt) : Int := if pattF t q ≠ 9 then pattF t q else if freshB q vars = true then 0 else 9

theorem slotVarC {s : Slot} {v : Int} : Con Tryz.prog 260 [.agg (rSlot s), .fptr [.int .i64 v] 0] (.bool (s.term.var == v)) := by
  refine ConC.con (ent _ Tryz.func260 rfl rfl) (con_of_body env Tryz.func260 rfl (nt := 9) (rs := [.tmp 3]) rfl rfl (Nat.le_of_ble_eq_true rfl) fun hok => ?_)
  unfold rSlot
  repeat' (first | (first | (refine AWP.go env ?_; intro K fin; try simp +decide (maxSteps := 4000000) only [go_sem, Nat.reduceAdd, Nat.reduceMul]) | refine Kt.h _ _ ?_ | refine Ft.k (by decide +kernel) ?_) | apply cond2_intro | with_reducible apply And.intro | intro h)

theorem innerC {t : Types} {q : Patt} {vars : Int} : Con Tryz.prog 201 [dTypes t, dPatt q, .int .i64 vars] (.int .i64 (innerF t vars q)) := by
  by_cases h9 : pattF t q = 9
  case neg =>
    have q9 : (pattF t q != 9) = true := by simpa using h9
    have hF : innerF t vars q = pattF t q := by unfold innerF; rw [if_pos h9]
    refine ConC.con (ent _ Tryz.func201 rfl rfl) (con_of_body env Tryz.func201 rfl (nt := 29) (rs := [.tmp 6]) rfl rfl (Nat.le_of_ble_eq_true rfl) fun hok => ?_)
    repeat' (first | (first | (refine AWP.go env ?_; intro K fin; try simp +decide (maxSteps := 4000000) only [q9, hF, go_sem, Nat.reduceAdd, Nat.reduceMul]) | refine Kt.h _ _ ?_ | refine Ft.k (by decide +kernel) ?_ | ((first | refine ⟨_, pattC, ?_⟩ | refine ⟨_, contFuncSlotC (caps := [.fptr [.int .i64 _] 0]) (p := fun s => s.term.var == _) (xs := q.slots) (fun _ => rfl) (fun _ => rfl) (fun _ => rfl) (fun _ _ => slotVarC), ?_⟩); simp +decide (maxSteps := 4000000) only [q9, hF, go_sem, Nat.reduceAdd, Nat.reduceMul])) | apply cond2_intro | with_reducible apply And.intro | intro h)
  have q9 : (pattF t q != 9) = false := by simpa using h9
  refine ConC.con (ent _ Tryz.func201 rfl rfl) (con_of_body env Tryz.func201 rfl (nt := 29) (rs := [.tmp 6]) rfl rfl (Nat.le_of_ble_eq_true rfl) fun hok => ?_)
  have hq := (DOk.mem (hok (dPatt q) (by simp)) (d := .int .i64 q.vars) (by simp)).i64
  have hv0 := (hok (.int .i64 vars) (by simp)).i64
  repeat' (first | (first | (refine AWP.go env ?_; intro K fin; try simp +decide (maxSteps := 4000000) only [q9, go_sem, Nat.reduceAdd, Nat.reduceMul]) | refine Kt.h _ _ ?_ | refine Ft.k (by decide +kernel) ?_ | ((first | refine ⟨_, pattC, ?_⟩ | refine ⟨_, contFuncSlotC (caps := [.fptr [.int .i64 _] 0]) (p := fun s => s.term.var == _) (xs := q.slots) (fun _ => rfl) (fun _ => rfl) (fun _ => rfl) (fun _ _ => slotVarC), ?_⟩); simp +decide (maxSteps := 4000000) only [q9, go_sem, Nat.reduceAdd, Nat.reduceMul])) | apply cond2_intro | with_reducible apply And.intro | intro h)
  all_goals try (simp only [List.mem_cons, List.not_mem_nil, or_false] at h; (repeat' (first | (subst h; rfl) | rcases h with h | h)))
  refine AWP.lp (α := Nat × {v : Int // vars ≤ v ∧ ∀ u, vars ≤ u → u < v → usedB q.slots u = true})
    (fun w => ⟨29, [(3, .ptr 300 0 0 0), (4, .ptr 400 0 0 0), (7, .int .i64 (pattF t q)), (8, .ptr 800 w.1 0 0)],
      [(300, ⟨0, true, true, 2, 25, [cTypes t]⟩), (400, ⟨0, true, true, 5, 33, [cPatt q]⟩), (800, ⟨w.1, true, true, 1, 3, [[.int .i64 w.2.1]]⟩)]⟩) (fun w => (q.vars - w.2.1).toNat) ⟨0, vars, by omega, fun u h1 h2 => by omega⟩ (by simp +decide (maxSteps := 4000000) only [go_sem, Nat.reduceAdd, Nat.reduceMul]; try simp) fun w K => ?_
  obtain ⟨ver, v, hv, hinv⟩ := w
  by_cases hn : v < q.vars
  · have hn2 : (v < q.vars) = True := eq_true hn
    have v3 : IntKind.i64.wrap (v + 1) = v + 1 := wrap64 (by omega) (by omega)
    by_cases hu : usedB q.slots v = true
    · have hu' : (q.slots.any fun s => s.term.var == v) = true := hu
      repeat' (first | (first | (refine AWP.go env ?_; intro K fin; try simp +decide (maxSteps := 4000000) only [hn2, v3, hu', go_sem, Nat.reduceAdd, Nat.reduceMul]) | refine Kt.h _ _ ?_ | refine Ft.k (by decide +kernel) ?_ | ((first | refine ⟨_, pattC, ?_⟩ | refine ⟨_, contFuncSlotC (caps := [.fptr [.int .i64 _] 0]) (p := fun s => s.term.var == _) (xs := q.slots) (fun _ => rfl) (fun _ => rfl) (fun _ => rfl) (fun _ _ => slotVarC), ?_⟩); simp +decide (maxSteps := 4000000) only [hn2, v3, hu', go_sem, Nat.reduceAdd, Nat.reduceMul])) | apply cond2_intro | with_reducible apply And.intro | intro h)
      all_goals try (simp only [List.mem_cons, List.not_mem_nil, or_false] at h; (repeat' (first | (subst h; rfl) | rcases h with h | h)))
      refine ⟨⟨ver + 1, v + 1, by omega, fun u h1 h2 => ?_⟩, by simp; omega, by simp +decide (maxSteps := 4000000) only [go_sem, Nat.reduceAdd, Nat.reduceMul]; try simp⟩
      by_cases hx : u < v
      · exact hinv u h1 hx
      · rw [show u = v by omega]; exact hu
    · have hu' : (q.slots.any fun s => s.term.var == v) = false := by simpa [usedB] using hu
      repeat' (first | (first | (refine AWP.go env ?_; intro K fin; try simp +decide (maxSteps := 4000000) only [hn2, v3, hu', go_sem, Nat.reduceAdd, Nat.reduceMul]) | refine Kt.h _ _ ?_ | refine Ft.k (by decide +kernel) ?_ | ((first | refine ⟨_, pattC, ?_⟩ | refine ⟨_, contFuncSlotC (caps := [.fptr [.int .i64 _] 0]) (p := fun s => s.term.var == _) (xs := q.slots) (fun _ => rfl) (fun _ => rfl) (fun _ => rfl) (fun _ _ => slotVarC), ?_⟩); simp +decide (maxSteps := 4000000) only [hn2, v3, hu', go_sem, Nat.reduceAdd, Nat.reduceMul])) | apply cond2_intro | with_reducible apply And.intro | intro h)
      unfold innerF; rw [if_neg (by simp [h9]), if_neg (fun hf => hu (freshB_iff.1 hf v hv hn))]; try exact h9
  · have hn2 : (v < q.vars) = False := eq_false hn
    repeat' (first | (first | (refine AWP.go env ?_; intro K fin; try simp +decide (maxSteps := 4000000) only [hn2, go_sem, Nat.reduceAdd, Nat.reduceMul]) | refine Kt.h _ _ ?_ | refine Ft.k (by decide +kernel) ?_ | ((first | refine ⟨_, pattC, ?_⟩ | refine ⟨_, contFuncSlotC (caps := [.fptr [.int .i64 _] 0]) (p := fun s => s.term.var == _) (xs := q.slots) (fun _ => rfl) (fun _ => rfl) (fun _ => rfl) (fun _ _ => slotVarC), ?_⟩); simp +decide (maxSteps := 4000000) only [hn2, go_sem, Nat.reduceAdd, Nat.reduceMul])) | apply cond2_intro | with_reducible apply And.intro | intro h)
    unfold innerF; rw [if_neg (by simp [h9]), if_pos (freshB_iff.2 fun u h1 h2 => hinv u h1 (by omega))]

theorem rOccurs22C {p : Patt} {v : Int} : Con Tryz.prog 271 [dPatt p, .int .i64 v] (.bool (usedB p.slots v)) := by
  refine ConC.con (ent _ Tryz.func271 rfl rfl) (con_of_body env Tryz.func271 rfl (nt := 22) (rs := [.tmp 4]) rfl rfl (Nat.le_of_ble_eq_true rfl) fun hok => ?_)
  have hsl : p.slots.length ≤ 140737488355328 := by
    have := DOk.len (DOk.mem (hok _ (List.mem_cons_self ..)) (d := .fsl 4 (p.slots.map rSlot)) (by simp))
    simpa using this
  repeat' (first | (first | (refine AWP.go env ?_; intro K fin; try simp +decide (maxSteps := 4000000) only [go_sem, Nat.reduceAdd, Nat.reduceMul]) | refine Kt.h _ _ ?_ | refine Ft.k (by decide +kernel) ?_ | ((first | refine ⟨_, pattC, ?_⟩ | refine ⟨_, contFuncSlotC (caps := [.fptr [.int .i64 _] 0]) (p := fun s => s.term.var == _) (xs := q.slots) (fun _ => rfl) (fun _ => rfl) (fun _ => rfl) (fun _ _ => slotVarC), ?_⟩); simp +decide (maxSteps := 4000000) only [go_sem, Nat.reduceAdd, Nat.reduceMul])) | apply cond2_intro | with_reducible apply And.intro | intro h)
  refine AWP.lp (α := Way p.slots fun a _ => usedB a v = false)
    (fun w => ⟨22, [(1, .int .i64 v), (2, .ptr 200 0 0 0), (5, .int .i64 w.pre.length)],
      [(200, ⟨0, true, true, 5, 33, [cPatt p]⟩)]⟩) (fun w => w.post.length) ⟨[], p.slots, rfl, rfl⟩ (by simp +decide (maxSteps := 4000000) only [go_sem, Nat.reduceAdd, Nat.reduceMul]; try simp) fun w K => ?_
  obtain ⟨a, b, hab, hinv⟩ := w
  cases b with
  | nil =>
    have hab : p.slots = a := by simpa using hab
    have hn2 : ((a.length : Int) < (p.slots.length : Int)) = False := by simp [hab]
    repeat' (first | (first | (refine AWP.go env ?_; intro K fin; try simp +decide (maxSteps := 4000000) only [hn2, go_sem, Nat.reduceAdd, Nat.reduceMul]) | refine Kt.h _ _ ?_ | refine Ft.k (by decide +kernel) ?_ | ((first | refine ⟨_, pattC, ?_⟩ | refine ⟨_, contFuncSlotC (caps := [.fptr [.int .i64 _] 0]) (p := fun s => s.term.var == _) (xs := q.slots) (fun _ => rfl) (fun _ => rfl) (fun _ => rfl) (fun _ _ => slotVarC), ?_⟩); simp +decide (maxSteps := 4000000) only [hn2, go_sem, Nat.reduceAdd, Nat.reduceMul])) | apply cond2_intro | with_reducible apply And.intro | intro h)
    rw [hab, hinv]
  | cons s b =>
    have hal : a.length < p.slots.length := by rw [hab]; simp
    have hn2 : ((a.length : Int) < (p.slots.length : Int)) = True := by simp [hal]
    have hget : getR (p.slots.map rSlot) a.length = [.int .i64 s.node, .int .i64 s.attr, .int .i64 s.term.var, .int .i64 s.term.add] := by rw [hab]; simp [getR, rSlot]
    have v3 : IntKind.i64.wrap ((a.length : Int) + 1) = ((a.length + 1 : Nat) : Int) := by rw [wrap64 (by omega) (by omega)]; try rfl
    repeat' (first | (first | (refine AWP.go env ?_; intro K fin; try simp +decide (maxSteps := 4000000) only [hn2, hget, v3, go_sem, Nat.reduceAdd, Nat.reduceMul]) | refine Kt.h _ _ ?_ | refine Ft.k (by decide +kernel) ?_ | ((first | refine ⟨_, pattC, ?_⟩ | refine ⟨_, contFuncSlotC (caps := [.fptr [.int .i64 _] 0]) (p := fun s => s.term.var == _) (xs := q.slots) (fun _ => rfl) (fun _ => rfl) (fun _ => rfl) (fun _ _ => slotVarC), ?_⟩); simp +decide (maxSteps := 4000000) only [hn2, hget, v3, go_sem, Nat.reduceAdd, Nat.reduceMul])) | apply cond2_intro | with_reducible apply And.intro | intro h)
    all_goals try omega
    · have h' : (s.term.var == v) = true := by assumption
      unfold usedB; rw [hab, List.any_append, List.any_cons, h']; simp
    · have h' : (s.term.var == v) = false := by assumption
      refine ⟨⟨a ++ [s], b, by simp [hab], ?_⟩, by simp, by simp +decide (maxSteps := 4000000) only [go_sem, Nat.reduceAdd, Nat.reduceMul]; try simp⟩
      unfold usedB at hinv ⊢; rw [List.any_append, hinv, List.any_cons, h']; try rfl

def inner2F (t : Types) (vars : Int) (q : Patt) : Int := if q.vars < vars then 20 else innerF t vars q

theorem rInnerC {t : Types} (hfew : ∀ n ∈ t.nodes, n.attrs.length ≤ 30) {q : Patt} {vars : Int} : Con Tryz.prog 213 [dTypes t, .int .i64 vars, dPatt q] (.int .i64 (inner2F t vars q)) := by
  by_cases hlt : q.vars < vars
  · have ql : (q.vars < vars) = True := eq_true hlt
    have hF : inner2F t vars q = 20 := by unfold inner2F; rw [if_pos hlt]
    refine ConC.con (ent _ Tryz.func213 rfl rfl) (con_of_body env Tryz.func213 rfl (nt := 31) (rs := [.tmp 6]) rfl rfl (Nat.le_of_ble_eq_true rfl) fun hok => ?_)
    repeat' (first | (first | (refine AWP.go env ?_; intro K fin; try simp +decide (maxSteps := 4000000) only [ql, hF, go_sem, Nat.reduceAdd, Nat.reduceMul]) | refine Kt.h _ _ ?_ | refine Ft.k (by decide +kernel) ?_ | ((first | refine ⟨_, pattC, ?_⟩ | refine ⟨_, contFuncSlotC (caps := [.fptr [.int .i64 _] 0]) (p := fun s => s.term.var == _) (xs := q.slots) (fun _ => rfl) (fun _ => rfl) (fun _ => rfl) (fun _ _ => slotVarC), ?_⟩ | refine ⟨_, rPattC hfew, ?_⟩ | refine ⟨_, rOccurs22C, ?_⟩); simp +decide (maxSteps := 4000000) only [ql, hF, go_sem, Nat.reduceAdd, Nat.reduceMul])) | apply cond2_intro | with_reducible apply And.intro | intro h)
  have ql : (q.vars < vars) = False := eq_false hlt
  have hF : inner2F t vars q = innerF t vars q := by unfold inner2F; rw [if_neg hlt]
  rw [hF]
  by_cases h9 : pattF t q = 9
  case neg =>
    have q9 : (pattF t q != 9) = true := by simpa using h9
    have hF : innerF t vars q = pattF t q := by unfold innerF; rw [if_pos h9]
    refine ConC.con (ent _ Tryz.func213 rfl rfl) (con_of_body env Tryz.func213 rfl (nt := 31) (rs := [.tmp 6]) rfl rfl (Nat.le_of_ble_eq_true rfl) fun hok => ?_)
    repeat' (first | (first | (refine AWP.go env ?_; intro K fin; try simp +decide (maxSteps := 4000000) only [ql, q9, hF, go_sem, Nat.reduceAdd, Nat.reduceMul]) | refine Kt.h _ _ ?_ | refine Ft.k (by decide +kernel) ?_ | ((first | refine ⟨_, pattC, ?_⟩ | refine ⟨_, contFuncSlotC (caps := [.fptr [.int .i64 _] 0]) (p := fun s => s.term.var == _) (xs := q.slots) (fun _ => rfl) (fun _ => rfl) (fun _ => rfl) (fun _ _ => slotVarC), ?_⟩ | refine ⟨_, rPattC hfew, ?_⟩ | refine ⟨_, rOccurs22C, ?_⟩); simp +decide (maxSteps := 4000000) only [ql, q9, hF, go_sem, Nat.reduceAdd, Nat.reduceMul])) | apply cond2_intro | with_reducible apply And.intro | intro h)
  have q9 : (pattF t q != 9) = false := by simpa using h9
  refine ConC.con (ent _ Tryz.func213 rfl rfl) (con_of_body env Tryz.func213 rfl (nt := 31) (rs := [.tmp 6]) rfl rfl (Nat.le_of_ble_eq_true rfl) fun hok => ?_)
  have hq := (DOk.mem (hok (dPatt q) (by simp)) (d := .int .i64 q.vars) (by simp)).i64
  have hv0 := (hok (.int .i64 vars) (by simp)).i64
  repeat' (first | (first | (refine AWP.go env ?_; intro K fin; try simp +decide (maxSteps := 4000000) only [ql, q9, go_sem, Nat.reduceAdd, Nat.reduceMul]) | refine Kt.h _ _ ?_ | refine Ft.k (by decide +kernel) ?_ | ((first | refine ⟨_, pattC, ?_⟩ | refine ⟨_, contFuncSlotC (caps := [.fptr [.int .i64 _] 0]) (p := fun s => s.term.var == _) (xs := q.slots) (fun _ => rfl) (fun _ => rfl) (fun _ => rfl) (fun _ _ => slotVarC), ?_⟩ | refine ⟨_, rPattC hfew, ?_⟩ | refine ⟨_, rOccurs22C, ?_⟩); simp +decide (maxSteps := 4000000) only [ql, q9, go_sem, Nat.reduceAdd, Nat.reduceMul])) | apply cond2_intro | with_reducible apply And.intro | intro h)
  refine AWP.lp (α := {v : Int // vars ≤ v ∧ ∀ u, vars ≤ u → u < v → usedB q.slots u = true})
    (fun w => ⟨31, [(3, .ptr 300 0 0 0), (5, .ptr 500 0 0 0), (7, .int .i64 (pattF t q)), (8, .int .i64 w.1)],
      [(300, ⟨0, true, true, 2, 25, [cTypes t]⟩), (500, ⟨0, true, true, 5, 33, [cPatt q]⟩)]⟩) (fun w => (q.vars - w.1).toNat) ⟨vars, by omega, fun u h1 h2 => by omega⟩ (by simp +decide (maxSteps := 4000000) only [go_sem, Nat.reduceAdd, Nat.reduceMul]; try simp) fun w K => ?_
  obtain ⟨v, hv, hinv⟩ := w
  by_cases hn : v < q.vars
  · have hn2 : (v < q.vars) = True := eq_true hn
    have v3 : IntKind.i64.wrap (v + 1) = v + 1 := wrap64 (by omega) (by omega)
    by_cases hu : usedB q.slots v = true
    · repeat' (first | (first | (refine AWP.go env ?_; intro K fin; try simp +decide (maxSteps := 4000000) only [hn2, v3, hu, go_sem, Nat.reduceAdd, Nat.reduceMul]) | refine Kt.h _ _ ?_ | refine Ft.k (by decide +kernel) ?_ | ((first | refine ⟨_, pattC, ?_⟩ | refine ⟨_, contFuncSlotC (caps := [.fptr [.int .i64 _] 0]) (p := fun s => s.term.var == _) (xs := q.slots) (fun _ => rfl) (fun _ => rfl) (fun _ => rfl) (fun _ _ => slotVarC), ?_⟩ | refine ⟨_, rPattC hfew, ?_⟩ | refine ⟨_, rOccurs22C, ?_⟩); simp +decide (maxSteps := 4000000) only [hn2, v3, hu, go_sem, Nat.reduceAdd, Nat.reduceMul])) | apply cond2_intro | with_reducible apply And.intro | intro h)
      refine ⟨⟨v + 1, by omega, fun u h1 h2 => ?_⟩, by simp; omega, by simp +decide (maxSteps := 4000000) only [go_sem, Nat.reduceAdd, Nat.reduceMul]; try simp⟩
      by_cases hx : u < v
      · exact hinv u h1 hx
      · rw [show u = v by omega]; exact hu
    · have hu' : usedB q.slots v = false := by simpa using hu
      repeat' (first | (first | (refine AWP.go env ?_; intro K fin; try simp +decide (maxSteps := 4000000) only [hn2, v3, hu', go_sem, Nat.reduceAdd, Nat.reduceMul]) | refine Kt.h _ _ ?_ | refine Ft.k (by decide +kernel) ?_ | ((first | refine ⟨_, pattC, ?_⟩ | refine ⟨_, contFuncSlotC (caps := [.fptr [.int .i64 _] 0]) (p := fun s => s.term.var == _) (xs := q.slots) (fun _ => rfl) (fun _ => rfl) (fun _ => rfl) (fun _ _ => slotVarC), ?_⟩ | refine ⟨_, rPattC hfew, ?_⟩ | refine ⟨_, rOccurs22C, ?_⟩); simp +decide (maxSteps := 4000000) only [hn2, v3, hu', go_sem, Nat.reduceAdd, Nat.reduceMul])) | apply cond2_intro | with_reducible apply And.intro | intro h)
      unfold innerF; rw [if_neg (by simp [h9]), if_neg (fun hf => hu (freshB_iff.1 hf v hv hn))]; try exact h9
  · have hn2 : (v < q.vars) = False := eq_false hn
    repeat' (first | (first | (refine AWP.go env ?_; intro K fin; try simp +decide (maxSteps := 4000000) only [hn2, go_sem, Nat.reduceAdd, Nat.reduceMul]) | refine Kt.h _ _ ?_ | refine Ft.k (by decide +kernel) ?_ | ((first | refine ⟨_, pattC, ?_⟩ | refine ⟨_, contFuncSlotC (caps := [.fptr [.int .i64 _] 0]) (p := fun s => s.term.var == _) (xs := q.slots) (fun _ => rfl) (fun _ => rfl) (fun _ => rfl) (fun _ _ => slotVarC), ?_⟩ | refine ⟨_, rPattC hfew, ?_⟩ | refine ⟨_, rOccurs22C, ?_⟩); simp +decide (maxSteps := 4000000) only [hn2, go_sem, Nat.reduceAdd, Nat.reduceMul])) | apply cond2_intro | with_reducible apply And.intro | intro h)
    unfold innerF; rw [if_neg (by simp [h9]), if_pos (freshB_iff.2 fun u h1 h2 => hinv u h1 (by omega))]
end Go.Abs
/- Conditions over a pattern, with their kids. Printed by gen/mk_c4.py. -/
set_option linter.unusedSimpArgs false
set_option linter.unusedVariables false
set_option maxRecDepth 20000
set_option maxHeartbeats 4000000
namespace Go.Abs
open Go Go.RowKit Go.Proofs
attribute [local irreducible] Con AWP

/-- The error of an Exists over a pattern. -/
def existsF (t : Types) (p : Patt) (m : Two) (q : Patt) : Int :=
  if q.vars < p.vars then 20 else if innerF t p.vars q ≠ 0 then innerF t p.vars q else if morF p.graph q.graph m ≠ 0 then morF p.graph q.graph m
  else if injF p.graph q.graph m = true then 0 else 1

mutual
def insideF (t : Types) : Cond → Patt → Int
  | .mk k kids m q, p => if k = 5 then (if existsF t p m q ≠ 0 then existsF t p m q else insideL t kids q) else insideL t kids p
def insideL (t : Types) : List Cond → Patt → Int
  | [], _ => 0
  | c :: r, p => if insideF t c p ≠ 0 then insideF t c p else insideL t r p
end

theorem insideF_eq (t : Types) (c : Cond) (p : Patt) : insideF t c p = if c.kind = 5 then (if existsF t p c.map c.patt ≠ 0 then existsF t p c.map c.patt else insideL t c.kids c.patt) else insideL t c.kids p := by
  cases c; rw [insideF]; try rfl


theorem condInStepC {t : Types} {c : Cond} {p : Patt} (ih : ∀ x ∈ c.kids, ∀ q : Patt, Con Tryz.prog 124 [dTypes t, dPatt q, dCond x] (.int .i64 (insideF t x q))) : Con Tryz.prog 124 [dTypes t, dPatt p, dCond c] (.int .i64 (insideF t c p)) := by
  have hw := insideF_eq t c p
  by_cases k5 : c.kind = 5
  case neg =>
    have e5 : (c.kind == 5) = false := by simp [k5]
    have hF : insideF t c p = insideL t c.kids p := by rw [hw, if_neg k5]
    refine ConC.con (ent _ Tryz.func124 rfl rfl) (con_of_body env Tryz.func124 rfl (nt := 65) (rs := [.tmp 6]) rfl rfl (Nat.le_of_ble_eq_true rfl) fun hok => ?_)
    obtain ⟨hl, _⟩ := rCond_lens (hok (dCond c) (by simp))
    repeat' (first | (first | (refine AWP.go env ?_; intro K fin; try simp +decide (maxSteps := 4000000) only [rCond, e5, go_sem, Nat.reduceAdd, Nat.reduceMul]) | refine Kt.h _ _ ?_ | refine Ft.k (by decide +kernel) ?_ | ((first | refine ⟨_, innerC, ?_⟩ | refine ⟨_, morC, ?_⟩ | refine ⟨_, injC, ?_⟩ | refine ⟨_, ihk, ?_⟩); simp +decide (maxSteps := 4000000) only [rCond, e5, go_sem, Nat.reduceAdd, Nat.reduceMul])) | apply cond2_intro | with_reducible apply And.intro | intro h)
    all_goals try (simp only [List.mem_cons, List.not_mem_nil, or_false] at h; (repeat' (first | (subst h; rfl) | rcases h with h | h)))
    refine AWP.lp (α := Way c.kids fun _ b => insideL t b p = insideL t c.kids p)
      (fun w => ⟨65, [(3, .ptr 300 0 0 0), (4, .ptr 400 0 0 0), (5, .ptr 500 0 0 0), (51, .fsl 9 (c.kids.map Cond.row)), (52, .int .i64 c.kids.length), (53, .int .i64 w.pre.length)],
        [(300, ⟨0, true, true, 2, 25, [cTypes t]⟩), (400, ⟨0, true, true, 5, 33, [cPatt p]⟩), (500, ⟨0, true, true, 9, 39, [rCond c]⟩)]⟩) (fun w => w.post.length) ⟨[], c.kids, rfl, rfl⟩ (by simp +decide (maxSteps := 4000000) only [rCond, go_sem, Nat.reduceAdd, Nat.reduceMul]; try simp) fun w K => ?_
    obtain ⟨a, b, hab, hinv⟩ := w
    cases b with
    | nil =>
      have hab : c.kids = a := by simpa using hab
      have hn2 : ((a.length : Int) < (c.kids.length : Int)) = False := by simp [hab]
      rw [insideL] at hinv
      repeat' (first | (first | (refine AWP.go env ?_; intro K fin; try simp +decide (maxSteps := 4000000) only [hn2, rCond, go_sem, Nat.reduceAdd, Nat.reduceMul]) | refine Kt.h _ _ ?_ | refine Ft.k (by decide +kernel) ?_ | ((first | refine ⟨_, innerC, ?_⟩ | refine ⟨_, morC, ?_⟩ | refine ⟨_, injC, ?_⟩ | refine ⟨_, ihk, ?_⟩); simp +decide (maxSteps := 4000000) only [hn2, rCond, go_sem, Nat.reduceAdd, Nat.reduceMul])) | apply cond2_intro | with_reducible apply And.intro | intro h)
      rw [hF, ← hinv]
    | cons k b =>
      have hal : a.length < c.kids.length := by rw [hab]; simp
      have hn2 : ((a.length : Int) < (c.kids.length : Int)) = True := by simp [hal]
      have hget := kid_row hab
      have v3 : IntKind.i64.wrap ((a.length : Int) + 1) = ((a.length + 1 : Nat) : Int) := by rw [wrap64 (by omega) (by omega)]; try rfl
      have ihk := ih k (by rw [hab]; simp) p
      rw [insideL] at hinv
      by_cases hk : insideF t k p = 0
      · have qk : (insideF t k p != 0) = false := by simpa using hk
        rw [if_neg (by simp [hk])] at hinv
        repeat' (first | (first | (refine AWP.go env ?_; intro K fin; try simp +decide (maxSteps := 4000000) only [hn2, hget, v3, rCond, qk, go_sem, Nat.reduceAdd, Nat.reduceMul]) | refine Kt.h _ _ ?_ | refine Ft.k (by decide +kernel) ?_ | ((first | refine ⟨_, innerC, ?_⟩ | refine ⟨_, morC, ?_⟩ | refine ⟨_, injC, ?_⟩ | refine ⟨_, ihk, ?_⟩); simp +decide (maxSteps := 4000000) only [hn2, hget, v3, rCond, qk, go_sem, Nat.reduceAdd, Nat.reduceMul])) | apply cond2_intro | with_reducible apply And.intro | intro h)
        all_goals try omega
        all_goals try (simp only [List.mem_cons, List.not_mem_nil, or_false] at h; (repeat' (first | (subst h; rfl) | rcases h with h | h)))
        refine ⟨⟨a ++ [k], b, by simp [hab], hinv⟩, by simp, by simp +decide (maxSteps := 4000000) only [rCond, go_sem, Nat.reduceAdd, Nat.reduceMul]; simp⟩
      · have qk : (insideF t k p != 0) = true := by simpa using hk
        rw [if_pos hk] at hinv
        have hF2 : insideF t c p = insideF t k p := by rw [hF, hinv]
        repeat' (first | (first | (refine AWP.go env ?_; intro K fin; try simp +decide (maxSteps := 4000000) only [hn2, hget, v3, rCond, qk, hF2, go_sem, Nat.reduceAdd, Nat.reduceMul]) | refine Kt.h _ _ ?_ | refine Ft.k (by decide +kernel) ?_ | ((first | refine ⟨_, innerC, ?_⟩ | refine ⟨_, morC, ?_⟩ | refine ⟨_, injC, ?_⟩ | refine ⟨_, ihk, ?_⟩); simp +decide (maxSteps := 4000000) only [hn2, hget, v3, rCond, qk, hF2, go_sem, Nat.reduceAdd, Nat.reduceMul])) | apply cond2_intro | with_reducible apply And.intro | intro h)
        all_goals try omega
        all_goals try (simp only [List.mem_cons, List.not_mem_nil, or_false] at h; (repeat' (first | (subst h; rfl) | rcases h with h | h)))

  have e5 : (c.kind == 5) = true := by simp [k5]
  rw [if_pos k5] at hw
  by_cases hlt : c.patt.vars < p.vars
  · have ql : (c.patt.vars < p.vars) = True := eq_true hlt
    have hE : existsF t p c.map c.patt = 20 := by unfold existsF; rw [if_pos hlt]
    have hF : insideF t c p = 20 := by rw [hw, hE]; try rfl
    refine ConC.con (ent _ Tryz.func124 rfl rfl) (con_of_body env Tryz.func124 rfl (nt := 65) (rs := [.tmp 6]) rfl rfl (Nat.le_of_ble_eq_true rfl) fun hok => ?_)
    repeat' (first | (first | (refine AWP.go env ?_; intro K fin; try simp +decide (maxSteps := 4000000) only [rCond, e5, ql, hF, go_sem, Nat.reduceAdd, Nat.reduceMul]) | refine Kt.h _ _ ?_ | refine Ft.k (by decide +kernel) ?_ | ((first | refine ⟨_, innerC, ?_⟩ | refine ⟨_, morC, ?_⟩ | refine ⟨_, injC, ?_⟩ | refine ⟨_, ihk, ?_⟩); simp +decide (maxSteps := 4000000) only [rCond, e5, ql, hF, go_sem, Nat.reduceAdd, Nat.reduceMul])) | apply cond2_intro | with_reducible apply And.intro | intro h)
    all_goals try (simp only [List.mem_cons, List.not_mem_nil, or_false] at h; (repeat' (first | (subst h; rfl) | rcases h with h | h)))
  have ql : (c.patt.vars < p.vars) = False := eq_false hlt
  by_cases h1 : innerF t p.vars c.patt = 0
  case neg =>
    have q1 : (innerF t p.vars c.patt != 0) = true := by simpa using h1
    have hE : existsF t p c.map c.patt = innerF t p.vars c.patt := by unfold existsF; rw [if_neg hlt, if_pos h1]
    have hF : insideF t c p = innerF t p.vars c.patt := by rw [hw, hE, if_pos h1]
    refine ConC.con (ent _ Tryz.func124 rfl rfl) (con_of_body env Tryz.func124 rfl (nt := 65) (rs := [.tmp 6]) rfl rfl (Nat.le_of_ble_eq_true rfl) fun hok => ?_)
    repeat' (first | (first | (refine AWP.go env ?_; intro K fin; try simp +decide (maxSteps := 4000000) only [rCond, e5, ql, q1, hF, go_sem, Nat.reduceAdd, Nat.reduceMul]) | refine Kt.h _ _ ?_ | refine Ft.k (by decide +kernel) ?_ | ((first | refine ⟨_, innerC, ?_⟩ | refine ⟨_, morC, ?_⟩ | refine ⟨_, injC, ?_⟩ | refine ⟨_, ihk, ?_⟩); simp +decide (maxSteps := 4000000) only [rCond, e5, ql, q1, hF, go_sem, Nat.reduceAdd, Nat.reduceMul])) | apply cond2_intro | with_reducible apply And.intro | intro h)
    all_goals try (simp only [List.mem_cons, List.not_mem_nil, or_false] at h; (repeat' (first | (subst h; rfl) | rcases h with h | h)))
  have q1 : (innerF t p.vars c.patt != 0) = false := by simpa using h1
  by_cases h2 : morF p.graph c.patt.graph c.map = 0
  case neg =>
    have q2 : (morF p.graph c.patt.graph c.map != 0) = true := by simpa using h2
    have hE : existsF t p c.map c.patt = morF p.graph c.patt.graph c.map := by unfold existsF; rw [if_neg hlt, if_neg (by simp [h1]), if_pos h2]
    have hF : insideF t c p = morF p.graph c.patt.graph c.map := by rw [hw, hE, if_pos h2]
    refine ConC.con (ent _ Tryz.func124 rfl rfl) (con_of_body env Tryz.func124 rfl (nt := 65) (rs := [.tmp 6]) rfl rfl (Nat.le_of_ble_eq_true rfl) fun hok => ?_)
    repeat' (first | (first | (refine AWP.go env ?_; intro K fin; try simp +decide (maxSteps := 4000000) only [rCond, e5, ql, q1, q2, hF, go_sem, Nat.reduceAdd, Nat.reduceMul]) | refine Kt.h _ _ ?_ | refine Ft.k (by decide +kernel) ?_ | ((first | refine ⟨_, innerC, ?_⟩ | refine ⟨_, morC, ?_⟩ | refine ⟨_, injC, ?_⟩ | refine ⟨_, ihk, ?_⟩); simp +decide (maxSteps := 4000000) only [rCond, e5, ql, q1, q2, hF, go_sem, Nat.reduceAdd, Nat.reduceMul])) | apply cond2_intro | with_reducible apply And.intro | intro h)
    all_goals try (simp only [List.mem_cons, List.not_mem_nil, or_false] at h; (repeat' (first | (subst h; rfl) | rcases h with h | h)))
  have q2 : (morF p.graph c.patt.graph c.map != 0) = false := by simpa using h2
  by_cases h3 : injF p.graph c.patt.graph c.map = true
  case neg =>
    have q3 : injF p.graph c.patt.graph c.map = false := by simpa using h3
    have hE : existsF t p c.map c.patt = 1 := by unfold existsF; rw [if_neg hlt, if_neg (by simp [h1]), if_neg (by simp [h2]), if_neg h3]
    have hF : insideF t c p = 1 := by rw [hw, hE]; try rfl
    refine ConC.con (ent _ Tryz.func124 rfl rfl) (con_of_body env Tryz.func124 rfl (nt := 65) (rs := [.tmp 6]) rfl rfl (Nat.le_of_ble_eq_true rfl) fun hok => ?_)
    repeat' (first | (first | (refine AWP.go env ?_; intro K fin; try simp +decide (maxSteps := 4000000) only [rCond, e5, ql, q1, q2, q3, hF, go_sem, Nat.reduceAdd, Nat.reduceMul]) | refine Kt.h _ _ ?_ | refine Ft.k (by decide +kernel) ?_ | ((first | refine ⟨_, innerC, ?_⟩ | refine ⟨_, morC, ?_⟩ | refine ⟨_, injC, ?_⟩ | refine ⟨_, ihk, ?_⟩); simp +decide (maxSteps := 4000000) only [rCond, e5, ql, q1, q2, q3, hF, go_sem, Nat.reduceAdd, Nat.reduceMul])) | apply cond2_intro | with_reducible apply And.intro | intro h)
    all_goals try (simp only [List.mem_cons, List.not_mem_nil, or_false] at h; (repeat' (first | (subst h; rfl) | rcases h with h | h)))
  have hE : existsF t p c.map c.patt = 0 := by unfold existsF; rw [if_neg hlt, if_neg (by simp [h1]), if_neg (by simp [h2]), if_pos h3]
  have hF : insideF t c p = insideL t c.kids c.patt := by rw [hw, hE]; try rfl
  refine ConC.con (ent _ Tryz.func124 rfl rfl) (con_of_body env Tryz.func124 rfl (nt := 65) (rs := [.tmp 6]) rfl rfl (Nat.le_of_ble_eq_true rfl) fun hok => ?_)
  obtain ⟨hl, _⟩ := rCond_lens (hok (dCond c) (by simp))
  repeat' (first | (first | (refine AWP.go env ?_; intro K fin; try simp +decide (maxSteps := 4000000) only [rCond, e5, ql, q1, q2, h3, go_sem, Nat.reduceAdd, Nat.reduceMul]) | refine Kt.h _ _ ?_ | refine Ft.k (by decide +kernel) ?_ | ((first | refine ⟨_, innerC, ?_⟩ | refine ⟨_, morC, ?_⟩ | refine ⟨_, injC, ?_⟩ | refine ⟨_, ihk, ?_⟩); simp +decide (maxSteps := 4000000) only [rCond, e5, ql, q1, q2, h3, go_sem, Nat.reduceAdd, Nat.reduceMul])) | apply cond2_intro | with_reducible apply And.intro | intro h)
  all_goals try (simp only [List.mem_cons, List.not_mem_nil, or_false] at h; (repeat' (first | (subst h; rfl) | rcases h with h | h)))
  all_goals try (exfalso; assumption)
  refine AWP.lp (α := Way c.kids fun _ b => insideL t b c.patt = insideL t c.kids c.patt)
    (fun w => ⟨65, [(3, .ptr 300 0 0 0), (4, .ptr 400 0 0 0), (5, .ptr 500 0 0 0), (51, .fsl 9 (c.kids.map Cond.row)), (52, .int .i64 c.kids.length), (53, .int .i64 w.pre.length)],
      [(300, ⟨0, true, true, 2, 25, [cTypes t]⟩), (400, ⟨0, true, true, 5, 33, [cPatt c.patt]⟩), (500, ⟨0, true, true, 9, 39, [rCond c]⟩)]⟩) (fun w => w.post.length) ⟨[], c.kids, rfl, rfl⟩ (by simp +decide (maxSteps := 4000000) only [rCond, go_sem, Nat.reduceAdd, Nat.reduceMul]; try simp) fun w K => ?_
  obtain ⟨a, b, hab, hinv⟩ := w
  cases b with
  | nil =>
    have hab : c.kids = a := by simpa using hab
    have hn2 : ((a.length : Int) < (c.kids.length : Int)) = False := by simp [hab]
    rw [insideL] at hinv
    repeat' (first | (first | (refine AWP.go env ?_; intro K fin; try simp +decide (maxSteps := 4000000) only [hn2, rCond, go_sem, Nat.reduceAdd, Nat.reduceMul]) | refine Kt.h _ _ ?_ | refine Ft.k (by decide +kernel) ?_ | ((first | refine ⟨_, innerC, ?_⟩ | refine ⟨_, morC, ?_⟩ | refine ⟨_, injC, ?_⟩ | refine ⟨_, ihk, ?_⟩); simp +decide (maxSteps := 4000000) only [hn2, rCond, go_sem, Nat.reduceAdd, Nat.reduceMul])) | apply cond2_intro | with_reducible apply And.intro | intro h)
    rw [hF, ← hinv]
  | cons k b =>
    have hal : a.length < c.kids.length := by rw [hab]; simp
    have hn2 : ((a.length : Int) < (c.kids.length : Int)) = True := by simp [hal]
    have hget := kid_row hab
    have v3 : IntKind.i64.wrap ((a.length : Int) + 1) = ((a.length + 1 : Nat) : Int) := by rw [wrap64 (by omega) (by omega)]; try rfl
    have ihk := ih k (by rw [hab]; simp) c.patt
    rw [insideL] at hinv
    by_cases hk : insideF t k c.patt = 0
    · have qk : (insideF t k c.patt != 0) = false := by simpa using hk
      rw [if_neg (by simp [hk])] at hinv
      repeat' (first | (first | (refine AWP.go env ?_; intro K fin; try simp +decide (maxSteps := 4000000) only [hn2, hget, v3, rCond, qk, go_sem, Nat.reduceAdd, Nat.reduceMul]) | refine Kt.h _ _ ?_ | refine Ft.k (by decide +kernel) ?_ | ((first | refine ⟨_, innerC, ?_⟩ | refine ⟨_, morC, ?_⟩ | refine ⟨_, injC, ?_⟩ | refine ⟨_, ihk, ?_⟩); simp +decide (maxSteps := 4000000) only [hn2, hget, v3, rCond, qk, go_sem, Nat.reduceAdd, Nat.reduceMul])) | apply cond2_intro | with_reducible apply And.intro | intro h)
      all_goals try omega
      all_goals try (simp only [List.mem_cons, List.not_mem_nil, or_false] at h; (repeat' (first | (subst h; rfl) | rcases h with h | h)))
      refine ⟨⟨a ++ [k], b, by simp [hab], hinv⟩, by simp, by simp +decide (maxSteps := 4000000) only [rCond, go_sem, Nat.reduceAdd, Nat.reduceMul]; simp⟩
    · have qk : (insideF t k c.patt != 0) = true := by simpa using hk
      rw [if_pos hk] at hinv
      have hF2 : insideF t c p = insideF t k c.patt := by rw [hF, hinv]
      repeat' (first | (first | (refine AWP.go env ?_; intro K fin; try simp +decide (maxSteps := 4000000) only [hn2, hget, v3, rCond, qk, hF2, go_sem, Nat.reduceAdd, Nat.reduceMul]) | refine Kt.h _ _ ?_ | refine Ft.k (by decide +kernel) ?_ | ((first | refine ⟨_, innerC, ?_⟩ | refine ⟨_, morC, ?_⟩ | refine ⟨_, injC, ?_⟩ | refine ⟨_, ihk, ?_⟩); simp +decide (maxSteps := 4000000) only [hn2, hget, v3, rCond, qk, hF2, go_sem, Nat.reduceAdd, Nat.reduceMul])) | apply cond2_intro | with_reducible apply And.intro | intro h)
      all_goals try omega
      all_goals try (simp only [List.mem_cons, List.not_mem_nil, or_false] at h; (repeat' (first | (subst h; rfl) | rcases h with h | h)))

theorem condInC {t : Types} (c : Cond) (p : Patt) : Con Tryz.prog 124 [dTypes t, dPatt p, dCond c] (.int .i64 (insideF t c p)) :=
  condInStepC fun x hx q => have := kid_lt hx; condInC x q
termination_by SizeOf.sizeOf c

theorem condOverStepC {t : Types} (hfew : ∀ n ∈ t.nodes, n.attrs.length ≤ 30) {c : Cond} {p : Patt} (ih : ∀ x ∈ c.kids, ∀ q : Patt, Con Tryz.prog 138 [dTypes t, dPatt q, dCond x] (.int .i64 (insideF t x q))) : Con Tryz.prog 138 [dTypes t, dPatt p, dCond c] (.int .i64 (insideF t c p)) := by
  have hw := insideF_eq t c p
  by_cases k5 : c.kind = 5
  case neg =>
    have e5 : (c.kind == 5) = false := by simp [k5]
    have hF : insideF t c p = insideL t c.kids p := by rw [hw, if_neg k5]
    refine ConC.con (ent _ Tryz.func138 rfl rfl) (con_of_body env Tryz.func138 rfl (nt := 65) (rs := [.tmp 6]) rfl rfl (Nat.le_of_ble_eq_true rfl) fun hok => ?_)
    obtain ⟨hl, _⟩ := rCond_lens (hok (dCond c) (by simp))
    repeat' (first | (first | (refine AWP.go env ?_; intro K fin; try simp +decide (maxSteps := 4000000) only [rCond, e5, go_sem, Nat.reduceAdd, Nat.reduceMul]) | refine Kt.h _ _ ?_ | refine Ft.k (by decide +kernel) ?_ | ((first | refine ⟨_, innerC, ?_⟩ | refine ⟨_, morC, ?_⟩ | refine ⟨_, injC, ?_⟩ | refine ⟨_, ihk, ?_⟩ | refine ⟨_, rInnerC hfew, ?_⟩ | refine ⟨_, rMorC, ?_⟩ | refine ⟨_, rInjC rMorC, ?_⟩ | refine ⟨_, ihk, ?_⟩); simp +decide (maxSteps := 4000000) only [rCond, e5, go_sem, Nat.reduceAdd, Nat.reduceMul])) | apply cond2_intro | with_reducible apply And.intro | intro h)
    all_goals try (simp only [List.mem_cons, List.not_mem_nil, or_false] at h; (repeat' (first | (subst h; rfl) | rcases h with h | h)))
    refine AWP.lp (α := Way c.kids fun _ b => insideL t b p = insideL t c.kids p)
      (fun w => ⟨65, [(3, .ptr 300 0 0 0), (5, .ptr 500 0 0 0), (7, .ptr 700 0 0 0), (10, .int .i64 w.pre.length)],
        [(300, ⟨0, true, true, 2, 25, [cTypes t]⟩), (500, ⟨0, true, true, 9, 39, [rCond c]⟩), (700, ⟨0, true, true, 5, 33, [cPatt p]⟩)]⟩) (fun w => w.post.length) ⟨[], c.kids, rfl, rfl⟩ (by simp +decide (maxSteps := 4000000) only [rCond, go_sem, Nat.reduceAdd, Nat.reduceMul]; try simp) fun w K => ?_
    obtain ⟨a, b, hab, hinv⟩ := w
    cases b with
    | nil =>
      have hab : c.kids = a := by simpa using hab
      have hn2 : ((a.length : Int) < (c.kids.length : Int)) = False := by simp [hab]
      rw [insideL] at hinv
      repeat' (first | (first | (refine AWP.go env ?_; intro K fin; try simp +decide (maxSteps := 4000000) only [hn2, rCond, go_sem, Nat.reduceAdd, Nat.reduceMul]) | refine Kt.h _ _ ?_ | refine Ft.k (by decide +kernel) ?_ | ((first | refine ⟨_, innerC, ?_⟩ | refine ⟨_, morC, ?_⟩ | refine ⟨_, injC, ?_⟩ | refine ⟨_, ihk, ?_⟩ | refine ⟨_, rInnerC hfew, ?_⟩ | refine ⟨_, rMorC, ?_⟩ | refine ⟨_, rInjC rMorC, ?_⟩ | refine ⟨_, ihk, ?_⟩); simp +decide (maxSteps := 4000000) only [hn2, rCond, go_sem, Nat.reduceAdd, Nat.reduceMul])) | apply cond2_intro | with_reducible apply And.intro | intro h)
      rw [hF, ← hinv]
    | cons k b =>
      have hal : a.length < c.kids.length := by rw [hab]; simp
      have hn2 : ((a.length : Int) < (c.kids.length : Int)) = True := by simp [hal]
      have hget := kid_row hab
      have v3 : IntKind.i64.wrap ((a.length : Int) + 1) = ((a.length + 1 : Nat) : Int) := by rw [wrap64 (by omega) (by omega)]; try rfl
      have ihk := ih k (by rw [hab]; simp) p
      rw [insideL] at hinv
      by_cases hk : insideF t k p = 0
      · have qk : (insideF t k p != 0) = false := by simpa using hk
        rw [if_neg (by simp [hk])] at hinv
        repeat' (first | (first | (refine AWP.go env ?_; intro K fin; try simp +decide (maxSteps := 4000000) only [hn2, hget, v3, rCond, qk, go_sem, Nat.reduceAdd, Nat.reduceMul]) | refine Kt.h _ _ ?_ | refine Ft.k (by decide +kernel) ?_ | ((first | refine ⟨_, innerC, ?_⟩ | refine ⟨_, morC, ?_⟩ | refine ⟨_, injC, ?_⟩ | refine ⟨_, ihk, ?_⟩ | refine ⟨_, rInnerC hfew, ?_⟩ | refine ⟨_, rMorC, ?_⟩ | refine ⟨_, rInjC rMorC, ?_⟩ | refine ⟨_, ihk, ?_⟩); simp +decide (maxSteps := 4000000) only [hn2, hget, v3, rCond, qk, go_sem, Nat.reduceAdd, Nat.reduceMul])) | apply cond2_intro | with_reducible apply And.intro | intro h)
        all_goals try omega
        all_goals try (simp only [List.mem_cons, List.not_mem_nil, or_false] at h; (repeat' (first | (subst h; rfl) | rcases h with h | h)))
        refine ⟨⟨a ++ [k], b, by simp [hab], hinv⟩, by simp, by simp +decide (maxSteps := 4000000) only [rCond, go_sem, Nat.reduceAdd, Nat.reduceMul]; simp⟩
      · have qk : (insideF t k p != 0) = true := by simpa using hk
        rw [if_pos hk] at hinv
        have hF2 : insideF t c p = insideF t k p := by rw [hF, hinv]
        repeat' (first | (first | (refine AWP.go env ?_; intro K fin; try simp +decide (maxSteps := 4000000) only [hn2, hget, v3, rCond, qk, hF2, go_sem, Nat.reduceAdd, Nat.reduceMul]) | refine Kt.h _ _ ?_ | refine Ft.k (by decide +kernel) ?_ | ((first | refine ⟨_, innerC, ?_⟩ | refine ⟨_, morC, ?_⟩ | refine ⟨_, injC, ?_⟩ | refine ⟨_, ihk, ?_⟩ | refine ⟨_, rInnerC hfew, ?_⟩ | refine ⟨_, rMorC, ?_⟩ | refine ⟨_, rInjC rMorC, ?_⟩ | refine ⟨_, ihk, ?_⟩); simp +decide (maxSteps := 4000000) only [hn2, hget, v3, rCond, qk, hF2, go_sem, Nat.reduceAdd, Nat.reduceMul])) | apply cond2_intro | with_reducible apply And.intro | intro h)
        all_goals try omega
        all_goals try (simp only [List.mem_cons, List.not_mem_nil, or_false] at h; (repeat' (first | (subst h; rfl) | rcases h with h | h)))

  have e5 : (c.kind == 5) = true := by simp [k5]
  rw [if_pos k5] at hw
  by_cases hlt : c.patt.vars < p.vars
  · have hi2 : inner2F t p.vars c.patt = 20 := by unfold inner2F; rw [if_pos hlt]
    have q2 : (inner2F t p.vars c.patt != 0) = true := by rw [hi2]; try rfl
    have hE : existsF t p c.map c.patt = 20 := by unfold existsF; rw [if_pos hlt]
    have hF : insideF t c p = inner2F t p.vars c.patt := by rw [hw, hE, hi2]; try rfl
    refine ConC.con (ent _ Tryz.func138 rfl rfl) (con_of_body env Tryz.func138 rfl (nt := 65) (rs := [.tmp 6]) rfl rfl (Nat.le_of_ble_eq_true rfl) fun hok => ?_)
    repeat' (first | (first | (refine AWP.go env ?_; intro K fin; try simp +decide (maxSteps := 4000000) only [rCond, e5, q2, hF, go_sem, Nat.reduceAdd, Nat.reduceMul]) | refine Kt.h _ _ ?_ | refine Ft.k (by decide +kernel) ?_ | ((first | refine ⟨_, innerC, ?_⟩ | refine ⟨_, morC, ?_⟩ | refine ⟨_, injC, ?_⟩ | refine ⟨_, ihk, ?_⟩ | refine ⟨_, rInnerC hfew, ?_⟩ | refine ⟨_, rMorC, ?_⟩ | refine ⟨_, rInjC rMorC, ?_⟩ | refine ⟨_, ihk, ?_⟩); simp +decide (maxSteps := 4000000) only [rCond, e5, q2, hF, go_sem, Nat.reduceAdd, Nat.reduceMul])) | apply cond2_intro | with_reducible apply And.intro | intro h)
    all_goals try (simp only [List.mem_cons, List.not_mem_nil, or_false] at h; (repeat' (first | (subst h; rfl) | rcases h with h | h)))
  have hi2 : inner2F t p.vars c.patt = innerF t p.vars c.patt := by unfold inner2F; rw [if_neg hlt]
  by_cases h1 : innerF t p.vars c.patt = 0
  case neg =>
    have q1 : (inner2F t p.vars c.patt != 0) = true := by rw [hi2]; simpa using h1
    have hE : existsF t p c.map c.patt = innerF t p.vars c.patt := by unfold existsF; rw [if_neg hlt, if_pos h1]
    have hF : insideF t c p = inner2F t p.vars c.patt := by rw [hw, hE, if_pos h1, hi2]
    refine ConC.con (ent _ Tryz.func138 rfl rfl) (con_of_body env Tryz.func138 rfl (nt := 65) (rs := [.tmp 6]) rfl rfl (Nat.le_of_ble_eq_true rfl) fun hok => ?_)
    repeat' (first | (first | (refine AWP.go env ?_; intro K fin; try simp +decide (maxSteps := 4000000) only [rCond, e5, q1, hF, go_sem, Nat.reduceAdd, Nat.reduceMul]) | refine Kt.h _ _ ?_ | refine Ft.k (by decide +kernel) ?_ | ((first | refine ⟨_, innerC, ?_⟩ | refine ⟨_, morC, ?_⟩ | refine ⟨_, injC, ?_⟩ | refine ⟨_, ihk, ?_⟩ | refine ⟨_, rInnerC hfew, ?_⟩ | refine ⟨_, rMorC, ?_⟩ | refine ⟨_, rInjC rMorC, ?_⟩ | refine ⟨_, ihk, ?_⟩); simp +decide (maxSteps := 4000000) only [rCond, e5, q1, hF, go_sem, Nat.reduceAdd, Nat.reduceMul])) | apply cond2_intro | with_reducible apply And.intro | intro h)
    all_goals try (simp only [List.mem_cons, List.not_mem_nil, or_false] at h; (repeat' (first | (subst h; rfl) | rcases h with h | h)))
  have q1 : (inner2F t p.vars c.patt != 0) = false := by rw [hi2]; simpa using h1
  by_cases h2 : morF p.graph c.patt.graph c.map = 0
  case neg =>
    have q2 : (morF p.graph c.patt.graph c.map != 0) = true := by simpa using h2
    have hE : existsF t p c.map c.patt = morF p.graph c.patt.graph c.map := by unfold existsF; rw [if_neg hlt, if_neg (by simp [h1]), if_pos h2]
    have hF : insideF t c p = morF p.graph c.patt.graph c.map := by rw [hw, hE, if_pos h2]
    refine ConC.con (ent _ Tryz.func138 rfl rfl) (con_of_body env Tryz.func138 rfl (nt := 65) (rs := [.tmp 6]) rfl rfl (Nat.le_of_ble_eq_true rfl) fun hok => ?_)
    repeat' (first | (first | (refine AWP.go env ?_; intro K fin; try simp +decide (maxSteps := 4000000) only [rCond, e5, q1, q2, hF, go_sem, Nat.reduceAdd, Nat.reduceMul]) | refine Kt.h _ _ ?_ | refine Ft.k (by decide +kernel) ?_ | ((first | refine ⟨_, innerC, ?_⟩ | refine ⟨_, morC, ?_⟩ | refine ⟨_, injC, ?_⟩ | refine ⟨_, ihk, ?_⟩ | refine ⟨_, rInnerC hfew, ?_⟩ | refine ⟨_, rMorC, ?_⟩ | refine ⟨_, rInjC rMorC, ?_⟩ | refine ⟨_, ihk, ?_⟩); simp +decide (maxSteps := 4000000) only [rCond, e5, q1, q2, hF, go_sem, Nat.reduceAdd, Nat.reduceMul])) | apply cond2_intro | with_reducible apply And.intro | intro h)
    all_goals try (simp only [List.mem_cons, List.not_mem_nil, or_false] at h; (repeat' (first | (subst h; rfl) | rcases h with h | h)))
  have q2 : (morF p.graph c.patt.graph c.map != 0) = false := by simpa using h2
  by_cases h3 : injF p.graph c.patt.graph c.map = true
  case neg =>
    have q3 : injF p.graph c.patt.graph c.map = false := by simpa using h3
    have hE : existsF t p c.map c.patt = 1 := by unfold existsF; rw [if_neg hlt, if_neg (by simp [h1]), if_neg (by simp [h2]), if_neg h3]
    have hF : insideF t c p = 1 := by rw [hw, hE]; try rfl
    refine ConC.con (ent _ Tryz.func138 rfl rfl) (con_of_body env Tryz.func138 rfl (nt := 65) (rs := [.tmp 6]) rfl rfl (Nat.le_of_ble_eq_true rfl) fun hok => ?_)
    repeat' (first | (first | (refine AWP.go env ?_; intro K fin; try simp +decide (maxSteps := 4000000) only [rCond, e5, q1, q2, q3, hF, go_sem, Nat.reduceAdd, Nat.reduceMul]) | refine Kt.h _ _ ?_ | refine Ft.k (by decide +kernel) ?_ | ((first | refine ⟨_, innerC, ?_⟩ | refine ⟨_, morC, ?_⟩ | refine ⟨_, injC, ?_⟩ | refine ⟨_, ihk, ?_⟩ | refine ⟨_, rInnerC hfew, ?_⟩ | refine ⟨_, rMorC, ?_⟩ | refine ⟨_, rInjC rMorC, ?_⟩ | refine ⟨_, ihk, ?_⟩); simp +decide (maxSteps := 4000000) only [rCond, e5, q1, q2, q3, hF, go_sem, Nat.reduceAdd, Nat.reduceMul])) | apply cond2_intro | with_reducible apply And.intro | intro h)
    all_goals try (simp only [List.mem_cons, List.not_mem_nil, or_false] at h; (repeat' (first | (subst h; rfl) | rcases h with h | h)))
  have hE : existsF t p c.map c.patt = 0 := by unfold existsF; rw [if_neg hlt, if_neg (by simp [h1]), if_neg (by simp [h2]), if_pos h3]
  have hF : insideF t c p = insideL t c.kids c.patt := by rw [hw, hE]; try rfl
  refine ConC.con (ent _ Tryz.func138 rfl rfl) (con_of_body env Tryz.func138 rfl (nt := 65) (rs := [.tmp 6]) rfl rfl (Nat.le_of_ble_eq_true rfl) fun hok => ?_)
  obtain ⟨hl, _⟩ := rCond_lens (hok (dCond c) (by simp))
  repeat' (first | (first | (refine AWP.go env ?_; intro K fin; try simp +decide (maxSteps := 4000000) only [rCond, e5, q1, q2, h3, go_sem, Nat.reduceAdd, Nat.reduceMul]) | refine Kt.h _ _ ?_ | refine Ft.k (by decide +kernel) ?_ | ((first | refine ⟨_, innerC, ?_⟩ | refine ⟨_, morC, ?_⟩ | refine ⟨_, injC, ?_⟩ | refine ⟨_, ihk, ?_⟩ | refine ⟨_, rInnerC hfew, ?_⟩ | refine ⟨_, rMorC, ?_⟩ | refine ⟨_, rInjC rMorC, ?_⟩ | refine ⟨_, ihk, ?_⟩); simp +decide (maxSteps := 4000000) only [rCond, e5, q1, q2, h3, go_sem, Nat.reduceAdd, Nat.reduceMul])) | apply cond2_intro | with_reducible apply And.intro | intro h)
  all_goals try (simp only [List.mem_cons, List.not_mem_nil, or_false] at h; (repeat' (first | (subst h; rfl) | rcases h with h | h)))
  all_goals try (exfalso; assumption)
  refine AWP.lp (α := Way c.kids fun _ b => insideL t b c.patt = insideL t c.kids c.patt)
    (fun w => ⟨65, [(3, .ptr 300 0 0 0), (5, .ptr 500 0 0 0), (7, .ptr 700 0 0 0), (10, .int .i64 w.pre.length)],
      [(300, ⟨0, true, true, 2, 25, [cTypes t]⟩), (500, ⟨0, true, true, 9, 39, [rCond c]⟩), (700, ⟨0, true, true, 5, 33, [cPatt c.patt]⟩)]⟩) (fun w => w.post.length) ⟨[], c.kids, rfl, rfl⟩ (by simp +decide (maxSteps := 4000000) only [rCond, go_sem, Nat.reduceAdd, Nat.reduceMul]; try simp) fun w K => ?_
  obtain ⟨a, b, hab, hinv⟩ := w
  cases b with
  | nil =>
    have hab : c.kids = a := by simpa using hab
    have hn2 : ((a.length : Int) < (c.kids.length : Int)) = False := by simp [hab]
    rw [insideL] at hinv
    repeat' (first | (first | (refine AWP.go env ?_; intro K fin; try simp +decide (maxSteps := 4000000) only [hn2, rCond, go_sem, Nat.reduceAdd, Nat.reduceMul]) | refine Kt.h _ _ ?_ | refine Ft.k (by decide +kernel) ?_ | ((first | refine ⟨_, innerC, ?_⟩ | refine ⟨_, morC, ?_⟩ | refine ⟨_, injC, ?_⟩ | refine ⟨_, ihk, ?_⟩ | refine ⟨_, rInnerC hfew, ?_⟩ | refine ⟨_, rMorC, ?_⟩ | refine ⟨_, rInjC rMorC, ?_⟩ | refine ⟨_, ihk, ?_⟩); simp +decide (maxSteps := 4000000) only [hn2, rCond, go_sem, Nat.reduceAdd, Nat.reduceMul])) | apply cond2_intro | with_reducible apply And.intro | intro h)
    rw [hF, ← hinv]
  | cons k b =>
    have hal : a.length < c.kids.length := by rw [hab]; simp
    have hn2 : ((a.length : Int) < (c.kids.length : Int)) = True := by simp [hal]
    have hget := kid_row hab
    have v3 : IntKind.i64.wrap ((a.length : Int) + 1) = ((a.length + 1 : Nat) : Int) := by rw [wrap64 (by omega) (by omega)]; try rfl
    have ihk := ih k (by rw [hab]; simp) c.patt
    rw [insideL] at hinv
    by_cases hk : insideF t k c.patt = 0
    · have qk : (insideF t k c.patt != 0) = false := by simpa using hk
      rw [if_neg (by simp [hk])] at hinv
      repeat' (first | (first | (refine AWP.go env ?_; intro K fin; try simp +decide (maxSteps := 4000000) only [hn2, hget, v3, rCond, qk, go_sem, Nat.reduceAdd, Nat.reduceMul]) | refine Kt.h _ _ ?_ | refine Ft.k (by decide +kernel) ?_ | ((first | refine ⟨_, innerC, ?_⟩ | refine ⟨_, morC, ?_⟩ | refine ⟨_, injC, ?_⟩ | refine ⟨_, ihk, ?_⟩ | refine ⟨_, rInnerC hfew, ?_⟩ | refine ⟨_, rMorC, ?_⟩ | refine ⟨_, rInjC rMorC, ?_⟩ | refine ⟨_, ihk, ?_⟩); simp +decide (maxSteps := 4000000) only [hn2, hget, v3, rCond, qk, go_sem, Nat.reduceAdd, Nat.reduceMul])) | apply cond2_intro | with_reducible apply And.intro | intro h)
      all_goals try omega
      all_goals try (simp only [List.mem_cons, List.not_mem_nil, or_false] at h; (repeat' (first | (subst h; rfl) | rcases h with h | h)))
      refine ⟨⟨a ++ [k], b, by simp [hab], hinv⟩, by simp, by simp +decide (maxSteps := 4000000) only [rCond, go_sem, Nat.reduceAdd, Nat.reduceMul]; simp⟩
    · have qk : (insideF t k c.patt != 0) = true := by simpa using hk
      rw [if_pos hk] at hinv
      have hF2 : insideF t c p = insideF t k c.patt := by rw [hF, hinv]
      repeat' (first | (first | (refine AWP.go env ?_; intro K fin; try simp +decide (maxSteps := 4000000) only [hn2, hget, v3, rCond, qk, hF2, go_sem, Nat.reduceAdd, Nat.reduceMul]) | refine Kt.h _ _ ?_ | refine Ft.k (by decide +kernel) ?_ | ((first | refine ⟨_, innerC, ?_⟩ | refine ⟨_, morC, ?_⟩ | refine ⟨_, injC, ?_⟩ | refine ⟨_, ihk, ?_⟩ | refine ⟨_, rInnerC hfew, ?_⟩ | refine ⟨_, rMorC, ?_⟩ | refine ⟨_, rInjC rMorC, ?_⟩ | refine ⟨_, ihk, ?_⟩); simp +decide (maxSteps := 4000000) only [hn2, hget, v3, rCond, qk, hF2, go_sem, Nat.reduceAdd, Nat.reduceMul])) | apply cond2_intro | with_reducible apply And.intro | intro h)
      all_goals try omega
      all_goals try (simp only [List.mem_cons, List.not_mem_nil, or_false] at h; (repeat' (first | (subst h; rfl) | rcases h with h | h)))

theorem condOverC {t : Types} (hfew : ∀ n ∈ t.nodes, n.attrs.length ≤ 30) (c : Cond) (p : Patt) : Con Tryz.prog 138 [dTypes t, dPatt p, dCond c] (.int .i64 (insideF t c p)) :=
  condOverStepC hfew fun x hx q => have := kid_lt hx; condOverC hfew x q
termination_by SizeOf.sizeOf c

def condF (t : Types) (p : Patt) (c : Cond) : Int := if pattF t p ≠ 0 then pattF t p else if shapeF c ≠ 0 then shapeF c else insideF t c p

theorem condC {t : Types} {p : Patt} {c : Cond} : Con Tryz.prog 53 [dTypes t, dPatt p, dCond c] (.int .i64 (condF t p c)) := by
  refine ConC.con (ent _ Tryz.func53 rfl rfl) (con_of_body env Tryz.func53 rfl (nt := 24) (rs := [.tmp 6]) rfl rfl (Nat.le_of_ble_eq_true rfl) fun hok => ?_)
  repeat' (first | (first | (refine AWP.go env ?_; intro K fin; try simp +decide (maxSteps := 4000000) only [rCond, go_sem, Nat.reduceAdd, Nat.reduceMul]) | refine Kt.h _ _ ?_ | refine Ft.k (by decide +kernel) ?_ | ((first | refine ⟨_, innerC, ?_⟩ | refine ⟨_, morC, ?_⟩ | refine ⟨_, injC, ?_⟩ | refine ⟨_, ihk, ?_⟩ | refine ⟨_, rInnerC hfew, ?_⟩ | refine ⟨_, rMorC, ?_⟩ | refine ⟨_, rInjC rMorC, ?_⟩ | refine ⟨_, ihk, ?_⟩ | refine ⟨_, pattC, ?_⟩ | refine ⟨_, shapeC, ?_⟩ | refine ⟨_, condInC c p, ?_⟩); simp +decide (maxSteps := 4000000) only [rCond, go_sem, Nat.reduceAdd, Nat.reduceMul])) | apply cond2_intro | with_reducible apply And.intro | intro h)
  all_goals (unfold condF; grind)

theorem rCondC {t : Types} (hfew : ∀ n ∈ t.nodes, n.attrs.length ≤ 30) {p : Patt} {c : Cond} : Con Tryz.prog 62 [dTypes t, dPatt p, dCond c] (.int .i64 (condF t p c)) := by
  refine ConC.con (ent _ Tryz.func62 rfl rfl) (con_of_body env Tryz.func62 rfl (nt := 24) (rs := [.tmp 6]) rfl rfl (Nat.le_of_ble_eq_true rfl) fun hok => ?_)
  repeat' (first | (first | (refine AWP.go env ?_; intro K fin; try simp +decide (maxSteps := 4000000) only [rCond, go_sem, Nat.reduceAdd, Nat.reduceMul]) | refine Kt.h _ _ ?_ | refine Ft.k (by decide +kernel) ?_ | ((first | refine ⟨_, innerC, ?_⟩ | refine ⟨_, morC, ?_⟩ | refine ⟨_, injC, ?_⟩ | refine ⟨_, ihk, ?_⟩ | refine ⟨_, rInnerC hfew, ?_⟩ | refine ⟨_, rMorC, ?_⟩ | refine ⟨_, rInjC rMorC, ?_⟩ | refine ⟨_, ihk, ?_⟩ | refine ⟨_, pattC, ?_⟩ | refine ⟨_, shapeC, ?_⟩ | refine ⟨_, condInC c p, ?_⟩ | refine ⟨_, rPattC hfew, ?_⟩ | refine ⟨_, rShapeC, ?_⟩ | refine ⟨_, condOverC hfew c p, ?_⟩); simp +decide (maxSteps := 4000000) only [rCond, go_sem, Nat.reduceAdd, Nat.reduceMul])) | apply cond2_intro | with_reducible apply And.intro | intro h)
  all_goals (unfold condF; grind)
end Go.Abs
/- Rules. Printed by gen/mk_r8.py. -/
set_option linter.unusedSimpArgs false
set_option linter.unusedVariables false
set_option maxRecDepth 20000
set_option maxHeartbeats 4000000
namespace Go.Abs
open Go Go.RowKit Go.Proofs
attribute [local irreducible] Con AWP

def ruleF (t : Types) (r : Rul) : Int :=
  if (typesF t).2 ≠ 0 then (typesF t).2 else if isNameF r.name = false then 2 else if pattF t r.left ≠ 0 then pattF t r.left
  else if rightF t r ≠ 0 then rightF t r else if keptF r ≠ 0 then keptF r
  else if makableF t r.right.graph (createdF r).nodes (createdF r).edges = false then 13 else condF t r.left r.cond

theorem rightF_ok {t : Types} {r : Rul} (h : rightF t r = 0) : graphF r.right.graph = 0 ∧ typedB t r.right.graph = true := by
  unfold rightF at h
  split at h
  · rename_i h1; exact absurd h h1
  rename_i h1
  split at h
  · cases h
  rename_i h2
  exact ⟨by simpa using h1, by simpa using h2⟩

theorem created_range {r : Rul} : (∀ i ∈ (createdF r).nodes, 0 ≤ i ∧ i < r.right.graph.nodes.length) ∧ ∀ i ∈ (createdF r).edges, 0 ≤ i ∧ i < r.right.graph.edges.length := ⟨othersF_range, othersF_range⟩

theorem ruleC {t : Types} {r : Rul} : Con Tryz.prog 14 [dTypes t, dRule r] (.int .i64 (ruleF t r)) := by
  by_cases h0 : (typesF t).2 = 0
  case neg =>
    have q0 : ((typesF t).2 != 0) = true := by simpa using h0
    have hF : ruleF t r = (typesF t).2 := by unfold ruleF; rw [if_pos h0]
    rw [hF]
    refine ConC.con (ent _ Tryz.func14 rfl rfl) (con_of_body env Tryz.func14 rfl (nt := 61) (rs := [.tmp 4]) rfl rfl (Nat.le_of_ble_eq_true rfl) fun hok => ?_)
    repeat' (first | (first | (refine AWP.go env ?_; intro K fin; try simp +decide (maxSteps := 4000000) only [q0, go_sem, Nat.reduceAdd, Nat.reduceMul]) | refine Kt.h _ _ ?_ | refine Ft.k (by decide +kernel) ?_ | ((first | refine ⟨_, typesC (t := t), ?_⟩ | refine ⟨_, isNameC (s := r.name), ?_⟩ | refine ⟨_, pattC (t := t) (p := r.left), ?_⟩ | refine ⟨_, hr, ?_⟩ | refine ⟨_, keptC (r := r), ?_⟩ | refine ⟨_, hcr, ?_⟩ | refine ⟨_, hmk, ?_⟩ | refine ⟨_, condC (t := t) (p := r.left) (c := r.cond), ?_⟩); simp +decide (maxSteps := 4000000) only [q0, go_sem, Nat.reduceAdd, Nat.reduceMul])) | apply cond2_intro | with_reducible apply And.intro | intro h)
  have q0 : ((typesF t).2 != 0) = false := by simpa using h0
  have hr := rightC (r := r) h0
  by_cases h1 : isNameF r.name = true
  case neg =>
    have q1 : isNameF r.name = false := by simpa using h1
    have hF : ruleF t r = 2 := by unfold ruleF; rw [if_neg (by simp [h0]), if_pos q1]
    rw [hF]
    refine ConC.con (ent _ Tryz.func14 rfl rfl) (con_of_body env Tryz.func14 rfl (nt := 61) (rs := [.tmp 4]) rfl rfl (Nat.le_of_ble_eq_true rfl) fun hok => ?_)
    repeat' (first | (first | (refine AWP.go env ?_; intro K fin; try simp +decide (maxSteps := 4000000) only [q0, q1, go_sem, Nat.reduceAdd, Nat.reduceMul]) | refine Kt.h _ _ ?_ | refine Ft.k (by decide +kernel) ?_ | ((first | refine ⟨_, typesC (t := t), ?_⟩ | refine ⟨_, isNameC (s := r.name), ?_⟩ | refine ⟨_, pattC (t := t) (p := r.left), ?_⟩ | refine ⟨_, hr, ?_⟩ | refine ⟨_, keptC (r := r), ?_⟩ | refine ⟨_, hcr, ?_⟩ | refine ⟨_, hmk, ?_⟩ | refine ⟨_, condC (t := t) (p := r.left) (c := r.cond), ?_⟩); simp +decide (maxSteps := 4000000) only [q0, q1, go_sem, Nat.reduceAdd, Nat.reduceMul])) | apply cond2_intro | with_reducible apply And.intro | intro h)
  by_cases h2 : pattF t r.left = 0
  case neg =>
    have q2 : (pattF t r.left != 0) = true := by simpa using h2
    have hF : ruleF t r = pattF t r.left := by unfold ruleF; rw [if_neg (by simp [h0]), if_neg (by simp [h1]), if_pos h2]
    rw [hF]
    refine ConC.con (ent _ Tryz.func14 rfl rfl) (con_of_body env Tryz.func14 rfl (nt := 61) (rs := [.tmp 4]) rfl rfl (Nat.le_of_ble_eq_true rfl) fun hok => ?_)
    repeat' (first | (first | (refine AWP.go env ?_; intro K fin; try simp +decide (maxSteps := 4000000) only [q0, h1, q2, go_sem, Nat.reduceAdd, Nat.reduceMul]) | refine Kt.h _ _ ?_ | refine Ft.k (by decide +kernel) ?_ | ((first | refine ⟨_, typesC (t := t), ?_⟩ | refine ⟨_, isNameC (s := r.name), ?_⟩ | refine ⟨_, pattC (t := t) (p := r.left), ?_⟩ | refine ⟨_, hr, ?_⟩ | refine ⟨_, keptC (r := r), ?_⟩ | refine ⟨_, hcr, ?_⟩ | refine ⟨_, hmk, ?_⟩ | refine ⟨_, condC (t := t) (p := r.left) (c := r.cond), ?_⟩); simp +decide (maxSteps := 4000000) only [q0, h1, q2, go_sem, Nat.reduceAdd, Nat.reduceMul])) | apply cond2_intro | with_reducible apply And.intro | intro h)
  have q2 : (pattF t r.left != 0) = false := by simpa using h2
  by_cases h3 : rightF t r = 0
  case neg =>
    have q3 : (rightF t r != 0) = true := by simpa using h3
    have hF : ruleF t r = rightF t r := by unfold ruleF; rw [if_neg (by simp [h0]), if_neg (by simp [h1]), if_neg (by simp [h2]), if_pos h3]
    rw [hF]
    refine ConC.con (ent _ Tryz.func14 rfl rfl) (con_of_body env Tryz.func14 rfl (nt := 61) (rs := [.tmp 4]) rfl rfl (Nat.le_of_ble_eq_true rfl) fun hok => ?_)
    repeat' (first | (first | (refine AWP.go env ?_; intro K fin; try simp +decide (maxSteps := 4000000) only [q0, h1, q2, q3, go_sem, Nat.reduceAdd, Nat.reduceMul]) | refine Kt.h _ _ ?_ | refine Ft.k (by decide +kernel) ?_ | ((first | refine ⟨_, typesC (t := t), ?_⟩ | refine ⟨_, isNameC (s := r.name), ?_⟩ | refine ⟨_, pattC (t := t) (p := r.left), ?_⟩ | refine ⟨_, hr, ?_⟩ | refine ⟨_, keptC (r := r), ?_⟩ | refine ⟨_, hcr, ?_⟩ | refine ⟨_, hmk, ?_⟩ | refine ⟨_, condC (t := t) (p := r.left) (c := r.cond), ?_⟩); simp +decide (maxSteps := 4000000) only [q0, h1, q2, q3, go_sem, Nat.reduceAdd, Nat.reduceMul])) | apply cond2_intro | with_reducible apply And.intro | intro h)
  have q3 : (rightF t r != 0) = false := by simpa using h3
  by_cases h4 : keptF r = 0
  case neg =>
    have q4 : (keptF r != 0) = true := by simpa using h4
    have hF : ruleF t r = keptF r := by unfold ruleF; rw [if_neg (by simp [h0]), if_neg (by simp [h1]), if_neg (by simp [h2]), if_neg (by simp [h3]), if_pos h4]
    rw [hF]
    refine ConC.con (ent _ Tryz.func14 rfl rfl) (con_of_body env Tryz.func14 rfl (nt := 61) (rs := [.tmp 4]) rfl rfl (Nat.le_of_ble_eq_true rfl) fun hok => ?_)
    repeat' (first | (first | (refine AWP.go env ?_; intro K fin; try simp +decide (maxSteps := 4000000) only [q0, h1, q2, q3, q4, go_sem, Nat.reduceAdd, Nat.reduceMul]) | refine Kt.h _ _ ?_ | refine Ft.k (by decide +kernel) ?_ | ((first | refine ⟨_, typesC (t := t), ?_⟩ | refine ⟨_, isNameC (s := r.name), ?_⟩ | refine ⟨_, pattC (t := t) (p := r.left), ?_⟩ | refine ⟨_, hr, ?_⟩ | refine ⟨_, keptC (r := r), ?_⟩ | refine ⟨_, hcr, ?_⟩ | refine ⟨_, hmk, ?_⟩ | refine ⟨_, condC (t := t) (p := r.left) (c := r.cond), ?_⟩); simp +decide (maxSteps := 4000000) only [q0, h1, q2, q3, q4, go_sem, Nat.reduceAdd, Nat.reduceMul])) | apply cond2_intro | with_reducible apply And.intro | intro h)
  have q4 : (keptF r != 0) = false := by simpa using h4
  obtain ⟨hg, hty⟩ := rightF_ok h3
  obtain ⟨gl1, gl2, _, _⟩ := graphF_ok hg
  have hcr := createdC (r := r) (by omega) (by omega)
  have hmk := makableC hg (typedB_ok hg hty) (created_range (r := r)).1 (created_range (r := r)).2
  by_cases h5 : makableF t r.right.graph (createdF r).nodes (createdF r).edges = true
  case neg =>
    have q5 : makableF t r.right.graph (createdF r).nodes (createdF r).edges = false := by simpa using h5
    have hF : ruleF t r = 13 := by unfold ruleF; rw [if_neg (by simp [h0]), if_neg (by simp [h1]), if_neg (by simp [h2]), if_neg (by simp [h3]), if_neg (by simp [h4]), if_pos q5]
    rw [hF]
    refine ConC.con (ent _ Tryz.func14 rfl rfl) (con_of_body env Tryz.func14 rfl (nt := 61) (rs := [.tmp 4]) rfl rfl (Nat.le_of_ble_eq_true rfl) fun hok => ?_)
    repeat' (first | (first | (refine AWP.go env ?_; intro K fin; try simp +decide (maxSteps := 4000000) only [q0, h1, q2, q3, q4, q5, go_sem, Nat.reduceAdd, Nat.reduceMul]) | refine Kt.h _ _ ?_ | refine Ft.k (by decide +kernel) ?_ | ((first | refine ⟨_, typesC (t := t), ?_⟩ | refine ⟨_, isNameC (s := r.name), ?_⟩ | refine ⟨_, pattC (t := t) (p := r.left), ?_⟩ | refine ⟨_, hr, ?_⟩ | refine ⟨_, keptC (r := r), ?_⟩ | refine ⟨_, hcr, ?_⟩ | refine ⟨_, hmk, ?_⟩ | refine ⟨_, condC (t := t) (p := r.left) (c := r.cond), ?_⟩); simp +decide (maxSteps := 4000000) only [q0, h1, q2, q3, q4, q5, go_sem, Nat.reduceAdd, Nat.reduceMul])) | apply cond2_intro | with_reducible apply And.intro | intro h)
  have hF : ruleF t r = condF t r.left r.cond := by unfold ruleF; rw [if_neg (by simp [h0]), if_neg (by simp [h1]), if_neg (by simp [h2]), if_neg (by simp [h3]), if_neg (by simp [h4]), if_neg (by simp [h5])]
  rw [hF]
  refine ConC.con (ent _ Tryz.func14 rfl rfl) (con_of_body env Tryz.func14 rfl (nt := 61) (rs := [.tmp 4]) rfl rfl (Nat.le_of_ble_eq_true rfl) fun hok => ?_)
  repeat' (first | (first | (refine AWP.go env ?_; intro K fin; try simp +decide (maxSteps := 4000000) only [q0, h1, q2, q3, q4, h5, rCond, go_sem, Nat.reduceAdd, Nat.reduceMul]) | refine Kt.h _ _ ?_ | refine Ft.k (by decide +kernel) ?_ | ((first | refine ⟨_, typesC (t := t), ?_⟩ | refine ⟨_, isNameC (s := r.name), ?_⟩ | refine ⟨_, pattC (t := t) (p := r.left), ?_⟩ | refine ⟨_, hr, ?_⟩ | refine ⟨_, keptC (r := r), ?_⟩ | refine ⟨_, hcr, ?_⟩ | refine ⟨_, hmk, ?_⟩ | refine ⟨_, condC (t := t) (p := r.left) (c := r.cond), ?_⟩); simp +decide (maxSteps := 4000000) only [q0, h1, q2, q3, q4, h5, rCond, go_sem, Nat.reduceAdd, Nat.reduceMul])) | apply cond2_intro | with_reducible apply And.intro | intro h)

theorem rRuleC {t : Types} (hfew : ∀ n ∈ t.nodes, n.attrs.length ≤ 30) {r : Rul} : Con Tryz.prog 15 [dTypes t, dRule r] (.int .i64 (ruleF t r)) := by
  by_cases h0 : (typesF t).2 = 0
  case neg =>
    have q0 : ((typesF t).2 != 0) = true := by simpa using h0
    have hF : ruleF t r = (typesF t).2 := by unfold ruleF; rw [if_pos h0]
    rw [hF]
    refine ConC.con (ent _ Tryz.func15 rfl rfl) (con_of_body env Tryz.func15 rfl (nt := 73) (rs := [.tmp 4]) rfl rfl (Nat.le_of_ble_eq_true rfl) fun hok => ?_)
    repeat' (first | (first | (refine AWP.go env ?_; intro K fin; try simp +decide (maxSteps := 4000000) only [q0, go_sem, Nat.reduceAdd, Nat.reduceMul]) | refine Kt.h _ _ ?_ | refine Ft.k (by decide +kernel) ?_ | ((first | refine ⟨_, typesC (t := t), ?_⟩ | refine ⟨_, isNameC (s := r.name), ?_⟩ | refine ⟨_, pattC (t := t) (p := r.left), ?_⟩ | refine ⟨_, hr, ?_⟩ | refine ⟨_, keptC (r := r), ?_⟩ | refine ⟨_, hcr, ?_⟩ | refine ⟨_, hmk, ?_⟩ | refine ⟨_, condC (t := t) (p := r.left) (c := r.cond), ?_⟩ | refine ⟨_, rTypesC hfew, ?_⟩ | refine ⟨_, rIsNameC (s := r.name), ?_⟩ | refine ⟨_, rPattC hfew (p := r.left), ?_⟩ | refine ⟨_, hr, ?_⟩ | refine ⟨_, spanC (r := r), ?_⟩ | refine ⟨_, rDistC (l := r.into.nodes), ?_⟩ | refine ⟨_, rDistC (l := r.into.edges), ?_⟩ | refine ⟨_, hcr, ?_⟩ | refine ⟨_, hmk, ?_⟩ | refine ⟨_, rCondC hfew (p := r.left) (c := r.cond), ?_⟩); simp +decide (maxSteps := 4000000) only [q0, go_sem, Nat.reduceAdd, Nat.reduceMul])) | apply cond2_intro | with_reducible apply And.intro | intro h)
  have q0 : ((typesF t).2 != 0) = false := by simpa using h0
  have hr := rRightSC hfew (r := r) h0
  by_cases h1 : isNameF r.name = true
  case neg =>
    have q1 : isNameF r.name = false := by simpa using h1
    have hF : ruleF t r = 2 := by unfold ruleF; rw [if_neg (by simp [h0]), if_pos q1]
    rw [hF]
    refine ConC.con (ent _ Tryz.func15 rfl rfl) (con_of_body env Tryz.func15 rfl (nt := 73) (rs := [.tmp 4]) rfl rfl (Nat.le_of_ble_eq_true rfl) fun hok => ?_)
    repeat' (first | (first | (refine AWP.go env ?_; intro K fin; try simp +decide (maxSteps := 4000000) only [q0, q1, go_sem, Nat.reduceAdd, Nat.reduceMul]) | refine Kt.h _ _ ?_ | refine Ft.k (by decide +kernel) ?_ | ((first | refine ⟨_, typesC (t := t), ?_⟩ | refine ⟨_, isNameC (s := r.name), ?_⟩ | refine ⟨_, pattC (t := t) (p := r.left), ?_⟩ | refine ⟨_, hr, ?_⟩ | refine ⟨_, keptC (r := r), ?_⟩ | refine ⟨_, hcr, ?_⟩ | refine ⟨_, hmk, ?_⟩ | refine ⟨_, condC (t := t) (p := r.left) (c := r.cond), ?_⟩ | refine ⟨_, rTypesC hfew, ?_⟩ | refine ⟨_, rIsNameC (s := r.name), ?_⟩ | refine ⟨_, rPattC hfew (p := r.left), ?_⟩ | refine ⟨_, hr, ?_⟩ | refine ⟨_, spanC (r := r), ?_⟩ | refine ⟨_, rDistC (l := r.into.nodes), ?_⟩ | refine ⟨_, rDistC (l := r.into.edges), ?_⟩ | refine ⟨_, hcr, ?_⟩ | refine ⟨_, hmk, ?_⟩ | refine ⟨_, rCondC hfew (p := r.left) (c := r.cond), ?_⟩); simp +decide (maxSteps := 4000000) only [q0, q1, go_sem, Nat.reduceAdd, Nat.reduceMul])) | apply cond2_intro | with_reducible apply And.intro | intro h)
  by_cases h2 : pattF t r.left = 0
  case neg =>
    have q2 : (pattF t r.left != 0) = true := by simpa using h2
    have hF : ruleF t r = pattF t r.left := by unfold ruleF; rw [if_neg (by simp [h0]), if_neg (by simp [h1]), if_pos h2]
    rw [hF]
    refine ConC.con (ent _ Tryz.func15 rfl rfl) (con_of_body env Tryz.func15 rfl (nt := 73) (rs := [.tmp 4]) rfl rfl (Nat.le_of_ble_eq_true rfl) fun hok => ?_)
    repeat' (first | (first | (refine AWP.go env ?_; intro K fin; try simp +decide (maxSteps := 4000000) only [q0, h1, q2, go_sem, Nat.reduceAdd, Nat.reduceMul]) | refine Kt.h _ _ ?_ | refine Ft.k (by decide +kernel) ?_ | ((first | refine ⟨_, typesC (t := t), ?_⟩ | refine ⟨_, isNameC (s := r.name), ?_⟩ | refine ⟨_, pattC (t := t) (p := r.left), ?_⟩ | refine ⟨_, hr, ?_⟩ | refine ⟨_, keptC (r := r), ?_⟩ | refine ⟨_, hcr, ?_⟩ | refine ⟨_, hmk, ?_⟩ | refine ⟨_, condC (t := t) (p := r.left) (c := r.cond), ?_⟩ | refine ⟨_, rTypesC hfew, ?_⟩ | refine ⟨_, rIsNameC (s := r.name), ?_⟩ | refine ⟨_, rPattC hfew (p := r.left), ?_⟩ | refine ⟨_, hr, ?_⟩ | refine ⟨_, spanC (r := r), ?_⟩ | refine ⟨_, rDistC (l := r.into.nodes), ?_⟩ | refine ⟨_, rDistC (l := r.into.edges), ?_⟩ | refine ⟨_, hcr, ?_⟩ | refine ⟨_, hmk, ?_⟩ | refine ⟨_, rCondC hfew (p := r.left) (c := r.cond), ?_⟩); simp +decide (maxSteps := 4000000) only [q0, h1, q2, go_sem, Nat.reduceAdd, Nat.reduceMul])) | apply cond2_intro | with_reducible apply And.intro | intro h)
  have q2 : (pattF t r.left != 0) = false := by simpa using h2
  by_cases h3 : rightF t r = 0
  case neg =>
    have q3 : (rightF t r != 0) = true := by simpa using h3
    have hF : ruleF t r = rightF t r := by unfold ruleF; rw [if_neg (by simp [h0]), if_neg (by simp [h1]), if_neg (by simp [h2]), if_pos h3]
    rw [hF]
    refine ConC.con (ent _ Tryz.func15 rfl rfl) (con_of_body env Tryz.func15 rfl (nt := 73) (rs := [.tmp 4]) rfl rfl (Nat.le_of_ble_eq_true rfl) fun hok => ?_)
    repeat' (first | (first | (refine AWP.go env ?_; intro K fin; try simp +decide (maxSteps := 4000000) only [q0, h1, q2, q3, go_sem, Nat.reduceAdd, Nat.reduceMul]) | refine Kt.h _ _ ?_ | refine Ft.k (by decide +kernel) ?_ | ((first | refine ⟨_, typesC (t := t), ?_⟩ | refine ⟨_, isNameC (s := r.name), ?_⟩ | refine ⟨_, pattC (t := t) (p := r.left), ?_⟩ | refine ⟨_, hr, ?_⟩ | refine ⟨_, keptC (r := r), ?_⟩ | refine ⟨_, hcr, ?_⟩ | refine ⟨_, hmk, ?_⟩ | refine ⟨_, condC (t := t) (p := r.left) (c := r.cond), ?_⟩ | refine ⟨_, rTypesC hfew, ?_⟩ | refine ⟨_, rIsNameC (s := r.name), ?_⟩ | refine ⟨_, rPattC hfew (p := r.left), ?_⟩ | refine ⟨_, hr, ?_⟩ | refine ⟨_, spanC (r := r), ?_⟩ | refine ⟨_, rDistC (l := r.into.nodes), ?_⟩ | refine ⟨_, rDistC (l := r.into.edges), ?_⟩ | refine ⟨_, hcr, ?_⟩ | refine ⟨_, hmk, ?_⟩ | refine ⟨_, rCondC hfew (p := r.left) (c := r.cond), ?_⟩); simp +decide (maxSteps := 4000000) only [q0, h1, q2, q3, go_sem, Nat.reduceAdd, Nat.reduceMul])) | apply cond2_intro | with_reducible apply And.intro | intro h)
  have q3 : (rightF t r != 0) = false := by simpa using h3
  by_cases h4a : spanF r = 0
  case neg =>
    have q4 : (spanF r != 0) = true := by simpa using h4a
    have hk : keptF r = spanF r := by unfold keptF; rw [if_pos h4a]
    have hF : ruleF t r = spanF r := by unfold ruleF; rw [if_neg (by simp [h0]), if_neg (by simp [h1]), if_neg (by simp [h2]), if_neg (by simp [h3]), hk, if_pos h4a]
    rw [hF]
    refine ConC.con (ent _ Tryz.func15 rfl rfl) (con_of_body env Tryz.func15 rfl (nt := 73) (rs := [.tmp 4]) rfl rfl (Nat.le_of_ble_eq_true rfl) fun hok => ?_)
    repeat' (first | (first | (refine AWP.go env ?_; intro K fin; try simp +decide (maxSteps := 4000000) only [q0, h1, q2, q3, q4, go_sem, Nat.reduceAdd, Nat.reduceMul]) | refine Kt.h _ _ ?_ | refine Ft.k (by decide +kernel) ?_ | ((first | refine ⟨_, typesC (t := t), ?_⟩ | refine ⟨_, isNameC (s := r.name), ?_⟩ | refine ⟨_, pattC (t := t) (p := r.left), ?_⟩ | refine ⟨_, hr, ?_⟩ | refine ⟨_, keptC (r := r), ?_⟩ | refine ⟨_, hcr, ?_⟩ | refine ⟨_, hmk, ?_⟩ | refine ⟨_, condC (t := t) (p := r.left) (c := r.cond), ?_⟩ | refine ⟨_, rTypesC hfew, ?_⟩ | refine ⟨_, rIsNameC (s := r.name), ?_⟩ | refine ⟨_, rPattC hfew (p := r.left), ?_⟩ | refine ⟨_, hr, ?_⟩ | refine ⟨_, spanC (r := r), ?_⟩ | refine ⟨_, rDistC (l := r.into.nodes), ?_⟩ | refine ⟨_, rDistC (l := r.into.edges), ?_⟩ | refine ⟨_, hcr, ?_⟩ | refine ⟨_, hmk, ?_⟩ | refine ⟨_, rCondC hfew (p := r.left) (c := r.cond), ?_⟩); simp +decide (maxSteps := 4000000) only [q0, h1, q2, q3, q4, go_sem, Nat.reduceAdd, Nat.reduceMul])) | apply cond2_intro | with_reducible apply And.intro | intro h)
  have q4 : (spanF r != 0) = false := by simpa using h4a
  by_cases h4b : distF r.into.nodes = true
  case neg =>
    have q4b : distF r.into.nodes = false := by simpa using h4b
    have hk : keptF r = 11 := by unfold keptF; rw [if_neg (by simp [h4a]), if_neg (by simp [q4b])]
    have hF : ruleF t r = 11 := by unfold ruleF; rw [if_neg (by simp [h0]), if_neg (by simp [h1]), if_neg (by simp [h2]), if_neg (by simp [h3]), hk]; try rfl
    rw [hF]
    refine ConC.con (ent _ Tryz.func15 rfl rfl) (con_of_body env Tryz.func15 rfl (nt := 73) (rs := [.tmp 4]) rfl rfl (Nat.le_of_ble_eq_true rfl) fun hok => ?_)
    repeat' (first | (first | (refine AWP.go env ?_; intro K fin; try simp +decide (maxSteps := 4000000) only [q0, h1, q2, q3, q4, q4b, go_sem, Nat.reduceAdd, Nat.reduceMul]) | refine Kt.h _ _ ?_ | refine Ft.k (by decide +kernel) ?_ | ((first | refine ⟨_, typesC (t := t), ?_⟩ | refine ⟨_, isNameC (s := r.name), ?_⟩ | refine ⟨_, pattC (t := t) (p := r.left), ?_⟩ | refine ⟨_, hr, ?_⟩ | refine ⟨_, keptC (r := r), ?_⟩ | refine ⟨_, hcr, ?_⟩ | refine ⟨_, hmk, ?_⟩ | refine ⟨_, condC (t := t) (p := r.left) (c := r.cond), ?_⟩ | refine ⟨_, rTypesC hfew, ?_⟩ | refine ⟨_, rIsNameC (s := r.name), ?_⟩ | refine ⟨_, rPattC hfew (p := r.left), ?_⟩ | refine ⟨_, hr, ?_⟩ | refine ⟨_, spanC (r := r), ?_⟩ | refine ⟨_, rDistC (l := r.into.nodes), ?_⟩ | refine ⟨_, rDistC (l := r.into.edges), ?_⟩ | refine ⟨_, hcr, ?_⟩ | refine ⟨_, hmk, ?_⟩ | refine ⟨_, rCondC hfew (p := r.left) (c := r.cond), ?_⟩); simp +decide (maxSteps := 4000000) only [q0, h1, q2, q3, q4, q4b, go_sem, Nat.reduceAdd, Nat.reduceMul])) | apply cond2_intro | with_reducible apply And.intro | intro h)
  by_cases h4c : distF r.into.edges = true
  case neg =>
    have q4c : distF r.into.edges = false := by simpa using h4c
    have hk : keptF r = 11 := by unfold keptF; rw [if_neg (by simp [h4a]), if_neg (by simp [q4c])]
    have hF : ruleF t r = 11 := by unfold ruleF; rw [if_neg (by simp [h0]), if_neg (by simp [h1]), if_neg (by simp [h2]), if_neg (by simp [h3]), hk]; try rfl
    rw [hF]
    refine ConC.con (ent _ Tryz.func15 rfl rfl) (con_of_body env Tryz.func15 rfl (nt := 73) (rs := [.tmp 4]) rfl rfl (Nat.le_of_ble_eq_true rfl) fun hok => ?_)
    repeat' (first | (first | (refine AWP.go env ?_; intro K fin; try simp +decide (maxSteps := 4000000) only [q0, h1, q2, q3, q4, h4b, q4c, go_sem, Nat.reduceAdd, Nat.reduceMul]) | refine Kt.h _ _ ?_ | refine Ft.k (by decide +kernel) ?_ | ((first | refine ⟨_, typesC (t := t), ?_⟩ | refine ⟨_, isNameC (s := r.name), ?_⟩ | refine ⟨_, pattC (t := t) (p := r.left), ?_⟩ | refine ⟨_, hr, ?_⟩ | refine ⟨_, keptC (r := r), ?_⟩ | refine ⟨_, hcr, ?_⟩ | refine ⟨_, hmk, ?_⟩ | refine ⟨_, condC (t := t) (p := r.left) (c := r.cond), ?_⟩ | refine ⟨_, rTypesC hfew, ?_⟩ | refine ⟨_, rIsNameC (s := r.name), ?_⟩ | refine ⟨_, rPattC hfew (p := r.left), ?_⟩ | refine ⟨_, hr, ?_⟩ | refine ⟨_, spanC (r := r), ?_⟩ | refine ⟨_, rDistC (l := r.into.nodes), ?_⟩ | refine ⟨_, rDistC (l := r.into.edges), ?_⟩ | refine ⟨_, hcr, ?_⟩ | refine ⟨_, hmk, ?_⟩ | refine ⟨_, rCondC hfew (p := r.left) (c := r.cond), ?_⟩); simp +decide (maxSteps := 4000000) only [q0, h1, q2, q3, q4, h4b, q4c, go_sem, Nat.reduceAdd, Nat.reduceMul])) | apply cond2_intro | with_reducible apply And.intro | intro h)
  have h4 : keptF r = 0 := by unfold keptF; rw [if_neg (by simp [h4a]), if_pos (by simp [h4b, h4c])]
  obtain ⟨hg, hty⟩ := rightF_ok h3
  obtain ⟨gl1, gl2, _, _⟩ := graphF_ok hg
  have hcr := rCreatedC (r := r) (by omega) (by omega)
  have hmk := properC hfew hg (typedB_ok hg hty) (created_range (r := r)).1 (created_range (r := r)).2
  by_cases h5 : makableF t r.right.graph (createdF r).nodes (createdF r).edges = true
  case neg =>
    have q5 : makableF t r.right.graph (createdF r).nodes (createdF r).edges = false := by simpa using h5
    have hF : ruleF t r = 13 := by unfold ruleF; rw [if_neg (by simp [h0]), if_neg (by simp [h1]), if_neg (by simp [h2]), if_neg (by simp [h3]), if_neg (by simp [h4]), if_pos q5]
    rw [hF]
    refine ConC.con (ent _ Tryz.func15 rfl rfl) (con_of_body env Tryz.func15 rfl (nt := 73) (rs := [.tmp 4]) rfl rfl (Nat.le_of_ble_eq_true rfl) fun hok => ?_)
    repeat' (first | (first | (refine AWP.go env ?_; intro K fin; try simp +decide (maxSteps := 4000000) only [q0, h1, q2, q3, q4, h4b, h4c, q5, go_sem, Nat.reduceAdd, Nat.reduceMul]) | refine Kt.h _ _ ?_ | refine Ft.k (by decide +kernel) ?_ | ((first | refine ⟨_, typesC (t := t), ?_⟩ | refine ⟨_, isNameC (s := r.name), ?_⟩ | refine ⟨_, pattC (t := t) (p := r.left), ?_⟩ | refine ⟨_, hr, ?_⟩ | refine ⟨_, keptC (r := r), ?_⟩ | refine ⟨_, hcr, ?_⟩ | refine ⟨_, hmk, ?_⟩ | refine ⟨_, condC (t := t) (p := r.left) (c := r.cond), ?_⟩ | refine ⟨_, rTypesC hfew, ?_⟩ | refine ⟨_, rIsNameC (s := r.name), ?_⟩ | refine ⟨_, rPattC hfew (p := r.left), ?_⟩ | refine ⟨_, hr, ?_⟩ | refine ⟨_, spanC (r := r), ?_⟩ | refine ⟨_, rDistC (l := r.into.nodes), ?_⟩ | refine ⟨_, rDistC (l := r.into.edges), ?_⟩ | refine ⟨_, hcr, ?_⟩ | refine ⟨_, hmk, ?_⟩ | refine ⟨_, rCondC hfew (p := r.left) (c := r.cond), ?_⟩); simp +decide (maxSteps := 4000000) only [q0, h1, q2, q3, q4, h4b, h4c, q5, go_sem, Nat.reduceAdd, Nat.reduceMul])) | apply cond2_intro | with_reducible apply And.intro | intro h)
  have hF : ruleF t r = condF t r.left r.cond := by unfold ruleF; rw [if_neg (by simp [h0]), if_neg (by simp [h1]), if_neg (by simp [h2]), if_neg (by simp [h3]), if_neg (by simp [h4]), if_neg (by simp [h5])]
  rw [hF]
  refine ConC.con (ent _ Tryz.func15 rfl rfl) (con_of_body env Tryz.func15 rfl (nt := 73) (rs := [.tmp 4]) rfl rfl (Nat.le_of_ble_eq_true rfl) fun hok => ?_)
  repeat' (first | (first | (refine AWP.go env ?_; intro K fin; try simp +decide (maxSteps := 4000000) only [q0, h1, q2, q3, q4, h4b, h4c, h5, rCond, go_sem, Nat.reduceAdd, Nat.reduceMul]) | refine Kt.h _ _ ?_ | refine Ft.k (by decide +kernel) ?_ | ((first | refine ⟨_, typesC (t := t), ?_⟩ | refine ⟨_, isNameC (s := r.name), ?_⟩ | refine ⟨_, pattC (t := t) (p := r.left), ?_⟩ | refine ⟨_, hr, ?_⟩ | refine ⟨_, keptC (r := r), ?_⟩ | refine ⟨_, hcr, ?_⟩ | refine ⟨_, hmk, ?_⟩ | refine ⟨_, condC (t := t) (p := r.left) (c := r.cond), ?_⟩ | refine ⟨_, rTypesC hfew, ?_⟩ | refine ⟨_, rIsNameC (s := r.name), ?_⟩ | refine ⟨_, rPattC hfew (p := r.left), ?_⟩ | refine ⟨_, hr, ?_⟩ | refine ⟨_, spanC (r := r), ?_⟩ | refine ⟨_, rDistC (l := r.into.nodes), ?_⟩ | refine ⟨_, rDistC (l := r.into.edges), ?_⟩ | refine ⟨_, hcr, ?_⟩ | refine ⟨_, hmk, ?_⟩ | refine ⟨_, rCondC hfew (p := r.left) (c := r.cond), ?_⟩); simp +decide (maxSteps := 4000000) only [q0, h1, q2, q3, q4, h4b, h4c, h5, rCond, go_sem, Nat.reduceAdd, Nat.reduceMul])) | apply cond2_intro | with_reducible apply And.intro | intro h)
end Go.Abs
/- What may stand in the place of an argument, deep. -/
namespace Go.Abs
open Go Go.RowKit

/-- nil for a slice without elements, at any depth. -/
inductive LeW : D → D → Prop
  | refl (d : D) : LeW d d
  | nil (sz : Nat) : LeW .nil (.fsl sz [])
  | agg (cs ds : List D) (hl : cs.length = ds.length) (h : ∀ i, i < cs.length → LeW (getC cs i) (getC ds i)) : LeW (.agg cs) (.agg ds)
  | fsl (sz : Nat) (rows rows' : List (List D)) (hl : rows.length = rows'.length) (hr : ∀ r ∈ rows', r.length = sz ∧ ∀ d ∈ r, D.pc d = true)
      (h : ∀ i j, i < rows.length → j < sz → LeW (getC (getR rows i) j) (getC (getR rows' i) j)) : LeW (.fsl sz rows) (.fsl sz rows')

theorem LeW.enc {w : World} {Z : Nat → Prop} {E : Nat → Nat → Value → Prop} {F : Nat → Nat → Nat → Nat → Value → Prop} {a b : D} (h : LeW a b) : ∀ {v : Value}, Enc w Z E F a v → Enc w Z E F b v := by
  induction h with
  | refl d => exact fun h => h
  | nil sz => intro v h; cases h; exact .fslNil _
  | agg cs ds hl _ ih =>
    intro v h
    cases h with
    | agg _ vs hs h1 hc => exact .agg _ vs (by omega) (fun i hi => h1 i (by omega)) fun i hi => ih i (by omega) (hc i (by omega))
  | fsl sz rows rows' hl hr _ ih =>
    intro v h
    cases h with
    | fslNil =>
      obtain rfl : rows' = [] := List.eq_nil_of_length_eq_zero (by simpa using hl.symm)
      exact .fslNil _
    | fslE =>
      obtain rfl : rows' = [] := List.eq_nil_of_length_eq_zero (by simpa using hl.symm)
      exact .fslE ..
    | fsl _ _ b off c cv hc hl' hr' hz hcell h1 he =>
      rw [hl]
      exact .fsl sz rows' b off c cv (by omega) (by omega) hr (fun i j hi hj => hz i j (by omega) hj) (fun i j hi hj => hcell i j (by omega) hj) (fun i j hi hj => h1 i j (by omega) hj) fun i j hi hj => ih i j (by omega) hj (he i j (by omega) hj)

def leB : Nat → D → D → Bool
  | 0, _, _ => false
  | _ + 1, .nil, .nil => true
  | _ + 1, .nil, .fsl _ rows => rows.isEmpty
  | n + 1, .agg cs, .agg ds => cs.length == ds.length && (List.range cs.length).all fun i => leB n (getC cs i) (getC ds i)
  | n + 1, .fsl sz rows, .fsl sz' rows' => sz == sz' && rows.length == rows'.length && (rows'.all fun r => r.length == sz && r.all D.pc) &&
      (List.range rows.length).all fun i => (List.range sz).all fun j => leB n (getC (getR rows i) j) (getC (getR rows' i) j)
  | _ + 1, .int k n, .int k' n' => decide (k = k') && decide (n = n')
  | _ + 1, .bool b, .bool b' => b == b'
  | _ + 1, .str s, .str s' => decide (s.data = s'.data)
  | _ + 1, _, _ => false

theorem leB_sound : ∀ {n : Nat} {a b : D}, leB n a b = true → LeW a b := by
  intro n
  induction n with
  | zero => intro a b h; simp [leB] at h
  | succ n ih =>
    intro a b h
    unfold leB at h
    split at h
    · cases h
    · exact .refl _
    · rename_i sz rows _
      obtain rfl : rows = [] := by simpa using h
      exact .nil _
    · rename_i n' cs ds he
      cases he
      simp only [Bool.and_eq_true, List.all_eq_true, List.mem_range, beq_iff_eq] at h
      exact .agg _ _ h.1 fun i hi => ih (h.2 i hi)
    · rename_i n' sz rows sz' rows' he
      cases he
      simp only [Bool.and_eq_true, List.all_eq_true, List.mem_range, beq_iff_eq] at h
      obtain ⟨⟨⟨rfl, h2⟩, h3⟩, h4⟩ := h
      exact .fsl _ _ _ h2 h3 fun i j hi hj => ih (h4 i hi j hj)
    · simp only [Bool.and_eq_true, decide_eq_true_eq] at h
      obtain ⟨rfl, rfl⟩ := h
      exact .refl _
    · have h := beq_iff_eq.1 h; subst h; exact .refl _
    · rename_i s s' _
      have h : s.data = s'.data := of_decide_eq_true h
      cases s; cases s'; cases h; exact .refl _
    · cases h

theorem Con.leW {P : Program} {f : FuncId} {args args' : List D} {r : D} (h : Con P f args r) (n : Nat) (hl : args'.length = args.length) (hle : ((List.range args'.length).all fun i => leB n (getC args' i) (getC args i)) = true) (hn : nslArgs args = false := by rfl) (hn' : nslArgs args' = false := by rfl) : Con P f args' r := by
  simp only [List.all_eq_true, List.mem_range] at hle
  refine ConV.con (fun w Z0 vs h1 h2 h3 => (h.v hn) w Z0 vs h1 (by rw [h2, hl]) fun i hi => ?_) hn'
  exact (leB_sound (hle i (by omega))).enc (h3 i (by omega))

end Go.Abs
/- Deleted, Created; plain rules; the inverse. -/
set_option linter.unusedSimpArgs false
set_option linter.unusedVariables false
set_option maxRecDepth 20000
set_option maxHeartbeats 4000000
namespace Go.Abs
open Go Go.RowKit Go.Proofs
attribute [local irreducible] Con AWP

abbrev nInts (l : List Int) : D := .nsl 3 1 (l.map rI)
abbrev nEdges (l : List Edge) : D := .nsl 143 3 (l.map rEdge)

theorem pattF_ok {t : Types} {p : Patt} (h : pattF t p = 0) : (typesF t).2 = 0 ∧ graphF p.graph = 0 ∧ typedB t p.graph = true ∧ p.slots.length ≤ 10 ∧ p.tests.length ≤ 10 ∧ 0 ≤ p.vars ∧ p.vars ≤ 12 := by
  unfold pattF at h
  split at h
  · rename_i h1; exact absurd h h1
  rename_i h1
  split at h
  · rename_i h2; exact absurd h h2
  rename_i h2
  split at h
  · cases h
  rename_i h3
  split at h
  · cases h
  rename_i h4
  split at h
  · cases h
  rename_i h5
  exact ⟨by simpa using h1, by simpa using h2, by simpa using h3, by omega, by omega, by omega, by omega⟩

theorem ruleF_ok {t : Types} {r : Rul} (h : ruleF t r = 0) : (typesF t).2 = 0 ∧ pattF t r.left = 0 ∧ rightF t r = 0 ∧ keptF r = 0 ∧ makableF t r.right.graph (createdF r).nodes (createdF r).edges = true ∧ condF t r.left r.cond = 0 := by
  unfold ruleF at h
  split at h
  · rename_i h1; exact absurd h h1
  rename_i h1
  split at h
  · cases h
  rename_i h2
  split at h
  · rename_i h3; exact absurd h h3
  rename_i h3
  split at h
  · rename_i h4; exact absurd h h4
  rename_i h4
  split at h
  · rename_i h5; exact absurd h h5
  rename_i h5
  split at h
  · cases h
  rename_i h6
  exact ⟨by simpa using h1, by simpa using h3, by simpa using h4, by simpa using h5, by simpa using h6, h⟩

theorem morF_lens {a b : Graph} {m : Two} (h : morF a b m = 0) : m.nodes.length = a.nodes.length ∧ m.edges.length = a.edges.length := by
  unfold morF at h
  split at h
  · rename_i h1; exact absurd h h1
  split at h
  · rename_i h1; exact absurd h h1
  split at h
  · cases h
  rename_i h3
  omega

theorem keptF_ok {r : Rul} (h : keptF r = 0) : subF r.left.graph r.keep = 0 ∧ morF (extractF r.left.graph r.keep) r.right.graph r.into = 0 ∧ distF r.into.nodes = true ∧ distF r.into.edges = true := by
  unfold keptF at h
  split at h
  · rename_i h1; exact absurd h h1
  rename_i h1
  split at h
  · rename_i h2
    obtain ⟨h3, h4⟩ := spanF_ok (by simpa using h1)
    rw [Bool.and_eq_true] at h2
    exact ⟨h3, h4, h2.1, h2.2⟩
  · cases h

theorem into_lens {r : Rul} (h : keptF r = 0) : r.into.nodes.length = r.keep.nodes.length ∧ r.into.edges.length = r.keep.edges.length := by
  obtain ⟨_, h2, _⟩ := keptF_ok h
  have := morF_lens h2
  simpa [extractF] using this

theorem deleted_range {r : Rul} : (∀ i ∈ (deletedF r).nodes, 0 ≤ i ∧ i < r.left.graph.nodes.length) ∧ ∀ i ∈ (deletedF r).edges, 0 ≤ i ∧ i < r.left.graph.edges.length := ⟨othersF_range, othersF_range⟩

def plainB (r : Rul) : Bool := r.left.vars == 0 && decide (r.left.slots.length + r.left.tests.length + r.right.slots.length = 0) && r.cond.kind == 1

theorem dRule_lens {r : Rul} (h : DOk (dRule r)) : r.left.slots.length ≤ 140737488355328 ∧ r.left.tests.length ≤ 140737488355328 ∧ r.right.slots.length ≤ 140737488355328 := by
  have e1 : DOk (.fsl 4 (r.left.slots.map rSlot)) := h.mem (by simp)
  have e2 : DOk (.fsl 5 (r.left.tests.map rTest)) := h.mem (by simp)
  have e3 : DOk (.fsl 4 (r.right.slots.map rSlot)) := h.mem (by simp)
  exact ⟨by simpa using e1.len, by simpa using e2.len, by simpa using e3.len⟩

theorem plainC {r : Rul} : Con Tryz.prog 139 [dRule r] (.bool (plainB r)) := by
  refine ConC.con (ent _ Tryz.func139 rfl rfl) (con_of_body env Tryz.func139 rfl (nt := 30) (rs := [.tmp 2]) rfl rfl (Nat.le_of_ble_eq_true rfl) fun hok => ?_)
  obtain ⟨l1, l2, l3⟩ := dRule_lens (hok (dRule r) (by simp))
  have w1 := wadd (a := r.left.slots.length) (b := r.left.tests.length) (by omega)
  have w2 := wadd (a := r.left.slots.length + r.left.tests.length) (b := r.right.slots.length) (by omega)
  by_cases hs : r.left.slots.length + r.left.tests.length + r.right.slots.length = 0
  · have e : (((r.left.slots.length + r.left.tests.length + r.right.slots.length : Nat) : Int) == 0) = true := by rw [hs]; try rfl
    repeat' (first | (first | (refine AWP.go env ?_; intro K fin; try simp +decide (maxSteps := 4000000) only [w1, w2, e, go_sem, Nat.reduceAdd, Nat.reduceMul]) | refine Kt.h _ _ ?_ | refine Ft.k (by decide +kernel) ?_) | apply cond2_intro | with_reducible apply And.intro | intro h)
    all_goals (unfold plainB; simp only [hs]; grind)
  · have e : (((r.left.slots.length + r.left.tests.length + r.right.slots.length : Nat) : Int) == 0) = false := by rw [beq_eq_false_iff_ne]; omega
    repeat' (first | (first | (refine AWP.go env ?_; intro K fin; try simp +decide (maxSteps := 4000000) only [w1, w2, e, go_sem, Nat.reduceAdd, Nat.reduceMul]) | refine Kt.h _ _ ?_ | refine Ft.k (by decide +kernel) ?_) | apply cond2_intro | with_reducible apply And.intro | intro h)
    all_goals (unfold plainB; simp only [hs]; grind)

theorem rPlainBC {r : Rul} : Con Tryz.prog 142 [dRule r] (.bool (plainB r)) := by
  refine ConC.con (ent _ Tryz.func142 rfl rfl) (con_of_body env Tryz.func142 rfl (nt := 30) (rs := [.tmp 2]) rfl rfl (Nat.le_of_ble_eq_true rfl) fun hok => ?_)
  obtain ⟨l1, l2, l3⟩ := dRule_lens (hok (dRule r) (by simp))
  have w1 := wadd (a := r.left.slots.length) (b := r.left.tests.length) (by omega)
  have w2 := wadd (a := r.left.slots.length + r.left.tests.length) (b := r.right.slots.length) (by omega)
  by_cases hs : r.left.slots.length + r.left.tests.length + r.right.slots.length = 0
  · have e : (((r.left.slots.length + r.left.tests.length + r.right.slots.length : Nat) : Int) == 0) = true := by rw [hs]; try rfl
    repeat' (first | (first | (refine AWP.go env ?_; intro K fin; try simp +decide (maxSteps := 4000000) only [w1, w2, e, go_sem, Nat.reduceAdd, Nat.reduceMul]) | refine Kt.h _ _ ?_ | refine Ft.k (by decide +kernel) ?_) | apply cond2_intro | with_reducible apply And.intro | intro h)
    all_goals (unfold plainB; simp only [hs]; grind)
  · have e : (((r.left.slots.length + r.left.tests.length + r.right.slots.length : Nat) : Int) == 0) = false := by rw [beq_eq_false_iff_ne]; omega
    repeat' (first | (first | (refine AWP.go env ?_; intro K fin; try simp +decide (maxSteps := 4000000) only [w1, w2, e, go_sem, Nat.reduceAdd, Nat.reduceMul]) | refine Kt.h _ _ ?_ | refine Ft.k (by decide +kernel) ?_) | apply cond2_intro | with_reducible apply And.intro | intro h)
    all_goals (unfold plainB; simp only [hs]; grind)

def givenRF (t : Types) (r : Rul) : Int := if ruleF t r ≠ 0 then ruleF t r else if plainB r = true then 0 else 8

theorem givenRC {t : Types} {r : Rul} : Con Tryz.prog 63 [dTypes t, dRule r] (.int .i64 (givenRF t r)) := by
  refine ConC.con (ent _ Tryz.func63 rfl rfl) (con_of_body env Tryz.func63 rfl (nt := 15) (rs := [.tmp 4]) rfl rfl (Nat.le_of_ble_eq_true rfl) fun hok => ?_)
  repeat' (first | (first | (refine AWP.go env ?_; intro K fin; try simp +decide (maxSteps := 4000000) only [go_sem, Nat.reduceAdd, Nat.reduceMul]) | refine Kt.h _ _ ?_ | refine Ft.k (by decide +kernel) ?_ | ((first | refine ⟨_, ruleC (t := t) (r := r), ?_⟩ | refine ⟨_, plainC (r := r), ?_⟩); simp +decide (maxSteps := 4000000) only [go_sem, Nat.reduceAdd, Nat.reduceMul])) | apply cond2_intro | with_reducible apply And.intro | intro h)
  all_goals (unfold givenRF; grind)

theorem rGivenRC {t : Types} (hfew : ∀ n ∈ t.nodes, n.attrs.length ≤ 30) {r : Rul} : Con Tryz.prog 67 [dTypes t, dRule r] (.int .i64 (givenRF t r)) := by
  refine ConC.con (ent _ Tryz.func67 rfl rfl) (con_of_body env Tryz.func67 rfl (nt := 15) (rs := [.tmp 4]) rfl rfl (Nat.le_of_ble_eq_true rfl) fun hok => ?_)
  repeat' (first | (first | (refine AWP.go env ?_; intro K fin; try simp +decide (maxSteps := 4000000) only [go_sem, Nat.reduceAdd, Nat.reduceMul]) | refine Kt.h _ _ ?_ | refine Ft.k (by decide +kernel) ?_ | ((first | refine ⟨_, ruleC (t := t) (r := r), ?_⟩ | refine ⟨_, plainC (r := r), ?_⟩ | refine ⟨_, rRuleC hfew (r := r), ?_⟩ | refine ⟨_, rPlainBC (r := r), ?_⟩); simp +decide (maxSteps := 4000000) only [go_sem, Nat.reduceAdd, Nat.reduceMul])) | apply cond2_intro | with_reducible apply And.intro | intro h)
  all_goals (unfold givenRF; grind)

/-! Deleted and Created. -/

theorem DeletedErrC {t : Types} {r : Rul} (h : ruleF t r ≠ 0) : Con Tryz.prog 19 [dTypes t, dRule r] (.tup [.nil, .nil, .int .i64 (ruleF t r)]) := by
  have q : (ruleF t r != 0) = true := by simpa using h
  refine ConC.con (ent _ Tryz.func19 rfl rfl) (con_of_body env Tryz.func19 rfl (nt := 23) (rs := [.tmp 4, .tmp 5, .tmp 6]) rfl rfl (Nat.le_of_ble_eq_true rfl) fun hok => ?_)
  repeat' (first | (first | (refine AWP.go env ?_; intro K fin; try simp +decide (maxSteps := 4000000) only [q, go_sem, Nat.reduceAdd, Nat.reduceMul]) | refine Kt.h _ _ ?_ | refine Ft.k (by decide +kernel) ?_ | ((first | refine ⟨_, ruleC (t := t) (r := r), ?_⟩ | refine ⟨_, plainC (r := r), ?_⟩ | refine ⟨_, rRuleC hfew (r := r), ?_⟩ | refine ⟨_, rPlainBC (r := r), ?_⟩ | refine ⟨_, ruleC (t := t) (r := r), ?_⟩); simp +decide (maxSteps := 4000000) only [q, go_sem, Nat.reduceAdd, Nat.reduceMul])) | apply cond2_intro | with_reducible apply And.intro | intro h)

theorem DeletedOkC {t : Types} {r : Rul} (h : ruleF t r = 0) : Con Tryz.prog 19 [dTypes t, dRule r] (.tup [nInts (deletedF r).nodes, nInts (deletedF r).edges, .int .i64 0]) := by
  have q : (ruleF t r != 0) = false := by simpa using h
  obtain ⟨_, h2, _⟩ := ruleF_ok h
  obtain ⟨_, hg, _⟩ := pattF_ok h2
  obtain ⟨gl1, gl2, _, _⟩ := graphF_ok hg
  have hd := deletedC (r := r) (by omega) (by omega)
  refine ConC.con (ent _ Tryz.func19 rfl rfl) (con_of_body env Tryz.func19 rfl (nt := 23) (rs := [.tmp 4, .tmp 5, .tmp 6]) rfl rfl (Nat.le_of_ble_eq_true rfl) fun hok => ?_)
  repeat' (first | (first | (refine AWP.go env ?_; intro K fin; try simp +decide (maxSteps := 4000000) only [q, go_sem, Nat.reduceAdd, Nat.reduceMul]) | refine Kt.h _ _ ?_ | refine Ft.k (by decide +kernel) ?_ | ((first | refine ⟨_, ruleC (t := t) (r := r), ?_⟩ | refine ⟨_, plainC (r := r), ?_⟩ | refine ⟨_, rRuleC hfew (r := r), ?_⟩ | refine ⟨_, rPlainBC (r := r), ?_⟩ | refine ⟨_, ruleC (t := t) (r := r), ?_⟩ | refine ⟨_, ruleC (t := t) (r := r), ?_⟩ | refine ⟨_, hd, ?_⟩); simp +decide (maxSteps := 4000000) only [q, go_sem, Nat.reduceAdd, Nat.reduceMul])) | apply cond2_intro | with_reducible apply And.intro | intro h)

theorem CreatedErrC {t : Types} {r : Rul} (h : ruleF t r ≠ 0) : Con Tryz.prog 21 [dTypes t, dRule r] (.tup [.nil, .nil, .int .i64 (ruleF t r)]) := by
  have q : (ruleF t r != 0) = true := by simpa using h
  refine ConC.con (ent _ Tryz.func21 rfl rfl) (con_of_body env Tryz.func21 rfl (nt := 23) (rs := [.tmp 4, .tmp 5, .tmp 6]) rfl rfl (Nat.le_of_ble_eq_true rfl) fun hok => ?_)
  repeat' (first | (first | (refine AWP.go env ?_; intro K fin; try simp +decide (maxSteps := 4000000) only [q, go_sem, Nat.reduceAdd, Nat.reduceMul]) | refine Kt.h _ _ ?_ | refine Ft.k (by decide +kernel) ?_ | ((first | refine ⟨_, ruleC (t := t) (r := r), ?_⟩ | refine ⟨_, plainC (r := r), ?_⟩ | refine ⟨_, rRuleC hfew (r := r), ?_⟩ | refine ⟨_, rPlainBC (r := r), ?_⟩ | refine ⟨_, ruleC (t := t) (r := r), ?_⟩ | refine ⟨_, ruleC (t := t) (r := r), ?_⟩ | refine ⟨_, hd, ?_⟩ | refine ⟨_, ruleC (t := t) (r := r), ?_⟩); simp +decide (maxSteps := 4000000) only [q, go_sem, Nat.reduceAdd, Nat.reduceMul])) | apply cond2_intro | with_reducible apply And.intro | intro h)

theorem CreatedOkC {t : Types} {r : Rul} (h : ruleF t r = 0) : Con Tryz.prog 21 [dTypes t, dRule r] (.tup [nInts (createdF r).nodes, nInts (createdF r).edges, .int .i64 0]) := by
  have q : (ruleF t r != 0) = false := by simpa using h
  obtain ⟨_, _, h3, _⟩ := ruleF_ok h
  obtain ⟨hg, _⟩ := rightF_ok h3
  obtain ⟨gl1, gl2, _, _⟩ := graphF_ok hg
  have hd := createdC (r := r) (by omega) (by omega)
  refine ConC.con (ent _ Tryz.func21 rfl rfl) (con_of_body env Tryz.func21 rfl (nt := 23) (rs := [.tmp 4, .tmp 5, .tmp 6]) rfl rfl (Nat.le_of_ble_eq_true rfl) fun hok => ?_)
  repeat' (first | (first | (refine AWP.go env ?_; intro K fin; try simp +decide (maxSteps := 4000000) only [q, go_sem, Nat.reduceAdd, Nat.reduceMul]) | refine Kt.h _ _ ?_ | refine Ft.k (by decide +kernel) ?_ | ((first | refine ⟨_, ruleC (t := t) (r := r), ?_⟩ | refine ⟨_, plainC (r := r), ?_⟩ | refine ⟨_, rRuleC hfew (r := r), ?_⟩ | refine ⟨_, rPlainBC (r := r), ?_⟩ | refine ⟨_, ruleC (t := t) (r := r), ?_⟩ | refine ⟨_, ruleC (t := t) (r := r), ?_⟩ | refine ⟨_, hd, ?_⟩ | refine ⟨_, ruleC (t := t) (r := r), ?_⟩ | refine ⟨_, ruleC (t := t) (r := r), ?_⟩ | refine ⟨_, hd, ?_⟩); simp +decide (maxSteps := 4000000) only [q, go_sem, Nat.reduceAdd, Nat.reduceMul])) | apply cond2_intro | with_reducible apply And.intro | intro h)

/-! The plain rule. -/

theorem copiedC {g : Graph} (h1 : g.nodes.length ≤ 1000000) (h2 : g.edges.length ≤ 1000000) : Con Tryz.prog 140 [dGraph g] (.agg [nInts g.nodes, nEdges g.edges]) := by
  refine ConC.con (ent _ Tryz.func140 rfl rfl) (con_of_body env Tryz.func140 rfl (nt := 10) (rs := [.cell 2 29]) rfl rfl (Nat.le_of_ble_eq_true rfl) fun hok => ?_)
  repeat' (first | (first | (refine AWP.go env ?_; intro K fin; try simp +decide (maxSteps := 4000000) only [go_sem, Nat.reduceAdd, Nat.reduceMul]) | refine Kt.h _ _ ?_ | refine Ft.k (by decide +kernel) ?_ | ((first | refine ⟨_, ruleC (t := t) (r := r), ?_⟩ | refine ⟨_, plainC (r := r), ?_⟩ | refine ⟨_, rRuleC hfew (r := r), ?_⟩ | refine ⟨_, rPlainBC (r := r), ?_⟩ | refine ⟨_, ruleC (t := t) (r := r), ?_⟩ | refine ⟨_, ruleC (t := t) (r := r), ?_⟩ | refine ⟨_, hd, ?_⟩ | refine ⟨_, ruleC (t := t) (r := r), ?_⟩ | refine ⟨_, ruleC (t := t) (r := r), ?_⟩ | refine ⟨_, hd, ?_⟩ | refine ⟨_, cloneIntC (rows := g.nodes.map rI) (by simpa using h1), ?_⟩ | refine ⟨_, cloneEdgeC (rows := g.edges.map rEdge) (by simpa using h2), ?_⟩); simp +decide (maxSteps := 4000000) only [go_sem, Nat.reduceAdd, Nat.reduceMul])) | apply cond2_intro | with_reducible apply And.intro | intro h)

abbrev nPlain (r : Rul) : D := .agg [.str r.name, nInts r.left.graph.nodes, nEdges r.left.graph.edges, .nil, .int .i64 0, .nil, nInts r.right.graph.nodes, nEdges r.right.graph.edges, .nil, .int .i64 0, .nil,
  nInts r.keep.nodes, nInts r.keep.edges, nInts r.into.nodes, nInts r.into.edges, .bool r.inj, .int .i64 1, .nil, .nil, .nil, .nil, .nil, .nil, .int .i64 0, .nil]

theorem plainRC {r : Rul} (hl1 : r.left.graph.nodes.length ≤ 1000000) (hl2 : r.left.graph.edges.length ≤ 1000000) (hr1 : r.right.graph.nodes.length ≤ 1000000) (hr2 : r.right.graph.edges.length ≤ 1000000)
    (hk1 : r.keep.nodes.length ≤ 1000000) (hk2 : r.keep.edges.length ≤ 1000000) (hi1 : r.into.nodes.length ≤ 1000000) (hi2 : r.into.edges.length ≤ 1000000) :
    Con Tryz.prog 65 [dRule r] (nPlain r) := by
  refine ConC.con (ent _ Tryz.func65 rfl rfl) (con_of_body env Tryz.func65 rfl (nt := 37) (rs := [.cell 2 41]) rfl rfl (Nat.le_of_ble_eq_true rfl) fun hok => ?_)
  repeat' (first | (first | (refine AWP.go env ?_; intro K fin; try simp +decide (maxSteps := 4000000) only [go_sem, Nat.reduceAdd, Nat.reduceMul]) | refine Kt.h _ _ ?_ | refine Ft.k (by decide +kernel) ?_ | ((first | refine ⟨_, ruleC (t := t) (r := r), ?_⟩ | refine ⟨_, plainC (r := r), ?_⟩ | refine ⟨_, rRuleC hfew (r := r), ?_⟩ | refine ⟨_, rPlainBC (r := r), ?_⟩ | refine ⟨_, ruleC (t := t) (r := r), ?_⟩ | refine ⟨_, ruleC (t := t) (r := r), ?_⟩ | refine ⟨_, hd, ?_⟩ | refine ⟨_, ruleC (t := t) (r := r), ?_⟩ | refine ⟨_, ruleC (t := t) (r := r), ?_⟩ | refine ⟨_, hd, ?_⟩ | refine ⟨_, cloneIntC (rows := g.nodes.map rI) (by simpa using h1), ?_⟩ | refine ⟨_, cloneEdgeC (rows := g.edges.map rEdge) (by simpa using h2), ?_⟩ | refine ⟨_, copiedC hl1 hl2, ?_⟩ | refine ⟨_, copiedC hr1 hr2, ?_⟩ | refine ⟨_, cloneIntC (rows := r.keep.nodes.map rI) (by simpa using hk1), ?_⟩ | refine ⟨_, cloneIntC (rows := r.keep.edges.map rI) (by simpa using hk2), ?_⟩ | refine ⟨_, cloneIntC (rows := r.into.nodes.map rI) (by simpa using hi1), ?_⟩ | refine ⟨_, cloneIntC (rows := r.into.edges.map rI) (by simpa using hi2), ?_⟩); simp +decide (maxSteps := 4000000) only [go_sem, Nat.reduceAdd, Nat.reduceMul])) | apply cond2_intro | with_reducible apply And.intro | intro h)
  all_goals try contradiction
end Go.Abs
/- The inverse. -/
set_option linter.unusedSimpArgs false
set_option linter.unusedVariables false
set_option maxRecDepth 20000
set_option maxHeartbeats 4000000
namespace Go.Abs
open Go Go.RowKit Go.Proofs
attribute [local irreducible] Con AWP

def sortF (l : List Int) : List Int := l.mergeSort fun x y => decide (x ≤ y)
def turnAt (keep into : List Int) (n : Int) : Int := keep.getD (idxF (fun x => n == x) into).toNat 0
def backF (keep into : List Int) : List Int := (sortF into).map (turnAt keep into)

theorem idxF_mem {l : List Int} {n : Int} (h : n ∈ l) : 0 ≤ idxF (fun x => n == x) l ∧ idxF (fun x => n == x) l < l.length := by
  induction l with
  | nil => cases h
  | cons y r ih =>
    by_cases hy : n = y
    · simp [idxF, hy]
    · have hr : n ∈ r := by simpa [hy] using h
      have := ih hr
      have hy2 : (n == y) = false := by simp [hy]
      have hlt : decide (idxF (fun x => n == x) r < 0) = false := by simp; omega
      simp only [idxF, hy2, hlt, cond_false, List.length_cons]
      omega

theorem turnedC {keep into : List Int} (hi : into.length ≤ 1000000) (hk : keep.length = into.length) : Con Tryz.prog 66 [dInts keep, dInts into] (.tup [nInts (sortF into), nInts (backF keep into)]) := by
  have hsl : (sortF into).length = into.length := List.length_mergeSort ..
  have hsm : ∀ n ∈ sortF into, n ∈ into := fun n hn => (List.mergeSort_perm ..).mem_iff.1 hn
  refine ConC.con (ent _ Tryz.func66 rfl rfl) (con_of_body env Tryz.func66 rfl (nt := 32) (rs := [.tmp 4, .tmp 5]) rfl rfl (Nat.le_of_ble_eq_true rfl) fun hok => ?_)
  repeat' (first | (first | (refine AWP.go env ?_; intro K fin; try simp +decide (maxSteps := 4000000) only [go_sem, Nat.reduceAdd, Nat.reduceMul]) | refine Kt.h _ _ ?_ | refine Ft.k (by decide +kernel) ?_ | ((first | refine ⟨_, cloneIntC (rows := into.map rI) (by simpa using hi), ?_⟩ | refine ⟨_, sortC (xs := into), ?_⟩ | refine ⟨_, indexIntC, ?_⟩); simp +decide (maxSteps := 4000000) only [go_sem, Nat.reduceAdd, Nat.reduceMul])) | apply cond2_intro | with_reducible apply And.intro | intro h)
  refine AWP.weaken (Wk.nilOwn (n := 7) (id := 777) 3 1 (by simp +decide (maxSteps := 4000000) only [go_sem, Nat.reduceAdd, Nat.reduceMul]) (by simp +decide (maxSteps := 4000000) only [go_sem, Nat.reduceAdd, Nat.reduceMul])) ?_
  simp +decide (maxSteps := 4000000) only [go_sem, Nat.reduceAdd, Nat.reduceMul]
  refine AWP.lp (α := Nat × Way (sortF into) fun _ _ => True)
    (fun w => ⟨32, [(0, dInts keep), (1, dInts into), (6, .osl 1100 0), (7, .osl 777 w.1), (14, .osl 1100 0), (15, .int .i64 (sortF into).length), (16, .int .i64 w.2.pre.length)],
      [(777, ⟨w.1, true, false, 1, 3, (w.2.pre.map (turnAt keep into)).map rI⟩), (1100, ⟨0, true, false, 1, 3, (sortF into).map rI⟩)]⟩) (fun w => w.2.post.length) ⟨0, [], sortF into, rfl, trivial⟩ (by simp +decide (maxSteps := 4000000) only [go_sem, Nat.reduceAdd, Nat.reduceMul]; try simp [sortF]) fun w K => ?_
  obtain ⟨ver, a, b, hab, _⟩ := w
  cases b with
  | nil =>
    have hab : sortF into = a := by simpa using hab
    have hn2 : ((a.length : Int) < ((sortF into).length : Int)) = False := by simp [hab]
    repeat' (first | (first | (refine AWP.go env ?_; intro K fin; try simp +decide (maxSteps := 4000000) only [hn2, go_sem, Nat.reduceAdd, Nat.reduceMul]) | refine Kt.h _ _ ?_ | refine Ft.k (by decide +kernel) ?_ | ((first | refine ⟨_, cloneIntC (rows := into.map rI) (by simpa using hi), ?_⟩ | refine ⟨_, sortC (xs := into), ?_⟩ | refine ⟨_, indexIntC, ?_⟩); simp +decide (maxSteps := 4000000) only [hn2, go_sem, Nat.reduceAdd, Nat.reduceMul])) | apply cond2_intro | with_reducible apply And.intro | intro h)
    all_goals simp [backF, hab]
  | cons n b =>
    have hal : a.length < (sortF into).length := by rw [hab]; simp
    have hn2 : ((a.length : Int) < ((sortF into).length : Int)) = True := by simp [hal]
    have hget : getR ((sortF into).map rI) a.length = [.int .i64 n] := by rw [hab]; simp [getR, rI]
    have v3 := wk_i' (t := a.length) (by omega)
    have hx := idxF_mem (hsm n (by rw [hab]; simp))
    have hge : getR (keep.map rI) (idxF (fun x => n == x) into).toNat = [.int .i64 (turnAt keep into n)] := ints_row hx.1 (by omega)
    repeat' (first | (first | (refine AWP.go env ?_; intro K fin; try simp +decide (maxSteps := 4000000) only [hn2, hget, hge, v3, go_sem, Nat.reduceAdd, Nat.reduceMul]) | refine Kt.h _ _ ?_ | refine Ft.k (by decide +kernel) ?_ | ((first | refine ⟨_, cloneIntC (rows := into.map rI) (by simpa using hi), ?_⟩ | refine ⟨_, sortC (xs := into), ?_⟩ | refine ⟨_, indexIntC, ?_⟩); simp +decide (maxSteps := 4000000) only [hn2, hget, hge, v3, go_sem, Nat.reduceAdd, Nat.reduceMul])) | apply cond2_intro | with_reducible apply And.intro | intro h)
    all_goals try (first | omega | (unfold lim; omega))
    all_goals try (simp only [List.mem_cons, List.not_mem_nil, or_false] at h; (repeat' (first | (subst h; rfl) | rcases h with h | h)))
    all_goals try contradiction
    refine ⟨⟨ver + 1, a ++ [n], b, by simp [hab], trivial⟩, by simp, by simp +decide (maxSteps := 4000000) only [go_sem, Nat.reduceAdd, Nat.reduceMul]; simp⟩

def trueCond : Cond := .mk 1 [] ⟨[], []⟩ ⟨⟨[], []⟩, [], 0, []⟩
def plainOf (r : Rul) : Rul := ⟨r.name, ⟨r.left.graph, [], 0, []⟩, ⟨r.right.graph, [], 0, []⟩, r.keep, r.into, r.inj, trueCond⟩
def inverseF (r : Rul) : Rul := ⟨r.name, ⟨r.right.graph, [], 0, []⟩, ⟨r.left.graph, [], 0, []⟩, ⟨sortF r.into.nodes, sortF r.into.edges⟩, ⟨backF r.keep.nodes r.into.nodes, backF r.keep.edges r.into.edges⟩, r.inj, trueCond⟩
def invErrF (t : Types) (r : Rul) : Int := if givenRF t r ≠ 0 then givenRF t r else if makableF t r.left.graph (deletedF r).nodes (deletedF r).edges = true then 0 else 13

abbrev nNone : D := .agg [.str ⟨#[]⟩, .nil, .nil, .nil, .int .i64 0, .nil, .nil, .nil, .nil, .int .i64 0, .nil, .nil, .nil, .nil, .nil, .bool false, .int .i64 0, .nil, .nil, .nil, .nil, .nil, .nil, .int .i64 0, .nil]

theorem givenRF_ok {t : Types} {r : Rul} (h : givenRF t r = 0) : ruleF t r = 0 ∧ plainB r = true := by
  unfold givenRF at h
  split at h
  · rename_i h1; exact absurd h h1
  rename_i h1
  split at h
  · rename_i h2; exact ⟨by simpa using h1, h2⟩
  · cases h

/-- How long a valid rule's lists are. -/
theorem ruleF_lens {t : Types} {r : Rul} (h : ruleF t r = 0) : (r.left.graph.nodes.length ≤ 40 ∧ r.left.graph.edges.length ≤ 80) ∧ (r.right.graph.nodes.length ≤ 40 ∧ r.right.graph.edges.length ≤ 80) ∧
    (r.keep.nodes.length ≤ 40 ∧ r.keep.edges.length ≤ 80) ∧ r.into.nodes.length = r.keep.nodes.length ∧ r.into.edges.length = r.keep.edges.length := by
  obtain ⟨_, h2, h3, h4, _⟩ := ruleF_ok h
  obtain ⟨_, hg, _⟩ := pattF_ok h2
  obtain ⟨hg', _⟩ := rightF_ok h3
  obtain ⟨gl1, gl2, _, _⟩ := graphF_ok hg
  obtain ⟨gr1, gr2, _, _⟩ := graphF_ok hg'
  obtain ⟨k1, _⟩ := keptF_ok h4
  obtain ⟨_, a1, a2, _⟩ := subF_ok k1
  have := ascF_len a1
  have := ascF_len a2
  exact ⟨⟨gl1, gl2⟩, ⟨gr1, gr2⟩, ⟨by omega, by omega⟩, into_lens h4⟩

theorem invErrC {t : Types} {r : Rul} (h : invErrF t r ≠ 0) : Con Tryz.prog 16 [dTypes t, dRule r] (.tup [nNone, .int .i64 (invErrF t r)]) := by
  by_cases h1 : givenRF t r = 0
  case neg =>
    have q : (givenRF t r != 0) = true := by simpa using h1
    have hF : invErrF t r = givenRF t r := by unfold invErrF; rw [if_pos h1]
    rw [hF]
    refine ConC.con (ent _ Tryz.func16 rfl rfl) (con_of_body env Tryz.func16 rfl (nt := 68) (rs := [.cell 4 41, .tmp 5]) rfl rfl (Nat.le_of_ble_eq_true rfl) fun hok => ?_)
    repeat' (first | (first | (refine AWP.go env ?_; intro K fin; try simp +decide (maxSteps := 4000000) only [q, go_sem, Nat.reduceAdd, Nat.reduceMul]) | refine Kt.h _ _ ?_ | refine Ft.k (by decide +kernel) ?_ | ((first | refine ⟨_, cloneIntC (rows := into.map rI) (by simpa using hi), ?_⟩ | refine ⟨_, sortC (xs := into), ?_⟩ | refine ⟨_, indexIntC, ?_⟩ | refine ⟨_, givenRC (t := t) (r := r), ?_⟩ | refine ⟨_, hd, ?_⟩ | refine ⟨_, hmk, ?_⟩); simp +decide (maxSteps := 4000000) only [q, go_sem, Nat.reduceAdd, Nat.reduceMul])) | apply cond2_intro | with_reducible apply And.intro | intro h)
    all_goals try contradiction
  have q : (givenRF t r != 0) = false := by simpa using h1
  obtain ⟨hr, hp⟩ := givenRF_ok h1
  obtain ⟨⟨gl1, gl2⟩, _⟩ := ruleF_lens hr
  obtain ⟨_, h2, _⟩ := ruleF_ok hr
  obtain ⟨_, hg, hty, _⟩ := pattF_ok h2
  have hd := deletedC (r := r) (by omega) (by omega)
  have hmk := makableC hg (typedB_ok hg hty) (deleted_range (r := r)).1 (deleted_range (r := r)).2
  by_cases h3 : makableF t r.left.graph (deletedF r).nodes (deletedF r).edges = true
  · exact absurd (by unfold invErrF; rw [if_neg (by simp [h1]), if_pos h3]) h
  have h3 : makableF t r.left.graph (deletedF r).nodes (deletedF r).edges = false := by simpa using h3
  have hF : invErrF t r = 13 := by unfold invErrF; rw [if_neg (by simp [h1]), if_neg (by simp [h3])]
  rw [hF]
  refine ConC.con (ent _ Tryz.func16 rfl rfl) (con_of_body env Tryz.func16 rfl (nt := 68) (rs := [.cell 4 41, .tmp 5]) rfl rfl (Nat.le_of_ble_eq_true rfl) fun hok => ?_)
  repeat' (first | (first | (refine AWP.go env ?_; intro K fin; try simp +decide (maxSteps := 4000000) only [q, h3, go_sem, Nat.reduceAdd, Nat.reduceMul]) | refine Kt.h _ _ ?_ | refine Ft.k (by decide +kernel) ?_ | ((first | refine ⟨_, cloneIntC (rows := into.map rI) (by simpa using hi), ?_⟩ | refine ⟨_, sortC (xs := into), ?_⟩ | refine ⟨_, indexIntC, ?_⟩ | refine ⟨_, givenRC (t := t) (r := r), ?_⟩ | refine ⟨_, hd, ?_⟩ | refine ⟨_, hmk, ?_⟩); simp +decide (maxSteps := 4000000) only [q, h3, go_sem, Nat.reduceAdd, Nat.reduceMul])) | apply cond2_intro | with_reducible apply And.intro | intro h)
  all_goals try contradiction

theorem invOkC {t : Types} {r : Rul} (h : invErrF t r = 0) : Con Tryz.prog 16 [dTypes t, dRule r] (.tup [nPlain (inverseF r), .int .i64 0]) := by
  have h1 : givenRF t r = 0 := by
    unfold invErrF at h
    split at h
    · rename_i h1; exact absurd h h1
    · rename_i h1; simpa using h1
  have h3 : makableF t r.left.graph (deletedF r).nodes (deletedF r).edges = true := by
    unfold invErrF at h
    rw [if_neg (by simp [h1])] at h
    split at h
    · assumption
    · cases h
  have q : (givenRF t r != 0) = false := by simpa using h1
  obtain ⟨hr, hp⟩ := givenRF_ok h1
  obtain ⟨⟨gl1, gl2⟩, ⟨gr1, gr2⟩, ⟨k1, k2⟩, i1, i2⟩ := ruleF_lens hr
  obtain ⟨_, h2, _⟩ := ruleF_ok hr
  obtain ⟨_, hg, hty, _⟩ := pattF_ok h2
  have hd := deletedC (r := r) (by omega) (by omega)
  have hmk := makableC hg (typedB_ok hg hty) (deleted_range (r := r)).1 (deleted_range (r := r)).2
  have hpl := plainRC (r := r) (by omega) (by omega) (by omega) (by omega) (by omega) (by omega) (by omega) (by omega)
  have ht1 := turnedC (keep := r.keep.nodes) (into := r.into.nodes) (by omega) i1.symm
  have ht2 := turnedC (keep := r.keep.edges) (into := r.into.edges) (by omega) i2.symm
  refine ConC.con (ent _ Tryz.func16 rfl rfl) (con_of_body env Tryz.func16 rfl (nt := 68) (rs := [.cell 4 41, .tmp 5]) rfl rfl (Nat.le_of_ble_eq_true rfl) fun hok => ?_)
  repeat' (first | (first | (refine AWP.go env ?_; intro K fin; try simp +decide (maxSteps := 4000000) only [q, h3, go_sem, Nat.reduceAdd, Nat.reduceMul]) | refine Kt.h _ _ ?_ | refine Ft.k (by decide +kernel) ?_ | ((first | refine ⟨_, cloneIntC (rows := into.map rI) (by simpa using hi), ?_⟩ | refine ⟨_, sortC (xs := into), ?_⟩ | refine ⟨_, indexIntC, ?_⟩ | refine ⟨_, givenRC (t := t) (r := r), ?_⟩ | refine ⟨_, hd, ?_⟩ | refine ⟨_, hmk, ?_⟩ | refine ⟨_, givenRC (t := t) (r := r), ?_⟩ | refine ⟨_, hd, ?_⟩ | refine ⟨_, hmk, ?_⟩ | refine ⟨_, hpl, ?_⟩ | refine ⟨_, ht1, ?_⟩ | refine ⟨_, ht2, ?_⟩); simp +decide (maxSteps := 4000000) only [q, h3, go_sem, Nat.reduceAdd, Nat.reduceMul])) | apply cond2_intro | with_reducible apply And.intro | intro h)
  all_goals try contradiction
  all_goals rfl
end Go.Abs
/- The chapter's example. -/
set_option linter.unusedSimpArgs false
set_option linter.unusedVariables false
set_option maxRecDepth 20000
set_option maxHeartbeats 4000000
namespace Go.Abs
open Go Go.RowKit Go.Proofs
attribute [local irreducible] Con AWP

theorem equalIntC {a b : List Int} : Con Tryz.prog 25 [dInts a, dInts b] (.bool (a == b)) := by
  by_cases hl : a.length = b.length
  case neg =>
    have q : ((a.length : Int) != (b.length : Int)) = true := by simpa using fun h => hl (by omega)
    have hF : (a == b) = false := by rw [beq_eq_false_iff_ne]; intro h; exact hl (by rw [h])
    rw [hF]
    refine ConC.con (ent _ Tryz.func25 rfl rfl) (con_of_body env Tryz.func25 rfl (nt := 26) (rs := [.tmp 4]) rfl rfl (Nat.le_of_ble_eq_true rfl) fun hok => ?_)
    repeat' (first | (first | (refine AWP.go env ?_; intro K fin; try simp +decide (maxSteps := 4000000) only [q, go_sem, Nat.reduceAdd, Nat.reduceMul]) | refine Kt.h _ _ ?_ | refine Ft.k (by decide +kernel) ?_) | apply cond2_intro | with_reducible apply And.intro | intro h)
  have q : ((a.length : Int) != (b.length : Int)) = false := by simp [hl]
  refine ConC.con (ent _ Tryz.func25 rfl rfl) (con_of_body env Tryz.func25 rfl (nt := 26) (rs := [.tmp 4]) rfl rfl (Nat.le_of_ble_eq_true rfl) fun hok => ?_)
  have hla : a.length ≤ 140737488355328 := by simpa using (hok (dInts a) (by simp)).len
  repeat' (first | (first | (refine AWP.go env ?_; intro K fin; try simp +decide (maxSteps := 4000000) only [q, go_sem, Nat.reduceAdd, Nat.reduceMul]) | refine Kt.h _ _ ?_ | refine Ft.k (by decide +kernel) ?_) | apply cond2_intro | with_reducible apply And.intro | intro h)
  refine AWP.lp (α := {k : Nat // k ≤ a.length ∧ a.take k = b.take k})
    (fun w => ⟨26, [(0, dInts a), (1, dInts b), (12, .int .i64 a.length), (13, .int .i64 w.1)], []⟩) (fun w => a.length - w.1) ⟨0, by omega, rfl⟩ (by simp +decide (maxSteps := 4000000) only [go_sem, Nat.reduceAdd, Nat.reduceMul]; try simp) fun w K => ?_
  obtain ⟨k, hk, hinv⟩ := w
  by_cases hkn : k = a.length
  · have hn2 : ((k : Int) < (a.length : Int)) = False := by simp [hkn]
    have hF : (a == b) = true := by
      rw [beq_iff_eq]
      rw [hkn, List.take_length, hl, List.take_length] at hinv; exact hinv
    repeat' (first | (first | (refine AWP.go env ?_; intro K fin; try simp +decide (maxSteps := 4000000) only [hn2, hF, go_sem, Nat.reduceAdd, Nat.reduceMul]) | refine Kt.h _ _ ?_ | refine Ft.k (by decide +kernel) ?_) | apply cond2_intro | with_reducible apply And.intro | intro h)
  · have hn2 : ((k : Int) < (a.length : Int)) = True := by simp; omega
    have hka : k < a.length := by omega
    have hkb : k < b.length := by omega
    have hg1 : getR (a.map rI) k = [.int .i64 a[k]] := by rw [getR_map _ _ _ hka]
    have hg2 : getR (b.map rI) k = [.int .i64 b[k]] := by rw [getR_map _ _ _ hkb]
    have v3 : IntKind.i64.wrap ((k : Int) + 1) = ((k + 1 : Nat) : Int) := by rw [wrap64 (by omega) (by omega)]; try rfl
    by_cases he : a[k] = b[k]
    · have he' : (a[k] != b[k]) = false := by simpa using he
      repeat' (first | (first | (refine AWP.go env ?_; intro K fin; try simp +decide (maxSteps := 4000000) only [hn2, hg1, hg2, v3, he', go_sem, Nat.reduceAdd, Nat.reduceMul]) | refine Kt.h _ _ ?_ | refine Ft.k (by decide +kernel) ?_) | apply cond2_intro | with_reducible apply And.intro | intro h)
      all_goals try omega
      refine ⟨⟨k + 1, by omega, ?_⟩, by simp; omega, by simp +decide (maxSteps := 4000000) only [go_sem, Nat.reduceAdd, Nat.reduceMul]; try simp⟩
      rw [List.take_succ_eq_append_getElem hka, List.take_succ_eq_append_getElem hkb, hinv, he]
    · have he' : (a[k] != b[k]) = true := by simpa using he
      have hF : (a == b) = false := by
        rw [beq_eq_false_iff_ne]; intro h; subst h; exact he rfl
      repeat' (first | (first | (refine AWP.go env ?_; intro K fin; try simp +decide (maxSteps := 4000000) only [hn2, hg1, hg2, v3, he', hF, go_sem, Nat.reduceAdd, Nat.reduceMul]) | refine Kt.h _ _ ?_ | refine Ft.k (by decide +kernel) ?_) | apply cond2_intro | with_reducible apply And.intro | intro h)
      all_goals try omega

def tE : Types := ⟨[⟨⟨#[65, 99, 99, 111, 117, 110, 116]⟩, -1, true, [⟨⟨#[98, 97, 108, 97, 110, 99, 101]⟩, -1000, 1000, []⟩]⟩, ⟨⟨#[67, 97, 115, 104]⟩, 0, false, []⟩,
  ⟨⟨#[76, 111, 97, 110]⟩, 0, false, [⟨⟨#[115, 116, 97, 116, 101]⟩, 0, 1, [⟨#[111, 112, 101, 110]⟩, ⟨#[99, 108, 111, 115, 101, 100]⟩]⟩]⟩, ⟨⟨#[80, 101, 114, 115, 111, 110]⟩, -1, false, []⟩],
  [⟨⟨#[111, 119, 110, 115]⟩, 3, 0, 0, -1, 1, 1⟩, ⟨⟨#[112, 97, 121, 115]⟩, 1, 1, 0, -1, 0, -1⟩]⟩

def rE : Rul := ⟨⟨#[112, 97, 121]⟩, ⟨⟨[3, 1], [⟨0, 0, 1⟩]⟩, [], 0, []⟩, ⟨⟨[3, 1, 1], [⟨0, 0, 1⟩, ⟨0, 0, 2⟩]⟩, [], 0, []⟩, ⟨[0, 1], [0]⟩, ⟨[0, 1], [0]⟩, false, trueCond⟩

/-- The example's type graph, as it is built. -/
abbrev nTypes : D := .agg [.nsl 115 4 [[.str ⟨#[65, 99, 99, 111, 117, 110, 116]⟩, .int .i64 (-1), .bool true, .fsl 4 [[.str ⟨#[98, 97, 108, 97, 110, 99, 101]⟩, .int .i64 (-1000), .int .i64 1000, .nil]]],
    [.str ⟨#[67, 97, 115, 104]⟩, .int .i64 0, .bool false, .nil],
    [.str ⟨#[76, 111, 97, 110]⟩, .int .i64 0, .bool false, .fsl 4 [[.str ⟨#[115, 116, 97, 116, 101]⟩, .int .i64 0, .int .i64 1, .fsl 1 [[.str ⟨#[111, 112, 101, 110]⟩], [.str ⟨#[99, 108, 111, 115, 101, 100]⟩]]]]],
    [.str ⟨#[80, 101, 114, 115, 111, 110]⟩, .int .i64 (-1), .bool false, .nil]],
  .nsl 120 7 [[.str ⟨#[111, 119, 110, 115]⟩, .int .i64 3, .int .i64 0, .int .i64 0, .int .i64 (-1), .int .i64 1, .int .i64 1], [.str ⟨#[112, 97, 121, 115]⟩, .int .i64 1, .int .i64 1, .int .i64 0, .int .i64 (-1), .int .i64 0, .int .i64 (-1)]]]

theorem exampleTC : Con Tryz.prog 43 [] nTypes := by
  refine ConC.con (ent _ Tryz.func43 rfl rfl) (con_of_body env Tryz.func43 rfl (nt := 15) (rs := [.cell 0 25]) rfl rfl (Nat.le_of_ble_eq_true rfl) fun hok => ?_)
  repeat' (first | (first | (refine AWP.go env ?_; intro K fin; try simp +decide (maxSteps := 4000000) only [go_sem, Nat.reduceAdd, Nat.reduceMul]) | refine Kt.h _ _ ?_ | refine Ft.k (by decide +kernel) ?_) | apply cond2_intro | with_reducible apply And.intro | intro h)

theorem exampleRC : Con Tryz.prog 44 [] (nPlain rE) := by
  refine ConC.con (ent _ Tryz.func44 rfl rfl) (con_of_body env Tryz.func44 rfl (nt := 24) (rs := [.cell 0 41]) rfl rfl (Nat.le_of_ble_eq_true rfl) fun hok => ?_)
  repeat' (first | (first | (refine AWP.go env ?_; intro K fin; try simp +decide (maxSteps := 4000000) only [go_sem, Nat.reduceAdd, Nat.reduceMul]) | refine Kt.h _ _ ?_ | refine Ft.k (by decide +kernel) ?_) | apply cond2_intro | with_reducible apply And.intro | intro h)
  all_goals try contradiction
  all_goals simp [rE, rI, rEdge]

theorem ruleE : ruleF tE rE = 0 := by decide +kernel
theorem invE : invErrF tE rE = 0 := by decide +kernel
theorem sort01 : sortF [0, 1] = [0, 1] := by unfold sortF; exact List.mergeSort_of_pairwise (by decide)
theorem sort0 : sortF [0] = [0] := by unfold sortF; exact List.mergeSort_of_pairwise (by decide)
def rI2 : Rul := ⟨⟨#[112, 97, 121]⟩, ⟨⟨[3, 1, 1], [⟨0, 0, 1⟩, ⟨0, 0, 2⟩]⟩, [], 0, []⟩, ⟨⟨[3, 1], [⟨0, 0, 1⟩]⟩, [], 0, []⟩, ⟨[0, 1], [0]⟩, ⟨[0, 1], [0]⟩, false, trueCond⟩
theorem invE2 : inverseF rE = rI2 := by
  unfold inverseF rI2 rE backF
  simp only [sort01, sort0]
  rfl
theorem ruleE2 : ruleF tE rI2 = 0 := by decide +kernel
theorem delE : (deletedF rE).nodes = [] ∧ (deletedF rE).edges = [] := by decide +kernel
theorem creE : (createdF rE).nodes = [2] ∧ (createdF rE).edges = [1] := by decide +kernel
theorem delE2 : (deletedF rI2).nodes = [2] ∧ (deletedF rI2).edges = [1] := by decide +kernel
end Go.Abs
/- Small type graphs. -/
set_option linter.unusedSimpArgs false
set_option linter.unusedVariables false
set_option maxRecDepth 20000
set_option maxHeartbeats 4000000
namespace Go.Abs
open Go Go.RowKit Go.Proofs
attribute [local irreducible] Con AWP

def attrFew (x : Attr) : Prop := x.name.size ≤ 40 ∧ x.names.length ≤ 25 ∧ ∀ s ∈ x.names, s.size ≤ 40
def nodesFew : Nat → List NodeT → Prop
  | _, [] => True
  | k, n :: r => k + n.attrs.length ≤ 30 ∧ n.name.size ≤ 40 ∧ (∀ x ∈ n.attrs, attrFew x) ∧ nodesFew (k + n.attrs.length) r
def fewT (t : Types) : Prop := t.nodes.length ≤ 20 ∧ t.edges.length ≤ 30 ∧ nodesFew 0 t.nodes ∧ ∀ e ∈ t.edges, e.name.size ≤ 40

theorem nodesFew_attrs : ∀ {k : Nat} {l : List NodeT}, nodesFew k l → ∀ n ∈ l, n.attrs.length ≤ 30
  | _, [], _, n, h => by cases h
  | k, m :: r, h, n, hn => by
    rcases List.mem_cons.1 hn with rfl | hn
    · have := h.1; omega
    · exact nodesFew_attrs h.2.2.2 n hn

theorem fewT_attrs {t : Types} (h : fewT t) : ∀ n ∈ t.nodes, n.attrs.length ≤ 30 := nodesFew_attrs h.2.2.1

open Classical in
noncomputable def fewTB (t : Types) : Bool := decide (fewT t)
theorem fewTB_false {t : Types} (h : ¬ fewT t) : fewTB t = false := by unfold fewTB; simp [h]
theorem fewTB_true {t : Types} (h : fewT t) : fewTB t = true := by unfold fewTB; simp [h]
theorem fewTB_iff {t : Types} : fewTB t = true ↔ fewT t := by unfold fewTB; simp

theorem fewTC {t : Types} : Con Tryz.prog 45 [dTypes t] (.bool (fewTB t)) := by
  by_cases g1 : t.nodes.length ≤ 20
  case neg =>
    have h1 : ((20 : Int) < (t.nodes.length : Int)) = True := eq_true (by omega)
    have hF : fewTB t = false := fewTB_false fun h => g1 h.1
    rw [hF]
    refine ConC.con (ent _ Tryz.func45 rfl rfl) (con_of_body env Tryz.func45 rfl (nt := 106) (rs := [.tmp 2]) rfl rfl (Nat.le_of_ble_eq_true rfl) fun hok => ?_)
    repeat' (first | (first | (refine AWP.go env ?_; intro K fin; try simp +decide (maxSteps := 4000000) only [h1, go_sem, Nat.reduceAdd, Nat.reduceMul]) | refine Kt.h _ _ ?_ | refine Ft.k (by decide +kernel) ?_) | apply cond2_intro | with_reducible apply And.intro | intro h)
  have h1 : ((20 : Int) < (t.nodes.length : Int)) = False := eq_false (by omega)
  by_cases g2 : t.edges.length ≤ 30
  case neg =>
    have h2 : ((30 : Int) < (t.edges.length : Int)) = True := eq_true (by omega)
    have hF : fewTB t = false := fewTB_false fun h => g2 h.2.1
    rw [hF]
    refine ConC.con (ent _ Tryz.func45 rfl rfl) (con_of_body env Tryz.func45 rfl (nt := 106) (rs := [.tmp 2]) rfl rfl (Nat.le_of_ble_eq_true rfl) fun hok => ?_)
    repeat' (first | (first | (refine AWP.go env ?_; intro K fin; try simp +decide (maxSteps := 4000000) only [h1, h2, go_sem, Nat.reduceAdd, Nat.reduceMul]) | refine Kt.h _ _ ?_ | refine Ft.k (by decide +kernel) ?_) | apply cond2_intro | with_reducible apply And.intro | intro h)
  have h2 : ((30 : Int) < (t.edges.length : Int)) = False := eq_false (by omega)
  refine ConC.con (ent _ Tryz.func45 rfl rfl) (con_of_body env Tryz.func45 rfl (nt := 106) (rs := [.tmp 2]) rfl rfl (Nat.le_of_ble_eq_true rfl) fun hok => ?_)
  have hn0 : DOk (.fsl 4 (t.nodes.map rNodeT)) := DOk.mem (hok _ (List.mem_cons_self ..)) (by simp)
  have he0 : DOk (.fsl 7 (t.edges.map rEdgeT)) := DOk.mem (hok _ (List.mem_cons_self ..)) (by simp)
  have hnd : ∀ n ∈ t.nodes, ∀ d ∈ rNodeT n, DOk d := fun n hn => by cases hn0 with | fsl _ _ _ _ h => exact h _ (List.mem_map_of_mem hn)
  have had : ∀ n ∈ t.nodes, n.attrs.length ≤ 140737488355328 := fun n hn => by simpa using (hnd n hn (.fsl 4 (n.attrs.map rAttr)) (by simp [rNodeT])).len
  repeat' (first | (first | (refine AWP.go env ?_; intro K fin; try simp +decide (maxSteps := 4000000) only [h1, h2, go_sem, Nat.reduceAdd, Nat.reduceMul]) | refine Kt.h _ _ ?_ | refine Ft.k (by decide +kernel) ?_) | apply cond2_intro | with_reducible apply And.intro | intro h)
  refine AWP.lp (α := (k : {k : Nat // k ≤ 30}) × Way t.nodes fun _ b => (nodesFew k.1 b ↔ nodesFew 0 t.nodes))
    (fun w => ⟨106, [(1, .ptr 100 0 0 0), (3, .int .i64 w.1.1), (4, .int .i64 w.2.pre.length)],
      [(100, ⟨0, true, true, 2, 25, [cTypes t]⟩)]⟩) (fun w => w.2.post.length) ⟨⟨0, by omega⟩, [], t.nodes, rfl, Iff.rfl⟩ (by simp +decide (maxSteps := 4000000) only [go_sem, Nat.reduceAdd, Nat.reduceMul]; try simp) fun w K => ?_
  obtain ⟨⟨k, hk⟩, a, b, hab, hinv⟩ := w
  cases b with
  | nil =>
    have hab : t.nodes = a := by simpa using hab
    have hn2 : ((a.length : Int) < (t.nodes.length : Int)) = False := by simp [hab]
    have hnf : nodesFew 0 t.nodes := hinv.1 trivial
    repeat' (first | (first | (refine AWP.go env ?_; intro K fin; try simp +decide (maxSteps := 4000000) only [hn2, go_sem, Nat.reduceAdd, Nat.reduceMul]) | refine Kt.h _ _ ?_ | refine Ft.k (by decide +kernel) ?_) | apply cond2_intro | with_reducible apply And.intro | intro h)
    all_goals try omega
    refine AWP.lp (α := Way t.edges fun a _ => ∀ e ∈ a, e.name.size ≤ 40)
      (fun w => ⟨106, [(1, .ptr 100 0 0 0), (8, .int .i64 w.pre.length)],
        [(100, ⟨0, true, true, 2, 25, [cTypes t]⟩)]⟩) (fun w => w.post.length) ⟨[], t.edges, rfl, by simp⟩ (by simp +decide (maxSteps := 4000000) only [go_sem, Nat.reduceAdd, Nat.reduceMul]; try simp) fun w K => ?_
    obtain ⟨c, d, hcd, hinv2⟩ := w
    cases d with
    | nil =>
      have hcd : t.edges = c := by simpa using hcd
      have hn3 : ((c.length : Int) < (t.edges.length : Int)) = False := by simp [hcd]
      have hF : fewTB t = true := fewTB_true ⟨g1, g2, hnf, by rw [hcd]; exact hinv2⟩
      repeat' (first | (first | (refine AWP.go env ?_; intro K fin; try simp +decide (maxSteps := 4000000) only [hn3, hF, go_sem, Nat.reduceAdd, Nat.reduceMul]) | refine Kt.h _ _ ?_ | refine Ft.k (by decide +kernel) ?_) | apply cond2_intro | with_reducible apply And.intro | intro h)
      all_goals try omega
    | cons e d =>
      have hcl : c.length < t.edges.length := by rw [hcd]; simp
      have hn3 : ((c.length : Int) < (t.edges.length : Int)) = True := by simp [hcl]
      have hget : getR (t.edges.map rEdgeT) c.length = rEdgeT e := by rw [hcd]; simp [getR]
      have v3 := wk_i' (t := c.length) (by omega)
      by_cases hs : e.name.size ≤ 40
      · have hs2 : ((40 : Int) < (e.name.size : Int)) = False := eq_false (by omega)
        repeat' (first | (first | (refine AWP.go env ?_; intro K fin; try simp +decide (maxSteps := 4000000) only [hn3, hget, v3, rEdgeT, hs2, go_sem, Nat.reduceAdd, Nat.reduceMul]) | refine Kt.h _ _ ?_ | refine Ft.k (by decide +kernel) ?_) | apply cond2_intro | with_reducible apply And.intro | intro h)
        all_goals try omega
        refine ⟨⟨c ++ [e], d, by simp [hcd], ?_⟩, by simp, by simp +decide (maxSteps := 4000000) only [go_sem, Nat.reduceAdd, Nat.reduceMul]; simp⟩
        intro x hx; rcases List.mem_append.1 hx with hx | hx
        · exact hinv2 x hx
        · simp at hx; subst hx; exact hs
      · have hs2 : ((40 : Int) < (e.name.size : Int)) = True := eq_true (by omega)
        have hF : fewTB t = false := fewTB_false fun h => hs (h.2.2.2 e (by rw [hcd]; simp))
        repeat' (first | (first | (refine AWP.go env ?_; intro K fin; try simp +decide (maxSteps := 4000000) only [hn3, hget, v3, rEdgeT, hs2, hF, go_sem, Nat.reduceAdd, Nat.reduceMul]) | refine Kt.h _ _ ?_ | refine Ft.k (by decide +kernel) ?_) | apply cond2_intro | with_reducible apply And.intro | intro h)
        all_goals try omega
  | cons n b =>
    have hal : a.length < t.nodes.length := by rw [hab]; simp
    have hn2 : ((a.length : Int) < (t.nodes.length : Int)) = True := by simp [hal]
    have hget : getR (t.nodes.map rNodeT) a.length = rNodeT n := by rw [hab]; simp [getR]
    have v3 := wk_i' (t := a.length) (by omega)
    have hmem : n ∈ t.nodes := by rw [hab]; simp
    have hadn := had n hmem
    have v4 : IntKind.i64.wrap ((k : Int) + (n.attrs.length : Int)) = ((k + n.attrs.length : Nat) : Int) := wadd (by omega)
    rw [nodesFew] at hinv
    by_cases hs : k + n.attrs.length ≤ 30
    case neg =>
      have hs2 : ((30 : Int) < ((k + n.attrs.length : Nat) : Int)) = True := eq_true (by omega)
      have hF : fewTB t = false := fewTB_false fun h => hs (hinv.2 h.2.2.1).1
      repeat' (first | (first | (refine AWP.go env ?_; intro K fin; try simp +decide (maxSteps := 4000000) only [hn2, hget, v3, v4, rNodeT, hs2, hF, go_sem, Nat.reduceAdd, Nat.reduceMul]) | refine Kt.h _ _ ?_ | refine Ft.k (by decide +kernel) ?_) | apply cond2_intro | with_reducible apply And.intro | intro h)
      all_goals try omega
    have hs2 : ((30 : Int) < ((k + n.attrs.length : Nat) : Int)) = False := eq_false (by omega)
    by_cases hnm : n.name.size ≤ 40
    case neg =>
      have hnm2 : ((40 : Int) < (n.name.size : Int)) = True := eq_true (by omega)
      have hF : fewTB t = false := fewTB_false fun h => hnm (hinv.2 h.2.2.1).2.1
      repeat' (first | (first | (refine AWP.go env ?_; intro K fin; try simp +decide (maxSteps := 4000000) only [hn2, hget, v3, v4, rNodeT, hs2, hnm2, hF, go_sem, Nat.reduceAdd, Nat.reduceMul]) | refine Kt.h _ _ ?_ | refine Ft.k (by decide +kernel) ?_) | apply cond2_intro | with_reducible apply And.intro | intro h)
      all_goals try omega
    have hnm2 : ((40 : Int) < (n.name.size : Int)) = False := eq_false (by omega)
    repeat' (first | (first | (refine AWP.go env ?_; intro K fin; try simp +decide (maxSteps := 4000000) only [hn2, hget, v3, v4, rNodeT, hs2, hnm2, go_sem, Nat.reduceAdd, Nat.reduceMul]) | refine Kt.h _ _ ?_ | refine Ft.k (by decide +kernel) ?_) | apply cond2_intro | with_reducible apply And.intro | intro h)
    all_goals try omega
    refine AWP.lp (α := Way n.attrs fun a _ => ∀ x ∈ a, attrFew x)
      (fun w => ⟨106, [(1, .ptr 100 0 0 0), (3, .int .i64 ((k + n.attrs.length : Nat) : Int)), (4, .int .i64 a.length), (5, .int .i64 w.pre.length)],
        [(100, ⟨0, true, true, 2, 25, [cTypes t]⟩)]⟩) (fun w => w.post.length) ⟨[], n.attrs, rfl, by simp⟩ (by simp +decide (maxSteps := 4000000) only [go_sem, Nat.reduceAdd, Nat.reduceMul]; try simp) fun w K => ?_
    obtain ⟨c, d, hcd, hinv2⟩ := w
    cases d with
    | nil =>
      have hcd : n.attrs = c := by simpa using hcd
      have hn3 : ((c.length : Int) < (n.attrs.length : Int)) = False := by simp [hcd]
      repeat' (first | (first | (refine AWP.go env ?_; intro K fin; try simp +decide (maxSteps := 4000000) only [hn2, hn3, hget, v3, rNodeT, go_sem, Nat.reduceAdd, Nat.reduceMul]) | refine Kt.h _ _ ?_ | refine Ft.k (by decide +kernel) ?_) | apply cond2_intro | with_reducible apply And.intro | intro h)
      all_goals try omega
      refine ⟨⟨⟨k + n.attrs.length, hs⟩, a ++ [n], b, by simp [hab], ?_⟩, by simp, by simp +decide (maxSteps := 4000000) only [go_sem, Nat.reduceAdd, Nat.reduceMul]; simp⟩
      constructor
      · intro h; exact hinv.1 ⟨hs, hnm, by rw [hcd]; exact hinv2, h⟩
      · intro h; exact (hinv.2 h).2.2.2
    | cons x d =>
      have hcl : c.length < n.attrs.length := by rw [hcd]; simp
      have hn3 : ((c.length : Int) < (n.attrs.length : Int)) = True := by simp [hcl]
      have hget2 : getR (n.attrs.map rAttr) c.length = rAttr x := by rw [hcd]; simp [getR]
      have v5 := wk_i' (t := c.length) (by omega)
      have hxm : x ∈ n.attrs := by rw [hcd]; simp
      by_cases hx1 : x.name.size ≤ 40
      case neg =>
        have hx1' : ((40 : Int) < (x.name.size : Int)) = True := eq_true (by omega)
        have hF : fewTB t = false := fewTB_false fun h => hx1 ((hinv.2 h.2.2.1).2.2.1 x hxm).1
        repeat' (first | (first | (refine AWP.go env ?_; intro K fin; try simp +decide (maxSteps := 4000000) only [hn2, hn3, hget, hget2, v3, v5, rNodeT, rAttr, hx1', hF, go_sem, Nat.reduceAdd, Nat.reduceMul]) | refine Kt.h _ _ ?_ | refine Ft.k (by decide +kernel) ?_) | apply cond2_intro | with_reducible apply And.intro | intro h)
        all_goals try omega
        all_goals try (simp only [List.mem_cons, List.not_mem_nil, or_false] at h; (repeat' (first | (subst h; rfl) | rcases h with h | h)))
      have hx1' : ((40 : Int) < (x.name.size : Int)) = False := eq_false (by omega)
      by_cases hx2 : x.names.length ≤ 25
      case neg =>
        have hx2' : ((25 : Int) < (x.names.length : Int)) = True := eq_true (by omega)
        have hF : fewTB t = false := fewTB_false fun h => hx2 ((hinv.2 h.2.2.1).2.2.1 x hxm).2.1
        repeat' (first | (first | (refine AWP.go env ?_; intro K fin; try simp +decide (maxSteps := 4000000) only [hn2, hn3, hget, hget2, v3, v5, rNodeT, rAttr, hx1', hx2', hF, go_sem, Nat.reduceAdd, Nat.reduceMul]) | refine Kt.h _ _ ?_ | refine Ft.k (by decide +kernel) ?_) | apply cond2_intro | with_reducible apply And.intro | intro h)
        all_goals try omega
        all_goals try (simp only [List.mem_cons, List.not_mem_nil, or_false] at h; (repeat' (first | (subst h; rfl) | rcases h with h | h)))
      have hx2' : ((25 : Int) < (x.names.length : Int)) = False := eq_false (by omega)
      repeat' (first | (first | (refine AWP.go env ?_; intro K fin; try simp +decide (maxSteps := 4000000) only [hn2, hn3, hget, hget2, v3, v5, rNodeT, rAttr, hx1', hx2', go_sem, Nat.reduceAdd, Nat.reduceMul]) | refine Kt.h _ _ ?_ | refine Ft.k (by decide +kernel) ?_) | apply cond2_intro | with_reducible apply And.intro | intro h)
      all_goals try omega
      all_goals try (simp only [List.mem_cons, List.not_mem_nil, or_false] at h; (repeat' (first | (subst h; rfl) | rcases h with h | h)))
      refine AWP.lp (α := Way x.names fun a _ => ∀ s ∈ a, s.size ≤ 40)
        (fun w => ⟨106, [(1, .ptr 100 0 0 0), (3, .int .i64 ((k + n.attrs.length : Nat) : Int)), (4, .int .i64 a.length), (5, .int .i64 c.length), (6, .ptr 600 0 0 0), (7, .int .i64 w.pre.length)],
          [(100, ⟨0, true, true, 2, 25, [cTypes t]⟩), (600, ⟨0, true, true, 4, 118, [rAttr x]⟩)]⟩) (fun w => w.post.length) ⟨[], x.names, rfl, by simp⟩ (by simp +decide (maxSteps := 4000000) only [rAttr, go_sem, Nat.reduceAdd, Nat.reduceMul]; try simp) fun w K => ?_
      obtain ⟨e, f, hef, hinv3⟩ := w
      cases f with
      | nil =>
        have hef : x.names = e := by simpa using hef
        have hn4 : ((e.length : Int) < (x.names.length : Int)) = False := by simp [hef]
        repeat' (first | (first | (refine AWP.go env ?_; intro K fin; try simp +decide (maxSteps := 4000000) only [hn4, v5, rAttr, go_sem, Nat.reduceAdd, Nat.reduceMul]) | refine Kt.h _ _ ?_ | refine Ft.k (by decide +kernel) ?_) | apply cond2_intro | with_reducible apply And.intro | intro h)
        all_goals try omega
        refine ⟨⟨c ++ [x], d, by simp [hcd], ?_⟩, by simp, by simp +decide (maxSteps := 4000000) only [go_sem, Nat.reduceAdd, Nat.reduceMul]; simp⟩
        intro y hy; rcases List.mem_append.1 hy with hy | hy
        · exact hinv2 y hy
        · simp at hy; subst hy; exact ⟨hx1, hx2, by rw [hef]; exact hinv3⟩
      | cons s f =>
        have hel : e.length < x.names.length := by rw [hef]; simp
        have hn4 : ((e.length : Int) < (x.names.length : Int)) = True := by simp [hel]
        have hget3 : getR (x.names.map rS) e.length = [.str s] := by rw [hef]; simp [getR, rS]
        have v6 := wk_i' (t := e.length) (by omega)
        by_cases hz : s.size ≤ 40
        · have hz2 : ((40 : Int) < (s.size : Int)) = False := eq_false (by omega)
          repeat' (first | (first | (refine AWP.go env ?_; intro K fin; try simp +decide (maxSteps := 4000000) only [hn4, hget3, v6, rAttr, hz2, go_sem, Nat.reduceAdd, Nat.reduceMul]) | refine Kt.h _ _ ?_ | refine Ft.k (by decide +kernel) ?_) | apply cond2_intro | with_reducible apply And.intro | intro h)
          all_goals try omega
          refine ⟨⟨e ++ [s], f, by simp [hef], ?_⟩, by simp, by simp +decide (maxSteps := 4000000) only [rAttr, go_sem, Nat.reduceAdd, Nat.reduceMul]; simp⟩
          intro y hy; rcases List.mem_append.1 hy with hy | hy
          · exact hinv3 y hy
          · simp at hy; subst hy; exact hz
        · have hz2 : ((40 : Int) < (s.size : Int)) = True := eq_true (by omega)
          have hF : fewTB t = false := fewTB_false fun h => hz (((hinv.2 h.2.2.1).2.2.1 x hxm).2.2 s (by rw [hef]; simp))
          repeat' (first | (first | (refine AWP.go env ?_; intro K fin; try simp +decide (maxSteps := 4000000) only [hn4, hget3, v6, rAttr, hz2, hF, go_sem, Nat.reduceAdd, Nat.reduceMul]) | refine Kt.h _ _ ?_ | refine Ft.k (by decide +kernel) ?_) | apply cond2_intro | with_reducible apply And.intro | intro h)
          all_goals try omega
end Go.Abs
/- Small rules. -/
set_option linter.unusedSimpArgs false
set_option linter.unusedVariables false
set_option maxRecDepth 20000
set_option maxHeartbeats 4000000
namespace Go.Abs
open Go Go.RowKit Go.Proofs
attribute [local irreducible] Con AWP

def fewG (g : Graph) : Bool := decide (g.nodes.length ≤ 45) && decide (g.edges.length ≤ 90)
def fewM (m : Two) (n : Nat) : Bool := decide (m.nodes.length + m.edges.length ≤ n)
def fewP (p : Patt) : Bool := fewG p.graph && decide (p.slots.length ≤ 15) && decide (p.tests.length ≤ 15)

theorem dTwo_lens {m : Two} (h : DOk (dTwo m)) : m.nodes.length ≤ 140737488355328 ∧ m.edges.length ≤ 140737488355328 := by
  have e2 : DOk (dInts m.nodes) := h.mem (by simp)
  have e3 : DOk (dInts m.edges) := h.mem (by simp)
  exact ⟨by simpa using e2.len, by simpa using e3.len⟩

theorem fewGC {g : Graph} : Con Tryz.prog 36 [dGraph g] (.bool (fewG g)) := by
  refine ConC.con (ent _ Tryz.func36 rfl rfl) (con_of_body env Tryz.func36 rfl (nt := 13) (rs := [.tmp 2]) rfl rfl (Nat.le_of_ble_eq_true rfl) fun hok => ?_)
  repeat' (first | (first | (refine AWP.go env ?_; intro K fin; try simp +decide (maxSteps := 4000000) only [go_sem, Nat.reduceAdd, Nat.reduceMul]) | refine Kt.h _ _ ?_ | refine Ft.k (by decide +kernel) ?_) | apply cond2_intro | with_reducible apply And.intro | intro h)
  all_goals (unfold fewG; grind)

theorem fewMC {m : Two} {n : Nat} : Con Tryz.prog 37 [dTwo m, .int .i64 n] (.bool (fewM m n)) := by
  refine ConC.con (ent _ Tryz.func37 rfl rfl) (con_of_body env Tryz.func37 rfl (nt := 14) (rs := [.tmp 4]) rfl rfl (Nat.le_of_ble_eq_true rfl) fun hok => ?_)
  obtain ⟨l1, l2⟩ := dTwo_lens (hok (dTwo m) (by simp))
  have v := wadd (a := m.nodes.length) (b := m.edges.length) (by omega)
  have e : (((m.nodes.length + m.edges.length : Nat) : Int) ≤ (n : Int)) = (m.nodes.length + m.edges.length ≤ n) := by apply propext; omega
  repeat' (first | (first | (refine AWP.go env ?_; intro K fin; try simp +decide (maxSteps := 4000000) only [v, e, go_sem, Nat.reduceAdd, Nat.reduceMul]) | refine Kt.h _ _ ?_ | refine Ft.k (by decide +kernel) ?_) | apply cond2_intro | with_reducible apply And.intro | intro h)
  all_goals rfl

theorem fewMC7 {m : Two} {n : Nat} : Con Tryz.prog 89 [dTwo m, .int .i64 n] (.bool (fewM m n)) := by
  refine ConC.con (ent _ Tryz.func89 rfl rfl) (con_of_body env Tryz.func89 rfl (nt := 14) (rs := [.tmp 4]) rfl rfl (Nat.le_of_ble_eq_true rfl) fun hok => ?_)
  obtain ⟨l1, l2⟩ := dTwo_lens (hok (dTwo m) (by simp))
  have v := wadd (a := m.nodes.length) (b := m.edges.length) (by omega)
  have e : (((m.nodes.length + m.edges.length : Nat) : Int) ≤ (n : Int)) = (m.nodes.length + m.edges.length ≤ n) := by apply propext; omega
  repeat' (first | (first | (refine AWP.go env ?_; intro K fin; try simp +decide (maxSteps := 4000000) only [v, e, go_sem, Nat.reduceAdd, Nat.reduceMul]) | refine Kt.h _ _ ?_ | refine Ft.k (by decide +kernel) ?_) | apply cond2_intro | with_reducible apply And.intro | intro h)
  all_goals rfl

theorem fewPC {p : Patt} : Con Tryz.prog 88 [dPatt p] (.bool (fewP p)) := by
  refine ConC.con (ent _ Tryz.func88 rfl rfl) (con_of_body env Tryz.func88 rfl (nt := 18) (rs := [.tmp 2]) rfl rfl (Nat.le_of_ble_eq_true rfl) fun hok => ?_)
  repeat' (first | (first | (refine AWP.go env ?_; intro K fin; try simp +decide (maxSteps := 4000000) only [go_sem, Nat.reduceAdd, Nat.reduceMul]) | refine Kt.h _ _ ?_ | refine Ft.k (by decide +kernel) ?_ | (refine ⟨_, fewGC (g := p.graph), ?_⟩; simp +decide (maxSteps := 4000000) only [go_sem, Nat.reduceAdd, Nat.reduceMul])) | apply cond2_intro | with_reducible apply And.intro | intro h)
  all_goals (unfold fewP; grind)

mutual
def leftF : Cond → Int → Int
  | .mk k kids m p, most => if (fewP p && fewM m 140) = true then leftL kids (IntKind.i64.wrap (most - 1)) else -1
def leftL : List Cond → Int → Int
  | [], most => most
  | c :: r, most => if 0 ≤ most then leftL r (leftF c most) else most
end

theorem leftF_eq (c : Cond) (most : Int) : leftF c most = if (fewP c.patt && fewM c.map 140) = true then leftL c.kids (IntKind.i64.wrap (most - 1)) else -1 := by
  cases c; rw [leftF]; try rfl

theorem leftStepC {c : Cond} {most : Int} (ih : ∀ x ∈ c.kids, ∀ k : Int, Con Tryz.prog 157 [dCond x, .int .i64 k] (.int .i64 (leftF x k))) : Con Tryz.prog 157 [dCond c, .int .i64 most] (.int .i64 (leftF c most)) := by
  have hm : Con Tryz.prog 37 [dTwo c.map, .int .i64 140] (.bool (fewM c.map 140)) := fewMC (n := 140)
  have hw := leftF_eq c most
  by_cases h1 : fewP c.patt = true
  case neg =>
    have h1 : fewP c.patt = false := by simpa using h1
    rw [hw, h1]
    refine ConC.con (ent _ Tryz.func157 rfl rfl) (con_of_body env Tryz.func157 rfl (nt := 37) (rs := [.tmp 4]) rfl rfl (Nat.le_of_ble_eq_true rfl) fun hok => ?_)
    repeat' (first | (first | (refine AWP.go env ?_; intro K fin; try simp +decide (maxSteps := 4000000) only [h1, rCond, go_sem, Nat.reduceAdd, Nat.reduceMul]) | refine Kt.h _ _ ?_ | refine Ft.k (by decide +kernel) ?_ | ((first | refine ⟨_, fewGC (g := p.graph), ?_⟩ | refine ⟨_, fewPC (p := c.patt), ?_⟩ | refine ⟨_, hm, ?_⟩ | refine ⟨_, ihk, ?_⟩); simp +decide (maxSteps := 4000000) only [h1, rCond, go_sem, Nat.reduceAdd, Nat.reduceMul])) | apply cond2_intro | with_reducible apply And.intro | intro h)
  by_cases h2 : fewM c.map 140 = true
  case neg =>
    have h2 : fewM c.map 140 = false := by simpa using h2
    rw [hw, h2, Bool.and_false]
    refine ConC.con (ent _ Tryz.func157 rfl rfl) (con_of_body env Tryz.func157 rfl (nt := 37) (rs := [.tmp 4]) rfl rfl (Nat.le_of_ble_eq_true rfl) fun hok => ?_)
    repeat' (first | (first | (refine AWP.go env ?_; intro K fin; try simp +decide (maxSteps := 4000000) only [h1, h2, rCond, go_sem, Nat.reduceAdd, Nat.reduceMul]) | refine Kt.h _ _ ?_ | refine Ft.k (by decide +kernel) ?_ | ((first | refine ⟨_, fewGC (g := p.graph), ?_⟩ | refine ⟨_, fewPC (p := c.patt), ?_⟩ | refine ⟨_, hm, ?_⟩ | refine ⟨_, ihk, ?_⟩); simp +decide (maxSteps := 4000000) only [h1, h2, rCond, go_sem, Nat.reduceAdd, Nat.reduceMul])) | apply cond2_intro | with_reducible apply And.intro | intro h)
  rw [h1, h2] at hw
  rw [Bool.and_true, if_pos rfl] at hw
  refine ConC.con (ent _ Tryz.func157 rfl rfl) (con_of_body env Tryz.func157 rfl (nt := 37) (rs := [.tmp 4]) rfl rfl (Nat.le_of_ble_eq_true rfl) fun hok => ?_)
  obtain ⟨hl, _⟩ := rCond_lens (hok (dCond c) (by simp))
  repeat' (first | (first | (refine AWP.go env ?_; intro K fin; try simp +decide (maxSteps := 4000000) only [h1, h2, rCond, go_sem, Nat.reduceAdd, Nat.reduceMul]) | refine Kt.h _ _ ?_ | refine Ft.k (by decide +kernel) ?_ | ((first | refine ⟨_, fewGC (g := p.graph), ?_⟩ | refine ⟨_, fewPC (p := c.patt), ?_⟩ | refine ⟨_, hm, ?_⟩ | refine ⟨_, ihk, ?_⟩); simp +decide (maxSteps := 4000000) only [h1, h2, rCond, go_sem, Nat.reduceAdd, Nat.reduceMul])) | apply cond2_intro | with_reducible apply And.intro | intro h)
  refine AWP.lp (α := (k : Int) × Way c.kids fun _ b => leftL b k = leftF c most)
    (fun w => ⟨37, [(1, .int .i64 w.1), (2, .ptr 200 0 0 0), (5, .int .i64 w.2.pre.length)],
      [(200, ⟨0, true, true, 9, 39, [rCond c]⟩)]⟩) (fun w => w.2.post.length) ⟨_, [], c.kids, rfl, hw.symm⟩ (by simp +decide (maxSteps := 4000000) only [rCond, go_sem, Nat.reduceAdd, Nat.reduceMul]; try simp) fun w K => ?_
  obtain ⟨k, a, b, hab, hinv⟩ := w
  cases b with
  | nil =>
    have hab : c.kids = a := by simpa using hab
    have hn2 : ((a.length : Int) < (c.kids.length : Int)) = False := by simp [hab]
    rw [leftL] at hinv
    repeat' (first | (first | (refine AWP.go env ?_; intro K fin; try simp +decide (maxSteps := 4000000) only [hn2, rCond, go_sem, Nat.reduceAdd, Nat.reduceMul]) | refine Kt.h _ _ ?_ | refine Ft.k (by decide +kernel) ?_ | ((first | refine ⟨_, fewGC (g := p.graph), ?_⟩ | refine ⟨_, fewPC (p := c.patt), ?_⟩ | refine ⟨_, hm, ?_⟩ | refine ⟨_, ihk, ?_⟩); simp +decide (maxSteps := 4000000) only [hn2, rCond, go_sem, Nat.reduceAdd, Nat.reduceMul])) | apply cond2_intro | with_reducible apply And.intro | intro h)
    all_goals exact hinv
  | cons x b =>
    have hal : a.length < c.kids.length := by rw [hab]; simp
    have hn2 : ((a.length : Int) < (c.kids.length : Int)) = True := by simp [hal]
    have hget := kid_row hab
    have v3 : IntKind.i64.wrap ((a.length : Int) + 1) = ((a.length + 1 : Nat) : Int) := by rw [wrap64 (by omega) (by omega)]; try rfl
    have ihk := ih x (by rw [hab]; simp) k
    rw [leftL] at hinv
    by_cases hk : 0 ≤ k
    · have hk2 : (0 ≤ k) = True := eq_true hk
      rw [if_pos hk] at hinv
      repeat' (first | (first | (refine AWP.go env ?_; intro K fin; try simp +decide (maxSteps := 4000000) only [hn2, hget, v3, rCond, hk2, go_sem, Nat.reduceAdd, Nat.reduceMul]) | refine Kt.h _ _ ?_ | refine Ft.k (by decide +kernel) ?_ | ((first | refine ⟨_, fewGC (g := p.graph), ?_⟩ | refine ⟨_, fewPC (p := c.patt), ?_⟩ | refine ⟨_, hm, ?_⟩ | refine ⟨_, ihk, ?_⟩); simp +decide (maxSteps := 4000000) only [hn2, hget, v3, rCond, hk2, go_sem, Nat.reduceAdd, Nat.reduceMul])) | apply cond2_intro | with_reducible apply And.intro | intro h)
      all_goals try omega
      all_goals try (simp only [List.mem_cons, List.not_mem_nil, or_false] at h; (repeat' (first | (subst h; rfl) | rcases h with h | h)))
      refine ⟨⟨leftF x k, a ++ [x], b, by simp [hab], hinv⟩, by simp, by simp +decide (maxSteps := 4000000) only [rCond, go_sem, Nat.reduceAdd, Nat.reduceMul]; simp⟩
    · have hk2 : (0 ≤ k) = False := eq_false hk
      rw [if_neg hk] at hinv
      repeat' (first | (first | (refine AWP.go env ?_; intro K fin; try simp +decide (maxSteps := 4000000) only [hn2, hget, v3, rCond, hk2, go_sem, Nat.reduceAdd, Nat.reduceMul]) | refine Kt.h _ _ ?_ | refine Ft.k (by decide +kernel) ?_ | ((first | refine ⟨_, fewGC (g := p.graph), ?_⟩ | refine ⟨_, fewPC (p := c.patt), ?_⟩ | refine ⟨_, hm, ?_⟩ | refine ⟨_, ihk, ?_⟩); simp +decide (maxSteps := 4000000) only [hn2, hget, v3, rCond, hk2, go_sem, Nat.reduceAdd, Nat.reduceMul])) | apply cond2_intro | with_reducible apply And.intro | intro h)
      all_goals exact hinv

theorem leftC (c : Cond) (most : Int) : Con Tryz.prog 157 [dCond c, .int .i64 most] (.int .i64 (leftF c most)) :=
  leftStepC fun x hx k => have := kid_lt hx; leftC x k
termination_by SizeOf.sizeOf c

def fewC (c : Cond) : Bool := decide (0 ≤ leftF c 40)

theorem fewCC {c : Cond} : Con Tryz.prog 90 [dCond c] (.bool (fewC c)) := by
  refine ConC.con (ent _ Tryz.func90 rfl rfl) (con_of_body env Tryz.func90 rfl (nt := 6) (rs := [.tmp 2]) rfl rfl (Nat.le_of_ble_eq_true rfl) fun hok => ?_)
  repeat' (first | (first | (refine AWP.go env ?_; intro K fin; try simp +decide (maxSteps := 4000000) only [rCond, go_sem, Nat.reduceAdd, Nat.reduceMul]) | refine Kt.h _ _ ?_ | refine Ft.k (by decide +kernel) ?_ | ((first | refine ⟨_, fewGC (g := p.graph), ?_⟩ | refine ⟨_, fewPC (p := c.patt), ?_⟩ | refine ⟨_, hm, ?_⟩ | refine ⟨_, ihk, ?_⟩ | refine ⟨_, leftC c 40, ?_⟩); simp +decide (maxSteps := 4000000) only [rCond, go_sem, Nat.reduceAdd, Nat.reduceMul])) | apply cond2_intro | with_reducible apply And.intro | intro h)
  all_goals rfl

def fewR (r : Rul) : Bool := decide (r.name.size ≤ 60) && fewP r.left && fewP r.right && fewM r.keep 140 && fewM r.into 140 && fewC r.cond

theorem fewRC {r : Rul} : Con Tryz.prog 32 [dRule r] (.bool (fewR r)) := by
  have hm1 : Con Tryz.prog 37 [dTwo r.into, .int .i64 140] (.bool (fewM r.into 140)) := fewMC (n := 140)
  have hm2 : Con Tryz.prog 89 [dTwo r.keep, .int .i64 140] (.bool (fewM r.keep 140)) := fewMC7 (n := 140)
  refine ConC.con (ent _ Tryz.func32 rfl rfl) (con_of_body env Tryz.func32 rfl (nt := 32) (rs := [.tmp 2]) rfl rfl (Nat.le_of_ble_eq_true rfl) fun hok => ?_)
  repeat' (first | (first | (refine AWP.go env ?_; intro K fin; try simp +decide (maxSteps := 4000000) only [rCond, go_sem, Nat.reduceAdd, Nat.reduceMul]) | refine Kt.h _ _ ?_ | refine Ft.k (by decide +kernel) ?_ | ((first | refine ⟨_, fewGC (g := p.graph), ?_⟩ | refine ⟨_, fewPC (p := c.patt), ?_⟩ | refine ⟨_, hm, ?_⟩ | refine ⟨_, ihk, ?_⟩ | refine ⟨_, leftC c 40, ?_⟩ | refine ⟨_, fewPC (p := r.left), ?_⟩ | refine ⟨_, fewPC (p := r.right), ?_⟩ | refine ⟨_, hm1, ?_⟩ | refine ⟨_, hm2, ?_⟩ | refine ⟨_, fewCC (c := r.cond), ?_⟩); simp +decide (maxSteps := 4000000) only [rCond, go_sem, Nat.reduceAdd, Nat.reduceMul])) | apply cond2_intro | with_reducible apply And.intro | intro h)
  all_goals (unfold fewR; grind)

theorem fewLC {t : Types} {r : Rul} : Con Tryz.prog 13 [dTypes t, dRule r] (.bool (fewTB t && fewR r)) := by
  refine ConC.con (ent _ Tryz.func13 rfl rfl) (con_of_body env Tryz.func13 rfl (nt := 11) (rs := [.tmp 4]) rfl rfl (Nat.le_of_ble_eq_true rfl) fun hok => ?_)
  repeat' (first | (first | (refine AWP.go env ?_; intro K fin; try simp +decide (maxSteps := 4000000) only [go_sem, Nat.reduceAdd, Nat.reduceMul]) | refine Kt.h _ _ ?_ | refine Ft.k (by decide +kernel) ?_ | ((first | refine ⟨_, fewGC (g := p.graph), ?_⟩ | refine ⟨_, fewPC (p := c.patt), ?_⟩ | refine ⟨_, hm, ?_⟩ | refine ⟨_, ihk, ?_⟩ | refine ⟨_, leftC c 40, ?_⟩ | refine ⟨_, fewPC (p := r.left), ?_⟩ | refine ⟨_, fewPC (p := r.right), ?_⟩ | refine ⟨_, hm1, ?_⟩ | refine ⟨_, hm2, ?_⟩ | refine ⟨_, fewCC (c := r.cond), ?_⟩ | refine ⟨_, fewTC (t := t), ?_⟩ | refine ⟨_, fewRC (r := r), ?_⟩); simp +decide (maxSteps := 4000000) only [go_sem, Nat.reduceAdd, Nat.reduceMul])) | apply cond2_intro | with_reducible apply And.intro | intro h)
  all_goals grind

theorem lawRuleValid {t : Types} {r : Rul} (haw : Con Tryz.prog 12 [] (.bool true)) : Con Tryz.prog 3 [dTypes t, dRule r] (.bool true) := by
  by_cases hf : (fewTB t && fewR r) = true
  case neg =>
    have hf : (fewTB t && fewR r) = false := by simpa using hf
    refine ConC.con (ent _ Tryz.func3 rfl rfl) (con_of_body env Tryz.func3 rfl (nt := 21) (rs := [.tmp 4]) rfl rfl (Nat.le_of_ble_eq_true rfl) fun hok => ?_)
    repeat' (first | (first | (refine AWP.go env ?_; intro K fin; try simp +decide (maxSteps := 4000000) only [hf, go_sem, Nat.reduceAdd, Nat.reduceMul]) | refine Kt.h _ _ ?_ | refine Ft.k (by decide +kernel) ?_ | ((first | refine ⟨_, fewGC (g := p.graph), ?_⟩ | refine ⟨_, fewPC (p := c.patt), ?_⟩ | refine ⟨_, hm, ?_⟩ | refine ⟨_, ihk, ?_⟩ | refine ⟨_, leftC c 40, ?_⟩ | refine ⟨_, fewPC (p := r.left), ?_⟩ | refine ⟨_, fewPC (p := r.right), ?_⟩ | refine ⟨_, hm1, ?_⟩ | refine ⟨_, hm2, ?_⟩ | refine ⟨_, fewCC (c := r.cond), ?_⟩ | refine ⟨_, fewTC (t := t), ?_⟩ | refine ⟨_, fewRC (r := r), ?_⟩ | refine ⟨_, haw, ?_⟩ | refine ⟨_, fewLC (t := t) (r := r), ?_⟩ | refine ⟨_, ruleC (t := t) (r := r), ?_⟩ | refine ⟨_, hrr, ?_⟩); simp +decide (maxSteps := 4000000) only [hf, go_sem, Nat.reduceAdd, Nat.reduceMul])) | apply cond2_intro | with_reducible apply And.intro | intro h)
  have hrr := rRuleC (fewT_attrs (fewTB_iff.1 (Bool.and_eq_true _ _ ▸ hf).1)) (r := r)
  refine ConC.con (ent _ Tryz.func3 rfl rfl) (con_of_body env Tryz.func3 rfl (nt := 21) (rs := [.tmp 4]) rfl rfl (Nat.le_of_ble_eq_true rfl) fun hok => ?_)
  repeat' (first | (first | (refine AWP.go env ?_; intro K fin; try simp +decide (maxSteps := 4000000) only [hf, go_sem, Nat.reduceAdd, Nat.reduceMul]) | refine Kt.h _ _ ?_ | refine Ft.k (by decide +kernel) ?_ | ((first | refine ⟨_, fewGC (g := p.graph), ?_⟩ | refine ⟨_, fewPC (p := c.patt), ?_⟩ | refine ⟨_, hm, ?_⟩ | refine ⟨_, ihk, ?_⟩ | refine ⟨_, leftC c 40, ?_⟩ | refine ⟨_, fewPC (p := r.left), ?_⟩ | refine ⟨_, fewPC (p := r.right), ?_⟩ | refine ⟨_, hm1, ?_⟩ | refine ⟨_, hm2, ?_⟩ | refine ⟨_, fewCC (c := r.cond), ?_⟩ | refine ⟨_, fewTC (t := t), ?_⟩ | refine ⟨_, fewRC (r := r), ?_⟩ | refine ⟨_, haw, ?_⟩ | refine ⟨_, fewLC (t := t) (r := r), ?_⟩ | refine ⟨_, ruleC (t := t) (r := r), ?_⟩ | refine ⟨_, hrr, ?_⟩); simp +decide (maxSteps := 4000000) only [hf, go_sem, Nat.reduceAdd, Nat.reduceMul])) | apply cond2_intro | with_reducible apply And.intro | intro h)
  all_goals simp
end Go.Abs
/- The chapter's example holds. -/
set_option linter.unusedSimpArgs false
set_option linter.unusedVariables false
set_option maxRecDepth 20000
set_option maxHeartbeats 4000000
namespace Go.Abs
open Go Go.RowKit Go.Proofs
attribute [local irreducible] Con AWP

abbrev fTypes : D := .agg [.fsl 4 [[.str ⟨#[65, 99, 99, 111, 117, 110, 116]⟩, .int .i64 (-1), .bool true, .fsl 4 [[.str ⟨#[98, 97, 108, 97, 110, 99, 101]⟩, .int .i64 (-1000), .int .i64 1000, .nil]]],
    [.str ⟨#[67, 97, 115, 104]⟩, .int .i64 0, .bool false, .nil],
    [.str ⟨#[76, 111, 97, 110]⟩, .int .i64 0, .bool false, .fsl 4 [[.str ⟨#[115, 116, 97, 116, 101]⟩, .int .i64 0, .int .i64 1, .fsl 1 [[.str ⟨#[111, 112, 101, 110]⟩], [.str ⟨#[99, 108, 111, 115, 101, 100]⟩]]]]],
    [.str ⟨#[80, 101, 114, 115, 111, 110]⟩, .int .i64 (-1), .bool false, .nil]],
  .fsl 7 [[.str ⟨#[111, 119, 110, 115]⟩, .int .i64 3, .int .i64 0, .int .i64 0, .int .i64 (-1), .int .i64 1, .int .i64 1], [.str ⟨#[112, 97, 121, 115]⟩, .int .i64 1, .int .i64 1, .int .i64 0, .int .i64 (-1), .int .i64 0, .int .i64 (-1)]]]

abbrev fPlain (r : Rul) : D := .agg [.str r.name, dInts r.left.graph.nodes, .fsl 3 (r.left.graph.edges.map rEdge), .nil, .int .i64 0, .nil, dInts r.right.graph.nodes, .fsl 3 (r.right.graph.edges.map rEdge), .nil, .int .i64 0, .nil,
  dInts r.keep.nodes, dInts r.keep.edges, dInts r.into.nodes, dInts r.into.edges, .bool r.inj, .int .i64 1, .nil, .nil, .nil, .nil, .nil, .nil, .int .i64 0, .nil]

theorem awDel : Con Tryz.prog 19 [fTypes, fPlain rE] (.tup [nInts [], nInts [], .int .i64 0]) := by
  have h := DeletedOkC ruleE
  rw [delE.1, delE.2] at h
  exact h.leW 20 rfl (by decide +kernel)

theorem awCre : Con Tryz.prog 21 [fTypes, fPlain rE] (.tup [nInts [2], nInts [1], .int .i64 0]) := by
  have h := CreatedOkC ruleE
  rw [creE.1, creE.2] at h
  exact h.leW 20 rfl (by decide +kernel)

theorem awInv : Con Tryz.prog 16 [fTypes, fPlain rE] (.tup [nPlain rI2, .int .i64 0]) := by
  have h := invOkC invE
  rw [invE2] at h
  exact h.leW 20 rfl (by decide +kernel)

theorem awDel2 : Con Tryz.prog 19 [fTypes, fPlain rI2] (.tup [nInts [2], nInts [1], .int .i64 0]) := by
  have h := DeletedOkC ruleE2
  rw [delE2.1, delE2.2] at h
  exact h.leW 20 rfl (by decide +kernel)

theorem awEq2 : Con Tryz.prog 25 [.fsl 1 (List.map rI [2]), .fsl 1 [[.int .i64 2]]] (.bool true) := equalIntC (a := [2]) (b := [2])
theorem awEq1 : Con Tryz.prog 25 [.fsl 1 (List.map rI [1]), .fsl 1 [[.int .i64 1]]] (.bool true) := equalIntC (a := [1]) (b := [1])

theorem awakeC : Con Tryz.prog 12 [] (.bool true) := by
  refine ConC.con (ent _ Tryz.func12 rfl rfl) (con_of_body env Tryz.func12 rfl (nt := 83) (rs := [.tmp 0]) rfl rfl (Nat.le_of_ble_eq_true rfl) fun hok => ?_)
  repeat' (first | (first | (refine AWP.go env ?_; intro K fin; try simp +decide (maxSteps := 4000000) only [go_sem, Nat.reduceAdd, Nat.reduceMul]) | refine Kt.h _ _ ?_ | refine Ft.k (by decide +kernel) ?_ | ((first | refine ⟨_, exampleTC, ?_⟩ | refine ⟨_, exampleRC, ?_⟩ | refine ⟨_, awDel, ?_⟩ | refine ⟨_, awCre, ?_⟩ | refine ⟨_, awInv, ?_⟩ | refine ⟨_, awDel2, ?_⟩ | refine ⟨_, awEq2, ?_⟩ | refine ⟨_, awEq1, ?_⟩); simp +decide (maxSteps := 4000000) only [go_sem, Nat.reduceAdd, Nat.reduceMul])) | apply cond2_intro | with_reducible apply And.intro | intro h)
  all_goals exact absurd h (by decide)

theorem ruleValidC {t : Types} {r : Rul} : Con Tryz.prog 3 [dTypes t, dRule r] (.bool true) := lawRuleValid awakeC
end Go.Abs
/- What all claims of this seat have in common. -/
namespace Go.Abs
end Go.Abs
