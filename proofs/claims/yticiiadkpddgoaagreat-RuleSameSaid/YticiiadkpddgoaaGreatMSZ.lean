/- RuleSame holds of every input. Its row, out of the contract of its function. -/
import Derived.Test.YticiiadkpddgoaaGreatMBZ
import Derived.Test.YticiiadkpddgoaaGreatRows
import Derived.WalkKit
import Derived.ProofKit
import Derived.OpenShut
import Derived.ShutString
import Derived.ChangeOld
import Derived.Below
import Derived.SizedLaws
import Derived.Carry
import Derived.JoinedOf
/- Lists, graphs, patterns that are equal. Printed by gen/mk_s1.py. -/
set_option linter.unusedSimpArgs false
set_option linter.unusedVariables false
set_option maxRecDepth 20000
set_option maxHeartbeats 4000000
namespace Go.Abs
open Go Go.RowKit Go.Proofs
attribute [local irreducible] Con AWP

deriving instance DecidableEq for Edge
deriving instance DecidableEq for Graph
deriving instance DecidableEq for Term
deriving instance DecidableEq for Slot
deriving instance DecidableEq for Tst
deriving instance DecidableEq for Patt
deriving instance DecidableEq for Two

def eqE (a b : Edge) : Bool := (a.typ == b.typ) && ((a.src == b.src) && ((a.tgt == b.tgt) && true))
def eqS (a b : Slot) : Bool := (a.node == b.node) && ((a.attr == b.attr) && ((a.term.var == b.term.var) && ((a.term.add == b.term.add) && true)))
def eqT (a b : Tst) : Bool := (a.kind == b.kind) && ((a.left.var == b.left.var) && ((a.left.add == b.left.add) && ((a.right.var == b.right.var) && ((a.right.add == b.right.add) && true))))
theorem eqE_iff {a b : Edge} : eqE a b = true ↔ a = b := by cases a; cases b; simp [eqE]
theorem eqS_iff {a b : Slot} : eqS a b = true ↔ a = b := by obtain ⟨_, _, ⟨_, _⟩⟩ := a; obtain ⟨_, _, ⟨_, _⟩⟩ := b; simp [eqS, and_assoc]
theorem eqT_iff {a b : Tst} : eqT a b = true ↔ a = b := by obtain ⟨_, ⟨_, _⟩, ⟨_, _⟩⟩ := a; obtain ⟨_, ⟨_, _⟩, ⟨_, _⟩⟩ := b; simp [eqT, and_assoc]

theorem take_step {X : Type} {a b : List X} {k : Nat} (ha : k < a.length) (hb : k < b.length) (h : a.take k = b.take k) (he : a[k] = b[k]) : a.take (k + 1) = b.take (k + 1) := by
  rw [List.take_succ_eq_append_getElem ha, List.take_succ_eq_append_getElem hb, h, he]
theorem take_all {X : Type} {a b : List X} {k : Nat} (hl : a.length = b.length) (hk : k = a.length) (h : a.take k = b.take k) : a = b := by
  rw [hk, List.take_length, hl, List.take_length] at h; exact h
theorem take_ne {X : Type} {a b : List X} {k : Nat} (ha : k < a.length) (hb : k < b.length) (he : ¬ a[k] = b[k]) : ¬ a = b := fun h => by subst h; exact he rfl

theorem same05C {a b : List Int} : Con Tryz.prog 146 [dInts a, dInts b] (.bool (decide (a = b))) := by
  by_cases hl : a.length = b.length
  case neg =>
    have q : ((a.length : Int) != (b.length : Int)) = true := by simpa using fun h => hl (by omega)
    have hF : decide (a = b) = false := decide_eq_false fun h => hl (by rw [h])
    rw [hF]
    refine ConC.con (ent _ Tryz.func146 rfl rfl) (con_of_body env Tryz.func146 rfl (nt := 26) (rs := [.tmp 4]) rfl rfl (Nat.le_of_ble_eq_true rfl) fun hok => ?_)
    repeat' (first | (first | (refine AWP.go env ?_; intro K fin; try simp +decide (maxSteps := 4000000) only [q, go_sem, Nat.reduceAdd, Nat.reduceMul]) | refine Kt.h _ _ ?_ | refine Ft.k (by decide +kernel) ?_) | apply cond2_intro | with_reducible apply And.intro | intro h)
  have q : ((a.length : Int) != (b.length : Int)) = false := by simp [hl]
  refine ConC.con (ent _ Tryz.func146 rfl rfl) (con_of_body env Tryz.func146 rfl (nt := 26) (rs := [.tmp 4]) rfl rfl (Nat.le_of_ble_eq_true rfl) fun hok => ?_)
  have hla : a.length ≤ 140737488355328 := by simpa using (hok (dInts a) (by simp)).len
  repeat' (first | (first | (refine AWP.go env ?_; intro K fin; try simp +decide (maxSteps := 4000000) only [q, go_sem, Nat.reduceAdd, Nat.reduceMul]) | refine Kt.h _ _ ?_ | refine Ft.k (by decide +kernel) ?_) | apply cond2_intro | with_reducible apply And.intro | intro h)
  refine AWP.lp (α := {k : Nat // k ≤ a.length ∧ a.take k = b.take k})
    (fun w => ⟨26, [(0, dInts a), (1, dInts b), (5, .int .i64 w.1)], []⟩) (fun w => a.length - w.1) ⟨0, by omega, rfl⟩ (by simp +decide (maxSteps := 4000000) only [go_sem, Nat.reduceAdd, Nat.reduceMul]; try simp) fun w K => ?_
  obtain ⟨k, hk, hinv⟩ := w
  by_cases hkn : k = a.length
  · have hn2 : ((k : Int) < (a.length : Int)) = False := by simp [hkn]
    have hF : decide (a = b) = true := decide_eq_true (take_all hl hkn hinv)
    repeat' (first | (first | (refine AWP.go env ?_; intro K fin; try simp +decide (maxSteps := 4000000) only [hn2, hF, go_sem, Nat.reduceAdd, Nat.reduceMul]) | refine Kt.h _ _ ?_ | refine Ft.k (by decide +kernel) ?_) | apply cond2_intro | with_reducible apply And.intro | intro h)
  · have hn2 : ((k : Int) < (a.length : Int)) = True := by simp; omega
    have hka : k < a.length := by omega
    have hkb : k < b.length := by omega
    have hg1 : getR (a.map rI) k = [.int .i64 a[k]] := by rw [getR_map _ _ _ hka]
    have hg2 : getR (b.map rI) k = [.int .i64 b[k]] := by rw [getR_map _ _ _ hkb]
    have v3 : IntKind.i64.wrap ((k : Int) + 1) = ((k + 1 : Nat) : Int) := by rw [wrap64 (by omega) (by omega)]; try rfl
    by_cases he : a[k] = b[k]
    · have he' : (a[k] != b[k]) = false := by simpa using he
      repeat' (first | (first | (refine AWP.go env ?_; intro K fin; try simp +decide (maxSteps := 4000000) only [hn2, hg1, hg2, v3, he', go_sem, Nat.reduceAdd, Nat.reduceMul]) | refine Kt.h _ _ ?_ | refine Ft.k (by decide +kernel) ?_) | apply cond2_intro | with_reducible apply And.intro | intro h)
      all_goals try omega
      refine ⟨⟨k + 1, by omega, take_step hka hkb hinv he⟩, by simp; omega, by simp +decide (maxSteps := 4000000) only [go_sem, Nat.reduceAdd, Nat.reduceMul]; try simp⟩
    · have he' : (a[k] != b[k]) = true := by simpa using he
      have hF : decide (a = b) = false := decide_eq_false (take_ne hka hkb he)
      repeat' (first | (first | (refine AWP.go env ?_; intro K fin; try simp +decide (maxSteps := 4000000) only [hn2, hg1, hg2, v3, he', hF, go_sem, Nat.reduceAdd, Nat.reduceMul]) | refine Kt.h _ _ ?_ | refine Ft.k (by decide +kernel) ?_) | apply cond2_intro | with_reducible apply And.intro | intro h)
      all_goals try omega

theorem same02C {a b : List Int} : Con Tryz.prog 147 [dInts a, dInts b] (.bool (decide (a = b))) := by
  by_cases hl : a.length = b.length
  case neg =>
    have q : ((a.length : Int) != (b.length : Int)) = true := by simpa using fun h => hl (by omega)
    have hF : decide (a = b) = false := decide_eq_false fun h => hl (by rw [h])
    rw [hF]
    refine ConC.con (ent _ Tryz.func147 rfl rfl) (con_of_body env Tryz.func147 rfl (nt := 26) (rs := [.tmp 4]) rfl rfl (Nat.le_of_ble_eq_true rfl) fun hok => ?_)
    repeat' (first | (first | (refine AWP.go env ?_; intro K fin; try simp +decide (maxSteps := 4000000) only [q, go_sem, Nat.reduceAdd, Nat.reduceMul]) | refine Kt.h _ _ ?_ | refine Ft.k (by decide +kernel) ?_) | apply cond2_intro | with_reducible apply And.intro | intro h)
  have q : ((a.length : Int) != (b.length : Int)) = false := by simp [hl]
  refine ConC.con (ent _ Tryz.func147 rfl rfl) (con_of_body env Tryz.func147 rfl (nt := 26) (rs := [.tmp 4]) rfl rfl (Nat.le_of_ble_eq_true rfl) fun hok => ?_)
  have hla : a.length ≤ 140737488355328 := by simpa using (hok (dInts a) (by simp)).len
  repeat' (first | (first | (refine AWP.go env ?_; intro K fin; try simp +decide (maxSteps := 4000000) only [q, go_sem, Nat.reduceAdd, Nat.reduceMul]) | refine Kt.h _ _ ?_ | refine Ft.k (by decide +kernel) ?_) | apply cond2_intro | with_reducible apply And.intro | intro h)
  refine AWP.lp (α := {k : Nat // k ≤ a.length ∧ a.take k = b.take k})
    (fun w => ⟨26, [(0, dInts a), (1, dInts b), (5, .int .i64 w.1)], []⟩) (fun w => a.length - w.1) ⟨0, by omega, rfl⟩ (by simp +decide (maxSteps := 4000000) only [go_sem, Nat.reduceAdd, Nat.reduceMul]; try simp) fun w K => ?_
  obtain ⟨k, hk, hinv⟩ := w
  by_cases hkn : k = a.length
  · have hn2 : ((k : Int) < (a.length : Int)) = False := by simp [hkn]
    have hF : decide (a = b) = true := decide_eq_true (take_all hl hkn hinv)
    repeat' (first | (first | (refine AWP.go env ?_; intro K fin; try simp +decide (maxSteps := 4000000) only [hn2, hF, go_sem, Nat.reduceAdd, Nat.reduceMul]) | refine Kt.h _ _ ?_ | refine Ft.k (by decide +kernel) ?_) | apply cond2_intro | with_reducible apply And.intro | intro h)
  · have hn2 : ((k : Int) < (a.length : Int)) = True := by simp; omega
    have hka : k < a.length := by omega
    have hkb : k < b.length := by omega
    have hg1 : getR (a.map rI) k = [.int .i64 a[k]] := by rw [getR_map _ _ _ hka]
    have hg2 : getR (b.map rI) k = [.int .i64 b[k]] := by rw [getR_map _ _ _ hkb]
    have v3 : IntKind.i64.wrap ((k : Int) + 1) = ((k + 1 : Nat) : Int) := by rw [wrap64 (by omega) (by omega)]; try rfl
    by_cases he : a[k] = b[k]
    · have he' : (a[k] != b[k]) = false := by simpa using he
      repeat' (first | (first | (refine AWP.go env ?_; intro K fin; try simp +decide (maxSteps := 4000000) only [hn2, hg1, hg2, v3, he', go_sem, Nat.reduceAdd, Nat.reduceMul]) | refine Kt.h _ _ ?_ | refine Ft.k (by decide +kernel) ?_) | apply cond2_intro | with_reducible apply And.intro | intro h)
      all_goals try omega
      refine ⟨⟨k + 1, by omega, take_step hka hkb hinv he⟩, by simp; omega, by simp +decide (maxSteps := 4000000) only [go_sem, Nat.reduceAdd, Nat.reduceMul]; try simp⟩
    · have he' : (a[k] != b[k]) = true := by simpa using he
      have hF : decide (a = b) = false := decide_eq_false (take_ne hka hkb he)
      repeat' (first | (first | (refine AWP.go env ?_; intro K fin; try simp +decide (maxSteps := 4000000) only [hn2, hg1, hg2, v3, he', hF, go_sem, Nat.reduceAdd, Nat.reduceMul]) | refine Kt.h _ _ ?_ | refine Ft.k (by decide +kernel) ?_) | apply cond2_intro | with_reducible apply And.intro | intro h)
      all_goals try omega

theorem sameGC {a b : Graph} : Con Tryz.prog 145 [dGraph a, dGraph b] (.bool (decide (a = b))) := by
  by_cases h1 : a.nodes = b.nodes
  case neg =>
    have hF : decide (a = b) = false := decide_eq_false fun h => h1 (by rw [h])
    have h1' : decide (a.nodes = b.nodes) = false := decide_eq_false h1
    rw [hF]
    refine ConC.con (ent _ Tryz.func145 rfl rfl) (con_of_body env Tryz.func145 rfl (nt := 39) (rs := [.tmp 4]) rfl rfl (Nat.le_of_ble_eq_true rfl) fun hok => ?_)
    repeat' (first | (first | (refine AWP.go env ?_; intro K fin; try simp +decide (maxSteps := 4000000) only [h1', go_sem, Nat.reduceAdd, Nat.reduceMul]) | refine Kt.h _ _ ?_ | refine Ft.k (by decide +kernel) ?_ | (refine ⟨_, same05C, ?_⟩; simp +decide (maxSteps := 4000000) only [h1', go_sem, Nat.reduceAdd, Nat.reduceMul])) | apply cond2_intro | with_reducible apply And.intro | intro h)
  have h1' : decide (a.nodes = b.nodes) = true := decide_eq_true h1
  by_cases hl : a.edges.length = b.edges.length
  case neg =>
    have q : ((a.edges.length : Int) != (b.edges.length : Int)) = true := by simpa using fun h => hl (by omega)
    have hF : decide (a = b) = false := decide_eq_false fun h => hl (by rw [h])
    rw [hF]
    refine ConC.con (ent _ Tryz.func145 rfl rfl) (con_of_body env Tryz.func145 rfl (nt := 39) (rs := [.tmp 4]) rfl rfl (Nat.le_of_ble_eq_true rfl) fun hok => ?_)
    repeat' (first | (first | (refine AWP.go env ?_; intro K fin; try simp +decide (maxSteps := 4000000) only [h1', q, go_sem, Nat.reduceAdd, Nat.reduceMul]) | refine Kt.h _ _ ?_ | refine Ft.k (by decide +kernel) ?_ | (refine ⟨_, same05C, ?_⟩; simp +decide (maxSteps := 4000000) only [h1', q, go_sem, Nat.reduceAdd, Nat.reduceMul])) | apply cond2_intro | with_reducible apply And.intro | intro h)
  have q : ((a.edges.length : Int) != (b.edges.length : Int)) = false := by simp [hl]
  refine ConC.con (ent _ Tryz.func145 rfl rfl) (con_of_body env Tryz.func145 rfl (nt := 39) (rs := [.tmp 4]) rfl rfl (Nat.le_of_ble_eq_true rfl) fun hok => ?_)
  have hla : a.edges.length ≤ 140737488355328 := by simpa using (DOk.mem (hok (dGraph a) (by simp)) (d := .fsl 3 (a.edges.map rEdge)) (by simp)).len
  repeat' (first | (first | (refine AWP.go env ?_; intro K fin; try simp +decide (maxSteps := 4000000) only [h1', q, go_sem, Nat.reduceAdd, Nat.reduceMul]) | refine Kt.h _ _ ?_ | refine Ft.k (by decide +kernel) ?_ | (refine ⟨_, same05C, ?_⟩; simp +decide (maxSteps := 4000000) only [h1', q, go_sem, Nat.reduceAdd, Nat.reduceMul])) | apply cond2_intro | with_reducible apply And.intro | intro h)
  refine AWP.lp (α := {k : Nat // k ≤ a.edges.length ∧ a.edges.take k = b.edges.take k})
    (fun w => ⟨39, [(2, .ptr 200 0 0 0), (3, .ptr 300 0 0 0), (5, .int .i64 w.1)],
      [(200, ⟨0, true, true, 2, 29, [cGraph a]⟩), (300, ⟨0, true, true, 2, 29, [cGraph b]⟩)]⟩) (fun w => a.edges.length - w.1) ⟨0, by omega, rfl⟩ (by simp +decide (maxSteps := 4000000) only [go_sem, Nat.reduceAdd, Nat.reduceMul]; try simp) fun w K => ?_
  obtain ⟨k, hk, hinv⟩ := w
  by_cases hkn : k = a.edges.length
  case neg =>
    have hn2 : ((k : Int) < (a.edges.length : Int)) = True := by simp; omega
    have hka : k < a.edges.length := by omega
    have hkb : k < b.edges.length := by omega
    have hg1 : getR (a.edges.map rEdge) k = [.int .i64 (a.edges[k]).typ, .int .i64 (a.edges[k]).src, .int .i64 (a.edges[k]).tgt] := by rw [getR_map _ _ _ hka]; try rfl
    have hg2 : getR (b.edges.map rEdge) k = [.int .i64 (b.edges[k]).typ, .int .i64 (b.edges[k]).src, .int .i64 (b.edges[k]).tgt] := by rw [getR_map _ _ _ hkb]; try rfl
    have v3 : IntKind.i64.wrap ((k : Int) + 1) = ((k + 1 : Nat) : Int) := by rw [wrap64 (by omega) (by omega)]; try rfl
    by_cases he : a.edges[k] = b.edges[k]
    · have he' := eqE_iff.2 he
      unfold eqE at he'
      simp only [Bool.and_true] at he'
      repeat' (first | (first | (refine AWP.go env ?_; intro K fin; try simp +decide (maxSteps := 4000000) only [hn2, hg1, hg2, v3, he', go_sem, Nat.reduceAdd, Nat.reduceMul]) | refine Kt.h _ _ ?_ | refine Ft.k (by decide +kernel) ?_ | (refine ⟨_, same05C, ?_⟩; simp +decide (maxSteps := 4000000) only [hn2, hg1, hg2, v3, he', go_sem, Nat.reduceAdd, Nat.reduceMul])) | apply cond2_intro | with_reducible apply And.intro | intro h)
      all_goals try omega
      all_goals try (simp only [List.mem_cons, List.not_mem_nil, or_false] at h; (repeat' (first | (subst h; rfl) | rcases h with h | h)))
      refine ⟨⟨k + 1, by omega, take_step hka hkb hinv he⟩, by simp; omega, by simp +decide (maxSteps := 4000000) only [go_sem, Nat.reduceAdd, Nat.reduceMul]; try simp⟩
    · have he' : eqE (a.edges[k]) (b.edges[k]) = false := by rw [← Bool.not_eq_true, eqE_iff]; exact he
      unfold eqE at he'
      simp only [Bool.and_true] at he'
      have hF : decide (a = b) = false := decide_eq_false fun h => take_ne hka hkb he (by rw [h])
      repeat' (first | (first | (refine AWP.go env ?_; intro K fin; try simp +decide (maxSteps := 4000000) only [hn2, hg1, hg2, v3, he', hF, go_sem, Nat.reduceAdd, Nat.reduceMul]) | refine Kt.h _ _ ?_ | refine Ft.k (by decide +kernel) ?_ | (refine ⟨_, same05C, ?_⟩; simp +decide (maxSteps := 4000000) only [hn2, hg1, hg2, v3, he', hF, go_sem, Nat.reduceAdd, Nat.reduceMul])) | apply cond2_intro | with_reducible apply And.intro | intro h)
      all_goals try omega
      all_goals try (simp only [List.mem_cons, List.not_mem_nil, or_false] at h; (repeat' (first | (subst h; rfl) | rcases h with h | h)))
  have hn2 : ((k : Int) < (a.edges.length : Int)) = False := by simp [hkn]
  have hEEdge := take_all hl hkn hinv
  have hF : decide (a = b) = true := decide_eq_true (by cases a; cases b; simp_all)
  repeat' (first | (first | (refine AWP.go env ?_; intro K fin; try simp +decide (maxSteps := 4000000) only [hn2, hF, go_sem, Nat.reduceAdd, Nat.reduceMul]) | refine Kt.h _ _ ?_ | refine Ft.k (by decide +kernel) ?_ | (refine ⟨_, same05C, ?_⟩; simp +decide (maxSteps := 4000000) only [hn2, hF, go_sem, Nat.reduceAdd, Nat.reduceMul])) | apply cond2_intro | with_reducible apply And.intro | intro h)

theorem samePC {a b : Patt} : Con Tryz.prog 72 [dPatt a, dPatt b] (.bool (decide (a = b))) := by
  by_cases h1 : a.graph = b.graph
  case neg =>
    have hF : decide (a = b) = false := decide_eq_false fun h => h1 (by rw [h])
    have h1' : decide (a.graph = b.graph) = false := decide_eq_false h1
    rw [hF]
    refine ConC.con (ent _ Tryz.func72 rfl rfl) (con_of_body env Tryz.func72 rfl (nt := 74) (rs := [.tmp 4]) rfl rfl (Nat.le_of_ble_eq_true rfl) fun hok => ?_)
    repeat' (first | (first | (refine AWP.go env ?_; intro K fin; try simp +decide (maxSteps := 4000000) only [h1', go_sem, Nat.reduceAdd, Nat.reduceMul]) | refine Kt.h _ _ ?_ | refine Ft.k (by decide +kernel) ?_ | ((first | refine ⟨_, same05C, ?_⟩ | refine ⟨_, sameGC, ?_⟩); simp +decide (maxSteps := 4000000) only [h1', go_sem, Nat.reduceAdd, Nat.reduceMul])) | apply cond2_intro | with_reducible apply And.intro | intro h)
  have h1' : decide (a.graph = b.graph) = true := decide_eq_true h1
  by_cases h2 : a.vars = b.vars
  case neg =>
    have hF : decide (a = b) = false := decide_eq_false fun h => h2 (by rw [h])
    have q2 : (a.vars != b.vars) = true := by simpa using h2
    rw [hF]
    refine ConC.con (ent _ Tryz.func72 rfl rfl) (con_of_body env Tryz.func72 rfl (nt := 74) (rs := [.tmp 4]) rfl rfl (Nat.le_of_ble_eq_true rfl) fun hok => ?_)
    repeat' (first | (first | (refine AWP.go env ?_; intro K fin; try simp +decide (maxSteps := 4000000) only [h1', q2, go_sem, Nat.reduceAdd, Nat.reduceMul]) | refine Kt.h _ _ ?_ | refine Ft.k (by decide +kernel) ?_ | ((first | refine ⟨_, same05C, ?_⟩ | refine ⟨_, sameGC, ?_⟩); simp +decide (maxSteps := 4000000) only [h1', q2, go_sem, Nat.reduceAdd, Nat.reduceMul])) | apply cond2_intro | with_reducible apply And.intro | intro h)
  have q2 : (a.vars != b.vars) = false := by simpa using h2
  by_cases hl : a.slots.length = b.slots.length
  case neg =>
    have q3 : ((a.slots.length : Int) != (b.slots.length : Int)) = true := by simpa using fun h => hl (by omega)
    have hF : decide (a = b) = false := decide_eq_false fun h => hl (by rw [h])
    rw [hF]
    refine ConC.con (ent _ Tryz.func72 rfl rfl) (con_of_body env Tryz.func72 rfl (nt := 74) (rs := [.tmp 4]) rfl rfl (Nat.le_of_ble_eq_true rfl) fun hok => ?_)
    repeat' (first | (first | (refine AWP.go env ?_; intro K fin; try simp +decide (maxSteps := 4000000) only [h1', q2, q3, go_sem, Nat.reduceAdd, Nat.reduceMul]) | refine Kt.h _ _ ?_ | refine Ft.k (by decide +kernel) ?_ | ((first | refine ⟨_, same05C, ?_⟩ | refine ⟨_, sameGC, ?_⟩); simp +decide (maxSteps := 4000000) only [h1', q2, q3, go_sem, Nat.reduceAdd, Nat.reduceMul])) | apply cond2_intro | with_reducible apply And.intro | intro h)
  have q3 : ((a.slots.length : Int) != (b.slots.length : Int)) = false := by simp [hl]
  by_cases hl2 : a.tests.length = b.tests.length
  case neg =>
    have q4 : ((a.tests.length : Int) != (b.tests.length : Int)) = true := by simpa using fun h => hl2 (by omega)
    have hF : decide (a = b) = false := decide_eq_false fun h => hl2 (by rw [h])
    rw [hF]
    refine ConC.con (ent _ Tryz.func72 rfl rfl) (con_of_body env Tryz.func72 rfl (nt := 74) (rs := [.tmp 4]) rfl rfl (Nat.le_of_ble_eq_true rfl) fun hok => ?_)
    repeat' (first | (first | (refine AWP.go env ?_; intro K fin; try simp +decide (maxSteps := 4000000) only [h1', q2, q3, q4, go_sem, Nat.reduceAdd, Nat.reduceMul]) | refine Kt.h _ _ ?_ | refine Ft.k (by decide +kernel) ?_ | ((first | refine ⟨_, same05C, ?_⟩ | refine ⟨_, sameGC, ?_⟩); simp +decide (maxSteps := 4000000) only [h1', q2, q3, q4, go_sem, Nat.reduceAdd, Nat.reduceMul])) | apply cond2_intro | with_reducible apply And.intro | intro h)
  have q4 : ((a.tests.length : Int) != (b.tests.length : Int)) = false := by simp [hl2]
  refine ConC.con (ent _ Tryz.func72 rfl rfl) (con_of_body env Tryz.func72 rfl (nt := 74) (rs := [.tmp 4]) rfl rfl (Nat.le_of_ble_eq_true rfl) fun hok => ?_)
  have hla : a.slots.length ≤ 140737488355328 := by simpa using (DOk.mem (hok (dPatt a) (by simp)) (d := .fsl 4 (a.slots.map rSlot)) (by simp)).len
  have hla2 : a.tests.length ≤ 140737488355328 := by simpa using (DOk.mem (hok (dPatt a) (by simp)) (d := .fsl 5 (a.tests.map rTest)) (by simp)).len
  repeat' (first | (first | (refine AWP.go env ?_; intro K fin; try simp +decide (maxSteps := 4000000) only [h1', q2, q3, q4, go_sem, Nat.reduceAdd, Nat.reduceMul]) | refine Kt.h _ _ ?_ | refine Ft.k (by decide +kernel) ?_ | ((first | refine ⟨_, same05C, ?_⟩ | refine ⟨_, sameGC, ?_⟩); simp +decide (maxSteps := 4000000) only [h1', q2, q3, q4, go_sem, Nat.reduceAdd, Nat.reduceMul])) | apply cond2_intro | with_reducible apply And.intro | intro h)
  refine AWP.lp (α := {k : Nat // k ≤ a.slots.length ∧ a.slots.take k = b.slots.take k})
    (fun w => ⟨74, [(2, .ptr 200 0 0 0), (3, .ptr 300 0 0 0), (5, .int .i64 w.1)],
      [(200, ⟨0, true, true, 5, 33, [cPatt a]⟩), (300, ⟨0, true, true, 5, 33, [cPatt b]⟩)]⟩) (fun w => a.slots.length - w.1) ⟨0, by omega, rfl⟩ (by simp +decide (maxSteps := 4000000) only [go_sem, Nat.reduceAdd, Nat.reduceMul]; try simp) fun w K => ?_
  obtain ⟨k, hk, hinv⟩ := w
  by_cases hkn : k = a.slots.length
  case neg =>
    have hn2 : ((k : Int) < (a.slots.length : Int)) = True := by simp; omega
    have hka : k < a.slots.length := by omega
    have hkb : k < b.slots.length := by omega
    have hg1 : getR (a.slots.map rSlot) k = [.int .i64 (a.slots[k]).node, .int .i64 (a.slots[k]).attr, .int .i64 (a.slots[k]).term.var, .int .i64 (a.slots[k]).term.add] := by rw [getR_map _ _ _ hka]; try rfl
    have hg2 : getR (b.slots.map rSlot) k = [.int .i64 (b.slots[k]).node, .int .i64 (b.slots[k]).attr, .int .i64 (b.slots[k]).term.var, .int .i64 (b.slots[k]).term.add] := by rw [getR_map _ _ _ hkb]; try rfl
    have v3 : IntKind.i64.wrap ((k : Int) + 1) = ((k + 1 : Nat) : Int) := by rw [wrap64 (by omega) (by omega)]; try rfl
    by_cases he : a.slots[k] = b.slots[k]
    · have he' := eqS_iff.2 he
      unfold eqS at he'
      simp only [Bool.and_true] at he'
      repeat' (first | (first | (refine AWP.go env ?_; intro K fin; try simp +decide (maxSteps := 4000000) only [hn2, hg1, hg2, v3, he', go_sem, Nat.reduceAdd, Nat.reduceMul]) | refine Kt.h _ _ ?_ | refine Ft.k (by decide +kernel) ?_ | ((first | refine ⟨_, same05C, ?_⟩ | refine ⟨_, sameGC, ?_⟩); simp +decide (maxSteps := 4000000) only [hn2, hg1, hg2, v3, he', go_sem, Nat.reduceAdd, Nat.reduceMul])) | apply cond2_intro | with_reducible apply And.intro | intro h)
      all_goals try omega
      all_goals try (simp only [List.mem_cons, List.not_mem_nil, or_false] at h; (repeat' (first | (subst h; rfl) | rcases h with h | h)))
      refine ⟨⟨k + 1, by omega, take_step hka hkb hinv he⟩, by simp; omega, by simp +decide (maxSteps := 4000000) only [go_sem, Nat.reduceAdd, Nat.reduceMul]; try simp⟩
    · have he' : eqS (a.slots[k]) (b.slots[k]) = false := by rw [← Bool.not_eq_true, eqS_iff]; exact he
      unfold eqS at he'
      simp only [Bool.and_true] at he'
      have hF : decide (a = b) = false := decide_eq_false fun h => take_ne hka hkb he (by rw [h])
      repeat' (first | (first | (refine AWP.go env ?_; intro K fin; try simp +decide (maxSteps := 4000000) only [hn2, hg1, hg2, v3, he', hF, go_sem, Nat.reduceAdd, Nat.reduceMul]) | refine Kt.h _ _ ?_ | refine Ft.k (by decide +kernel) ?_ | ((first | refine ⟨_, same05C, ?_⟩ | refine ⟨_, sameGC, ?_⟩); simp +decide (maxSteps := 4000000) only [hn2, hg1, hg2, v3, he', hF, go_sem, Nat.reduceAdd, Nat.reduceMul])) | apply cond2_intro | with_reducible apply And.intro | intro h)
      all_goals try omega
      all_goals try (simp only [List.mem_cons, List.not_mem_nil, or_false] at h; (repeat' (first | (subst h; rfl) | rcases h with h | h)))
  have hn2 : ((k : Int) < (a.slots.length : Int)) = False := by simp [hkn]
  have hESlot := take_all hl hkn hinv
  repeat' (first | (first | (refine AWP.go env ?_; intro K fin; try simp +decide (maxSteps := 4000000) only [hn2, go_sem, Nat.reduceAdd, Nat.reduceMul]) | refine Kt.h _ _ ?_ | refine Ft.k (by decide +kernel) ?_ | ((first | refine ⟨_, same05C, ?_⟩ | refine ⟨_, sameGC, ?_⟩); simp +decide (maxSteps := 4000000) only [hn2, go_sem, Nat.reduceAdd, Nat.reduceMul])) | apply cond2_intro | with_reducible apply And.intro | intro h)
  refine AWP.lp (α := {k : Nat // k ≤ a.tests.length ∧ a.tests.take k = b.tests.take k})
    (fun w => ⟨74, [(2, .ptr 200 0 0 0), (3, .ptr 300 0 0 0), (6, .int .i64 w.1)],
      [(200, ⟨0, true, true, 5, 33, [cPatt a]⟩), (300, ⟨0, true, true, 5, 33, [cPatt b]⟩)]⟩) (fun w => a.tests.length - w.1) ⟨0, by omega, rfl⟩ (by simp +decide (maxSteps := 4000000) only [go_sem, Nat.reduceAdd, Nat.reduceMul]; try simp) fun w K => ?_
  obtain ⟨k, hk, hinv⟩ := w
  by_cases hkn : k = a.tests.length
  case neg =>
    have hn2 : ((k : Int) < (a.tests.length : Int)) = True := by simp; omega
    have hka : k < a.tests.length := by omega
    have hkb : k < b.tests.length := by omega
    have hg1 : getR (a.tests.map rTest) k = [.int .i64 (a.tests[k]).kind, .int .i64 (a.tests[k]).left.var, .int .i64 (a.tests[k]).left.add, .int .i64 (a.tests[k]).right.var, .int .i64 (a.tests[k]).right.add] := by rw [getR_map _ _ _ hka]; try rfl
    have hg2 : getR (b.tests.map rTest) k = [.int .i64 (b.tests[k]).kind, .int .i64 (b.tests[k]).left.var, .int .i64 (b.tests[k]).left.add, .int .i64 (b.tests[k]).right.var, .int .i64 (b.tests[k]).right.add] := by rw [getR_map _ _ _ hkb]; try rfl
    have v3 : IntKind.i64.wrap ((k : Int) + 1) = ((k + 1 : Nat) : Int) := by rw [wrap64 (by omega) (by omega)]; try rfl
    by_cases he : a.tests[k] = b.tests[k]
    · have he' := eqT_iff.2 he
      unfold eqT at he'
      simp only [Bool.and_true] at he'
      repeat' (first | (first | (refine AWP.go env ?_; intro K fin; try simp +decide (maxSteps := 4000000) only [hn2, hg1, hg2, v3, he', go_sem, Nat.reduceAdd, Nat.reduceMul]) | refine Kt.h _ _ ?_ | refine Ft.k (by decide +kernel) ?_ | ((first | refine ⟨_, same05C, ?_⟩ | refine ⟨_, sameGC, ?_⟩); simp +decide (maxSteps := 4000000) only [hn2, hg1, hg2, v3, he', go_sem, Nat.reduceAdd, Nat.reduceMul])) | apply cond2_intro | with_reducible apply And.intro | intro h)
      all_goals try omega
      all_goals try (simp only [List.mem_cons, List.not_mem_nil, or_false] at h; (repeat' (first | (subst h; rfl) | rcases h with h | h)))
      refine ⟨⟨k + 1, by omega, take_step hka hkb hinv he⟩, by simp; omega, by simp +decide (maxSteps := 4000000) only [go_sem, Nat.reduceAdd, Nat.reduceMul]; try simp⟩
    · have he' : eqT (a.tests[k]) (b.tests[k]) = false := by rw [← Bool.not_eq_true, eqT_iff]; exact he
      unfold eqT at he'
      simp only [Bool.and_true] at he'
      have hF : decide (a = b) = false := decide_eq_false fun h => take_ne hka hkb he (by rw [h])
      repeat' (first | (first | (refine AWP.go env ?_; intro K fin; try simp +decide (maxSteps := 4000000) only [hn2, hg1, hg2, v3, he', hF, go_sem, Nat.reduceAdd, Nat.reduceMul]) | refine Kt.h _ _ ?_ | refine Ft.k (by decide +kernel) ?_ | ((first | refine ⟨_, same05C, ?_⟩ | refine ⟨_, sameGC, ?_⟩); simp +decide (maxSteps := 4000000) only [hn2, hg1, hg2, v3, he', hF, go_sem, Nat.reduceAdd, Nat.reduceMul])) | apply cond2_intro | with_reducible apply And.intro | intro h)
      all_goals try omega
      all_goals try (simp only [List.mem_cons, List.not_mem_nil, or_false] at h; (repeat' (first | (subst h; rfl) | rcases h with h | h)))
  have hn2 : ((k : Int) < (a.tests.length : Int)) = False := by simp [hkn]
  have hETst := take_all hl2 hkn hinv
  have hF : decide (a = b) = true := decide_eq_true (by cases a; cases b; simp_all)
  repeat' (first | (first | (refine AWP.go env ?_; intro K fin; try simp +decide (maxSteps := 4000000) only [hn2, hF, go_sem, Nat.reduceAdd, Nat.reduceMul]) | refine Kt.h _ _ ?_ | refine Ft.k (by decide +kernel) ?_ | ((first | refine ⟨_, same05C, ?_⟩ | refine ⟨_, sameGC, ?_⟩); simp +decide (maxSteps := 4000000) only [hn2, hF, go_sem, Nat.reduceAdd, Nat.reduceMul])) | apply cond2_intro | with_reducible apply And.intro | intro h)

theorem same07C {a b : Two} : Con Tryz.prog 73 [dTwo a, dTwo b] (.bool (decide (a = b))) := by
  refine ConC.con (ent _ Tryz.func73 rfl rfl) (con_of_body env Tryz.func73 rfl (nt := 17) (rs := [.tmp 4]) rfl rfl (Nat.le_of_ble_eq_true rfl) fun hok => ?_)
  repeat' (first | (first | (refine AWP.go env ?_; intro K fin; try simp +decide (maxSteps := 4000000) only [go_sem, Nat.reduceAdd, Nat.reduceMul]) | refine Kt.h _ _ ?_ | refine Ft.k (by decide +kernel) ?_ | ((first | refine ⟨_, same05C, ?_⟩ | refine ⟨_, sameGC, ?_⟩ | refine ⟨_, same05C, ?_⟩); simp +decide (maxSteps := 4000000) only [go_sem, Nat.reduceAdd, Nat.reduceMul])) | apply cond2_intro | with_reducible apply And.intro | intro h)
  all_goals (obtain ⟨a1, a2⟩ := a; obtain ⟨b1, b2⟩ := b; simp_all)

theorem same06C {a b : Two} : Con Tryz.prog 74 [dTwo a, dTwo b] (.bool (decide (a = b))) := by
  refine ConC.con (ent _ Tryz.func74 rfl rfl) (con_of_body env Tryz.func74 rfl (nt := 17) (rs := [.tmp 4]) rfl rfl (Nat.le_of_ble_eq_true rfl) fun hok => ?_)
  repeat' (first | (first | (refine AWP.go env ?_; intro K fin; try simp +decide (maxSteps := 4000000) only [go_sem, Nat.reduceAdd, Nat.reduceMul]) | refine Kt.h _ _ ?_ | refine Ft.k (by decide +kernel) ?_ | ((first | refine ⟨_, same05C, ?_⟩ | refine ⟨_, sameGC, ?_⟩ | refine ⟨_, same05C, ?_⟩ | refine ⟨_, same02C, ?_⟩); simp +decide (maxSteps := 4000000) only [go_sem, Nat.reduceAdd, Nat.reduceMul])) | apply cond2_intro | with_reducible apply And.intro | intro h)
  all_goals (obtain ⟨a1, a2⟩ := a; obtain ⟨b1, b2⟩ := b; simp_all)
end Go.Abs
/- Conditions and rules that are equal. -/
set_option linter.unusedSimpArgs false
set_option linter.unusedVariables false
set_option maxRecDepth 20000
set_option maxHeartbeats 4000000
namespace Go.Abs
open Go Go.RowKit Go.Proofs
attribute [local irreducible] Con AWP

mutual
def sameC : Cond → Cond → Bool
  | .mk k l m p, .mk k' l' m' p' => decide (k = k') && decide (m = m') && decide (p = p') && sameCL l l'
def sameCL : List Cond → List Cond → Bool
  | [], [] => true
  | c :: r, d :: s => sameC c d && sameCL r s
  | [], _ :: _ => false
  | _ :: _, [] => false
end

theorem sameC_eq (a b : Cond) : sameC a b = (decide (a.kind = b.kind) && decide (a.map = b.map) && decide (a.patt = b.patt) && sameCL a.kids b.kids) := by
  cases a; cases b; rw [sameC]; try rfl

theorem sameCL_len : ∀ {l m : List Cond}, sameCL l m = true → l.length = m.length
  | [], [], _ => rfl
  | c :: r, d :: s, h => by
    rw [sameCL, Bool.and_eq_true] at h
    simp [sameCL_len h.2]
  | [], _ :: _, h => by simp [sameCL] at h
  | _ :: _, [], h => by simp [sameCL] at h

theorem sameCL_app : ∀ {a : List Cond} {l c m : List Cond}, a.length = c.length → sameCL (a ++ l) (c ++ m) = (sameCL a c && sameCL l m)
  | [], l, [], m, _ => by simp [sameCL]
  | x :: a, l, y :: c, m, h => by
    rw [List.cons_append, List.cons_append, sameCL, sameCL, sameCL_app (by simpa using h), Bool.and_assoc]
  | [], _, _ :: _, _, h => by simp at h
  | _ :: _, _, [], _, h => by simp at h

mutual
theorem sameC_refl : ∀ a : Cond, sameC a a = true
  | .mk k l m p => by rw [sameC, sameCL_refl l]; simp
theorem sameCL_refl : ∀ l : List Cond, sameCL l l = true
  | [] => rfl
  | c :: r => by rw [sameCL, sameC_refl c, sameCL_refl r]; try rfl
end

/-- Two lists of one length, as far as they are walked. -/
structure Two2 (l m : List Cond) where
  a : List Cond
  b : List Cond
  c : List Cond
  d : List Cond
  e1 : l = a ++ b
  e2 : m = c ++ d
  len : a.length = c.length
  same : sameCL a c = true

theorem rSameStepC {x y : Cond} (ih : ∀ k ∈ x.kids, ∀ j : Cond, Con Tryz.prog 75 [dCond k, dCond j] (.bool (sameC k j))) : Con Tryz.prog 75 [dCond x, dCond y] (.bool (sameC x y)) := by
  have hw := sameC_eq x y
  by_cases h1 : x.kind = y.kind
  case neg =>
    have q1 : (x.kind != y.kind) = true := by simpa using h1
    have hF : sameC x y = false := by rw [hw]; simp [h1]
    rw [hF]
    refine ConC.con (ent _ Tryz.func75 rfl rfl) (con_of_body env Tryz.func75 rfl (nt := 55) (rs := [.tmp 4]) rfl rfl (Nat.le_of_ble_eq_true rfl) fun hok => ?_)
    repeat' (first | (first | (refine AWP.go env ?_; intro K fin; try simp +decide (maxSteps := 4000000) only [q1, rCond, go_sem, Nat.reduceAdd, Nat.reduceMul]) | refine Kt.h _ _ ?_ | refine Ft.k (by decide +kernel) ?_ | ((first | refine ⟨_, same06C, ?_⟩ | refine ⟨_, samePC, ?_⟩ | refine ⟨_, ihk, ?_⟩); simp +decide (maxSteps := 4000000) only [q1, rCond, go_sem, Nat.reduceAdd, Nat.reduceMul])) | apply cond2_intro | with_reducible apply And.intro | intro h)
  have q1 : (x.kind != y.kind) = false := by simpa using h1
  by_cases hl : x.kids.length = y.kids.length
  case neg =>
    have q2 : ((x.kids.length : Int) != (y.kids.length : Int)) = true := by simpa using fun h => hl (by omega)
    have hF : sameC x y = false := by
      rw [hw, ← Bool.not_eq_true]; intro h
      simp only [Bool.and_eq_true] at h
      exact hl (sameCL_len h.2)
    rw [hF]
    refine ConC.con (ent _ Tryz.func75 rfl rfl) (con_of_body env Tryz.func75 rfl (nt := 55) (rs := [.tmp 4]) rfl rfl (Nat.le_of_ble_eq_true rfl) fun hok => ?_)
    repeat' (first | (first | (refine AWP.go env ?_; intro K fin; try simp +decide (maxSteps := 4000000) only [q1, q2, rCond, go_sem, Nat.reduceAdd, Nat.reduceMul]) | refine Kt.h _ _ ?_ | refine Ft.k (by decide +kernel) ?_ | ((first | refine ⟨_, same06C, ?_⟩ | refine ⟨_, samePC, ?_⟩ | refine ⟨_, ihk, ?_⟩); simp +decide (maxSteps := 4000000) only [q1, q2, rCond, go_sem, Nat.reduceAdd, Nat.reduceMul])) | apply cond2_intro | with_reducible apply And.intro | intro h)
  have q2 : ((x.kids.length : Int) != (y.kids.length : Int)) = false := by simp [hl]
  by_cases h3 : x.map = y.map
  case neg =>
    have q3 : decide (x.map = y.map) = false := decide_eq_false h3
    have hF : sameC x y = false := by rw [hw]; simp [h3]
    rw [hF]
    refine ConC.con (ent _ Tryz.func75 rfl rfl) (con_of_body env Tryz.func75 rfl (nt := 55) (rs := [.tmp 4]) rfl rfl (Nat.le_of_ble_eq_true rfl) fun hok => ?_)
    repeat' (first | (first | (refine AWP.go env ?_; intro K fin; try simp +decide (maxSteps := 4000000) only [q1, q2, q3, rCond, go_sem, Nat.reduceAdd, Nat.reduceMul]) | refine Kt.h _ _ ?_ | refine Ft.k (by decide +kernel) ?_ | ((first | refine ⟨_, same06C, ?_⟩ | refine ⟨_, samePC, ?_⟩ | refine ⟨_, ihk, ?_⟩); simp +decide (maxSteps := 4000000) only [q1, q2, q3, rCond, go_sem, Nat.reduceAdd, Nat.reduceMul])) | apply cond2_intro | with_reducible apply And.intro | intro h)
  have q3 : decide (x.map = y.map) = true := decide_eq_true h3
  by_cases h4 : x.patt = y.patt
  case neg =>
    have q4 : decide (x.patt = y.patt) = false := decide_eq_false h4
    have hF : sameC x y = false := by rw [hw]; simp [h4]
    rw [hF]
    refine ConC.con (ent _ Tryz.func75 rfl rfl) (con_of_body env Tryz.func75 rfl (nt := 55) (rs := [.tmp 4]) rfl rfl (Nat.le_of_ble_eq_true rfl) fun hok => ?_)
    repeat' (first | (first | (refine AWP.go env ?_; intro K fin; try simp +decide (maxSteps := 4000000) only [q1, q2, q3, q4, rCond, go_sem, Nat.reduceAdd, Nat.reduceMul]) | refine Kt.h _ _ ?_ | refine Ft.k (by decide +kernel) ?_ | ((first | refine ⟨_, same06C, ?_⟩ | refine ⟨_, samePC, ?_⟩ | refine ⟨_, ihk, ?_⟩); simp +decide (maxSteps := 4000000) only [q1, q2, q3, q4, rCond, go_sem, Nat.reduceAdd, Nat.reduceMul])) | apply cond2_intro | with_reducible apply And.intro | intro h)
  have q4 : decide (x.patt = y.patt) = true := decide_eq_true h4
  have hF0 : sameC x y = sameCL x.kids y.kids := by rw [hw]; simp [h1, h3, h4]
  refine ConC.con (ent _ Tryz.func75 rfl rfl) (con_of_body env Tryz.func75 rfl (nt := 55) (rs := [.tmp 4]) rfl rfl (Nat.le_of_ble_eq_true rfl) fun hok => ?_)
  obtain ⟨hlx, _⟩ := rCond_lens (hok (dCond x) (by simp))
  repeat' (first | (first | (refine AWP.go env ?_; intro K fin; try simp +decide (maxSteps := 4000000) only [q1, q2, q3, q4, rCond, go_sem, Nat.reduceAdd, Nat.reduceMul]) | refine Kt.h _ _ ?_ | refine Ft.k (by decide +kernel) ?_ | ((first | refine ⟨_, same06C, ?_⟩ | refine ⟨_, samePC, ?_⟩ | refine ⟨_, ihk, ?_⟩); simp +decide (maxSteps := 4000000) only [q1, q2, q3, q4, rCond, go_sem, Nat.reduceAdd, Nat.reduceMul])) | apply cond2_intro | with_reducible apply And.intro | intro h)
  refine AWP.lp (α := Two2 x.kids y.kids)
    (fun w => ⟨55, [(2, .ptr 200 0 0 0), (3, .ptr 300 0 0 0), (5, .int .i64 w.a.length)],
      [(200, ⟨0, true, true, 9, 39, [rCond x]⟩), (300, ⟨0, true, true, 9, 39, [rCond y]⟩)]⟩) (fun w => w.b.length) ⟨[], x.kids, [], y.kids, rfl, rfl, rfl, rfl⟩ (by simp +decide (maxSteps := 4000000) only [rCond, go_sem, Nat.reduceAdd, Nat.reduceMul]; try simp) fun w K => ?_
  obtain ⟨a, b, c, d, e1, e2, hlen, hsame⟩ := w
  have hbd : b.length = d.length := by
    have h1 := congrArg List.length e1; have h2 := congrArg List.length e2
    simp at h1 h2; omega
  cases b with
  | nil =>
    cases d with
    | cons _ _ => simp at hbd
    | nil =>
      have e1' : x.kids = a := by simpa using e1
      have e2' : y.kids = c := by simpa using e2
      have hn2 : ((a.length : Int) < (x.kids.length : Int)) = False := by simp [e1']
      have hF : sameC x y = true := by rw [hF0, e1', e2']; exact hsame
      repeat' (first | (first | (refine AWP.go env ?_; intro K fin; try simp +decide (maxSteps := 4000000) only [hn2, rCond, hF, go_sem, Nat.reduceAdd, Nat.reduceMul]) | refine Kt.h _ _ ?_ | refine Ft.k (by decide +kernel) ?_ | ((first | refine ⟨_, same06C, ?_⟩ | refine ⟨_, samePC, ?_⟩ | refine ⟨_, ihk, ?_⟩); simp +decide (maxSteps := 4000000) only [hn2, rCond, hF, go_sem, Nat.reduceAdd, Nat.reduceMul])) | apply cond2_intro | with_reducible apply And.intro | intro h)
  | cons k b =>
    cases d with
    | nil => simp at hbd
    | cons j d =>
      have hal : a.length < x.kids.length := by rw [e1]; simp
      have hcl : a.length < y.kids.length := by omega
      have hn2 : ((a.length : Int) < (x.kids.length : Int)) = True := by simp [hal]
      have hget := kid_row e1
      have hget2 : getR (y.kids.map Cond.row) a.length = rCond j := by rw [hlen]; exact kid_row e2
      have v3 : IntKind.i64.wrap ((a.length : Int) + 1) = ((a.length + 1 : Nat) : Int) := by rw [wrap64 (by omega) (by omega)]; try rfl
      have ihk := ih k (by rw [e1]; simp) j
      have hF1 : sameCL x.kids y.kids = (sameC k j && sameCL b d) := by rw [e1, e2, sameCL_app hlen, hsame, Bool.true_and, sameCL]
      by_cases hk : sameC k j = true
      · repeat' (first | (first | (refine AWP.go env ?_; intro K fin; try simp +decide (maxSteps := 4000000) only [hn2, hget, hget2, v3, rCond, hk, go_sem, Nat.reduceAdd, Nat.reduceMul]) | refine Kt.h _ _ ?_ | refine Ft.k (by decide +kernel) ?_ | ((first | refine ⟨_, same06C, ?_⟩ | refine ⟨_, samePC, ?_⟩ | refine ⟨_, ihk, ?_⟩); simp +decide (maxSteps := 4000000) only [hn2, hget, hget2, v3, rCond, hk, go_sem, Nat.reduceAdd, Nat.reduceMul])) | apply cond2_intro | with_reducible apply And.intro | intro h)
        all_goals try omega
        all_goals try (simp only [List.mem_cons, List.not_mem_nil, or_false] at h; (repeat' (first | (subst h; rfl) | rcases h with h | h)))
        refine ⟨⟨a ++ [k], b, c ++ [j], d, by simp [e1], by simp [e2], by simp [hlen], ?_⟩, by simp, by simp +decide (maxSteps := 4000000) only [rCond, go_sem, Nat.reduceAdd, Nat.reduceMul]; simp⟩
        rw [sameCL_app hlen, hsame, sameCL, hk]; try rfl
      · have hk : sameC k j = false := by simpa using hk
        have hF : sameC x y = false := by rw [hF0, hF1, hk]; try rfl
        repeat' (first | (first | (refine AWP.go env ?_; intro K fin; try simp +decide (maxSteps := 4000000) only [hn2, hget, hget2, v3, rCond, hk, hF, go_sem, Nat.reduceAdd, Nat.reduceMul]) | refine Kt.h _ _ ?_ | refine Ft.k (by decide +kernel) ?_ | ((first | refine ⟨_, same06C, ?_⟩ | refine ⟨_, samePC, ?_⟩ | refine ⟨_, ihk, ?_⟩); simp +decide (maxSteps := 4000000) only [hn2, hget, hget2, v3, rCond, hk, hF, go_sem, Nat.reduceAdd, Nat.reduceMul])) | apply cond2_intro | with_reducible apply And.intro | intro h)
        all_goals try omega
        all_goals try (simp only [List.mem_cons, List.not_mem_nil, or_false] at h; (repeat' (first | (subst h; rfl) | rcases h with h | h)))

theorem rSameC (x y : Cond) : Con Tryz.prog 75 [dCond x, dCond y] (.bool (sameC x y)) :=
  rSameStepC fun k hk j => have := kid_lt hk; rSameC k j
termination_by SizeOf.sizeOf x

def sameR (a b : Rul) : Bool := decide (a.name.toList = b.name.toList) && decide (a.inj = b.inj) && decide (a.left = b.left) && decide (a.right = b.right) && decide (a.keep = b.keep) && decide (a.into = b.into) && sameC a.cond b.cond

theorem sameR_refl (a : Rul) : sameR a a = true := by unfold sameR; simp [sameC_refl]

theorem rSameRC {a b : Rul} : Con Tryz.prog 18 [dRule a, dRule b] (.bool (sameR a b)) := by
  refine ConC.con (ent _ Tryz.func18 rfl rfl) (con_of_body env Tryz.func18 rfl (nt := 52) (rs := [.tmp 4]) rfl rfl (Nat.le_of_ble_eq_true rfl) fun hok => ?_)
  repeat' (first | (first | (refine AWP.go env ?_; intro K fin; try simp +decide (maxSteps := 4000000) only [rCond, go_sem, Nat.reduceAdd, Nat.reduceMul]) | refine Kt.h _ _ ?_ | refine Ft.k (by decide +kernel) ?_ | ((first | refine ⟨_, same06C, ?_⟩ | refine ⟨_, samePC, ?_⟩ | refine ⟨_, ihk, ?_⟩ | refine ⟨_, samePC (a := a.left) (b := b.left), ?_⟩ | refine ⟨_, samePC (a := a.right) (b := b.right), ?_⟩ | refine ⟨_, same07C (a := a.keep) (b := b.keep), ?_⟩ | refine ⟨_, same06C (a := a.into) (b := b.into), ?_⟩ | refine ⟨_, rSameC a.cond b.cond, ?_⟩); simp +decide (maxSteps := 4000000) only [rCond, go_sem, Nat.reduceAdd, Nat.reduceMul])) | apply cond2_intro | with_reducible apply And.intro | intro h)
  all_goals (unfold sameR; simp_all)
end Go.Abs
/- Equality of rules, of the program; RuleSame. Printed by gen/mk_s3.py. -/
set_option linter.unusedSimpArgs false
set_option linter.unusedVariables false
set_option maxRecDepth 20000
set_option maxHeartbeats 4000000
namespace Go.Abs
open Go Go.RowKit Go.Proofs
attribute [local irreducible] Con AWP

theorem equalIntD {a b : List Int} : Con Tryz.prog 25 [dInts a, dInts b] (.bool (decide (a = b))) := by
  have h := equalIntC (a := a) (b := b)
  rwa [show (a == b) = decide (a = b) by rw [Bool.eq_iff_iff]; simp] at h

theorem equalEdgeD {a b : List Edge} : Con Tryz.prog 169 [.fsl 3 (a.map rEdge), .fsl 3 (b.map rEdge)] (.bool (decide (a = b))) := by
  by_cases hl : a.length = b.length
  case neg =>
    have q : ((a.length : Int) != (b.length : Int)) = true := by simpa using fun h => hl (by omega)
    have hF : decide (a = b) = false := decide_eq_false fun h => hl (by rw [h])
    rw [hF]
    refine ConC.con (ent _ Tryz.func169 rfl rfl) (con_of_body env Tryz.func169 rfl (nt := 26) (rs := [.tmp 4]) rfl rfl (Nat.le_of_ble_eq_true rfl) fun hok => ?_)
    repeat' (first | (first | (refine AWP.go env ?_; intro K fin; try simp +decide (maxSteps := 4000000) only [q, go_sem, Nat.reduceAdd, Nat.reduceMul]) | refine Kt.h _ _ ?_ | refine Ft.k (by decide +kernel) ?_) | apply cond2_intro | with_reducible apply And.intro | intro h)
  have q : ((a.length : Int) != (b.length : Int)) = false := by simp [hl]
  refine ConC.con (ent _ Tryz.func169 rfl rfl) (con_of_body env Tryz.func169 rfl (nt := 26) (rs := [.tmp 4]) rfl rfl (Nat.le_of_ble_eq_true rfl) fun hok => ?_)
  have hla : a.length ≤ 140737488355328 := by simpa using (hok (.fsl 3 (a.map rEdge)) (by simp)).len
  repeat' (first | (first | (refine AWP.go env ?_; intro K fin; try simp +decide (maxSteps := 4000000) only [q, go_sem, Nat.reduceAdd, Nat.reduceMul]) | refine Kt.h _ _ ?_ | refine Ft.k (by decide +kernel) ?_) | apply cond2_intro | with_reducible apply And.intro | intro h)
  refine AWP.lp (α := {k : Nat // k ≤ a.length ∧ a.take k = b.take k})
    (fun w => ⟨26, [(0, .fsl 3 (a.map rEdge)), (1, .fsl 3 (b.map rEdge)), (12, .int .i64 a.length), (13, .int .i64 w.1)], []⟩) (fun w => a.length - w.1) ⟨0, by omega, rfl⟩ (by simp +decide (maxSteps := 4000000) only [go_sem, Nat.reduceAdd, Nat.reduceMul]; try simp) fun w K => ?_
  obtain ⟨k, hk, hinv⟩ := w
  by_cases hkn : k = a.length
  · have hn2 : ((k : Int) < (a.length : Int)) = False := by simp [hkn]
    have hF : decide (a = b) = true := decide_eq_true (take_all hl hkn hinv)
    repeat' (first | (first | (refine AWP.go env ?_; intro K fin; try simp +decide (maxSteps := 4000000) only [hn2, hF, go_sem, Nat.reduceAdd, Nat.reduceMul]) | refine Kt.h _ _ ?_ | refine Ft.k (by decide +kernel) ?_) | apply cond2_intro | with_reducible apply And.intro | intro h)
  · have hn2 : ((k : Int) < (a.length : Int)) = True := by simp; omega
    have hka : k < a.length := by omega
    have hkb : k < b.length := by omega
    have hg1 : getR (a.map rEdge) k = [.int .i64 (a[k]).typ, .int .i64 (a[k]).src, .int .i64 (a[k]).tgt] := by rw [getR_map _ _ _ hka]; try rfl
    have hg2 : getR (b.map rEdge) k = [.int .i64 (b[k]).typ, .int .i64 (b[k]).src, .int .i64 (b[k]).tgt] := by rw [getR_map _ _ _ hkb]; try rfl
    have v3 : IntKind.i64.wrap ((k : Int) + 1) = ((k + 1 : Nat) : Int) := by rw [wrap64 (by omega) (by omega)]; try rfl
    by_cases he : a[k] = b[k]
    · have he' := eqE_iff.2 he
      unfold eqE at he'
      simp only [Bool.and_true] at he'
      repeat' (first | (first | (refine AWP.go env ?_; intro K fin; try simp +decide (maxSteps := 4000000) only [hn2, hg1, hg2, v3, he', go_sem, Nat.reduceAdd, Nat.reduceMul]) | refine Kt.h _ _ ?_ | refine Ft.k (by decide +kernel) ?_) | apply cond2_intro | with_reducible apply And.intro | intro h)
      all_goals try omega
      all_goals try (simp only [List.mem_cons, List.not_mem_nil, or_false] at h; (repeat' (first | (subst h; rfl) | rcases h with h | h)))
      refine ⟨⟨k + 1, by omega, take_step hka hkb hinv he⟩, by simp; omega, by simp +decide (maxSteps := 4000000) only [go_sem, Nat.reduceAdd, Nat.reduceMul]; try simp⟩
    · have he' : eqE (a[k]) (b[k]) = false := by rw [← Bool.not_eq_true, eqE_iff]; exact he
      unfold eqE at he'
      simp only [Bool.and_true] at he'
      have hF : decide (a = b) = false := decide_eq_false (take_ne hka hkb he)
      repeat' (first | (first | (refine AWP.go env ?_; intro K fin; try simp +decide (maxSteps := 4000000) only [hn2, hg1, hg2, v3, he', hF, go_sem, Nat.reduceAdd, Nat.reduceMul]) | refine Kt.h _ _ ?_ | refine Ft.k (by decide +kernel) ?_) | apply cond2_intro | with_reducible apply And.intro | intro h)
      all_goals try omega
      all_goals try (simp only [List.mem_cons, List.not_mem_nil, or_false] at h; (repeat' (first | (subst h; rfl) | rcases h with h | h)))

theorem equalSlotD {a b : List Slot} : Con Tryz.prog 167 [.fsl 4 (a.map rSlot), .fsl 4 (b.map rSlot)] (.bool (decide (a = b))) := by
  by_cases hl : a.length = b.length
  case neg =>
    have q : ((a.length : Int) != (b.length : Int)) = true := by simpa using fun h => hl (by omega)
    have hF : decide (a = b) = false := decide_eq_false fun h => hl (by rw [h])
    rw [hF]
    refine ConC.con (ent _ Tryz.func167 rfl rfl) (con_of_body env Tryz.func167 rfl (nt := 26) (rs := [.tmp 4]) rfl rfl (Nat.le_of_ble_eq_true rfl) fun hok => ?_)
    repeat' (first | (first | (refine AWP.go env ?_; intro K fin; try simp +decide (maxSteps := 4000000) only [q, go_sem, Nat.reduceAdd, Nat.reduceMul]) | refine Kt.h _ _ ?_ | refine Ft.k (by decide +kernel) ?_) | apply cond2_intro | with_reducible apply And.intro | intro h)
  have q : ((a.length : Int) != (b.length : Int)) = false := by simp [hl]
  refine ConC.con (ent _ Tryz.func167 rfl rfl) (con_of_body env Tryz.func167 rfl (nt := 26) (rs := [.tmp 4]) rfl rfl (Nat.le_of_ble_eq_true rfl) fun hok => ?_)
  have hla : a.length ≤ 140737488355328 := by simpa using (hok (.fsl 4 (a.map rSlot)) (by simp)).len
  repeat' (first | (first | (refine AWP.go env ?_; intro K fin; try simp +decide (maxSteps := 4000000) only [q, go_sem, Nat.reduceAdd, Nat.reduceMul]) | refine Kt.h _ _ ?_ | refine Ft.k (by decide +kernel) ?_) | apply cond2_intro | with_reducible apply And.intro | intro h)
  refine AWP.lp (α := {k : Nat // k ≤ a.length ∧ a.take k = b.take k})
    (fun w => ⟨26, [(0, .fsl 4 (a.map rSlot)), (1, .fsl 4 (b.map rSlot)), (12, .int .i64 a.length), (13, .int .i64 w.1)], []⟩) (fun w => a.length - w.1) ⟨0, by omega, rfl⟩ (by simp +decide (maxSteps := 4000000) only [go_sem, Nat.reduceAdd, Nat.reduceMul]; try simp) fun w K => ?_
  obtain ⟨k, hk, hinv⟩ := w
  by_cases hkn : k = a.length
  · have hn2 : ((k : Int) < (a.length : Int)) = False := by simp [hkn]
    have hF : decide (a = b) = true := decide_eq_true (take_all hl hkn hinv)
    repeat' (first | (first | (refine AWP.go env ?_; intro K fin; try simp +decide (maxSteps := 4000000) only [hn2, hF, go_sem, Nat.reduceAdd, Nat.reduceMul]) | refine Kt.h _ _ ?_ | refine Ft.k (by decide +kernel) ?_) | apply cond2_intro | with_reducible apply And.intro | intro h)
  · have hn2 : ((k : Int) < (a.length : Int)) = True := by simp; omega
    have hka : k < a.length := by omega
    have hkb : k < b.length := by omega
    have hg1 : getR (a.map rSlot) k = [.int .i64 (a[k]).node, .int .i64 (a[k]).attr, .int .i64 (a[k]).term.var, .int .i64 (a[k]).term.add] := by rw [getR_map _ _ _ hka]; try rfl
    have hg2 : getR (b.map rSlot) k = [.int .i64 (b[k]).node, .int .i64 (b[k]).attr, .int .i64 (b[k]).term.var, .int .i64 (b[k]).term.add] := by rw [getR_map _ _ _ hkb]; try rfl
    have v3 : IntKind.i64.wrap ((k : Int) + 1) = ((k + 1 : Nat) : Int) := by rw [wrap64 (by omega) (by omega)]; try rfl
    by_cases he : a[k] = b[k]
    · have he' := eqS_iff.2 he
      unfold eqS at he'
      simp only [Bool.and_true] at he'
      repeat' (first | (first | (refine AWP.go env ?_; intro K fin; try simp +decide (maxSteps := 4000000) only [hn2, hg1, hg2, v3, he', go_sem, Nat.reduceAdd, Nat.reduceMul]) | refine Kt.h _ _ ?_ | refine Ft.k (by decide +kernel) ?_) | apply cond2_intro | with_reducible apply And.intro | intro h)
      all_goals try omega
      all_goals try (simp only [List.mem_cons, List.not_mem_nil, or_false] at h; (repeat' (first | (subst h; rfl) | rcases h with h | h)))
      refine ⟨⟨k + 1, by omega, take_step hka hkb hinv he⟩, by simp; omega, by simp +decide (maxSteps := 4000000) only [go_sem, Nat.reduceAdd, Nat.reduceMul]; try simp⟩
    · have he' : eqS (a[k]) (b[k]) = false := by rw [← Bool.not_eq_true, eqS_iff]; exact he
      unfold eqS at he'
      simp only [Bool.and_true] at he'
      have hF : decide (a = b) = false := decide_eq_false (take_ne hka hkb he)
      repeat' (first | (first | (refine AWP.go env ?_; intro K fin; try simp +decide (maxSteps := 4000000) only [hn2, hg1, hg2, v3, he', hF, go_sem, Nat.reduceAdd, Nat.reduceMul]) | refine Kt.h _ _ ?_ | refine Ft.k (by decide +kernel) ?_) | apply cond2_intro | with_reducible apply And.intro | intro h)
      all_goals try omega
      all_goals try (simp only [List.mem_cons, List.not_mem_nil, or_false] at h; (repeat' (first | (subst h; rfl) | rcases h with h | h)))

theorem equalTestD {a b : List Tst} : Con Tryz.prog 168 [.fsl 5 (a.map rTest), .fsl 5 (b.map rTest)] (.bool (decide (a = b))) := by
  by_cases hl : a.length = b.length
  case neg =>
    have q : ((a.length : Int) != (b.length : Int)) = true := by simpa using fun h => hl (by omega)
    have hF : decide (a = b) = false := decide_eq_false fun h => hl (by rw [h])
    rw [hF]
    refine ConC.con (ent _ Tryz.func168 rfl rfl) (con_of_body env Tryz.func168 rfl (nt := 26) (rs := [.tmp 4]) rfl rfl (Nat.le_of_ble_eq_true rfl) fun hok => ?_)
    repeat' (first | (first | (refine AWP.go env ?_; intro K fin; try simp +decide (maxSteps := 4000000) only [q, go_sem, Nat.reduceAdd, Nat.reduceMul]) | refine Kt.h _ _ ?_ | refine Ft.k (by decide +kernel) ?_) | apply cond2_intro | with_reducible apply And.intro | intro h)
  have q : ((a.length : Int) != (b.length : Int)) = false := by simp [hl]
  refine ConC.con (ent _ Tryz.func168 rfl rfl) (con_of_body env Tryz.func168 rfl (nt := 26) (rs := [.tmp 4]) rfl rfl (Nat.le_of_ble_eq_true rfl) fun hok => ?_)
  have hla : a.length ≤ 140737488355328 := by simpa using (hok (.fsl 5 (a.map rTest)) (by simp)).len
  repeat' (first | (first | (refine AWP.go env ?_; intro K fin; try simp +decide (maxSteps := 4000000) only [q, go_sem, Nat.reduceAdd, Nat.reduceMul]) | refine Kt.h _ _ ?_ | refine Ft.k (by decide +kernel) ?_) | apply cond2_intro | with_reducible apply And.intro | intro h)
  refine AWP.lp (α := {k : Nat // k ≤ a.length ∧ a.take k = b.take k})
    (fun w => ⟨26, [(0, .fsl 5 (a.map rTest)), (1, .fsl 5 (b.map rTest)), (12, .int .i64 a.length), (13, .int .i64 w.1)], []⟩) (fun w => a.length - w.1) ⟨0, by omega, rfl⟩ (by simp +decide (maxSteps := 4000000) only [go_sem, Nat.reduceAdd, Nat.reduceMul]; try simp) fun w K => ?_
  obtain ⟨k, hk, hinv⟩ := w
  by_cases hkn : k = a.length
  · have hn2 : ((k : Int) < (a.length : Int)) = False := by simp [hkn]
    have hF : decide (a = b) = true := decide_eq_true (take_all hl hkn hinv)
    repeat' (first | (first | (refine AWP.go env ?_; intro K fin; try simp +decide (maxSteps := 4000000) only [hn2, hF, go_sem, Nat.reduceAdd, Nat.reduceMul]) | refine Kt.h _ _ ?_ | refine Ft.k (by decide +kernel) ?_) | apply cond2_intro | with_reducible apply And.intro | intro h)
  · have hn2 : ((k : Int) < (a.length : Int)) = True := by simp; omega
    have hka : k < a.length := by omega
    have hkb : k < b.length := by omega
    have hg1 : getR (a.map rTest) k = [.int .i64 (a[k]).kind, .int .i64 (a[k]).left.var, .int .i64 (a[k]).left.add, .int .i64 (a[k]).right.var, .int .i64 (a[k]).right.add] := by rw [getR_map _ _ _ hka]; try rfl
    have hg2 : getR (b.map rTest) k = [.int .i64 (b[k]).kind, .int .i64 (b[k]).left.var, .int .i64 (b[k]).left.add, .int .i64 (b[k]).right.var, .int .i64 (b[k]).right.add] := by rw [getR_map _ _ _ hkb]; try rfl
    have v3 : IntKind.i64.wrap ((k : Int) + 1) = ((k + 1 : Nat) : Int) := by rw [wrap64 (by omega) (by omega)]; try rfl
    by_cases he : a[k] = b[k]
    · have he' := eqT_iff.2 he
      unfold eqT at he'
      simp only [Bool.and_true] at he'
      repeat' (first | (first | (refine AWP.go env ?_; intro K fin; try simp +decide (maxSteps := 4000000) only [hn2, hg1, hg2, v3, he', go_sem, Nat.reduceAdd, Nat.reduceMul]) | refine Kt.h _ _ ?_ | refine Ft.k (by decide +kernel) ?_) | apply cond2_intro | with_reducible apply And.intro | intro h)
      all_goals try omega
      all_goals try (simp only [List.mem_cons, List.not_mem_nil, or_false] at h; (repeat' (first | (subst h; rfl) | rcases h with h | h)))
      refine ⟨⟨k + 1, by omega, take_step hka hkb hinv he⟩, by simp; omega, by simp +decide (maxSteps := 4000000) only [go_sem, Nat.reduceAdd, Nat.reduceMul]; try simp⟩
    · have he' : eqT (a[k]) (b[k]) = false := by rw [← Bool.not_eq_true, eqT_iff]; exact he
      unfold eqT at he'
      simp only [Bool.and_true] at he'
      have hF : decide (a = b) = false := decide_eq_false (take_ne hka hkb he)
      repeat' (first | (first | (refine AWP.go env ?_; intro K fin; try simp +decide (maxSteps := 4000000) only [hn2, hg1, hg2, v3, he', hF, go_sem, Nat.reduceAdd, Nat.reduceMul]) | refine Kt.h _ _ ?_ | refine Ft.k (by decide +kernel) ?_) | apply cond2_intro | with_reducible apply And.intro | intro h)
      all_goals try omega
      all_goals try (simp only [List.mem_cons, List.not_mem_nil, or_false] at h; (repeat' (first | (subst h; rfl) | rcases h with h | h)))

theorem patt_dec {p q : Patt} : decide (p = q) = (decide (p.graph.nodes = q.graph.nodes) && decide (p.graph.edges = q.graph.edges) && decide (p.slots = q.slots) && decide (p.vars = q.vars) && decide (p.tests = q.tests)) := by
  obtain ⟨⟨_, _⟩, _, _, _⟩ := p; obtain ⟨⟨_, _⟩, _, _, _⟩ := q; rw [Bool.eq_iff_iff]; simp [and_assoc]
theorem two_dec {p q : Two} : decide (p = q) = (decide (p.nodes = q.nodes) && decide (p.edges = q.edges)) := by
  obtain ⟨_, _⟩ := p; obtain ⟨_, _⟩ := q; rw [Bool.eq_iff_iff]; simp

theorem graphSameC {a b : Graph} : Con Tryz.prog 166 [dGraph a, dGraph b] (.bool (decide (a = b))) := by
  refine ConC.con (ent _ Tryz.func166 rfl rfl) (con_of_body env Tryz.func166 rfl (nt := 17) (rs := [.tmp 4]) rfl rfl (Nat.le_of_ble_eq_true rfl) fun hok => ?_)
  repeat' (first | (first | (refine AWP.go env ?_; intro K fin; try simp +decide (maxSteps := 4000000) only [go_sem, Nat.reduceAdd, Nat.reduceMul]) | refine Kt.h _ _ ?_ | refine Ft.k (by decide +kernel) ?_ | ((first | refine ⟨_, equalIntD, ?_⟩ | refine ⟨_, equalEdgeD, ?_⟩); simp +decide (maxSteps := 4000000) only [go_sem, Nat.reduceAdd, Nat.reduceMul])) | apply cond2_intro | with_reducible apply And.intro | intro h)
  all_goals (obtain ⟨a1, a2⟩ := a; obtain ⟨b1, b2⟩ := b; simp_all)

theorem morSameC {a b : Two} : Con Tryz.prog 96 [dTwo a, dTwo b] (.bool (decide (a = b))) := by
  refine ConC.con (ent _ Tryz.func96 rfl rfl) (con_of_body env Tryz.func96 rfl (nt := 17) (rs := [.tmp 4]) rfl rfl (Nat.le_of_ble_eq_true rfl) fun hok => ?_)
  repeat' (first | (first | (refine AWP.go env ?_; intro K fin; try simp +decide (maxSteps := 4000000) only [go_sem, Nat.reduceAdd, Nat.reduceMul]) | refine Kt.h _ _ ?_ | refine Ft.k (by decide +kernel) ?_ | (refine ⟨_, equalIntD, ?_⟩; simp +decide (maxSteps := 4000000) only [go_sem, Nat.reduceAdd, Nat.reduceMul])) | apply cond2_intro | with_reducible apply And.intro | intro h)
  all_goals (obtain ⟨a1, a2⟩ := a; obtain ⟨b1, b2⟩ := b; simp_all)

theorem pattSameC {a b : Patt} : Con Tryz.prog 95 [dPatt a, dPatt b] (.bool (decide (a = b))) := by
  refine ConC.con (ent _ Tryz.func95 rfl rfl) (con_of_body env Tryz.func95 rfl (nt := 31) (rs := [.tmp 4]) rfl rfl (Nat.le_of_ble_eq_true rfl) fun hok => ?_)
  repeat' (first | (first | (refine AWP.go env ?_; intro K fin; try simp +decide (maxSteps := 4000000) only [go_sem, Nat.reduceAdd, Nat.reduceMul]) | refine Kt.h _ _ ?_ | refine Ft.k (by decide +kernel) ?_ | ((first | refine ⟨_, graphSameC, ?_⟩ | refine ⟨_, equalSlotD, ?_⟩ | refine ⟨_, equalTestD, ?_⟩); simp +decide (maxSteps := 4000000) only [go_sem, Nat.reduceAdd, Nat.reduceMul])) | apply cond2_intro | with_reducible apply And.intro | intro h)
  all_goals (obtain ⟨a1, a2, a3, a4⟩ := a; obtain ⟨b1, b2, b3, b4⟩ := b; simp_all)

theorem eqFuncC {l m : List Cond} (ih : ∀ k ∈ l, ∀ j : Cond, Con Tryz.prog 97 [dCond k, dCond j] (.bool (sameC k j))) :
    Con Tryz.prog 170 [.fsl 9 (l.map Cond.row), .fsl 9 (m.map Cond.row), .fn 97 []] (.bool (sameCL l m)) := by
  by_cases hl : l.length = m.length
  case neg =>
    have q2 : ((l.length : Int) != (m.length : Int)) = true := by simpa using fun h => hl (by omega)
    have hF : sameCL l m = false := by
      rw [← Bool.not_eq_true]; intro h; exact hl (sameCL_len h)
    rw [hF]
    refine ConC.con (ent _ Tryz.func170 rfl rfl) (con_of_body env Tryz.func170 rfl (nt := 32) (rs := [.tmp 6]) rfl rfl (Nat.le_of_ble_eq_true rfl) fun hok => ?_)
    repeat' (first | (first | (refine AWP.go env ?_; intro K fin; try simp +decide (maxSteps := 4000000) only [q2, go_sem, Nat.reduceAdd, Nat.reduceMul]) | refine Kt.h _ _ ?_ | refine Ft.k (by decide +kernel) ?_ | (refine ⟨_, ihk, ?_⟩; simp +decide (maxSteps := 4000000) only [q2, go_sem, Nat.reduceAdd, Nat.reduceMul])) | apply cond2_intro | with_reducible apply And.intro | intro h)
  have q2 : ((l.length : Int) != (m.length : Int)) = false := by simp [hl]
  refine ConC.con (ent _ Tryz.func170 rfl rfl) (con_of_body env Tryz.func170 rfl (nt := 32) (rs := [.tmp 6]) rfl rfl (Nat.le_of_ble_eq_true rfl) fun hok => ?_)
  have hlx : l.length ≤ 140737488355328 := by simpa using (hok (.fsl 9 (l.map Cond.row)) (by simp)).len
  repeat' (first | (first | (refine AWP.go env ?_; intro K fin; try simp +decide (maxSteps := 4000000) only [q2, go_sem, Nat.reduceAdd, Nat.reduceMul]) | refine Kt.h _ _ ?_ | refine Ft.k (by decide +kernel) ?_ | (refine ⟨_, ihk, ?_⟩; simp +decide (maxSteps := 4000000) only [q2, go_sem, Nat.reduceAdd, Nat.reduceMul])) | apply cond2_intro | with_reducible apply And.intro | intro h)
  refine AWP.lp (α := Two2 l m)
    (fun w => ⟨32, [(1, .fsl 9 (m.map Cond.row)), (2, .fn 97 []), (15, .fsl 9 (l.map Cond.row)), (16, .int .i64 l.length), (17, .int .i64 w.a.length)], []⟩) (fun w => w.b.length) ⟨[], l, [], m, rfl, rfl, rfl, rfl⟩ (by simp +decide (maxSteps := 4000000) only [go_sem, Nat.reduceAdd, Nat.reduceMul]; try simp) fun w K => ?_
  obtain ⟨a, b, c, d, e1, e2, hlen, hsame⟩ := w
  have hbd : b.length = d.length := by
    have h1 := congrArg List.length e1; have h2 := congrArg List.length e2
    simp at h1 h2; omega
  cases b with
  | nil =>
    cases d with
    | cons _ _ => simp at hbd
    | nil =>
      have e1' : l = a := by simpa using e1
      have e2' : m = c := by simpa using e2
      have hn2 : ((a.length : Int) < (l.length : Int)) = False := by simp [e1']
      have hF : sameCL l m = true := by rw [e1', e2']; exact hsame
      repeat' (first | (first | (refine AWP.go env ?_; intro K fin; try simp +decide (maxSteps := 4000000) only [hn2, hF, go_sem, Nat.reduceAdd, Nat.reduceMul]) | refine Kt.h _ _ ?_ | refine Ft.k (by decide +kernel) ?_ | (refine ⟨_, ihk, ?_⟩; simp +decide (maxSteps := 4000000) only [hn2, hF, go_sem, Nat.reduceAdd, Nat.reduceMul])) | apply cond2_intro | with_reducible apply And.intro | intro h)
  | cons k b =>
    cases d with
    | nil => simp at hbd
    | cons j d =>
      have hal : a.length < l.length := by rw [e1]; simp
      have hcl : a.length < m.length := by omega
      have hn2 : ((a.length : Int) < (l.length : Int)) = True := by simp [hal]
      have hget := kid_row e1
      have hget2 : getR (m.map Cond.row) a.length = rCond j := by rw [hlen]; exact kid_row e2
      have v3 : IntKind.i64.wrap ((a.length : Int) + 1) = ((a.length + 1 : Nat) : Int) := by rw [wrap64 (by omega) (by omega)]; try rfl
      have ihk := ih k (by rw [e1]; simp) j
      have hF1 : sameCL l m = (sameC k j && sameCL b d) := by rw [e1, e2, sameCL_app hlen, hsame, Bool.true_and, sameCL]
      by_cases hk : sameC k j = true
      · repeat' (first | (first | (refine AWP.go env ?_; intro K fin; try simp +decide (maxSteps := 4000000) only [hn2, hget, hget2, v3, rCond, hk, go_sem, Nat.reduceAdd, Nat.reduceMul]) | refine Kt.h _ _ ?_ | refine Ft.k (by decide +kernel) ?_ | (refine ⟨_, ihk, ?_⟩; simp +decide (maxSteps := 4000000) only [hn2, hget, hget2, v3, rCond, hk, go_sem, Nat.reduceAdd, Nat.reduceMul])) | apply cond2_intro | with_reducible apply And.intro | intro h)
        all_goals try omega
        all_goals try (simp only [List.mem_cons, List.not_mem_nil, or_false] at h; (repeat' (first | (subst h; rfl) | rcases h with h | h)))
        all_goals try contradiction
        refine ⟨⟨a ++ [k], b, c ++ [j], d, by simp [e1], by simp [e2], by simp [hlen], ?_⟩, by simp, by simp +decide (maxSteps := 4000000) only [go_sem, Nat.reduceAdd, Nat.reduceMul]; simp⟩
        rw [sameCL_app hlen, hsame, sameCL, hk]; try rfl
      · have hk : sameC k j = false := by simpa using hk
        have hF : sameCL l m = false := by rw [hF1, hk]; try rfl
        repeat' (first | (first | (refine AWP.go env ?_; intro K fin; try simp +decide (maxSteps := 4000000) only [hn2, hget, hget2, v3, rCond, hk, hF, go_sem, Nat.reduceAdd, Nat.reduceMul]) | refine Kt.h _ _ ?_ | refine Ft.k (by decide +kernel) ?_ | (refine ⟨_, ihk, ?_⟩; simp +decide (maxSteps := 4000000) only [hn2, hget, hget2, v3, rCond, hk, hF, go_sem, Nat.reduceAdd, Nat.reduceMul])) | apply cond2_intro | with_reducible apply And.intro | intro h)
        all_goals try omega
        all_goals try (simp only [List.mem_cons, List.not_mem_nil, or_false] at h; (repeat' (first | (subst h; rfl) | rcases h with h | h)))
        all_goals try contradiction

theorem condSameStepC {x y : Cond} (ih : ∀ k ∈ x.kids, ∀ j : Cond, Con Tryz.prog 97 [dCond k, dCond j] (.bool (sameC k j))) : Con Tryz.prog 97 [dCond x, dCond y] (.bool (sameC x y)) := by
  have hw := sameC_eq x y
  refine ConC.con (ent _ Tryz.func97 rfl rfl) (con_of_body env Tryz.func97 rfl (nt := 70) (rs := [.tmp 4]) rfl rfl (Nat.le_of_ble_eq_true rfl) fun hok => ?_)
  repeat' (first | (first | (refine AWP.go env ?_; intro K fin; try simp +decide (maxSteps := 4000000) only [rCond, go_sem, Nat.reduceAdd, Nat.reduceMul]) | refine Kt.h _ _ ?_ | refine Ft.k (by decide +kernel) ?_ | ((first | refine ⟨_, morSameC, ?_⟩ | refine ⟨_, equalIntD, ?_⟩ | refine ⟨_, equalEdgeD, ?_⟩ | refine ⟨_, equalSlotD, ?_⟩ | refine ⟨_, equalTestD, ?_⟩ | refine ⟨_, eqFuncC ih, ?_⟩); simp +decide (maxSteps := 4000000) only [rCond, go_sem, Nat.reduceAdd, Nat.reduceMul])) | apply cond2_intro | with_reducible apply And.intro | intro h)
  all_goals try contradiction
  all_goals (rw [hw, patt_dec]; simp_all)

theorem condSameC (x y : Cond) : Con Tryz.prog 97 [dCond x, dCond y] (.bool (sameC x y)) :=
  condSameStepC fun k hk j => have := kid_lt hk; condSameC k j
termination_by SizeOf.sizeOf x

theorem ruleSameC {a b : Rul} : Con Tryz.prog 35 [dRule a, dRule b] (.bool (sameR a b)) := by
  refine ConC.con (ent _ Tryz.func35 rfl rfl) (con_of_body env Tryz.func35 rfl (nt := 63) (rs := [.tmp 4]) rfl rfl (Nat.le_of_ble_eq_true rfl) fun hok => ?_)
  repeat' (first | (first | (refine AWP.go env ?_; intro K fin; try simp +decide (maxSteps := 4000000) only [rCond, go_sem, Nat.reduceAdd, Nat.reduceMul]) | refine Kt.h _ _ ?_ | refine Ft.k (by decide +kernel) ?_ | ((first | refine ⟨_, pattSameC (a := a.left) (b := b.left), ?_⟩ | refine ⟨_, pattSameC (a := a.right) (b := b.right), ?_⟩ | refine ⟨_, equalIntD, ?_⟩ | refine ⟨_, morSameC (a := a.into) (b := b.into), ?_⟩ | refine ⟨_, condSameC a.cond b.cond, ?_⟩); simp +decide (maxSteps := 4000000) only [rCond, go_sem, Nat.reduceAdd, Nat.reduceMul])) | apply cond2_intro | with_reducible apply And.intro | intro h)
  all_goals (unfold sameR; rw [two_dec (p := a.keep)]; simp_all)

theorem lawRuleSame {a b : Rul} : Con Tryz.prog 8 [dRule a, dRule b] (.bool true) := by
  have hself := ruleSameC (a := a) (b := a)
  rw [sameR_refl] at hself
  by_cases hf : fewR a = true
  case neg =>
    have hf : fewR a = false := by simpa using hf
    refine ConC.con (ent _ Tryz.func8 rfl rfl) (con_of_body env Tryz.func8 rfl (nt := 30) (rs := [.tmp 4]) rfl rfl (Nat.le_of_ble_eq_true rfl) fun hok => ?_)
    repeat' (first | (first | (refine AWP.go env ?_; intro K fin; try simp +decide (maxSteps := 4000000) only [hf, go_sem, Nat.reduceAdd, Nat.reduceMul]) | refine Kt.h _ _ ?_ | refine Ft.k (by decide +kernel) ?_ | ((first | refine ⟨_, awakeC, ?_⟩ | refine ⟨_, fewRC (r := a), ?_⟩ | refine ⟨_, fewRC (r := b), ?_⟩ | refine ⟨_, ruleSameC (a := a) (b := b), ?_⟩ | refine ⟨_, hself, ?_⟩ | refine ⟨_, rSameRC (a := a) (b := b), ?_⟩); simp +decide (maxSteps := 4000000) only [hf, go_sem, Nat.reduceAdd, Nat.reduceMul])) | apply cond2_intro | with_reducible apply And.intro | intro h)
  by_cases hg : fewR b = true
  case neg =>
    have hg : fewR b = false := by simpa using hg
    refine ConC.con (ent _ Tryz.func8 rfl rfl) (con_of_body env Tryz.func8 rfl (nt := 30) (rs := [.tmp 4]) rfl rfl (Nat.le_of_ble_eq_true rfl) fun hok => ?_)
    repeat' (first | (first | (refine AWP.go env ?_; intro K fin; try simp +decide (maxSteps := 4000000) only [hf, hg, go_sem, Nat.reduceAdd, Nat.reduceMul]) | refine Kt.h _ _ ?_ | refine Ft.k (by decide +kernel) ?_ | ((first | refine ⟨_, awakeC, ?_⟩ | refine ⟨_, fewRC (r := a), ?_⟩ | refine ⟨_, fewRC (r := b), ?_⟩ | refine ⟨_, ruleSameC (a := a) (b := b), ?_⟩ | refine ⟨_, hself, ?_⟩ | refine ⟨_, rSameRC (a := a) (b := b), ?_⟩); simp +decide (maxSteps := 4000000) only [hf, hg, go_sem, Nat.reduceAdd, Nat.reduceMul])) | apply cond2_intro | with_reducible apply And.intro | intro h)
  refine ConC.con (ent _ Tryz.func8 rfl rfl) (con_of_body env Tryz.func8 rfl (nt := 30) (rs := [.tmp 4]) rfl rfl (Nat.le_of_ble_eq_true rfl) fun hok => ?_)
  repeat' (first | (first | (refine AWP.go env ?_; intro K fin; try simp +decide (maxSteps := 4000000) only [hf, hg, go_sem, Nat.reduceAdd, Nat.reduceMul]) | refine Kt.h _ _ ?_ | refine Ft.k (by decide +kernel) ?_ | ((first | refine ⟨_, awakeC, ?_⟩ | refine ⟨_, fewRC (r := a), ?_⟩ | refine ⟨_, fewRC (r := b), ?_⟩ | refine ⟨_, ruleSameC (a := a) (b := b), ?_⟩ | refine ⟨_, hself, ?_⟩ | refine ⟨_, rSameRC (a := a) (b := b), ?_⟩); simp +decide (maxSteps := 4000000) only [hf, hg, go_sem, Nat.reduceAdd, Nat.reduceMul])) | apply cond2_intro | with_reducible apply And.intro | intro h)
  all_goals try contradiction
  all_goals simp_all
end Go.Abs
/- RuleSame holds of every input. Its row, out of the contract of its function. -/
namespace Go.Proofs.YticiiadkpddgoaaGreat.ruleSame
open Go Go.Abs Go.ChangeShapes Go.WideShapes Go.ChangeAt Go.RowKit
set_option linter.unusedVariables false
theorem own : ownKnob Tryz.prog.godebug = none := by kernel_rfl
theorem laidOut : laidOutB Tryz.prog = true := by kernel_rfl
set_option maxRecDepth 100000 in
theorem lifted (os : Os) (started : os.Started) (H : Type) (enc : TypeId × Value → H) :
    ReturnsInHanded {} Tryz.checked os 8 .any (Rows.ruleSameSpec.pre6 enc Tryz.prog Tryz.f8 Rows.ruleSameRow.domain false) (Rows.ruleSameSpec.post enc Tryz.prog Tryz.f8 false true false false) := by
  refine returnsInHanded_of_change_sized (C := Tryz.checked) own started (by kernel_rfl) Tryz.func8
    (ChangeSpec.witness6 (enc := enc) (C := Tryz.checked) false ⟨#[], #[.agg #[.string ByteArray.empty, .slice none 0 0, .slice none 0 0, .slice none 0 0, .int .i64 0, .slice none 0 0, .slice none 0 0, .slice none 0 0, .slice none 0 0, .int .i64 0, .slice none 0 0, .slice none 0 0, .slice none 0 0, .slice none 0 0, .slice none 0 0, .bool false, .int .i64 0, .slice none 0 0, .slice none 0 0, .slice none 0 0, .slice none 0 0, .slice none 0 0, .slice none 0 0, .int .i64 0, .slice none 0 0], .agg #[.string ByteArray.empty, .slice none 0 0, .slice none 0 0, .slice none 0 0, .int .i64 0, .slice none 0 0, .slice none 0 0, .slice none 0 0, .slice none 0 0, .int .i64 0, .slice none 0 0, .slice none 0 0, .slice none 0 0, .slice none 0 0, .slice none 0 0, .bool false, .int .i64 0, .slice none 0 0, .slice none 0 0, .slice none 0 0, .slice none 0 0, .slice none 0 0, .slice none 0 0, .int .i64 0, .slice none 0 0]], []⟩ 8 (by kernel_rfl) (by kernel_rfl) (by kernel_rfl) (by kernel_rfl)) ?_
  intro W base args ds gs before hval0 hW hcnd hsz0 _
  have hsz : (DataW.weightsEach Tryz.prog (Tryz.f8.params.toList ++ Rows.ruleSameSpec.plain.varTypes Tryz.prog) (ds ++ gs)).all (· ≤ reachBytes) = true := hsz0
  have hval : ∀ (j : Nat) t v, Tryz.f8.params[j]? = some t → args[j]? = some v → Value.okWide Tryz.prog W .any base t v := hval0
  have hW' := hW
  obtain ⟨p, q, hA0, hV, rfl, hfz, hnd⟩ := hW
  have hA : DataW.TrodAll enc Tryz.prog W 0 (fun _ => true) true Tryz.f8.params.toList args.toList ds p := hA0
  rw [Tryz.params8] at hA hval hsz
  obtain ⟨v0, vs0, d0, ds0, p0, q0, hargs, rfl, rfl, h0, r0⟩ := trodAll_cons hA
  obtain ⟨v1, vs1, d1, ds1, p1, q1, rfl, rfl, rfl, h1, r1⟩ := trodAll_cons r0
  obtain ⟨rfl, rfl, rfl⟩ := trodAll_nil r1
  obtain rfl : args = #[v0, v1] := by cases args; simp_all
  obtain ⟨rfl, rfl⟩ := trodVars_none hV
  have hwt := List.all_eq_true.1 hsz
  have k0 := h0
  have lt0 : ∀ x ∈ p0, x.block < W.heap.size := by obtain ⟨m, hm⟩ := k0; exact DataW.trod_lt m _ _ _ hm
  have w0 : ∀ n ∈ d0.weights Tryz.prog 41, n ≤ reachBytes := fun n hn => of_decide_eq_true (hwt n (weights_each _ _ rfl 0 41 d0 rfl rfl n hn))
  obtain ⟨cs0, sh0, e0⟩ := arg_struct tok covSR (by decide) Tryz.underlying41 (hval 0 41 v0 rfl rfl) h0 w0
  obtain ⟨x0, rfl⟩ := sh_Rule sh0
  have k1 := h1
  have lt1 : ∀ x ∈ p1, x.block < W.heap.size := by obtain ⟨m, hm⟩ := k1; exact DataW.trod_lt m _ _ _ hm
  have w1 : ∀ n ∈ d1.weights Tryz.prog 41, n ≤ reachBytes := fun n hn => of_decide_eq_true (hwt n (weights_each _ _ rfl 1 41 d1 rfl rfl n hn))
  obtain ⟨cs1, sh1, e1⟩ := arg_struct tok covSR (by decide) Tryz.underlying41 (hval 1 41 v1 rfl rfl) h1 w1
  obtain ⟨x1, rfl⟩ := sh_Rule sh1
  clear hA0 hval0 hsz0 hsz
  refine (Con.calls_true (ent _ Tryz.func8 rfl rfl) (lawRuleSame (a := x0) (b := x1)) rfl rfl fun i hi => ?_).mono fun e W' ⟨he, bel⟩ => ?_
  · match i, hi with
    | 0, _ => exact e0
    | 1, _ => exact e1
  subst he
  exact ⟨_, rfl, _, _, _, [], _, [], hW', trodAll_mk1 (shut_bool Tryz.underlying4 _), (trodAll_cons_mk (Below.trod laidOut (by kernel_rfl) (of_decide_eq_true (by kernel_rfl)) k0 bel lt0) (trodAll_cons_mk (Below.trod laidOut (by kernel_rfl) (of_decide_eq_true (by kernel_rfl)) k1 bel lt1) trodAll_mk0)), rfl, bel.frame _, fun h => by cases h⟩
/-- The functions that it leads to. -/
theorem clo : Tryz.prog.closure 8 = [8, 12, 43, 44, 19, 14, 46, 105, 47, 107, 185, 245, 246, 247, 248, 249, 287, 250, 286, 294, 251, 288, 295, 178, 177, 240, 179, 180, 242, 241, 285, 243, 106, 181, 183, 182, 244, 184, 48, 91, 108, 186, 158, 159, 160, 161, 110, 187, 109, 111, 112, 113, 188, 197, 255, 252, 114, 189, 253, 115, 190, 49, 116, 191, 192, 117, 194, 193, 254, 50, 92, 162, 229, 278, 279, 163, 224, 277, 230, 86, 93, 118, 195, 87, 156, 227, 228, 155, 218, 219, 272, 220, 273, 274, 221, 275, 276, 292, 222, 223, 225, 226, 233, 51, 119, 196, 141, 52, 120, 121, 122, 198, 256, 289, 53, 123, 199, 257, 258, 290, 259, 200, 124, 201, 260, 64, 21, 16, 63, 139, 65, 140, 215, 66, 25, 32, 88, 36, 89, 37, 90, 157, 35, 95, 166, 169, 167, 168, 96, 97, 170, 18, 72, 145, 146, 73, 74, 147, 75] := by kernel_rfl
theorem unf : Tryz.prog.unfollowed 8 = true := by unfold Program.unfollowed; rw [clo]; kernel_rfl
theorem and2 {a b : Bool} (h : a = true) (k : b = true) : (a && b) = true := by rw [h, k]; try rfl
theorem fact0 : Rows.ruleSameRow.wf (OpenSpec.ofChange Rows.ruleSameSpec) = true := by kernel_rfl
theorem fact1 : laidOutB Tryz.prog = true := by kernel_rfl
theorem fact2 : mapsRowed Tryz.prog = true := by kernel_rfl
theorem fact3 : Tryz.f8.params.all (Tryz.prog.readableRec ·) = true := by kernel_rfl
theorem fact4 : namedTie Tryz.prog Rows.ruleSameRow.named Rows.ruleSameSpec.vars = true := by kernel_rfl
theorem fact5 : (Rows.ruleSameRow.stops == []) = true := by kernel_rfl
theorem fact6 : (Tryz.prog.stops == []) = true := by kernel_rfl
theorem fact7 : (Rows.ruleSameRow.knobs == []) = true := by kernel_rfl
theorem fact8 : (Tryz.prog.stopKnobs == []) = true := by kernel_rfl
theorem fact9 : (Rows.ruleSameRow.inPlace == Tryz.prog.inPlace 8) = true := by unfold Program.inPlace; rw [clo]; kernel_rfl
theorem fact10 : (Rows.ruleSameRow.unfollowed == Tryz.prog.unfollowed 8) = true := by rw [unf]; kernel_rfl
theorem fact11 : (Rows.ruleSameRow.recurses == Tryz.prog.recurses 8) = true := by unfold Program.recurses; rw [unf]; kernel_rfl
theorem fact12 : (Rows.ruleSameRow.named == Tryz.prog.varsNamed 8) = true := by unfold Program.varsNamed; rw [clo]; kernel_rfl
theorem fact13 : (Rows.ruleSameRow.maps == (Tryz.f8.params.toList ++ Rows.ruleSameSpec.plain.varTypes Tryz.prog).any (Tryz.prog.mapsRec ·)) = true := by kernel_rfl
theorem fact14 : (Rows.ruleSameRow.ifaces == (Tryz.f8.params.toList ++ Rows.ruleSameSpec.plain.varTypes Tryz.prog).any (Tryz.prog.ifacesRec ·)) = true := by kernel_rfl
theorem fact15 : (Rows.ruleSameRow.mapsOut == Tryz.prog.mapsAmong Tryz.f8.resultTypes.toList) = true := by kernel_rfl
theorem fact16 : (Rows.ruleSameRow.loops == (Tryz.f8.params.toList ++ Rows.ruleSameSpec.plain.varTypes Tryz.prog).any (Tryz.prog.loopsFrom ·)) = true := by kernel_rfl
theorem fact17 : (Rows.ruleSameRow.wideKeys == (Tryz.f8.params.toList ++ Rows.ruleSameSpec.plain.varTypes Tryz.prog ++ Tryz.f8.resultTypes.toList).any (Tryz.prog.wideKeysFrom ·)) = true := by kernel_rfl
theorem fact18 : Rows.ruleSameSpec.vars.all (Tryz.prog.varReadable ·) = true := by kernel_rfl
theorem fact19 : Tryz.f8.resultTypes.all (fun t => Tryz.prog.readableRec t && decide (t < Tryz.prog.types.size)) = true := by kernel_rfl
theorem fact20 : (Rows.ruleSameRow.ifacesOut == Tryz.f8.resultTypes.toList.any (Tryz.prog.ifacesRec ·)) = true := by kernel_rfl
theorem fact21 : (Rows.ruleSameRow.loopsOut == Tryz.f8.resultTypes.toList.any (Tryz.prog.loopsFrom ·)) = true := by kernel_rfl
theorem fact22 : (Rows.ruleSameRow.plainKeys == Tryz.prog.plainKeys) = true := by kernel_rfl
theorem fact23 : Rows.ruleSameRow.shortTexts.isNone = true := by kernel_rfl
theorem fact24 : Tryz.prog.stopsHeard = true := by kernel_rfl
theorem fact25 : Tryz.prog.mayEnter = true := by kernel_rfl
theorem fact26 : (Rows.ruleSameRow.lifted == Tryz.prog.liftsFinal) = true := by kernel_rfl
theorem fact27 : (Tryz.prog.make == some Rows.ruleSameRow.make) = true := by kernel_rfl
theorem fact29 : (Rows.ruleSameRow.pinned == Rows.ruleSameRow.pinnedBy) = true := by kernel_rfl
theorem fact30 : (Rows.ruleSameRow.veiled == (Tryz.f8.params.toList ++ Rows.ruleSameSpec.plain.varTypes Tryz.prog ++ Tryz.f8.resultTypes.toList).any (Tryz.prog.veiledRec ·)) = true := by kernel_rfl
theorem fact31 : Rows.ruleSameRow.veiledFits Tryz.prog Tryz.f8.params.toList (Tryz.f8.params.toList ++ Rows.ruleSameSpec.plain.varTypes Tryz.prog ++ Tryz.f8.resultTypes.toList) = true := by kernel_rfl
theorem facts : joinedFacts Tryz.prog 8 Tryz.f8 Rows.ruleSameSpec Rows.ruleSameRow = true := by
  unfold joinedFacts
  exact (and2 (and2 (and2 (and2 (and2 (and2 (and2 (and2 (and2 (and2 (and2 (and2 (and2 (and2 (and2 (and2 (and2 (and2 (and2 (and2 (and2 (and2 (and2 (and2 (and2 (and2 (and2 (and2 (and2 (and2 (and2 fact0 fact1) fact2) fact3) fact4) fact5) fact6) fact7) fact8) fact9) fact10) fact11) fact12) fact13) fact14) fact15) fact16) fact17) fact18) fact19) fact20) fact21) fact22) fact23) fact24) fact25) fact26) fact27) (by kernel_rfl)) fact29) fact30) fact31)
theorem named : Tryz.pinned.checked.prog.funcNamed Rows.ruleSameRow.func = some 8 := by kernel_rfl
theorem over : Rows.ruleSameRow.holds Tryz.pinned (OpenSpec.ofChange Rows.ruleSameSpec) :=
  OpenClaim.holds_of_wide 8 Tryz.f8 rfl rfl rfl rfl rfl rfl rfl ⟨rfl, rfl, rfl, rfl, rfl⟩ rfl rfl rfl rfl rfl named Tryz.func8 facts
    (of_decide_eq_true (by kernel_rfl)) (by unfold Func.isWrapper; first | (rw [if_pos (by decide +kernel)]; kernel_rfl) | (rw [if_neg (by decide +kernel)]; exact ⟨rfl, rfl⟩))
    (fun os started H enc _ => lifted os started H enc)
theorem proved : Rows.RuleSameSaid := over
#print axioms proved
end Go.Proofs.YticiiadkpddgoaaGreat.ruleSame
namespace Go.Proofs.YticiiadkpddgoaaGreat
/-- The statement. -/
theorem ruleSame_holds : Rows.RuleSameSaid := ruleSame.proved
end Go.Proofs.YticiiadkpddgoaaGreat

