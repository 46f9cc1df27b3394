/- RuleParts holds of every input. Its row, out of the contract of its function. -/
import Derived.Test.YticiiadkpddgoaaGreatMBZ
import Derived.Test.YticiiadkpddgoaaGreatRows
import Derived.WalkKit
import Derived.ProofKit
import Derived.OpenShut
import Derived.ShutString
import Derived.ChangeOld
import Derived.Below
import Derived.SizedLaws
import Derived.Carry
import Derived.JoinedOf
/- The kept pairs; RuleParts. Printed by gen/mk_p2.py. -/
set_option linter.unusedSimpArgs false
set_option linter.unusedVariables false
set_option maxRecDepth 20000
set_option maxHeartbeats 4000000
namespace Go.Abs
open Go Go.RowKit Go.Proofs
attribute [local irreducible] Con AWP

def rPr (p : Int × Int) : List D := [.int .i64 p.1, .int .i64 p.2]
abbrev nPrs (l : List (Int × Int)) : D := .nsl 57 2 (l.map rPr)
abbrev dPrs (l : List (Int × Int)) : D := .fsl 2 (l.map rPr)

theorem zip_take {a b : List Int} {k : Nat} (ha : k < a.length) (hb : b.length = a.length) : (a.zip b).take (k + 1) = (a.zip b).take k ++ [(a[k], b[k]'(by omega))] := by
  rw [List.take_succ_eq_append_getElem (by simp; omega), List.getElem_zip]

theorem pairsC {a b : List Int} (hl : a.length ≤ 1000000) (hb : b.length = a.length) : Con Tryz.prog 76 [dInts a, dInts b] (nPrs (a.zip b)) := by
  refine ConC.con (ent _ Tryz.func76 rfl rfl) (con_of_body env Tryz.func76 rfl (nt := 26) (rs := [.tmp 4]) rfl rfl (Nat.le_of_ble_eq_true rfl) fun hok => ?_)
  repeat' (first | (first | (refine AWP.go env ?_; intro K fin; try simp +decide (maxSteps := 4000000) only [go_sem, Nat.reduceAdd, Nat.reduceMul]) | refine Kt.h _ _ ?_ | refine Ft.k (by decide +kernel) ?_) | apply cond2_intro | with_reducible apply And.intro | intro h)
  refine AWP.weaken (Wk.nilOwn (n := 5) (id := 777) 57 2 (by simp +decide (maxSteps := 4000000) only [go_sem, Nat.reduceAdd, Nat.reduceMul]) (by simp +decide (maxSteps := 4000000) only [go_sem, Nat.reduceAdd, Nat.reduceMul])) ?_
  simp +decide (maxSteps := 4000000) only [go_sem, Nat.reduceAdd, Nat.reduceMul]
  refine AWP.lp (α := Nat × {k : Nat // k ≤ a.length})
    (fun w => ⟨26, [(0, dInts a), (1, dInts b), (5, .osl 777 w.1), (8, .int .i64 a.length), (9, .int .i64 w.2.1)],
      [(777, ⟨w.1, true, false, 2, 57, ((a.zip b).take w.2.1).map rPr⟩)]⟩) (fun w => a.length - w.2.1) ⟨0, 0, by omega⟩ (by simp +decide (maxSteps := 4000000) only [go_sem, Nat.reduceAdd, Nat.reduceMul]; try simp) fun w K => ?_
  obtain ⟨ver, k, hk⟩ := w
  have hlk : ((a.zip b).take k).length ≤ 1000000 := by simp; omega
  have v3 : IntKind.i64.wrap ((k : Int) + 1) = ((k + 1 : Nat) : Int) := by rw [wrap64 (by omega) (by omega)]; try rfl
  by_cases hkn : k = a.length
  · have hn2 : ((k : Int) < (a.length : Int)) = False := by simp [hkn]
    have hF : (a.zip b).take k = a.zip b := List.take_of_length_le (by simp; omega)
    repeat' (first | (first | (refine AWP.go env ?_; intro K fin; try simp +decide (maxSteps := 4000000) only [hn2, hF, go_sem, Nat.reduceAdd, Nat.reduceMul]) | refine Kt.h _ _ ?_ | refine Ft.k (by decide +kernel) ?_) | apply cond2_intro | with_reducible apply And.intro | intro h)
  · have hn2 : ((k : Int) < (a.length : Int)) = True := by simp; omega
    have hka : k < a.length := by omega
    have hg1 : getR (a.map rI) k = [.int .i64 a[k]] := by rw [getR_map _ _ _ hka]
    have hg2 : getR (b.map rI) k = [.int .i64 (b[k]'(by omega))] := by rw [getR_map _ _ _ (by omega)]
    repeat' (first | (first | (refine AWP.go env ?_; intro K fin; try simp +decide (maxSteps := 4000000) only [hn2, hg1, hg2, v3, go_sem, Nat.reduceAdd, Nat.reduceMul]) | refine Kt.h _ _ ?_ | refine Ft.k (by decide +kernel) ?_) | apply cond2_intro | with_reducible apply And.intro | intro h)
    all_goals try (first | omega | (unfold lim; simp only [List.length_map]; omega) | (unfold lim; omega))
    all_goals try (simp only [List.mem_cons, List.not_mem_nil, or_false] at h; (repeat' (first | (subst h; rfl) | rcases h with h | h)))
    all_goals try contradiction
    refine ⟨⟨ver + 1, k + 1, by omega⟩, by simp; omega, by simp +decide (maxSteps := 4000000) only [zip_take hka hb, go_sem, Nat.reduceAdd, Nat.reduceMul]; simp [rPr]⟩

theorem rPairsC {a b : List Int} (hl : a.length ≤ 1000000) (hb : b.length = a.length) : Con Tryz.prog 77 [dInts a, dInts b] (nPrs (a.zip b)) := by
  refine ConC.con (ent _ Tryz.func77 rfl rfl) (con_of_body env Tryz.func77 rfl (nt := 26) (rs := [.tmp 4]) rfl rfl (Nat.le_of_ble_eq_true rfl) fun hok => ?_)
  repeat' (first | (first | (refine AWP.go env ?_; intro K fin; try simp +decide (maxSteps := 4000000) only [go_sem, Nat.reduceAdd, Nat.reduceMul]) | refine Kt.h _ _ ?_ | refine Ft.k (by decide +kernel) ?_) | apply cond2_intro | with_reducible apply And.intro | intro h)
  refine AWP.weaken (Wk.nilOwn (n := 5) (id := 777) 57 2 (by simp +decide (maxSteps := 4000000) only [go_sem, Nat.reduceAdd, Nat.reduceMul]) (by simp +decide (maxSteps := 4000000) only [go_sem, Nat.reduceAdd, Nat.reduceMul])) ?_
  simp +decide (maxSteps := 4000000) only [go_sem, Nat.reduceAdd, Nat.reduceMul]
  refine AWP.lp (α := Nat × {k : Nat // k ≤ a.length})
    (fun w => ⟨26, [(0, dInts a), (1, dInts b), (5, .osl 777 w.1), (6, .int .i64 w.2.1)],
      [(777, ⟨w.1, true, false, 2, 57, ((a.zip b).take w.2.1).map rPr⟩)]⟩) (fun w => a.length - w.2.1) ⟨0, 0, by omega⟩ (by simp +decide (maxSteps := 4000000) only [go_sem, Nat.reduceAdd, Nat.reduceMul]; try simp) fun w K => ?_
  obtain ⟨ver, k, hk⟩ := w
  have hlk : ((a.zip b).take k).length ≤ 1000000 := by simp; omega
  have v3 : IntKind.i64.wrap ((k : Int) + 1) = ((k + 1 : Nat) : Int) := by rw [wrap64 (by omega) (by omega)]; try rfl
  by_cases hkn : k = a.length
  · have hn2 : ((k : Int) < (a.length : Int)) = False := by simp [hkn]
    have hF : (a.zip b).take k = a.zip b := List.take_of_length_le (by simp; omega)
    repeat' (first | (first | (refine AWP.go env ?_; intro K fin; try simp +decide (maxSteps := 4000000) only [hn2, hF, go_sem, Nat.reduceAdd, Nat.reduceMul]) | refine Kt.h _ _ ?_ | refine Ft.k (by decide +kernel) ?_) | apply cond2_intro | with_reducible apply And.intro | intro h)
  · have hn2 : ((k : Int) < (a.length : Int)) = True := by simp; omega
    have hka : k < a.length := by omega
    have hg1 : getR (a.map rI) k = [.int .i64 a[k]] := by rw [getR_map _ _ _ hka]
    have hg2 : getR (b.map rI) k = [.int .i64 (b[k]'(by omega))] := by rw [getR_map _ _ _ (by omega)]
    repeat' (first | (first | (refine AWP.go env ?_; intro K fin; try simp +decide (maxSteps := 4000000) only [hn2, hg1, hg2, v3, go_sem, Nat.reduceAdd, Nat.reduceMul]) | refine Kt.h _ _ ?_ | refine Ft.k (by decide +kernel) ?_) | apply cond2_intro | with_reducible apply And.intro | intro h)
    all_goals try (first | omega | (unfold lim; simp only [List.length_map]; omega) | (unfold lim; omega))
    all_goals try (simp only [List.mem_cons, List.not_mem_nil, or_false] at h; (repeat' (first | (subst h; rfl) | rcases h with h | h)))
    all_goals try contradiction
    refine ⟨⟨ver + 1, k + 1, by omega⟩, by simp; omega, by simp +decide (maxSteps := 4000000) only [zip_take hka hb, go_sem, Nat.reduceAdd, Nat.reduceMul]; simp [rPr]⟩

theorem KeptErrC {t : Types} {r : Rul} (h : ruleF t r ≠ 0) : Con Tryz.prog 23 [dTypes t, dRule r] (.tup [.nil, .nil, .int .i64 (ruleF t r)]) := by
  have q : (ruleF t r != 0) = true := by simpa using h
  refine ConC.con (ent _ Tryz.func23 rfl rfl) (con_of_body env Tryz.func23 rfl (nt := 28) (rs := [.tmp 4, .tmp 5, .tmp 6]) rfl rfl (Nat.le_of_ble_eq_true rfl) fun hok => ?_)
  repeat' (first | (first | (refine AWP.go env ?_; intro K fin; try simp +decide (maxSteps := 4000000) only [q, go_sem, Nat.reduceAdd, Nat.reduceMul]) | refine Kt.h _ _ ?_ | refine Ft.k (by decide +kernel) ?_ | (refine ⟨_, ruleC (t := t) (r := r), ?_⟩; simp +decide (maxSteps := 4000000) only [q, go_sem, Nat.reduceAdd, Nat.reduceMul])) | apply cond2_intro | with_reducible apply And.intro | intro h)

theorem rDelErrC {t : Types} (hfew : ∀ n ∈ t.nodes, n.attrs.length ≤ 30) {r : Rul} (h : ruleF t r ≠ 0) : Con Tryz.prog 20 [dTypes t, dRule r] (.tup [.nil, .nil, .int .i64 (ruleF t r)]) := by
  have q : (ruleF t r != 0) = true := by simpa using h
  refine ConC.con (ent _ Tryz.func20 rfl rfl) (con_of_body env Tryz.func20 rfl (nt := 23) (rs := [.tmp 4, .tmp 5, .tmp 6]) rfl rfl (Nat.le_of_ble_eq_true rfl) fun hok => ?_)
  repeat' (first | (first | (refine AWP.go env ?_; intro K fin; try simp +decide (maxSteps := 4000000) only [q, go_sem, Nat.reduceAdd, Nat.reduceMul]) | refine Kt.h _ _ ?_ | refine Ft.k (by decide +kernel) ?_ | (refine ⟨_, rRuleC hfew (r := r), ?_⟩; simp +decide (maxSteps := 4000000) only [q, go_sem, Nat.reduceAdd, Nat.reduceMul])) | apply cond2_intro | with_reducible apply And.intro | intro h)

theorem rCreErrC {t : Types} (hfew : ∀ n ∈ t.nodes, n.attrs.length ≤ 30) {r : Rul} (h : ruleF t r ≠ 0) : Con Tryz.prog 22 [dTypes t, dRule r] (.tup [.nil, .nil, .int .i64 (ruleF t r)]) := by
  have q : (ruleF t r != 0) = true := by simpa using h
  refine ConC.con (ent _ Tryz.func22 rfl rfl) (con_of_body env Tryz.func22 rfl (nt := 23) (rs := [.tmp 4, .tmp 5, .tmp 6]) rfl rfl (Nat.le_of_ble_eq_true rfl) fun hok => ?_)
  repeat' (first | (first | (refine AWP.go env ?_; intro K fin; try simp +decide (maxSteps := 4000000) only [q, go_sem, Nat.reduceAdd, Nat.reduceMul]) | refine Kt.h _ _ ?_ | refine Ft.k (by decide +kernel) ?_ | (refine ⟨_, rRuleC hfew (r := r), ?_⟩; simp +decide (maxSteps := 4000000) only [q, go_sem, Nat.reduceAdd, Nat.reduceMul])) | apply cond2_intro | with_reducible apply And.intro | intro h)

theorem rKeptErrC {t : Types} (hfew : ∀ n ∈ t.nodes, n.attrs.length ≤ 30) {r : Rul} (h : ruleF t r ≠ 0) : Con Tryz.prog 24 [dTypes t, dRule r] (.tup [.nil, .nil, .int .i64 (ruleF t r)]) := by
  have q : (ruleF t r != 0) = true := by simpa using h
  refine ConC.con (ent _ Tryz.func24 rfl rfl) (con_of_body env Tryz.func24 rfl (nt := 28) (rs := [.tmp 4, .tmp 5, .tmp 6]) rfl rfl (Nat.le_of_ble_eq_true rfl) fun hok => ?_)
  repeat' (first | (first | (refine AWP.go env ?_; intro K fin; try simp +decide (maxSteps := 4000000) only [q, go_sem, Nat.reduceAdd, Nat.reduceMul]) | refine Kt.h _ _ ?_ | refine Ft.k (by decide +kernel) ?_ | (refine ⟨_, rRuleC hfew (r := r), ?_⟩; simp +decide (maxSteps := 4000000) only [q, go_sem, Nat.reduceAdd, Nat.reduceMul])) | apply cond2_intro | with_reducible apply And.intro | intro h)

theorem KeptOkC {t : Types} {r : Rul} (h : ruleF t r = 0) : Con Tryz.prog 23 [dTypes t, dRule r] (.tup [nPrs (r.keep.nodes.zip r.into.nodes), nPrs (r.keep.edges.zip r.into.edges), .int .i64 0]) := by
  have q : (ruleF t r != 0) = false := by simpa using h
  obtain ⟨_, _, ⟨k1, k2⟩, e1, e2⟩ := ruleF_lens h
  have h1 := pairsC (a := r.keep.nodes) (b := r.into.nodes) (by omega) e1
  have h2 := pairsC (a := r.keep.edges) (b := r.into.edges) (by omega) e2
  refine ConC.con (ent _ Tryz.func23 rfl rfl) (con_of_body env Tryz.func23 rfl (nt := 28) (rs := [.tmp 4, .tmp 5, .tmp 6]) rfl rfl (Nat.le_of_ble_eq_true rfl) fun hok => ?_)
  repeat' (first | (first | (refine AWP.go env ?_; intro K fin; try simp +decide (maxSteps := 4000000) only [q, go_sem, Nat.reduceAdd, Nat.reduceMul]) | refine Kt.h _ _ ?_ | refine Ft.k (by decide +kernel) ?_ | ((first | refine ⟨_, ruleC (t := t) (r := r), ?_⟩ | refine ⟨_, h1, ?_⟩ | refine ⟨_, h2, ?_⟩); simp +decide (maxSteps := 4000000) only [q, go_sem, Nat.reduceAdd, Nat.reduceMul])) | apply cond2_intro | with_reducible apply And.intro | intro h)

theorem rKeptOkC {t : Types} (hfew : ∀ n ∈ t.nodes, n.attrs.length ≤ 30) {r : Rul} (h : ruleF t r = 0) : Con Tryz.prog 24 [dTypes t, dRule r] (.tup [nPrs (r.keep.nodes.zip r.into.nodes), nPrs (r.keep.edges.zip r.into.edges), .int .i64 0]) := by
  have q : (ruleF t r != 0) = false := by simpa using h
  obtain ⟨_, _, ⟨k1, k2⟩, e1, e2⟩ := ruleF_lens h
  have h1 := rPairsC (a := r.keep.nodes) (b := r.into.nodes) (by omega) e1
  have h2 := rPairsC (a := r.keep.edges) (b := r.into.edges) (by omega) e2
  refine ConC.con (ent _ Tryz.func24 rfl rfl) (con_of_body env Tryz.func24 rfl (nt := 28) (rs := [.tmp 4, .tmp 5, .tmp 6]) rfl rfl (Nat.le_of_ble_eq_true rfl) fun hok => ?_)
  repeat' (first | (first | (refine AWP.go env ?_; intro K fin; try simp +decide (maxSteps := 4000000) only [q, go_sem, Nat.reduceAdd, Nat.reduceMul]) | refine Kt.h _ _ ?_ | refine Ft.k (by decide +kernel) ?_ | ((first | refine ⟨_, rRuleC hfew (r := r), ?_⟩ | refine ⟨_, h1, ?_⟩ | refine ⟨_, h2, ?_⟩); simp +decide (maxSteps := 4000000) only [q, go_sem, Nat.reduceAdd, Nat.reduceMul])) | apply cond2_intro | with_reducible apply And.intro | intro h)

theorem rDelOkC {t : Types} (hfew : ∀ n ∈ t.nodes, n.attrs.length ≤ 30) {r : Rul} (h : ruleF t r = 0) : Con Tryz.prog 20 [dTypes t, dRule r] (.tup [nInts (deletedF r).nodes, nInts (deletedF r).edges, .int .i64 0]) := by
  have q : (ruleF t r != 0) = false := by simpa using h
  obtain ⟨⟨gl1, gl2⟩, ⟨gr1, gr2⟩, _⟩ := ruleF_lens h
  have hd := rDeletedC (r := r) (by omega) (by omega)
  refine ConC.con (ent _ Tryz.func20 rfl rfl) (con_of_body env Tryz.func20 rfl (nt := 23) (rs := [.tmp 4, .tmp 5, .tmp 6]) rfl rfl (Nat.le_of_ble_eq_true rfl) fun hok => ?_)
  repeat' (first | (first | (refine AWP.go env ?_; intro K fin; try simp +decide (maxSteps := 4000000) only [q, go_sem, Nat.reduceAdd, Nat.reduceMul]) | refine Kt.h _ _ ?_ | refine Ft.k (by decide +kernel) ?_ | ((first | refine ⟨_, rRuleC hfew (r := r), ?_⟩ | refine ⟨_, hd, ?_⟩); simp +decide (maxSteps := 4000000) only [q, go_sem, Nat.reduceAdd, Nat.reduceMul])) | apply cond2_intro | with_reducible apply And.intro | intro h)

theorem rCreOkC {t : Types} (hfew : ∀ n ∈ t.nodes, n.attrs.length ≤ 30) {r : Rul} (h : ruleF t r = 0) : Con Tryz.prog 22 [dTypes t, dRule r] (.tup [nInts (createdF r).nodes, nInts (createdF r).edges, .int .i64 0]) := by
  have q : (ruleF t r != 0) = false := by simpa using h
  obtain ⟨⟨gl1, gl2⟩, ⟨gr1, gr2⟩, _⟩ := ruleF_lens h
  have hd := rCreatedC (r := r) (by omega) (by omega)
  refine ConC.con (ent _ Tryz.func22 rfl rfl) (con_of_body env Tryz.func22 rfl (nt := 23) (rs := [.tmp 4, .tmp 5, .tmp 6]) rfl rfl (Nat.le_of_ble_eq_true rfl) fun hok => ?_)
  repeat' (first | (first | (refine AWP.go env ?_; intro K fin; try simp +decide (maxSteps := 4000000) only [q, go_sem, Nat.reduceAdd, Nat.reduceMul]) | refine Kt.h _ _ ?_ | refine Ft.k (by decide +kernel) ?_ | ((first | refine ⟨_, rRuleC hfew (r := r), ?_⟩ | refine ⟨_, hd, ?_⟩); simp +decide (maxSteps := 4000000) only [q, go_sem, Nat.reduceAdd, Nat.reduceMul])) | apply cond2_intro | with_reducible apply And.intro | intro h)

theorem equalPrC {a b : List (Int × Int)} : Con Tryz.prog 26 [dPrs a, dPrs b] (.bool (a == b)) := by
  by_cases hl : a.length = b.length
  case neg =>
    have q : ((a.length : Int) != (b.length : Int)) = true := by simpa using fun h => hl (by omega)
    have hF : (a == b) = false := by rw [beq_eq_false_iff_ne]; intro h; exact hl (by rw [h])
    rw [hF]
    refine ConC.con (ent _ Tryz.func26 rfl rfl) (con_of_body env Tryz.func26 rfl (nt := 26) (rs := [.tmp 4]) rfl rfl (Nat.le_of_ble_eq_true rfl) fun hok => ?_)
    repeat' (first | (first | (refine AWP.go env ?_; intro K fin; try simp +decide (maxSteps := 4000000) only [q, go_sem, Nat.reduceAdd, Nat.reduceMul]) | refine Kt.h _ _ ?_ | refine Ft.k (by decide +kernel) ?_ | ((first | refine ⟨_, rRuleC hfew (r := r), ?_⟩ | refine ⟨_, hd, ?_⟩); simp +decide (maxSteps := 4000000) only [q, go_sem, Nat.reduceAdd, Nat.reduceMul])) | apply cond2_intro | with_reducible apply And.intro | intro h)
  have q : ((a.length : Int) != (b.length : Int)) = false := by simp [hl]
  refine ConC.con (ent _ Tryz.func26 rfl rfl) (con_of_body env Tryz.func26 rfl (nt := 26) (rs := [.tmp 4]) rfl rfl (Nat.le_of_ble_eq_true rfl) fun hok => ?_)
  have hla : a.length ≤ 140737488355328 := by simpa using (hok (dPrs a) (by simp)).len
  repeat' (first | (first | (refine AWP.go env ?_; intro K fin; try simp +decide (maxSteps := 4000000) only [q, go_sem, Nat.reduceAdd, Nat.reduceMul]) | refine Kt.h _ _ ?_ | refine Ft.k (by decide +kernel) ?_ | ((first | refine ⟨_, rRuleC hfew (r := r), ?_⟩ | refine ⟨_, hd, ?_⟩); simp +decide (maxSteps := 4000000) only [q, go_sem, Nat.reduceAdd, Nat.reduceMul])) | apply cond2_intro | with_reducible apply And.intro | intro h)
  refine AWP.lp (α := {k : Nat // k ≤ a.length ∧ a.take k = b.take k})
    (fun w => ⟨26, [(0, dPrs a), (1, dPrs b), (12, .int .i64 a.length), (13, .int .i64 w.1)], []⟩) (fun w => a.length - w.1) ⟨0, by omega, rfl⟩ (by simp +decide (maxSteps := 4000000) only [go_sem, Nat.reduceAdd, Nat.reduceMul]; try simp) fun w K => ?_
  obtain ⟨k, hk, hinv⟩ := w
  by_cases hkn : k = a.length
  · have hn2 : ((k : Int) < (a.length : Int)) = False := by simp [hkn]
    have hF : (a == b) = true := by
      rw [beq_iff_eq]
      rw [hkn, List.take_length, hl, List.take_length] at hinv; exact hinv
    repeat' (first | (first | (refine AWP.go env ?_; intro K fin; try simp +decide (maxSteps := 4000000) only [hn2, hF, go_sem, Nat.reduceAdd, Nat.reduceMul]) | refine Kt.h _ _ ?_ | refine Ft.k (by decide +kernel) ?_ | ((first | refine ⟨_, rRuleC hfew (r := r), ?_⟩ | refine ⟨_, hd, ?_⟩); simp +decide (maxSteps := 4000000) only [hn2, hF, go_sem, Nat.reduceAdd, Nat.reduceMul])) | apply cond2_intro | with_reducible apply And.intro | intro h)
  · have hn2 : ((k : Int) < (a.length : Int)) = True := by simp; omega
    have hka : k < a.length := by omega
    have hkb : k < b.length := by omega
    have hg1 : getR (a.map rPr) k = [.int .i64 (a[k]).1, .int .i64 (a[k]).2] := by rw [getR_map _ _ _ hka]; try rfl
    have hg2 : getR (b.map rPr) k = [.int .i64 (b[k]).1, .int .i64 (b[k]).2] := by rw [getR_map _ _ _ hkb]; try rfl
    have v3 : IntKind.i64.wrap ((k : Int) + 1) = ((k + 1 : Nat) : Int) := by rw [wrap64 (by omega) (by omega)]; try rfl
    by_cases he : a[k] = b[k]
    · have he' : ((a[k]).1 == (b[k]).1 && (a[k]).2 == (b[k]).2) = true := by rw [he]; simp
      repeat' (first | (first | (refine AWP.go env ?_; intro K fin; try simp +decide (maxSteps := 4000000) only [hn2, hg1, hg2, v3, he', go_sem, Nat.reduceAdd, Nat.reduceMul]) | refine Kt.h _ _ ?_ | refine Ft.k (by decide +kernel) ?_ | ((first | refine ⟨_, rRuleC hfew (r := r), ?_⟩ | refine ⟨_, hd, ?_⟩); simp +decide (maxSteps := 4000000) only [hn2, hg1, hg2, v3, he', go_sem, Nat.reduceAdd, Nat.reduceMul])) | apply cond2_intro | with_reducible apply And.intro | intro h)
      all_goals try omega
      all_goals try (simp only [List.mem_cons, List.not_mem_nil, or_false] at h; (repeat' (first | (subst h; rfl) | rcases h with h | h)))
      refine ⟨⟨k + 1, by omega, ?_⟩, by simp; omega, by simp +decide (maxSteps := 4000000) only [go_sem, Nat.reduceAdd, Nat.reduceMul]; try simp⟩
      rw [List.take_succ_eq_append_getElem hka, List.take_succ_eq_append_getElem hkb, hinv, he]
    · have he' : ((a[k]).1 == (b[k]).1 && (a[k]).2 == (b[k]).2) = false := by
        rw [← Bool.not_eq_true]; intro h; exact he (by simpa [Prod.ext_iff] using h)
      have hF : (a == b) = false := by
        rw [beq_eq_false_iff_ne]; intro h; subst h; exact he rfl
      repeat' (first | (first | (refine AWP.go env ?_; intro K fin; try simp +decide (maxSteps := 4000000) only [hn2, hg1, hg2, v3, he', hF, go_sem, Nat.reduceAdd, Nat.reduceMul]) | refine Kt.h _ _ ?_ | refine Ft.k (by decide +kernel) ?_ | ((first | refine ⟨_, rRuleC hfew (r := r), ?_⟩ | refine ⟨_, hd, ?_⟩); simp +decide (maxSteps := 4000000) only [hn2, hg1, hg2, v3, he', hF, go_sem, Nat.reduceAdd, Nat.reduceMul])) | apply cond2_intro | with_reducible apply And.intro | intro h)
      all_goals try omega
      all_goals try (simp only [List.mem_cons, List.not_mem_nil, or_false] at h; (repeat' (first | (subst h; rfl) | rcases h with h | h)))

theorem eqNil : Con Tryz.prog 25 [.nil, .nil] (.bool true) := (equalIntC (a := []) (b := [])).leW 9 rfl (by decide +kernel)
theorem eqNilP : Con Tryz.prog 26 [.nil, .nil] (.bool true) := (equalPrC (a := []) (b := [])).leW 9 rfl (by decide +kernel)
theorem eqRefl {a : List Int} : Con Tryz.prog 25 [dInts a, dInts a] (.bool true) := by have h := equalIntC (a := a) (b := a); rwa [BEq.rfl] at h
theorem eqReflP {a : List (Int × Int)} : Con Tryz.prog 26 [dPrs a, dPrs a] (.bool true) := by have h := equalPrC (a := a) (b := a); rwa [BEq.rfl] at h

theorem lawRuleParts {t : Types} {r : Rul} : Con Tryz.prog 5 [dTypes t, dRule r] (.bool true) := by
  by_cases hf : (fewTB t && fewR r) = true
  case neg =>
    have hf : (fewTB t && fewR r) = false := by simpa using hf
    refine ConC.con (ent _ Tryz.func5 rfl rfl) (con_of_body env Tryz.func5 rfl (nt := 117) (rs := [.tmp 4]) rfl rfl (Nat.le_of_ble_eq_true rfl) fun hok => ?_)
    repeat' (first | (first | (refine AWP.go env ?_; intro K fin; try simp +decide (maxSteps := 4000000) only [hf, go_sem, Nat.reduceAdd, Nat.reduceMul]) | refine Kt.h _ _ ?_ | refine Ft.k (by decide +kernel) ?_ | ((first | refine ⟨_, awakeC, ?_⟩ | refine ⟨_, fewLC (t := t) (r := r), ?_⟩ | refine ⟨_, h1, ?_⟩ | refine ⟨_, h2, ?_⟩ | refine ⟨_, h3, ?_⟩ | refine ⟨_, h4, ?_⟩ | refine ⟨_, h5, ?_⟩ | refine ⟨_, h6, ?_⟩ | refine ⟨_, eqNil, ?_⟩ | refine ⟨_, eqNilP, ?_⟩ | refine ⟨_, eqRefl, ?_⟩ | refine ⟨_, eqReflP, ?_⟩); simp +decide (maxSteps := 4000000) only [hf, go_sem, Nat.reduceAdd, Nat.reduceMul])) | apply cond2_intro | with_reducible apply And.intro | intro h)
  have hfew := fewT_attrs (fewTB_iff.1 (Bool.and_eq_true _ _ ▸ hf).1)
  by_cases h : ruleF t r = 0
  · have h1 := DeletedOkC h
    have h2 := rDelOkC hfew h
    have h3 := CreatedOkC h
    have h4 := rCreOkC hfew h
    have h5 := KeptOkC h
    have h6 := rKeptOkC hfew h
    refine ConC.con (ent _ Tryz.func5 rfl rfl) (con_of_body env Tryz.func5 rfl (nt := 117) (rs := [.tmp 4]) rfl rfl (Nat.le_of_ble_eq_true rfl) fun hok => ?_)
    repeat' (first | (first | (refine AWP.go env ?_; intro K fin; try simp +decide (maxSteps := 4000000) only [hf, go_sem, Nat.reduceAdd, Nat.reduceMul]) | refine Kt.h _ _ ?_ | refine Ft.k (by decide +kernel) ?_ | ((first | refine ⟨_, awakeC, ?_⟩ | refine ⟨_, fewLC (t := t) (r := r), ?_⟩ | refine ⟨_, h1, ?_⟩ | refine ⟨_, h2, ?_⟩ | refine ⟨_, h3, ?_⟩ | refine ⟨_, h4, ?_⟩ | refine ⟨_, h5, ?_⟩ | refine ⟨_, h6, ?_⟩ | refine ⟨_, eqNil, ?_⟩ | refine ⟨_, eqNilP, ?_⟩ | refine ⟨_, eqRefl, ?_⟩ | refine ⟨_, eqReflP, ?_⟩); simp +decide (maxSteps := 4000000) only [hf, go_sem, Nat.reduceAdd, Nat.reduceMul])) | apply cond2_intro | with_reducible apply And.intro | intro h)
    all_goals try contradiction
    all_goals simp_all
  · have h1 := DeletedErrC h
    have h2 := rDelErrC hfew h
    have h3 := CreatedErrC h
    have h4 := rCreErrC hfew h
    have h5 := KeptErrC h
    have h6 := rKeptErrC hfew h
    refine ConC.con (ent _ Tryz.func5 rfl rfl) (con_of_body env Tryz.func5 rfl (nt := 117) (rs := [.tmp 4]) rfl rfl (Nat.le_of_ble_eq_true rfl) fun hok => ?_)
    repeat' (first | (first | (refine AWP.go env ?_; intro K fin; try simp +decide (maxSteps := 4000000) only [hf, go_sem, Nat.reduceAdd, Nat.reduceMul]) | refine Kt.h _ _ ?_ | refine Ft.k (by decide +kernel) ?_ | ((first | refine ⟨_, awakeC, ?_⟩ | refine ⟨_, fewLC (t := t) (r := r), ?_⟩ | refine ⟨_, h1, ?_⟩ | refine ⟨_, h2, ?_⟩ | refine ⟨_, h3, ?_⟩ | refine ⟨_, h4, ?_⟩ | refine ⟨_, h5, ?_⟩ | refine ⟨_, h6, ?_⟩ | refine ⟨_, eqNil, ?_⟩ | refine ⟨_, eqNilP, ?_⟩ | refine ⟨_, eqRefl, ?_⟩ | refine ⟨_, eqReflP, ?_⟩); simp +decide (maxSteps := 4000000) only [hf, go_sem, Nat.reduceAdd, Nat.reduceMul])) | apply cond2_intro | with_reducible apply And.intro | intro h)
    all_goals try contradiction
    all_goals simp_all
end Go.Abs
/- RuleParts holds of every input. Its row, out of the contract of its function. -/
namespace Go.Proofs.YticiiadkpddgoaaGreat.ruleParts
open Go Go.Abs Go.ChangeShapes Go.WideShapes Go.ChangeAt Go.RowKit
set_option linter.unusedVariables false
theorem own : ownKnob Tryz.prog.godebug = none := by kernel_rfl
theorem laidOut : laidOutB Tryz.prog = true := by kernel_rfl
set_option maxRecDepth 100000 in
theorem lifted (os : Os) (started : os.Started) (H : Type) (enc : TypeId × Value → H) :
    ReturnsInHanded {} Tryz.checked os 5 .any (Rows.rulePartsSpec.pre6 enc Tryz.prog Tryz.f5 Rows.rulePartsRow.domain false) (Rows.rulePartsSpec.post enc Tryz.prog Tryz.f5 false true false false) := by
  refine returnsInHanded_of_change_sized (C := Tryz.checked) own started (by kernel_rfl) Tryz.func5
    (ChangeSpec.witness6 (enc := enc) (C := Tryz.checked) false ⟨#[], #[.agg #[.slice none 0 0, .slice none 0 0], .agg #[.string ByteArray.empty, .slice none 0 0, .slice none 0 0, .slice none 0 0, .int .i64 0, .slice none 0 0, .slice none 0 0, .slice none 0 0, .slice none 0 0, .int .i64 0, .slice none 0 0, .slice none 0 0, .slice none 0 0, .slice none 0 0, .slice none 0 0, .bool false, .int .i64 0, .slice none 0 0, .slice none 0 0, .slice none 0 0, .slice none 0 0, .slice none 0 0, .slice none 0 0, .int .i64 0, .slice none 0 0]], []⟩ 8 (by kernel_rfl) (by kernel_rfl) (by kernel_rfl) (by kernel_rfl)) ?_
  intro W base args ds gs before hval0 hW hcnd hsz0 _
  have hsz : (DataW.weightsEach Tryz.prog (Tryz.f5.params.toList ++ Rows.rulePartsSpec.plain.varTypes Tryz.prog) (ds ++ gs)).all (· ≤ reachBytes) = true := hsz0
  have hval : ∀ (j : Nat) t v, Tryz.f5.params[j]? = some t → args[j]? = some v → Value.okWide Tryz.prog W .any base t v := hval0
  have hW' := hW
  obtain ⟨p, q, hA0, hV, rfl, hfz, hnd⟩ := hW
  have hA : DataW.TrodAll enc Tryz.prog W 0 (fun _ => true) true Tryz.f5.params.toList args.toList ds p := hA0
  rw [Tryz.params5] at hA hval hsz
  obtain ⟨v0, vs0, d0, ds0, p0, q0, hargs, rfl, rfl, h0, r0⟩ := trodAll_cons hA
  obtain ⟨v1, vs1, d1, ds1, p1, q1, rfl, rfl, rfl, h1, r1⟩ := trodAll_cons r0
  obtain ⟨rfl, rfl, rfl⟩ := trodAll_nil r1
  obtain rfl : args = #[v0, v1] := by cases args; simp_all
  obtain ⟨rfl, rfl⟩ := trodVars_none hV
  have hwt := List.all_eq_true.1 hsz
  have k0 := h0
  have lt0 : ∀ x ∈ p0, x.block < W.heap.size := by obtain ⟨m, hm⟩ := k0; exact DataW.trod_lt m _ _ _ hm
  have w0 : ∀ n ∈ d0.weights Tryz.prog 25, n ≤ reachBytes := fun n hn => of_decide_eq_true (hwt n (weights_each _ _ rfl 0 25 d0 rfl rfl n hn))
  obtain ⟨cs0, sh0, e0⟩ := arg_struct tok covSR (by decide) Tryz.underlying25 (hval 0 25 v0 rfl rfl) h0 w0
  obtain ⟨x0, rfl⟩ := sh_Types sh0
  have k1 := h1
  have lt1 : ∀ x ∈ p1, x.block < W.heap.size := by obtain ⟨m, hm⟩ := k1; exact DataW.trod_lt m _ _ _ hm
  have w1 : ∀ n ∈ d1.weights Tryz.prog 41, n ≤ reachBytes := fun n hn => of_decide_eq_true (hwt n (weights_each _ _ rfl 1 41 d1 rfl rfl n hn))
  obtain ⟨cs1, sh1, e1⟩ := arg_struct tok covSR (by decide) Tryz.underlying41 (hval 1 41 v1 rfl rfl) h1 w1
  obtain ⟨x1, rfl⟩ := sh_Rule sh1
  clear hA0 hval0 hsz0 hsz
  refine (Con.calls_true (ent _ Tryz.func5 rfl rfl) (lawRuleParts (t := x0) (r := x1)) rfl rfl fun i hi => ?_).mono fun e W' ⟨he, bel⟩ => ?_
  · match i, hi with
    | 0, _ => exact e0
    | 1, _ => exact e1
  subst he
  exact ⟨_, rfl, _, _, _, [], _, [], hW', trodAll_mk1 (shut_bool Tryz.underlying4 _), (trodAll_cons_mk (Below.trod laidOut (by kernel_rfl) (of_decide_eq_true (by kernel_rfl)) k0 bel lt0) (trodAll_cons_mk (Below.trod laidOut (by kernel_rfl) (of_decide_eq_true (by kernel_rfl)) k1 bel lt1) trodAll_mk0)), rfl, bel.frame _, fun h => by cases h⟩
/-- The functions that it leads to. -/
theorem clo : Tryz.prog.closure 5 = [5, 12, 43, 44, 19, 14, 46, 105, 47, 107, 185, 245, 246, 247, 248, 249, 287, 250, 286, 294, 251, 288, 295, 178, 177, 240, 179, 180, 242, 241, 285, 243, 106, 181, 183, 182, 244, 184, 48, 91, 108, 186, 158, 159, 160, 161, 110, 187, 109, 111, 112, 113, 188, 197, 255, 252, 114, 189, 253, 115, 190, 49, 116, 191, 192, 117, 194, 193, 254, 50, 92, 162, 229, 278, 279, 163, 224, 277, 230, 86, 93, 118, 195, 87, 156, 227, 228, 155, 218, 219, 272, 220, 273, 274, 221, 275, 276, 292, 222, 223, 225, 226, 233, 51, 119, 196, 141, 52, 120, 121, 122, 198, 256, 289, 53, 123, 199, 257, 258, 290, 259, 200, 124, 201, 260, 64, 21, 16, 63, 139, 65, 140, 215, 66, 25, 13, 45, 32, 88, 36, 89, 37, 90, 157, 20, 15, 54, 125, 55, 127, 206, 207, 262, 263, 264, 265, 266, 202, 203, 204, 261, 126, 205, 56, 94, 164, 165, 128, 129, 148, 210, 130, 131, 208, 267, 132, 57, 133, 58, 134, 209, 268, 269, 80, 151, 135, 59, 60, 70, 144, 61, 136, 175, 62, 137, 211, 270, 291, 212, 138, 213, 271, 214, 68, 22, 23, 76, 24, 77, 26] := by kernel_rfl
theorem unf : Tryz.prog.unfollowed 5 = true := by unfold Program.unfollowed; rw [clo]; kernel_rfl
theorem and2 {a b : Bool} (h : a = true) (k : b = true) : (a && b) = true := by rw [h, k]; try rfl
theorem fact0 : Rows.rulePartsRow.wf (OpenSpec.ofChange Rows.rulePartsSpec) = true := by kernel_rfl
theorem fact1 : laidOutB Tryz.prog = true := by kernel_rfl
theorem fact2 : mapsRowed Tryz.prog = true := by kernel_rfl
theorem fact3 : Tryz.f5.params.all (Tryz.prog.readableRec ·) = true := by kernel_rfl
theorem fact4 : namedTie Tryz.prog Rows.rulePartsRow.named Rows.rulePartsSpec.vars = true := by kernel_rfl
theorem fact5 : (Rows.rulePartsRow.stops == []) = true := by kernel_rfl
theorem fact6 : (Tryz.prog.stops == []) = true := by kernel_rfl
theorem fact7 : (Rows.rulePartsRow.knobs == []) = true := by kernel_rfl
theorem fact8 : (Tryz.prog.stopKnobs == []) = true := by kernel_rfl
theorem fact9 : (Rows.rulePartsRow.inPlace == Tryz.prog.inPlace 5) = true := by unfold Program.inPlace; rw [clo]; kernel_rfl
theorem fact10 : (Rows.rulePartsRow.unfollowed == Tryz.prog.unfollowed 5) = true := by rw [unf]; kernel_rfl
theorem fact11 : (Rows.rulePartsRow.recurses == Tryz.prog.recurses 5) = true := by unfold Program.recurses; rw [unf]; kernel_rfl
theorem fact12 : (Rows.rulePartsRow.named == Tryz.prog.varsNamed 5) = true := by unfold Program.varsNamed; rw [clo]; kernel_rfl
theorem fact13 : (Rows.rulePartsRow.maps == (Tryz.f5.params.toList ++ Rows.rulePartsSpec.plain.varTypes Tryz.prog).any (Tryz.prog.mapsRec ·)) = true := by kernel_rfl
theorem fact14 : (Rows.rulePartsRow.ifaces == (Tryz.f5.params.toList ++ Rows.rulePartsSpec.plain.varTypes Tryz.prog).any (Tryz.prog.ifacesRec ·)) = true := by kernel_rfl
theorem fact15 : (Rows.rulePartsRow.mapsOut == Tryz.prog.mapsAmong Tryz.f5.resultTypes.toList) = true := by kernel_rfl
theorem fact16 : (Rows.rulePartsRow.loops == (Tryz.f5.params.toList ++ Rows.rulePartsSpec.plain.varTypes Tryz.prog).any (Tryz.prog.loopsFrom ·)) = true := by kernel_rfl
theorem fact17 : (Rows.rulePartsRow.wideKeys == (Tryz.f5.params.toList ++ Rows.rulePartsSpec.plain.varTypes Tryz.prog ++ Tryz.f5.resultTypes.toList).any (Tryz.prog.wideKeysFrom ·)) = true := by kernel_rfl
theorem fact18 : Rows.rulePartsSpec.vars.all (Tryz.prog.varReadable ·) = true := by kernel_rfl
theorem fact19 : Tryz.f5.resultTypes.all (fun t => Tryz.prog.readableRec t && decide (t < Tryz.prog.types.size)) = true := by kernel_rfl
theorem fact20 : (Rows.rulePartsRow.ifacesOut == Tryz.f5.resultTypes.toList.any (Tryz.prog.ifacesRec ·)) = true := by kernel_rfl
theorem fact21 : (Rows.rulePartsRow.loopsOut == Tryz.f5.resultTypes.toList.any (Tryz.prog.loopsFrom ·)) = true := by kernel_rfl
theorem fact22 : (Rows.rulePartsRow.plainKeys == Tryz.prog.plainKeys) = true := by kernel_rfl
theorem fact23 : Rows.rulePartsRow.shortTexts.isNone = true := by kernel_rfl
theorem fact24 : Tryz.prog.stopsHeard = true := by kernel_rfl
theorem fact25 : Tryz.prog.mayEnter = true := by kernel_rfl
theorem fact26 : (Rows.rulePartsRow.lifted == Tryz.prog.liftsFinal) = true := by kernel_rfl
theorem fact27 : (Tryz.prog.make == some Rows.rulePartsRow.make) = true := by kernel_rfl
theorem fact29 : (Rows.rulePartsRow.pinned == Rows.rulePartsRow.pinnedBy) = true := by kernel_rfl
theorem fact30 : (Rows.rulePartsRow.veiled == (Tryz.f5.params.toList ++ Rows.rulePartsSpec.plain.varTypes Tryz.prog ++ Tryz.f5.resultTypes.toList).any (Tryz.prog.veiledRec ·)) = true := by kernel_rfl
theorem fact31 : Rows.rulePartsRow.veiledFits Tryz.prog Tryz.f5.params.toList (Tryz.f5.params.toList ++ Rows.rulePartsSpec.plain.varTypes Tryz.prog ++ Tryz.f5.resultTypes.toList) = true := by kernel_rfl
theorem facts : joinedFacts Tryz.prog 5 Tryz.f5 Rows.rulePartsSpec Rows.rulePartsRow = true := by
  unfold joinedFacts
  exact (and2 (and2 (and2 (and2 (and2 (and2 (and2 (and2 (and2 (and2 (and2 (and2 (and2 (and2 (and2 (and2 (and2 (and2 (and2 (and2 (and2 (and2 (and2 (and2 (and2 (and2 (and2 (and2 (and2 (and2 (and2 fact0 fact1) fact2) fact3) fact4) fact5) fact6) fact7) fact8) fact9) fact10) fact11) fact12) fact13) fact14) fact15) fact16) fact17) fact18) fact19) fact20) fact21) fact22) fact23) fact24) fact25) fact26) fact27) (by kernel_rfl)) fact29) fact30) fact31)
theorem named : Tryz.pinned.checked.prog.funcNamed Rows.rulePartsRow.func = some 5 := by kernel_rfl
theorem over : Rows.rulePartsRow.holds Tryz.pinned (OpenSpec.ofChange Rows.rulePartsSpec) :=
  OpenClaim.holds_of_wide 5 Tryz.f5 rfl rfl rfl rfl rfl rfl rfl ⟨rfl, rfl, rfl, rfl, rfl⟩ rfl rfl rfl rfl rfl named Tryz.func5 facts
    (of_decide_eq_true (by kernel_rfl)) (by unfold Func.isWrapper; first | (rw [if_pos (by decide +kernel)]; kernel_rfl) | (rw [if_neg (by decide +kernel)]; exact ⟨rfl, rfl⟩))
    (fun os started H enc _ => lifted os started H enc)
theorem proved : Rows.RulePartsSaid := over
#print axioms proved
end Go.Proofs.YticiiadkpddgoaaGreat.ruleParts
namespace Go.Proofs.YticiiadkpddgoaaGreat
/-- The statement. -/
theorem ruleParts_holds : Rows.RulePartsSaid := ruleParts.proved
end Go.Proofs.YticiiadkpddgoaaGreat

