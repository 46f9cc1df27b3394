/- RulePlain holds of every input. Its row, out of the contract of its function. -/
import Derived.Test.YticiiadkpddgoaaGreatMBZ
import Derived.Test.YticiiadkpddgoaaGreatRows
import Derived.WalkKit
import Derived.ProofKit
import Derived.OpenShut
import Derived.ShutString
import Derived.ChangeOld
import Derived.Below
import Derived.SizedLaws
import Derived.Carry
import Derived.JoinedOf
/- The plain law of the inverse: what is left over of what is left over is the list in order; the place of a number in a list. -/
set_option linter.unusedSimpArgs false
set_option linter.unusedVariables false
namespace Go.Abs
open Go Go.RowKit Go.Proofs

theorem hasF_mem {l : List Int} {x : Int} : hasF l x = true ↔ x ∈ l := by unfold hasF; simp

theorem othersF_mem {l : List Int} {n : Nat} {x : Int} : x ∈ othersF l n ↔ (0 ≤ x ∧ x < n) ∧ x ∉ l := by
  unfold othersF
  simp only [List.mem_map, List.mem_filter, List.mem_range, Bool.not_eq_true', ← Bool.not_eq_true, hasF_mem]
  constructor
  · rintro ⟨i, ⟨h1, h2⟩, rfl⟩; exact ⟨by omega, h2⟩
  · rintro ⟨h1, h2⟩; exact ⟨x.toNat, ⟨by omega, by rwa [show ((x.toNat : Nat) : Int) = x by omega]⟩, by omega⟩

theorem othersF_lt {l : List Int} {n : Nat} : (othersF l n).Pairwise (· < ·) := by
  unfold othersF
  rw [List.pairwise_map]
  exact ((List.pairwise_lt_range (n := n)).sublist List.filter_sublist).imp fun h => by omega

theorem nodup_of_lt {l : List Int} (h : l.Pairwise (· < ·)) : l.Nodup := h.imp fun h => by omega

theorem sortF_le (l : List Int) : (sortF l).Pairwise (· ≤ ·) := by
  have := List.pairwise_mergeSort (le := fun x y : Int => decide (x ≤ y)) (fun a b c h1 h2 => by simp at *; omega) (fun a b => by simp; omega) l
  exact this.imp fun h => by simpa using h

theorem sortF_perm (l : List Int) : (sortF l).Perm l := List.mergeSort_perm ..

theorem others_others {l : List Int} {n : Nat} (hd : l.Nodup) (hr : ∀ x ∈ l, 0 ≤ x ∧ x < n) : othersF (othersF l n) n = sortF l := by
  refine List.Perm.eq_of_pairwise (le := fun a b : Int => a ≤ b) (fun a b _ _ h1 h2 => by omega) (othersF_lt.imp fun h => by omega) (sortF_le l) ?_
  refine (List.perm_ext_iff_of_nodup (nodup_of_lt othersF_lt) ((sortF_perm l).nodup_iff.2 hd)).2 fun x => ?_
  rw [othersF_mem, othersF_mem, (sortF_perm l).mem_iff]
  constructor
  · rintro ⟨h1, h2⟩
    by_cases h : x ∈ l
    · exact h
    · exact absurd ⟨h1, h⟩ h2
  · intro h; exact ⟨hr x h, fun h2 => h2.2 h⟩

theorem idxF_get : ∀ {l : List Int} {n : Int}, n ∈ l → l.getD (idxF (fun x => n == x) l).toNat 0 = n
  | [], n, h => by cases h
  | y :: r, n, h => by
    by_cases hy : n = y
    · simp [idxF, hy]
    · have hr : n ∈ r := by simpa [hy] using h
      have hb := idxF_mem hr
      have ih := idxF_get hr
      have hy2 : (n == y) = false := by simp [hy]
      have hlt : decide (idxF (fun x => n == x) r < 0) = false := by simp; omega
      simp only [idxF, hy2, hlt, cond_false]
      rw [show (idxF (fun x => n == x) r + 1).toNat = (idxF (fun x => n == x) r).toNat + 1 by omega]
      simpa using ih

/-- The elements of the first list at the places where the second has a number, as far as k. -/
def backG (s im : List Int) (n : Int) (k : Nat) : List Int := ((List.range k).filter fun j : Nat => im.getD j 0 == n).map fun j : Nat => s.getD j 0
def backAll (s im ins : List Int) : List Int := ins.flatMap fun n => backG s im n im.length

theorem backG_succ {s im : List Int} {n : Int} {k : Nat} : backG s im n (k + 1) = backG s im n k ++ if im.getD k 0 = n then [s.getD k 0] else [] := by
  unfold backG
  rw [List.range_succ, List.filter_append, List.map_append, List.filter_cons, List.filter_nil]
  by_cases h : im.getD k 0 = n
  · rw [if_pos (by simpa only [beq_iff_eq] using h), if_pos h]; try rfl
  · rw [if_neg (by simpa only [beq_iff_eq] using h), if_neg h]; try rfl

theorem backG_len {s im : List Int} {n : Int} {k : Nat} : (backG s im n k).length ≤ k := by
  unfold backG; rw [List.length_map]; exact Nat.le_trans (List.length_filter_le _ _) (by simp)

theorem backAll_len {s im : List Int} : ∀ {ins : List Int}, (backAll s im ins).length ≤ ins.length * im.length
  | [] => by simp [backAll]
  | n :: r => by
    have h1 := @backG_len s im n im.length
    have h2 := @backAll_len s im r
    unfold backAll at h2 ⊢
    rw [List.flatMap_cons, List.length_append, List.length_cons, Nat.succ_mul]
    omega

theorem backG_one {s im : List Int} {n : Int} (hd : im.Nodup) (hm : n ∈ im) : backG s im n im.length = [turnAt s im n] := by
  have hb := idxF_mem hm
  have hg := idxF_get hm
  unfold backG turnAt
  generalize hj : (idxF (fun x => n == x) im).toNat = j at hg
  have hjl : j < im.length := by omega
  have : (List.range im.length).filter (fun i : Nat => im.getD i 0 == n) = (List.range im.length).filter (· == j) := by
    refine List.filter_congr fun i hi => ?_
    have hi' := List.mem_range.1 hi
    rw [List.getD_eq_getElem?_getD, List.getElem?_eq_getElem hi', Option.getD_some, Bool.eq_iff_iff, beq_iff_eq, beq_iff_eq]
    rw [List.getD_eq_getElem?_getD, List.getElem?_eq_getElem hjl, Option.getD_some] at hg
    constructor
    · intro h
      exact (List.getElem_inj (h₀ := hi') (h₁ := hjl) hd).1 (h.trans hg.symm)
    · rintro rfl; exact hg
  rw [this, List.filter_beq, List.Nodup.count List.nodup_range]
  simp [hjl]

theorem backAll_eq {s im ins : List Int} (hd : im.Nodup) : (∀ n ∈ ins, n ∈ im) → backAll s im ins = ins.map (turnAt s im) := by
  induction ins with
  | nil => intro _; rfl
  | cons n r ih =>
    intro hm
    have h1 := ih fun x hx => hm x (by simp [hx])
    unfold backAll at h1 ⊢
    rw [List.flatMap_cons, h1, backG_one hd (hm n (by simp))]; try rfl

theorem zip_all {X : Type} : ∀ {a : List X} {b : List Int} {P : Int → Prop}, b.length = a.length → (∀ x ∈ a.zip b, P x.2) → ∀ y ∈ b, P y
  | [], [], _, _, _, y, hy => by cases hy
  | x :: a, c :: b, P, hl, h, y, hy => by
    rcases List.mem_cons.1 hy with rfl | hy
    · exact h (x, y) (by simp)
    · exact zip_all (a := a) (by simpa using hl) (fun x hx => h x (by simp [hx])) y hy
  | [], _ :: _, _, hl, _, _, _ => by simp at hl
  | _ :: _, [], _, hl, _, y, hy => by cases hy

theorem morF_range {a b : Graph} {m : Two} (h : morF a b m = 0) : (∀ x ∈ m.nodes, 0 ≤ x ∧ x < b.nodes.length) ∧ ∀ x ∈ m.edges, 0 ≤ x ∧ x < b.edges.length := by
  obtain ⟨l1, l2⟩ := morF_lens h
  unfold morF at h
  split at h
  · rename_i h1; exact absurd h h1
  split at h
  · rename_i h1; exact absurd h h1
  split at h
  · cases h
  split at h
  · rename_i h1; exact absurd h h1
  rename_i h1
  have h1 : firstErr (morNodeF b) (a.nodes.zip m.nodes) = 0 := by simpa using h1
  refine ⟨zip_all l1 fun x hx => ?_, zip_all l2 fun x hx => ?_⟩
  · have := firstErr_ok h1 x hx
    unfold morNodeF at this
    split at this
    · cases this
    · omega
  · have := firstErr_ok h x hx
    unfold morEdgeF at this
    split at this
    · cases this
    · omega

/-- The specification's inverse, out of the same rule. -/
def rInverseF (r : Rul) : Rul :=
  ⟨r.name, ⟨r.right.graph, [], 0, []⟩, ⟨r.left.graph, [], 0, []⟩, ⟨othersF (createdF r).nodes r.right.graph.nodes.length, othersF (createdF r).edges r.right.graph.edges.length⟩,
    ⟨backAll r.keep.nodes r.into.nodes (othersF (createdF r).nodes r.right.graph.nodes.length), backAll r.keep.edges r.into.edges (othersF (createdF r).edges r.right.graph.edges.length)⟩, r.inj, trueCond⟩

theorem rInverseF_eq {r : Rul} (h : keptF r = 0) : rInverseF r = inverseF r := by
  obtain ⟨_, h2, h3, h4⟩ := keptF_ok h
  obtain ⟨r1, r2⟩ := morF_range h2
  have d1 : r.into.nodes.Nodup := by simpa [distF] using h3
  have d2 : r.into.edges.Nodup := by simpa [distF] using h4
  have e1 : othersF (createdF r).nodes r.right.graph.nodes.length = sortF r.into.nodes := others_others d1 r1
  have e2 : othersF (createdF r).edges r.right.graph.edges.length = sortF r.into.edges := others_others d2 r2
  unfold rInverseF inverseF
  rw [e1, e2, backAll_eq d1 fun n hn => (sortF_perm _).mem_iff.1 hn, backAll_eq d2 fun n hn => (sortF_perm _).mem_iff.1 hn]
  rfl
end Go.Abs
/- The inverse, of the specification. -/
set_option linter.unusedSimpArgs false
set_option linter.unusedVariables false
set_option maxRecDepth 20000
set_option maxHeartbeats 4000000
namespace Go.Abs
open Go Go.RowKit Go.Proofs
attribute [local irreducible] Con AWP

theorem rCopiedC {g : Graph} (h1 : g.nodes.length ≤ 1000000) (h2 : g.edges.length ≤ 1000000) : Con Tryz.prog 143 [dGraph g] (.agg [nInts g.nodes, nEdges g.edges]) := by
  refine ConC.con (ent _ Tryz.func143 rfl rfl) (con_of_body env Tryz.func143 rfl (nt := 12) (rs := [.cell 2 29]) rfl rfl (Nat.le_of_ble_eq_true rfl) fun hok => ?_)
  repeat' (first | (first | (refine AWP.go env ?_; intro K fin; try simp +decide (maxSteps := 4000000) only [go_sem, Nat.reduceAdd, Nat.reduceMul]) | refine Kt.h _ _ ?_ | refine Ft.k (by decide +kernel) ?_) | apply cond2_intro | with_reducible apply And.intro | intro h)
  all_goals try contradiction
  all_goals try (first | omega | (unfold lim; omega) | (simp; unfold lim; omega))

theorem rPlainRC {r : Rul} (hl1 : r.left.graph.nodes.length ≤ 1000000) (hl2 : r.left.graph.edges.length ≤ 1000000) (hr1 : r.right.graph.nodes.length ≤ 1000000) (hr2 : r.right.graph.edges.length ≤ 1000000)
    (hk1 : r.keep.nodes.length ≤ 1000000) (hk2 : r.keep.edges.length ≤ 1000000) (hi1 : r.into.nodes.length ≤ 1000000) (hi2 : r.into.edges.length ≤ 1000000) :
    Con Tryz.prog 69 [dRule r] (nPlain r) := by
  refine ConC.con (ent _ Tryz.func69 rfl rfl) (con_of_body env Tryz.func69 rfl (nt := 41) (rs := [.cell 2 41]) rfl rfl (Nat.le_of_ble_eq_true rfl) fun hok => ?_)
  repeat' (first | (first | (refine AWP.go env ?_; intro K fin; try simp +decide (maxSteps := 4000000) only [go_sem, Nat.reduceAdd, Nat.reduceMul]) | refine Kt.h _ _ ?_ | refine Ft.k (by decide +kernel) ?_ | ((first | refine ⟨_, rCopiedC hl1 hl2, ?_⟩ | refine ⟨_, rCopiedC hr1 hr2, ?_⟩); simp +decide (maxSteps := 4000000) only [go_sem, Nat.reduceAdd, Nat.reduceMul])) | apply cond2_intro | with_reducible apply And.intro | intro h)
  all_goals try contradiction
  all_goals try (first | omega | (unfold lim; omega) | (simp; unfold lim; omega))

theorem backC {s im ins : List Int} (hl : s.length = im.length) (h1 : im.length ≤ 1000) (h2 : ins.length ≤ 1000) : Con Tryz.prog 71 [dInts s, dInts im, dInts ins] (nInts (backAll s im ins)) := by
  have hlim : ∀ (a : List Int) (n : Int) (k : Nat), a.length ≤ 1000 → k ≤ im.length → (backAll s im a ++ backG s im n k).length ≤ 1001000 := fun a n k ha hk => by
    have q1 := @backAll_len s im a
    have q2 := @backG_len s im n k
    have : a.length * im.length ≤ 1000 * 1000 := Nat.mul_le_mul ha h1
    rw [List.length_append]; omega
  refine ConC.con (ent _ Tryz.func71 rfl rfl) (con_of_body env Tryz.func71 rfl (nt := 39) (rs := [.tmp 6]) rfl rfl (Nat.le_of_ble_eq_true rfl) fun hok => ?_)
  repeat' (first | (first | (refine AWP.go env ?_; intro K fin; try simp +decide (maxSteps := 4000000) only [go_sem, Nat.reduceAdd, Nat.reduceMul]) | refine Kt.h _ _ ?_ | refine Ft.k (by decide +kernel) ?_ | ((first | refine ⟨_, rCopiedC hl1 hl2, ?_⟩ | refine ⟨_, rCopiedC hr1 hr2, ?_⟩); simp +decide (maxSteps := 4000000) only [go_sem, Nat.reduceAdd, Nat.reduceMul])) | apply cond2_intro | with_reducible apply And.intro | intro h)
  refine AWP.weaken (Wk.nilOwn (n := 7) (id := 777) 3 1 (by simp +decide (maxSteps := 4000000) only [go_sem, Nat.reduceAdd, Nat.reduceMul]) (by simp +decide (maxSteps := 4000000) only [go_sem, Nat.reduceAdd, Nat.reduceMul])) ?_
  simp +decide (maxSteps := 4000000) only [go_sem, Nat.reduceAdd, Nat.reduceMul]
  refine AWP.lp (α := Nat × Way ins fun _ _ => True)
    (fun w => ⟨39, [(0, dInts s), (1, dInts im), (2, dInts ins), (7, .osl 777 w.1), (8, .int .i64 w.2.pre.length)],
      [(777, ⟨w.1, true, false, 1, 3, (backAll s im w.2.pre).map rI⟩)]⟩) (fun w => w.2.post.length) ⟨0, [], ins, rfl, trivial⟩ (by simp +decide (maxSteps := 4000000) only [go_sem, Nat.reduceAdd, Nat.reduceMul]; try simp [backAll]) fun w K => ?_
  obtain ⟨ver, a, b, hab, _⟩ := w
  cases b with
  | nil =>
    have hab : ins = a := by simpa using hab
    have hn2 : ((a.length : Int) < (ins.length : Int)) = False := by simp [hab]
    repeat' (first | (first | (refine AWP.go env ?_; intro K fin; try simp +decide (maxSteps := 4000000) only [hn2, go_sem, Nat.reduceAdd, Nat.reduceMul]) | refine Kt.h _ _ ?_ | refine Ft.k (by decide +kernel) ?_ | ((first | refine ⟨_, rCopiedC hl1 hl2, ?_⟩ | refine ⟨_, rCopiedC hr1 hr2, ?_⟩); simp +decide (maxSteps := 4000000) only [hn2, go_sem, Nat.reduceAdd, Nat.reduceMul])) | apply cond2_intro | with_reducible apply And.intro | intro h)
    rw [hab]
  | cons n b =>
    have hal : a.length < ins.length := by rw [hab]; simp
    have hn2 : ((a.length : Int) < (ins.length : Int)) = True := by simp [hal]
    have hget : getR (ins.map rI) a.length = [.int .i64 n] := by rw [hab]; simp [getR, rI]
    have v3 := wk_i' (t := a.length) (by omega)
    repeat' (first | (first | (refine AWP.go env ?_; intro K fin; try simp +decide (maxSteps := 4000000) only [hn2, hget, v3, go_sem, Nat.reduceAdd, Nat.reduceMul]) | refine Kt.h _ _ ?_ | refine Ft.k (by decide +kernel) ?_ | ((first | refine ⟨_, rCopiedC hl1 hl2, ?_⟩ | refine ⟨_, rCopiedC hr1 hr2, ?_⟩); simp +decide (maxSteps := 4000000) only [hn2, hget, v3, go_sem, Nat.reduceAdd, Nat.reduceMul])) | apply cond2_intro | with_reducible apply And.intro | intro h)
    refine AWP.lp (α := Nat × {k : Nat // k ≤ im.length})
      (fun w => ⟨39, [(0, dInts s), (1, dInts im), (2, dInts ins), (7, .osl 777 w.1), (8, .int .i64 a.length), (9, .int .i64 w.2.1)],
        [(777, ⟨w.1, true, false, 1, 3, (backAll s im a ++ backG s im n w.2.1).map rI⟩)]⟩) (fun w => im.length - w.2.1) ⟨ver, 0, by omega⟩ (by simp +decide (maxSteps := 4000000) only [go_sem, Nat.reduceAdd, Nat.reduceMul]; try simp [backG]) fun w K => ?_
    obtain ⟨ver2, k, hk⟩ := w
    have hlk := hlim a n k (by omega) hk
    by_cases hkn : k = im.length
    · have hn3 : ((k : Int) < (im.length : Int)) = False := by simp [hkn]
      repeat' (first | (first | (refine AWP.go env ?_; intro K fin; try simp +decide (maxSteps := 4000000) only [hn3, v3, go_sem, Nat.reduceAdd, Nat.reduceMul]) | refine Kt.h _ _ ?_ | refine Ft.k (by decide +kernel) ?_ | ((first | refine ⟨_, rCopiedC hl1 hl2, ?_⟩ | refine ⟨_, rCopiedC hr1 hr2, ?_⟩); simp +decide (maxSteps := 4000000) only [hn3, v3, go_sem, Nat.reduceAdd, Nat.reduceMul])) | apply cond2_intro | with_reducible apply And.intro | intro h)
      refine ⟨⟨ver2, a ++ [n], b, by simp [hab], trivial⟩, by simp, by simp +decide (maxSteps := 4000000) only [go_sem, Nat.reduceAdd, Nat.reduceMul]; simp [backAll, hkn]⟩
    · have hkl : k < im.length := by omega
      have hn3 : ((k : Int) < (im.length : Int)) = True := by simp; omega
      have hg2 : getR (im.map rI) k = [.int .i64 (im.getD k 0)] := by rw [getR_map _ _ _ hkl, List.getD_eq_getElem?_getD, List.getElem?_eq_getElem hkl]; try rfl
      have hg3 : getR (s.map rI) k = [.int .i64 (s.getD k 0)] := by rw [getR_map _ _ _ (by omega), List.getD_eq_getElem?_getD, List.getElem?_eq_getElem (by omega)]; try rfl
      have v4 := wk_i' (t := k) (by omega)
      by_cases he : im.getD k 0 = n
      · have he' : (im.getD k 0 == n) = true := by simpa using he
        repeat' (first | (first | (refine AWP.go env ?_; intro K fin; try simp +decide (maxSteps := 4000000) only [hn3, hget, hg2, hg3, v4, he', go_sem, Nat.reduceAdd, Nat.reduceMul]) | refine Kt.h _ _ ?_ | refine Ft.k (by decide +kernel) ?_ | ((first | refine ⟨_, rCopiedC hl1 hl2, ?_⟩ | refine ⟨_, rCopiedC hr1 hr2, ?_⟩); simp +decide (maxSteps := 4000000) only [hn3, hget, hg2, hg3, v4, he', go_sem, Nat.reduceAdd, Nat.reduceMul])) | apply cond2_intro | with_reducible apply And.intro | intro h)
        all_goals try (first | omega | (unfold lim; simp only [List.length_map]; omega) | (unfold lim; omega))
        have hb1 : backG s im n (k + 1) = backG s im n k ++ [s.getD k 0] := by rw [backG_succ, if_pos he]
        refine ⟨⟨ver2 + 1, k + 1, by omega⟩, by simp; omega, by simp +decide (maxSteps := 4000000) only [hb1, go_sem, Nat.reduceAdd, Nat.reduceMul]; try simp⟩
      · have he' : (im.getD k 0 == n) = false := by simpa using he
        repeat' (first | (first | (refine AWP.go env ?_; intro K fin; try simp +decide (maxSteps := 4000000) only [hn3, hget, hg2, hg3, v4, he', go_sem, Nat.reduceAdd, Nat.reduceMul]) | refine Kt.h _ _ ?_ | refine Ft.k (by decide +kernel) ?_ | ((first | refine ⟨_, rCopiedC hl1 hl2, ?_⟩ | refine ⟨_, rCopiedC hr1 hr2, ?_⟩); simp +decide (maxSteps := 4000000) only [hn3, hget, hg2, hg3, v4, he', go_sem, Nat.reduceAdd, Nat.reduceMul])) | apply cond2_intro | with_reducible apply And.intro | intro h)
        all_goals try (first | omega | (unfold lim; simp only [List.length_map]; omega) | (unfold lim; omega))
        have hb1 : backG s im n (k + 1) = backG s im n k := by rw [backG_succ, if_neg he, List.append_nil]
        refine ⟨⟨ver2, k + 1, by omega⟩, by simp; omega, by simp +decide (maxSteps := 4000000) only [hb1, go_sem, Nat.reduceAdd, Nat.reduceMul]; try simp⟩

theorem rInvErrC {t : Types} (hfew : ∀ n ∈ t.nodes, n.attrs.length ≤ 30) {r : Rul} (h : invErrF t r ≠ 0) : Con Tryz.prog 17 [dTypes t, dRule r] (.tup [nNone, .int .i64 (invErrF t r)]) := by
  by_cases h1 : givenRF t r = 0
  case neg =>
    have q : (givenRF t r != 0) = true := by simpa using h1
    have hF : invErrF t r = givenRF t r := by unfold invErrF; rw [if_pos h1]
    rw [hF]
    refine ConC.con (ent _ Tryz.func17 rfl rfl) (con_of_body env Tryz.func17 rfl (nt := 85) (rs := [.cell 4 41, .tmp 5]) rfl rfl (Nat.le_of_ble_eq_true rfl) fun hok => ?_)
    repeat' (first | (first | (refine AWP.go env ?_; intro K fin; try simp +decide (maxSteps := 4000000) only [q, go_sem, Nat.reduceAdd, Nat.reduceMul]) | refine Kt.h _ _ ?_ | refine Ft.k (by decide +kernel) ?_ | ((first | refine ⟨_, rCopiedC hl1 hl2, ?_⟩ | refine ⟨_, rCopiedC hr1 hr2, ?_⟩ | refine ⟨_, rGivenRC hfew (r := r), ?_⟩ | refine ⟨_, hd, ?_⟩ | refine ⟨_, hmk, ?_⟩); simp +decide (maxSteps := 4000000) only [q, go_sem, Nat.reduceAdd, Nat.reduceMul])) | apply cond2_intro | with_reducible apply And.intro | intro h)
    all_goals try contradiction
  have q : (givenRF t r != 0) = false := by simpa using h1
  obtain ⟨hr, hp⟩ := givenRF_ok h1
  obtain ⟨⟨gl1, gl2⟩, _⟩ := ruleF_lens hr
  obtain ⟨_, h2, _⟩ := ruleF_ok hr
  obtain ⟨_, hg, hty, _⟩ := pattF_ok h2
  have hd := rDeletedC (r := r) (by omega) (by omega)
  have hmk := properC hfew hg (typedB_ok hg hty) (deleted_range (r := r)).1 (deleted_range (r := r)).2
  by_cases h3 : makableF t r.left.graph (deletedF r).nodes (deletedF r).edges = true
  · exact absurd (by unfold invErrF; rw [if_neg (by simp [h1]), if_pos h3]) h
  have h3 : makableF t r.left.graph (deletedF r).nodes (deletedF r).edges = false := by simpa using h3
  have hF : invErrF t r = 13 := by unfold invErrF; rw [if_neg (by simp [h1]), if_neg (by simp [h3])]
  rw [hF]
  refine ConC.con (ent _ Tryz.func17 rfl rfl) (con_of_body env Tryz.func17 rfl (nt := 85) (rs := [.cell 4 41, .tmp 5]) rfl rfl (Nat.le_of_ble_eq_true rfl) fun hok => ?_)
  repeat' (first | (first | (refine AWP.go env ?_; intro K fin; try simp +decide (maxSteps := 4000000) only [q, h3, go_sem, Nat.reduceAdd, Nat.reduceMul]) | refine Kt.h _ _ ?_ | refine Ft.k (by decide +kernel) ?_ | ((first | refine ⟨_, rCopiedC hl1 hl2, ?_⟩ | refine ⟨_, rCopiedC hr1 hr2, ?_⟩ | refine ⟨_, rGivenRC hfew (r := r), ?_⟩ | refine ⟨_, hd, ?_⟩ | refine ⟨_, hmk, ?_⟩); simp +decide (maxSteps := 4000000) only [q, h3, go_sem, Nat.reduceAdd, Nat.reduceMul])) | apply cond2_intro | with_reducible apply And.intro | intro h)
  all_goals try contradiction

theorem othersF_len' {l : List Int} {n : Nat} (h : n ≤ 80) : (othersF l n).length ≤ 80 := Nat.le_trans othersF_len h

theorem invErrF_ok {t : Types} {r : Rul} (h : invErrF t r = 0) : givenRF t r = 0 ∧ makableF t r.left.graph (deletedF r).nodes (deletedF r).edges = true := by
  have h1 : givenRF t r = 0 := by
    unfold invErrF at h
    split at h
    · rename_i h1; exact absurd h h1
    · rename_i h1; simpa using h1
  refine ⟨h1, ?_⟩
  unfold invErrF at h
  rw [if_neg (by simp [h1])] at h
  split at h
  · assumption
  · cases h

/-- A plain rule whose kept elements are not the call's own any more. -/
abbrev nPlainK (r : Rul) : D := .agg [.str r.name, nInts r.left.graph.nodes, nEdges r.left.graph.edges, .nil, .int .i64 0, .nil, nInts r.right.graph.nodes, nEdges r.right.graph.edges, .nil, .int .i64 0, .nil,
  dInts r.keep.nodes, dInts r.keep.edges, nInts r.into.nodes, nInts r.into.edges, .bool r.inj, .int .i64 1, .nil, .nil, .nil, .nil, .nil, .nil, .int .i64 0, .nil]

theorem rInvOkC {t : Types} (hfew : ∀ n ∈ t.nodes, n.attrs.length ≤ 30) {r : Rul} (h : invErrF t r = 0) : Con Tryz.prog 17 [dTypes t, dRule r] (.tup [nPlainK (inverseF r), .int .i64 0]) := by
  obtain ⟨h1, h3⟩ := invErrF_ok h
  have q : (givenRF t r != 0) = false := by simpa using h1
  obtain ⟨hr, hp⟩ := givenRF_ok h1
  obtain ⟨⟨gl1, gl2⟩, ⟨gr1, gr2⟩, ⟨k1, k2⟩, i1, i2⟩ := ruleF_lens hr
  obtain ⟨_, h2, _, h4, _⟩ := ruleF_ok hr
  obtain ⟨_, hg, hty, _⟩ := pattF_ok h2
  rw [← rInverseF_eq h4]
  have hd := rDeletedC (r := r) (by omega) (by omega)
  have hcr := rCreatedC (r := r) (by omega) (by omega)
  have hmk := properC hfew hg (typedB_ok hg hty) (deleted_range (r := r)).1 (deleted_range (r := r)).2
  have hpl := rPlainRC (r := r) (by omega) (by omega) (by omega) (by omega) (by omega) (by omega) (by omega) (by omega)
  have ho1 := restC (l := (createdF r).nodes) (n := r.right.graph.nodes.length) (by omega)
  have ho2 := restC (l := (createdF r).edges) (n := r.right.graph.edges.length) (by omega)
  have hb1 := backC (s := r.keep.nodes) (im := r.into.nodes) (ins := othersF (createdF r).nodes r.right.graph.nodes.length) (by omega) (by omega) (by have := @othersF_len' (createdF r).nodes r.right.graph.nodes.length (by omega); omega)
  have hb2 := backC (s := r.keep.edges) (im := r.into.edges) (ins := othersF (createdF r).edges r.right.graph.edges.length) (by omega) (by omega) (by have := @othersF_len' (createdF r).edges r.right.graph.edges.length (by omega); omega)
  refine ConC.con (ent _ Tryz.func17 rfl rfl) (con_of_body env Tryz.func17 rfl (nt := 85) (rs := [.cell 4 41, .tmp 5]) rfl rfl (Nat.le_of_ble_eq_true rfl) fun hok => ?_)
  repeat' (first | (first | (refine AWP.go env ?_; intro K fin; try simp +decide (maxSteps := 4000000) only [q, h3, go_sem, Nat.reduceAdd, Nat.reduceMul]) | refine Kt.h _ _ ?_ | refine Ft.k (by decide +kernel) ?_ | ((first | refine ⟨_, rCopiedC hl1 hl2, ?_⟩ | refine ⟨_, rCopiedC hr1 hr2, ?_⟩ | refine ⟨_, rGivenRC hfew (r := r), ?_⟩ | refine ⟨_, hd, ?_⟩ | refine ⟨_, hmk, ?_⟩ | refine ⟨_, rGivenRC hfew (r := r), ?_⟩ | refine ⟨_, hd, ?_⟩ | refine ⟨_, hmk, ?_⟩ | refine ⟨_, hpl, ?_⟩ | refine ⟨_, hcr, ?_⟩ | refine ⟨_, ho1, ?_⟩ | refine ⟨_, ho2, ?_⟩ | refine ⟨_, hb1, ?_⟩ | refine ⟨_, hb2, ?_⟩); simp +decide (maxSteps := 4000000) only [q, h3, go_sem, Nat.reduceAdd, Nat.reduceMul])) | apply cond2_intro | with_reducible apply And.intro | intro h)
  all_goals try contradiction
  all_goals rfl
end Go.Abs
/- Lists, graphs, patterns that are equal. Printed by gen/mk_s1.py. -/
set_option linter.unusedSimpArgs false
set_option linter.unusedVariables false
set_option maxRecDepth 20000
set_option maxHeartbeats 4000000
namespace Go.Abs
open Go Go.RowKit Go.Proofs
attribute [local irreducible] Con AWP

deriving instance DecidableEq for Edge
deriving instance DecidableEq for Graph
deriving instance DecidableEq for Term
deriving instance DecidableEq for Slot
deriving instance DecidableEq for Tst
deriving instance DecidableEq for Patt
deriving instance DecidableEq for Two

def eqE (a b : Edge) : Bool := (a.typ == b.typ) && ((a.src == b.src) && ((a.tgt == b.tgt) && true))
def eqS (a b : Slot) : Bool := (a.node == b.node) && ((a.attr == b.attr) && ((a.term.var == b.term.var) && ((a.term.add == b.term.add) && true)))
def eqT (a b : Tst) : Bool := (a.kind == b.kind) && ((a.left.var == b.left.var) && ((a.left.add == b.left.add) && ((a.right.var == b.right.var) && ((a.right.add == b.right.add) && true))))
theorem eqE_iff {a b : Edge} : eqE a b = true ↔ a = b := by cases a; cases b; simp [eqE]
theorem eqS_iff {a b : Slot} : eqS a b = true ↔ a = b := by obtain ⟨_, _, ⟨_, _⟩⟩ := a; obtain ⟨_, _, ⟨_, _⟩⟩ := b; simp [eqS, and_assoc]
theorem eqT_iff {a b : Tst} : eqT a b = true ↔ a = b := by obtain ⟨_, ⟨_, _⟩, ⟨_, _⟩⟩ := a; obtain ⟨_, ⟨_, _⟩, ⟨_, _⟩⟩ := b; simp [eqT, and_assoc]

theorem take_step {X : Type} {a b : List X} {k : Nat} (ha : k < a.length) (hb : k < b.length) (h : a.take k = b.take k) (he : a[k] = b[k]) : a.take (k + 1) = b.take (k + 1) := by
  rw [List.take_succ_eq_append_getElem ha, List.take_succ_eq_append_getElem hb, h, he]
theorem take_all {X : Type} {a b : List X} {k : Nat} (hl : a.length = b.length) (hk : k = a.length) (h : a.take k = b.take k) : a = b := by
  rw [hk, List.take_length, hl, List.take_length] at h; exact h
theorem take_ne {X : Type} {a b : List X} {k : Nat} (ha : k < a.length) (hb : k < b.length) (he : ¬ a[k] = b[k]) : ¬ a = b := fun h => by subst h; exact he rfl

theorem same05C {a b : List Int} : Con Tryz.prog 146 [dInts a, dInts b] (.bool (decide (a = b))) := by
  by_cases hl : a.length = b.length
  case neg =>
    have q : ((a.length : Int) != (b.length : Int)) = true := by simpa using fun h => hl (by omega)
    have hF : decide (a = b) = false := decide_eq_false fun h => hl (by rw [h])
    rw [hF]
    refine ConC.con (ent _ Tryz.func146 rfl rfl) (con_of_body env Tryz.func146 rfl (nt := 26) (rs := [.tmp 4]) rfl rfl (Nat.le_of_ble_eq_true rfl) fun hok => ?_)
    repeat' (first | (first | (refine AWP.go env ?_; intro K fin; try simp +decide (maxSteps := 4000000) only [q, go_sem, Nat.reduceAdd, Nat.reduceMul]) | refine Kt.h _ _ ?_ | refine Ft.k (by decide +kernel) ?_) | apply cond2_intro | with_reducible apply And.intro | intro h)
  have q : ((a.length : Int) != (b.length : Int)) = false := by simp [hl]
  refine ConC.con (ent _ Tryz.func146 rfl rfl) (con_of_body env Tryz.func146 rfl (nt := 26) (rs := [.tmp 4]) rfl rfl (Nat.le_of_ble_eq_true rfl) fun hok => ?_)
  have hla : a.length ≤ 140737488355328 := by simpa using (hok (dInts a) (by simp)).len
  repeat' (first | (first | (refine AWP.go env ?_; intro K fin; try simp +decide (maxSteps := 4000000) only [q, go_sem, Nat.reduceAdd, Nat.reduceMul]) | refine Kt.h _ _ ?_ | refine Ft.k (by decide +kernel) ?_) | apply cond2_intro | with_reducible apply And.intro | intro h)
  refine AWP.lp (α := {k : Nat // k ≤ a.length ∧ a.take k = b.take k})
    (fun w => ⟨26, [(0, dInts a), (1, dInts b), (5, .int .i64 w.1)], []⟩) (fun w => a.length - w.1) ⟨0, by omega, rfl⟩ (by simp +decide (maxSteps := 4000000) only [go_sem, Nat.reduceAdd, Nat.reduceMul]; try simp) fun w K => ?_
  obtain ⟨k, hk, hinv⟩ := w
  by_cases hkn : k = a.length
  · have hn2 : ((k : Int) < (a.length : Int)) = False := by simp [hkn]
    have hF : decide (a = b) = true := decide_eq_true (take_all hl hkn hinv)
    repeat' (first | (first | (refine AWP.go env ?_; intro K fin; try simp +decide (maxSteps := 4000000) only [hn2, hF, go_sem, Nat.reduceAdd, Nat.reduceMul]) | refine Kt.h _ _ ?_ | refine Ft.k (by decide +kernel) ?_) | apply cond2_intro | with_reducible apply And.intro | intro h)
  · have hn2 : ((k : Int) < (a.length : Int)) = True := by simp; omega
    have hka : k < a.length := by omega
    have hkb : k < b.length := by omega
    have hg1 : getR (a.map rI) k = [.int .i64 a[k]] := by rw [getR_map _ _ _ hka]
    have hg2 : getR (b.map rI) k = [.int .i64 b[k]] := by rw [getR_map _ _ _ hkb]
    have v3 : IntKind.i64.wrap ((k : Int) + 1) = ((k + 1 : Nat) : Int) := by rw [wrap64 (by omega) (by omega)]; try rfl
    by_cases he : a[k] = b[k]
    · have he' : (a[k] != b[k]) = false := by simpa using he
      repeat' (first | (first | (refine AWP.go env ?_; intro K fin; try simp +decide (maxSteps := 4000000) only [hn2, hg1, hg2, v3, he', go_sem, Nat.reduceAdd, Nat.reduceMul]) | refine Kt.h _ _ ?_ | refine Ft.k (by decide +kernel) ?_) | apply cond2_intro | with_reducible apply And.intro | intro h)
      all_goals try omega
      refine ⟨⟨k + 1, by omega, take_step hka hkb hinv he⟩, by simp; omega, by simp +decide (maxSteps := 4000000) only [go_sem, Nat.reduceAdd, Nat.reduceMul]; try simp⟩
    · have he' : (a[k] != b[k]) = true := by simpa using he
      have hF : decide (a = b) = false := decide_eq_false (take_ne hka hkb he)
      repeat' (first | (first | (refine AWP.go env ?_; intro K fin; try simp +decide (maxSteps := 4000000) only [hn2, hg1, hg2, v3, he', hF, go_sem, Nat.reduceAdd, Nat.reduceMul]) | refine Kt.h _ _ ?_ | refine Ft.k (by decide +kernel) ?_) | apply cond2_intro | with_reducible apply And.intro | intro h)
      all_goals try omega

theorem same02C {a b : List Int} : Con Tryz.prog 147 [dInts a, dInts b] (.bool (decide (a = b))) := by
  by_cases hl : a.length = b.length
  case neg =>
    have q : ((a.length : Int) != (b.length : Int)) = true := by simpa using fun h => hl (by omega)
    have hF : decide (a = b) = false := decide_eq_false fun h => hl (by rw [h])
    rw [hF]
    refine ConC.con (ent _ Tryz.func147 rfl rfl) (con_of_body env Tryz.func147 rfl (nt := 26) (rs := [.tmp 4]) rfl rfl (Nat.le_of_ble_eq_true rfl) fun hok => ?_)
    repeat' (first | (first | (refine AWP.go env ?_; intro K fin; try simp +decide (maxSteps := 4000000) only [q, go_sem, Nat.reduceAdd, Nat.reduceMul]) | refine Kt.h _ _ ?_ | refine Ft.k (by decide +kernel) ?_) | apply cond2_intro | with_reducible apply And.intro | intro h)
  have q : ((a.length : Int) != (b.length : Int)) = false := by simp [hl]
  refine ConC.con (ent _ Tryz.func147 rfl rfl) (con_of_body env Tryz.func147 rfl (nt := 26) (rs := [.tmp 4]) rfl rfl (Nat.le_of_ble_eq_true rfl) fun hok => ?_)
  have hla : a.length ≤ 140737488355328 := by simpa using (hok (dInts a) (by simp)).len
  repeat' (first | (first | (refine AWP.go env ?_; intro K fin; try simp +decide (maxSteps := 4000000) only [q, go_sem, Nat.reduceAdd, Nat.reduceMul]) | refine Kt.h _ _ ?_ | refine Ft.k (by decide +kernel) ?_) | apply cond2_intro | with_reducible apply And.intro | intro h)
  refine AWP.lp (α := {k : Nat // k ≤ a.length ∧ a.take k = b.take k})
    (fun w => ⟨26, [(0, dInts a), (1, dInts b), (5, .int .i64 w.1)], []⟩) (fun w => a.length - w.1) ⟨0, by omega, rfl⟩ (by simp +decide (maxSteps := 4000000) only [go_sem, Nat.reduceAdd, Nat.reduceMul]; try simp) fun w K => ?_
  obtain ⟨k, hk, hinv⟩ := w
  by_cases hkn : k = a.length
  · have hn2 : ((k : Int) < (a.length : Int)) = False := by simp [hkn]
    have hF : decide (a = b) = true := decide_eq_true (take_all hl hkn hinv)
    repeat' (first | (first | (refine AWP.go env ?_; intro K fin; try simp +decide (maxSteps := 4000000) only [hn2, hF, go_sem, Nat.reduceAdd, Nat.reduceMul]) | refine Kt.h _ _ ?_ | refine Ft.k (by decide +kernel) ?_) | apply cond2_intro | with_reducible apply And.intro | intro h)
  · have hn2 : ((k : Int) < (a.length : Int)) = True := by simp; omega
    have hka : k < a.length := by omega
    have hkb : k < b.length := by omega
    have hg1 : getR (a.map rI) k = [.int .i64 a[k]] := by rw [getR_map _ _ _ hka]
    have hg2 : getR (b.map rI) k = [.int .i64 b[k]] := by rw [getR_map _ _ _ hkb]
    have v3 : IntKind.i64.wrap ((k : Int) + 1) = ((k + 1 : Nat) : Int) := by rw [wrap64 (by omega) (by omega)]; try rfl
    by_cases he : a[k] = b[k]
    · have he' : (a[k] != b[k]) = false := by simpa using he
      repeat' (first | (first | (refine AWP.go env ?_; intro K fin; try simp +decide (maxSteps := 4000000) only [hn2, hg1, hg2, v3, he', go_sem, Nat.reduceAdd, Nat.reduceMul]) | refine Kt.h _ _ ?_ | refine Ft.k (by decide +kernel) ?_) | apply cond2_intro | with_reducible apply And.intro | intro h)
      all_goals try omega
      refine ⟨⟨k + 1, by omega, take_step hka hkb hinv he⟩, by simp; omega, by simp +decide (maxSteps := 4000000) only [go_sem, Nat.reduceAdd, Nat.reduceMul]; try simp⟩
    · have he' : (a[k] != b[k]) = true := by simpa using he
      have hF : decide (a = b) = false := decide_eq_false (take_ne hka hkb he)
      repeat' (first | (first | (refine AWP.go env ?_; intro K fin; try simp +decide (maxSteps := 4000000) only [hn2, hg1, hg2, v3, he', hF, go_sem, Nat.reduceAdd, Nat.reduceMul]) | refine Kt.h _ _ ?_ | refine Ft.k (by decide +kernel) ?_) | apply cond2_intro | with_reducible apply And.intro | intro h)
      all_goals try omega

theorem sameGC {a b : Graph} : Con Tryz.prog 145 [dGraph a, dGraph b] (.bool (decide (a = b))) := by
  by_cases h1 : a.nodes = b.nodes
  case neg =>
    have hF : decide (a = b) = false := decide_eq_false fun h => h1 (by rw [h])
    have h1' : decide (a.nodes = b.nodes) = false := decide_eq_false h1
    rw [hF]
    refine ConC.con (ent _ Tryz.func145 rfl rfl) (con_of_body env Tryz.func145 rfl (nt := 39) (rs := [.tmp 4]) rfl rfl (Nat.le_of_ble_eq_true rfl) fun hok => ?_)
    repeat' (first | (first | (refine AWP.go env ?_; intro K fin; try simp +decide (maxSteps := 4000000) only [h1', go_sem, Nat.reduceAdd, Nat.reduceMul]) | refine Kt.h _ _ ?_ | refine Ft.k (by decide +kernel) ?_ | (refine ⟨_, same05C, ?_⟩; simp +decide (maxSteps := 4000000) only [h1', go_sem, Nat.reduceAdd, Nat.reduceMul])) | apply cond2_intro | with_reducible apply And.intro | intro h)
  have h1' : decide (a.nodes = b.nodes) = true := decide_eq_true h1
  by_cases hl : a.edges.length = b.edges.length
  case neg =>
    have q : ((a.edges.length : Int) != (b.edges.length : Int)) = true := by simpa using fun h => hl (by omega)
    have hF : decide (a = b) = false := decide_eq_false fun h => hl (by rw [h])
    rw [hF]
    refine ConC.con (ent _ Tryz.func145 rfl rfl) (con_of_body env Tryz.func145 rfl (nt := 39) (rs := [.tmp 4]) rfl rfl (Nat.le_of_ble_eq_true rfl) fun hok => ?_)
    repeat' (first | (first | (refine AWP.go env ?_; intro K fin; try simp +decide (maxSteps := 4000000) only [h1', q, go_sem, Nat.reduceAdd, Nat.reduceMul]) | refine Kt.h _ _ ?_ | refine Ft.k (by decide +kernel) ?_ | (refine ⟨_, same05C, ?_⟩; simp +decide (maxSteps := 4000000) only [h1', q, go_sem, Nat.reduceAdd, Nat.reduceMul])) | apply cond2_intro | with_reducible apply And.intro | intro h)
  have q : ((a.edges.length : Int) != (b.edges.length : Int)) = false := by simp [hl]
  refine ConC.con (ent _ Tryz.func145 rfl rfl) (con_of_body env Tryz.func145 rfl (nt := 39) (rs := [.tmp 4]) rfl rfl (Nat.le_of_ble_eq_true rfl) fun hok => ?_)
  have hla : a.edges.length ≤ 140737488355328 := by simpa using (DOk.mem (hok (dGraph a) (by simp)) (d := .fsl 3 (a.edges.map rEdge)) (by simp)).len
  repeat' (first | (first | (refine AWP.go env ?_; intro K fin; try simp +decide (maxSteps := 4000000) only [h1', q, go_sem, Nat.reduceAdd, Nat.reduceMul]) | refine Kt.h _ _ ?_ | refine Ft.k (by decide +kernel) ?_ | (refine ⟨_, same05C, ?_⟩; simp +decide (maxSteps := 4000000) only [h1', q, go_sem, Nat.reduceAdd, Nat.reduceMul])) | apply cond2_intro | with_reducible apply And.intro | intro h)
  refine AWP.lp (α := {k : Nat // k ≤ a.edges.length ∧ a.edges.take k = b.edges.take k})
    (fun w => ⟨39, [(2, .ptr 200 0 0 0), (3, .ptr 300 0 0 0), (5, .int .i64 w.1)],
      [(200, ⟨0, true, true, 2, 29, [cGraph a]⟩), (300, ⟨0, true, true, 2, 29, [cGraph b]⟩)]⟩) (fun w => a.edges.length - w.1) ⟨0, by omega, rfl⟩ (by simp +decide (maxSteps := 4000000) only [go_sem, Nat.reduceAdd, Nat.reduceMul]; try simp) fun w K => ?_
  obtain ⟨k, hk, hinv⟩ := w
  by_cases hkn : k = a.edges.length
  case neg =>
    have hn2 : ((k : Int) < (a.edges.length : Int)) = True := by simp; omega
    have hka : k < a.edges.length := by omega
    have hkb : k < b.edges.length := by omega
    have hg1 : getR (a.edges.map rEdge) k = [.int .i64 (a.edges[k]).typ, .int .i64 (a.edges[k]).src, .int .i64 (a.edges[k]).tgt] := by rw [getR_map _ _ _ hka]; try rfl
    have hg2 : getR (b.edges.map rEdge) k = [.int .i64 (b.edges[k]).typ, .int .i64 (b.edges[k]).src, .int .i64 (b.edges[k]).tgt] := by rw [getR_map _ _ _ hkb]; try rfl
    have v3 : IntKind.i64.wrap ((k : Int) + 1) = ((k + 1 : Nat) : Int) := by rw [wrap64 (by omega) (by omega)]; try rfl
    by_cases he : a.edges[k] = b.edges[k]
    · have he' := eqE_iff.2 he
      unfold eqE at he'
      simp only [Bool.and_true] at he'
      repeat' (first | (first | (refine AWP.go env ?_; intro K fin; try simp +decide (maxSteps := 4000000) only [hn2, hg1, hg2, v3, he', go_sem, Nat.reduceAdd, Nat.reduceMul]) | refine Kt.h _ _ ?_ | refine Ft.k (by decide +kernel) ?_ | (refine ⟨_, same05C, ?_⟩; simp +decide (maxSteps := 4000000) only [hn2, hg1, hg2, v3, he', go_sem, Nat.reduceAdd, Nat.reduceMul])) | apply cond2_intro | with_reducible apply And.intro | intro h)
      all_goals try omega
      all_goals try (simp only [List.mem_cons, List.not_mem_nil, or_false] at h; (repeat' (first | (subst h; rfl) | rcases h with h | h)))
      refine ⟨⟨k + 1, by omega, take_step hka hkb hinv he⟩, by simp; omega, by simp +decide (maxSteps := 4000000) only [go_sem, Nat.reduceAdd, Nat.reduceMul]; try simp⟩
    · have he' : eqE (a.edges[k]) (b.edges[k]) = false := by rw [← Bool.not_eq_true, eqE_iff]; exact he
      unfold eqE at he'
      simp only [Bool.and_true] at he'
      have hF : decide (a = b) = false := decide_eq_false fun h => take_ne hka hkb he (by rw [h])
      repeat' (first | (first | (refine AWP.go env ?_; intro K fin; try simp +decide (maxSteps := 4000000) only [hn2, hg1, hg2, v3, he', hF, go_sem, Nat.reduceAdd, Nat.reduceMul]) | refine Kt.h _ _ ?_ | refine Ft.k (by decide +kernel) ?_ | (refine ⟨_, same05C, ?_⟩; simp +decide (maxSteps := 4000000) only [hn2, hg1, hg2, v3, he', hF, go_sem, Nat.reduceAdd, Nat.reduceMul])) | apply cond2_intro | with_reducible apply And.intro | intro h)
      all_goals try omega
      all_goals try (simp only [List.mem_cons, List.not_mem_nil, or_false] at h; (repeat' (first | (subst h; rfl) | rcases h with h | h)))
  have hn2 : ((k : Int) < (a.edges.length : Int)) = False := by simp [hkn]
  have hEEdge := take_all hl hkn hinv
  have hF : decide (a = b) = true := decide_eq_true (by cases a; cases b; simp_all)
  repeat' (first | (first | (refine AWP.go env ?_; intro K fin; try simp +decide (maxSteps := 4000000) only [hn2, hF, go_sem, Nat.reduceAdd, Nat.reduceMul]) | refine Kt.h _ _ ?_ | refine Ft.k (by decide +kernel) ?_ | (refine ⟨_, same05C, ?_⟩; simp +decide (maxSteps := 4000000) only [hn2, hF, go_sem, Nat.reduceAdd, Nat.reduceMul])) | apply cond2_intro | with_reducible apply And.intro | intro h)

theorem samePC {a b : Patt} : Con Tryz.prog 72 [dPatt a, dPatt b] (.bool (decide (a = b))) := by
  by_cases h1 : a.graph = b.graph
  case neg =>
    have hF : decide (a = b) = false := decide_eq_false fun h => h1 (by rw [h])
    have h1' : decide (a.graph = b.graph) = false := decide_eq_false h1
    rw [hF]
    refine ConC.con (ent _ Tryz.func72 rfl rfl) (con_of_body env Tryz.func72 rfl (nt := 74) (rs := [.tmp 4]) rfl rfl (Nat.le_of_ble_eq_true rfl) fun hok => ?_)
    repeat' (first | (first | (refine AWP.go env ?_; intro K fin; try simp +decide (maxSteps := 4000000) only [h1', go_sem, Nat.reduceAdd, Nat.reduceMul]) | refine Kt.h _ _ ?_ | refine Ft.k (by decide +kernel) ?_ | ((first | refine ⟨_, same05C, ?_⟩ | refine ⟨_, sameGC, ?_⟩); simp +decide (maxSteps := 4000000) only [h1', go_sem, Nat.reduceAdd, Nat.reduceMul])) | apply cond2_intro | with_reducible apply And.intro | intro h)
  have h1' : decide (a.graph = b.graph) = true := decide_eq_true h1
  by_cases h2 : a.vars = b.vars
  case neg =>
    have hF : decide (a = b) = false := decide_eq_false fun h => h2 (by rw [h])
    have q2 : (a.vars != b.vars) = true := by simpa using h2
    rw [hF]
    refine ConC.con (ent _ Tryz.func72 rfl rfl) (con_of_body env Tryz.func72 rfl (nt := 74) (rs := [.tmp 4]) rfl rfl (Nat.le_of_ble_eq_true rfl) fun hok => ?_)
    repeat' (first | (first | (refine AWP.go env ?_; intro K fin; try simp +decide (maxSteps := 4000000) only [h1', q2, go_sem, Nat.reduceAdd, Nat.reduceMul]) | refine Kt.h _ _ ?_ | refine Ft.k (by decide +kernel) ?_ | ((first | refine ⟨_, same05C, ?_⟩ | refine ⟨_, sameGC, ?_⟩); simp +decide (maxSteps := 4000000) only [h1', q2, go_sem, Nat.reduceAdd, Nat.reduceMul])) | apply cond2_intro | with_reducible apply And.intro | intro h)
  have q2 : (a.vars != b.vars) = false := by simpa using h2
  by_cases hl : a.slots.length = b.slots.length
  case neg =>
    have q3 : ((a.slots.length : Int) != (b.slots.length : Int)) = true := by simpa using fun h => hl (by omega)
    have hF : decide (a = b) = false := decide_eq_false fun h => hl (by rw [h])
    rw [hF]
    refine ConC.con (ent _ Tryz.func72 rfl rfl) (con_of_body env Tryz.func72 rfl (nt := 74) (rs := [.tmp 4]) rfl rfl (Nat.le_of_ble_eq_true rfl) fun hok => ?_)
    repeat' (first | (first | (refine AWP.go env ?_; intro K fin; try simp +decide (maxSteps := 4000000) only [h1', q2, q3, go_sem, Nat.reduceAdd, Nat.reduceMul]) | refine Kt.h _ _ ?_ | refine Ft.k (by decide +kernel) ?_ | ((first | refine ⟨_, same05C, ?_⟩ | refine ⟨_, sameGC, ?_⟩); simp +decide (maxSteps := 4000000) only [h1', q2, q3, go_sem, Nat.reduceAdd, Nat.reduceMul])) | apply cond2_intro | with_reducible apply And.intro | intro h)
  have q3 : ((a.slots.length : Int) != (b.slots.length : Int)) = false := by simp [hl]
  by_cases hl2 : a.tests.length = b.tests.length
  case neg =>
    have q4 : ((a.tests.length : Int) != (b.tests.length : Int)) = true := by simpa using fun h => hl2 (by omega)
    have hF : decide (a = b) = false := decide_eq_false fun h => hl2 (by rw [h])
    rw [hF]
    refine ConC.con (ent _ Tryz.func72 rfl rfl) (con_of_body env Tryz.func72 rfl (nt := 74) (rs := [.tmp 4]) rfl rfl (Nat.le_of_ble_eq_true rfl) fun hok => ?_)
    repeat' (first | (first | (refine AWP.go env ?_; intro K fin; try simp +decide (maxSteps := 4000000) only [h1', q2, q3, q4, go_sem, Nat.reduceAdd, Nat.reduceMul]) | refine Kt.h _ _ ?_ | refine Ft.k (by decide +kernel) ?_ | ((first | refine ⟨_, same05C, ?_⟩ | refine ⟨_, sameGC, ?_⟩); simp +decide (maxSteps := 4000000) only [h1', q2, q3, q4, go_sem, Nat.reduceAdd, Nat.reduceMul])) | apply cond2_intro | with_reducible apply And.intro | intro h)
  have q4 : ((a.tests.length : Int) != (b.tests.length : Int)) = false := by simp [hl2]
  refine ConC.con (ent _ Tryz.func72 rfl rfl) (con_of_body env Tryz.func72 rfl (nt := 74) (rs := [.tmp 4]) rfl rfl (Nat.le_of_ble_eq_true rfl) fun hok => ?_)
  have hla : a.slots.length ≤ 140737488355328 := by simpa using (DOk.mem (hok (dPatt a) (by simp)) (d := .fsl 4 (a.slots.map rSlot)) (by simp)).len
  have hla2 : a.tests.length ≤ 140737488355328 := by simpa using (DOk.mem (hok (dPatt a) (by simp)) (d := .fsl 5 (a.tests.map rTest)) (by simp)).len
  repeat' (first | (first | (refine AWP.go env ?_; intro K fin; try simp +decide (maxSteps := 4000000) only [h1', q2, q3, q4, go_sem, Nat.reduceAdd, Nat.reduceMul]) | refine Kt.h _ _ ?_ | refine Ft.k (by decide +kernel) ?_ | ((first | refine ⟨_, same05C, ?_⟩ | refine ⟨_, sameGC, ?_⟩); simp +decide (maxSteps := 4000000) only [h1', q2, q3, q4, go_sem, Nat.reduceAdd, Nat.reduceMul])) | apply cond2_intro | with_reducible apply And.intro | intro h)
  refine AWP.lp (α := {k : Nat // k ≤ a.slots.length ∧ a.slots.take k = b.slots.take k})
    (fun w => ⟨74, [(2, .ptr 200 0 0 0), (3, .ptr 300 0 0 0), (5, .int .i64 w.1)],
      [(200, ⟨0, true, true, 5, 33, [cPatt a]⟩), (300, ⟨0, true, true, 5, 33, [cPatt b]⟩)]⟩) (fun w => a.slots.length - w.1) ⟨0, by omega, rfl⟩ (by simp +decide (maxSteps := 4000000) only [go_sem, Nat.reduceAdd, Nat.reduceMul]; try simp) fun w K => ?_
  obtain ⟨k, hk, hinv⟩ := w
  by_cases hkn : k = a.slots.length
  case neg =>
    have hn2 : ((k : Int) < (a.slots.length : Int)) = True := by simp; omega
    have hka : k < a.slots.length := by omega
    have hkb : k < b.slots.length := by omega
    have hg1 : getR (a.slots.map rSlot) k = [.int .i64 (a.slots[k]).node, .int .i64 (a.slots[k]).attr, .int .i64 (a.slots[k]).term.var, .int .i64 (a.slots[k]).term.add] := by rw [getR_map _ _ _ hka]; try rfl
    have hg2 : getR (b.slots.map rSlot) k = [.int .i64 (b.slots[k]).node, .int .i64 (b.slots[k]).attr, .int .i64 (b.slots[k]).term.var, .int .i64 (b.slots[k]).term.add] := by rw [getR_map _ _ _ hkb]; try rfl
    have v3 : IntKind.i64.wrap ((k : Int) + 1) = ((k + 1 : Nat) : Int) := by rw [wrap64 (by omega) (by omega)]; try rfl
    by_cases he : a.slots[k] = b.slots[k]
    · have he' := eqS_iff.2 he
      unfold eqS at he'
      simp only [Bool.and_true] at he'
      repeat' (first | (first | (refine AWP.go env ?_; intro K fin; try simp +decide (maxSteps := 4000000) only [hn2, hg1, hg2, v3, he', go_sem, Nat.reduceAdd, Nat.reduceMul]) | refine Kt.h _ _ ?_ | refine Ft.k (by decide +kernel) ?_ | ((first | refine ⟨_, same05C, ?_⟩ | refine ⟨_, sameGC, ?_⟩); simp +decide (maxSteps := 4000000) only [hn2, hg1, hg2, v3, he', go_sem, Nat.reduceAdd, Nat.reduceMul])) | apply cond2_intro | with_reducible apply And.intro | intro h)
      all_goals try omega
      all_goals try (simp only [List.mem_cons, List.not_mem_nil, or_false] at h; (repeat' (first | (subst h; rfl) | rcases h with h | h)))
      refine ⟨⟨k + 1, by omega, take_step hka hkb hinv he⟩, by simp; omega, by simp +decide (maxSteps := 4000000) only [go_sem, Nat.reduceAdd, Nat.reduceMul]; try simp⟩
    · have he' : eqS (a.slots[k]) (b.slots[k]) = false := by rw [← Bool.not_eq_true, eqS_iff]; exact he
      unfold eqS at he'
      simp only [Bool.and_true] at he'
      have hF : decide (a = b) = false := decide_eq_false fun h => take_ne hka hkb he (by rw [h])
      repeat' (first | (first | (refine AWP.go env ?_; intro K fin; try simp +decide (maxSteps := 4000000) only [hn2, hg1, hg2, v3, he', hF, go_sem, Nat.reduceAdd, Nat.reduceMul]) | refine Kt.h _ _ ?_ | refine Ft.k (by decide +kernel) ?_ | ((first | refine ⟨_, same05C, ?_⟩ | refine ⟨_, sameGC, ?_⟩); simp +decide (maxSteps := 4000000) only [hn2, hg1, hg2, v3, he', hF, go_sem, Nat.reduceAdd, Nat.reduceMul])) | apply cond2_intro | with_reducible apply And.intro | intro h)
      all_goals try omega
      all_goals try (simp only [List.mem_cons, List.not_mem_nil, or_false] at h; (repeat' (first | (subst h; rfl) | rcases h with h | h)))
  have hn2 : ((k : Int) < (a.slots.length : Int)) = False := by simp [hkn]
  have hESlot := take_all hl hkn hinv
  repeat' (first | (first | (refine AWP.go env ?_; intro K fin; try simp +decide (maxSteps := 4000000) only [hn2, go_sem, Nat.reduceAdd, Nat.reduceMul]) | refine Kt.h _ _ ?_ | refine Ft.k (by decide +kernel) ?_ | ((first | refine ⟨_, same05C, ?_⟩ | refine ⟨_, sameGC, ?_⟩); simp +decide (maxSteps := 4000000) only [hn2, go_sem, Nat.reduceAdd, Nat.reduceMul])) | apply cond2_intro | with_reducible apply And.intro | intro h)
  refine AWP.lp (α := {k : Nat // k ≤ a.tests.length ∧ a.tests.take k = b.tests.take k})
    (fun w => ⟨74, [(2, .ptr 200 0 0 0), (3, .ptr 300 0 0 0), (6, .int .i64 w.1)],
      [(200, ⟨0, true, true, 5, 33, [cPatt a]⟩), (300, ⟨0, true, true, 5, 33, [cPatt b]⟩)]⟩) (fun w => a.tests.length - w.1) ⟨0, by omega, rfl⟩ (by simp +decide (maxSteps := 4000000) only [go_sem, Nat.reduceAdd, Nat.reduceMul]; try simp) fun w K => ?_
  obtain ⟨k, hk, hinv⟩ := w
  by_cases hkn : k = a.tests.length
  case neg =>
    have hn2 : ((k : Int) < (a.tests.length : Int)) = True := by simp; omega
    have hka : k < a.tests.length := by omega
    have hkb : k < b.tests.length := by omega
    have hg1 : getR (a.tests.map rTest) k = [.int .i64 (a.tests[k]).kind, .int .i64 (a.tests[k]).left.var, .int .i64 (a.tests[k]).left.add, .int .i64 (a.tests[k]).right.var, .int .i64 (a.tests[k]).right.add] := by rw [getR_map _ _ _ hka]; try rfl
    have hg2 : getR (b.tests.map rTest) k = [.int .i64 (b.tests[k]).kind, .int .i64 (b.tests[k]).left.var, .int .i64 (b.tests[k]).left.add, .int .i64 (b.tests[k]).right.var, .int .i64 (b.tests[k]).right.add] := by rw [getR_map _ _ _ hkb]; try rfl
    have v3 : IntKind.i64.wrap ((k : Int) + 1) = ((k + 1 : Nat) : Int) := by rw [wrap64 (by omega) (by omega)]; try rfl
    by_cases he : a.tests[k] = b.tests[k]
    · have he' := eqT_iff.2 he
      unfold eqT at he'
      simp only [Bool.and_true] at he'
      repeat' (first | (first | (refine AWP.go env ?_; intro K fin; try simp +decide (maxSteps := 4000000) only [hn2, hg1, hg2, v3, he', go_sem, Nat.reduceAdd, Nat.reduceMul]) | refine Kt.h _ _ ?_ | refine Ft.k (by decide +kernel) ?_ | ((first | refine ⟨_, same05C, ?_⟩ | refine ⟨_, sameGC, ?_⟩); simp +decide (maxSteps := 4000000) only [hn2, hg1, hg2, v3, he', go_sem, Nat.reduceAdd, Nat.reduceMul])) | apply cond2_intro | with_reducible apply And.intro | intro h)
      all_goals try omega
      all_goals try (simp only [List.mem_cons, List.not_mem_nil, or_false] at h; (repeat' (first | (subst h; rfl) | rcases h with h | h)))
      refine ⟨⟨k + 1, by omega, take_step hka hkb hinv he⟩, by simp; omega, by simp +decide (maxSteps := 4000000) only [go_sem, Nat.reduceAdd, Nat.reduceMul]; try simp⟩
    · have he' : eqT (a.tests[k]) (b.tests[k]) = false := by rw [← Bool.not_eq_true, eqT_iff]; exact he
      unfold eqT at he'
      simp only [Bool.and_true] at he'
      have hF : decide (a = b) = false := decide_eq_false fun h => take_ne hka hkb he (by rw [h])
      repeat' (first | (first | (refine AWP.go env ?_; intro K fin; try simp +decide (maxSteps := 4000000) only [hn2, hg1, hg2, v3, he', hF, go_sem, Nat.reduceAdd, Nat.reduceMul]) | refine Kt.h _ _ ?_ | refine Ft.k (by decide +kernel) ?_ | ((first | refine ⟨_, same05C, ?_⟩ | refine ⟨_, sameGC, ?_⟩); simp +decide (maxSteps := 4000000) only [hn2, hg1, hg2, v3, he', hF, go_sem, Nat.reduceAdd, Nat.reduceMul])) | apply cond2_intro | with_reducible apply And.intro | intro h)
      all_goals try omega
      all_goals try (simp only [List.mem_cons, List.not_mem_nil, or_false] at h; (repeat' (first | (subst h; rfl) | rcases h with h | h)))
  have hn2 : ((k : Int) < (a.tests.length : Int)) = False := by simp [hkn]
  have hETst := take_all hl2 hkn hinv
  have hF : decide (a = b) = true := decide_eq_true (by cases a; cases b; simp_all)
  repeat' (first | (first | (refine AWP.go env ?_; intro K fin; try simp +decide (maxSteps := 4000000) only [hn2, hF, go_sem, Nat.reduceAdd, Nat.reduceMul]) | refine Kt.h _ _ ?_ | refine Ft.k (by decide +kernel) ?_ | ((first | refine ⟨_, same05C, ?_⟩ | refine ⟨_, sameGC, ?_⟩); simp +decide (maxSteps := 4000000) only [hn2, hF, go_sem, Nat.reduceAdd, Nat.reduceMul])) | apply cond2_intro | with_reducible apply And.intro | intro h)

theorem same07C {a b : Two} : Con Tryz.prog 73 [dTwo a, dTwo b] (.bool (decide (a = b))) := by
  refine ConC.con (ent _ Tryz.func73 rfl rfl) (con_of_body env Tryz.func73 rfl (nt := 17) (rs := [.tmp 4]) rfl rfl (Nat.le_of_ble_eq_true rfl) fun hok => ?_)
  repeat' (first | (first | (refine AWP.go env ?_; intro K fin; try simp +decide (maxSteps := 4000000) only [go_sem, Nat.reduceAdd, Nat.reduceMul]) | refine Kt.h _ _ ?_ | refine Ft.k (by decide +kernel) ?_ | ((first | refine ⟨_, same05C, ?_⟩ | refine ⟨_, sameGC, ?_⟩ | refine ⟨_, same05C, ?_⟩); simp +decide (maxSteps := 4000000) only [go_sem, Nat.reduceAdd, Nat.reduceMul])) | apply cond2_intro | with_reducible apply And.intro | intro h)
  all_goals (obtain ⟨a1, a2⟩ := a; obtain ⟨b1, b2⟩ := b; simp_all)

theorem same06C {a b : Two} : Con Tryz.prog 74 [dTwo a, dTwo b] (.bool (decide (a = b))) := by
  refine ConC.con (ent _ Tryz.func74 rfl rfl) (con_of_body env Tryz.func74 rfl (nt := 17) (rs := [.tmp 4]) rfl rfl (Nat.le_of_ble_eq_true rfl) fun hok => ?_)
  repeat' (first | (first | (refine AWP.go env ?_; intro K fin; try simp +decide (maxSteps := 4000000) only [go_sem, Nat.reduceAdd, Nat.reduceMul]) | refine Kt.h _ _ ?_ | refine Ft.k (by decide +kernel) ?_ | ((first | refine ⟨_, same05C, ?_⟩ | refine ⟨_, sameGC, ?_⟩ | refine ⟨_, same05C, ?_⟩ | refine ⟨_, same02C, ?_⟩); simp +decide (maxSteps := 4000000) only [go_sem, Nat.reduceAdd, Nat.reduceMul])) | apply cond2_intro | with_reducible apply And.intro | intro h)
  all_goals (obtain ⟨a1, a2⟩ := a; obtain ⟨b1, b2⟩ := b; simp_all)
end Go.Abs
/- Conditions and rules that are equal. -/
set_option linter.unusedSimpArgs false
set_option linter.unusedVariables false
set_option maxRecDepth 20000
set_option maxHeartbeats 4000000
namespace Go.Abs
open Go Go.RowKit Go.Proofs
attribute [local irreducible] Con AWP

mutual
def sameC : Cond → Cond → Bool
  | .mk k l m p, .mk k' l' m' p' => decide (k = k') && decide (m = m') && decide (p = p') && sameCL l l'
def sameCL : List Cond → List Cond → Bool
  | [], [] => true
  | c :: r, d :: s => sameC c d && sameCL r s
  | [], _ :: _ => false
  | _ :: _, [] => false
end

theorem sameC_eq (a b : Cond) : sameC a b = (decide (a.kind = b.kind) && decide (a.map = b.map) && decide (a.patt = b.patt) && sameCL a.kids b.kids) := by
  cases a; cases b; rw [sameC]; try rfl

theorem sameCL_len : ∀ {l m : List Cond}, sameCL l m = true → l.length = m.length
  | [], [], _ => rfl
  | c :: r, d :: s, h => by
    rw [sameCL, Bool.and_eq_true] at h
    simp [sameCL_len h.2]
  | [], _ :: _, h => by simp [sameCL] at h
  | _ :: _, [], h => by simp [sameCL] at h

theorem sameCL_app : ∀ {a : List Cond} {l c m : List Cond}, a.length = c.length → sameCL (a ++ l) (c ++ m) = (sameCL a c && sameCL l m)
  | [], l, [], m, _ => by simp [sameCL]
  | x :: a, l, y :: c, m, h => by
    rw [List.cons_append, List.cons_append, sameCL, sameCL, sameCL_app (by simpa using h), Bool.and_assoc]
  | [], _, _ :: _, _, h => by simp at h
  | _ :: _, _, [], _, h => by simp at h

mutual
theorem sameC_refl : ∀ a : Cond, sameC a a = true
  | .mk k l m p => by rw [sameC, sameCL_refl l]; simp
theorem sameCL_refl : ∀ l : List Cond, sameCL l l = true
  | [] => rfl
  | c :: r => by rw [sameCL, sameC_refl c, sameCL_refl r]; try rfl
end

/-- Two lists of one length, as far as they are walked. -/
structure Two2 (l m : List Cond) where
  a : List Cond
  b : List Cond
  c : List Cond
  d : List Cond
  e1 : l = a ++ b
  e2 : m = c ++ d
  len : a.length = c.length
  same : sameCL a c = true

theorem rSameStepC {x y : Cond} (ih : ∀ k ∈ x.kids, ∀ j : Cond, Con Tryz.prog 75 [dCond k, dCond j] (.bool (sameC k j))) : Con Tryz.prog 75 [dCond x, dCond y] (.bool (sameC x y)) := by
  have hw := sameC_eq x y
  by_cases h1 : x.kind = y.kind
  case neg =>
    have q1 : (x.kind != y.kind) = true := by simpa using h1
    have hF : sameC x y = false := by rw [hw]; simp [h1]
    rw [hF]
    refine ConC.con (ent _ Tryz.func75 rfl rfl) (con_of_body env Tryz.func75 rfl (nt := 55) (rs := [.tmp 4]) rfl rfl (Nat.le_of_ble_eq_true rfl) fun hok => ?_)
    repeat' (first | (first | (refine AWP.go env ?_; intro K fin; try simp +decide (maxSteps := 4000000) only [q1, rCond, go_sem, Nat.reduceAdd, Nat.reduceMul]) | refine Kt.h _ _ ?_ | refine Ft.k (by decide +kernel) ?_ | ((first | refine ⟨_, same06C, ?_⟩ | refine ⟨_, samePC, ?_⟩ | refine ⟨_, ihk, ?_⟩); simp +decide (maxSteps := 4000000) only [q1, rCond, go_sem, Nat.reduceAdd, Nat.reduceMul])) | apply cond2_intro | with_reducible apply And.intro | intro h)
  have q1 : (x.kind != y.kind) = false := by simpa using h1
  by_cases hl : x.kids.length = y.kids.length
  case neg =>
    have q2 : ((x.kids.length : Int) != (y.kids.length : Int)) = true := by simpa using fun h => hl (by omega)
    have hF : sameC x y = false := by
      rw [hw, ← Bool.not_eq_true]; intro h
      simp only [Bool.and_eq_true] at h
      exact hl (sameCL_len h.2)
    rw [hF]
    refine ConC.con (ent _ Tryz.func75 rfl rfl) (con_of_body env Tryz.func75 rfl (nt := 55) (rs := [.tmp 4]) rfl rfl (Nat.le_of_ble_eq_true rfl) fun hok => ?_)
    repeat' (first | (first | (refine AWP.go env ?_; intro K fin; try simp +decide (maxSteps := 4000000) only [q1, q2, rCond, go_sem, Nat.reduceAdd, Nat.reduceMul]) | refine Kt.h _ _ ?_ | refine Ft.k (by decide +kernel) ?_ | ((first | refine ⟨_, same06C, ?_⟩ | refine ⟨_, samePC, ?_⟩ | refine ⟨_, ihk, ?_⟩); simp +decide (maxSteps := 4000000) only [q1, q2, rCond, go_sem, Nat.reduceAdd, Nat.reduceMul])) | apply cond2_intro | with_reducible apply And.intro | intro h)
  have q2 : ((x.kids.length : Int) != (y.kids.length : Int)) = false := by simp [hl]
  by_cases h3 : x.map = y.map
  case neg =>
    have q3 : decide (x.map = y.map) = false := decide_eq_false h3
    have hF : sameC x y = false := by rw [hw]; simp [h3]
    rw [hF]
    refine ConC.con (ent _ Tryz.func75 rfl rfl) (con_of_body env Tryz.func75 rfl (nt := 55) (rs := [.tmp 4]) rfl rfl (Nat.le_of_ble_eq_true rfl) fun hok => ?_)
    repeat' (first | (first | (refine AWP.go env ?_; intro K fin; try simp +decide (maxSteps := 4000000) only [q1, q2, q3, rCond, go_sem, Nat.reduceAdd, Nat.reduceMul]) | refine Kt.h _ _ ?_ | refine Ft.k (by decide +kernel) ?_ | ((first | refine ⟨_, same06C, ?_⟩ | refine ⟨_, samePC, ?_⟩ | refine ⟨_, ihk, ?_⟩); simp +decide (maxSteps := 4000000) only [q1, q2, q3, rCond, go_sem, Nat.reduceAdd, Nat.reduceMul])) | apply cond2_intro | with_reducible apply And.intro | intro h)
  have q3 : decide (x.map = y.map) = true := decide_eq_true h3
  by_cases h4 : x.patt = y.patt
  case neg =>
    have q4 : decide (x.patt = y.patt) = false := decide_eq_false h4
    have hF : sameC x y = false := by rw [hw]; simp [h4]
    rw [hF]
    refine ConC.con (ent _ Tryz.func75 rfl rfl) (con_of_body env Tryz.func75 rfl (nt := 55) (rs := [.tmp 4]) rfl rfl (Nat.le_of_ble_eq_true rfl) fun hok => ?_)
    repeat' (first | (first | (refine AWP.go env ?_; intro K fin; try simp +decide (maxSteps := 4000000) only [q1, q2, q3, q4, rCond, go_sem, Nat.reduceAdd, Nat.reduceMul]) | refine Kt.h _ _ ?_ | refine Ft.k (by decide +kernel) ?_ | ((first | refine ⟨_, same06C, ?_⟩ | refine ⟨_, samePC, ?_⟩ | refine ⟨_, ihk, ?_⟩); simp +decide (maxSteps := 4000000) only [q1, q2, q3, q4, rCond, go_sem, Nat.reduceAdd, Nat.reduceMul])) | apply cond2_intro | with_reducible apply And.intro | intro h)
  have q4 : decide (x.patt = y.patt) = true := decide_eq_true h4
  have hF0 : sameC x y = sameCL x.kids y.kids := by rw [hw]; simp [h1, h3, h4]
  refine ConC.con (ent _ Tryz.func75 rfl rfl) (con_of_body env Tryz.func75 rfl (nt := 55) (rs := [.tmp 4]) rfl rfl (Nat.le_of_ble_eq_true rfl) fun hok => ?_)
  obtain ⟨hlx, _⟩ := rCond_lens (hok (dCond x) (by simp))
  repeat' (first | (first | (refine AWP.go env ?_; intro K fin; try simp +decide (maxSteps := 4000000) only [q1, q2, q3, q4, rCond, go_sem, Nat.reduceAdd, Nat.reduceMul]) | refine Kt.h _ _ ?_ | refine Ft.k (by decide +kernel) ?_ | ((first | refine ⟨_, same06C, ?_⟩ | refine ⟨_, samePC, ?_⟩ | refine ⟨_, ihk, ?_⟩); simp +decide (maxSteps := 4000000) only [q1, q2, q3, q4, rCond, go_sem, Nat.reduceAdd, Nat.reduceMul])) | apply cond2_intro | with_reducible apply And.intro | intro h)
  refine AWP.lp (α := Two2 x.kids y.kids)
    (fun w => ⟨55, [(2, .ptr 200 0 0 0), (3, .ptr 300 0 0 0), (5, .int .i64 w.a.length)],
      [(200, ⟨0, true, true, 9, 39, [rCond x]⟩), (300, ⟨0, true, true, 9, 39, [rCond y]⟩)]⟩) (fun w => w.b.length) ⟨[], x.kids, [], y.kids, rfl, rfl, rfl, rfl⟩ (by simp +decide (maxSteps := 4000000) only [rCond, go_sem, Nat.reduceAdd, Nat.reduceMul]; try simp) fun w K => ?_
  obtain ⟨a, b, c, d, e1, e2, hlen, hsame⟩ := w
  have hbd : b.length = d.length := by
    have h1 := congrArg List.length e1; have h2 := congrArg List.length e2
    simp at h1 h2; omega
  cases b with
  | nil =>
    cases d with
    | cons _ _ => simp at hbd
    | nil =>
      have e1' : x.kids = a := by simpa using e1
      have e2' : y.kids = c := by simpa using e2
      have hn2 : ((a.length : Int) < (x.kids.length : Int)) = False := by simp [e1']
      have hF : sameC x y = true := by rw [hF0, e1', e2']; exact hsame
      repeat' (first | (first | (refine AWP.go env ?_; intro K fin; try simp +decide (maxSteps := 4000000) only [hn2, rCond, hF, go_sem, Nat.reduceAdd, Nat.reduceMul]) | refine Kt.h _ _ ?_ | refine Ft.k (by decide +kernel) ?_ | ((first | refine ⟨_, same06C, ?_⟩ | refine ⟨_, samePC, ?_⟩ | refine ⟨_, ihk, ?_⟩); simp +decide (maxSteps := 4000000) only [hn2, rCond, hF, go_sem, Nat.reduceAdd, Nat.reduceMul])) | apply cond2_intro | with_reducible apply And.intro | intro h)
  | cons k b =>
    cases d with
    | nil => simp at hbd
    | cons j d =>
      have hal : a.length < x.kids.length := by rw [e1]; simp
      have hcl : a.length < y.kids.length := by omega
      have hn2 : ((a.length : Int) < (x.kids.length : Int)) = True := by simp [hal]
      have hget := kid_row e1
      have hget2 : getR (y.kids.map Cond.row) a.length = rCond j := by rw [hlen]; exact kid_row e2
      have v3 : IntKind.i64.wrap ((a.length : Int) + 1) = ((a.length + 1 : Nat) : Int) := by rw [wrap64 (by omega) (by omega)]; try rfl
      have ihk := ih k (by rw [e1]; simp) j
      have hF1 : sameCL x.kids y.kids = (sameC k j && sameCL b d) := by rw [e1, e2, sameCL_app hlen, hsame, Bool.true_and, sameCL]
      by_cases hk : sameC k j = true
      · repeat' (first | (first | (refine AWP.go env ?_; intro K fin; try simp +decide (maxSteps := 4000000) only [hn2, hget, hget2, v3, rCond, hk, go_sem, Nat.reduceAdd, Nat.reduceMul]) | refine Kt.h _ _ ?_ | refine Ft.k (by decide +kernel) ?_ | ((first | refine ⟨_, same06C, ?_⟩ | refine ⟨_, samePC, ?_⟩ | refine ⟨_, ihk, ?_⟩); simp +decide (maxSteps := 4000000) only [hn2, hget, hget2, v3, rCond, hk, go_sem, Nat.reduceAdd, Nat.reduceMul])) | apply cond2_intro | with_reducible apply And.intro | intro h)
        all_goals try omega
        all_goals try (simp only [List.mem_cons, List.not_mem_nil, or_false] at h; (repeat' (first | (subst h; rfl) | rcases h with h | h)))
        refine ⟨⟨a ++ [k], b, c ++ [j], d, by simp [e1], by simp [e2], by simp [hlen], ?_⟩, by simp, by simp +decide (maxSteps := 4000000) only [rCond, go_sem, Nat.reduceAdd, Nat.reduceMul]; simp⟩
        rw [sameCL_app hlen, hsame, sameCL, hk]; try rfl
      · have hk : sameC k j = false := by simpa using hk
        have hF : sameC x y = false := by rw [hF0, hF1, hk]; try rfl
        repeat' (first | (first | (refine AWP.go env ?_; intro K fin; try simp +decide (maxSteps := 4000000) only [hn2, hget, hget2, v3, rCond, hk, hF, go_sem, Nat.reduceAdd, Nat.reduceMul]) | refine Kt.h _ _ ?_ | refine Ft.k (by decide +kernel) ?_ | ((first | refine ⟨_, same06C, ?_⟩ | refine ⟨_, samePC, ?_⟩ | refine ⟨_, ihk, ?_⟩); simp +decide (maxSteps := 4000000) only [hn2, hget, hget2, v3, rCond, hk, hF, go_sem, Nat.reduceAdd, Nat.reduceMul])) | apply cond2_intro | with_reducible apply And.intro | intro h)
        all_goals try omega
        all_goals try (simp only [List.mem_cons, List.not_mem_nil, or_false] at h; (repeat' (first | (subst h; rfl) | rcases h with h | h)))

theorem rSameC (x y : Cond) : Con Tryz.prog 75 [dCond x, dCond y] (.bool (sameC x y)) :=
  rSameStepC fun k hk j => have := kid_lt hk; rSameC k j
termination_by SizeOf.sizeOf x

def sameR (a b : Rul) : Bool := decide (a.name.toList = b.name.toList) && decide (a.inj = b.inj) && decide (a.left = b.left) && decide (a.right = b.right) && decide (a.keep = b.keep) && decide (a.into = b.into) && sameC a.cond b.cond

theorem sameR_refl (a : Rul) : sameR a a = true := by unfold sameR; simp [sameC_refl]

theorem rSameRC {a b : Rul} : Con Tryz.prog 18 [dRule a, dRule b] (.bool (sameR a b)) := by
  refine ConC.con (ent _ Tryz.func18 rfl rfl) (con_of_body env Tryz.func18 rfl (nt := 52) (rs := [.tmp 4]) rfl rfl (Nat.le_of_ble_eq_true rfl) fun hok => ?_)
  repeat' (first | (first | (refine AWP.go env ?_; intro K fin; try simp +decide (maxSteps := 4000000) only [rCond, go_sem, Nat.reduceAdd, Nat.reduceMul]) | refine Kt.h _ _ ?_ | refine Ft.k (by decide +kernel) ?_ | ((first | refine ⟨_, same06C, ?_⟩ | refine ⟨_, samePC, ?_⟩ | refine ⟨_, ihk, ?_⟩ | refine ⟨_, samePC (a := a.left) (b := b.left), ?_⟩ | refine ⟨_, samePC (a := a.right) (b := b.right), ?_⟩ | refine ⟨_, same07C (a := a.keep) (b := b.keep), ?_⟩ | refine ⟨_, same06C (a := a.into) (b := b.into), ?_⟩ | refine ⟨_, rSameC a.cond b.cond, ?_⟩); simp +decide (maxSteps := 4000000) only [rCond, go_sem, Nat.reduceAdd, Nat.reduceMul])) | apply cond2_intro | with_reducible apply And.intro | intro h)
  all_goals (unfold sameR; simp_all)
end Go.Abs
/- The inverse: the law's function. -/
set_option linter.unusedSimpArgs false
set_option linter.unusedVariables false
set_option maxRecDepth 20000
set_option maxHeartbeats 4000000
namespace Go.Abs
open Go Go.RowKit Go.Proofs
attribute [local irreducible] Con AWP

theorem Con.leP {P : Program} {f : FuncId} {args args' : List D} {r : D} (h : Con P f args r) (hl : args'.length = args.length) (hle : ∀ i, i < args'.length → LeW (getC args' i) (getC args i)) (hn : nslArgs args = false := by rfl) (hn' : nslArgs args' = false := by rfl) : Con P f args' r := by
  refine ConV.con (fun w Z0 vs h1 h2 h3 => (h.v hn) w Z0 vs h1 (by rw [h2, hl]) fun i hi => ?_) hn'
  exact (hle i (by omega)).enc (h3 i (by omega))

/-- A plain rule, as it is built. -/
structure IsPl (r : Rul) : Prop where
  l1 : r.left.slots = []
  l2 : r.left.vars = 0
  l3 : r.left.tests = []
  r1 : r.right.slots = []
  r2 : r.right.vars = 0
  r3 : r.right.tests = []
  c : r.cond = trueCond

theorem plain_le {r : Rul} (h : IsPl r) : LeW (fPlain r) (dRule r) := by
  obtain ⟨n, ⟨g1, s1, v1, t1⟩, ⟨g2, s2, v2, t2⟩, k, i, j, c⟩ := r
  obtain ⟨h1, h2, h3, h4, h5, h6, h7⟩ := h
  simp only at h1 h2 h3 h4 h5 h6 h7
  subst h1 h2 h3 h4 h5 h6 h7
  refine .agg _ _ rfl fun i hi => ?_
  have hi : i < 25 := hi
  have : i = 0 ∨ i = 1 ∨ i = 2 ∨ i = 3 ∨ i = 4 ∨ i = 5 ∨ i = 6 ∨ i = 7 ∨ i = 8 ∨ i = 9 ∨ i = 10 ∨ i = 11 ∨ i = 12 ∨ i = 13 ∨ i = 14 ∨ i = 15 ∨ i = 16 ∨ i = 17 ∨ i = 18 ∨ i = 19 ∨ i = 20 ∨ i = 21 ∨ i = 22 ∨ i = 23 ∨ i = 24 := by omega
  rcases this with rfl | rfl | rfl | rfl | rfl | rfl | rfl | rfl | rfl | rfl | rfl | rfl | rfl | rfl | rfl | rfl | rfl | rfl | rfl | rfl | rfl | rfl | rfl | rfl | rfl
  all_goals first | exact LeW.refl _ | exact LeW.nil _

/-- Nothing, as a rule. -/
def rNone : Rul := ⟨⟨#[]⟩, ⟨⟨[], []⟩, [], 0, []⟩, ⟨⟨[], []⟩, [], 0, []⟩, ⟨[], []⟩, ⟨[], []⟩, false, .mk 0 [] ⟨[], []⟩ ⟨⟨[], []⟩, [], 0, []⟩⟩

theorem sameNone : Con Tryz.prog 18 [nNone, nNone] (.bool true) := by
  have h := rSameRC (a := rNone) (b := rNone)
  rw [sameR_refl] at h
  exact h.leW 20 rfl (by decide +kernel)

theorem samePl {r : Rul} (h : IsPl r) : Con Tryz.prog 18 [fPlain r, fPlain r] (.bool true) := by
  have hs := rSameRC (a := r) (b := r)
  rw [sameR_refl] at hs
  refine hs.leP rfl fun i hi => ?_
  match i, hi with
  | 0, _ => exact plain_le h
  | 1, _ => exact plain_le h

theorem inverse_pl (r : Rul) : IsPl (inverseF r) := ⟨rfl, rfl, rfl, rfl, rfl, rfl, rfl⟩
theorem plainOf_pl (r : Rul) : IsPl (plainOf r) := ⟨rfl, rfl, rfl, rfl, rfl, rfl, rfl⟩

theorem lawRuleInverse {t : Types} {r : Rul} : Con Tryz.prog 4 [dTypes t, dRule r] (.bool true) := by
  by_cases hf : (fewTB t && fewR r) = true
  case neg =>
    have hf : (fewTB t && fewR r) = false := by simpa using hf
    refine ConC.con (ent _ Tryz.func4 rfl rfl) (con_of_body env Tryz.func4 rfl (nt := 38) (rs := [.tmp 4]) rfl rfl (Nat.le_of_ble_eq_true rfl) fun hok => ?_)
    repeat' (first | (first | (refine AWP.go env ?_; intro K fin; try simp +decide (maxSteps := 4000000) only [hf, go_sem, Nat.reduceAdd, Nat.reduceMul]) | refine Kt.h _ _ ?_ | refine Ft.k (by decide +kernel) ?_ | ((first | refine ⟨_, awakeC, ?_⟩ | refine ⟨_, fewLC (t := t) (r := r), ?_⟩ | refine ⟨_, hp, ?_⟩ | refine ⟨_, hq, ?_⟩ | refine ⟨_, hs, ?_⟩); simp +decide (maxSteps := 4000000) only [hf, go_sem, Nat.reduceAdd, Nat.reduceMul])) | apply cond2_intro | with_reducible apply And.intro | intro h)
  have hfew := fewT_attrs (fewTB_iff.1 (Bool.and_eq_true _ _ ▸ hf).1)
  by_cases h : invErrF t r = 0
  · have hp := invOkC h
    have hq := rInvOkC hfew h
    have hs := samePl (inverse_pl r)
    refine ConC.con (ent _ Tryz.func4 rfl rfl) (con_of_body env Tryz.func4 rfl (nt := 38) (rs := [.tmp 4]) rfl rfl (Nat.le_of_ble_eq_true rfl) fun hok => ?_)
    repeat' (first | (first | (refine AWP.go env ?_; intro K fin; try simp +decide (maxSteps := 4000000) only [hf, go_sem, Nat.reduceAdd, Nat.reduceMul]) | refine Kt.h _ _ ?_ | refine Ft.k (by decide +kernel) ?_ | ((first | refine ⟨_, awakeC, ?_⟩ | refine ⟨_, fewLC (t := t) (r := r), ?_⟩ | refine ⟨_, hp, ?_⟩ | refine ⟨_, hq, ?_⟩ | refine ⟨_, hs, ?_⟩); simp +decide (maxSteps := 4000000) only [hf, go_sem, Nat.reduceAdd, Nat.reduceMul])) | apply cond2_intro | with_reducible apply And.intro | intro h)
    all_goals try contradiction
    all_goals simp_all
  · have hp := invErrC h
    have hq := rInvErrC hfew h
    have hs := sameNone
    refine ConC.con (ent _ Tryz.func4 rfl rfl) (con_of_body env Tryz.func4 rfl (nt := 38) (rs := [.tmp 4]) rfl rfl (Nat.le_of_ble_eq_true rfl) fun hok => ?_)
    repeat' (first | (first | (refine AWP.go env ?_; intro K fin; try simp +decide (maxSteps := 4000000) only [hf, go_sem, Nat.reduceAdd, Nat.reduceMul]) | refine Kt.h _ _ ?_ | refine Ft.k (by decide +kernel) ?_ | ((first | refine ⟨_, awakeC, ?_⟩ | refine ⟨_, fewLC (t := t) (r := r), ?_⟩ | refine ⟨_, hp, ?_⟩ | refine ⟨_, hq, ?_⟩ | refine ⟨_, hs, ?_⟩); simp +decide (maxSteps := 4000000) only [hf, go_sem, Nat.reduceAdd, Nat.reduceMul])) | apply cond2_intro | with_reducible apply And.intro | intro h)
    all_goals try contradiction
    all_goals simp_all
end Go.Abs
/- Plain: the law's function. -/
set_option linter.unusedSimpArgs false
set_option linter.unusedVariables false
set_option maxRecDepth 20000
set_option maxHeartbeats 4000000
namespace Go.Abs
open Go Go.RowKit Go.Proofs
attribute [local irreducible] Con AWP

def plErrF (r : Rul) : Int := if graphF r.left.graph ≠ 0 then graphF r.left.graph else if graphF r.right.graph ≠ 0 then graphF r.right.graph else spanF r

theorem plErrF_ok {r : Rul} (h : plErrF r = 0) : graphF r.left.graph = 0 ∧ graphF r.right.graph = 0 ∧ spanF r = 0 := by
  unfold plErrF at h
  split at h
  · rename_i h1; exact absurd h h1
  rename_i h1
  split at h
  · rename_i h2; exact absurd h h2
  rename_i h2
  exact ⟨by simpa using h1, by simpa using h2, h⟩

theorem PlainErrC {r : Rul} (h : plErrF r ≠ 0) : Con Tryz.prog 33 [dRule r] (.tup [nNone, .int .i64 (plErrF r)]) := by
  have q00 : ((0 : Int) != 0) = false := rfl
  by_cases h1 : graphF r.left.graph = 0
  case neg =>
    have q : (graphF r.left.graph != 0) = true := by simpa using h1
    have hF : plErrF r = graphF r.left.graph := by unfold plErrF; rw [if_pos h1]
    rw [hF]
    refine ConC.con (ent _ Tryz.func33 rfl rfl) (con_of_body env Tryz.func33 rfl (nt := 53) (rs := [.cell 2 41, .tmp 3]) rfl rfl (Nat.le_of_ble_eq_true rfl) fun hok => ?_)
    repeat' (first | (first | (refine AWP.go env ?_; intro K fin; try simp +decide (maxSteps := 4000000) only [q, go_sem, Nat.reduceAdd, Nat.reduceMul]) | refine Kt.h _ _ ?_ | refine Ft.k (by decide +kernel) ?_ | ((first | refine ⟨_, graphC (g := r.left.graph), ?_⟩ | refine ⟨_, graphC (g := r.right.graph), ?_⟩ | refine ⟨_, hx, ?_⟩ | refine ⟨_, morC, ?_⟩ | refine ⟨_, hpl, ?_⟩); simp +decide (maxSteps := 4000000) only [q, go_sem, Nat.reduceAdd, Nat.reduceMul])) | apply cond2_intro | with_reducible apply And.intro | intro h)
    all_goals try contradiction
  have q1 : (graphF r.left.graph != 0) = false := by simpa using h1
  by_cases h2 : graphF r.right.graph = 0
  case neg =>
    have q : (graphF r.right.graph != 0) = true := by simpa using h2
    have hF : plErrF r = graphF r.right.graph := by unfold plErrF; rw [if_neg (by simp [h1]), if_pos h2]
    rw [hF]
    refine ConC.con (ent _ Tryz.func33 rfl rfl) (con_of_body env Tryz.func33 rfl (nt := 53) (rs := [.cell 2 41, .tmp 3]) rfl rfl (Nat.le_of_ble_eq_true rfl) fun hok => ?_)
    repeat' (first | (first | (refine AWP.go env ?_; intro K fin; try simp +decide (maxSteps := 4000000) only [q1, q, go_sem, Nat.reduceAdd, Nat.reduceMul]) | refine Kt.h _ _ ?_ | refine Ft.k (by decide +kernel) ?_ | ((first | refine ⟨_, graphC (g := r.left.graph), ?_⟩ | refine ⟨_, graphC (g := r.right.graph), ?_⟩ | refine ⟨_, hx, ?_⟩ | refine ⟨_, morC, ?_⟩ | refine ⟨_, hpl, ?_⟩); simp +decide (maxSteps := 4000000) only [q1, q, go_sem, Nat.reduceAdd, Nat.reduceMul])) | apply cond2_intro | with_reducible apply And.intro | intro h)
    all_goals try contradiction
  have q2 : (graphF r.right.graph != 0) = false := by simpa using h2
  have hF0 : plErrF r = spanF r := by unfold plErrF; rw [if_neg (by simp [h1]), if_neg (by simp [h2])]
  by_cases h3 : subF r.left.graph r.keep = 0
  case neg =>
    have hx := extErrC h3
    have q : (subF r.left.graph r.keep != 0) = true := by simpa using h3
    have hF : plErrF r = subF r.left.graph r.keep := by rw [hF0]; unfold spanF; rw [if_pos h3]
    rw [hF]
    refine ConC.con (ent _ Tryz.func33 rfl rfl) (con_of_body env Tryz.func33 rfl (nt := 53) (rs := [.cell 2 41, .tmp 3]) rfl rfl (Nat.le_of_ble_eq_true rfl) fun hok => ?_)
    repeat' (first | (first | (refine AWP.go env ?_; intro K fin; try simp +decide (maxSteps := 4000000) only [q1, q2, q, go_sem, Nat.reduceAdd, Nat.reduceMul]) | refine Kt.h _ _ ?_ | refine Ft.k (by decide +kernel) ?_ | ((first | refine ⟨_, graphC (g := r.left.graph), ?_⟩ | refine ⟨_, graphC (g := r.right.graph), ?_⟩ | refine ⟨_, hx, ?_⟩ | refine ⟨_, morC, ?_⟩ | refine ⟨_, hpl, ?_⟩); simp +decide (maxSteps := 4000000) only [q1, q2, q, go_sem, Nat.reduceAdd, Nat.reduceMul])) | apply cond2_intro | with_reducible apply And.intro | intro h)
    all_goals try contradiction
  have hx := extOkC h3
  have hF : plErrF r = morF (extractF r.left.graph r.keep) r.right.graph r.into := by rw [hF0]; unfold spanF; rw [if_neg (by simp [h3])]
  have q : (morF (extractF r.left.graph r.keep) r.right.graph r.into != 0) = true := by rw [hF] at h; simpa using h
  rw [hF]
  refine ConC.con (ent _ Tryz.func33 rfl rfl) (con_of_body env Tryz.func33 rfl (nt := 53) (rs := [.cell 2 41, .tmp 3]) rfl rfl (Nat.le_of_ble_eq_true rfl) fun hok => ?_)
  repeat' (first | (first | (refine AWP.go env ?_; intro K fin; try simp +decide (maxSteps := 4000000) only [q1, q2, q00, q, go_sem, Nat.reduceAdd, Nat.reduceMul]) | refine Kt.h _ _ ?_ | refine Ft.k (by decide +kernel) ?_ | ((first | refine ⟨_, graphC (g := r.left.graph), ?_⟩ | refine ⟨_, graphC (g := r.right.graph), ?_⟩ | refine ⟨_, hx, ?_⟩ | refine ⟨_, morC, ?_⟩ | refine ⟨_, hpl, ?_⟩); simp +decide (maxSteps := 4000000) only [q1, q2, q00, q, go_sem, Nat.reduceAdd, Nat.reduceMul])) | apply cond2_intro | with_reducible apply And.intro | intro h)
  all_goals try contradiction

theorem plErrF_lens {r : Rul} (h : plErrF r = 0) : (r.left.graph.nodes.length ≤ 40 ∧ r.left.graph.edges.length ≤ 80) ∧ (r.right.graph.nodes.length ≤ 40 ∧ r.right.graph.edges.length ≤ 80) ∧
    (r.keep.nodes.length ≤ 40 ∧ r.keep.edges.length ≤ 80) ∧ r.into.nodes.length = r.keep.nodes.length ∧ r.into.edges.length = r.keep.edges.length := by
  obtain ⟨hg, hg', hs⟩ := plErrF_ok h
  obtain ⟨hsub, hm⟩ := spanF_ok hs
  obtain ⟨gl1, gl2, _, _⟩ := graphF_ok hg
  obtain ⟨gr1, gr2, _, _⟩ := graphF_ok hg'
  obtain ⟨_, a1, a2, _⟩ := subF_ok hsub
  have := ascF_len a1
  have := ascF_len a2
  have hl := morF_lens hm
  exact ⟨⟨gl1, gl2⟩, ⟨gr1, gr2⟩, ⟨by omega, by omega⟩, by simpa [extractF] using hl⟩

theorem PlainOkC {r : Rul} (h : plErrF r = 0) : Con Tryz.prog 33 [dRule r] (.tup [nPlain (plainOf r), .int .i64 0]) := by
  have q00 : ((0 : Int) != 0) = false := rfl
  obtain ⟨h1, h2, hs⟩ := plErrF_ok h
  obtain ⟨h3, h4⟩ := spanF_ok hs
  obtain ⟨⟨gl1, gl2⟩, ⟨gr1, gr2⟩, ⟨k1, k2⟩, i1, i2⟩ := plErrF_lens h
  have q1 : (graphF r.left.graph != 0) = false := by simpa using h1
  have q2 : (graphF r.right.graph != 0) = false := by simpa using h2
  have hx := extOkC h3
  have q : (morF (extractF r.left.graph r.keep) r.right.graph r.into != 0) = false := by simpa using h4
  have hpl := plainRC (r := r) (by omega) (by omega) (by omega) (by omega) (by omega) (by omega) (by omega) (by omega)
  refine ConC.con (ent _ Tryz.func33 rfl rfl) (con_of_body env Tryz.func33 rfl (nt := 53) (rs := [.cell 2 41, .tmp 3]) rfl rfl (Nat.le_of_ble_eq_true rfl) fun hok => ?_)
  repeat' (first | (first | (refine AWP.go env ?_; intro K fin; try simp +decide (maxSteps := 4000000) only [q1, q2, q00, q, go_sem, Nat.reduceAdd, Nat.reduceMul]) | refine Kt.h _ _ ?_ | refine Ft.k (by decide +kernel) ?_ | ((first | refine ⟨_, graphC (g := r.left.graph), ?_⟩ | refine ⟨_, graphC (g := r.right.graph), ?_⟩ | refine ⟨_, hx, ?_⟩ | refine ⟨_, morC, ?_⟩ | refine ⟨_, hpl, ?_⟩); simp +decide (maxSteps := 4000000) only [q1, q2, q00, q, go_sem, Nat.reduceAdd, Nat.reduceMul])) | apply cond2_intro | with_reducible apply And.intro | intro h)
  all_goals try contradiction
  all_goals rfl

theorem rPlainErrC {r : Rul} (h : plErrF r ≠ 0) : Con Tryz.prog 34 [dRule r] (.tup [nNone, .int .i64 (plErrF r)]) := by
  by_cases h1 : graphF r.left.graph = 0
  case neg =>
    have q : (graphF r.left.graph != 0) = true := by simpa using h1
    have hF : plErrF r = graphF r.left.graph := by unfold plErrF; rw [if_pos h1]
    rw [hF]
    refine ConC.con (ent _ Tryz.func34 rfl rfl) (con_of_body env Tryz.func34 rfl (nt := 31) (rs := [.cell 2 41, .tmp 3]) rfl rfl (Nat.le_of_ble_eq_true rfl) fun hok => ?_)
    repeat' (first | (first | (refine AWP.go env ?_; intro K fin; try simp +decide (maxSteps := 4000000) only [q, go_sem, Nat.reduceAdd, Nat.reduceMul]) | refine Kt.h _ _ ?_ | refine Ft.k (by decide +kernel) ?_ | ((first | refine ⟨_, rGraphC (g := r.left.graph), ?_⟩ | refine ⟨_, rGraphC (g := r.right.graph), ?_⟩ | refine ⟨_, spanC (r := r), ?_⟩ | refine ⟨_, hpl, ?_⟩); simp +decide (maxSteps := 4000000) only [q, go_sem, Nat.reduceAdd, Nat.reduceMul])) | apply cond2_intro | with_reducible apply And.intro | intro h)
    all_goals try contradiction
  have q1 : (graphF r.left.graph != 0) = false := by simpa using h1
  by_cases h2 : graphF r.right.graph = 0
  case neg =>
    have q : (graphF r.right.graph != 0) = true := by simpa using h2
    have hF : plErrF r = graphF r.right.graph := by unfold plErrF; rw [if_neg (by simp [h1]), if_pos h2]
    rw [hF]
    refine ConC.con (ent _ Tryz.func34 rfl rfl) (con_of_body env Tryz.func34 rfl (nt := 31) (rs := [.cell 2 41, .tmp 3]) rfl rfl (Nat.le_of_ble_eq_true rfl) fun hok => ?_)
    repeat' (first | (first | (refine AWP.go env ?_; intro K fin; try simp +decide (maxSteps := 4000000) only [q1, q, go_sem, Nat.reduceAdd, Nat.reduceMul]) | refine Kt.h _ _ ?_ | refine Ft.k (by decide +kernel) ?_ | ((first | refine ⟨_, rGraphC (g := r.left.graph), ?_⟩ | refine ⟨_, rGraphC (g := r.right.graph), ?_⟩ | refine ⟨_, spanC (r := r), ?_⟩ | refine ⟨_, hpl, ?_⟩); simp +decide (maxSteps := 4000000) only [q1, q, go_sem, Nat.reduceAdd, Nat.reduceMul])) | apply cond2_intro | with_reducible apply And.intro | intro h)
    all_goals try contradiction
  have q2 : (graphF r.right.graph != 0) = false := by simpa using h2
  have hF : plErrF r = spanF r := by unfold plErrF; rw [if_neg (by simp [h1]), if_neg (by simp [h2])]
  have q : (spanF r != 0) = true := by rw [hF] at h; simpa using h
  rw [hF]
  refine ConC.con (ent _ Tryz.func34 rfl rfl) (con_of_body env Tryz.func34 rfl (nt := 31) (rs := [.cell 2 41, .tmp 3]) rfl rfl (Nat.le_of_ble_eq_true rfl) fun hok => ?_)
  repeat' (first | (first | (refine AWP.go env ?_; intro K fin; try simp +decide (maxSteps := 4000000) only [q1, q2, q, go_sem, Nat.reduceAdd, Nat.reduceMul]) | refine Kt.h _ _ ?_ | refine Ft.k (by decide +kernel) ?_ | ((first | refine ⟨_, rGraphC (g := r.left.graph), ?_⟩ | refine ⟨_, rGraphC (g := r.right.graph), ?_⟩ | refine ⟨_, spanC (r := r), ?_⟩ | refine ⟨_, hpl, ?_⟩); simp +decide (maxSteps := 4000000) only [q1, q2, q, go_sem, Nat.reduceAdd, Nat.reduceMul])) | apply cond2_intro | with_reducible apply And.intro | intro h)
  all_goals try contradiction

theorem rPlainOkC {r : Rul} (h : plErrF r = 0) : Con Tryz.prog 34 [dRule r] (.tup [nPlain (plainOf r), .int .i64 0]) := by
  obtain ⟨h1, h2, hs⟩ := plErrF_ok h
  obtain ⟨⟨gl1, gl2⟩, ⟨gr1, gr2⟩, ⟨k1, k2⟩, i1, i2⟩ := plErrF_lens h
  have q1 : (graphF r.left.graph != 0) = false := by simpa using h1
  have q2 : (graphF r.right.graph != 0) = false := by simpa using h2
  have q : (spanF r != 0) = false := by simpa using hs
  have hpl := rPlainRC (r := r) (by omega) (by omega) (by omega) (by omega) (by omega) (by omega) (by omega) (by omega)
  refine ConC.con (ent _ Tryz.func34 rfl rfl) (con_of_body env Tryz.func34 rfl (nt := 31) (rs := [.cell 2 41, .tmp 3]) rfl rfl (Nat.le_of_ble_eq_true rfl) fun hok => ?_)
  repeat' (first | (first | (refine AWP.go env ?_; intro K fin; try simp +decide (maxSteps := 4000000) only [q1, q2, q, go_sem, Nat.reduceAdd, Nat.reduceMul]) | refine Kt.h _ _ ?_ | refine Ft.k (by decide +kernel) ?_ | ((first | refine ⟨_, rGraphC (g := r.left.graph), ?_⟩ | refine ⟨_, rGraphC (g := r.right.graph), ?_⟩ | refine ⟨_, spanC (r := r), ?_⟩ | refine ⟨_, hpl, ?_⟩); simp +decide (maxSteps := 4000000) only [q1, q2, q, go_sem, Nat.reduceAdd, Nat.reduceMul])) | apply cond2_intro | with_reducible apply And.intro | intro h)
  all_goals try contradiction
  all_goals rfl

theorem lawRulePlain {r : Rul} : Con Tryz.prog 7 [dRule r] (.bool true) := by
  by_cases hf : fewR r = true
  case neg =>
    have hf : fewR r = false := by simpa using hf
    refine ConC.con (ent _ Tryz.func7 rfl rfl) (con_of_body env Tryz.func7 rfl (nt := 33) (rs := [.tmp 2]) rfl rfl (Nat.le_of_ble_eq_true rfl) fun hok => ?_)
    repeat' (first | (first | (refine AWP.go env ?_; intro K fin; try simp +decide (maxSteps := 4000000) only [hf, go_sem, Nat.reduceAdd, Nat.reduceMul]) | refine Kt.h _ _ ?_ | refine Ft.k (by decide +kernel) ?_ | ((first | refine ⟨_, awakeC, ?_⟩ | refine ⟨_, fewRC (r := r), ?_⟩ | refine ⟨_, hp, ?_⟩ | refine ⟨_, hq, ?_⟩ | refine ⟨_, hs, ?_⟩); simp +decide (maxSteps := 4000000) only [hf, go_sem, Nat.reduceAdd, Nat.reduceMul])) | apply cond2_intro | with_reducible apply And.intro | intro h)
  by_cases h : plErrF r = 0
  · have hp := PlainOkC h
    have hq := rPlainOkC h
    have hs := samePl (plainOf_pl r)
    refine ConC.con (ent _ Tryz.func7 rfl rfl) (con_of_body env Tryz.func7 rfl (nt := 33) (rs := [.tmp 2]) rfl rfl (Nat.le_of_ble_eq_true rfl) fun hok => ?_)
    repeat' (first | (first | (refine AWP.go env ?_; intro K fin; try simp +decide (maxSteps := 4000000) only [hf, go_sem, Nat.reduceAdd, Nat.reduceMul]) | refine Kt.h _ _ ?_ | refine Ft.k (by decide +kernel) ?_ | ((first | refine ⟨_, awakeC, ?_⟩ | refine ⟨_, fewRC (r := r), ?_⟩ | refine ⟨_, hp, ?_⟩ | refine ⟨_, hq, ?_⟩ | refine ⟨_, hs, ?_⟩); simp +decide (maxSteps := 4000000) only [hf, go_sem, Nat.reduceAdd, Nat.reduceMul])) | apply cond2_intro | with_reducible apply And.intro | intro h)
    all_goals try contradiction
    all_goals simp_all
  · have hp := PlainErrC h
    have hq := rPlainErrC h
    have hs := sameNone
    refine ConC.con (ent _ Tryz.func7 rfl rfl) (con_of_body env Tryz.func7 rfl (nt := 33) (rs := [.tmp 2]) rfl rfl (Nat.le_of_ble_eq_true rfl) fun hok => ?_)
    repeat' (first | (first | (refine AWP.go env ?_; intro K fin; try simp +decide (maxSteps := 4000000) only [hf, go_sem, Nat.reduceAdd, Nat.reduceMul]) | refine Kt.h _ _ ?_ | refine Ft.k (by decide +kernel) ?_ | ((first | refine ⟨_, awakeC, ?_⟩ | refine ⟨_, fewRC (r := r), ?_⟩ | refine ⟨_, hp, ?_⟩ | refine ⟨_, hq, ?_⟩ | refine ⟨_, hs, ?_⟩); simp +decide (maxSteps := 4000000) only [hf, go_sem, Nat.reduceAdd, Nat.reduceMul])) | apply cond2_intro | with_reducible apply And.intro | intro h)
    all_goals try contradiction
    all_goals simp_all
end Go.Abs
/- RulePlain holds of every input. Its row, out of the contract of its function. -/
namespace Go.Proofs.YticiiadkpddgoaaGreat.rulePlain
open Go Go.Abs Go.ChangeShapes Go.WideShapes Go.ChangeAt Go.RowKit
set_option linter.unusedVariables false
theorem own : ownKnob Tryz.prog.godebug = none := by kernel_rfl
theorem laidOut : laidOutB Tryz.prog = true := by kernel_rfl
set_option maxRecDepth 100000 in
theorem lifted (os : Os) (started : os.Started) (H : Type) (enc : TypeId × Value → H) :
    ReturnsInHanded {} Tryz.checked os 7 .any (Rows.rulePlainSpec.pre6 enc Tryz.prog Tryz.f7 Rows.rulePlainRow.domain false) (Rows.rulePlainSpec.post enc Tryz.prog Tryz.f7 false true false false) := by
  refine returnsInHanded_of_change_sized (C := Tryz.checked) own started (by kernel_rfl) Tryz.func7
    (ChangeSpec.witness6 (enc := enc) (C := Tryz.checked) false ⟨#[], #[.agg #[.string ByteArray.empty, .slice none 0 0, .slice none 0 0, .slice none 0 0, .int .i64 0, .slice none 0 0, .slice none 0 0, .slice none 0 0, .slice none 0 0, .int .i64 0, .slice none 0 0, .slice none 0 0, .slice none 0 0, .slice none 0 0, .slice none 0 0, .bool false, .int .i64 0, .slice none 0 0, .slice none 0 0, .slice none 0 0, .slice none 0 0, .slice none 0 0, .slice none 0 0, .int .i64 0, .slice none 0 0]], []⟩ 8 (by kernel_rfl) (by kernel_rfl) (by kernel_rfl) (by kernel_rfl)) ?_
  intro W base args ds gs before hval0 hW hcnd hsz0 _
  have hsz : (DataW.weightsEach Tryz.prog (Tryz.f7.params.toList ++ Rows.rulePlainSpec.plain.varTypes Tryz.prog) (ds ++ gs)).all (· ≤ reachBytes) = true := hsz0
  have hval : ∀ (j : Nat) t v, Tryz.f7.params[j]? = some t → args[j]? = some v → Value.okWide Tryz.prog W .any base t v := hval0
  have hW' := hW
  obtain ⟨p, q, hA0, hV, rfl, hfz, hnd⟩ := hW
  have hA : DataW.TrodAll enc Tryz.prog W 0 (fun _ => true) true Tryz.f7.params.toList args.toList ds p := hA0
  rw [Tryz.params7] at hA hval hsz
  obtain ⟨v0, vs0, d0, ds0, p0, q0, hargs, rfl, rfl, h0, r0⟩ := trodAll_cons hA
  obtain ⟨rfl, rfl, rfl⟩ := trodAll_nil r0
  obtain rfl : args = #[v0] := by cases args; simp_all
  obtain ⟨rfl, rfl⟩ := trodVars_none hV
  have hwt := List.all_eq_true.1 hsz
  have k0 := h0
  have lt0 : ∀ x ∈ p0, x.block < W.heap.size := by obtain ⟨m, hm⟩ := k0; exact DataW.trod_lt m _ _ _ hm
  have w0 : ∀ n ∈ d0.weights Tryz.prog 41, n ≤ reachBytes := fun n hn => of_decide_eq_true (hwt n (weights_each _ _ rfl 0 41 d0 rfl rfl n hn))
  obtain ⟨cs0, sh0, e0⟩ := arg_struct tok covSR (by decide) Tryz.underlying41 (hval 0 41 v0 rfl rfl) h0 w0
  obtain ⟨x0, rfl⟩ := sh_Rule sh0
  clear hA0 hval0 hsz0 hsz
  refine (Con.calls_true (ent _ Tryz.func7 rfl rfl) (lawRulePlain (r := x0)) rfl rfl fun i hi => ?_).mono fun e W' ⟨he, bel⟩ => ?_
  · match i, hi with
    | 0, _ => exact e0
  subst he
  exact ⟨_, rfl, _, _, _, [], _, [], hW', trodAll_mk1 (shut_bool Tryz.underlying4 _), (trodAll_cons_mk (Below.trod laidOut (by kernel_rfl) (of_decide_eq_true (by kernel_rfl)) k0 bel lt0) trodAll_mk0), rfl, bel.frame _, fun h => by cases h⟩
/-- The functions that it leads to. -/
theorem clo : Tryz.prog.closure 7 = [7, 12, 43, 44, 19, 14, 46, 105, 47, 107, 185, 245, 246, 247, 248, 249, 287, 250, 286, 294, 251, 288, 295, 178, 177, 240, 179, 180, 242, 241, 285, 243, 106, 181, 183, 182, 244, 184, 48, 91, 108, 186, 158, 159, 160, 161, 110, 187, 109, 111, 112, 113, 188, 197, 255, 252, 114, 189, 253, 115, 190, 49, 116, 191, 192, 117, 194, 193, 254, 50, 92, 162, 229, 278, 279, 163, 224, 277, 230, 86, 93, 118, 195, 87, 156, 227, 228, 155, 218, 219, 272, 220, 273, 274, 221, 275, 276, 292, 222, 223, 225, 226, 233, 51, 119, 196, 141, 52, 120, 121, 122, 198, 256, 289, 53, 123, 199, 257, 258, 290, 259, 200, 124, 201, 260, 64, 21, 16, 63, 139, 65, 140, 215, 66, 25, 32, 88, 36, 89, 37, 90, 157, 33, 34, 94, 164, 165, 58, 134, 209, 268, 269, 80, 151, 135, 69, 143, 18, 72, 145, 146, 73, 74, 147, 75] := by kernel_rfl
theorem unf : Tryz.prog.unfollowed 7 = true := by unfold Program.unfollowed; rw [clo]; kernel_rfl
theorem and2 {a b : Bool} (h : a = true) (k : b = true) : (a && b) = true := by rw [h, k]; try rfl
theorem fact0 : Rows.rulePlainRow.wf (OpenSpec.ofChange Rows.rulePlainSpec) = true := by kernel_rfl
theorem fact1 : laidOutB Tryz.prog = true := by kernel_rfl
theorem fact2 : mapsRowed Tryz.prog = true := by kernel_rfl
theorem fact3 : Tryz.f7.params.all (Tryz.prog.readableRec ·) = true := by kernel_rfl
theorem fact4 : namedTie Tryz.prog Rows.rulePlainRow.named Rows.rulePlainSpec.vars = true := by kernel_rfl
theorem fact5 : (Rows.rulePlainRow.stops == []) = true := by kernel_rfl
theorem fact6 : (Tryz.prog.stops == []) = true := by kernel_rfl
theorem fact7 : (Rows.rulePlainRow.knobs == []) = true := by kernel_rfl
theorem fact8 : (Tryz.prog.stopKnobs == []) = true := by kernel_rfl
theorem fact9 : (Rows.rulePlainRow.inPlace == Tryz.prog.inPlace 7) = true := by unfold Program.inPlace; rw [clo]; kernel_rfl
theorem fact10 : (Rows.rulePlainRow.unfollowed == Tryz.prog.unfollowed 7) = true := by rw [unf]; kernel_rfl
theorem fact11 : (Rows.rulePlainRow.recurses == Tryz.prog.recurses 7) = true := by unfold Program.recurses; rw [unf]; kernel_rfl
theorem fact12 : (Rows.rulePlainRow.named == Tryz.prog.varsNamed 7) = true := by unfold Program.varsNamed; rw [clo]; kernel_rfl
theorem fact13 : (Rows.rulePlainRow.maps == (Tryz.f7.params.toList ++ Rows.rulePlainSpec.plain.varTypes Tryz.prog).any (Tryz.prog.mapsRec ·)) = true := by kernel_rfl
theorem fact14 : (Rows.rulePlainRow.ifaces == (Tryz.f7.params.toList ++ Rows.rulePlainSpec.plain.varTypes Tryz.prog).any (Tryz.prog.ifacesRec ·)) = true := by kernel_rfl
theorem fact15 : (Rows.rulePlainRow.mapsOut == Tryz.prog.mapsAmong Tryz.f7.resultTypes.toList) = true := by kernel_rfl
theorem fact16 : (Rows.rulePlainRow.loops == (Tryz.f7.params.toList ++ Rows.rulePlainSpec.plain.varTypes Tryz.prog).any (Tryz.prog.loopsFrom ·)) = true := by kernel_rfl
theorem fact17 : (Rows.rulePlainRow.wideKeys == (Tryz.f7.params.toList ++ Rows.rulePlainSpec.plain.varTypes Tryz.prog ++ Tryz.f7.resultTypes.toList).any (Tryz.prog.wideKeysFrom ·)) = true := by kernel_rfl
theorem fact18 : Rows.rulePlainSpec.vars.all (Tryz.prog.varReadable ·) = true := by kernel_rfl
theorem fact19 : Tryz.f7.resultTypes.all (fun t => Tryz.prog.readableRec t && decide (t < Tryz.prog.types.size)) = true := by kernel_rfl
theorem fact20 : (Rows.rulePlainRow.ifacesOut == Tryz.f7.resultTypes.toList.any (Tryz.prog.ifacesRec ·)) = true := by kernel_rfl
theorem fact21 : (Rows.rulePlainRow.loopsOut == Tryz.f7.resultTypes.toList.any (Tryz.prog.loopsFrom ·)) = true := by kernel_rfl
theorem fact22 : (Rows.rulePlainRow.plainKeys == Tryz.prog.plainKeys) = true := by kernel_rfl
theorem fact23 : Rows.rulePlainRow.shortTexts.isNone = true := by kernel_rfl
theorem fact24 : Tryz.prog.stopsHeard = true := by kernel_rfl
theorem fact25 : Tryz.prog.mayEnter = true := by kernel_rfl
theorem fact26 : (Rows.rulePlainRow.lifted == Tryz.prog.liftsFinal) = true := by kernel_rfl
theorem fact27 : (Tryz.prog.make == some Rows.rulePlainRow.make) = true := by kernel_rfl
theorem fact29 : (Rows.rulePlainRow.pinned == Rows.rulePlainRow.pinnedBy) = true := by kernel_rfl
theorem fact30 : (Rows.rulePlainRow.veiled == (Tryz.f7.params.toList ++ Rows.rulePlainSpec.plain.varTypes Tryz.prog ++ Tryz.f7.resultTypes.toList).any (Tryz.prog.veiledRec ·)) = true := by kernel_rfl
theorem fact31 : Rows.rulePlainRow.veiledFits Tryz.prog Tryz.f7.params.toList (Tryz.f7.params.toList ++ Rows.rulePlainSpec.plain.varTypes Tryz.prog ++ Tryz.f7.resultTypes.toList) = true := by kernel_rfl
theorem facts : joinedFacts Tryz.prog 7 Tryz.f7 Rows.rulePlainSpec Rows.rulePlainRow = true := by
  unfold joinedFacts
  exact (and2 (and2 (and2 (and2 (and2 (and2 (and2 (and2 (and2 (and2 (and2 (and2 (and2 (and2 (and2 (and2 (and2 (and2 (and2 (and2 (and2 (and2 (and2 (and2 (and2 (and2 (and2 (and2 (and2 (and2 (and2 fact0 fact1) fact2) fact3) fact4) fact5) fact6) fact7) fact8) fact9) fact10) fact11) fact12) fact13) fact14) fact15) fact16) fact17) fact18) fact19) fact20) fact21) fact22) fact23) fact24) fact25) fact26) fact27) (by kernel_rfl)) fact29) fact30) fact31)
theorem named : Tryz.pinned.checked.prog.funcNamed Rows.rulePlainRow.func = some 7 := by kernel_rfl
theorem over : Rows.rulePlainRow.holds Tryz.pinned (OpenSpec.ofChange Rows.rulePlainSpec) :=
  OpenClaim.holds_of_wide 7 Tryz.f7 rfl rfl rfl rfl rfl rfl rfl ⟨rfl, rfl, rfl, rfl, rfl⟩ rfl rfl rfl rfl rfl named Tryz.func7 facts
    (of_decide_eq_true (by kernel_rfl)) (by unfold Func.isWrapper; first | (rw [if_pos (by decide +kernel)]; kernel_rfl) | (rw [if_neg (by decide +kernel)]; exact ⟨rfl, rfl⟩))
    (fun os started H enc _ => lifted os started H enc)
theorem proved : Rows.RulePlainSaid := over
#print axioms proved
end Go.Proofs.YticiiadkpddgoaaGreat.rulePlain
namespace Go.Proofs.YticiiadkpddgoaaGreat
/-- The statement. -/
theorem rulePlain_holds : Rows.RulePlainSaid := rulePlain.proved
end Go.Proofs.YticiiadkpddgoaaGreat

