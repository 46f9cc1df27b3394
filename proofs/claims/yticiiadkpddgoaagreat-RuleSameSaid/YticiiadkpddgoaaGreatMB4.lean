import Derived.Test.YticiiadkpddgoaaGreatMB3
/- Morphisms. -/
set_option linter.unusedSimpArgs false
set_option linter.unusedVariables false
set_option maxRecDepth 20000
set_option maxHeartbeats 4000000
set_option linter.unusedSimpArgs false
set_option linter.unusedVariables false
namespace Go.Abs
open Go Go.RowKit Go.Proofs
attribute [local irreducible] Con AWP

theorem graphF_ok {g : Graph} (h : graphF g = 0) : g.nodes.length ≤ 40 ∧ g.edges.length ≤ 80 ∧ (∀ n ∈ g.nodes, 0 ≤ n ∧ n ≤ 99) ∧ ∀ e ∈ g.edges, edgeOk e g.nodes.length = true := by
  unfold graphF at h
  split at h
  · cases h
  split at h
  · cases h
  split at h
  · cases h
  rename_i h1 h2 h3
  refine ⟨by omega, by omega, fun n hn => ?_, fun e he => ?_⟩
  · have h2 : (g.nodes.any fun t => !(decide (0 ≤ t) && decide (t ≤ 99))) = false := by simpa using h2
    have := List.any_eq_false.1 h2 n hn
    simp at this; exact this
  · have h3 : (g.edges.any fun e => !edgeOk e g.nodes.length) = false := by simpa using h3
    have := List.any_eq_false.1 h3 e he
    simpa using this

theorem zip_get {X Y : Type} {xs : List X} {ys : List Y} {pre post : List (X × Y)} {x : X} {y : Y} (h : xs.zip ys = pre ++ (x, y) :: post) : xs[pre.length]? = some x ∧ ys[pre.length]? = some y := by
  have h1 : (xs.zip ys)[pre.length]? = some (x, y) := by rw [h]; simp
  exact List.getElem?_zip_eq_some.1 h1

theorem getR_some {X : Type} {f : X → List D} {l : List X} {i : Nat} {x : X} (h : l[i]? = some x) : getR (l.map f) i = f x ∧ i < l.length := by
  obtain ⟨hi, rfl⟩ := List.getElem?_eq_some_iff.1 h
  exact ⟨getR_map _ _ _ hi, hi⟩

def nodeIn (g : Graph) (k : Int) : Int := g.nodes.getD k.toNat 0
def mapAt (m : Two) (i : Int) : Int := m.nodes.getD i.toNat 0

theorem ints_row {l : List Int} {k : Int} (h0 : 0 ≤ k) (h1 : k < l.length) : getR (l.map rI) k.toNat = [.int .i64 (l.getD k.toNat 0)] := by
  have hk : k.toNat < l.length := by omega
  rw [getR_map _ _ _ hk, List.getD_eq_getElem?_getD, List.getElem?_eq_getElem hk]; try rfl

def morNodeF (b : Graph) (x : Int × Int) : Int := if x.2 < 0 ∨ (b.nodes.length : Int) ≤ x.2 then 6 else if nodeIn b x.2 ≠ x.1 then 13 else 0
def morEdgeF (b : Graph) (m : Two) (x : Edge × Int) : Int :=
  if x.2 < 0 ∨ (b.edges.length : Int) ≤ x.2 then 6 else if x.1.typ ≠ (edgeAt b x.2).typ then 13
  else if mapAt m x.1.src ≠ (edgeAt b x.2).src ∨ mapAt m x.1.tgt ≠ (edgeAt b x.2).tgt then 11 else 0

def morF (a b : Graph) (m : Two) : Int :=
  if graphF a ≠ 0 then graphF a else if graphF b ≠ 0 then graphF b
  else if m.nodes.length ≠ a.nodes.length ∨ m.edges.length ≠ a.edges.length then 20
  else if firstErr (morNodeF b) (a.nodes.zip m.nodes) ≠ 0 then firstErr (morNodeF b) (a.nodes.zip m.nodes)
  else firstErr (morEdgeF b m) (a.edges.zip m.edges)

theorem morC {a b : Graph} {m : Two} : Con Tryz.prog 93 [dGraph a, dGraph b, dTwo m] (.int .i64 (morF a b m)) := by
  refine ConC.con (ent _ Tryz.func93 rfl rfl) (con_of_body env Tryz.func93 rfl (nt := 123) (rs := [.tmp 6]) rfl rfl (Nat.le_of_ble_eq_true rfl) fun hok => ?_)
  repeat' (first | (first | (refine AWP.go env ?_; intro K fin; try simp +decide (maxSteps := 4000000) only [go_sem, Nat.reduceAdd, Nat.reduceMul]) | refine Kt.h _ _ ?_ | refine Ft.k (by decide +kernel) ?_ | ((first | refine ⟨_, graphC (g := a), ?_⟩ | refine ⟨_, graphC (g := b), ?_⟩); simp +decide (maxSteps := 4000000) only [go_sem, Nat.reduceAdd, Nat.reduceMul])) | apply cond2_intro | with_reducible apply And.intro | intro h)
  · unfold morF; rw [if_pos (by simpa using h)]
  · have h0 : (graphF a != 0) = false := by assumption
    unfold morF; rw [if_neg (by simpa using h0), if_pos (by simpa using h)]
  · have h0 : (graphF a != 0) = false := by assumption
    have h1 : (graphF b != 0) = false := by assumption
    unfold morF; rw [if_neg (by simpa using h0), if_neg (by simpa using h1), if_pos (.inl (by simp at h; omega))]
  · have h0 : (graphF a != 0) = false := by assumption
    have h1 : (graphF b != 0) = false := by assumption
    unfold morF; rw [if_neg (by simpa using h0), if_neg (by simpa using h1), if_pos (.inr (by simp at h; omega))]
  have ha0 : graphF a = 0 := by have h0 : (graphF a != 0) = false := by assumption
                                simpa using h0
  have hb0 : graphF b = 0 := by have h0 : (graphF b != 0) = false := by assumption
                                simpa using h0
  have hnl : m.nodes.length = a.nodes.length := by
    have h0 : ((m.nodes.length : Int) != (a.nodes.length : Int)) = false := by assumption
    simp at h0; omega
  have hel : m.edges.length = a.edges.length := by simp at h; omega
  obtain ⟨ga1, ga2, ga3, ga4⟩ := graphF_ok ha0
  have hF : morF a b m = if firstErr (morNodeF b) (a.nodes.zip m.nodes) ≠ 0 then firstErr (morNodeF b) (a.nodes.zip m.nodes) else firstErr (morEdgeF b m) (a.edges.zip m.edges) := by
    unfold morF; rw [if_neg (by simp [ha0]), if_neg (by simp [hb0]), if_neg (by omega)]
  have hz1 : (a.nodes.zip m.nodes).length = m.nodes.length := by simp; omega
  have hz2 : (a.edges.zip m.edges).length = m.edges.length := by simp; omega
  refine AWP.lp (α := Way (a.nodes.zip m.nodes) fun _ d => firstErr (morNodeF b) d = firstErr (morNodeF b) (a.nodes.zip m.nodes))
    (fun w => ⟨123, [(3, .ptr 300 0 0 0), (4, .ptr 400 0 0 0), (5, .ptr 500 0 0 0), (42, dInts m.nodes), (43, .int .i64 m.nodes.length), (44, .int .i64 w.pre.length)],
      [(300, ⟨0, true, true, 2, 29, [[dInts a.nodes, .fsl 3 (a.edges.map rEdge)]]⟩), (400, ⟨0, true, true, 2, 29, [[dInts b.nodes, .fsl 3 (b.edges.map rEdge)]]⟩), (500, ⟨0, true, true, 2, 36, [[dInts m.nodes, dInts m.edges]]⟩)]⟩) (fun w => w.post.length) ⟨[], a.nodes.zip m.nodes, rfl, rfl⟩ (by simp +decide (maxSteps := 4000000) only [go_sem, Nat.reduceAdd, Nat.reduceMul]; try simp) fun w K => ?_
  obtain ⟨c, d, hcd, hinv⟩ := w
  cases d with
  | nil =>
    have hcl : c.length = m.nodes.length := by rw [← hz1, hcd]; simp
    have hn2 : ((c.length : Int) < (m.nodes.length : Int)) = False := by simp; omega
    repeat' (first | (first | (refine AWP.go env ?_; intro K fin; try simp +decide (maxSteps := 4000000) only [hn2, go_sem, Nat.reduceAdd, Nat.reduceMul]) | refine Kt.h _ _ ?_ | refine Ft.k (by decide +kernel) ?_ | ((first | refine ⟨_, graphC (g := a), ?_⟩ | refine ⟨_, graphC (g := b), ?_⟩); simp +decide (maxSteps := 4000000) only [hn2, go_sem, Nat.reduceAdd, Nat.reduceMul])) | apply cond2_intro | with_reducible apply And.intro | intro h)
    have hN : firstErr (morNodeF b) (a.nodes.zip m.nodes) = 0 := by rw [← hinv]; try rfl
    refine AWP.lp (α := Way (a.edges.zip m.edges) fun _ d => firstErr (morEdgeF b m) d = firstErr (morEdgeF b m) (a.edges.zip m.edges))
      (fun w => ⟨123, [(3, .ptr 300 0 0 0), (4, .ptr 400 0 0 0), (5, .ptr 500 0 0 0), (71, dInts m.edges), (72, .int .i64 m.edges.length), (73, .int .i64 w.pre.length)],
        [(300, ⟨0, true, true, 2, 29, [[dInts a.nodes, .fsl 3 (a.edges.map rEdge)]]⟩), (400, ⟨0, true, true, 2, 29, [[dInts b.nodes, .fsl 3 (b.edges.map rEdge)]]⟩), (500, ⟨0, true, true, 2, 36, [[dInts m.nodes, dInts m.edges]]⟩)]⟩) (fun w => w.post.length) ⟨[], a.edges.zip m.edges, rfl, rfl⟩ (by simp +decide (maxSteps := 4000000) only [go_sem, Nat.reduceAdd, Nat.reduceMul]; try simp) fun w K => ?_
    obtain ⟨e, f, hef, hinv2⟩ := w
    rw [hN, if_neg (by simp)] at hF
    cases f with
    | nil =>
      have hel2 : e.length = m.edges.length := by rw [← hz2, hef]; simp
      have hn3 : ((e.length : Int) < (m.edges.length : Int)) = False := by simp; omega
      repeat' (first | (first | (refine AWP.go env ?_; intro K fin; try simp +decide (maxSteps := 4000000) only [hn3, go_sem, Nat.reduceAdd, Nat.reduceMul]) | refine Kt.h _ _ ?_ | refine Ft.k (by decide +kernel) ?_ | ((first | refine ⟨_, graphC (g := a), ?_⟩ | refine ⟨_, graphC (g := b), ?_⟩); simp +decide (maxSteps := 4000000) only [hn3, go_sem, Nat.reduceAdd, Nat.reduceMul])) | apply cond2_intro | with_reducible apply And.intro | intro h)
      rw [hF, ← hinv2]; try rfl
    | cons x f =>
      obtain ⟨x, k⟩ := x
      obtain ⟨hx1, hx2⟩ := zip_get hef
      obtain ⟨hg1, hl1⟩ := getR_some (f := rEdge) hx1
      obtain ⟨hg2, hl2⟩ := getR_some (f := rI) hx2
      unfold rEdge at hg1
      have hg1 : getR (a.edges.map rEdge) e.length = [.int .i64 x.typ, .int .i64 x.src, .int .i64 x.tgt] := hg1
      have hg2 : getR (m.edges.map rI) e.length = [.int .i64 k] := hg2
      have hn3 : ((e.length : Int) < (m.edges.length : Int)) = True := by simp; omega
      have v3 := wk_i' (t := e.length) (by omega)
      have hok2 := ga4 x (List.mem_of_getElem? hx1)
      unfold edgeOk at hok2
      simp only [Bool.and_eq_true, decide_eq_true_eq] at hok2
      have hm1 := ints_row (l := m.nodes) (k := x.src) hok2.1.2.1 (by omega)
      have hm2 := ints_row (l := m.nodes) (k := x.tgt) hok2.2.1 (by omega)
      by_cases hr : k < 0 ∨ (b.edges.length : Int) ≤ k
      · have hf : morEdgeF b m (x, k) = 6 := by unfold morEdgeF; rw [if_pos hr]
        have h6 : 6 = morF a b m := by rw [hF, ← hinv2, firstErr, hf]; try rfl
        rcases hr with hr | hr
        · have q : (k < 0) = True := by simpa using hr
          repeat' (first | (first | (refine AWP.go env ?_; intro K fin; try simp +decide (maxSteps := 4000000) only [hn3, hg1, hg2, v3, q, go_sem, Nat.reduceAdd, Nat.reduceMul]) | refine Kt.h _ _ ?_ | refine Ft.k (by decide +kernel) ?_ | ((first | refine ⟨_, graphC (g := a), ?_⟩ | refine ⟨_, graphC (g := b), ?_⟩); simp +decide (maxSteps := 4000000) only [hn3, hg1, hg2, v3, q, go_sem, Nat.reduceAdd, Nat.reduceMul])) | apply cond2_intro | with_reducible apply And.intro | intro h)
          all_goals first | omega | exact h6
        · have q : ((b.edges.length : Int) ≤ k) = True := by simpa using hr
          repeat' (first | (first | (refine AWP.go env ?_; intro K fin; try simp +decide (maxSteps := 4000000) only [hn3, hg1, hg2, v3, q, go_sem, Nat.reduceAdd, Nat.reduceMul]) | refine Kt.h _ _ ?_ | refine Ft.k (by decide +kernel) ?_ | ((first | refine ⟨_, graphC (g := a), ?_⟩ | refine ⟨_, graphC (g := b), ?_⟩); simp +decide (maxSteps := 4000000) only [hn3, hg1, hg2, v3, q, go_sem, Nat.reduceAdd, Nat.reduceMul])) | apply cond2_intro | with_reducible apply And.intro | intro h)
          all_goals first | omega | exact h6
      · have q1 : (k < 0) = False := by simp; omega
        have q2 : ((b.edges.length : Int) ≤ k) = False := by simp; omega
        have hge := edgeAt_row (g := b) (k := k) (by omega) (by omega)
        have hf : morEdgeF b m (x, k) = if x.typ ≠ (edgeAt b k).typ then 13 else if mapAt m x.src ≠ (edgeAt b k).src ∨ mapAt m x.tgt ≠ (edgeAt b k).tgt then 11 else 0 := by unfold morEdgeF; rw [if_neg hr]
        have hm1 : getR (m.nodes.map rI) x.src.toNat = [.int .i64 (mapAt m x.src)] := hm1
        have hm2 : getR (m.nodes.map rI) x.tgt.toNat = [.int .i64 (mapAt m x.tgt)] := hm2
        repeat' (first | (first | (refine AWP.go env ?_; intro K fin; try simp +decide (maxSteps := 4000000) only [hn3, hg1, hg2, v3, q1, q2, hge, hm1, hm2, go_sem, Nat.reduceAdd, Nat.reduceMul]) | refine Kt.h _ _ ?_ | refine Ft.k (by decide +kernel) ?_ | ((first | refine ⟨_, graphC (g := a), ?_⟩ | refine ⟨_, graphC (g := b), ?_⟩); simp +decide (maxSteps := 4000000) only [hn3, hg1, hg2, v3, q1, q2, hge, hm1, hm2, go_sem, Nat.reduceAdd, Nat.reduceMul])) | apply cond2_intro | with_reducible apply And.intro | intro h)
        all_goals try omega
        all_goals try (simp only [List.mem_cons, List.not_mem_nil, or_false] at h; (repeat' (first | (subst h; rfl) | rcases h with h | h)))
        · have h' : (x.typ != (edgeAt b k).typ) = true := by assumption
          have hv : morEdgeF b m (x, k) = 13 := by rw [hf, if_pos (by simpa using h')]
          rw [hF, ← hinv2, firstErr, hv]; try rfl
        · have h1 : (x.typ != (edgeAt b k).typ) = false := by assumption
          have h' : (mapAt m x.src != (edgeAt b k).src) = true := by assumption
          have hv : morEdgeF b m (x, k) = 11 := by rw [hf, if_neg (by simpa using h1), if_pos (.inl (by simpa using h'))]
          rw [hF, ← hinv2, firstErr, hv]; try rfl
        · have h1 : (x.typ != (edgeAt b k).typ) = false := by assumption
          have h' : (mapAt m x.tgt != (edgeAt b k).tgt) = true := by assumption
          have hv : morEdgeF b m (x, k) = 11 := by rw [hf, if_neg (by simpa using h1), if_pos (.inr (by simpa using h'))]
          rw [hF, ← hinv2, firstErr, hv]; try rfl
        · have h1 : (x.typ != (edgeAt b k).typ) = false := by assumption
          have h2 : (mapAt m x.src != (edgeAt b k).src) = false := by assumption
          have h3 : (mapAt m x.tgt != (edgeAt b k).tgt) = false := by assumption
          have hv : morEdgeF b m (x, k) = 0 := by rw [hf, if_neg (by simpa using h1), if_neg (by simp at h2 h3; omega)]
          refine ⟨⟨e ++ [(x, k)], f, by simp [hef], ?_⟩, by simp, by simp +decide (maxSteps := 4000000) only [go_sem, Nat.reduceAdd, Nat.reduceMul]; simp⟩
          rw [← hinv2, firstErr, hv]; simp
  | cons x d =>
    obtain ⟨x, k⟩ := x
    obtain ⟨hx1, hx2⟩ := zip_get hcd
    obtain ⟨hg1, hl1⟩ := getR_some (f := rI) hx1
    obtain ⟨hg2, hl2⟩ := getR_some (f := rI) hx2
    have hg1 : getR (a.nodes.map rI) c.length = [.int .i64 x] := hg1
    have hg2 : getR (m.nodes.map rI) c.length = [.int .i64 k] := hg2
    have hn3 : ((c.length : Int) < (m.nodes.length : Int)) = True := by simp; omega
    have v3 := wk_i' (t := c.length) (by omega)
    by_cases hr : k < 0 ∨ (b.nodes.length : Int) ≤ k
    · have hf : morNodeF b (x, k) = 6 := by unfold morNodeF; rw [if_pos hr]
      have h6 : 6 = morF a b m := by rw [hF, ← hinv, firstErr, hf]; try rfl
      rcases hr with hr | hr
      · have q : (k < 0) = True := by simpa using hr
        repeat' (first | (first | (refine AWP.go env ?_; intro K fin; try simp +decide (maxSteps := 4000000) only [hn3, hg1, hg2, v3, q, go_sem, Nat.reduceAdd, Nat.reduceMul]) | refine Kt.h _ _ ?_ | refine Ft.k (by decide +kernel) ?_ | ((first | refine ⟨_, graphC (g := a), ?_⟩ | refine ⟨_, graphC (g := b), ?_⟩); simp +decide (maxSteps := 4000000) only [hn3, hg1, hg2, v3, q, go_sem, Nat.reduceAdd, Nat.reduceMul])) | apply cond2_intro | with_reducible apply And.intro | intro h)
        all_goals first | omega | exact h6
      · have q : ((b.nodes.length : Int) ≤ k) = True := by simpa using hr
        repeat' (first | (first | (refine AWP.go env ?_; intro K fin; try simp +decide (maxSteps := 4000000) only [hn3, hg1, hg2, v3, q, go_sem, Nat.reduceAdd, Nat.reduceMul]) | refine Kt.h _ _ ?_ | refine Ft.k (by decide +kernel) ?_ | ((first | refine ⟨_, graphC (g := a), ?_⟩ | refine ⟨_, graphC (g := b), ?_⟩); simp +decide (maxSteps := 4000000) only [hn3, hg1, hg2, v3, q, go_sem, Nat.reduceAdd, Nat.reduceMul])) | apply cond2_intro | with_reducible apply And.intro | intro h)
        all_goals first | omega | exact h6
    · have q1 : (k < 0) = False := by simp; omega
      have q2 : ((b.nodes.length : Int) ≤ k) = False := by simp; omega
      have hge : getR (b.nodes.map rI) k.toNat = [.int .i64 (nodeIn b k)] := ints_row (l := b.nodes) (k := k) (by omega) (by omega)
      have hf : morNodeF b (x, k) = if nodeIn b k ≠ x then 13 else 0 := by unfold morNodeF; rw [if_neg hr]
      repeat' (first | (first | (refine AWP.go env ?_; intro K fin; try simp +decide (maxSteps := 4000000) only [hn3, hg1, hg2, v3, q1, q2, hge, go_sem, Nat.reduceAdd, Nat.reduceMul]) | refine Kt.h _ _ ?_ | refine Ft.k (by decide +kernel) ?_ | ((first | refine ⟨_, graphC (g := a), ?_⟩ | refine ⟨_, graphC (g := b), ?_⟩); simp +decide (maxSteps := 4000000) only [hn3, hg1, hg2, v3, q1, q2, hge, go_sem, Nat.reduceAdd, Nat.reduceMul])) | apply cond2_intro | with_reducible apply And.intro | intro h)
      all_goals try omega
      · have h' : (nodeIn b k != x) = true := by assumption
        have hv : morNodeF b (x, k) = 13 := by rw [hf, if_pos (by simpa using h')]
        rw [hF, ← hinv, firstErr, hv]; try rfl
      · have h' : (nodeIn b k != x) = false := by assumption
        have hv : morNodeF b (x, k) = 0 := by rw [hf, if_neg (by simpa using h')]
        refine ⟨⟨c ++ [(x, k)], d, by simp [hcd], ?_⟩, by simp, by simp +decide (maxSteps := 4000000) only [go_sem, Nat.reduceAdd, Nat.reduceMul]; simp⟩
        rw [← hinv, firstErr, hv]; simp
end Go.Abs
/- Lists without repetition. -/
set_option linter.unusedSimpArgs false
set_option linter.unusedVariables false
set_option maxRecDepth 20000
set_option maxHeartbeats 4000000
namespace Go.Abs
open Go Go.RowKit Go.Proofs
attribute [local irreducible] Con AWP

def distF (l : List Int) : Bool := decide l.Nodup

theorem compact_full {s : List Int} (hs : s.Pairwise (· ≤ ·)) : (Lib.compact s).length = s.length ↔ s.Nodup := by
  have h1 : (Lib.compact s).length = ((List.range s.length).filter (Lib.keeps s.toArray)).length := by unfold Lib.compact Lib.compactUpTo; rw [List.length_map]
  have h2 : (Lib.compact s).length = s.length ↔ ∀ i ∈ List.range s.length, Lib.keeps s.toArray i = true := by
    rw [h1]
    have := List.length_filter_eq_length_iff (p := Lib.keeps s.toArray) (l := List.range s.length)
    rwa [List.length_range] at this
  rw [h2]
  have hk : ∀ i (hi : i < s.length), 0 < i → (Lib.keeps s.toArray i = true ↔ s[i] ≠ s[i - 1]'(by omega)) := fun i hi h0 => by
    have e1 : s.toArray[i]! = s[i] := by rw [getElem!_pos s.toArray i (by simpa using hi)]; simp
    have e2 : s.toArray[i - 1]! = s[i - 1]'(by omega) := by rw [getElem!_pos s.toArray (i - 1) (by simp; omega)]; simp
    unfold Lib.keeps
    rw [e1, e2, decide_eq_true_eq]
    constructor
    · rintro (h | h)
      · omega
      · exact h
    · exact .inr
  constructor
  · intro h
    rw [List.Nodup, List.pairwise_iff_getElem]
    -- neighbours differ, so the list rises
    have step : ∀ i (hi : i + 1 < s.length), s[i] < s[i + 1] := fun i hi => by
      have h3 := (hk (i + 1) hi (by omega)).1 (h (i + 1) (by simpa using hi))
      have h4 := List.pairwise_iff_getElem.1 hs i (i + 1) (by omega) hi (by omega)
      have h5 : s[i + 1] ≠ s[i] := h3
      omega
    have rise : ∀ d i (hi : i + d + 1 < s.length), s[i]'(by omega) < s[i + d + 1] := by
      intro d
      induction d with
      | zero => intro i hi; exact step i hi
      | succ d ih =>
        intro i hi
        have h3 := ih i (by omega)
        have h4 := step (i + d + 1) (by omega)
        have h5 : s[i + (d + 1) + 1] = s[i + d + 1 + 1]'(by omega) := by congr 1
        omega
    intro i j hi hj hij
    have h3 := rise (j - i - 1) i (by omega)
    have h4 : s[i + (j - i - 1) + 1]'(by omega) = s[j] := by congr 1; omega
    omega
  · intro h i hi
    have hi : i < s.length := by simpa using hi
    by_cases h0 : i = 0
    · subst h0; unfold Lib.keeps; simp
    · refine (hk i hi (by omega)).2 ?_
      have := List.pairwise_iff_getElem.1 h (i - 1) i (by omega) hi (by omega)
      exact fun e => this e.symm

theorem compact_sort (l : List Int) : (((Lib.compact (l.mergeSort fun x y => decide (x ≤ y))).length : Int) == (l.length : Int)) = distF l := by
  have hp := List.mergeSort_perm l (fun x y : Int => decide (x ≤ y))
  have hs : (l.mergeSort fun x y => decide (x ≤ y)).Pairwise (· ≤ ·) := by
    have := List.pairwise_mergeSort (le := fun x y : Int => decide (x ≤ y)) (by intro a b c; simp; omega) (by intro a b; simp; omega) l
    simpa using this
  have h1 := compact_full hs
  have hl : (l.mergeSort fun x y => decide (x ≤ y)).length = l.length := List.length_mergeSort _
  rw [hl] at h1
  have h2 : (l.mergeSort fun x y => decide (x ≤ y)).Nodup ↔ l.Nodup := hp.nodup_iff
  unfold distF
  by_cases h : l.Nodup
  · have := h1.2 (h2.2 h)
    simp [h, this]
  · have : ¬ (Lib.compact (l.mergeSort fun x y => decide (x ≤ y))).length = l.length := fun e => h (h2.1 (h1.1 e))
    simp [h]; omega

theorem imagesC {l : List Int} (h : l.length ≤ 1000000) : Con Tryz.prog 195 [dInts l] (.int .i64 ((Lib.compact (l.mergeSort fun x y => decide (x ≤ y))).length : Int)) := by
  have hcl := cloneIntC (rows := l.map rI) (by simpa using h)
  refine ConC.con (ent _ Tryz.func195 rfl rfl) (con_of_body env Tryz.func195 rfl (nt := 11) (rs := [.tmp 2]) rfl rfl (Nat.le_of_ble_eq_true rfl) fun hok => ?_)
  repeat' (first | (first | (refine AWP.go env ?_; intro K fin; try simp +decide (maxSteps := 4000000) only [go_sem, Nat.reduceAdd, Nat.reduceMul]) | refine Kt.h _ _ ?_ | refine Ft.k (by decide +kernel) ?_ | ((first | refine ⟨_, hcl, ?_⟩ | refine ⟨_, sortC (xs := l), ?_⟩ | refine ⟨_, compactC (xs := l.mergeSort fun x y => decide (x ≤ y)), ?_⟩); simp +decide (maxSteps := 4000000) only [go_sem, Nat.reduceAdd, Nat.reduceMul])) | apply cond2_intro | with_reducible apply And.intro | intro h)

/-- A morphism without error that leads to different things. -/
def injF (a b : Graph) (m : Two) : Bool := morF a b m == 0 && distF m.nodes && distF m.edges

theorem morF_len {a b : Graph} {m : Two} (h : morF a b m = 0) : m.nodes.length ≤ 40 ∧ m.edges.length ≤ 80 ∧ graphF a = 0 ∧ graphF b = 0 := by
  unfold morF at h
  split at h
  · rename_i h1; exact absurd h h1
  split at h
  · rename_i h1; exact absurd h h1
  split at h
  · cases h
  rename_i h1 h2 h3
  have ha : graphF a = 0 := by simpa using h1
  obtain ⟨g1, g2, _, _⟩ := graphF_ok ha
  exact ⟨by omega, by omega, ha, by simpa using h2⟩

theorem injC {a b : Graph} {m : Two} : Con Tryz.prog 118 [dGraph a, dGraph b, dTwo m] (.bool (injF a b m)) := by
  by_cases h0 : morF a b m = 0
  · obtain ⟨l1, l2, _, _⟩ := morF_len h0
    have hi1 := imagesC (l := m.nodes) (by omega)
    have hi2 := imagesC (l := m.edges) (by omega)
    have q : (morF a b m == 0) = true := by simpa using h0
    have q1 := compact_sort m.nodes
    have q2 := compact_sort m.edges
    have hF : injF a b m = (distF m.nodes && distF m.edges) := by unfold injF; rw [q]; try rfl
    rw [hF]
    refine ConC.con (ent _ Tryz.func118 rfl rfl) (con_of_body env Tryz.func118 rfl (nt := 30) (rs := [.tmp 6]) rfl rfl (Nat.le_of_ble_eq_true rfl) fun hok => ?_)
    repeat' (first | (first | (refine AWP.go env ?_; intro K fin; try simp +decide (maxSteps := 4000000) only [q, q1, q2, go_sem, Nat.reduceAdd, Nat.reduceMul]) | refine Kt.h _ _ ?_ | refine Ft.k (by decide +kernel) ?_ | ((first | refine ⟨_, hcl, ?_⟩ | refine ⟨_, sortC (xs := l), ?_⟩ | refine ⟨_, compactC (xs := l.mergeSort fun x y => decide (x ≤ y)), ?_⟩ | refine ⟨_, morC, ?_⟩ | refine ⟨_, hi1, ?_⟩ | refine ⟨_, hi2, ?_⟩); simp +decide (maxSteps := 4000000) only [q, q1, q2, go_sem, Nat.reduceAdd, Nat.reduceMul])) | apply cond2_intro | with_reducible apply And.intro | intro h)
    all_goals first | (rw [show distF m.nodes = true by assumption]; rfl) | (rw [show distF m.nodes = false by assumption]; try rfl)
  · have q : (morF a b m == 0) = false := by simpa using h0
    have hF : injF a b m = false := by unfold injF; rw [q]; try rfl
    rw [hF]
    refine ConC.con (ent _ Tryz.func118 rfl rfl) (con_of_body env Tryz.func118 rfl (nt := 30) (rs := [.tmp 6]) rfl rfl (Nat.le_of_ble_eq_true rfl) fun hok => ?_)
    repeat' (first | (first | (refine AWP.go env ?_; intro K fin; try simp +decide (maxSteps := 4000000) only [q, go_sem, Nat.reduceAdd, Nat.reduceMul]) | refine Kt.h _ _ ?_ | refine Ft.k (by decide +kernel) ?_ | ((first | refine ⟨_, hcl, ?_⟩ | refine ⟨_, sortC (xs := l), ?_⟩ | refine ⟨_, compactC (xs := l.mergeSort fun x y => decide (x ≤ y)), ?_⟩ | refine ⟨_, morC, ?_⟩ | refine ⟨_, hi1, ?_⟩ | refine ⟨_, hi2, ?_⟩); simp +decide (maxSteps := 4000000) only [q, go_sem, Nat.reduceAdd, Nat.reduceMul])) | apply cond2_intro | with_reducible apply And.intro | intro h)

theorem rDistC {l : List Int} : Con Tryz.prog 59 [dInts l] (.bool (distF l)) := by
  refine ConC.con (ent _ Tryz.func59 rfl rfl) (con_of_body env Tryz.func59 rfl (nt := 25) (rs := [.tmp 2]) rfl rfl (Nat.le_of_ble_eq_true rfl) fun hok => ?_)
  have hlen : l.length ≤ 140737488355328 := by simpa using (hok _ (List.mem_cons_self ..)).len
  repeat' (first | (first | (refine AWP.go env ?_; intro K fin; try simp +decide (maxSteps := 4000000) only [go_sem, Nat.reduceAdd, Nat.reduceMul]) | refine Kt.h _ _ ?_ | refine Ft.k (by decide +kernel) ?_ | ((first | refine ⟨_, hcl, ?_⟩ | refine ⟨_, sortC (xs := l), ?_⟩ | refine ⟨_, compactC (xs := l.mergeSort fun x y => decide (x ≤ y)), ?_⟩ | refine ⟨_, morC, ?_⟩ | refine ⟨_, hi1, ?_⟩ | refine ⟨_, hi2, ?_⟩); simp +decide (maxSteps := 4000000) only [go_sem, Nat.reduceAdd, Nat.reduceMul])) | apply cond2_intro | with_reducible apply And.intro | intro h)
  refine AWP.lp (α := Way l fun a _ => a.Nodup)
    (fun w => ⟨25, [(0, dInts l), (3, .int .i64 w.pre.length)], []⟩) (fun w => w.post.length) ⟨[], l, rfl, List.nodup_nil⟩ (by simp +decide (maxSteps := 4000000) only [go_sem, Nat.reduceAdd, Nat.reduceMul]; try simp) fun w K => ?_
  obtain ⟨a, b, hab, hinv⟩ := w
  cases b with
  | nil =>
    have hab : l = a := by simpa using hab
    have hn2 : ((a.length : Int) < (l.length : Int)) = False := by simp [hab]
    repeat' (first | (first | (refine AWP.go env ?_; intro K fin; try simp +decide (maxSteps := 4000000) only [hn2, go_sem, Nat.reduceAdd, Nat.reduceMul]) | refine Kt.h _ _ ?_ | refine Ft.k (by decide +kernel) ?_ | ((first | refine ⟨_, hcl, ?_⟩ | refine ⟨_, sortC (xs := l), ?_⟩ | refine ⟨_, compactC (xs := l.mergeSort fun x y => decide (x ≤ y)), ?_⟩ | refine ⟨_, morC, ?_⟩ | refine ⟨_, hi1, ?_⟩ | refine ⟨_, hi2, ?_⟩); simp +decide (maxSteps := 4000000) only [hn2, go_sem, Nat.reduceAdd, Nat.reduceMul])) | apply cond2_intro | with_reducible apply And.intro | intro h)
    rw [hab]; unfold distF; simp [hinv]
  | cons y b =>
    have hal : a.length < l.length := by rw [hab]; simp
    have hn2 : ((a.length : Int) < (l.length : Int)) = True := by simp [hal]
    have hget : getR (l.map rI) a.length = [.int .i64 y] := by rw [hab]; simp [getR, rI]
    have v3 : IntKind.i64.wrap ((a.length : Int) + 1) = ((a.length + 1 : Nat) : Int) := by rw [wrap64 (by omega) (by omega)]; try rfl
    repeat' (first | (first | (refine AWP.go env ?_; intro K fin; try simp +decide (maxSteps := 4000000) only [hn2, go_sem, Nat.reduceAdd, Nat.reduceMul]) | refine Kt.h _ _ ?_ | refine Ft.k (by decide +kernel) ?_ | ((first | refine ⟨_, hcl, ?_⟩ | refine ⟨_, sortC (xs := l), ?_⟩ | refine ⟨_, compactC (xs := l.mergeSort fun x y => decide (x ≤ y)), ?_⟩ | refine ⟨_, morC, ?_⟩ | refine ⟨_, hi1, ?_⟩ | refine ⟨_, hi2, ?_⟩); simp +decide (maxSteps := 4000000) only [hn2, go_sem, Nat.reduceAdd, Nat.reduceMul])) | apply cond2_intro | with_reducible apply And.intro | intro h)
    refine AWP.lp (α := Way a fun c _ => (c.any fun z => y == z) = false)
      (fun w => ⟨25, [(0, dInts l), (3, .int .i64 a.length), (4, .int .i64 w.pre.length)], []⟩) (fun w => w.post.length) ⟨[], a, rfl, rfl⟩ (by simp +decide (maxSteps := 4000000) only [go_sem, Nat.reduceAdd, Nat.reduceMul]; try simp) fun w K => ?_
    obtain ⟨c, d, hcd, hinv2⟩ := w
    cases d with
    | nil =>
      have hcd : a = c := by simpa using hcd
      have hn4 : ((c.length : Int) < (a.length : Int)) = False := by simp [hcd]
      repeat' (first | (first | (refine AWP.go env ?_; intro K fin; try simp +decide (maxSteps := 4000000) only [hn4, v3, go_sem, Nat.reduceAdd, Nat.reduceMul]) | refine Kt.h _ _ ?_ | refine Ft.k (by decide +kernel) ?_ | ((first | refine ⟨_, hcl, ?_⟩ | refine ⟨_, sortC (xs := l), ?_⟩ | refine ⟨_, compactC (xs := l.mergeSort fun x y => decide (x ≤ y)), ?_⟩ | refine ⟨_, morC, ?_⟩ | refine ⟨_, hi1, ?_⟩ | refine ⟨_, hi2, ?_⟩); simp +decide (maxSteps := 4000000) only [hn4, v3, go_sem, Nat.reduceAdd, Nat.reduceMul])) | apply cond2_intro | with_reducible apply And.intro | intro h)
      refine ⟨⟨a ++ [y], b, by simp [hab], ?_⟩, by simp, by simp +decide (maxSteps := 4000000) only [go_sem, Nat.reduceAdd, Nat.reduceMul]; simp⟩
      rw [← hcd] at hinv2
      rw [List.nodup_append]
      refine ⟨hinv, by simp, fun u hu v hv => ?_⟩
      obtain rfl : v = y := by simpa using hv
      intro e
      subst e
      have := List.any_eq_false.1 hinv2 u hu
      simp at this
    | cons z d =>
      have hcl : c.length < a.length := by rw [hcd]; simp
      have hn4 : ((c.length : Int) < (a.length : Int)) = True := by simp [hcl]
      have hget2 : getR (l.map rI) c.length = [.int .i64 z] := by rw [hab, hcd]; simp [getR, rI]
      have v4 : IntKind.i64.wrap ((c.length : Int) + 1) = ((c.length + 1 : Nat) : Int) := by rw [wrap64 (by omega) (by omega)]; try rfl
      repeat' (first | (first | (refine AWP.go env ?_; intro K fin; try simp +decide (maxSteps := 4000000) only [hn4, hget, hget2, v4, go_sem, Nat.reduceAdd, Nat.reduceMul]) | refine Kt.h _ _ ?_ | refine Ft.k (by decide +kernel) ?_ | ((first | refine ⟨_, hcl, ?_⟩ | refine ⟨_, sortC (xs := l), ?_⟩ | refine ⟨_, compactC (xs := l.mergeSort fun x y => decide (x ≤ y)), ?_⟩ | refine ⟨_, morC, ?_⟩ | refine ⟨_, hi1, ?_⟩ | refine ⟨_, hi2, ?_⟩); simp +decide (maxSteps := 4000000) only [hn4, hget, hget2, v4, go_sem, Nat.reduceAdd, Nat.reduceMul])) | apply cond2_intro | with_reducible apply And.intro | intro h)
      all_goals try omega
      · have h' : (y == z) = true := by assumption
        have : y = z := by simpa using h'
        have hnd : ¬ l.Nodup := by
          intro hd
          rw [hab, hcd, List.nodup_append] at hd
          exact hd.2.2 z (by simp) y (by simp) this.symm
        unfold distF; simp [hnd]
      · have h' : (y == z) = false := by assumption
        refine ⟨⟨c ++ [z], d, by simp [hcd], ?_⟩, by simp, by simp +decide (maxSteps := 4000000) only [go_sem, Nat.reduceAdd, Nat.reduceMul]; simp⟩
        rw [List.any_append, hinv2, List.any_cons, h']; try rfl

theorem rInjC {a b : Graph} {m : Two} (hrm : Con Tryz.prog 135 [dGraph a, dGraph b, dTwo m] (.int .i64 (morF a b m))) : Con Tryz.prog 214 [dGraph a, dGraph b, dTwo m] (.bool (injF a b m)) := by
  refine ConC.con (ent _ Tryz.func214 rfl rfl) (con_of_body env Tryz.func214 rfl (nt := 22) (rs := [.tmp 6]) rfl rfl (Nat.le_of_ble_eq_true rfl) fun hok => ?_)
  repeat' (first | (first | (refine AWP.go env ?_; intro K fin; try simp +decide (maxSteps := 4000000) only [go_sem, Nat.reduceAdd, Nat.reduceMul]) | refine Kt.h _ _ ?_ | refine Ft.k (by decide +kernel) ?_ | ((first | refine ⟨_, hcl, ?_⟩ | refine ⟨_, sortC (xs := l), ?_⟩ | refine ⟨_, compactC (xs := l.mergeSort fun x y => decide (x ≤ y)), ?_⟩ | refine ⟨_, morC, ?_⟩ | refine ⟨_, hi1, ?_⟩ | refine ⟨_, hi2, ?_⟩ | refine ⟨_, hrm, ?_⟩ | refine ⟨_, rDistC (l := m.nodes), ?_⟩ | refine ⟨_, rDistC (l := m.edges), ?_⟩); simp +decide (maxSteps := 4000000) only [go_sem, Nat.reduceAdd, Nat.reduceMul])) | apply cond2_intro | with_reducible apply And.intro | intro h)
  all_goals (unfold injF; grind)
end Go.Abs
/- Attributes of nodes of patterns. -/
set_option linter.unusedSimpArgs false
set_option linter.unusedVariables false
set_option maxRecDepth 20000
set_option maxHeartbeats 4000000
namespace Go.Abs
open Go Go.RowKit Go.Proofs
attribute [local irreducible] Con AWP

theorem awithinC {n a b : Int} : Con Tryz.prog 112 [.int .i64 n, .int .i64 a, .int .i64 b] (.bool (decide (a ≤ n) && decide (n ≤ b))) := by
  refine ConC.con (ent _ Tryz.func112 rfl rfl) (con_of_body env Tryz.func112 rfl (nt := 15) (rs := [.tmp 6]) rfl rfl (Nat.le_of_ble_eq_true rfl) fun hok => ?_)
  repeat' (first | (first | (refine AWP.go env ?_; intro K fin; try simp +decide (maxSteps := 4000000) only [go_sem, Nat.reduceAdd, Nat.reduceMul]) | refine Kt.h _ _ ?_ | refine Ft.k (by decide +kernel) ?_) | apply cond2_intro | with_reducible apply And.intro | intro h)
  all_goals grind

/-- Whether a slot of a pattern has an attribute. -/
def attrB (t : Types) (g : Graph) (node idx : Int) : Bool :=
  decide (0 ≤ node) && decide (node < g.nodes.length) && (decide (0 ≤ idx) && decide (idx < (attrsOf t (nodeIn g node)).length))

def attrAt (t : Types) (g : Graph) (node idx : Int) : Attr := (attrsOf t (nodeIn g node)).getD idx.toNat ⟨⟨#[]⟩, 0, 0, []⟩

/-- What is asked of an attribute of a node. -/
def rAttrOf (t : Types) (g : Graph) (node idx : Int) : D := if attrB t g node idx = true then .tup [.agg (rAttr (attrAt t g node idx)), .bool true] else .tup [.agg [.str ⟨#[]⟩, .int .i64 0, .int .i64 0, .nil], .bool false]

theorem attrs_row {l : List Attr} {k : Int} (h0 : 0 ≤ k) (h1 : k < l.length) : getR (l.map rAttr) k.toNat = rAttr (l.getD k.toNat ⟨⟨#[]⟩, 0, 0, []⟩) := by
  have hk : k.toNat < l.length := by omega
  rw [getR_map _ _ _ hk, List.getD_eq_getElem?_getD, List.getElem?_eq_getElem hk]; try rfl

theorem nodeIn_mem {g : Graph} {k : Int} (h0 : 0 ≤ k) (h1 : k < g.nodes.length) : nodeIn g k ∈ g.nodes := by
  have hk : k.toNat < g.nodes.length := by omega
  unfold nodeIn; rw [List.getD_eq_getElem?_getD, List.getElem?_eq_getElem hk]; exact List.getElem_mem hk

theorem attrC {t : Types} {p : Patt} {s : Slot} (h0 : (typesF t).2 = 0) (hg : ∀ n ∈ p.graph.nodes, 0 ≤ n ∧ n < t.nodes.length) (hl : p.graph.nodes.length ≤ 1000) :
    Con Tryz.prog 113 [dTypes t, dPatt p, .agg (rSlot s)] (rAttrOf t p.graph s.node s.attr) := by
  have hw1 : IntKind.i64.wrap ((p.graph.nodes.length : Int) - 1) = (p.graph.nodes.length : Int) - 1 := by rw [wrap64 (by omega) (by omega)]
  unfold rSlot
  by_cases hn : 0 ≤ s.node ∧ s.node < p.graph.nodes.length
  · have hk := hg _ (nodeIn_mem hn.1 hn.2)
    have hgv : givenF t [nodeIn p.graph s.node] = 0 := by
      have e1 : outB t (nodeIn p.graph s.node) = false := by unfold outB; simp; omega
      unfold givenF; rw [if_neg (by simp [h0]), List.any_cons, e1, List.any_nil]; try rfl
    have ha := attrsOkC hgv
    have hge : getR (p.graph.nodes.map rI) s.node.toNat = [.int .i64 (nodeIn p.graph s.node)] := ints_row hn.1 hn.2
    have hAl : (attrsOf t (nodeIn p.graph s.node)).length ≤ 8 := (typesF_good h0).2 _ (by omega)
    have hn1 : (decide (0 ≤ s.node) && decide (s.node ≤ (p.graph.nodes.length : Int) - 1)) = true := by simp; omega
    by_cases hi : 0 ≤ s.attr ∧ s.attr < (attrsOf t (nodeIn p.graph s.node)).length
    · have hF : rAttrOf t p.graph s.node s.attr = .tup [.agg (rAttr (attrAt t p.graph s.node s.attr)), .bool true] := by
        unfold rAttrOf attrB; rw [if_pos (by simp; omega)]
      have hrow := attrs_row hi.1 hi.2
      unfold attrAt at hF
      rw [hF]
      generalize attrsOf t (nodeIn p.graph s.node) = A at *
      generalize A.getD s.attr.toNat ⟨⟨#[]⟩, 0, 0, []⟩ = x at *
      have hrow : getR (A.map rAttr) s.attr.toNat = [.str x.name, .int .i64 x.low, .int .i64 x.high, .fsl 1 (x.names.map rS)] := hrow
      have hw2 : IntKind.i64.wrap ((A.length : Int) - 1) = (A.length : Int) - 1 := by rw [wrap64 (by omega) (by omega)]
      have hi1 : (decide (0 ≤ s.attr) && decide (s.attr ≤ (A.length : Int) - 1)) = true := by simp; omega
      refine ConC.con (ent _ Tryz.func113 rfl rfl) (con_of_body env Tryz.func113 rfl (nt := 45) (rs := [.cell 6 118, .tmp 7]) rfl rfl (Nat.le_of_ble_eq_true rfl) fun hok => ?_)
      repeat' (first | (first | (refine AWP.go env ?_; intro K fin; try simp +decide (maxSteps := 4000000) only [hw1, hn1, hge, hw2, hi1, hrow, go_sem, Nat.reduceAdd, Nat.reduceMul]) | refine Kt.h _ _ ?_ | refine Ft.k (by decide +kernel) ?_ | ((first | refine ⟨_, awithinC, ?_⟩ | refine ⟨_, ha, ?_⟩); simp +decide (maxSteps := 4000000) only [hw1, hn1, hge, hw2, hi1, hrow, go_sem, Nat.reduceAdd, Nat.reduceMul])) | apply cond2_intro | with_reducible apply And.intro | intro h)
      all_goals try omega
      all_goals try (simp only [List.mem_cons, List.not_mem_nil, or_false] at h; (repeat' (first | (subst h; rfl) | rcases h with h | h)))
      all_goals rfl
    · have hF : rAttrOf t p.graph s.node s.attr = .tup [.agg [.str ⟨#[]⟩, .int .i64 0, .int .i64 0, .nil], .bool false] := by
        unfold rAttrOf attrB; rw [if_neg (by simp; omega)]
      rw [hF]
      generalize attrsOf t (nodeIn p.graph s.node) = A at *
      have hw2 : IntKind.i64.wrap ((A.length : Int) - 1) = (A.length : Int) - 1 := by rw [wrap64 (by omega) (by omega)]
      have hi1 : (decide (0 ≤ s.attr) && decide (s.attr ≤ (A.length : Int) - 1)) = false := by
        rw [Bool.and_eq_false_iff, decide_eq_false_iff_not, decide_eq_false_iff_not]; omega
      refine ConC.con (ent _ Tryz.func113 rfl rfl) (con_of_body env Tryz.func113 rfl (nt := 45) (rs := [.cell 6 118, .tmp 7]) rfl rfl (Nat.le_of_ble_eq_true rfl) fun hok => ?_)
      repeat' (first | (first | (refine AWP.go env ?_; intro K fin; try simp +decide (maxSteps := 4000000) only [hw1, hn1, hge, hw2, hi1, go_sem, Nat.reduceAdd, Nat.reduceMul]) | refine Kt.h _ _ ?_ | refine Ft.k (by decide +kernel) ?_ | ((first | refine ⟨_, awithinC, ?_⟩ | refine ⟨_, ha, ?_⟩); simp +decide (maxSteps := 4000000) only [hw1, hn1, hge, hw2, hi1, go_sem, Nat.reduceAdd, Nat.reduceMul])) | apply cond2_intro | with_reducible apply And.intro | intro h)
      all_goals try omega
      all_goals try (simp only [List.mem_cons, List.not_mem_nil, or_false] at h; (repeat' (first | (subst h; rfl) | rcases h with h | h)))
  · have hF : rAttrOf t p.graph s.node s.attr = .tup [.agg [.str ⟨#[]⟩, .int .i64 0, .int .i64 0, .nil], .bool false] := by
      unfold rAttrOf attrB; rw [if_neg (by simp; omega)]
    rw [hF]
    have hn1 : (decide (0 ≤ s.node) && decide (s.node ≤ (p.graph.nodes.length : Int) - 1)) = false := by
      rw [Bool.and_eq_false_iff, decide_eq_false_iff_not, decide_eq_false_iff_not]; omega
    refine ConC.con (ent _ Tryz.func113 rfl rfl) (con_of_body env Tryz.func113 rfl (nt := 45) (rs := [.cell 6 118, .tmp 7]) rfl rfl (Nat.le_of_ble_eq_true rfl) fun hok => ?_)
    repeat' (first | (first | (refine AWP.go env ?_; intro K fin; try simp +decide (maxSteps := 4000000) only [hw1, hn1, go_sem, Nat.reduceAdd, Nat.reduceMul]) | refine Kt.h _ _ ?_ | refine Ft.k (by decide +kernel) ?_ | ((first | refine ⟨_, awithinC, ?_⟩ | refine ⟨_, ha, ?_⟩); simp +decide (maxSteps := 4000000) only [hw1, hn1, go_sem, Nat.reduceAdd, Nat.reduceMul])) | apply cond2_intro | with_reducible apply And.intro | intro h)
end Go.Abs
/- Attributes of nodes of patterns, of the specification; typed graphs. -/
set_option linter.unusedSimpArgs false
set_option linter.unusedVariables false
set_option maxRecDepth 20000
set_option maxHeartbeats 4000000
namespace Go.Abs
open Go Go.RowKit Go.Proofs
attribute [local irreducible] Con AWP

theorem bne00 : ((0 : Int) != 0) = false := rfl
theorem beq00 : ((0 : Int) == 0) = true := rfl

theorem rAttrC {t : Types} (hfew : ∀ n ∈ t.nodes, n.attrs.length ≤ 30) {p : Patt} {node idx : Int} (h0 : (typesF t).2 = 0) (hg : ∀ n ∈ p.graph.nodes, 0 ≤ n ∧ n < t.nodes.length) (hl : p.graph.nodes.length ≤ 1000) :
    Con Tryz.prog 129 [dTypes t, dPatt p, .int .i64 node, .int .i64 idx] (rAttrOf t p.graph node idx) := by
  by_cases hn : 0 ≤ node ∧ node < p.graph.nodes.length
  · have hk := hg _ (nodeIn_mem hn.1 hn.2)
    have hgv : givenF t [nodeIn p.graph node] = 0 := by
      have e1 : outB t (nodeIn p.graph node) = false := by unfold outB; simp; omega
      unfold givenF; rw [if_neg (by simp [h0]), List.any_cons, e1, List.any_nil]; try rfl
    have ha := rAttrsOkC hfew hgv
    have hge : getR (p.graph.nodes.map rI) node.toNat = [.int .i64 (nodeIn p.graph node)] := ints_row hn.1 hn.2
    have hAl : (attrsOf t (nodeIn p.graph node)).length ≤ 8 := (typesF_good h0).2 _ (by omega)
    have q1 : (node < 0) = False := by simp; omega
    have q2 : ((p.graph.nodes.length : Int) ≤ node) = False := by simp; omega
    by_cases hi : 0 ≤ idx ∧ idx < (attrsOf t (nodeIn p.graph node)).length
    · have hF : rAttrOf t p.graph node idx = .tup [.agg (rAttr (attrAt t p.graph node idx)), .bool true] := by
        unfold rAttrOf attrB; rw [if_pos (by simp; omega)]
      have hrow := attrs_row hi.1 hi.2
      unfold attrAt at hF
      rw [hF]
      generalize attrsOf t (nodeIn p.graph node) = A at *
      generalize A.getD idx.toNat ⟨⟨#[]⟩, 0, 0, []⟩ = x at *
      have hrow : getR (A.map rAttr) idx.toNat = [.str x.name, .int .i64 x.low, .int .i64 x.high, .fsl 1 (x.names.map rS)] := hrow
      have q3 : (idx < 0) = False := by simp; omega
      have q4 : ((A.length : Int) ≤ idx) = False := by simp; omega
      refine ConC.con (ent _ Tryz.func129 rfl rfl) (con_of_body env Tryz.func129 rfl (nt := 51) (rs := [.cell 8 118, .tmp 9]) rfl rfl (Nat.le_of_ble_eq_true rfl) fun hok => ?_)
      repeat' (first | (first | (refine AWP.go env ?_; intro K fin; try simp +decide (maxSteps := 4000000) only [q1, q2, q3, q4, hge, hrow, bne00, go_sem, Nat.reduceAdd, Nat.reduceMul]) | refine Kt.h _ _ ?_ | refine Ft.k (by decide +kernel) ?_ | (refine ⟨_, ha, ?_⟩; simp +decide (maxSteps := 4000000) only [q1, q2, q3, q4, hge, hrow, bne00, go_sem, Nat.reduceAdd, Nat.reduceMul])) | apply cond2_intro | with_reducible apply And.intro | intro h)
      all_goals try omega
      all_goals try (simp only [List.mem_cons, List.not_mem_nil, or_false] at h; (repeat' (first | (subst h; rfl) | rcases h with h | h)))
      all_goals rfl
    · have hF : rAttrOf t p.graph node idx = .tup [.agg [.str ⟨#[]⟩, .int .i64 0, .int .i64 0, .nil], .bool false] := by
        unfold rAttrOf attrB; rw [if_neg (by simp; omega)]
      rw [hF]
      generalize attrsOf t (nodeIn p.graph node) = A at *
      have hi' : idx < 0 ∨ (A.length : Int) ≤ idx := by omega
      rcases hi' with hi' | hi'
      · have q3 : (idx < 0) = True := by simpa using hi'
        refine ConC.con (ent _ Tryz.func129 rfl rfl) (con_of_body env Tryz.func129 rfl (nt := 51) (rs := [.cell 8 118, .tmp 9]) rfl rfl (Nat.le_of_ble_eq_true rfl) fun hok => ?_)
        repeat' (first | (first | (refine AWP.go env ?_; intro K fin; try simp +decide (maxSteps := 4000000) only [q1, q2, q3, hge, bne00, go_sem, Nat.reduceAdd, Nat.reduceMul]) | refine Kt.h _ _ ?_ | refine Ft.k (by decide +kernel) ?_ | (refine ⟨_, ha, ?_⟩; simp +decide (maxSteps := 4000000) only [q1, q2, q3, hge, bne00, go_sem, Nat.reduceAdd, Nat.reduceMul])) | apply cond2_intro | with_reducible apply And.intro | intro h)
        all_goals try omega
        all_goals try (simp only [List.mem_cons, List.not_mem_nil, or_false] at h; (repeat' (first | (subst h; rfl) | rcases h with h | h)))
      · have q4 : ((A.length : Int) ≤ idx) = True := by simpa using hi'
        refine ConC.con (ent _ Tryz.func129 rfl rfl) (con_of_body env Tryz.func129 rfl (nt := 51) (rs := [.cell 8 118, .tmp 9]) rfl rfl (Nat.le_of_ble_eq_true rfl) fun hok => ?_)
        repeat' (first | (first | (refine AWP.go env ?_; intro K fin; try simp +decide (maxSteps := 4000000) only [q1, q2, q4, hge, bne00, go_sem, Nat.reduceAdd, Nat.reduceMul]) | refine Kt.h _ _ ?_ | refine Ft.k (by decide +kernel) ?_ | (refine ⟨_, ha, ?_⟩; simp +decide (maxSteps := 4000000) only [q1, q2, q4, hge, bne00, go_sem, Nat.reduceAdd, Nat.reduceMul])) | apply cond2_intro | with_reducible apply And.intro | intro h)
        all_goals try omega
        all_goals try (simp only [List.mem_cons, List.not_mem_nil, or_false] at h; (repeat' (first | (subst h; rfl) | rcases h with h | h)))
  · have hF : rAttrOf t p.graph node idx = .tup [.agg [.str ⟨#[]⟩, .int .i64 0, .int .i64 0, .nil], .bool false] := by
      unfold rAttrOf attrB; rw [if_neg (by simp; omega)]
    rw [hF]
    have hn' : node < 0 ∨ (p.graph.nodes.length : Int) ≤ node := by omega
    rcases hn' with hn' | hn'
    · have q3 : (node < 0) = True := by simpa using hn'
      refine ConC.con (ent _ Tryz.func129 rfl rfl) (con_of_body env Tryz.func129 rfl (nt := 51) (rs := [.cell 8 118, .tmp 9]) rfl rfl (Nat.le_of_ble_eq_true rfl) fun hok => ?_)
      repeat' (first | (first | (refine AWP.go env ?_; intro K fin; try simp +decide (maxSteps := 4000000) only [q3, go_sem, Nat.reduceAdd, Nat.reduceMul]) | refine Kt.h _ _ ?_ | refine Ft.k (by decide +kernel) ?_ | (refine ⟨_, ha, ?_⟩; simp +decide (maxSteps := 4000000) only [q3, go_sem, Nat.reduceAdd, Nat.reduceMul])) | apply cond2_intro | with_reducible apply And.intro | intro h)
      all_goals try omega
      all_goals try (simp only [List.mem_cons, List.not_mem_nil, or_false] at h; (repeat' (first | (subst h; rfl) | rcases h with h | h)))
    · have q4 : ((p.graph.nodes.length : Int) ≤ node) = True := by simpa using hn'
      refine ConC.con (ent _ Tryz.func129 rfl rfl) (con_of_body env Tryz.func129 rfl (nt := 51) (rs := [.cell 8 118, .tmp 9]) rfl rfl (Nat.le_of_ble_eq_true rfl) fun hok => ?_)
      repeat' (first | (first | (refine AWP.go env ?_; intro K fin; try simp +decide (maxSteps := 4000000) only [q4, go_sem, Nat.reduceAdd, Nat.reduceMul]) | refine Kt.h _ _ ?_ | refine Ft.k (by decide +kernel) ?_ | (refine ⟨_, ha, ?_⟩; simp +decide (maxSteps := 4000000) only [q4, go_sem, Nat.reduceAdd, Nat.reduceMul])) | apply cond2_intro | with_reducible apply And.intro | intro h)
      all_goals try omega
      all_goals try (simp only [List.mem_cons, List.not_mem_nil, or_false] at h; (repeat' (first | (subst h; rfl) | rcases h with h | h)))

/-- Whether the types of a graph without error are those of a type graph. -/
def typedB (t : Types) (g : Graph) : Bool := (g.nodes.all fun n => decide (n < t.nodes.length)) && g.edges.all fun e => decide (e.typ < t.edges.length)

theorem rTypedC {t : Types} {g : Graph} (hg : graphF g = 0) : Con Tryz.prog 128 [dTypes t, dGraph g] (.bool (typedB t g)) := by
  obtain ⟨g1, g2, g3, g4⟩ := graphF_ok hg
  refine ConC.con (ent _ Tryz.func128 rfl rfl) (con_of_body env Tryz.func128 rfl (nt := 57) (rs := [.tmp 4]) rfl rfl (Nat.le_of_ble_eq_true rfl) fun hok => ?_)
  repeat' (first | (first | (refine AWP.go env ?_; intro K fin; try simp +decide (maxSteps := 4000000) only [go_sem, Nat.reduceAdd, Nat.reduceMul]) | refine Kt.h _ _ ?_ | refine Ft.k (by decide +kernel) ?_ | (refine ⟨_, ha, ?_⟩; simp +decide (maxSteps := 4000000) only [go_sem, Nat.reduceAdd, Nat.reduceMul])) | apply cond2_intro | with_reducible apply And.intro | intro h)
  refine AWP.lp (α := Way g.nodes fun a _ => (a.all fun n => decide (n < t.nodes.length)) = true)
    (fun w => ⟨57, [(2, .ptr 200 0 0 0), (3, .ptr 300 0 0 0), (5, .int .i64 w.pre.length)],
      [(200, ⟨0, true, true, 2, 25, [[.fsl 4 (t.nodes.map rNodeT), .fsl 7 (t.edges.map rEdgeT)]]⟩), (300, ⟨0, true, true, 2, 29, [[dInts g.nodes, .fsl 3 (g.edges.map rEdge)]]⟩)]⟩) (fun w => w.post.length) ⟨[], g.nodes, rfl, rfl⟩ (by simp +decide (maxSteps := 4000000) only [go_sem, Nat.reduceAdd, Nat.reduceMul]; try simp) fun w K => ?_
  obtain ⟨a, b, hab, hinv⟩ := w
  cases b with
  | nil =>
    have hab : g.nodes = a := by simpa using hab
    have hn2 : ((a.length : Int) < (g.nodes.length : Int)) = False := by simp [hab]
    repeat' (first | (first | (refine AWP.go env ?_; intro K fin; try simp +decide (maxSteps := 4000000) only [hn2, go_sem, Nat.reduceAdd, Nat.reduceMul]) | refine Kt.h _ _ ?_ | refine Ft.k (by decide +kernel) ?_ | (refine ⟨_, ha, ?_⟩; simp +decide (maxSteps := 4000000) only [hn2, go_sem, Nat.reduceAdd, Nat.reduceMul])) | apply cond2_intro | with_reducible apply And.intro | intro h)
    refine AWP.lp (α := Way g.edges fun a _ => (a.all fun e => decide (e.typ < t.edges.length)) = true)
      (fun w => ⟨57, [(2, .ptr 200 0 0 0), (3, .ptr 300 0 0 0), (6, .int .i64 w.pre.length)],
        [(200, ⟨0, true, true, 2, 25, [[.fsl 4 (t.nodes.map rNodeT), .fsl 7 (t.edges.map rEdgeT)]]⟩), (300, ⟨0, true, true, 2, 29, [[dInts g.nodes, .fsl 3 (g.edges.map rEdge)]]⟩)]⟩) (fun w => w.post.length) ⟨[], g.edges, rfl, rfl⟩ (by simp +decide (maxSteps := 4000000) only [go_sem, Nat.reduceAdd, Nat.reduceMul]; try simp) fun w K => ?_
    obtain ⟨c, d, hcd, hinv2⟩ := w
    cases d with
    | nil =>
      have hcd : g.edges = c := by simpa using hcd
      have hn3 : ((c.length : Int) < (g.edges.length : Int)) = False := by simp [hcd]
      repeat' (first | (first | (refine AWP.go env ?_; intro K fin; try simp +decide (maxSteps := 4000000) only [hn3, go_sem, Nat.reduceAdd, Nat.reduceMul]) | refine Kt.h _ _ ?_ | refine Ft.k (by decide +kernel) ?_ | (refine ⟨_, ha, ?_⟩; simp +decide (maxSteps := 4000000) only [hn3, go_sem, Nat.reduceAdd, Nat.reduceMul])) | apply cond2_intro | with_reducible apply And.intro | intro h)
      rw [← hab] at hinv; rw [← hcd] at hinv2
      unfold typedB; rw [hinv, hinv2]; try rfl
    | cons e d =>
      have hcl : c.length < g.edges.length := by rw [hcd]; simp
      have hn3 : ((c.length : Int) < (g.edges.length : Int)) = True := by simp [hcl]
      have hget : getR (g.edges.map rEdge) c.length = [.int .i64 e.typ, .int .i64 e.src, .int .i64 e.tgt] := by rw [hcd]; simp [getR, rEdge]
      have v3 := wk_i' (t := c.length) (by omega)
      have he := g4 e (by rw [hcd]; simp)
      have q1 : (e.typ < 0) = False := by unfold edgeOk at he; simp at he; simp; omega
      repeat' (first | (first | (refine AWP.go env ?_; intro K fin; try simp +decide (maxSteps := 4000000) only [hn3, hget, v3, q1, go_sem, Nat.reduceAdd, Nat.reduceMul]) | refine Kt.h _ _ ?_ | refine Ft.k (by decide +kernel) ?_ | (refine ⟨_, ha, ?_⟩; simp +decide (maxSteps := 4000000) only [hn3, hget, v3, q1, go_sem, Nat.reduceAdd, Nat.reduceMul])) | apply cond2_intro | with_reducible apply And.intro | intro h)
      all_goals try omega
      · have h' : decide ((t.edges.length : Int) ≤ e.typ) = true := by assumption
        have h2 : (g.edges.all fun e => decide (e.typ < t.edges.length)) = false := by
          rw [List.all_eq_false]; exact ⟨e, by rw [hcd]; simp, by simp at h'; simp; omega⟩
        unfold typedB; rw [h2, Bool.and_false]
      · have h' : decide ((t.edges.length : Int) ≤ e.typ) = false := by assumption
        refine ⟨⟨c ++ [e], d, by simp [hcd], ?_⟩, by simp, by simp +decide (maxSteps := 4000000) only [go_sem, Nat.reduceAdd, Nat.reduceMul]; simp⟩
        have h2 : decide (e.typ < (t.edges.length : Int)) = true := by simp at h'; simp; omega
        rw [List.all_append, hinv2, List.all_cons, h2]; try rfl
  | cons x b =>
    have hal : a.length < g.nodes.length := by rw [hab]; simp
    have hn2 : ((a.length : Int) < (g.nodes.length : Int)) = True := by simp [hal]
    have hget : getR (g.nodes.map rI) a.length = [.int .i64 x] := by rw [hab]; simp [getR, rI]
    have v3 := wk_i' (t := a.length) (by omega)
    have hx := g3 x (by rw [hab]; simp)
    have q1 : (x < 0) = False := by simp; omega
    repeat' (first | (first | (refine AWP.go env ?_; intro K fin; try simp +decide (maxSteps := 4000000) only [hn2, hget, v3, q1, go_sem, Nat.reduceAdd, Nat.reduceMul]) | refine Kt.h _ _ ?_ | refine Ft.k (by decide +kernel) ?_ | (refine ⟨_, ha, ?_⟩; simp +decide (maxSteps := 4000000) only [hn2, hget, v3, q1, go_sem, Nat.reduceAdd, Nat.reduceMul])) | apply cond2_intro | with_reducible apply And.intro | intro h)
    all_goals try omega
    · have h' : decide ((t.nodes.length : Int) ≤ x) = true := by assumption
      have h2 : (g.nodes.all fun n => decide (n < t.nodes.length)) = false := by
        rw [List.all_eq_false]; exact ⟨x, by rw [hab]; simp, by simp at h'; simp; omega⟩
      unfold typedB; rw [h2, Bool.false_and]
    · have h' : decide ((t.nodes.length : Int) ≤ x) = false := by assumption
      refine ⟨⟨a ++ [x], b, by simp [hab], ?_⟩, by simp, by simp +decide (maxSteps := 4000000) only [go_sem, Nat.reduceAdd, Nat.reduceMul]; simp⟩
      have h2 : decide (x < (t.nodes.length : Int)) = true := by simp at h'; simp; omega
      rw [List.all_append, hinv, List.all_cons, h2]; try rfl
end Go.Abs
/- Patterns. -/
set_option linter.unusedSimpArgs false
set_option linter.unusedVariables false
set_option maxRecDepth 20000
set_option maxHeartbeats 4000000
namespace Go.Abs
open Go Go.RowKit Go.Proofs
attribute [local irreducible] Con AWP

def slotOk (t : Types) (p : Patt) (s : Slot) : Bool :=
  attrB t p.graph s.node s.attr && (decide (-1 ≤ s.term.var) && decide (s.term.var ≤ p.vars - 1)) && (decide (-1000000 ≤ s.term.add) && decide (s.term.add ≤ 1000000))

def usedB (l : List Slot) (v : Int) : Bool := l.any fun s => s.term.var == v
def usedL (n : Nat) (l : List Slot) : List Bool := (List.range n).map fun (v : Nat) => usedB l v

def pattF (t : Types) (p : Patt) : Int :=
  if (typesF t).2 ≠ 0 then (typesF t).2 else if graphF p.graph ≠ 0 then graphF p.graph else if typedB t p.graph = false then 13
  else if p.vars < 0 ∨ 12 < p.vars then 6 else if p.slots.length > 10 ∨ p.tests.length > 10 then 3
  else if p.slots.all (slotOk t p) = false then 6
  else if testsF p.vars p.tests ≠ 0 then testsF p.vars p.tests else if (usedL p.vars.toNat p.slots).all id = true then 0 else 9

theorem usedL_len (n : Nat) (l : List Slot) : (usedL n l).length = n := by simp [usedL]

theorem usedL_nil (n : Nat) : (usedL n []).map rB = List.replicate n [.bool false] := by
  unfold usedL usedB
  simp only [List.any_nil, List.map_map]
  rw [List.eq_replicate_iff]
  refine ⟨by simp, fun b hb => ?_⟩
  obtain ⟨v, _, rfl⟩ := List.mem_map.1 hb
  rfl

theorem usedL_get {n : Nat} {l : List Slot} {v : Int} (h0 : 0 ≤ v) (h1 : v < n) : getR ((usedL n l).map rB) v.toNat = [.bool (usedB l v)] := by
  have hv : v.toNat < (usedL n l).length := by rw [usedL_len]; omega
  rw [getR_map _ _ _ hv]
  simp only [usedL, List.getElem_map, List.getElem_range, rB]
  rw [show ((v.toNat : Nat) : Int) = v by omega]

theorem usedL_set {n : Nat} {l : List Slot} {s : Slot} (h0 : 0 ≤ s.term.var) (h1 : s.term.var < n) : ((usedL n l).map rB).set s.term.var.toNat [.bool true] = (usedL n (l ++ [s])).map rB := by
  apply List.ext_getElem
  · simp [usedL]
  · intro i hi1 hi2
    rw [List.getElem_set]
    simp only [usedL, List.getElem_map, List.getElem_range, rB]
    split
    · rename_i e; subst e
      have : usedB (l ++ [s]) ((s.term.var.toNat : Nat) : Int) = true := by
        unfold usedB; rw [List.any_append, List.any_cons, show (s.term.var == ((s.term.var.toNat : Nat) : Int)) = true by simp; omega]; simp
      rw [this]
    · rename_i e
      have : (s.term.var == (i : Int)) = false := by simp; omega
      unfold usedB
      rw [List.any_append, List.any_cons, this]
      simp

theorem usedL_skip {n : Nat} {l : List Slot} {s : Slot} (h0 : s.term.var < 0) : usedL n (l ++ [s]) = usedL n l := by
  unfold usedL usedB
  apply List.map_congr_left
  intro v _
  have : (s.term.var == (v : Int)) = false := by simp; omega
  rw [List.any_append, List.any_cons, this]
  simp

theorem pattNodeC {t : Types} {n : Int} : Con Tryz.prog 109 [.int .i64 n, .fptr [.fsl 4 (t.nodes.map rNodeT), .fsl 7 (t.edges.map rEdgeT)] 0] (.bool (!decide (n < t.nodes.length))) := by
  refine ConC.con (ent _ Tryz.func109 rfl rfl) (con_of_body env Tryz.func109 rfl (nt := 9) (rs := [.tmp 3]) rfl rfl (Nat.le_of_ble_eq_true rfl) fun hok => ?_)
  repeat' (first | (first | (refine AWP.go env ?_; intro K fin; try simp +decide (maxSteps := 4000000) only [go_sem, Nat.reduceAdd, Nat.reduceMul]) | refine Kt.h _ _ ?_ | refine Ft.k (by decide +kernel) ?_) | apply cond2_intro | with_reducible apply And.intro | intro h)
  all_goals grind

theorem pattEdgeC {t : Types} {e : Edge} : Con Tryz.prog 111 [.agg (rEdge e), .fptr [.fsl 4 (t.nodes.map rNodeT), .fsl 7 (t.edges.map rEdgeT)] 0] (.bool (!decide (e.typ < t.edges.length))) := by
  refine ConC.con (ent _ Tryz.func111 rfl rfl) (con_of_body env Tryz.func111 rfl (nt := 10) (rs := [.tmp 3]) rfl rfl (Nat.le_of_ble_eq_true rfl) fun hok => ?_)
  unfold rEdge
  repeat' (first | (first | (refine AWP.go env ?_; intro K fin; try simp +decide (maxSteps := 4000000) only [go_sem, Nat.reduceAdd, Nat.reduceMul]) | refine Kt.h _ _ ?_ | refine Ft.k (by decide +kernel) ?_) | apply cond2_intro | with_reducible apply And.intro | intro h)
  all_goals grind

theorem not_all {X : Type} (p : X → Bool) (l : List X) : (l.any fun x => !p x) = !l.all p := by
  induction l with
  | nil => rfl
  | cons x r ih => rw [List.any_cons, List.all_cons, ih, Bool.not_and]

theorem any_false (l : List Bool) : (l.any fun x => false == x) = !l.all id := by
  induction l with
  | nil => rfl
  | cons x r ih => rw [List.any_cons, List.all_cons, ih, Bool.not_and]; cases x <;> rfl

theorem pattC {t : Types} {p : Patt} : Con Tryz.prog 48 [dTypes t, dPatt p] (.int .i64 (pattF t p)) := by
  refine ConC.con (ent _ Tryz.func48 rfl rfl) (con_of_body env Tryz.func48 rfl (nt := 110) (rs := [.tmp 4]) rfl rfl (Nat.le_of_ble_eq_true rfl) fun hok => ?_)
  have k1 := not_all (fun n : Int => decide (n < t.nodes.length)) p.graph.nodes
  have k2 := not_all (fun e : Edge => decide (e.typ < t.edges.length)) p.graph.edges
  repeat' (first | (first | (refine AWP.go env ?_; intro K fin; try simp +decide (maxSteps := 4000000) only [k1, k2, go_sem, Nat.reduceAdd, Nat.reduceMul]) | refine Kt.h _ _ ?_ | refine Ft.k (by decide +kernel) ?_ | ((first | refine ⟨_, typesC, ?_⟩ | refine ⟨_, graphC (g := p.graph), ?_⟩ | refine ⟨_, awithinC, ?_⟩ | refine ⟨_, hsl, ?_⟩ | refine ⟨_, hcb, ?_⟩ | refine ⟨_, testsC (n := p.vars) (l := p.tests), ?_⟩ | refine ⟨_, containsBoolC (xs := usedL p.vars.toNat p.slots), ?_⟩ | refine ⟨_, contFuncintC (caps := [.fptr [.fsl 4 (t.nodes.map rNodeT), .fsl 7 (t.edges.map rEdgeT)] 0]) (p := fun n => !decide (n < t.nodes.length)) (xs := p.graph.nodes) (fun _ => rfl) (fun _ => rfl) (fun _ => rfl) (fun _ _ => pattNodeC), ?_⟩ | refine ⟨_, contFuncEdgeC (caps := [.fptr [.fsl 4 (t.nodes.map rNodeT), .fsl 7 (t.edges.map rEdgeT)] 0]) (p := fun e => !decide (e.typ < t.edges.length)) (xs := p.graph.edges) (fun _ => rfl) (fun _ => rfl) (fun _ => rfl) (fun _ _ => pattEdgeC), ?_⟩); simp +decide (maxSteps := 4000000) only [k1, k2, go_sem, Nat.reduceAdd, Nat.reduceMul])) | apply cond2_intro | with_reducible apply And.intro | intro h)
  all_goals try (unfold pattF typedB; grind)
  all_goals have hv : (decide (0 ≤ p.vars) && decide (p.vars ≤ 12)) = true := by assumption
  all_goals simp only [Bool.and_eq_true, decide_eq_true_eq] at hv
  all_goals try omega
  have c1 : (typesF t).2 = 0 := by
    have : ((typesF t).2 != 0) = false := by assumption
    simpa using this
  have c2 : graphF p.graph = 0 := by
    have : (graphF p.graph != 0) = false := by assumption
    simpa using this
  have c3 : (p.graph.nodes.all fun n => decide (n < t.nodes.length)) = true := by assumption
  have c4 : (p.graph.edges.all fun e => decide (e.typ < t.edges.length)) = true := by assumption
  have c5 : p.slots.length ≤ 10 := by
    have : decide ((10 : Int) < (p.slots.length : Int)) = false := by assumption
    simp at this; omega
  have c6 : p.tests.length ≤ 10 := by
    have : decide ((10 : Int) < (p.tests.length : Int)) = false := by assumption
    simp at this; omega
  have hF : pattF t p = if p.slots.all (slotOk t p) = false then 6 else if testsF p.vars p.tests ≠ 0 then testsF p.vars p.tests else if (usedL p.vars.toNat p.slots).all id = true then 0 else 9 := by
    unfold pattF typedB
    rw [if_neg (by simp [c1]), if_neg (by simp [c2]), if_neg (by simp [c3, c4]), if_neg (by omega), if_neg (by omega)]
  obtain ⟨g1, g2, g3, g4⟩ := graphF_ok c2
  have hgn : ∀ n ∈ p.graph.nodes, 0 ≤ n ∧ n < t.nodes.length := fun n hn => ⟨(g3 n hn).1, by have := List.all_eq_true.1 c3 n hn; simpa using this⟩
  have hw : IntKind.i64.wrap (p.vars - 1) = p.vars - 1 := by rw [wrap64 (by omega) (by omega)]
  have hUn : (p.vars.toNat : Int) = p.vars := by omega
  refine AWP.lp (α := Way p.slots fun a _ => a.all (slotOk t p) = true)
    (fun w => ⟨110, [(2, .ptr 200 0 0 0), (3, .ptr 300 0 0 0), (8, .osl 5600 0), (58, .fsl 4 (p.slots.map rSlot)), (59, .int .i64 p.slots.length), (60, .int .i64 w.pre.length)],
      [(200, ⟨0, true, true, 2, 25, [[.fsl 4 (t.nodes.map rNodeT), .fsl 7 (t.edges.map rEdgeT)]]⟩), (300, ⟨0, true, true, 5, 33, [[dInts p.graph.nodes, .fsl 3 (p.graph.edges.map rEdge), .fsl 4 (p.slots.map rSlot), .int .i64 p.vars, .fsl 5 (p.tests.map rTest)]]⟩),
       (5600, ⟨0, true, false, 1, 4, (usedL p.vars.toNat w.pre).map rB⟩)]⟩) (fun w => w.post.length) ⟨[], p.slots, rfl, rfl⟩ (by simp +decide (maxSteps := 4000000) only [go_sem, Nat.reduceAdd, Nat.reduceMul]; simp [usedL_nil]) fun w K => ?_
  obtain ⟨a, b, hab, hinv⟩ := w
  cases b with
  | nil =>
    have hab : p.slots = a := by simpa using hab
    have hn2 : ((a.length : Int) < (p.slots.length : Int)) = False := by simp [hab]
    have hA : p.slots.all (slotOk t p) = true := by rw [hab]; exact hinv
    rw [hA, if_neg (by decide)] at hF
    have hcb := containsBoolC (v := false) (xs := usedL p.vars.toNat a)
    repeat' (first | (first | (refine AWP.go env ?_; intro K fin; try simp +decide (maxSteps := 4000000) only [hn2, go_sem, Nat.reduceAdd, Nat.reduceMul]) | refine Kt.h _ _ ?_ | refine Ft.k (by decide +kernel) ?_ | ((first | refine ⟨_, typesC, ?_⟩ | refine ⟨_, graphC (g := p.graph), ?_⟩ | refine ⟨_, awithinC, ?_⟩ | refine ⟨_, hsl, ?_⟩ | refine ⟨_, hcb, ?_⟩ | refine ⟨_, testsC (n := p.vars) (l := p.tests), ?_⟩ | refine ⟨_, containsBoolC (xs := usedL p.vars.toNat p.slots), ?_⟩ | refine ⟨_, contFuncintC (caps := [.fptr [.fsl 4 (t.nodes.map rNodeT), .fsl 7 (t.edges.map rEdgeT)] 0]) (p := fun n => !decide (n < t.nodes.length)) (xs := p.graph.nodes) (fun _ => rfl) (fun _ => rfl) (fun _ => rfl) (fun _ _ => pattNodeC), ?_⟩ | refine ⟨_, contFuncEdgeC (caps := [.fptr [.fsl 4 (t.nodes.map rNodeT), .fsl 7 (t.edges.map rEdgeT)] 0]) (p := fun e => !decide (e.typ < t.edges.length)) (xs := p.graph.edges) (fun _ => rfl) (fun _ => rfl) (fun _ => rfl) (fun _ _ => pattEdgeC), ?_⟩); simp +decide (maxSteps := 4000000) only [hn2, go_sem, Nat.reduceAdd, Nat.reduceMul])) | apply cond2_intro | with_reducible apply And.intro | intro h)
    · rw [hF, if_pos (by simpa using h)]
    · have h1 : (testsF p.vars p.tests != 0) = false := by assumption
      have h2 : ((usedL p.vars.toNat p.slots).all id) = false := by rw [hab]; rw [any_false] at h; simpa using h
      rw [hF, if_neg (by simpa using h1), h2]; try rfl
    · have h1 : (testsF p.vars p.tests != 0) = false := by assumption
      have h2 : ((usedL p.vars.toNat p.slots).all id) = true := by rw [hab]; rw [any_false] at h; simpa using h
      rw [hF, if_neg (by simpa using h1), h2]; try rfl
  | cons s b =>
    have hal : a.length < p.slots.length := by rw [hab]; simp
    have hn2 : ((a.length : Int) < (p.slots.length : Int)) = True := by simp [hal]
    have hget : getR (p.slots.map rSlot) a.length = [.int .i64 s.node, .int .i64 s.attr, .int .i64 s.term.var, .int .i64 s.term.add] := by rw [hab]; simp [getR, rSlot]
    have v3 := wk_i' (t := a.length) (by omega)
    have hbad : slotOk t p s = false → pattF t p = 6 := fun h => by
      rw [hF, if_pos]
      rw [List.all_eq_false]; exact ⟨s, by rw [hab]; simp, by simp [h]⟩
    have hsl0 := attrC (p := p) (s := s) c1 hgn (by omega)
    by_cases hb : attrB t p.graph s.node s.attr = true
    · have hsl : Con Tryz.prog 113 [dTypes t, dPatt p, .agg (rSlot s)] (.tup [.agg (rAttr (attrAt t p.graph s.node s.attr)), .bool true]) := by
        have e : rAttrOf t p.graph s.node s.attr = .tup [.agg (rAttr (attrAt t p.graph s.node s.attr)), .bool true] := by unfold rAttrOf; rw [if_pos hb]
        rw [← e]; exact hsl0
      generalize attrAt t p.graph s.node s.attr = x at hsl
      unfold rAttr at hsl
      by_cases hc : 0 ≤ s.term.var ∧ s.term.var < p.vars
      · have hU := usedL_get (n := p.vars.toNat) (l := a) (v := s.term.var) hc.1 (by omega)
        have hUs := usedL_set (n := p.vars.toNat) (l := a) (s := s) hc.1 (by omega)
        have hUl := usedL_len p.vars.toNat a
        have q1 : (0 ≤ s.term.var) = True := by simp [hc.1]
        have q2 : (decide (-1 ≤ s.term.var) && decide (s.term.var ≤ p.vars - 1)) = true := by simp; omega
        repeat' (first | (first | (refine AWP.go env ?_; intro K fin; try simp +decide (maxSteps := 4000000) only [hn2, hget, v3, hw, q1, q2, hU, hUs, hUl, go_sem, Nat.reduceAdd, Nat.reduceMul]) | refine Kt.h _ _ ?_ | refine Ft.k (by decide +kernel) ?_ | ((first | refine ⟨_, typesC, ?_⟩ | refine ⟨_, graphC (g := p.graph), ?_⟩ | refine ⟨_, awithinC, ?_⟩ | refine ⟨_, hsl, ?_⟩ | refine ⟨_, hcb, ?_⟩ | refine ⟨_, testsC (n := p.vars) (l := p.tests), ?_⟩ | refine ⟨_, containsBoolC (xs := usedL p.vars.toNat p.slots), ?_⟩ | refine ⟨_, contFuncintC (caps := [.fptr [.fsl 4 (t.nodes.map rNodeT), .fsl 7 (t.edges.map rEdgeT)] 0]) (p := fun n => !decide (n < t.nodes.length)) (xs := p.graph.nodes) (fun _ => rfl) (fun _ => rfl) (fun _ => rfl) (fun _ _ => pattNodeC), ?_⟩ | refine ⟨_, contFuncEdgeC (caps := [.fptr [.fsl 4 (t.nodes.map rNodeT), .fsl 7 (t.edges.map rEdgeT)] 0]) (p := fun e => !decide (e.typ < t.edges.length)) (xs := p.graph.edges) (fun _ => rfl) (fun _ => rfl) (fun _ => rfl) (fun _ _ => pattEdgeC), ?_⟩); simp +decide (maxSteps := 4000000) only [hn2, hget, v3, hw, q1, q2, hU, hUs, hUl, go_sem, Nat.reduceAdd, Nat.reduceMul])) | apply cond2_intro | with_reducible apply And.intro | intro h)
        all_goals try omega
        all_goals try (simp only [List.mem_cons, List.not_mem_nil, or_false] at h; (repeat' (first | (subst h; rfl) | rcases h with h | h)))
        · have h1 : (decide (-1000000 ≤ s.term.add) && decide (s.term.add ≤ 1000000)) = true := by assumption
          refine ⟨⟨a ++ [s], b, by simp [hab], ?_⟩, by simp, by simp +decide (maxSteps := 4000000) only [go_sem, Nat.reduceAdd, Nat.reduceMul]; simp⟩
          rw [List.all_append, hinv, List.all_cons, show slotOk t p s = true by unfold slotOk; rw [hb, q2, h1]; rfl]; try rfl
        · have h1 : (decide (-1000000 ≤ s.term.add) && decide (s.term.add ≤ 1000000)) = false := by assumption
          exact (hbad (by unfold slotOk; rw [h1]; simp)).symm
      · by_cases hc2 : s.term.var = -1
        · have q1 : (0 ≤ s.term.var) = False := by simp; omega
          have q2 : (decide (-1 ≤ s.term.var) && decide (s.term.var ≤ p.vars - 1)) = true := by simp; omega
          have hsk := usedL_skip (n := p.vars.toNat) (l := a) (s := s) (by omega)
          repeat' (first | (first | (refine AWP.go env ?_; intro K fin; try simp +decide (maxSteps := 4000000) only [hn2, hget, v3, hw, q1, q2, go_sem, Nat.reduceAdd, Nat.reduceMul]) | refine Kt.h _ _ ?_ | refine Ft.k (by decide +kernel) ?_ | ((first | refine ⟨_, typesC, ?_⟩ | refine ⟨_, graphC (g := p.graph), ?_⟩ | refine ⟨_, awithinC, ?_⟩ | refine ⟨_, hsl, ?_⟩ | refine ⟨_, hcb, ?_⟩ | refine ⟨_, testsC (n := p.vars) (l := p.tests), ?_⟩ | refine ⟨_, containsBoolC (xs := usedL p.vars.toNat p.slots), ?_⟩ | refine ⟨_, contFuncintC (caps := [.fptr [.fsl 4 (t.nodes.map rNodeT), .fsl 7 (t.edges.map rEdgeT)] 0]) (p := fun n => !decide (n < t.nodes.length)) (xs := p.graph.nodes) (fun _ => rfl) (fun _ => rfl) (fun _ => rfl) (fun _ _ => pattNodeC), ?_⟩ | refine ⟨_, contFuncEdgeC (caps := [.fptr [.fsl 4 (t.nodes.map rNodeT), .fsl 7 (t.edges.map rEdgeT)] 0]) (p := fun e => !decide (e.typ < t.edges.length)) (xs := p.graph.edges) (fun _ => rfl) (fun _ => rfl) (fun _ => rfl) (fun _ _ => pattEdgeC), ?_⟩); simp +decide (maxSteps := 4000000) only [hn2, hget, v3, hw, q1, q2, go_sem, Nat.reduceAdd, Nat.reduceMul])) | apply cond2_intro | with_reducible apply And.intro | intro h)
          all_goals try omega
          all_goals try (simp only [List.mem_cons, List.not_mem_nil, or_false] at h; (repeat' (first | (subst h; rfl) | rcases h with h | h)))
          · have h1 : (decide (-1000000 ≤ s.term.add) && decide (s.term.add ≤ 1000000)) = true := by assumption
            refine ⟨⟨a ++ [s], b, by simp [hab], ?_⟩, by simp, by simp +decide (maxSteps := 4000000) only [go_sem, Nat.reduceAdd, Nat.reduceMul]; simp [hsk]⟩
            rw [List.all_append, hinv, List.all_cons, show slotOk t p s = true by unfold slotOk; rw [hb, q2, h1]; rfl]; try rfl
          · have h1 : (decide (-1000000 ≤ s.term.add) && decide (s.term.add ≤ 1000000)) = false := by assumption
            exact (hbad (by unfold slotOk; rw [h1]; simp)).symm
        · have q2 : (decide (-1 ≤ s.term.var) && decide (s.term.var ≤ p.vars - 1)) = false := by
            rw [Bool.and_eq_false_iff, decide_eq_false_iff_not, decide_eq_false_iff_not]; omega
          repeat' (first | (first | (refine AWP.go env ?_; intro K fin; try simp +decide (maxSteps := 4000000) only [hn2, hget, v3, hw, q2, go_sem, Nat.reduceAdd, Nat.reduceMul]) | refine Kt.h _ _ ?_ | refine Ft.k (by decide +kernel) ?_ | ((first | refine ⟨_, typesC, ?_⟩ | refine ⟨_, graphC (g := p.graph), ?_⟩ | refine ⟨_, awithinC, ?_⟩ | refine ⟨_, hsl, ?_⟩ | refine ⟨_, hcb, ?_⟩ | refine ⟨_, testsC (n := p.vars) (l := p.tests), ?_⟩ | refine ⟨_, containsBoolC (xs := usedL p.vars.toNat p.slots), ?_⟩ | refine ⟨_, contFuncintC (caps := [.fptr [.fsl 4 (t.nodes.map rNodeT), .fsl 7 (t.edges.map rEdgeT)] 0]) (p := fun n => !decide (n < t.nodes.length)) (xs := p.graph.nodes) (fun _ => rfl) (fun _ => rfl) (fun _ => rfl) (fun _ _ => pattNodeC), ?_⟩ | refine ⟨_, contFuncEdgeC (caps := [.fptr [.fsl 4 (t.nodes.map rNodeT), .fsl 7 (t.edges.map rEdgeT)] 0]) (p := fun e => !decide (e.typ < t.edges.length)) (xs := p.graph.edges) (fun _ => rfl) (fun _ => rfl) (fun _ => rfl) (fun _ _ => pattEdgeC), ?_⟩); simp +decide (maxSteps := 4000000) only [hn2, hget, v3, hw, q2, go_sem, Nat.reduceAdd, Nat.reduceMul])) | apply cond2_intro | with_reducible apply And.intro | intro h)
          all_goals try omega
          all_goals try (simp only [List.mem_cons, List.not_mem_nil, or_false] at h; (repeat' (first | (subst h; rfl) | rcases h with h | h)))
          exact (hbad (by unfold slotOk; rw [q2]; simp)).symm
    · have hb : attrB t p.graph s.node s.attr = false := by simpa using hb
      have hsl : Con Tryz.prog 113 [dTypes t, dPatt p, .agg (rSlot s)] (.tup [.agg [.str ⟨#[]⟩, .int .i64 0, .int .i64 0, .nil], .bool false]) := by
        have e : rAttrOf t p.graph s.node s.attr = .tup [.agg [.str ⟨#[]⟩, .int .i64 0, .int .i64 0, .nil], .bool false] := by unfold rAttrOf; rw [if_neg (by simp [hb])]
        rw [← e]; exact hsl0
      repeat' (first | (first | (refine AWP.go env ?_; intro K fin; try simp +decide (maxSteps := 4000000) only [hn2, hget, v3, go_sem, Nat.reduceAdd, Nat.reduceMul]) | refine Kt.h _ _ ?_ | refine Ft.k (by decide +kernel) ?_ | ((first | refine ⟨_, typesC, ?_⟩ | refine ⟨_, graphC (g := p.graph), ?_⟩ | refine ⟨_, awithinC, ?_⟩ | refine ⟨_, hsl, ?_⟩ | refine ⟨_, hcb, ?_⟩ | refine ⟨_, testsC (n := p.vars) (l := p.tests), ?_⟩ | refine ⟨_, containsBoolC (xs := usedL p.vars.toNat p.slots), ?_⟩ | refine ⟨_, contFuncintC (caps := [.fptr [.fsl 4 (t.nodes.map rNodeT), .fsl 7 (t.edges.map rEdgeT)] 0]) (p := fun n => !decide (n < t.nodes.length)) (xs := p.graph.nodes) (fun _ => rfl) (fun _ => rfl) (fun _ => rfl) (fun _ _ => pattNodeC), ?_⟩ | refine ⟨_, contFuncEdgeC (caps := [.fptr [.fsl 4 (t.nodes.map rNodeT), .fsl 7 (t.edges.map rEdgeT)] 0]) (p := fun e => !decide (e.typ < t.edges.length)) (xs := p.graph.edges) (fun _ => rfl) (fun _ => rfl) (fun _ => rfl) (fun _ _ => pattEdgeC), ?_⟩); simp +decide (maxSteps := 4000000) only [hn2, hget, v3, go_sem, Nat.reduceAdd, Nat.reduceMul])) | apply cond2_intro | with_reducible apply And.intro | intro h)
      all_goals try omega
      all_goals try (simp only [List.mem_cons, List.not_mem_nil, or_false] at h; (repeat' (first | (subst h; rfl) | rcases h with h | h)))
      exact (hbad (by unfold slotOk; rw [hb]; simp)).symm
end Go.Abs
/- Patterns, of the specification. -/
set_option linter.unusedSimpArgs false
set_option linter.unusedVariables false
set_option maxRecDepth 20000
set_option maxHeartbeats 4000000
namespace Go.Abs
open Go Go.RowKit Go.Proofs
attribute [local irreducible] Con AWP

abbrev cPatt (p : Patt) : List D := [dInts p.graph.nodes, .fsl 3 (p.graph.edges.map rEdge), .fsl 4 (p.slots.map rSlot), .int .i64 p.vars, .fsl 5 (p.tests.map rTest)]

theorem rOccursC {p : Patt} {v : Int} : Con Tryz.prog 132 [dPatt p, .int .i64 v] (.bool (usedB p.slots v)) := by
  refine ConC.con (ent _ Tryz.func132 rfl rfl) (con_of_body env Tryz.func132 rfl (nt := 22) (rs := [.tmp 4]) rfl rfl (Nat.le_of_ble_eq_true rfl) fun hok => ?_)
  have hsl : p.slots.length ≤ 140737488355328 := by
    have := DOk.len (DOk.agg_mem (hok _ (List.mem_cons_self ..)) (d := .fsl 4 (p.slots.map rSlot)) (by simp))
    simpa using this
  repeat' (first | (first | (refine AWP.go env ?_; intro K fin; try simp +decide (maxSteps := 4000000) only [go_sem, Nat.reduceAdd, Nat.reduceMul]) | refine Kt.h _ _ ?_ | refine Ft.k (by decide +kernel) ?_) | apply cond2_intro | with_reducible apply And.intro | intro h)
  refine AWP.lp (α := Way p.slots fun a _ => usedB a v = false)
    (fun w => ⟨22, [(1, .int .i64 v), (2, .ptr 200 0 0 0), (5, .int .i64 w.pre.length)],
      [(200, ⟨0, true, true, 5, 33, [cPatt p]⟩)]⟩) (fun w => w.post.length) ⟨[], p.slots, rfl, rfl⟩ (by simp +decide (maxSteps := 4000000) only [go_sem, Nat.reduceAdd, Nat.reduceMul]; try simp) fun w K => ?_
  obtain ⟨a, b, hab, hinv⟩ := w
  cases b with
  | nil =>
    have hab : p.slots = a := by simpa using hab
    have hn2 : ((a.length : Int) < (p.slots.length : Int)) = False := by simp [hab]
    repeat' (first | (first | (refine AWP.go env ?_; intro K fin; try simp +decide (maxSteps := 4000000) only [hn2, go_sem, Nat.reduceAdd, Nat.reduceMul]) | refine Kt.h _ _ ?_ | refine Ft.k (by decide +kernel) ?_) | apply cond2_intro | with_reducible apply And.intro | intro h)
    rw [hab, hinv]
  | cons s b =>
    have hal : a.length < p.slots.length := by rw [hab]; simp
    have hn2 : ((a.length : Int) < (p.slots.length : Int)) = True := by simp [hal]
    have hget : getR (p.slots.map rSlot) a.length = [.int .i64 s.node, .int .i64 s.attr, .int .i64 s.term.var, .int .i64 s.term.add] := by rw [hab]; simp [getR, rSlot]
    have v3 : IntKind.i64.wrap ((a.length : Int) + 1) = ((a.length + 1 : Nat) : Int) := by rw [wrap64 (by omega) (by omega)]; try rfl
    repeat' (first | (first | (refine AWP.go env ?_; intro K fin; try simp +decide (maxSteps := 4000000) only [hn2, hget, v3, go_sem, Nat.reduceAdd, Nat.reduceMul]) | refine Kt.h _ _ ?_ | refine Ft.k (by decide +kernel) ?_) | apply cond2_intro | with_reducible apply And.intro | intro h)
    all_goals try omega
    · have h' : (s.term.var == v) = true := by assumption
      unfold usedB; rw [hab, List.any_append, List.any_cons, h']; simp
    · have h' : (s.term.var == v) = false := by assumption
      refine ⟨⟨a ++ [s], b, by simp [hab], ?_⟩, by simp, by simp +decide (maxSteps := 4000000) only [go_sem, Nat.reduceAdd, Nat.reduceMul]; simp⟩
      unfold usedB at hinv ⊢; rw [List.any_append, hinv, List.any_cons, h']; try rfl

theorem rBoundedC {n : Int} : Con Tryz.prog 130 [.int .i64 n] (.bool (decide (-1000000 ≤ n) && decide (n ≤ 1000000))) := by
  refine ConC.con (ent _ Tryz.func130 rfl rfl) (con_of_body env Tryz.func130 rfl (nt := 9) (rs := [.tmp 2]) rfl rfl (Nat.le_of_ble_eq_true rfl) fun hok => ?_)
  repeat' (first | (first | (refine AWP.go env ?_; intro K fin; try simp +decide (maxSteps := 4000000) only [go_sem, Nat.reduceAdd, Nat.reduceMul]) | refine Kt.h _ _ ?_ | refine Ft.k (by decide +kernel) ?_) | apply cond2_intro | with_reducible apply And.intro | intro h)
  all_goals grind

theorem rPattC {t : Types} (hfew : ∀ n ∈ t.nodes, n.attrs.length ≤ 30) {p : Patt} : Con Tryz.prog 56 [dTypes t, dPatt p] (.int .i64 (pattF t p)) := by
  by_cases c2 : graphF p.graph = 0
  case neg =>
    refine ConC.con (ent _ Tryz.func56 rfl rfl) (con_of_body env Tryz.func56 rfl (nt := 114) (rs := [.tmp 4]) rfl rfl (Nat.le_of_ble_eq_true rfl) fun hok => ?_)
    have q : (graphF p.graph != 0) = true := by simpa using c2
    repeat' (first | (first | (refine AWP.go env ?_; intro K fin; try simp +decide (maxSteps := 4000000) only [q, go_sem, Nat.reduceAdd, Nat.reduceMul]) | refine Kt.h _ _ ?_ | refine Ft.k (by decide +kernel) ?_ | ((first | refine ⟨_, rTypesC hfew, ?_⟩ | refine ⟨_, rGraphC (g := p.graph), ?_⟩ | refine ⟨_, hty, ?_⟩ | refine ⟨_, rBoundedC, ?_⟩ | refine ⟨_, hsl, ?_⟩ | refine ⟨_, rTestsC (n := p.vars) (l := p.tests), ?_⟩ | refine ⟨_, hoc, ?_⟩); simp +decide (maxSteps := 4000000) only [q, go_sem, Nat.reduceAdd, Nat.reduceMul])) | apply cond2_intro | with_reducible apply And.intro | intro h)
    all_goals (unfold pattF; grind)
  have hty := rTypedC (t := t) c2
  have q0 : (graphF p.graph != 0) = false := by simpa using c2
  refine ConC.con (ent _ Tryz.func56 rfl rfl) (con_of_body env Tryz.func56 rfl (nt := 114) (rs := [.tmp 4]) rfl rfl (Nat.le_of_ble_eq_true rfl) fun hok => ?_)
  repeat' (first | (first | (refine AWP.go env ?_; intro K fin; try simp +decide (maxSteps := 4000000) only [q0, go_sem, Nat.reduceAdd, Nat.reduceMul]) | refine Kt.h _ _ ?_ | refine Ft.k (by decide +kernel) ?_ | ((first | refine ⟨_, rTypesC hfew, ?_⟩ | refine ⟨_, rGraphC (g := p.graph), ?_⟩ | refine ⟨_, hty, ?_⟩ | refine ⟨_, rBoundedC, ?_⟩ | refine ⟨_, hsl, ?_⟩ | refine ⟨_, rTestsC (n := p.vars) (l := p.tests), ?_⟩ | refine ⟨_, hoc, ?_⟩); simp +decide (maxSteps := 4000000) only [q0, go_sem, Nat.reduceAdd, Nat.reduceMul])) | apply cond2_intro | with_reducible apply And.intro | intro h)
  all_goals try (unfold pattF; grind)
  have c1 : (typesF t).2 = 0 := by
    have : ((typesF t).2 != 0) = false := by assumption
    simpa using this
  have c3 : typedB t p.graph = true := by assumption
  have hv : 0 ≤ p.vars ∧ p.vars ≤ 12 := by
    have h1 : decide (p.vars < 0) = false := by assumption
    have h2 : decide ((12 : Int) < p.vars) = false := by assumption
    simp at h1 h2; omega
  have c5 : p.slots.length ≤ 10 := by
    have : decide ((10 : Int) < (p.slots.length : Int)) = false := by assumption
    simp at this; omega
  have c6 : p.tests.length ≤ 10 := by
    have : decide ((10 : Int) < (p.tests.length : Int)) = false := by assumption
    simp at this; omega
  have hF : pattF t p = if p.slots.all (slotOk t p) = false then 6 else if testsF p.vars p.tests ≠ 0 then testsF p.vars p.tests else if (usedL p.vars.toNat p.slots).all id = true then 0 else 9 := by
    unfold pattF
    rw [if_neg (by simp [c1]), if_neg (by simp [c2]), if_neg (by simp [c3]), if_neg (by omega), if_neg (by omega)]
  obtain ⟨g1, g2, g3, g4⟩ := graphF_ok c2
  have hgn : ∀ n ∈ p.graph.nodes, 0 ≤ n ∧ n < t.nodes.length := fun n hn => ⟨(g3 n hn).1, by
    unfold typedB at c3; rw [Bool.and_eq_true] at c3
    have := List.all_eq_true.1 c3.1 n hn; simpa using this⟩
  refine AWP.lp (α := Way p.slots fun a _ => a.all (slotOk t p) = true)
    (fun w => ⟨114, [(2, .ptr 200 0 0 0), (3, .ptr 300 0 0 0), (8, .int .i64 w.pre.length)],
      [(200, ⟨0, true, true, 2, 25, [[.fsl 4 (t.nodes.map rNodeT), .fsl 7 (t.edges.map rEdgeT)]]⟩), (300, ⟨0, true, true, 5, 33, [cPatt p]⟩)]⟩) (fun w => w.post.length) ⟨[], p.slots, rfl, rfl⟩ (by simp +decide (maxSteps := 4000000) only [go_sem, Nat.reduceAdd, Nat.reduceMul]; try simp) fun w K => ?_
  obtain ⟨a, b, hab, hinv⟩ := w
  cases b with
  | nil =>
    have hab : p.slots = a := by simpa using hab
    have hn2 : ((a.length : Int) < (p.slots.length : Int)) = False := by simp [hab]
    have hA : p.slots.all (slotOk t p) = true := by rw [hab]; exact hinv
    rw [hA, if_neg (by decide)] at hF
    repeat' (first | (first | (refine AWP.go env ?_; intro K fin; try simp +decide (maxSteps := 4000000) only [hn2, go_sem, Nat.reduceAdd, Nat.reduceMul]) | refine Kt.h _ _ ?_ | refine Ft.k (by decide +kernel) ?_ | ((first | refine ⟨_, rTypesC hfew, ?_⟩ | refine ⟨_, rGraphC (g := p.graph), ?_⟩ | refine ⟨_, hty, ?_⟩ | refine ⟨_, rBoundedC, ?_⟩ | refine ⟨_, hsl, ?_⟩ | refine ⟨_, rTestsC (n := p.vars) (l := p.tests), ?_⟩ | refine ⟨_, hoc, ?_⟩); simp +decide (maxSteps := 4000000) only [hn2, go_sem, Nat.reduceAdd, Nat.reduceMul])) | apply cond2_intro | with_reducible apply And.intro | intro h)
    · rw [hF, if_pos (by simpa using h)]
    have h1 : (testsF p.vars p.tests != 0) = false := by assumption
    rw [if_neg (by simpa using h1)] at hF
    refine AWP.lp (α := { v : Nat // v ≤ p.vars.toNat ∧ ∀ u, u < v → usedB p.slots (u : Int) = true })
      (fun w => ⟨114, [(2, .ptr 200 0 0 0), (3, .ptr 300 0 0 0), (13, .int .i64 w.1)],
        [(200, ⟨0, true, true, 2, 25, [[.fsl 4 (t.nodes.map rNodeT), .fsl 7 (t.edges.map rEdgeT)]]⟩), (300, ⟨0, true, true, 5, 33, [cPatt p]⟩)]⟩) (fun w => p.vars.toNat - w.1) ⟨0, by omega, fun u hu => by omega⟩ (by simp +decide (maxSteps := 4000000) only [go_sem, Nat.reduceAdd, Nat.reduceMul]; try simp) fun w K => ?_
    obtain ⟨v, hv2, hu⟩ := w
    by_cases hvl : (v : Int) < p.vars
    · have hn3 : ((v : Int) < p.vars) = True := by simp [hvl]
      have v3 := wk_i' (t := v) (by omega)
      have hoc := rOccursC (p := p) (v := (v : Int))
      repeat' (first | (first | (refine AWP.go env ?_; intro K fin; try simp +decide (maxSteps := 4000000) only [hn3, v3, go_sem, Nat.reduceAdd, Nat.reduceMul]) | refine Kt.h _ _ ?_ | refine Ft.k (by decide +kernel) ?_ | ((first | refine ⟨_, rTypesC hfew, ?_⟩ | refine ⟨_, rGraphC (g := p.graph), ?_⟩ | refine ⟨_, hty, ?_⟩ | refine ⟨_, rBoundedC, ?_⟩ | refine ⟨_, hsl, ?_⟩ | refine ⟨_, rTestsC (n := p.vars) (l := p.tests), ?_⟩ | refine ⟨_, hoc, ?_⟩); simp +decide (maxSteps := 4000000) only [hn3, v3, go_sem, Nat.reduceAdd, Nat.reduceMul])) | apply cond2_intro | with_reducible apply And.intro | intro h)
      · refine ⟨⟨v + 1, by omega, fun u hu2 => ?_⟩, by simp only; omega, by simp +decide (maxSteps := 4000000) only [go_sem, Nat.reduceAdd, Nat.reduceMul]; try simp⟩
        by_cases huv : u = v
        · subst huv; assumption
        · exact hu u (by omega)
      · have h2 : (usedL p.vars.toNat p.slots).all id = false := by
          rw [List.all_eq_false]
          refine ⟨usedB p.slots v, ?_, by simp [show usedB p.slots (v : Int) = false by assumption]⟩
          unfold usedL; exact List.mem_map.2 ⟨v, by simp; omega, rfl⟩
        rw [hF, h2]; try rfl
    · have hn3 : ((v : Int) < p.vars) = False := by simp; omega
      repeat' (first | (first | (refine AWP.go env ?_; intro K fin; try simp +decide (maxSteps := 4000000) only [hn3, go_sem, Nat.reduceAdd, Nat.reduceMul]) | refine Kt.h _ _ ?_ | refine Ft.k (by decide +kernel) ?_ | ((first | refine ⟨_, rTypesC hfew, ?_⟩ | refine ⟨_, rGraphC (g := p.graph), ?_⟩ | refine ⟨_, hty, ?_⟩ | refine ⟨_, rBoundedC, ?_⟩ | refine ⟨_, hsl, ?_⟩ | refine ⟨_, rTestsC (n := p.vars) (l := p.tests), ?_⟩ | refine ⟨_, hoc, ?_⟩); simp +decide (maxSteps := 4000000) only [hn3, go_sem, Nat.reduceAdd, Nat.reduceMul])) | apply cond2_intro | with_reducible apply And.intro | intro h)
      have h2 : (usedL p.vars.toNat p.slots).all id = true := by
        rw [List.all_eq_true]
        intro x hx
        unfold usedL at hx
        obtain ⟨u, hu2, rfl⟩ := List.mem_map.1 hx
        simp at hu2
        exact hu u (by omega)
      rw [hF, h2]; try rfl
  | cons s b =>
    have hal : a.length < p.slots.length := by rw [hab]; simp
    have hn2 : ((a.length : Int) < (p.slots.length : Int)) = True := by simp [hal]
    have hget : getR (p.slots.map rSlot) a.length = [.int .i64 s.node, .int .i64 s.attr, .int .i64 s.term.var, .int .i64 s.term.add] := by rw [hab]; simp [getR, rSlot]
    have v3 := wk_i' (t := a.length) (by omega)
    have hbad : slotOk t p s = false → pattF t p = 6 := fun h => by
      rw [hF, if_pos]
      rw [List.all_eq_false]; exact ⟨s, by rw [hab]; simp, by simp [h]⟩
    have hsl0 := rAttrC hfew (p := p) (node := s.node) (idx := s.attr) c1 hgn (by omega)
    by_cases hb : attrB t p.graph s.node s.attr = true
    · have hsl : Con Tryz.prog 129 [dTypes t, dPatt p, .int .i64 s.node, .int .i64 s.attr] (.tup [.agg (rAttr (attrAt t p.graph s.node s.attr)), .bool true]) := by
        have e : rAttrOf t p.graph s.node s.attr = .tup [.agg (rAttr (attrAt t p.graph s.node s.attr)), .bool true] := by unfold rAttrOf; rw [if_pos hb]
        rw [← e]; exact hsl0
      generalize attrAt t p.graph s.node s.attr = x at hsl
      unfold rAttr at hsl
      repeat' (first | (first | (refine AWP.go env ?_; intro K fin; try simp +decide (maxSteps := 4000000) only [hn2, hget, v3, go_sem, Nat.reduceAdd, Nat.reduceMul]) | refine Kt.h _ _ ?_ | refine Ft.k (by decide +kernel) ?_ | ((first | refine ⟨_, rTypesC hfew, ?_⟩ | refine ⟨_, rGraphC (g := p.graph), ?_⟩ | refine ⟨_, hty, ?_⟩ | refine ⟨_, rBoundedC, ?_⟩ | refine ⟨_, hsl, ?_⟩ | refine ⟨_, rTestsC (n := p.vars) (l := p.tests), ?_⟩ | refine ⟨_, hoc, ?_⟩); simp +decide (maxSteps := 4000000) only [hn2, hget, v3, go_sem, Nat.reduceAdd, Nat.reduceMul])) | apply cond2_intro | with_reducible apply And.intro | intro h)
      all_goals try omega
      all_goals try (simp only [List.mem_cons, List.not_mem_nil, or_false] at h; (repeat' (first | (subst h; rfl) | rcases h with h | h)))
      · have h' : decide (s.term.var < -1) = true := by assumption
        exact (hbad (by
          have q2 : (decide (-1 ≤ s.term.var) && decide (s.term.var ≤ p.vars - 1)) = false := by
            simp only [decide_eq_true_eq] at h'
            rw [Bool.and_eq_false_iff, decide_eq_false_iff_not, decide_eq_false_iff_not]; omega
          unfold slotOk; rw [q2]; simp)).symm
      · have h' : decide (p.vars ≤ s.term.var) = true := by assumption
        exact (hbad (by
          have q2 : (decide (-1 ≤ s.term.var) && decide (s.term.var ≤ p.vars - 1)) = false := by
            simp only [decide_eq_true_eq] at h'
            rw [Bool.and_eq_false_iff, decide_eq_false_iff_not, decide_eq_false_iff_not]; omega
          unfold slotOk; rw [q2]; simp)).symm
      · have h1 : decide (s.term.var < -1) = false := by assumption
        have h2 : decide (p.vars ≤ s.term.var) = false := by assumption
        have h3 : (decide (-1000000 ≤ s.term.add) && decide (s.term.add ≤ 1000000)) = true := by assumption
        have q2 : (decide (-1 ≤ s.term.var) && decide (s.term.var ≤ p.vars - 1)) = true := by simp at h1 h2; simp; omega
        refine ⟨⟨a ++ [s], b, by simp [hab], ?_⟩, by simp, by simp +decide (maxSteps := 4000000) only [go_sem, Nat.reduceAdd, Nat.reduceMul]; simp⟩
        rw [List.all_append, hinv, List.all_cons, show slotOk t p s = true by unfold slotOk; rw [hb, q2, h3]; rfl]; try rfl
      · have h3 : (decide (-1000000 ≤ s.term.add) && decide (s.term.add ≤ 1000000)) = false := by assumption
        exact (hbad (by unfold slotOk; rw [h3]; simp)).symm
    · have hb : attrB t p.graph s.node s.attr = false := by simpa using hb
      have hsl : Con Tryz.prog 129 [dTypes t, dPatt p, .int .i64 s.node, .int .i64 s.attr] (.tup [.agg [.str ⟨#[]⟩, .int .i64 0, .int .i64 0, .nil], .bool false]) := by
        have e : rAttrOf t p.graph s.node s.attr = .tup [.agg [.str ⟨#[]⟩, .int .i64 0, .int .i64 0, .nil], .bool false] := by unfold rAttrOf; rw [if_neg (by simp [hb])]
        rw [← e]; exact hsl0
      repeat' (first | (first | (refine AWP.go env ?_; intro K fin; try simp +decide (maxSteps := 4000000) only [hn2, hget, v3, go_sem, Nat.reduceAdd, Nat.reduceMul]) | refine Kt.h _ _ ?_ | refine Ft.k (by decide +kernel) ?_ | ((first | refine ⟨_, rTypesC hfew, ?_⟩ | refine ⟨_, rGraphC (g := p.graph), ?_⟩ | refine ⟨_, hty, ?_⟩ | refine ⟨_, rBoundedC, ?_⟩ | refine ⟨_, hsl, ?_⟩ | refine ⟨_, rTestsC (n := p.vars) (l := p.tests), ?_⟩ | refine ⟨_, hoc, ?_⟩); simp +decide (maxSteps := 4000000) only [hn2, hget, v3, go_sem, Nat.reduceAdd, Nat.reduceMul])) | apply cond2_intro | with_reducible apply And.intro | intro h)
      all_goals try omega
      all_goals try (simp only [List.mem_cons, List.not_mem_nil, or_false] at h; (repeat' (first | (subst h; rfl) | rcases h with h | h)))
      exact (hbad (by unfold slotOk; rw [hb]; simp)).symm
end Go.Abs
/- The graph of a part. -/
set_option linter.unusedSimpArgs false
set_option linter.unusedVariables false
set_option maxRecDepth 20000
set_option maxHeartbeats 4000000
namespace Go.Abs
open Go Go.RowKit Go.Proofs
attribute [local irreducible] Con AWP

def extEdge (g : Graph) (p : Two) (k : Int) : Edge := ⟨(edgeAt g k).typ, posF p.nodes (edgeAt g k).src, posF p.nodes (edgeAt g k).tgt⟩
def extractF (g : Graph) (p : Two) : Graph := ⟨p.nodes.map (nodeIn g), p.edges.map (extEdge g p)⟩

theorem subF_ok {g : Graph} {p : Two} (h : subF g p = 0) : graphF g = 0 ∧ ascF g.nodes.length p.nodes = 0 ∧ ascF g.edges.length p.edges = 0 ∧ ∀ k ∈ p.edges, hasF p.nodes (edgeAt g k).src = true ∧ hasF p.nodes (edgeAt g k).tgt = true := by
  unfold subF at h
  split at h
  · rename_i h1; exact absurd h h1
  rename_i h0
  unfold partF at h
  split at h
  · rename_i h1; exact absurd h h1
  split at h
  · rename_i h1; exact absurd h h1
  split at h
  · cases h
  rename_i h1 h2 h3
  refine ⟨by simpa using h0, by simpa using h1, by simpa using h2, fun k hk => ?_⟩
  have h3 : (p.edges.any fun k => !hasF p.nodes (edgeAt g k).src || !hasF p.nodes (edgeAt g k).tgt) = false := by simpa using h3
  have := List.any_eq_false.1 h3 k hk
  simpa using this

theorem extErrC {g : Graph} {p : Two} (h : subF g p ≠ 0) : Con Tryz.prog 92 [dGraph g, dTwo p] (.tup [.agg [.nil, .nil], .agg [.nil, .nil], .int .i64 (subF g p)]) := by
  have q : (subF g p != 0) = true := by simpa using h
  refine ConC.con (ent _ Tryz.func92 rfl rfl) (con_of_body env Tryz.func92 rfl (nt := 85) (rs := [.cell 4 29, .cell 5 36, .tmp 6]) rfl rfl (Nat.le_of_ble_eq_true rfl) fun hok => ?_)
  repeat' (first | (first | (refine AWP.go env ?_; intro K fin; try simp +decide (maxSteps := 4000000) only [q, go_sem, Nat.reduceAdd, Nat.reduceMul]) | refine Kt.h _ _ ?_ | refine Ft.k (by decide +kernel) ?_ | (refine ⟨_, subC, ?_⟩; simp +decide (maxSteps := 4000000) only [q, go_sem, Nat.reduceAdd, Nat.reduceMul])) | apply cond2_intro | with_reducible apply And.intro | intro h)

theorem extOkC {g : Graph} {p : Two} (h : subF g p = 0) : Con Tryz.prog 92 [dGraph g, dTwo p] (.tup [.agg [.nsl 3 1 ((extractF g p).nodes.map rI), .nsl 143 3 ((extractF g p).edges.map rEdge)], .agg [.nsl 3 1 (p.nodes.map rI), .nsl 3 1 (p.edges.map rI)], .int .i64 0]) := by
  have q : (subF g p != 0) = false := by simpa using h
  obtain ⟨hg0, ha1, ha2, hh⟩ := subF_ok h
  obtain ⟨gl1, gl2, _, _⟩ := graphF_ok hg0
  have pl1 := ascF_len ha1
  have pl2 := ascF_len ha2
  have hs := ascF_sorted ha1
  refine ConC.con (ent _ Tryz.func92 rfl rfl) (con_of_body env Tryz.func92 rfl (nt := 85) (rs := [.cell 4 29, .cell 5 36, .tmp 6]) rfl rfl (Nat.le_of_ble_eq_true rfl) fun hok => ?_)
  repeat' (first | (first | (refine AWP.go env ?_; intro K fin; try simp +decide (maxSteps := 4000000) only [q, go_sem, Nat.reduceAdd, Nat.reduceMul]) | refine Kt.h _ _ ?_ | refine Ft.k (by decide +kernel) ?_ | ((first | refine ⟨_, subC, ?_⟩ | refine ⟨_, subC, ?_⟩ | refine ⟨_, hb1, ?_⟩ | refine ⟨_, hb2, ?_⟩ | refine ⟨_, hc1, ?_⟩ | refine ⟨_, hc2, ?_⟩); simp +decide (maxSteps := 4000000) only [q, go_sem, Nat.reduceAdd, Nat.reduceMul])) | apply cond2_intro | with_reducible apply And.intro | intro h)
  refine AWP.weaken (Wk.nilBox (id := 800) (new := 8001) (r := [.nil, .nil]) 3 1 0 (by simp +decide (maxSteps := 4000000) only [go_sem, Nat.reduceAdd, Nat.reduceMul]; rfl) rfl rfl (by decide) rfl (by decide) (by simp +decide (maxSteps := 4000000) only [go_sem, Nat.reduceAdd, Nat.reduceMul])) ?_
  simp +decide (maxSteps := 4000000) only [go_sem, Nat.reduceAdd, Nat.reduceMul]
  refine AWP.weaken (Wk.nilBox (id := 800) (new := 8002) (r := [.osl 8001 0, .nil]) 143 3 1 (by simp +decide (maxSteps := 4000000) only [go_sem, Nat.reduceAdd, Nat.reduceMul]; rfl) rfl rfl (by decide) rfl (by decide) (by simp +decide (maxSteps := 4000000) only [go_sem, Nat.reduceAdd, Nat.reduceMul])) ?_
  simp +decide (maxSteps := 4000000) only [go_sem, Nat.reduceAdd, Nat.reduceMul]
  refine AWP.lp (α := Nat × Way p.nodes fun _ _ => True)
    (fun w => ⟨85, [(2, .ptr 200 0 0 0), (3, .ptr 300 0 0 0), (4, .ptr 400 0 0 0), (5, .ptr 500 0 0 0), (8, .ptr 800 0 0 0), (23, dInts p.nodes), (24, .int .i64 p.nodes.length), (25, .int .i64 w.2.pre.length)],
      [(200, ⟨0, true, true, 2, 29, [[dInts g.nodes, .fsl 3 (g.edges.map rEdge)]]⟩), (300, ⟨0, true, true, 2, 35, [[dInts p.nodes, dInts p.edges]]⟩),
       (400, ⟨0, true, true, 2, 29, [[.nil, .nil]]⟩), (500, ⟨0, true, true, 2, 36, [[.nil, .nil]]⟩),
       (800, ⟨0, true, true, 2, 29, [[.osl 8001 w.1, .osl 8002 0]]⟩), (8001, ⟨w.1, true, false, 1, 3, (w.2.pre.map (nodeIn g)).map rI⟩), (8002, ⟨0, true, false, 3, 143, []⟩)]⟩) (fun w => w.2.post.length) ⟨0, [], p.nodes, rfl, trivial⟩ (by simp +decide (maxSteps := 4000000) only [go_sem, Nat.reduceAdd, Nat.reduceMul]; try simp) fun w K => ?_
  obtain ⟨ver, a, b, hab, _⟩ := w
  cases b with
  | nil =>
    have hab : p.nodes = a := by simpa using hab
    have hn2 : ((a.length : Int) < (p.nodes.length : Int)) = False := by simp [hab]
    repeat' (first | (first | (refine AWP.go env ?_; intro K fin; try simp +decide (maxSteps := 4000000) only [hn2, go_sem, Nat.reduceAdd, Nat.reduceMul]) | refine Kt.h _ _ ?_ | refine Ft.k (by decide +kernel) ?_ | ((first | refine ⟨_, subC, ?_⟩ | refine ⟨_, subC, ?_⟩ | refine ⟨_, hb1, ?_⟩ | refine ⟨_, hb2, ?_⟩ | refine ⟨_, hc1, ?_⟩ | refine ⟨_, hc2, ?_⟩); simp +decide (maxSteps := 4000000) only [hn2, go_sem, Nat.reduceAdd, Nat.reduceMul])) | apply cond2_intro | with_reducible apply And.intro | intro h)
    refine AWP.lp (α := Nat × Way p.edges fun _ _ => True)
      (fun w => ⟨85, [(2, .ptr 200 0 0 0), (3, .ptr 300 0 0 0), (4, .ptr 400 0 0 0), (5, .ptr 500 0 0 0), (8, .ptr 800 0 0 0), (41, dInts p.edges), (42, .int .i64 p.edges.length), (43, .int .i64 w.2.pre.length)],
        [(200, ⟨0, true, true, 2, 29, [[dInts g.nodes, .fsl 3 (g.edges.map rEdge)]]⟩), (300, ⟨0, true, true, 2, 35, [[dInts p.nodes, dInts p.edges]]⟩),
         (400, ⟨0, true, true, 2, 29, [[.nil, .nil]]⟩), (500, ⟨0, true, true, 2, 36, [[.nil, .nil]]⟩),
         (800, ⟨0, true, true, 2, 29, [[.osl 8001 ver, .osl 8002 w.1]]⟩), (8001, ⟨ver, true, false, 1, 3, (a.map (nodeIn g)).map rI⟩), (8002, ⟨w.1, true, false, 3, 143, (w.2.pre.map (extEdge g p)).map rEdge⟩)]⟩) (fun w => w.2.post.length) ⟨0, [], p.edges, rfl, trivial⟩ (by simp +decide (maxSteps := 4000000) only [go_sem, Nat.reduceAdd, Nat.reduceMul]; try simp) fun w K => ?_
    obtain ⟨ver2, c, d, hcd, _⟩ := w
    cases d with
    | nil =>
      have hcd : p.edges = c := by simpa using hcd
      have hn3 : ((c.length : Int) < (p.edges.length : Int)) = False := by simp [hcd]
      have hc1 := cloneIntC (rows := p.nodes.map rI) (by simp; omega)
      have hc2 := cloneIntC (rows := p.edges.map rI) (by simp; omega)
      repeat' (first | (first | (refine AWP.go env ?_; intro K fin; try simp +decide (maxSteps := 4000000) only [hn3, go_sem, Nat.reduceAdd, Nat.reduceMul]) | refine Kt.h _ _ ?_ | refine Ft.k (by decide +kernel) ?_ | ((first | refine ⟨_, subC, ?_⟩ | refine ⟨_, subC, ?_⟩ | refine ⟨_, hb1, ?_⟩ | refine ⟨_, hb2, ?_⟩ | refine ⟨_, hc1, ?_⟩ | refine ⟨_, hc2, ?_⟩); simp +decide (maxSteps := 4000000) only [hn3, go_sem, Nat.reduceAdd, Nat.reduceMul])) | apply cond2_intro | with_reducible apply And.intro | intro h)
      all_goals try contradiction
      unfold extractF; rw [hab, hcd]
    | cons k d =>
      have hcl : c.length < p.edges.length := by rw [hcd]; simp
      have hn3 : ((c.length : Int) < (p.edges.length : Int)) = True := by simp [hcl]
      have hget : getR (p.edges.map rI) c.length = [.int .i64 k] := by rw [hcd]; simp [getR, rI]
      have v3 := wk_i' (t := c.length) (by omega)
      have hk := ascF_range ha2 k (by rw [hcd]; simp)
      have hge := edgeAt_row hk.1 hk.2
      have hb1 := binSearchC hs (by omega) (x := (edgeAt g k).src)
      have hb2 := binSearchC hs (by omega) (x := (edgeAt g k).tgt)
      repeat' (first | (first | (refine AWP.go env ?_; intro K fin; try simp +decide (maxSteps := 4000000) only [hn3, hget, hge, v3, go_sem, Nat.reduceAdd, Nat.reduceMul]) | refine Kt.h _ _ ?_ | refine Ft.k (by decide +kernel) ?_ | ((first | refine ⟨_, subC, ?_⟩ | refine ⟨_, subC, ?_⟩ | refine ⟨_, hb1, ?_⟩ | refine ⟨_, hb2, ?_⟩ | refine ⟨_, hc1, ?_⟩ | refine ⟨_, hc2, ?_⟩); simp +decide (maxSteps := 4000000) only [hn3, hget, hge, v3, go_sem, Nat.reduceAdd, Nat.reduceMul])) | apply cond2_intro | with_reducible apply And.intro | intro h)
      all_goals try (first | omega | (unfold lim; omega))
      all_goals try (simp only [List.mem_cons, List.not_mem_nil, or_false] at h; (repeat' (first | (subst h; rfl) | rcases h with h | h)))
      all_goals try contradiction
      refine ⟨⟨ver2 + 1, c ++ [k], d, by simp [hcd], trivial⟩, by simp, by simp +decide (maxSteps := 4000000) only [go_sem, Nat.reduceAdd, Nat.reduceMul]; simp [extEdge, rEdge]⟩
  | cons k b =>
    have hal : a.length < p.nodes.length := by rw [hab]; simp
    have hn2 : ((a.length : Int) < (p.nodes.length : Int)) = True := by simp [hal]
    have hget : getR (p.nodes.map rI) a.length = [.int .i64 k] := by rw [hab]; simp [getR, rI]
    have v3 := wk_i' (t := a.length) (by omega)
    have hk := ascF_range ha1 k (by rw [hab]; simp)
    have hge : getR (g.nodes.map rI) k.toNat = [.int .i64 (nodeIn g k)] := ints_row hk.1 hk.2
    repeat' (first | (first | (refine AWP.go env ?_; intro K fin; try simp +decide (maxSteps := 4000000) only [hn2, hget, hge, v3, go_sem, Nat.reduceAdd, Nat.reduceMul]) | refine Kt.h _ _ ?_ | refine Ft.k (by decide +kernel) ?_ | ((first | refine ⟨_, subC, ?_⟩ | refine ⟨_, subC, ?_⟩ | refine ⟨_, hb1, ?_⟩ | refine ⟨_, hb2, ?_⟩ | refine ⟨_, hc1, ?_⟩ | refine ⟨_, hc2, ?_⟩); simp +decide (maxSteps := 4000000) only [hn2, hget, hge, v3, go_sem, Nat.reduceAdd, Nat.reduceMul])) | apply cond2_intro | with_reducible apply And.intro | intro h)
    all_goals try (first | omega | (unfold lim; omega))
    all_goals try (simp only [List.mem_cons, List.not_mem_nil, or_false] at h; (repeat' (first | (subst h; rfl) | rcases h with h | h)))
    all_goals try contradiction
    refine ⟨⟨ver + 1, a ++ [k], b, by simp [hab], trivial⟩, by simp, by simp +decide (maxSteps := 4000000) only [go_sem, Nat.reduceAdd, Nat.reduceMul]; simp⟩
end Go.Abs
/- The graph of a part, of the specification. -/
set_option linter.unusedSimpArgs false
set_option linter.unusedVariables false
set_option maxRecDepth 20000
set_option maxHeartbeats 4000000
namespace Go.Abs
open Go Go.RowKit Go.Proofs
attribute [local irreducible] Con AWP

theorem idx_pos {l : List Int} {x : Int} (hs : l.Pairwise (· < ·)) (hx : hasF l x = true) : idxF (fun y => y == x) l = (posF l x : Int) := by
  unfold hasF at hx
  obtain ⟨y, hy, he⟩ := List.any_eq_true.1 hx
  obtain rfl : y = x := by simpa using he
  obtain ⟨pre, post, rfl⟩ := List.append_of_mem hy
  have h1 := List.pairwise_append.1 hs
  have h2 := List.pairwise_cons.1 h1.2.1
  rw [idxF_at pre y post (fun z hz => by have := h1.2.2 z hz y (by simp); simp; omega) (by simp)]
  have : posF (pre ++ y :: post) y = pre.length := by
    refine countP_split (by simp) (fun q hq hlt => ?_) (fun q hq hge => ?_)
    · rw [List.getElem_append_left hlt]; exact h1.2.2 _ (List.getElem_mem hlt) y (by simp)
    · rw [List.getElem_append_right hge]
      by_cases h0 : q - pre.length = 0
      · simp [h0]
      · obtain ⟨m, hm⟩ : ∃ m, q - pre.length = m + 1 := ⟨q - pre.length - 1, by omega⟩
        simp only [hm, List.getElem_cons_succ]
        exact Int.le_of_lt (h2.1 _ (List.getElem_mem _))
  rw [this]

theorem rIndexC {l : List Int} {x : Int} : Con Tryz.prog 151 [dInts l, .int .i64 x] (.int .i64 (idxF (fun y => y == x) l)) := by
  refine ConC.con (ent _ Tryz.func151 rfl rfl) (con_of_body env Tryz.func151 rfl (nt := 19) (rs := [.tmp 4]) rfl rfl (Nat.le_of_ble_eq_true rfl) fun hok => ?_)
  have hlen : l.length ≤ 140737488355328 := by simpa using (hok _ (List.mem_cons_self ..)).len
  repeat' (first | (first | (refine AWP.go env ?_; intro K fin; try simp +decide (maxSteps := 4000000) only [go_sem, Nat.reduceAdd, Nat.reduceMul]) | refine Kt.h _ _ ?_ | refine Ft.k (by decide +kernel) ?_) | apply cond2_intro | with_reducible apply And.intro | intro h)
  refine AWP.lp (α := PP (fun y => y == x) l)
    (fun w => ⟨19, [(0, dInts l), (1, .int .i64 x), (5, .int .i64 w.pre.length)], []⟩) (fun w => w.post.length) ⟨[], l, rfl, by simp⟩ (by simp +decide (maxSteps := 4000000) only [go_sem, Nat.reduceAdd, Nat.reduceMul]; try simp) fun w K => ?_
  obtain ⟨a, b, hab, hno⟩ := w
  cases b with
  | nil =>
    have hab : l = a := by simpa using hab
    have hn2 : ((a.length : Int) < (l.length : Int)) = False := by simp [hab]
    repeat' (first | (first | (refine AWP.go env ?_; intro K fin; try simp +decide (maxSteps := 4000000) only [hn2, go_sem, Nat.reduceAdd, Nat.reduceMul]) | refine Kt.h _ _ ?_ | refine Ft.k (by decide +kernel) ?_) | apply cond2_intro | with_reducible apply And.intro | intro h)
    rw [hab]; exact (idxF_no a hno).symm
  | cons y b =>
    have hal : a.length < l.length := by rw [hab]; simp
    have hn2 : ((a.length : Int) < (l.length : Int)) = True := by simp [hal]
    have hget : getR (l.map rI) a.length = [.int .i64 y] := by rw [hab]; simp [getR, rI]
    have v3 : IntKind.i64.wrap ((a.length : Int) + 1) = ((a.length + 1 : Nat) : Int) := by rw [wrap64 (by omega) (by omega)]; try rfl
    repeat' (first | (first | (refine AWP.go env ?_; intro K fin; try simp +decide (maxSteps := 4000000) only [hn2, hget, v3, go_sem, Nat.reduceAdd, Nat.reduceMul]) | refine Kt.h _ _ ?_ | refine Ft.k (by decide +kernel) ?_) | apply cond2_intro | with_reducible apply And.intro | intro h)
    all_goals try omega
    · rw [hab]; exact (idxF_at a y b hno (by assumption)).symm
    · refine ⟨⟨a ++ [y], b, by simp [hab], fun z hz => ?_⟩, by simp, by simp +decide (maxSteps := 4000000) only [go_sem, Nat.reduceAdd, Nat.reduceMul]; simp⟩
      rcases List.mem_append.1 hz with hz | hz
      · exact hno z hz
      · obtain rfl : z = y := by simpa using hz
        assumption

theorem rExtErrC {g : Graph} {p : Two} (h : subF g p ≠ 0) : Con Tryz.prog 80 [dGraph g, dTwo p] (.tup [.agg [.nil, .nil], .agg [.nil, .nil], .int .i64 (subF g p)]) := by
  have q : (subF g p != 0) = true := by simpa using h
  refine ConC.con (ent _ Tryz.func80 rfl rfl) (con_of_body env Tryz.func80 rfl (nt := 85) (rs := [.cell 4 29, .cell 5 36, .tmp 6]) rfl rfl (Nat.le_of_ble_eq_true rfl) fun hok => ?_)
  repeat' (first | (first | (refine AWP.go env ?_; intro K fin; try simp +decide (maxSteps := 4000000) only [q, go_sem, Nat.reduceAdd, Nat.reduceMul]) | refine Kt.h _ _ ?_ | refine Ft.k (by decide +kernel) ?_ | (refine ⟨_, rSubC, ?_⟩; simp +decide (maxSteps := 4000000) only [q, go_sem, Nat.reduceAdd, Nat.reduceMul])) | apply cond2_intro | with_reducible apply And.intro | intro h)

theorem rExtOkC {g : Graph} {p : Two} (h : subF g p = 0) : Con Tryz.prog 80 [dGraph g, dTwo p] (.tup [.agg [.nsl 3 1 ((extractF g p).nodes.map rI), .nsl 143 3 ((extractF g p).edges.map rEdge)], .agg [.nsl 3 1 (p.nodes.map rI), .nsl 3 1 (p.edges.map rI)], .int .i64 0]) := by
  have q : (subF g p != 0) = false := by simpa using h
  obtain ⟨hg0, ha1, ha2, hh⟩ := subF_ok h
  obtain ⟨gl1, gl2, _, _⟩ := graphF_ok hg0
  have pl1 := ascF_len ha1
  have pl2 := ascF_len ha2
  have hs := ascF_sorted ha1
  refine ConC.con (ent _ Tryz.func80 rfl rfl) (con_of_body env Tryz.func80 rfl (nt := 85) (rs := [.cell 4 29, .cell 5 36, .tmp 6]) rfl rfl (Nat.le_of_ble_eq_true rfl) fun hok => ?_)
  repeat' (first | (first | (refine AWP.go env ?_; intro K fin; try simp +decide (maxSteps := 4000000) only [q, go_sem, Nat.reduceAdd, Nat.reduceMul]) | refine Kt.h _ _ ?_ | refine Ft.k (by decide +kernel) ?_ | ((first | refine ⟨_, rSubC, ?_⟩ | refine ⟨_, rSubC, ?_⟩ | refine ⟨_, hb1, ?_⟩ | refine ⟨_, hb2, ?_⟩); simp +decide (maxSteps := 4000000) only [q, go_sem, Nat.reduceAdd, Nat.reduceMul])) | apply cond2_intro | with_reducible apply And.intro | intro h)
  refine AWP.weaken (Wk.nilBox (id := 800) (new := 8001) (r := [.nil, .nil]) 3 1 0 (by simp +decide (maxSteps := 4000000) only [go_sem, Nat.reduceAdd, Nat.reduceMul]; rfl) rfl rfl (by decide) rfl (by decide) (by simp +decide (maxSteps := 4000000) only [go_sem, Nat.reduceAdd, Nat.reduceMul])) ?_
  simp +decide (maxSteps := 4000000) only [go_sem, Nat.reduceAdd, Nat.reduceMul]
  refine AWP.weaken (Wk.nilBox (id := 800) (new := 8002) (r := [.osl 8001 0, .nil]) 143 3 1 (by simp +decide (maxSteps := 4000000) only [go_sem, Nat.reduceAdd, Nat.reduceMul]; rfl) rfl rfl (by decide) rfl (by decide) (by simp +decide (maxSteps := 4000000) only [go_sem, Nat.reduceAdd, Nat.reduceMul])) ?_
  simp +decide (maxSteps := 4000000) only [go_sem, Nat.reduceAdd, Nat.reduceMul]
  refine AWP.lp (α := Nat × Way p.nodes fun _ _ => True)
    (fun w => ⟨85, [(2, .ptr 200 0 0 0), (3, .ptr 300 0 0 0), (4, .ptr 400 0 0 0), (5, .ptr 500 0 0 0), (8, .ptr 800 0 0 0), (9, .int .i64 w.2.pre.length)],
      [(200, ⟨0, true, true, 2, 29, [[dInts g.nodes, .fsl 3 (g.edges.map rEdge)]]⟩), (300, ⟨0, true, true, 2, 35, [[dInts p.nodes, dInts p.edges]]⟩),
       (400, ⟨0, true, true, 2, 29, [[.nil, .nil]]⟩), (500, ⟨0, true, true, 2, 36, [[.nil, .nil]]⟩),
       (800, ⟨0, true, true, 2, 29, [[.osl 8001 w.1, .osl 8002 0]]⟩), (8001, ⟨w.1, true, false, 1, 3, (w.2.pre.map (nodeIn g)).map rI⟩), (8002, ⟨0, true, false, 3, 143, []⟩)]⟩) (fun w => w.2.post.length) ⟨0, [], p.nodes, rfl, trivial⟩ (by simp +decide (maxSteps := 4000000) only [go_sem, Nat.reduceAdd, Nat.reduceMul]; try simp) fun w K => ?_
  obtain ⟨ver, a, b, hab, _⟩ := w
  cases b with
  | nil =>
    have hab : p.nodes = a := by simpa using hab
    have hn2 : ((a.length : Int) < (p.nodes.length : Int)) = False := by simp [hab]
    repeat' (first | (first | (refine AWP.go env ?_; intro K fin; try simp +decide (maxSteps := 4000000) only [hn2, go_sem, Nat.reduceAdd, Nat.reduceMul]) | refine Kt.h _ _ ?_ | refine Ft.k (by decide +kernel) ?_ | ((first | refine ⟨_, rSubC, ?_⟩ | refine ⟨_, rSubC, ?_⟩ | refine ⟨_, hb1, ?_⟩ | refine ⟨_, hb2, ?_⟩); simp +decide (maxSteps := 4000000) only [hn2, go_sem, Nat.reduceAdd, Nat.reduceMul])) | apply cond2_intro | with_reducible apply And.intro | intro h)
    refine AWP.lp (α := Nat × Way p.edges fun _ _ => True)
      (fun w => ⟨85, [(2, .ptr 200 0 0 0), (3, .ptr 300 0 0 0), (4, .ptr 400 0 0 0), (5, .ptr 500 0 0 0), (8, .ptr 800 0 0 0), (10, .int .i64 w.2.pre.length)],
        [(200, ⟨0, true, true, 2, 29, [[dInts g.nodes, .fsl 3 (g.edges.map rEdge)]]⟩), (300, ⟨0, true, true, 2, 35, [[dInts p.nodes, dInts p.edges]]⟩),
         (400, ⟨0, true, true, 2, 29, [[.nil, .nil]]⟩), (500, ⟨0, true, true, 2, 36, [[.nil, .nil]]⟩),
         (800, ⟨0, true, true, 2, 29, [[.osl 8001 ver, .osl 8002 w.1]]⟩), (8001, ⟨ver, true, false, 1, 3, (a.map (nodeIn g)).map rI⟩), (8002, ⟨w.1, true, false, 3, 143, (w.2.pre.map (extEdge g p)).map rEdge⟩)]⟩) (fun w => w.2.post.length) ⟨0, [], p.edges, rfl, trivial⟩ (by simp +decide (maxSteps := 4000000) only [go_sem, Nat.reduceAdd, Nat.reduceMul]; try simp) fun w K => ?_
    obtain ⟨ver2, c, d, hcd, _⟩ := w
    cases d with
    | nil =>
      have hcd : p.edges = c := by simpa using hcd
      have hn3 : ((c.length : Int) < (p.edges.length : Int)) = False := by simp [hcd]
      repeat' (first | (first | (refine AWP.go env ?_; intro K fin; try simp +decide (maxSteps := 4000000) only [hn3, go_sem, Nat.reduceAdd, Nat.reduceMul]) | refine Kt.h _ _ ?_ | refine Ft.k (by decide +kernel) ?_ | ((first | refine ⟨_, rSubC, ?_⟩ | refine ⟨_, rSubC, ?_⟩ | refine ⟨_, hb1, ?_⟩ | refine ⟨_, hb2, ?_⟩); simp +decide (maxSteps := 4000000) only [hn3, go_sem, Nat.reduceAdd, Nat.reduceMul])) | apply cond2_intro | with_reducible apply And.intro | intro h)
      all_goals try (first | omega | (unfold lim; omega))
      all_goals try contradiction
      unfold extractF; rw [hab, hcd]
    | cons k d =>
      have hcl : c.length < p.edges.length := by rw [hcd]; simp
      have hn3 : ((c.length : Int) < (p.edges.length : Int)) = True := by simp [hcl]
      have hget : getR (p.edges.map rI) c.length = [.int .i64 k] := by rw [hcd]; simp [getR, rI]
      have v3 := wk_i' (t := c.length) (by omega)
      have hk := ascF_range ha2 k (by rw [hcd]; simp)
      have hge := edgeAt_row hk.1 hk.2
      have hkk := hh k (by rw [hcd]; simp)
      have hb1 := rIndexC (l := p.nodes) (x := (edgeAt g k).src)
      have hb2 := rIndexC (l := p.nodes) (x := (edgeAt g k).tgt)
      rw [idx_pos hs hkk.1] at hb1
      rw [idx_pos hs hkk.2] at hb2
      repeat' (first | (first | (refine AWP.go env ?_; intro K fin; try simp +decide (maxSteps := 4000000) only [hn3, hget, hge, v3, go_sem, Nat.reduceAdd, Nat.reduceMul]) | refine Kt.h _ _ ?_ | refine Ft.k (by decide +kernel) ?_ | ((first | refine ⟨_, rSubC, ?_⟩ | refine ⟨_, rSubC, ?_⟩ | refine ⟨_, hb1, ?_⟩ | refine ⟨_, hb2, ?_⟩); simp +decide (maxSteps := 4000000) only [hn3, hget, hge, v3, go_sem, Nat.reduceAdd, Nat.reduceMul])) | apply cond2_intro | with_reducible apply And.intro | intro h)
      all_goals try (first | omega | (unfold lim; omega))
      all_goals try (simp only [List.mem_cons, List.not_mem_nil, or_false] at h; (repeat' (first | (subst h; rfl) | rcases h with h | h)))
      all_goals try contradiction
      refine ⟨⟨ver2 + 1, c ++ [k], d, by simp [hcd], trivial⟩, by simp, by simp +decide (maxSteps := 4000000) only [go_sem, Nat.reduceAdd, Nat.reduceMul]; simp [extEdge, rEdge]⟩
  | cons k b =>
    have hal : a.length < p.nodes.length := by rw [hab]; simp
    have hn2 : ((a.length : Int) < (p.nodes.length : Int)) = True := by simp [hal]
    have hget : getR (p.nodes.map rI) a.length = [.int .i64 k] := by rw [hab]; simp [getR, rI]
    have v3 := wk_i' (t := a.length) (by omega)
    have hk := ascF_range ha1 k (by rw [hab]; simp)
    have hge : getR (g.nodes.map rI) k.toNat = [.int .i64 (nodeIn g k)] := ints_row hk.1 hk.2
    repeat' (first | (first | (refine AWP.go env ?_; intro K fin; try simp +decide (maxSteps := 4000000) only [hn2, hget, hge, v3, go_sem, Nat.reduceAdd, Nat.reduceMul]) | refine Kt.h _ _ ?_ | refine Ft.k (by decide +kernel) ?_ | ((first | refine ⟨_, rSubC, ?_⟩ | refine ⟨_, rSubC, ?_⟩ | refine ⟨_, hb1, ?_⟩ | refine ⟨_, hb2, ?_⟩); simp +decide (maxSteps := 4000000) only [hn2, hget, hge, v3, go_sem, Nat.reduceAdd, Nat.reduceMul])) | apply cond2_intro | with_reducible apply And.intro | intro h)
    all_goals try (first | omega | (unfold lim; omega))
    all_goals try (simp only [List.mem_cons, List.not_mem_nil, or_false] at h; (repeat' (first | (subst h; rfl) | rcases h with h | h)))
    all_goals try contradiction
    refine ⟨⟨ver + 1, a ++ [k], b, by simp [hab], trivial⟩, by simp, by simp +decide (maxSteps := 4000000) only [go_sem, Nat.reduceAdd, Nat.reduceMul]; simp⟩
end Go.Abs
/- Morphisms, of the specification. -/
set_option linter.unusedSimpArgs false
set_option linter.unusedVariables false
set_option maxRecDepth 20000
set_option maxHeartbeats 4000000
namespace Go.Abs
open Go Go.RowKit Go.Proofs
attribute [local irreducible] Con AWP

theorem rMorC {a b : Graph} {m : Two} : Con Tryz.prog 135 [dGraph a, dGraph b, dTwo m] (.int .i64 (morF a b m)) := by
  refine ConC.con (ent _ Tryz.func135 rfl rfl) (con_of_body env Tryz.func135 rfl (nt := 141) (rs := [.tmp 6]) rfl rfl (Nat.le_of_ble_eq_true rfl) fun hok => ?_)
  repeat' (first | (first | (refine AWP.go env ?_; intro K fin; try simp +decide (maxSteps := 4000000) only [go_sem, Nat.reduceAdd, Nat.reduceMul]) | refine Kt.h _ _ ?_ | refine Ft.k (by decide +kernel) ?_ | ((first | refine ⟨_, rGraphC (g := a), ?_⟩ | refine ⟨_, rGraphC (g := b), ?_⟩); simp +decide (maxSteps := 4000000) only [go_sem, Nat.reduceAdd, Nat.reduceMul])) | apply cond2_intro | with_reducible apply And.intro | intro h)
  · unfold morF; rw [if_pos (by simpa using h)]
  · have h0 : (graphF a != 0) = false := by assumption
    unfold morF; rw [if_neg (by simpa using h0), if_pos (by simpa using h)]
  · have h0 : (graphF a != 0) = false := by assumption
    have h1 : (graphF b != 0) = false := by assumption
    unfold morF; rw [if_neg (by simpa using h0), if_neg (by simpa using h1), if_pos (.inl (by simp at h; omega))]
  · have h0 : (graphF a != 0) = false := by assumption
    have h1 : (graphF b != 0) = false := by assumption
    unfold morF; rw [if_neg (by simpa using h0), if_neg (by simpa using h1), if_pos (.inr (by simp at h; omega))]
  have ha0 : graphF a = 0 := by have h0 : (graphF a != 0) = false := by assumption
                                simpa using h0
  have hb0 : graphF b = 0 := by have h0 : (graphF b != 0) = false := by assumption
                                simpa using h0
  have hnl : m.nodes.length = a.nodes.length := by
    have h0 : ((m.nodes.length : Int) != (a.nodes.length : Int)) = false := by assumption
    simp at h0; omega
  have hel : m.edges.length = a.edges.length := by simp at h; omega
  obtain ⟨ga1, ga2, ga3, ga4⟩ := graphF_ok ha0
  have hF : morF a b m = if firstErr (morNodeF b) (a.nodes.zip m.nodes) ≠ 0 then firstErr (morNodeF b) (a.nodes.zip m.nodes) else firstErr (morEdgeF b m) (a.edges.zip m.edges) := by
    unfold morF; rw [if_neg (by simp [ha0]), if_neg (by simp [hb0]), if_neg (by omega)]
  have hz1 : (a.nodes.zip m.nodes).length = m.nodes.length := by simp; omega
  have hz2 : (a.edges.zip m.edges).length = m.edges.length := by simp; omega
  refine AWP.lp (α := Way (a.nodes.zip m.nodes) fun _ d => firstErr (morNodeF b) d = firstErr (morNodeF b) (a.nodes.zip m.nodes))
    (fun w => ⟨141, [(3, .ptr 300 0 0 0), (4, .ptr 400 0 0 0), (5, .ptr 500 0 0 0), (9, .int .i64 w.pre.length)],
      [(300, ⟨0, true, true, 2, 29, [[dInts a.nodes, .fsl 3 (a.edges.map rEdge)]]⟩), (400, ⟨0, true, true, 2, 29, [[dInts b.nodes, .fsl 3 (b.edges.map rEdge)]]⟩), (500, ⟨0, true, true, 2, 36, [[dInts m.nodes, dInts m.edges]]⟩)]⟩) (fun w => w.post.length) ⟨[], a.nodes.zip m.nodes, rfl, rfl⟩ (by simp +decide (maxSteps := 4000000) only [go_sem, Nat.reduceAdd, Nat.reduceMul]; try simp) fun w K => ?_
  obtain ⟨c, d, hcd, hinv⟩ := w
  cases d with
  | nil =>
    have hcl : c.length = m.nodes.length := by rw [← hz1, hcd]; simp
    have hn2 : ((c.length : Int) < (a.nodes.length : Int)) = False := by simp; omega
    repeat' (first | (first | (refine AWP.go env ?_; intro K fin; try simp +decide (maxSteps := 4000000) only [hn2, go_sem, Nat.reduceAdd, Nat.reduceMul]) | refine Kt.h _ _ ?_ | refine Ft.k (by decide +kernel) ?_ | ((first | refine ⟨_, rGraphC (g := a), ?_⟩ | refine ⟨_, rGraphC (g := b), ?_⟩); simp +decide (maxSteps := 4000000) only [hn2, go_sem, Nat.reduceAdd, Nat.reduceMul])) | apply cond2_intro | with_reducible apply And.intro | intro h)
    have hN : firstErr (morNodeF b) (a.nodes.zip m.nodes) = 0 := by rw [← hinv]; try rfl
    refine AWP.lp (α := Way (a.edges.zip m.edges) fun _ d => firstErr (morEdgeF b m) d = firstErr (morEdgeF b m) (a.edges.zip m.edges))
      (fun w => ⟨141, [(3, .ptr 300 0 0 0), (4, .ptr 400 0 0 0), (5, .ptr 500 0 0 0), (10, .int .i64 w.pre.length)],
        [(300, ⟨0, true, true, 2, 29, [[dInts a.nodes, .fsl 3 (a.edges.map rEdge)]]⟩), (400, ⟨0, true, true, 2, 29, [[dInts b.nodes, .fsl 3 (b.edges.map rEdge)]]⟩), (500, ⟨0, true, true, 2, 36, [[dInts m.nodes, dInts m.edges]]⟩)]⟩) (fun w => w.post.length) ⟨[], a.edges.zip m.edges, rfl, rfl⟩ (by simp +decide (maxSteps := 4000000) only [go_sem, Nat.reduceAdd, Nat.reduceMul]; try simp) fun w K => ?_
    obtain ⟨e, f, hef, hinv2⟩ := w
    rw [hN, if_neg (by simp)] at hF
    cases f with
    | nil =>
      have hel2 : e.length = m.edges.length := by rw [← hz2, hef]; simp
      have hn3 : ((e.length : Int) < (a.edges.length : Int)) = False := by simp; omega
      repeat' (first | (first | (refine AWP.go env ?_; intro K fin; try simp +decide (maxSteps := 4000000) only [hn3, go_sem, Nat.reduceAdd, Nat.reduceMul]) | refine Kt.h _ _ ?_ | refine Ft.k (by decide +kernel) ?_ | ((first | refine ⟨_, rGraphC (g := a), ?_⟩ | refine ⟨_, rGraphC (g := b), ?_⟩); simp +decide (maxSteps := 4000000) only [hn3, go_sem, Nat.reduceAdd, Nat.reduceMul])) | apply cond2_intro | with_reducible apply And.intro | intro h)
      rw [hF, ← hinv2]; try rfl
    | cons x f =>
      obtain ⟨x, k⟩ := x
      obtain ⟨hx1, hx2⟩ := zip_get hef
      obtain ⟨hg1, hl1⟩ := getR_some (f := rEdge) hx1
      obtain ⟨hg2, hl2⟩ := getR_some (f := rI) hx2
      unfold rEdge at hg1
      have hg1 : getR (a.edges.map rEdge) e.length = [.int .i64 x.typ, .int .i64 x.src, .int .i64 x.tgt] := hg1
      have hg2 : getR (m.edges.map rI) e.length = [.int .i64 k] := hg2
      have hn3 : ((e.length : Int) < (a.edges.length : Int)) = True := by simp; omega
      have v3 := wk_i' (t := e.length) (by omega)
      have hok2 := ga4 x (List.mem_of_getElem? hx1)
      unfold edgeOk at hok2
      simp only [Bool.and_eq_true, decide_eq_true_eq] at hok2
      have hm1 := ints_row (l := m.nodes) (k := x.src) hok2.1.2.1 (by omega)
      have hm2 := ints_row (l := m.nodes) (k := x.tgt) hok2.2.1 (by omega)
      by_cases hr : k < 0 ∨ (b.edges.length : Int) ≤ k
      · have hf : morEdgeF b m (x, k) = 6 := by unfold morEdgeF; rw [if_pos hr]
        have h6 : 6 = morF a b m := by rw [hF, ← hinv2, firstErr, hf]; try rfl
        rcases hr with hr | hr
        · have q : (k < 0) = True := by simpa using hr
          repeat' (first | (first | (refine AWP.go env ?_; intro K fin; try simp +decide (maxSteps := 4000000) only [hn3, hg1, hg2, v3, q, go_sem, Nat.reduceAdd, Nat.reduceMul]) | refine Kt.h _ _ ?_ | refine Ft.k (by decide +kernel) ?_ | ((first | refine ⟨_, rGraphC (g := a), ?_⟩ | refine ⟨_, rGraphC (g := b), ?_⟩); simp +decide (maxSteps := 4000000) only [hn3, hg1, hg2, v3, q, go_sem, Nat.reduceAdd, Nat.reduceMul])) | apply cond2_intro | with_reducible apply And.intro | intro h)
          all_goals first | omega | exact h6
        · have q : ((b.edges.length : Int) ≤ k) = True := by simpa using hr
          repeat' (first | (first | (refine AWP.go env ?_; intro K fin; try simp +decide (maxSteps := 4000000) only [hn3, hg1, hg2, v3, q, go_sem, Nat.reduceAdd, Nat.reduceMul]) | refine Kt.h _ _ ?_ | refine Ft.k (by decide +kernel) ?_ | ((first | refine ⟨_, rGraphC (g := a), ?_⟩ | refine ⟨_, rGraphC (g := b), ?_⟩); simp +decide (maxSteps := 4000000) only [hn3, hg1, hg2, v3, q, go_sem, Nat.reduceAdd, Nat.reduceMul])) | apply cond2_intro | with_reducible apply And.intro | intro h)
          all_goals first | omega | exact h6
      · have q1 : (k < 0) = False := by simp; omega
        have q2 : ((b.edges.length : Int) ≤ k) = False := by simp; omega
        have hge := edgeAt_row (g := b) (k := k) (by omega) (by omega)
        have hf : morEdgeF b m (x, k) = if x.typ ≠ (edgeAt b k).typ then 13 else if mapAt m x.src ≠ (edgeAt b k).src ∨ mapAt m x.tgt ≠ (edgeAt b k).tgt then 11 else 0 := by unfold morEdgeF; rw [if_neg hr]
        have hm1 : getR (m.nodes.map rI) x.src.toNat = [.int .i64 (mapAt m x.src)] := hm1
        have hm2 : getR (m.nodes.map rI) x.tgt.toNat = [.int .i64 (mapAt m x.tgt)] := hm2
        repeat' (first | (first | (refine AWP.go env ?_; intro K fin; try simp +decide (maxSteps := 4000000) only [hn3, hg1, hg2, v3, q1, q2, hge, hm1, hm2, go_sem, Nat.reduceAdd, Nat.reduceMul]) | refine Kt.h _ _ ?_ | refine Ft.k (by decide +kernel) ?_ | ((first | refine ⟨_, rGraphC (g := a), ?_⟩ | refine ⟨_, rGraphC (g := b), ?_⟩); simp +decide (maxSteps := 4000000) only [hn3, hg1, hg2, v3, q1, q2, hge, hm1, hm2, go_sem, Nat.reduceAdd, Nat.reduceMul])) | apply cond2_intro | with_reducible apply And.intro | intro h)
        all_goals try omega
        all_goals try (simp only [List.mem_cons, List.not_mem_nil, or_false] at h; (repeat' (first | (subst h; rfl) | rcases h with h | h)))
        · have h' : (x.typ != (edgeAt b k).typ) = true := by assumption
          have hv : morEdgeF b m (x, k) = 13 := by rw [hf, if_pos (by simpa using h')]
          rw [hF, ← hinv2, firstErr, hv]; try rfl
        · have h1 : (x.typ != (edgeAt b k).typ) = false := by assumption
          have h' : (mapAt m x.src != (edgeAt b k).src) = true := by assumption
          have hv : morEdgeF b m (x, k) = 11 := by rw [hf, if_neg (by simpa using h1), if_pos (.inl (by simpa using h'))]
          rw [hF, ← hinv2, firstErr, hv]; try rfl
        · have h1 : (x.typ != (edgeAt b k).typ) = false := by assumption
          have h' : (mapAt m x.tgt != (edgeAt b k).tgt) = true := by assumption
          have hv : morEdgeF b m (x, k) = 11 := by rw [hf, if_neg (by simpa using h1), if_pos (.inr (by simpa using h'))]
          rw [hF, ← hinv2, firstErr, hv]; try rfl
        · have h1 : (x.typ != (edgeAt b k).typ) = false := by assumption
          have h2 : (mapAt m x.src != (edgeAt b k).src) = false := by assumption
          have h3 : (mapAt m x.tgt != (edgeAt b k).tgt) = false := by assumption
          have hv : morEdgeF b m (x, k) = 0 := by rw [hf, if_neg (by simpa using h1), if_neg (by simp at h2 h3; omega)]
          refine ⟨⟨e ++ [(x, k)], f, by simp [hef], ?_⟩, by simp, by simp +decide (maxSteps := 4000000) only [go_sem, Nat.reduceAdd, Nat.reduceMul]; simp⟩
          rw [← hinv2, firstErr, hv]; simp
  | cons x d =>
    obtain ⟨x, k⟩ := x
    obtain ⟨hx1, hx2⟩ := zip_get hcd
    obtain ⟨hg1, hl1⟩ := getR_some (f := rI) hx1
    obtain ⟨hg2, hl2⟩ := getR_some (f := rI) hx2
    have hg1 : getR (a.nodes.map rI) c.length = [.int .i64 x] := hg1
    have hg2 : getR (m.nodes.map rI) c.length = [.int .i64 k] := hg2
    have hn3 : ((c.length : Int) < (a.nodes.length : Int)) = True := by simp; omega
    have v3 := wk_i' (t := c.length) (by omega)
    by_cases hr : k < 0 ∨ (b.nodes.length : Int) ≤ k
    · have hf : morNodeF b (x, k) = 6 := by unfold morNodeF; rw [if_pos hr]
      have h6 : 6 = morF a b m := by rw [hF, ← hinv, firstErr, hf]; try rfl
      rcases hr with hr | hr
      · have q : (k < 0) = True := by simpa using hr
        repeat' (first | (first | (refine AWP.go env ?_; intro K fin; try simp +decide (maxSteps := 4000000) only [hn3, hg1, hg2, v3, q, go_sem, Nat.reduceAdd, Nat.reduceMul]) | refine Kt.h _ _ ?_ | refine Ft.k (by decide +kernel) ?_ | ((first | refine ⟨_, rGraphC (g := a), ?_⟩ | refine ⟨_, rGraphC (g := b), ?_⟩); simp +decide (maxSteps := 4000000) only [hn3, hg1, hg2, v3, q, go_sem, Nat.reduceAdd, Nat.reduceMul])) | apply cond2_intro | with_reducible apply And.intro | intro h)
        all_goals first | omega | exact h6
      · have q : ((b.nodes.length : Int) ≤ k) = True := by simpa using hr
        repeat' (first | (first | (refine AWP.go env ?_; intro K fin; try simp +decide (maxSteps := 4000000) only [hn3, hg1, hg2, v3, q, go_sem, Nat.reduceAdd, Nat.reduceMul]) | refine Kt.h _ _ ?_ | refine Ft.k (by decide +kernel) ?_ | ((first | refine ⟨_, rGraphC (g := a), ?_⟩ | refine ⟨_, rGraphC (g := b), ?_⟩); simp +decide (maxSteps := 4000000) only [hn3, hg1, hg2, v3, q, go_sem, Nat.reduceAdd, Nat.reduceMul])) | apply cond2_intro | with_reducible apply And.intro | intro h)
        all_goals first | omega | exact h6
    · have q1 : (k < 0) = False := by simp; omega
      have q2 : ((b.nodes.length : Int) ≤ k) = False := by simp; omega
      have hge : getR (b.nodes.map rI) k.toNat = [.int .i64 (nodeIn b k)] := ints_row (l := b.nodes) (k := k) (by omega) (by omega)
      have hf : morNodeF b (x, k) = if nodeIn b k ≠ x then 13 else 0 := by unfold morNodeF; rw [if_neg hr]
      repeat' (first | (first | (refine AWP.go env ?_; intro K fin; try simp +decide (maxSteps := 4000000) only [hn3, hg1, hg2, v3, q1, q2, hge, go_sem, Nat.reduceAdd, Nat.reduceMul]) | refine Kt.h _ _ ?_ | refine Ft.k (by decide +kernel) ?_ | ((first | refine ⟨_, rGraphC (g := a), ?_⟩ | refine ⟨_, rGraphC (g := b), ?_⟩); simp +decide (maxSteps := 4000000) only [hn3, hg1, hg2, v3, q1, q2, hge, go_sem, Nat.reduceAdd, Nat.reduceMul])) | apply cond2_intro | with_reducible apply And.intro | intro h)
      all_goals try omega
      · have h' : (nodeIn b k != x) = true := by assumption
        have hv : morNodeF b (x, k) = 13 := by rw [hf, if_pos (by simpa using h')]
        rw [hF, ← hinv, firstErr, hv]; try rfl
      · have h' : (nodeIn b k != x) = false := by assumption
        have hv : morNodeF b (x, k) = 0 := by rw [hf, if_neg (by simpa using h')]
        refine ⟨⟨c ++ [(x, k)], d, by simp [hcd], ?_⟩, by simp, by simp +decide (maxSteps := 4000000) only [go_sem, Nat.reduceAdd, Nat.reduceMul]; simp⟩
        rw [← hinv, firstErr, hv]; simp
end Go.Abs
/- From a contract to the call of a statement. -/
namespace Go.Abs
open Go Go.RowKit

theorem ConV.calls {P : Program} {f : FuncId} {args : List D} {r : D} (he : EnterOk P f) (h : ConV P f args r) {w : World} {vs : Array Value} (hs : vs.size = args.length)
    (ha : ∀ i, i < args.length → Enc w (fun _ => False) noE noF (getC args i) (vs.getD i Go.undef)) : Calls P f vs w fun e w' => ∃ v, e = .returned v ∧ Post w (fun _ => False) r v w' := by
  obtain ⟨fn, e1, e2, e3⟩ := he.ex
  have hr : (callFunc f vs).run P w = .ok (.enter f vs) w := by
    have q1 : fn.name ≠ "runtime.NumGoroutine" := by simpa using e2
    have q2 : fn.body ≠ none := by intro e; rw [e] at e3; cases e3
    simp [callFunc, e1, q1, q2]
  have hg := h w (fun _ => False) vs (fun b hb => hb.elim) hs ha ⟨some 0, .move (.const (.int .i64 0)), 0, "", #[], none⟩ ⟨#[Go.undef], []⟩ (fun a' w' => ∃ v, a' = Act.put ⟨#[Go.undef], []⟩ (some 0) v ∧ Post w (fun _ => False) r v w') (fun _ _ _ => False) fun v w' hp => ⟨v, rfl, hp⟩
  rw [hr, Oper.upon_enter] at hg
  refine hg.mono fun e w' hh => ?_
  cases e with
  | returned v =>
    obtain ⟨v', h1, h2⟩ := hh
    have : v = v' := by simpa [Act.put] using h1
    subst this
    exact ⟨v, rfl, h2⟩
  | panicked c => exact hh.elim
  | outgrown => exact absurd hh (by simp [LetsOut])

/-- A call that answers true. -/
theorem Con.calls_true {P : Program} {f : FuncId} {args : List D} (he : EnterOk P f) (h : Con P f args (.bool true)) (hn : nslArgs args = false) {w : World} {vs : Array Value} (hs : vs.size = args.length)
    (ha : ∀ i, i < args.length → Enc w (fun _ => False) noE noF (getC args i) (vs.getD i Go.undef)) : Calls P f vs w fun e w' => e = .returned (.bool true) ∧ Below w.heap.size w w' := by
  refine (ConV.calls he (h.v hn) hs ha).mono fun e w' ⟨v, hv, hp⟩ => ?_
  obtain ⟨hb, vals, hp⟩ := hp
  obtain ⟨_, hE⟩ := hp 0 (fun _ => 0)
  subst hv
  have hE : EncS w' (fun _ => False) [] _ (.bool true) v := hE
  cases hE
  exact ⟨rfl, hb⟩

/-- An argument that is a struct: data. -/
theorem arg_struct {P : Program} {T : Tab} {W : World} {S : List TypeId} {H : Type} {enc : TypeId × Value → H} (hT : TOk P T) (hS : CovB T S) {t : TypeId} (ht : t ∈ S) {fs : Array Field} (hu : P.underlying t = some (.struct fs))
    {r : Reach} {base : Nat} {v : Value} (hval : Value.okWide P W r base t v) {d : DataW H} {ps : List MemPlace} (h : DataW.Trod enc P W 0 (fun _ => true) true t v d ps) (hw : ∀ n ∈ d.weights P t, n ≤ reachBytes) :
    ∃ cs, Sh T t cs ∧ Enc W (fun _ => False) noE noF (.agg cs) v := by
  obtain ⟨vs, rfl, hsz⟩ := Go.WideShapes.okWide_struct hu hval
  obtain ⟨fuel, h⟩ := h
  obtain ⟨cs, h1, h2⟩ := trod_cells hT hS fuel t _ _ ht h hw
  have hl : vs.size = cs.length := by have := h2.len; simpa [Value.cells] using this
  have hg : ∀ i, vs.getD i Go.undef = (Value.cells (.agg vs)).toList.getD i Go.undef := fun i => by simp [Value.cells, List.getD_eq_getElem?_getD, Array.getD_eq_getD_getElem?]
  exact ⟨cs, h1, .agg cs vs hl (fun i hi => by rw [hg]; exact h2.one i hi) fun i hi => by rw [hg]; exact h2.enc i hi⟩

end Go.Abs
/- From what a statement reads to typed data. Printed by gen/mk_td.py. -/
set_option linter.unusedSimpArgs false
set_option linter.unusedVariables false
set_option maxRecDepth 20000
namespace Go.Abs
open Go Go.RowKit Go.Proofs

theorem cutL (cs : List D) (n m : Nat) {l : List D} (h : (cs.drop n).take m = l) : cs.drop n = l ++ cs.drop (n + m) := by
  rw [← h, ← List.drop_drop]; exact (List.take_append_drop _ _).symm

theorem sh_int {cs : List D} (h : Sh T 3 cs) : ∃ n : Int, cs = [.int .i64 n] := h.inv_int (i := ⟨1, 8, .int .i64, some [.int .i64 0]⟩) rfl rfl
theorem sh_bool {cs : List D} (h : Sh T 4 cs) : ∃ n : Bool, cs = [.bool n] := h.inv_bool (i := ⟨1, 1, .bool, some [.bool false]⟩) rfl rfl
theorem sh_str {cs : List D} (h : Sh T 9 cs) : ∃ n : ByteArray, cs = [.str n] := h.inv_str (i := ⟨1, 16, .str, some [.str ⟨#[]⟩]⟩) rfl rfl

theorem sh_rows {e t : TypeId} {i j : TI} {cs : List D} {X : Type} {f : X → List D} (h : Sh T t cs) (ht : tlook T t = some i) (hd : i.td = .sl e) (hj : tlook T e = some j) (hx : ∀ r, Sh T e r → ∃ x, r = f x) : ∃ l : List X, cs = [.fsl j.sz (l.map f)] := by
  obtain ⟨rows, rfl, hr⟩ := h.inv_sl ht hd hj
  obtain ⟨l, rfl⟩ := rows_map fun r hr' => hx r (hr r hr')
  exact ⟨l, rfl⟩
theorem sh_ints {cs : List D} (h : Sh T 26 cs) : ∃ l : List Int, cs = [.fsl 1 (l.map rI)] := sh_rows h rfl rfl (hj := rfl) fun r hr => sh_int hr
theorem sh_strs {cs : List D} (h : Sh T 116 cs) : ∃ l : List ByteArray, cs = [.fsl 1 (l.map rS)] := sh_rows h rfl rfl (hj := rfl) fun r hr => sh_str hr
theorem sh_Edge {cs : List D} (h : Sh T 143 cs) : ∃ x : Edge, cs = rEdge x := by
  obtain ⟨hl, hf⟩ := h.inv_st rfl rfl
  obtain ⟨n0, h0⟩ := sh_int (hf (0, 3) (by simp) _ rfl)
  have c0 := cutL cs 0 1 h0
  obtain ⟨n1, h1⟩ := sh_int (hf (1, 3) (by simp) _ rfl)
  have c1 := cutL cs 1 1 h1
  obtain ⟨n2, h2⟩ := sh_int (hf (2, 3) (by simp) _ rfl)
  have c2 := cutL cs 2 1 h2
  exact ⟨⟨n0, n1, n2⟩, (c0.trans (congrArg (_ ++ ·) (c1.trans (congrArg (_ ++ ·) (c2.trans (congrArg (_ ++ ·) (List.drop_eq_nil_of_le (by rw [hl]; exact Nat.le_refl _))))))))⟩
theorem sh_edges {cs : List D} (h : Sh T 27 cs) : ∃ l : List Edge, cs = [.fsl 3 (l.map rEdge)] := sh_rows h rfl rfl (hj := rfl) fun r hr => sh_Edge hr
theorem sh_Attr {cs : List D} (h : Sh T 118 cs) : ∃ x : Attr, cs = rAttr x := by
  obtain ⟨hl, hf⟩ := h.inv_st rfl rfl
  obtain ⟨n0, h0⟩ := sh_str (hf (0, 9) (by simp) _ rfl)
  have c0 := cutL cs 0 1 h0
  obtain ⟨n1, h1⟩ := sh_int (hf (1, 3) (by simp) _ rfl)
  have c1 := cutL cs 1 1 h1
  obtain ⟨n2, h2⟩ := sh_int (hf (2, 3) (by simp) _ rfl)
  have c2 := cutL cs 2 1 h2
  obtain ⟨n3, h3⟩ := sh_strs (hf (3, 116) (by simp) _ rfl)
  have c3 := cutL cs 3 1 h3
  exact ⟨⟨n0, n1, n2, n3⟩, (c0.trans (congrArg (_ ++ ·) (c1.trans (congrArg (_ ++ ·) (c2.trans (congrArg (_ ++ ·) (c3.trans (congrArg (_ ++ ·) (List.drop_eq_nil_of_le (by rw [hl]; exact Nat.le_refl _))))))))))⟩
theorem sh_attrs {cs : List D} (h : Sh T 113 cs) : ∃ l : List Attr, cs = [.fsl 4 (l.map rAttr)] := sh_rows h rfl rfl (hj := rfl) fun r hr => sh_Attr hr
theorem sh_NodeT {cs : List D} (h : Sh T 115 cs) : ∃ x : NodeT, cs = rNodeT x := by
  obtain ⟨hl, hf⟩ := h.inv_st rfl rfl
  obtain ⟨n0, h0⟩ := sh_str (hf (0, 9) (by simp) _ rfl)
  have c0 := cutL cs 0 1 h0
  obtain ⟨n1, h1⟩ := sh_int (hf (1, 3) (by simp) _ rfl)
  have c1 := cutL cs 1 1 h1
  obtain ⟨n2, h2⟩ := sh_bool (hf (2, 4) (by simp) _ rfl)
  have c2 := cutL cs 2 1 h2
  obtain ⟨n3, h3⟩ := sh_attrs (hf (3, 113) (by simp) _ rfl)
  have c3 := cutL cs 3 1 h3
  exact ⟨⟨n0, n1, n2, n3⟩, (c0.trans (congrArg (_ ++ ·) (c1.trans (congrArg (_ ++ ·) (c2.trans (congrArg (_ ++ ·) (c3.trans (congrArg (_ ++ ·) (List.drop_eq_nil_of_le (by rw [hl]; exact Nat.le_refl _))))))))))⟩
theorem sh_nodeTs {cs : List D} (h : Sh T 22 cs) : ∃ l : List NodeT, cs = [.fsl 4 (l.map rNodeT)] := sh_rows h rfl rfl (hj := rfl) fun r hr => sh_NodeT hr
theorem sh_EdgeT {cs : List D} (h : Sh T 120 cs) : ∃ x : EdgeT, cs = rEdgeT x := by
  obtain ⟨hl, hf⟩ := h.inv_st rfl rfl
  obtain ⟨n0, h0⟩ := sh_str (hf (0, 9) (by simp) _ rfl)
  have c0 := cutL cs 0 1 h0
  obtain ⟨n1, h1⟩ := sh_int (hf (1, 3) (by simp) _ rfl)
  have c1 := cutL cs 1 1 h1
  obtain ⟨n2, h2⟩ := sh_int (hf (2, 3) (by simp) _ rfl)
  have c2 := cutL cs 2 1 h2
  obtain ⟨n3, h3⟩ := sh_int (hf (3, 3) (by simp) _ rfl)
  have c3 := cutL cs 3 1 h3
  obtain ⟨n4, h4⟩ := sh_int (hf (4, 3) (by simp) _ rfl)
  have c4 := cutL cs 4 1 h4
  obtain ⟨n5, h5⟩ := sh_int (hf (5, 3) (by simp) _ rfl)
  have c5 := cutL cs 5 1 h5
  obtain ⟨n6, h6⟩ := sh_int (hf (6, 3) (by simp) _ rfl)
  have c6 := cutL cs 6 1 h6
  exact ⟨⟨n0, n1, n2, n3, n4, n5, n6⟩, (c0.trans (congrArg (_ ++ ·) (c1.trans (congrArg (_ ++ ·) (c2.trans (congrArg (_ ++ ·) (c3.trans (congrArg (_ ++ ·) (c4.trans (congrArg (_ ++ ·) (c5.trans (congrArg (_ ++ ·) (c6.trans (congrArg (_ ++ ·) (List.drop_eq_nil_of_le (by rw [hl]; exact Nat.le_refl _))))))))))))))))⟩
theorem sh_edgeTs {cs : List D} (h : Sh T 23 cs) : ∃ l : List EdgeT, cs = [.fsl 7 (l.map rEdgeT)] := sh_rows h rfl rfl (hj := rfl) fun r hr => sh_EdgeT hr
abbrev gTypes (t : Types) : List D := [.fsl 4 (t.nodes.map rNodeT), .fsl 7 (t.edges.map rEdgeT)]
abbrev gGraph (g : Graph) : List D := [dInts g.nodes, .fsl 3 (g.edges.map rEdge)]
abbrev gTwo (m : Two) : List D := [dInts m.nodes, dInts m.edges]
abbrev gTerm (x : Term) : List D := [.int .i64 x.var, .int .i64 x.add]
abbrev gPatt (p : Patt) : List D := [dInts p.graph.nodes, .fsl 3 (p.graph.edges.map rEdge), .fsl 4 (p.slots.map rSlot), .int .i64 p.vars, .fsl 5 (p.tests.map rTest)]
abbrev gRule (r : Rul) : List D := [.str r.name, dInts r.left.graph.nodes, .fsl 3 (r.left.graph.edges.map rEdge), .fsl 4 (r.left.slots.map rSlot), .int .i64 r.left.vars, .fsl 5 (r.left.tests.map rTest), dInts r.right.graph.nodes, .fsl 3 (r.right.graph.edges.map rEdge), .fsl 4 (r.right.slots.map rSlot), .int .i64 r.right.vars, .fsl 5 (r.right.tests.map rTest), dInts r.keep.nodes, dInts r.keep.edges, dInts r.into.nodes, dInts r.into.edges, .bool r.inj, .int .i64 r.cond.kind, .fsl 9 (r.cond.kids.map Cond.row), dInts r.cond.map.nodes, dInts r.cond.map.edges, dInts r.cond.patt.graph.nodes, .fsl 3 (r.cond.patt.graph.edges.map rEdge), .fsl 4 (r.cond.patt.slots.map rSlot), .int .i64 r.cond.patt.vars, .fsl 5 (r.cond.patt.tests.map rTest)]
theorem sh_Types {cs : List D} (h : Sh T 25 cs) : ∃ x : Types, cs = gTypes x := by
  obtain ⟨hl, hf⟩ := h.inv_st rfl rfl
  obtain ⟨n0, h0⟩ := sh_nodeTs (hf (0, 22) (by simp) _ rfl)
  have c0 := cutL cs 0 1 h0
  obtain ⟨n1, h1⟩ := sh_edgeTs (hf (1, 23) (by simp) _ rfl)
  have c1 := cutL cs 1 1 h1
  exact ⟨⟨n0, n1⟩, (c0.trans (congrArg (_ ++ ·) (c1.trans (congrArg (_ ++ ·) (List.drop_eq_nil_of_le (by rw [hl]; exact Nat.le_refl _))))))⟩
theorem sh_Graph {cs : List D} (h : Sh T 29 cs) : ∃ x : Graph, cs = gGraph x := by
  obtain ⟨hl, hf⟩ := h.inv_st rfl rfl
  obtain ⟨n0, h0⟩ := sh_ints (hf (0, 26) (by simp) _ rfl)
  have c0 := cutL cs 0 1 h0
  obtain ⟨n1, h1⟩ := sh_edges (hf (1, 27) (by simp) _ rfl)
  have c1 := cutL cs 1 1 h1
  exact ⟨⟨n0, n1⟩, (c0.trans (congrArg (_ ++ ·) (c1.trans (congrArg (_ ++ ·) (List.drop_eq_nil_of_le (by rw [hl]; exact Nat.le_refl _))))))⟩
theorem sh_Part {cs : List D} (h : Sh T 35 cs) : ∃ x : Two, cs = gTwo x := by
  obtain ⟨hl, hf⟩ := h.inv_st rfl rfl
  obtain ⟨n0, h0⟩ := sh_ints (hf (0, 26) (by simp) _ rfl)
  have c0 := cutL cs 0 1 h0
  obtain ⟨n1, h1⟩ := sh_ints (hf (1, 26) (by simp) _ rfl)
  have c1 := cutL cs 1 1 h1
  exact ⟨⟨n0, n1⟩, (c0.trans (congrArg (_ ++ ·) (c1.trans (congrArg (_ ++ ·) (List.drop_eq_nil_of_le (by rw [hl]; exact Nat.le_refl _))))))⟩
theorem sh_Morph {cs : List D} (h : Sh T 36 cs) : ∃ x : Two, cs = gTwo x := by
  obtain ⟨hl, hf⟩ := h.inv_st rfl rfl
  obtain ⟨n0, h0⟩ := sh_ints (hf (0, 26) (by simp) _ rfl)
  have c0 := cutL cs 0 1 h0
  obtain ⟨n1, h1⟩ := sh_ints (hf (1, 26) (by simp) _ rfl)
  have c1 := cutL cs 1 1 h1
  exact ⟨⟨n0, n1⟩, (c0.trans (congrArg (_ ++ ·) (c1.trans (congrArg (_ ++ ·) (List.drop_eq_nil_of_le (by rw [hl]; exact Nat.le_refl _))))))⟩
theorem sh_Term {cs : List D} (h : Sh T 159 cs) : ∃ x : Term, cs = gTerm x := by
  obtain ⟨hl, hf⟩ := h.inv_st rfl rfl
  obtain ⟨n0, h0⟩ := sh_int (hf (0, 3) (by simp) _ rfl)
  have c0 := cutL cs 0 1 h0
  obtain ⟨n1, h1⟩ := sh_int (hf (1, 3) (by simp) _ rfl)
  have c1 := cutL cs 1 1 h1
  exact ⟨⟨n0, n1⟩, (c0.trans (congrArg (_ ++ ·) (c1.trans (congrArg (_ ++ ·) (List.drop_eq_nil_of_le (by rw [hl]; exact Nat.le_refl _))))))⟩
theorem sh_Slot {cs : List D} (h : Sh T 161 cs) : ∃ x : Slot, cs = rSlot x := by
  obtain ⟨hl, hf⟩ := h.inv_st rfl rfl
  obtain ⟨n0, h0⟩ := sh_int (hf (0, 3) (by simp) _ rfl)
  have c0 := cutL cs 0 1 h0
  obtain ⟨n1, h1⟩ := sh_int (hf (1, 3) (by simp) _ rfl)
  have c1 := cutL cs 1 1 h1
  obtain ⟨n2, h2⟩ := sh_Term (hf (2, 159) (by simp) _ rfl)
  have c2 := cutL cs 2 2 h2
  exact ⟨⟨n0, n1, n2⟩, (c0.trans (congrArg (_ ++ ·) (c1.trans (congrArg (_ ++ ·) (c2.trans (congrArg (_ ++ ·) (List.drop_eq_nil_of_le (by rw [hl]; exact Nat.le_refl _))))))))⟩
theorem sh_slots {cs : List D} (h : Sh T 30 cs) : ∃ l : List Slot, cs = [.fsl 4 (l.map rSlot)] := sh_rows h rfl rfl (hj := rfl) fun r hr => sh_Slot hr
theorem sh_Test {cs : List D} (h : Sh T 182 cs) : ∃ x : Tst, cs = rTest x := by
  obtain ⟨hl, hf⟩ := h.inv_st rfl rfl
  obtain ⟨n0, h0⟩ := sh_int (hf (0, 3) (by simp) _ rfl)
  have c0 := cutL cs 0 1 h0
  obtain ⟨n1, h1⟩ := sh_Term (hf (1, 159) (by simp) _ rfl)
  have c1 := cutL cs 1 2 h1
  obtain ⟨n2, h2⟩ := sh_Term (hf (3, 159) (by simp) _ rfl)
  have c2 := cutL cs 3 2 h2
  exact ⟨⟨n0, n1, n2⟩, (c0.trans (congrArg (_ ++ ·) (c1.trans (congrArg (_ ++ ·) (c2.trans (congrArg (_ ++ ·) (List.drop_eq_nil_of_le (by rw [hl]; exact Nat.le_refl _))))))))⟩
theorem sh_tests {cs : List D} (h : Sh T 31 cs) : ∃ l : List Tst, cs = [.fsl 5 (l.map rTest)] := sh_rows h rfl rfl (hj := rfl) fun r hr => sh_Test hr
theorem sh_Patt {cs : List D} (h : Sh T 33 cs) : ∃ x : Patt, cs = gPatt x := by
  obtain ⟨hl, hf⟩ := h.inv_st rfl rfl
  obtain ⟨n0, h0⟩ := sh_Graph (hf (0, 29) (by simp) _ rfl)
  have c0 := cutL cs 0 2 h0
  obtain ⟨n1, h1⟩ := sh_slots (hf (2, 30) (by simp) _ rfl)
  have c1 := cutL cs 2 1 h1
  obtain ⟨n2, h2⟩ := sh_int (hf (3, 3) (by simp) _ rfl)
  have c2 := cutL cs 3 1 h2
  obtain ⟨n3, h3⟩ := sh_tests (hf (4, 31) (by simp) _ rfl)
  have c3 := cutL cs 4 1 h3
  exact ⟨⟨n0, n1, n2, n3⟩, (c0.trans (congrArg (_ ++ ·) (c1.trans (congrArg (_ ++ ·) (c2.trans (congrArg (_ ++ ·) (c3.trans (congrArg (_ ++ ·) (List.drop_eq_nil_of_le (by rw [hl]; exact Nat.le_refl _))))))))))⟩

theorem sh_condBoth {t : TypeId} {cs : List D} (h : Sh T t cs) : (t = 39 → ∃ c : Cond, cs = c.row) ∧ (t = 37 → ∃ l : List Cond, cs = [.fsl 9 (l.map Cond.row)]) := by
  have tc : tlook T 39 = some _ := rfl
  have tl : tlook T 37 = some _ := rfl
  induction h with
  | int ht hd n => constructor <;> rintro rfl <;> first | (rw [tc] at ht; cases ht; cases hd) | (rw [tl] at ht; cases ht; cases hd)
  | bool ht hd n => constructor <;> rintro rfl <;> first | (rw [tc] at ht; cases ht; cases hd) | (rw [tl] at ht; cases ht; cases hd)
  | str ht hd n => constructor <;> rintro rfl <;> first | (rw [tc] at ht; cases ht; cases hd) | (rw [tl] at ht; cases ht; cases hd)
  | sl ht hd hj rows hr ih =>
    constructor
    · rintro rfl; rw [tc] at ht; cases ht; cases hd
    · rintro rfl
      rw [tl] at ht; cases ht; cases hd
      rw [tc] at hj; cases hj
      obtain ⟨l, rfl⟩ := rows_map fun r hr' => (ih r hr').1 rfl
      exact ⟨l, rfl⟩
  | st ht hd cs hl hf ih =>
    constructor
    · rintro rfl
      rw [tc] at ht; cases ht; cases hd
      obtain ⟨n0, h0⟩ := sh_int (hf (0, 3) (by simp) _ rfl)
      obtain ⟨n1, h1⟩ := (ih (1, 37) (by simp) _ rfl).2 rfl
      obtain ⟨n2, h2⟩ := sh_Morph (hf (2, 36) (by simp) _ rfl)
      obtain ⟨n3, h3⟩ := sh_Patt (hf (4, 33) (by simp) _ rfl)
      have c0 := cutL cs 0 1 h0
      have c1 := cutL cs 1 1 h1
      have c2 := cutL cs 2 2 h2
      have c3 := cutL cs 4 5 h3
      refine ⟨.mk n0 n1 n2 n3, ?_⟩
      rw [Cond.row_eq]
      exact c0.trans (congrArg (_ ++ ·) (c1.trans (congrArg (_ ++ ·) (c2.trans (congrArg (_ ++ ·) (c3.trans (congrArg (_ ++ ·) (List.drop_eq_nil_of_le (by rw [hl]; exact Nat.le_refl _)))))))))
    · rintro rfl; rw [tl] at ht; cases ht; cases hd

theorem sh_Cond {cs : List D} (h : Sh T 39 cs) : ∃ c : Cond, cs = rCond c := by
  obtain ⟨c, hc⟩ := (sh_condBoth h).1 rfl
  exact ⟨c, by rw [hc, Cond.row_eq]⟩
theorem sh_Rule {cs : List D} (h : Sh T 41 cs) : ∃ x : Rul, cs = gRule x := by
  obtain ⟨hl, hf⟩ := h.inv_st rfl rfl
  obtain ⟨n0, h0⟩ := sh_str (hf (0, 9) (by simp) _ rfl)
  have c0 := cutL cs 0 1 h0
  obtain ⟨n1, h1⟩ := sh_Patt (hf (1, 33) (by simp) _ rfl)
  have c1 := cutL cs 1 5 h1
  obtain ⟨n2, h2⟩ := sh_Patt (hf (6, 33) (by simp) _ rfl)
  have c2 := cutL cs 6 5 h2
  obtain ⟨n3, h3⟩ := sh_Part (hf (11, 35) (by simp) _ rfl)
  have c3 := cutL cs 11 2 h3
  obtain ⟨n4, h4⟩ := sh_Morph (hf (13, 36) (by simp) _ rfl)
  have c4 := cutL cs 13 2 h4
  obtain ⟨n5, h5⟩ := sh_bool (hf (15, 4) (by simp) _ rfl)
  have c5 := cutL cs 15 1 h5
  obtain ⟨n6, h6⟩ := sh_Cond (hf (16, 39) (by simp) _ rfl)
  have c6 := cutL cs 16 9 h6
  exact ⟨⟨n0, n1, n2, n3, n4, n5, n6⟩, (c0.trans (congrArg (_ ++ ·) (c1.trans (congrArg (_ ++ ·) (c2.trans (congrArg (_ ++ ·) (c3.trans (congrArg (_ ++ ·) (c4.trans (congrArg (_ ++ ·) (c5.trans (congrArg (_ ++ ·) (c6.trans (congrArg (_ ++ ·) (List.drop_eq_nil_of_le (by rw [hl]; exact Nat.le_refl _))))))))))))))))⟩

/-- The types of what the statements read. -/
def SR : List TypeId := [3, 4, 9, 26, 116, 143, 27, 118, 113, 115, 22, 120, 23, 25, 29, 35, 36, 159, 161, 30, 182, 31, 33, 39, 37, 41]
theorem covSR : CovB T SR := by unfold CovB SR; decide +kernel
end Go.Abs
/- Guards that are known: one way only. -/
namespace Go.Abs
open Go Go.RowKit

theorem guardT_tt (yes no : AS → Prop) (s : AS) (t : Nat) : guardT true (.bool true) yes no s t = yes (s.setB t true) := by simp [guardT, cond2]
theorem guardT_tf (yes no : AS → Prop) (s : AS) (t : Nat) : guardT true (.bool false) yes no s t = no (s.setB t false) := by simp [guardT, cond2]
theorem guardT_ft (yes no : AS → Prop) (s : AS) (t : Nat) : guardT false (.bool true) yes no s t = no (s.setB t true) := by simp [guardT, cond2]
theorem guardT_ff (yes no : AS → Prop) (s : AS) (t : Nat) : guardT false (.bool false) yes no s t = yes (s.setB t false) := by simp [guardT, cond2]
attribute [go_sem high] guardT_tt guardT_tf guardT_ft guardT_ff
attribute [go_sem ↓] cond2_true cond2_false

theorem resCell_bool_p (b : Bool) (k : D → List Nat → AR) : resCell (.bool b) k = k (.bool b) [] := rfl
theorem resCell_nil_p  (k : D → List Nat → AR) : resCell (.nil) k = k (.nil) [] := rfl
theorem resCell_fsl_p (a : Nat) (b : List (List D)) (k : D → List Nat → AR) : resCell (.fsl a b) k = k (.fsl a b) [] := rfl
theorem resCell_osl_p (id ver : Nat) (k : D → List Nat → AR) : resCell (.osl id ver) k = .look id fun o => resO ver id o k := rfl
theorem resCap_int_p (a : IntKind) (b : Int) (k : D → List Nat → AR) : resCap (.int a b) k = k (.int a b) [] := rfl
theorem resArg_int_p (a : IntKind) (b : Int) (k : D → List Nat → AR) : resArg (.int a b) k = k (.int a b) [] := rfl
theorem resCap_bool_p (b : Bool) (k : D → List Nat → AR) : resCap (.bool b) k = k (.bool b) [] := rfl
theorem resArg_bool_p (b : Bool) (k : D → List Nat → AR) : resArg (.bool b) k = k (.bool b) [] := rfl
theorem resCap_str_p (b : ByteArray) (k : D → List Nat → AR) : resCap (.str b) k = k (.str b) [] := rfl
theorem resArg_str_p (b : ByteArray) (k : D → List Nat → AR) : resArg (.str b) k = k (.str b) [] := rfl
theorem resCap_nil_p  (k : D → List Nat → AR) : resCap (.nil) k = k (.nil) [] := rfl
theorem resArg_nil_p  (k : D → List Nat → AR) : resArg (.nil) k = k (.nil) [] := rfl
theorem resCap_fsl_p (a : Nat) (b : List (List D)) (k : D → List Nat → AR) : resCap (.fsl a b) k = k (.fsl a b) [] := rfl
theorem resArg_fsl_p (a : Nat) (b : List (List D)) (k : D → List Nat → AR) : resArg (.fsl a b) k = k (.fsl a b) [] := rfl
theorem resCap_osl_p (id ver : Nat) (k : D → List Nat → AR) : resCap (.osl id ver) k = .look id fun o => resO ver id o k := rfl
theorem resCap_ptr_p (id ver row col : Nat) (k : D → List Nat → AR) : resCap (.ptr id ver row col) k = .look id fun o => resP ver row col id o k := rfl
theorem resCap_agg_p (cs : List D) (k : D → List Nat → AR) : resCap (.agg cs) k = resCells cs fun cs' ids => k (.agg cs') ids := rfl
theorem resCap_fptr_p (cs : List D) (c : Nat) (k : D → List Nat → AR) : resCap (.fptr cs c) k = k (.fptr cs c) [] := rfl
theorem resCap_undef_p  (k : D → List Nat → AR) : resCap (.undef) k = k .undef [] := rfl
theorem resArg_osl_p (id ver : Nat) (k : D → List Nat → AR) : resArg (.osl id ver) k = .look id fun o => resO ver id o k := rfl
theorem resArg_ptr_p (id ver row col : Nat) (k : D → List Nat → AR) : resArg (.ptr id ver row col) k = .look id fun o => resP ver row col id o k := rfl
theorem resArg_agg_p (cs : List D) (k : D → List Nat → AR) : resArg (.agg cs) k = resCells cs fun cs' ids => k (.agg cs') ids := rfl
theorem resArg_fptr_p (cs : List D) (c : Nat) (k : D → List Nat → AR) : resArg (.fptr cs c) k = k (.fptr cs c) [] := rfl
theorem resArg_undef_p  (k : D → List Nat → AR) : resArg (.undef) k = k .undef [] := rfl
theorem resArg_fn_p (f : FuncId) (cs : List D) (k : D → List Nat → AR) : resArg (.fn f cs) k = resCaps cs fun cs' ids => k (.fn f cs') ids := rfl
theorem resArgs_cons_p (d : D) (r : List D) (k : List D → List Nat → AR) : resArgs (d :: r) k = resArg d fun d' i1 => resArgs r fun r' i2 => k (d' :: r') (i1 ++ i2) := rfl
theorem resArgs_nil_p (k : List D → List Nat → AR) : resArgs [] k = k [] [] := rfl
theorem resCaps_cons_p (d : D) (r : List D) (k : List D → List Nat → AR) : resCaps (d :: r) k = resCap d fun d' i1 => resCaps r fun r' i2 => k (d' :: r') (i1 ++ i2) := rfl
theorem resCaps_nil_p (k : List D → List Nat → AR) : resCaps [] k = k [] [] := rfl
theorem expCell_int_p (a : IntKind) (b : Int) (k : D → List Nat → List Nat → AR) : expCell (.int a b) k = k (.int a b) [] [] := rfl
theorem expTop_int_p (a : IntKind) (b : Int) (k : D → List Nat → List Nat → AR) : expTop (.int a b) k = k (.int a b) [] [] := rfl
theorem expCell_bool_p (b : Bool) (k : D → List Nat → List Nat → AR) : expCell (.bool b) k = k (.bool b) [] [] := rfl
theorem expTop_bool_p (b : Bool) (k : D → List Nat → List Nat → AR) : expTop (.bool b) k = k (.bool b) [] [] := rfl
theorem expCell_str_p (b : ByteArray) (k : D → List Nat → List Nat → AR) : expCell (.str b) k = k (.str b) [] [] := rfl
theorem expTop_str_p (b : ByteArray) (k : D → List Nat → List Nat → AR) : expTop (.str b) k = k (.str b) [] [] := rfl
theorem expCell_nil_p  (k : D → List Nat → List Nat → AR) : expCell (.nil) k = k (.nil) [] [] := rfl
theorem expTop_nil_p  (k : D → List Nat → List Nat → AR) : expTop (.nil) k = k (.nil) [] [] := rfl
theorem expCell_fsl_p (a : Nat) (b : List (List D)) (k : D → List Nat → List Nat → AR) : expCell (.fsl a b) k = k (.fsl a b) [] [] := rfl
theorem expTop_fsl_p (a : Nat) (b : List (List D)) (k : D → List Nat → List Nat → AR) : expTop (.fsl a b) k = k (.fsl a b) [] [] := rfl
theorem expTop_agg_p (cs : List D) (k : D → List Nat → List Nat → AR) : expTop (.agg cs) k = expCells cs fun cs' n f => k (.agg cs') n f := rfl
theorem expCells_cons_p (d : D) (r : List D) (k : List D → List Nat → List Nat → AR) : expCells (d :: r) k = expCell d fun d' n1 f1 => expCells r fun r' n2 f2 => k (d' :: r') (n1 ++ n2) (f1 ++ f2) := rfl
theorem expCells_nil_p (k : List D → List Nat → List Nat → AR) : expCells [] k = k [] [] [] := rfl
theorem expTops_cons_p (d : D) (r : List D) (k : List D → List Nat → List Nat → AR) : expTops (d :: r) k = expTop d fun d' n1 f1 => expTops r fun r' n2 f2 => k (d' :: r') (n1 ++ n2) (f1 ++ f2) := rfl
theorem expTops_nil_p (k : List D → List Nat → List Nat → AR) : expTops [] k = k [] [] [] := rfl
attribute [go_sem ↓] resCell_bool_p resCell_nil_p resCell_fsl_p resCell_osl_p resCap_int_p resArg_int_p resCap_bool_p resArg_bool_p resCap_str_p resArg_str_p resCap_nil_p resArg_nil_p resCap_fsl_p resArg_fsl_p resCap_osl_p resCap_ptr_p resCap_agg_p resCap_fptr_p resCap_undef_p resArg_osl_p resArg_ptr_p resArg_agg_p resArg_fptr_p resArg_undef_p resArg_fn_p resArgs_cons_p resArgs_nil_p resCaps_cons_p resCaps_nil_p expCell_int_p expTop_int_p expCell_bool_p expTop_bool_p expCell_str_p expTop_str_p expCell_nil_p expTop_nil_p expCell_fsl_p expTop_fsl_p expTop_agg_p expCells_cons_p expCells_nil_p expTops_cons_p expTops_nil_p

end Go.Abs
/- The right side of a rule. -/
set_option linter.unusedSimpArgs false
set_option linter.unusedVariables false
set_option maxRecDepth 20000
set_option maxHeartbeats 4000000
namespace Go.Abs
open Go Go.RowKit Go.Proofs
attribute [local irreducible] Con AWP

abbrev cRule (r : Rul) : List D := [.str r.name, dInts r.left.graph.nodes, .fsl 3 (r.left.graph.edges.map rEdge), .fsl 4 (r.left.slots.map rSlot), .int .i64 r.left.vars, .fsl 5 (r.left.tests.map rTest), dInts r.right.graph.nodes, .fsl 3 (r.right.graph.edges.map rEdge), .fsl 4 (r.right.slots.map rSlot), .int .i64 r.right.vars, .fsl 5 (r.right.tests.map rTest), dInts r.keep.nodes, dInts r.keep.edges, dInts r.into.nodes, dInts r.into.edges, .bool r.inj, .int .i64 r.cond.kind, .fsl 9 (r.cond.kids.map Cond.row), dInts r.cond.map.nodes, dInts r.cond.map.edges, dInts r.cond.patt.graph.nodes, .fsl 3 (r.cond.patt.graph.edges.map rEdge), .fsl 4 (r.cond.patt.slots.map rSlot), .int .i64 r.cond.patt.vars, .fsl 5 (r.cond.patt.tests.map rTest)]
abbrev cTypes (t : Types) : List D := [.fsl 4 (t.nodes.map rNodeT), .fsl 7 (t.edges.map rEdgeT)]

theorem typedNodeC {t : Types} {n : Int} : Con Tryz.prog 191 [.int .i64 n, .fptr (cTypes t) 0] (.bool (!decide (n < t.nodes.length))) := by
  refine ConC.con (ent _ Tryz.func191 rfl rfl) (con_of_body env Tryz.func191 rfl (nt := 9) (rs := [.tmp 3]) rfl rfl (Nat.le_of_ble_eq_true rfl) fun hok => ?_)
  repeat' (first | (first | (refine AWP.go env ?_; intro K fin; try simp +decide (maxSteps := 4000000) only [go_sem, Nat.reduceAdd, Nat.reduceMul]) | refine Kt.h _ _ ?_ | refine Ft.k (by decide +kernel) ?_) | apply cond2_intro | with_reducible apply And.intro | intro h)
  all_goals grind

theorem typedEdgeC {t : Types} {e : Edge} : Con Tryz.prog 192 [.agg (rEdge e), .fptr (cTypes t) 0] (.bool (!decide (e.typ < t.edges.length))) := by
  refine ConC.con (ent _ Tryz.func192 rfl rfl) (con_of_body env Tryz.func192 rfl (nt := 10) (rs := [.tmp 3]) rfl rfl (Nat.le_of_ble_eq_true rfl) fun hok => ?_)
  unfold rEdge
  repeat' (first | (first | (refine AWP.go env ?_; intro K fin; try simp +decide (maxSteps := 4000000) only [go_sem, Nat.reduceAdd, Nat.reduceMul]) | refine Kt.h _ _ ?_ | refine Ft.k (by decide +kernel) ?_) | apply cond2_intro | with_reducible apply And.intro | intro h)
  all_goals grind

theorem typedRC {t : Types} {g : Graph} : Con Tryz.prog 116 [dTypes t, dGraph g] (.bool (typedB t g)) := by
  have k1 := not_all (fun n : Int => decide (n < t.nodes.length)) g.nodes
  have k2 := not_all (fun e : Edge => decide (e.typ < t.edges.length)) g.edges
  refine ConC.con (ent _ Tryz.func116 rfl rfl) (con_of_body env Tryz.func116 rfl (nt := 17) (rs := [.tmp 4]) rfl rfl (Nat.le_of_ble_eq_true rfl) fun hok => ?_)
  repeat' (first | (first | (refine AWP.go env ?_; intro K fin; try simp +decide (maxSteps := 4000000) only [k1, k2, Bool.not_not, go_sem, Nat.reduceAdd, Nat.reduceMul]) | refine Kt.h _ _ ?_ | refine Ft.k (by decide +kernel) ?_ | ((first | refine ⟨_, contFuncintC (caps := [.fptr (cTypes t) 0]) (p := fun n => !decide (n < t.nodes.length)) (xs := g.nodes) (fun _ => rfl) (fun _ => rfl) (fun _ => rfl) (fun _ _ => typedNodeC), ?_⟩ | refine ⟨_, contFuncEdgeC (caps := [.fptr (cTypes t) 0]) (p := fun e => !decide (e.typ < t.edges.length)) (xs := g.edges) (fun _ => rfl) (fun _ => rfl) (fun _ => rfl) (fun _ _ => typedEdgeC), ?_⟩); simp +decide (maxSteps := 4000000) only [k1, k2, Bool.not_not, go_sem, Nat.reduceAdd, Nat.reduceMul])) | apply cond2_intro | with_reducible apply And.intro | intro h)
  all_goals (unfold typedB; grind)

def sameSlot (s y : Slot) : Bool := y.node == s.node && y.attr == s.attr

theorem slotSameC {s y : Slot} : Con Tryz.prog 194 [.agg (rSlot y), .fptr (rSlot s) 0] (.bool (sameSlot s y)) := by
  refine ConC.con (ent _ Tryz.func194 rfl rfl) (con_of_body env Tryz.func194 rfl (nt := 16) (rs := [.tmp 3]) rfl rfl (Nat.le_of_ble_eq_true rfl) fun hok => ?_)
  unfold rSlot
  repeat' (first | (first | (refine AWP.go env ?_; intro K fin; try simp +decide (maxSteps := 4000000) only [go_sem, Nat.reduceAdd, Nat.reduceMul]) | refine Kt.h _ _ ?_ | refine Ft.k (by decide +kernel) ?_ | ((first | refine ⟨_, contFuncintC (caps := [.fptr (cTypes t) 0]) (p := fun n => !decide (n < t.nodes.length)) (xs := g.nodes) (fun _ => rfl) (fun _ => rfl) (fun _ => rfl) (fun _ _ => typedNodeC), ?_⟩ | refine ⟨_, contFuncEdgeC (caps := [.fptr (cTypes t) 0]) (p := fun e => !decide (e.typ < t.edges.length)) (xs := g.edges) (fun _ => rfl) (fun _ => rfl) (fun _ => rfl) (fun _ _ => typedEdgeC), ?_⟩); simp +decide (maxSteps := 4000000) only [go_sem, Nat.reduceAdd, Nat.reduceMul])) | apply cond2_intro | with_reducible apply And.intro | intro h)
  all_goals (unfold sameSlot; grind)

def slotRF (t : Types) (p : Patt) (pre : List Slot) (s : Slot) : Int := if slotOk t p s = false then 6 else if pre.any (sameSlot s) = true then 5 else 0

def slotsGo (t : Types) (p : Patt) : List Slot → List Slot → Int
  | _, [] => 0
  | pre, s :: r => if slotRF t p pre s ≠ 0 then slotRF t p pre s else slotsGo t p (pre ++ [s]) r

def rightF (t : Types) (r : Rul) : Int :=
  if graphF r.right.graph ≠ 0 then graphF r.right.graph else if typedB t r.right.graph = false then 13
  else if r.right.vars ≠ r.left.vars ∨ r.right.tests.length > 0 then 1 else if r.right.slots.length > 10 then 3
  else slotsGo t r.right [] r.right.slots

theorem typedB_ok {t : Types} {g : Graph} (h0 : graphF g = 0) (h : typedB t g = true) : ∀ n ∈ g.nodes, 0 ≤ n ∧ n < t.nodes.length := fun n hn => by
  obtain ⟨_, _, g3, _⟩ := graphF_ok h0
  unfold typedB at h; rw [Bool.and_eq_true] at h
  have := List.all_eq_true.1 h.1 n hn
  exact ⟨(g3 n hn).1, by simpa using this⟩

end Go.Abs
/- The slots of the right side. -/
set_option linter.unusedSimpArgs false
set_option linter.unusedVariables false
set_option maxRecDepth 20000
set_option maxHeartbeats 4000000
namespace Go.Abs
open Go Go.RowKit Go.Proofs
attribute [local irreducible] Con AWP

theorem slotRC {t : Types} {r : Rul} {pre post : List Slot} {s : Slot} (hs : r.right.slots = pre ++ s :: post) (h0 : (typesF t).2 = 0) (hg : ∀ n ∈ r.right.graph.nodes, 0 ≤ n ∧ n < t.nodes.length) :
    Con Tryz.prog 117 [dTypes t, dRule r, .int .i64 (pre.length : Int)] (.int .i64 (slotRF t r.right pre s)) := by
  have hget : getR (r.right.slots.map rSlot) pre.length = [.int .i64 s.node, .int .i64 s.attr, .int .i64 s.term.var, .int .i64 s.term.add] := by rw [hs]; simp [getR, rSlot]
  have htk : (r.right.slots.map rSlot).take pre.length = pre.map rSlot := by rw [hs]; simp
  have hle : (pre.length : Int) < r.right.slots.length := by rw [hs]; simp; omega
  by_cases hn : 0 ≤ s.node ∧ s.node < r.right.graph.nodes.length
  · have hk := hg _ (nodeIn_mem hn.1 hn.2)
    have hgv : givenF t [nodeIn r.right.graph s.node] = 0 := by
      have e1 : outB t (nodeIn r.right.graph s.node) = false := by unfold outB; simp; omega
      unfold givenF; rw [if_neg (by simp [h0]), List.any_cons, e1, List.any_nil]; try rfl
    have ha := attrsOkC hgv
    have hge : getR (r.right.graph.nodes.map rI) s.node.toNat = [.int .i64 (nodeIn r.right.graph s.node)] := ints_row hn.1 hn.2
    have q1 : (s.node < 0) = False := by simp; omega
    have q2 : ((r.right.graph.nodes.length : Int) ≤ s.node) = False := by simp; omega
    have hS : slotOk t r.right s = (decide (0 ≤ s.attr) && decide (s.attr < (attrsOf t (nodeIn r.right.graph s.node)).length) && (decide (-1 ≤ s.term.var) && decide (s.term.var ≤ r.right.vars - 1)) && (decide (-1000000 ≤ s.term.add) && decide (s.term.add ≤ 1000000))) := by
      unfold slotOk attrB
      rw [show decide (0 ≤ s.node) = true by simp [hn.1], show decide (s.node < (r.right.graph.nodes.length : Int)) = true by simp [hn.2]]; try rfl
    generalize attrsOf t (nodeIn r.right.graph s.node) = A at *
    by_cases d0 : s.attr < 0
    · have e0 : (s.attr < 0) = True := by simpa using d0
      have hS0 : slotOk t r.right s = false := by
        rw [hS]; simp only [Bool.and_eq_false_iff, decide_eq_false_iff_not]; omega
      have hF : slotRF t r.right pre s = 6 := by unfold slotRF; rw [if_pos hS0]
      rw [hF]
      refine ConC.con (ent _ Tryz.func117 rfl rfl) (con_of_body env Tryz.func117 rfl (nt := 85) (rs := [.tmp 6]) rfl rfl (Nat.le_of_ble_eq_true rfl) fun hok => ?_)
      repeat' (first | (first | (refine AWP.go env ?_; intro K fin; try simp +decide (maxSteps := 4000000) only [hget, htk, hge, q1, q2, e0, go_sem, Nat.reduceAdd, Nat.reduceMul]) | refine Kt.h _ _ ?_ | refine Ft.k (by decide +kernel) ?_ | ((first | refine ⟨_, ha, ?_⟩ | refine ⟨_, contFuncSlotC (caps := [.fptr (rSlot s) 0]) (p := sameSlot s) (xs := pre) (fun _ => rfl) (fun _ => rfl) (fun _ => rfl) (fun _ _ => slotSameC), ?_⟩); simp +decide (maxSteps := 4000000) only [hget, htk, hge, q1, q2, e0, go_sem, Nat.reduceAdd, Nat.reduceMul])) | apply cond2_intro | with_reducible apply And.intro | intro h)
      all_goals try omega
      all_goals try (simp only [List.mem_cons, List.not_mem_nil, or_false] at h; (repeat' (first | (subst h; rfl) | rcases h with h | h)))
    have e0 : (s.attr < 0) = False := by simpa using d0
    by_cases d1 : (A.length : Int) ≤ s.attr
    · have e1 : ((A.length : Int) ≤ s.attr) = True := by simpa using d1
      have hS0 : slotOk t r.right s = false := by
        rw [hS]; simp only [Bool.and_eq_false_iff, decide_eq_false_iff_not]; omega
      have hF : slotRF t r.right pre s = 6 := by unfold slotRF; rw [if_pos hS0]
      rw [hF]
      refine ConC.con (ent _ Tryz.func117 rfl rfl) (con_of_body env Tryz.func117 rfl (nt := 85) (rs := [.tmp 6]) rfl rfl (Nat.le_of_ble_eq_true rfl) fun hok => ?_)
      repeat' (first | (first | (refine AWP.go env ?_; intro K fin; try simp +decide (maxSteps := 4000000) only [hget, htk, hge, q1, q2, e0, e1, go_sem, Nat.reduceAdd, Nat.reduceMul]) | refine Kt.h _ _ ?_ | refine Ft.k (by decide +kernel) ?_ | ((first | refine ⟨_, ha, ?_⟩ | refine ⟨_, contFuncSlotC (caps := [.fptr (rSlot s) 0]) (p := sameSlot s) (xs := pre) (fun _ => rfl) (fun _ => rfl) (fun _ => rfl) (fun _ _ => slotSameC), ?_⟩); simp +decide (maxSteps := 4000000) only [hget, htk, hge, q1, q2, e0, e1, go_sem, Nat.reduceAdd, Nat.reduceMul])) | apply cond2_intro | with_reducible apply And.intro | intro h)
      all_goals try omega
      all_goals try (simp only [List.mem_cons, List.not_mem_nil, or_false] at h; (repeat' (first | (subst h; rfl) | rcases h with h | h)))
    have e1 : ((A.length : Int) ≤ s.attr) = False := by simpa using d1
    by_cases d2 : s.term.var < -1
    · have e2 : (s.term.var < -1) = True := by simpa using d2
      have hS0 : slotOk t r.right s = false := by
        rw [hS]; simp only [Bool.and_eq_false_iff, decide_eq_false_iff_not]; omega
      have hF : slotRF t r.right pre s = 6 := by unfold slotRF; rw [if_pos hS0]
      rw [hF]
      refine ConC.con (ent _ Tryz.func117 rfl rfl) (con_of_body env Tryz.func117 rfl (nt := 85) (rs := [.tmp 6]) rfl rfl (Nat.le_of_ble_eq_true rfl) fun hok => ?_)
      repeat' (first | (first | (refine AWP.go env ?_; intro K fin; try simp +decide (maxSteps := 4000000) only [hget, htk, hge, q1, q2, e0, e1, e2, go_sem, Nat.reduceAdd, Nat.reduceMul]) | refine Kt.h _ _ ?_ | refine Ft.k (by decide +kernel) ?_ | ((first | refine ⟨_, ha, ?_⟩ | refine ⟨_, contFuncSlotC (caps := [.fptr (rSlot s) 0]) (p := sameSlot s) (xs := pre) (fun _ => rfl) (fun _ => rfl) (fun _ => rfl) (fun _ _ => slotSameC), ?_⟩); simp +decide (maxSteps := 4000000) only [hget, htk, hge, q1, q2, e0, e1, e2, go_sem, Nat.reduceAdd, Nat.reduceMul])) | apply cond2_intro | with_reducible apply And.intro | intro h)
      all_goals try omega
      all_goals try (simp only [List.mem_cons, List.not_mem_nil, or_false] at h; (repeat' (first | (subst h; rfl) | rcases h with h | h)))
    have e2 : (s.term.var < -1) = False := by simpa using d2
    by_cases d3 : r.right.vars ≤ s.term.var
    · have e3 : (r.right.vars ≤ s.term.var) = True := by simpa using d3
      have hS0 : slotOk t r.right s = false := by
        rw [hS]; simp only [Bool.and_eq_false_iff, decide_eq_false_iff_not]; omega
      have hF : slotRF t r.right pre s = 6 := by unfold slotRF; rw [if_pos hS0]
      rw [hF]
      refine ConC.con (ent _ Tryz.func117 rfl rfl) (con_of_body env Tryz.func117 rfl (nt := 85) (rs := [.tmp 6]) rfl rfl (Nat.le_of_ble_eq_true rfl) fun hok => ?_)
      repeat' (first | (first | (refine AWP.go env ?_; intro K fin; try simp +decide (maxSteps := 4000000) only [hget, htk, hge, q1, q2, e0, e1, e2, e3, go_sem, Nat.reduceAdd, Nat.reduceMul]) | refine Kt.h _ _ ?_ | refine Ft.k (by decide +kernel) ?_ | ((first | refine ⟨_, ha, ?_⟩ | refine ⟨_, contFuncSlotC (caps := [.fptr (rSlot s) 0]) (p := sameSlot s) (xs := pre) (fun _ => rfl) (fun _ => rfl) (fun _ => rfl) (fun _ _ => slotSameC), ?_⟩); simp +decide (maxSteps := 4000000) only [hget, htk, hge, q1, q2, e0, e1, e2, e3, go_sem, Nat.reduceAdd, Nat.reduceMul])) | apply cond2_intro | with_reducible apply And.intro | intro h)
      all_goals try omega
      all_goals try (simp only [List.mem_cons, List.not_mem_nil, or_false] at h; (repeat' (first | (subst h; rfl) | rcases h with h | h)))
    have e3 : (r.right.vars ≤ s.term.var) = False := by simpa using d3
    by_cases d4 : s.term.add < -1000000
    · have e4 : (s.term.add < -1000000) = True := by simpa using d4
      have hS0 : slotOk t r.right s = false := by
        rw [hS]; simp only [Bool.and_eq_false_iff, decide_eq_false_iff_not]; omega
      have hF : slotRF t r.right pre s = 6 := by unfold slotRF; rw [if_pos hS0]
      rw [hF]
      refine ConC.con (ent _ Tryz.func117 rfl rfl) (con_of_body env Tryz.func117 rfl (nt := 85) (rs := [.tmp 6]) rfl rfl (Nat.le_of_ble_eq_true rfl) fun hok => ?_)
      repeat' (first | (first | (refine AWP.go env ?_; intro K fin; try simp +decide (maxSteps := 4000000) only [hget, htk, hge, q1, q2, e0, e1, e2, e3, e4, go_sem, Nat.reduceAdd, Nat.reduceMul]) | refine Kt.h _ _ ?_ | refine Ft.k (by decide +kernel) ?_ | ((first | refine ⟨_, ha, ?_⟩ | refine ⟨_, contFuncSlotC (caps := [.fptr (rSlot s) 0]) (p := sameSlot s) (xs := pre) (fun _ => rfl) (fun _ => rfl) (fun _ => rfl) (fun _ _ => slotSameC), ?_⟩); simp +decide (maxSteps := 4000000) only [hget, htk, hge, q1, q2, e0, e1, e2, e3, e4, go_sem, Nat.reduceAdd, Nat.reduceMul])) | apply cond2_intro | with_reducible apply And.intro | intro h)
      all_goals try omega
      all_goals try (simp only [List.mem_cons, List.not_mem_nil, or_false] at h; (repeat' (first | (subst h; rfl) | rcases h with h | h)))
    have e4 : (s.term.add < -1000000) = False := by simpa using d4
    by_cases d5 : 1000000 < s.term.add
    · have e5 : (1000000 < s.term.add) = True := by simpa using d5
      have hS0 : slotOk t r.right s = false := by
        rw [hS]; simp only [Bool.and_eq_false_iff, decide_eq_false_iff_not]; omega
      have hF : slotRF t r.right pre s = 6 := by unfold slotRF; rw [if_pos hS0]
      rw [hF]
      refine ConC.con (ent _ Tryz.func117 rfl rfl) (con_of_body env Tryz.func117 rfl (nt := 85) (rs := [.tmp 6]) rfl rfl (Nat.le_of_ble_eq_true rfl) fun hok => ?_)
      repeat' (first | (first | (refine AWP.go env ?_; intro K fin; try simp +decide (maxSteps := 4000000) only [hget, htk, hge, q1, q2, e0, e1, e2, e3, e4, e5, go_sem, Nat.reduceAdd, Nat.reduceMul]) | refine Kt.h _ _ ?_ | refine Ft.k (by decide +kernel) ?_ | ((first | refine ⟨_, ha, ?_⟩ | refine ⟨_, contFuncSlotC (caps := [.fptr (rSlot s) 0]) (p := sameSlot s) (xs := pre) (fun _ => rfl) (fun _ => rfl) (fun _ => rfl) (fun _ _ => slotSameC), ?_⟩); simp +decide (maxSteps := 4000000) only [hget, htk, hge, q1, q2, e0, e1, e2, e3, e4, e5, go_sem, Nat.reduceAdd, Nat.reduceMul])) | apply cond2_intro | with_reducible apply And.intro | intro h)
      all_goals try omega
      all_goals try (simp only [List.mem_cons, List.not_mem_nil, or_false] at h; (repeat' (first | (subst h; rfl) | rcases h with h | h)))
    have e5 : (1000000 < s.term.add) = False := by simpa using d5
    have hS0 : slotOk t r.right s = true := by
      rw [hS]; simp only [Bool.and_eq_true, decide_eq_true_eq]; omega
    have hF : slotRF t r.right pre s = if pre.any (sameSlot s) = true then 5 else 0 := by unfold slotRF; rw [if_neg (by rw [hS0]; decide)]
    rw [hF]
    refine ConC.con (ent _ Tryz.func117 rfl rfl) (con_of_body env Tryz.func117 rfl (nt := 85) (rs := [.tmp 6]) rfl rfl (Nat.le_of_ble_eq_true rfl) fun hok => ?_)
    repeat' (first | (first | (refine AWP.go env ?_; intro K fin; try simp +decide (maxSteps := 4000000) only [hget, htk, hge, q1, q2, e0, e1, e2, e3, e4, e5, go_sem, Nat.reduceAdd, Nat.reduceMul]) | refine Kt.h _ _ ?_ | refine Ft.k (by decide +kernel) ?_ | ((first | refine ⟨_, ha, ?_⟩ | refine ⟨_, contFuncSlotC (caps := [.fptr (rSlot s) 0]) (p := sameSlot s) (xs := pre) (fun _ => rfl) (fun _ => rfl) (fun _ => rfl) (fun _ _ => slotSameC), ?_⟩); simp +decide (maxSteps := 4000000) only [hget, htk, hge, q1, q2, e0, e1, e2, e3, e4, e5, go_sem, Nat.reduceAdd, Nat.reduceMul])) | apply cond2_intro | with_reducible apply And.intro | intro h)
    all_goals try omega
    all_goals try (simp only [List.mem_cons, List.not_mem_nil, or_false] at h; (repeat' (first | (subst h; rfl) | rcases h with h | h)))
    all_goals (rw [h]; try rfl)
  · have hS : slotOk t r.right s = false := by
      unfold slotOk attrB
      rw [show (decide (0 ≤ s.node) && decide (s.node < (r.right.graph.nodes.length : Int))) = false by rw [Bool.and_eq_false_iff, decide_eq_false_iff_not, decide_eq_false_iff_not]; omega]; try rfl
    have hF : slotRF t r.right pre s = 6 := by unfold slotRF; rw [if_pos hS]
    have hn' : s.node < 0 ∨ (r.right.graph.nodes.length : Int) ≤ s.node := by omega
    rw [hF]
    refine ConC.con (ent _ Tryz.func117 rfl rfl) (con_of_body env Tryz.func117 rfl (nt := 85) (rs := [.tmp 6]) rfl rfl (Nat.le_of_ble_eq_true rfl) fun hok => ?_)
    rcases hn' with hn' | hn'
    · have q1 : (s.node < 0) = True := by simpa using hn'
      repeat' (first | (first | (refine AWP.go env ?_; intro K fin; try simp +decide (maxSteps := 4000000) only [hget, q1, go_sem, Nat.reduceAdd, Nat.reduceMul]) | refine Kt.h _ _ ?_ | refine Ft.k (by decide +kernel) ?_ | ((first | refine ⟨_, ha, ?_⟩ | refine ⟨_, contFuncSlotC (caps := [.fptr (rSlot s) 0]) (p := sameSlot s) (xs := pre) (fun _ => rfl) (fun _ => rfl) (fun _ => rfl) (fun _ _ => slotSameC), ?_⟩); simp +decide (maxSteps := 4000000) only [hget, q1, go_sem, Nat.reduceAdd, Nat.reduceMul])) | apply cond2_intro | with_reducible apply And.intro | intro h)
      all_goals try omega
      all_goals try (simp only [List.mem_cons, List.not_mem_nil, or_false] at h; (repeat' (first | (subst h; rfl) | rcases h with h | h)))
    · have q1 : ((r.right.graph.nodes.length : Int) ≤ s.node) = True := by simpa using hn'
      repeat' (first | (first | (refine AWP.go env ?_; intro K fin; try simp +decide (maxSteps := 4000000) only [hget, q1, go_sem, Nat.reduceAdd, Nat.reduceMul]) | refine Kt.h _ _ ?_ | refine Ft.k (by decide +kernel) ?_ | ((first | refine ⟨_, ha, ?_⟩ | refine ⟨_, contFuncSlotC (caps := [.fptr (rSlot s) 0]) (p := sameSlot s) (xs := pre) (fun _ => rfl) (fun _ => rfl) (fun _ => rfl) (fun _ _ => slotSameC), ?_⟩); simp +decide (maxSteps := 4000000) only [hget, q1, go_sem, Nat.reduceAdd, Nat.reduceMul])) | apply cond2_intro | with_reducible apply And.intro | intro h)
      all_goals try omega
      all_goals try (simp only [List.mem_cons, List.not_mem_nil, or_false] at h; (repeat' (first | (subst h; rfl) | rcases h with h | h)))
end Go.Abs
/- The slots of the right side, of the specification. -/
set_option linter.unusedSimpArgs false
set_option linter.unusedVariables false
set_option maxRecDepth 20000
set_option maxHeartbeats 4000000
namespace Go.Abs
open Go Go.RowKit Go.Proofs
attribute [local irreducible] Con AWP

theorem rSlotRC {t : Types} (hfew : ∀ n ∈ t.nodes, n.attrs.length ≤ 30) {p : Patt} {pre post : List Slot} {s : Slot} (hs : p.slots = pre ++ s :: post) (hl : p.slots.length ≤ 1000) (h0 : (typesF t).2 = 0) (hg : ∀ n ∈ p.graph.nodes, 0 ≤ n ∧ n < t.nodes.length) :
    Con Tryz.prog 133 [dTypes t, dPatt p, .int .i64 (pre.length : Int)] (.int .i64 (slotRF t p pre s)) := by
  have hget : getR (p.slots.map rSlot) pre.length = [.int .i64 s.node, .int .i64 s.attr, .int .i64 s.term.var, .int .i64 s.term.add] := by rw [hs]; simp [getR, rSlot]
  have hle : (pre.length : Int) < p.slots.length := by rw [hs]; simp; omega
  by_cases hn : 0 ≤ s.node ∧ s.node < p.graph.nodes.length
  · have hk := hg _ (nodeIn_mem hn.1 hn.2)
    have hgv : givenF t [nodeIn p.graph s.node] = 0 := by
      have e1 : outB t (nodeIn p.graph s.node) = false := by unfold outB; simp; omega
      unfold givenF; rw [if_neg (by simp [h0]), List.any_cons, e1, List.any_nil]; try rfl
    have ha := rAttrsOkC hfew hgv
    have hge : getR (p.graph.nodes.map rI) s.node.toNat = [.int .i64 (nodeIn p.graph s.node)] := ints_row hn.1 hn.2
    have q1 : (s.node < 0) = False := by simp; omega
    have q2 : ((p.graph.nodes.length : Int) ≤ s.node) = False := by simp; omega
    have hS : slotOk t p s = (decide (0 ≤ s.attr) && decide (s.attr < (attrsOf t (nodeIn p.graph s.node)).length) && (decide (-1 ≤ s.term.var) && decide (s.term.var ≤ p.vars - 1)) && (decide (-1000000 ≤ s.term.add) && decide (s.term.add ≤ 1000000))) := by
      unfold slotOk attrB
      rw [show decide (0 ≤ s.node) = true by simp [hn.1], show decide (s.node < (p.graph.nodes.length : Int)) = true by simp [hn.2]]; try rfl
    generalize attrsOf t (nodeIn p.graph s.node) = A at *
    by_cases d0 : s.attr < 0
    · have e0 : (s.attr < 0) = True := by simpa using d0
      have hS0 : slotOk t p s = false := by
        rw [hS]; simp only [Bool.and_eq_false_iff, decide_eq_false_iff_not]; omega
      have hF : slotRF t p pre s = 6 := by unfold slotRF; rw [if_pos hS0]
      rw [hF]
      refine ConC.con (ent _ Tryz.func133 rfl rfl) (con_of_body env Tryz.func133 rfl (nt := 101) (rs := [.tmp 6]) rfl rfl (Nat.le_of_ble_eq_true rfl) fun hok => ?_)
      repeat' (first | (first | (refine AWP.go env ?_; intro K fin; try simp +decide (maxSteps := 4000000) only [hget, hge, q1, q2, e0, go_sem, Nat.reduceAdd, Nat.reduceMul]) | refine Kt.h _ _ ?_ | refine Ft.k (by decide +kernel) ?_ | (refine ⟨_, ha, ?_⟩; simp +decide (maxSteps := 4000000) only [hget, hge, q1, q2, e0, go_sem, Nat.reduceAdd, Nat.reduceMul])) | apply cond2_intro | with_reducible apply And.intro | intro h)
      all_goals try omega
      all_goals try (simp only [List.mem_cons, List.not_mem_nil, or_false] at h; (repeat' (first | (subst h; rfl) | rcases h with h | h)))
    have e0 : (s.attr < 0) = False := by simpa using d0
    by_cases d1 : (A.length : Int) ≤ s.attr
    · have e1 : ((A.length : Int) ≤ s.attr) = True := by simpa using d1
      have hS0 : slotOk t p s = false := by
        rw [hS]; simp only [Bool.and_eq_false_iff, decide_eq_false_iff_not]; omega
      have hF : slotRF t p pre s = 6 := by unfold slotRF; rw [if_pos hS0]
      rw [hF]
      refine ConC.con (ent _ Tryz.func133 rfl rfl) (con_of_body env Tryz.func133 rfl (nt := 101) (rs := [.tmp 6]) rfl rfl (Nat.le_of_ble_eq_true rfl) fun hok => ?_)
      repeat' (first | (first | (refine AWP.go env ?_; intro K fin; try simp +decide (maxSteps := 4000000) only [hget, hge, q1, q2, e0, e1, go_sem, Nat.reduceAdd, Nat.reduceMul]) | refine Kt.h _ _ ?_ | refine Ft.k (by decide +kernel) ?_ | (refine ⟨_, ha, ?_⟩; simp +decide (maxSteps := 4000000) only [hget, hge, q1, q2, e0, e1, go_sem, Nat.reduceAdd, Nat.reduceMul])) | apply cond2_intro | with_reducible apply And.intro | intro h)
      all_goals try omega
      all_goals try (simp only [List.mem_cons, List.not_mem_nil, or_false] at h; (repeat' (first | (subst h; rfl) | rcases h with h | h)))
    have e1 : ((A.length : Int) ≤ s.attr) = False := by simpa using d1
    by_cases d2 : s.term.var < -1
    · have e2 : (s.term.var < -1) = True := by simpa using d2
      have hS0 : slotOk t p s = false := by
        rw [hS]; simp only [Bool.and_eq_false_iff, decide_eq_false_iff_not]; omega
      have hF : slotRF t p pre s = 6 := by unfold slotRF; rw [if_pos hS0]
      rw [hF]
      refine ConC.con (ent _ Tryz.func133 rfl rfl) (con_of_body env Tryz.func133 rfl (nt := 101) (rs := [.tmp 6]) rfl rfl (Nat.le_of_ble_eq_true rfl) fun hok => ?_)
      repeat' (first | (first | (refine AWP.go env ?_; intro K fin; try simp +decide (maxSteps := 4000000) only [hget, hge, q1, q2, e0, e1, e2, go_sem, Nat.reduceAdd, Nat.reduceMul]) | refine Kt.h _ _ ?_ | refine Ft.k (by decide +kernel) ?_ | (refine ⟨_, ha, ?_⟩; simp +decide (maxSteps := 4000000) only [hget, hge, q1, q2, e0, e1, e2, go_sem, Nat.reduceAdd, Nat.reduceMul])) | apply cond2_intro | with_reducible apply And.intro | intro h)
      all_goals try omega
      all_goals try (simp only [List.mem_cons, List.not_mem_nil, or_false] at h; (repeat' (first | (subst h; rfl) | rcases h with h | h)))
    have e2 : (s.term.var < -1) = False := by simpa using d2
    by_cases d3 : p.vars ≤ s.term.var
    · have e3 : (p.vars ≤ s.term.var) = True := by simpa using d3
      have hS0 : slotOk t p s = false := by
        rw [hS]; simp only [Bool.and_eq_false_iff, decide_eq_false_iff_not]; omega
      have hF : slotRF t p pre s = 6 := by unfold slotRF; rw [if_pos hS0]
      rw [hF]
      refine ConC.con (ent _ Tryz.func133 rfl rfl) (con_of_body env Tryz.func133 rfl (nt := 101) (rs := [.tmp 6]) rfl rfl (Nat.le_of_ble_eq_true rfl) fun hok => ?_)
      repeat' (first | (first | (refine AWP.go env ?_; intro K fin; try simp +decide (maxSteps := 4000000) only [hget, hge, q1, q2, e0, e1, e2, e3, go_sem, Nat.reduceAdd, Nat.reduceMul]) | refine Kt.h _ _ ?_ | refine Ft.k (by decide +kernel) ?_ | (refine ⟨_, ha, ?_⟩; simp +decide (maxSteps := 4000000) only [hget, hge, q1, q2, e0, e1, e2, e3, go_sem, Nat.reduceAdd, Nat.reduceMul])) | apply cond2_intro | with_reducible apply And.intro | intro h)
      all_goals try omega
      all_goals try (simp only [List.mem_cons, List.not_mem_nil, or_false] at h; (repeat' (first | (subst h; rfl) | rcases h with h | h)))
    have e3 : (p.vars ≤ s.term.var) = False := by simpa using d3
    by_cases d4 : s.term.add < -1000000
    · have e4 : (s.term.add < -1000000) = True := by simpa using d4
      have hS0 : slotOk t p s = false := by
        rw [hS]; simp only [Bool.and_eq_false_iff, decide_eq_false_iff_not]; omega
      have hF : slotRF t p pre s = 6 := by unfold slotRF; rw [if_pos hS0]
      rw [hF]
      refine ConC.con (ent _ Tryz.func133 rfl rfl) (con_of_body env Tryz.func133 rfl (nt := 101) (rs := [.tmp 6]) rfl rfl (Nat.le_of_ble_eq_true rfl) fun hok => ?_)
      repeat' (first | (first | (refine AWP.go env ?_; intro K fin; try simp +decide (maxSteps := 4000000) only [hget, hge, q1, q2, e0, e1, e2, e3, e4, go_sem, Nat.reduceAdd, Nat.reduceMul]) | refine Kt.h _ _ ?_ | refine Ft.k (by decide +kernel) ?_ | (refine ⟨_, ha, ?_⟩; simp +decide (maxSteps := 4000000) only [hget, hge, q1, q2, e0, e1, e2, e3, e4, go_sem, Nat.reduceAdd, Nat.reduceMul])) | apply cond2_intro | with_reducible apply And.intro | intro h)
      all_goals try omega
      all_goals try (simp only [List.mem_cons, List.not_mem_nil, or_false] at h; (repeat' (first | (subst h; rfl) | rcases h with h | h)))
    have e4 : (s.term.add < -1000000) = False := by simpa using d4
    by_cases d5 : 1000000 < s.term.add
    · have e5 : (1000000 < s.term.add) = True := by simpa using d5
      have hS0 : slotOk t p s = false := by
        rw [hS]; simp only [Bool.and_eq_false_iff, decide_eq_false_iff_not]; omega
      have hF : slotRF t p pre s = 6 := by unfold slotRF; rw [if_pos hS0]
      rw [hF]
      refine ConC.con (ent _ Tryz.func133 rfl rfl) (con_of_body env Tryz.func133 rfl (nt := 101) (rs := [.tmp 6]) rfl rfl (Nat.le_of_ble_eq_true rfl) fun hok => ?_)
      repeat' (first | (first | (refine AWP.go env ?_; intro K fin; try simp +decide (maxSteps := 4000000) only [hget, hge, q1, q2, e0, e1, e2, e3, e4, e5, go_sem, Nat.reduceAdd, Nat.reduceMul]) | refine Kt.h _ _ ?_ | refine Ft.k (by decide +kernel) ?_ | (refine ⟨_, ha, ?_⟩; simp +decide (maxSteps := 4000000) only [hget, hge, q1, q2, e0, e1, e2, e3, e4, e5, go_sem, Nat.reduceAdd, Nat.reduceMul])) | apply cond2_intro | with_reducible apply And.intro | intro h)
      all_goals try omega
      all_goals try (simp only [List.mem_cons, List.not_mem_nil, or_false] at h; (repeat' (first | (subst h; rfl) | rcases h with h | h)))
    have e5 : (1000000 < s.term.add) = False := by simpa using d5
    have hS0 : slotOk t p s = true := by
      rw [hS]; simp only [Bool.and_eq_true, decide_eq_true_eq]; omega
    have hF : slotRF t p pre s = if pre.any (sameSlot s) = true then 5 else 0 := by unfold slotRF; rw [if_neg (by rw [hS0]; decide)]
    rw [hF]
    refine ConC.con (ent _ Tryz.func133 rfl rfl) (con_of_body env Tryz.func133 rfl (nt := 101) (rs := [.tmp 6]) rfl rfl (Nat.le_of_ble_eq_true rfl) fun hok => ?_)
    repeat' (first | (first | (refine AWP.go env ?_; intro K fin; try simp +decide (maxSteps := 4000000) only [hget, hge, q1, q2, e0, e1, e2, e3, e4, e5, go_sem, Nat.reduceAdd, Nat.reduceMul]) | refine Kt.h _ _ ?_ | refine Ft.k (by decide +kernel) ?_ | (refine ⟨_, ha, ?_⟩; simp +decide (maxSteps := 4000000) only [hget, hge, q1, q2, e0, e1, e2, e3, e4, e5, go_sem, Nat.reduceAdd, Nat.reduceMul])) | apply cond2_intro | with_reducible apply And.intro | intro h)
    all_goals try omega
    all_goals try (simp only [List.mem_cons, List.not_mem_nil, or_false] at h; (repeat' (first | (subst h; rfl) | rcases h with h | h)))
    refine AWP.lp (α := Way pre fun a _ => a.any (sameSlot s) = false)
      (fun w => ⟨101, [(2, .int .i64 pre.length), (4, .ptr 400 0 0 0), (7, .ptr 700 0 0 0), (10, .int .i64 w.pre.length)],
        [(400, ⟨0, true, true, 5, 33, [cPatt p]⟩), (700, ⟨0, true, true, 4, 161, [[.int .i64 s.node, .int .i64 s.attr, .int .i64 s.term.var, .int .i64 s.term.add]]⟩)]⟩) (fun w => w.post.length) ⟨[], pre, rfl, rfl⟩ (by simp +decide (maxSteps := 4000000) only [go_sem, Nat.reduceAdd, Nat.reduceMul]; try simp) fun w K => ?_
    obtain ⟨a, b, hab, hinv⟩ := w
    cases b with
    | nil =>
      have hab : pre = a := by simpa using hab
      have hn2 : ((a.length : Int) < (pre.length : Int)) = False := by simp [hab]
      repeat' (first | (first | (refine AWP.go env ?_; intro K fin; try simp +decide (maxSteps := 4000000) only [hn2, go_sem, Nat.reduceAdd, Nat.reduceMul]) | refine Kt.h _ _ ?_ | refine Ft.k (by decide +kernel) ?_ | (refine ⟨_, ha, ?_⟩; simp +decide (maxSteps := 4000000) only [hn2, go_sem, Nat.reduceAdd, Nat.reduceMul])) | apply cond2_intro | with_reducible apply And.intro | intro h)
      rw [hab, hinv]; try rfl
    | cons y b =>
      have hal : a.length < pre.length := by rw [hab]; simp
      have hn2 : ((a.length : Int) < (pre.length : Int)) = True := by simp [hal]
      have hgety : getR (p.slots.map rSlot) a.length = [.int .i64 y.node, .int .i64 y.attr, .int .i64 y.term.var, .int .i64 y.term.add] := by rw [hs, hab]; simp [getR, rSlot]
      have v3 := wk_i' (t := a.length) (by omega)
      by_cases h1 : (y.node == s.node) = true
      · by_cases h2 : (y.attr == s.attr) = true
        · have hy : pre.any (sameSlot s) = true := by rw [hab, List.any_append, List.any_cons, show sameSlot s y = true by unfold sameSlot; rw [h1, h2]; try rfl]; simp
          repeat' (first | (first | (refine AWP.go env ?_; intro K fin; try simp +decide (maxSteps := 4000000) only [hn2, hgety, v3, h1, h2, go_sem, Nat.reduceAdd, Nat.reduceMul]) | refine Kt.h _ _ ?_ | refine Ft.k (by decide +kernel) ?_ | (refine ⟨_, ha, ?_⟩; simp +decide (maxSteps := 4000000) only [hn2, hgety, v3, h1, h2, go_sem, Nat.reduceAdd, Nat.reduceMul])) | apply cond2_intro | with_reducible apply And.intro | intro h)
          all_goals try omega
          rw [hy]; try rfl
        · have h2 : (y.attr == s.attr) = false := by simpa using h2
          repeat' (first | (first | (refine AWP.go env ?_; intro K fin; try simp +decide (maxSteps := 4000000) only [hn2, hgety, v3, h1, h2, go_sem, Nat.reduceAdd, Nat.reduceMul]) | refine Kt.h _ _ ?_ | refine Ft.k (by decide +kernel) ?_ | (refine ⟨_, ha, ?_⟩; simp +decide (maxSteps := 4000000) only [hn2, hgety, v3, h1, h2, go_sem, Nat.reduceAdd, Nat.reduceMul])) | apply cond2_intro | with_reducible apply And.intro | intro h)
          all_goals try omega
          refine ⟨⟨a ++ [y], b, by simp [hab], ?_⟩, by simp, by simp +decide (maxSteps := 4000000) only [go_sem, Nat.reduceAdd, Nat.reduceMul]; simp⟩
          rw [List.any_append, hinv, List.any_cons, show sameSlot s y = false by unfold sameSlot; rw [h2, Bool.and_false]]; try rfl
      · have h1 : (y.node == s.node) = false := by simpa using h1
        repeat' (first | (first | (refine AWP.go env ?_; intro K fin; try simp +decide (maxSteps := 4000000) only [hn2, hgety, v3, h1, go_sem, Nat.reduceAdd, Nat.reduceMul]) | refine Kt.h _ _ ?_ | refine Ft.k (by decide +kernel) ?_ | (refine ⟨_, ha, ?_⟩; simp +decide (maxSteps := 4000000) only [hn2, hgety, v3, h1, go_sem, Nat.reduceAdd, Nat.reduceMul])) | apply cond2_intro | with_reducible apply And.intro | intro h)
        all_goals try omega
        refine ⟨⟨a ++ [y], b, by simp [hab], ?_⟩, by simp, by simp +decide (maxSteps := 4000000) only [go_sem, Nat.reduceAdd, Nat.reduceMul]; simp⟩
        rw [List.any_append, hinv, List.any_cons, show sameSlot s y = false by unfold sameSlot; rw [h1, Bool.false_and]]; try rfl
  · have hS : slotOk t p s = false := by
      unfold slotOk attrB
      rw [show (decide (0 ≤ s.node) && decide (s.node < (p.graph.nodes.length : Int))) = false by rw [Bool.and_eq_false_iff, decide_eq_false_iff_not, decide_eq_false_iff_not]; omega]; try rfl
    have hF : slotRF t p pre s = 6 := by unfold slotRF; rw [if_pos hS]
    have hn' : s.node < 0 ∨ (p.graph.nodes.length : Int) ≤ s.node := by omega
    rw [hF]
    refine ConC.con (ent _ Tryz.func133 rfl rfl) (con_of_body env Tryz.func133 rfl (nt := 101) (rs := [.tmp 6]) rfl rfl (Nat.le_of_ble_eq_true rfl) fun hok => ?_)
    rcases hn' with hn' | hn'
    · have q1 : (s.node < 0) = True := by simpa using hn'
      repeat' (first | (first | (refine AWP.go env ?_; intro K fin; try simp +decide (maxSteps := 4000000) only [hget, q1, go_sem, Nat.reduceAdd, Nat.reduceMul]) | refine Kt.h _ _ ?_ | refine Ft.k (by decide +kernel) ?_ | (refine ⟨_, ha, ?_⟩; simp +decide (maxSteps := 4000000) only [hget, q1, go_sem, Nat.reduceAdd, Nat.reduceMul])) | apply cond2_intro | with_reducible apply And.intro | intro h)
      all_goals try omega
      all_goals try (simp only [List.mem_cons, List.not_mem_nil, or_false] at h; (repeat' (first | (subst h; rfl) | rcases h with h | h)))
    · have q1 : ((p.graph.nodes.length : Int) ≤ s.node) = True := by simpa using hn'
      repeat' (first | (first | (refine AWP.go env ?_; intro K fin; try simp +decide (maxSteps := 4000000) only [hget, q1, go_sem, Nat.reduceAdd, Nat.reduceMul]) | refine Kt.h _ _ ?_ | refine Ft.k (by decide +kernel) ?_ | (refine ⟨_, ha, ?_⟩; simp +decide (maxSteps := 4000000) only [hget, q1, go_sem, Nat.reduceAdd, Nat.reduceMul])) | apply cond2_intro | with_reducible apply And.intro | intro h)
      all_goals try omega
      all_goals try (simp only [List.mem_cons, List.not_mem_nil, or_false] at h; (repeat' (first | (subst h; rfl) | rcases h with h | h)))
end Go.Abs
/- The right side of a rule, whole. -/
set_option linter.unusedSimpArgs false
set_option linter.unusedVariables false
set_option maxRecDepth 20000
set_option maxHeartbeats 4000000
namespace Go.Abs
open Go Go.RowKit Go.Proofs
attribute [local irreducible] Con AWP


theorem rightC {t : Types} {r : Rul} (h0 : (typesF t).2 = 0) : Con Tryz.prog 49 [dTypes t, dRule r] (.int .i64 (rightF t r)) := by
  by_cases c2 : graphF r.right.graph = 0
  case neg =>
    have q : (graphF r.right.graph != 0) = true := by simpa using c2
    have hF : rightF t r = graphF r.right.graph := by unfold rightF; rw [if_pos c2]
    rw [hF]
    refine ConC.con (ent _ Tryz.func49 rfl rfl) (con_of_body env Tryz.func49 rfl (nt := 58) (rs := [.tmp 4]) rfl rfl (Nat.le_of_ble_eq_true rfl) fun hok => ?_)
    repeat' (first | (first | (refine AWP.go env ?_; intro K fin; try simp +decide (maxSteps := 4000000) only [q, go_sem, Nat.reduceAdd, Nat.reduceMul]) | refine Kt.h _ _ ?_ | refine Ft.k (by decide +kernel) ?_ | ((first | refine ⟨_, graphC (g := r.right.graph), ?_⟩ | refine ⟨_, typedRC (g := r.right.graph), ?_⟩ | refine ⟨_, hsc, ?_⟩); simp +decide (maxSteps := 4000000) only [q, go_sem, Nat.reduceAdd, Nat.reduceMul])) | apply cond2_intro | with_reducible apply And.intro | intro h)
  have q0 : (graphF r.right.graph != 0) = false := by simpa using c2
  skip
  by_cases c3 : typedB t r.right.graph = true
  case neg =>
    have c3 : typedB t r.right.graph = false := by simpa using c3
    have hF : rightF t r = 13 := by unfold rightF; rw [if_neg (by simp [c2]), if_pos c3]
    rw [hF]
    refine ConC.con (ent _ Tryz.func49 rfl rfl) (con_of_body env Tryz.func49 rfl (nt := 58) (rs := [.tmp 4]) rfl rfl (Nat.le_of_ble_eq_true rfl) fun hok => ?_)
    repeat' (first | (first | (refine AWP.go env ?_; intro K fin; try simp +decide (maxSteps := 4000000) only [q0, c3, go_sem, Nat.reduceAdd, Nat.reduceMul]) | refine Kt.h _ _ ?_ | refine Ft.k (by decide +kernel) ?_ | ((first | refine ⟨_, graphC (g := r.right.graph), ?_⟩ | refine ⟨_, typedRC (g := r.right.graph), ?_⟩ | refine ⟨_, hsc, ?_⟩); simp +decide (maxSteps := 4000000) only [q0, c3, go_sem, Nat.reduceAdd, Nat.reduceMul])) | apply cond2_intro | with_reducible apply And.intro | intro h)
  by_cases c4 : r.right.vars = r.left.vars
  case neg =>
    have q4 : (r.right.vars != r.left.vars) = true := by simpa using c4
    have hF : rightF t r = 1 := by unfold rightF; rw [if_neg (by simp [c2]), if_neg (by simp [c3]), if_pos (.inl c4)]
    rw [hF]
    refine ConC.con (ent _ Tryz.func49 rfl rfl) (con_of_body env Tryz.func49 rfl (nt := 58) (rs := [.tmp 4]) rfl rfl (Nat.le_of_ble_eq_true rfl) fun hok => ?_)
    repeat' (first | (first | (refine AWP.go env ?_; intro K fin; try simp +decide (maxSteps := 4000000) only [q0, c3, q4, go_sem, Nat.reduceAdd, Nat.reduceMul]) | refine Kt.h _ _ ?_ | refine Ft.k (by decide +kernel) ?_ | ((first | refine ⟨_, graphC (g := r.right.graph), ?_⟩ | refine ⟨_, typedRC (g := r.right.graph), ?_⟩ | refine ⟨_, hsc, ?_⟩); simp +decide (maxSteps := 4000000) only [q0, c3, q4, go_sem, Nat.reduceAdd, Nat.reduceMul])) | apply cond2_intro | with_reducible apply And.intro | intro h)
  have q4 : (r.right.vars != r.left.vars) = false := by simpa using c4
  by_cases c5 : r.right.tests.length > 0
  case pos =>
    have q5 : ((0 : Int) < (r.right.tests.length : Int)) = True := eq_true (by omega)
    have hF : rightF t r = 1 := by unfold rightF; rw [if_neg (by simp [c2]), if_neg (by simp [c3]), if_pos (.inr c5)]
    rw [hF]
    refine ConC.con (ent _ Tryz.func49 rfl rfl) (con_of_body env Tryz.func49 rfl (nt := 58) (rs := [.tmp 4]) rfl rfl (Nat.le_of_ble_eq_true rfl) fun hok => ?_)
    repeat' (first | (first | (refine AWP.go env ?_; intro K fin; try simp +decide (maxSteps := 4000000) only [q0, c3, q4, q5, go_sem, Nat.reduceAdd, Nat.reduceMul]) | refine Kt.h _ _ ?_ | refine Ft.k (by decide +kernel) ?_ | ((first | refine ⟨_, graphC (g := r.right.graph), ?_⟩ | refine ⟨_, typedRC (g := r.right.graph), ?_⟩ | refine ⟨_, hsc, ?_⟩); simp +decide (maxSteps := 4000000) only [q0, c3, q4, q5, go_sem, Nat.reduceAdd, Nat.reduceMul])) | apply cond2_intro | with_reducible apply And.intro | intro h)
  have q5 : ((0 : Int) < (r.right.tests.length : Int)) = False := eq_false (by omega)
  by_cases c6 : r.right.slots.length > 10
  case pos =>
    have q6 : ((10 : Int) < (r.right.slots.length : Int)) = True := eq_true (by omega)
    have hF : rightF t r = 3 := by unfold rightF; rw [if_neg (by simp [c2]), if_neg (by simp [c3]), if_neg (show ¬ (r.right.vars ≠ r.left.vars ∨ r.right.tests.length > 0) by omega), if_pos c6]
    rw [hF]
    refine ConC.con (ent _ Tryz.func49 rfl rfl) (con_of_body env Tryz.func49 rfl (nt := 58) (rs := [.tmp 4]) rfl rfl (Nat.le_of_ble_eq_true rfl) fun hok => ?_)
    repeat' (first | (first | (refine AWP.go env ?_; intro K fin; try simp +decide (maxSteps := 4000000) only [q0, c3, q4, q5, q6, go_sem, Nat.reduceAdd, Nat.reduceMul]) | refine Kt.h _ _ ?_ | refine Ft.k (by decide +kernel) ?_ | ((first | refine ⟨_, graphC (g := r.right.graph), ?_⟩ | refine ⟨_, typedRC (g := r.right.graph), ?_⟩ | refine ⟨_, hsc, ?_⟩); simp +decide (maxSteps := 4000000) only [q0, c3, q4, q5, q6, go_sem, Nat.reduceAdd, Nat.reduceMul])) | apply cond2_intro | with_reducible apply And.intro | intro h)
  have q6 : ((10 : Int) < (r.right.slots.length : Int)) = False := eq_false (by omega)
  have hF : rightF t r = slotsGo t r.right [] r.right.slots := by unfold rightF; rw [if_neg (by simp [c2]), if_neg (by simp [c3]), if_neg (show ¬ (r.right.vars ≠ r.left.vars ∨ r.right.tests.length > 0) by omega), if_neg c6]
  have hgn := typedB_ok c2 c3
  refine ConC.con (ent _ Tryz.func49 rfl rfl) (con_of_body env Tryz.func49 rfl (nt := 58) (rs := [.tmp 4]) rfl rfl (Nat.le_of_ble_eq_true rfl) fun hok => ?_)
  repeat' (first | (first | (refine AWP.go env ?_; intro K fin; try simp +decide (maxSteps := 4000000) only [q0, c3, q4, q5, q6, go_sem, Nat.reduceAdd, Nat.reduceMul]) | refine Kt.h _ _ ?_ | refine Ft.k (by decide +kernel) ?_ | ((first | refine ⟨_, graphC (g := r.right.graph), ?_⟩ | refine ⟨_, typedRC (g := r.right.graph), ?_⟩ | refine ⟨_, hsc, ?_⟩); simp +decide (maxSteps := 4000000) only [q0, c3, q4, q5, q6, go_sem, Nat.reduceAdd, Nat.reduceMul])) | apply cond2_intro | with_reducible apply And.intro | intro h)
  refine AWP.lp (α := Way r.right.slots fun a b => slotsGo t r.right a b = rightF t r)
    (fun w => ⟨58, [(2, .ptr 200 0 0 0), (3, .ptr 300 0 0 0), (46, .int .i64 r.right.slots.length), (47, .int .i64 w.pre.length)],
      [(200, ⟨0, true, true, 2, 25, [cTypes t]⟩), (300, ⟨0, true, true, 25, 41, [cRule r]⟩)]⟩) (fun w => w.post.length) ⟨[], r.right.slots, rfl, hF.symm⟩ (by simp +decide (maxSteps := 4000000) only [go_sem, Nat.reduceAdd, Nat.reduceMul]; try simp) fun w K => ?_
  obtain ⟨a, b, hab, hinv⟩ := w
  cases b with
  | nil =>
    have hab : r.right.slots = a := by simpa using hab
    have hn2 : ((a.length : Int) < (r.right.slots.length : Int)) = False := by simp [hab]
    repeat' (first | (first | (refine AWP.go env ?_; intro K fin; try simp +decide (maxSteps := 4000000) only [hn2, go_sem, Nat.reduceAdd, Nat.reduceMul]) | refine Kt.h _ _ ?_ | refine Ft.k (by decide +kernel) ?_ | ((first | refine ⟨_, graphC (g := r.right.graph), ?_⟩ | refine ⟨_, typedRC (g := r.right.graph), ?_⟩ | refine ⟨_, hsc, ?_⟩); simp +decide (maxSteps := 4000000) only [hn2, go_sem, Nat.reduceAdd, Nat.reduceMul])) | apply cond2_intro | with_reducible apply And.intro | intro h)
    exact hinv
  | cons s b =>
    have hal : a.length < r.right.slots.length := by rw [hab]; simp
    have hn2 : ((a.length : Int) < (r.right.slots.length : Int)) = True := by simp [hal]
    have v3 := wk_i' (t := a.length) (by omega)
    have hsc := slotRC hab h0 hgn
    repeat' (first | (first | (refine AWP.go env ?_; intro K fin; try simp +decide (maxSteps := 4000000) only [hn2, v3, go_sem, Nat.reduceAdd, Nat.reduceMul]) | refine Kt.h _ _ ?_ | refine Ft.k (by decide +kernel) ?_ | ((first | refine ⟨_, graphC (g := r.right.graph), ?_⟩ | refine ⟨_, typedRC (g := r.right.graph), ?_⟩ | refine ⟨_, hsc, ?_⟩); simp +decide (maxSteps := 4000000) only [hn2, v3, go_sem, Nat.reduceAdd, Nat.reduceMul])) | apply cond2_intro | with_reducible apply And.intro | intro h)
    · rw [← hinv, slotsGo, if_pos (by simpa using h)]
    · refine ⟨⟨a ++ [s], b, by simp [hab], ?_⟩, by simp, by simp +decide (maxSteps := 4000000) only [go_sem, Nat.reduceAdd, Nat.reduceMul]; simp⟩
      rw [← hinv, slotsGo, if_neg (by simpa using h)]

theorem rRightSC {t : Types} (hfew : ∀ n ∈ t.nodes, n.attrs.length ≤ 30) {r : Rul} (h0 : (typesF t).2 = 0) : Con Tryz.prog 57 [dTypes t, dRule r] (.int .i64 (rightF t r)) := by
  by_cases c2 : graphF r.right.graph = 0
  case neg =>
    have q : (graphF r.right.graph != 0) = true := by simpa using c2
    have hF : rightF t r = graphF r.right.graph := by unfold rightF; rw [if_pos c2]
    rw [hF]
    refine ConC.con (ent _ Tryz.func57 rfl rfl) (con_of_body env Tryz.func57 rfl (nt := 56) (rs := [.tmp 4]) rfl rfl (Nat.le_of_ble_eq_true rfl) fun hok => ?_)
    repeat' (first | (first | (refine AWP.go env ?_; intro K fin; try simp +decide (maxSteps := 4000000) only [q, go_sem, Nat.reduceAdd, Nat.reduceMul]) | refine Kt.h _ _ ?_ | refine Ft.k (by decide +kernel) ?_ | ((first | refine ⟨_, graphC (g := r.right.graph), ?_⟩ | refine ⟨_, typedRC (g := r.right.graph), ?_⟩ | refine ⟨_, hsc, ?_⟩ | refine ⟨_, rGraphC (g := r.right.graph), ?_⟩ | refine ⟨_, hty, ?_⟩ | refine ⟨_, hsc, ?_⟩); simp +decide (maxSteps := 4000000) only [q, go_sem, Nat.reduceAdd, Nat.reduceMul])) | apply cond2_intro | with_reducible apply And.intro | intro h)
  have q0 : (graphF r.right.graph != 0) = false := by simpa using c2
  have hty := rTypedC (t := t) c2
  by_cases c3 : typedB t r.right.graph = true
  case neg =>
    have c3 : typedB t r.right.graph = false := by simpa using c3
    have hF : rightF t r = 13 := by unfold rightF; rw [if_neg (by simp [c2]), if_pos c3]
    rw [hF]
    refine ConC.con (ent _ Tryz.func57 rfl rfl) (con_of_body env Tryz.func57 rfl (nt := 56) (rs := [.tmp 4]) rfl rfl (Nat.le_of_ble_eq_true rfl) fun hok => ?_)
    repeat' (first | (first | (refine AWP.go env ?_; intro K fin; try simp +decide (maxSteps := 4000000) only [q0, c3, go_sem, Nat.reduceAdd, Nat.reduceMul]) | refine Kt.h _ _ ?_ | refine Ft.k (by decide +kernel) ?_ | ((first | refine ⟨_, graphC (g := r.right.graph), ?_⟩ | refine ⟨_, typedRC (g := r.right.graph), ?_⟩ | refine ⟨_, hsc, ?_⟩ | refine ⟨_, rGraphC (g := r.right.graph), ?_⟩ | refine ⟨_, hty, ?_⟩ | refine ⟨_, hsc, ?_⟩); simp +decide (maxSteps := 4000000) only [q0, c3, go_sem, Nat.reduceAdd, Nat.reduceMul])) | apply cond2_intro | with_reducible apply And.intro | intro h)
  by_cases c4 : r.right.vars = r.left.vars
  case neg =>
    have q4 : (r.right.vars != r.left.vars) = true := by simpa using c4
    have hF : rightF t r = 1 := by unfold rightF; rw [if_neg (by simp [c2]), if_neg (by simp [c3]), if_pos (.inl c4)]
    rw [hF]
    refine ConC.con (ent _ Tryz.func57 rfl rfl) (con_of_body env Tryz.func57 rfl (nt := 56) (rs := [.tmp 4]) rfl rfl (Nat.le_of_ble_eq_true rfl) fun hok => ?_)
    repeat' (first | (first | (refine AWP.go env ?_; intro K fin; try simp +decide (maxSteps := 4000000) only [q0, c3, q4, go_sem, Nat.reduceAdd, Nat.reduceMul]) | refine Kt.h _ _ ?_ | refine Ft.k (by decide +kernel) ?_ | ((first | refine ⟨_, graphC (g := r.right.graph), ?_⟩ | refine ⟨_, typedRC (g := r.right.graph), ?_⟩ | refine ⟨_, hsc, ?_⟩ | refine ⟨_, rGraphC (g := r.right.graph), ?_⟩ | refine ⟨_, hty, ?_⟩ | refine ⟨_, hsc, ?_⟩); simp +decide (maxSteps := 4000000) only [q0, c3, q4, go_sem, Nat.reduceAdd, Nat.reduceMul])) | apply cond2_intro | with_reducible apply And.intro | intro h)
  have q4 : (r.right.vars != r.left.vars) = false := by simpa using c4
  by_cases c5 : r.right.tests.length > 0
  case pos =>
    have q5 : ((0 : Int) < (r.right.tests.length : Int)) = True := eq_true (by omega)
    have hF : rightF t r = 1 := by unfold rightF; rw [if_neg (by simp [c2]), if_neg (by simp [c3]), if_pos (.inr c5)]
    rw [hF]
    refine ConC.con (ent _ Tryz.func57 rfl rfl) (con_of_body env Tryz.func57 rfl (nt := 56) (rs := [.tmp 4]) rfl rfl (Nat.le_of_ble_eq_true rfl) fun hok => ?_)
    repeat' (first | (first | (refine AWP.go env ?_; intro K fin; try simp +decide (maxSteps := 4000000) only [q0, c3, q4, q5, go_sem, Nat.reduceAdd, Nat.reduceMul]) | refine Kt.h _ _ ?_ | refine Ft.k (by decide +kernel) ?_ | ((first | refine ⟨_, graphC (g := r.right.graph), ?_⟩ | refine ⟨_, typedRC (g := r.right.graph), ?_⟩ | refine ⟨_, hsc, ?_⟩ | refine ⟨_, rGraphC (g := r.right.graph), ?_⟩ | refine ⟨_, hty, ?_⟩ | refine ⟨_, hsc, ?_⟩); simp +decide (maxSteps := 4000000) only [q0, c3, q4, q5, go_sem, Nat.reduceAdd, Nat.reduceMul])) | apply cond2_intro | with_reducible apply And.intro | intro h)
  have q5 : ((0 : Int) < (r.right.tests.length : Int)) = False := eq_false (by omega)
  by_cases c6 : r.right.slots.length > 10
  case pos =>
    have q6 : ((10 : Int) < (r.right.slots.length : Int)) = True := eq_true (by omega)
    have hF : rightF t r = 3 := by unfold rightF; rw [if_neg (by simp [c2]), if_neg (by simp [c3]), if_neg (show ¬ (r.right.vars ≠ r.left.vars ∨ r.right.tests.length > 0) by omega), if_pos c6]
    rw [hF]
    refine ConC.con (ent _ Tryz.func57 rfl rfl) (con_of_body env Tryz.func57 rfl (nt := 56) (rs := [.tmp 4]) rfl rfl (Nat.le_of_ble_eq_true rfl) fun hok => ?_)
    repeat' (first | (first | (refine AWP.go env ?_; intro K fin; try simp +decide (maxSteps := 4000000) only [q0, c3, q4, q5, q6, go_sem, Nat.reduceAdd, Nat.reduceMul]) | refine Kt.h _ _ ?_ | refine Ft.k (by decide +kernel) ?_ | ((first | refine ⟨_, graphC (g := r.right.graph), ?_⟩ | refine ⟨_, typedRC (g := r.right.graph), ?_⟩ | refine ⟨_, hsc, ?_⟩ | refine ⟨_, rGraphC (g := r.right.graph), ?_⟩ | refine ⟨_, hty, ?_⟩ | refine ⟨_, hsc, ?_⟩); simp +decide (maxSteps := 4000000) only [q0, c3, q4, q5, q6, go_sem, Nat.reduceAdd, Nat.reduceMul])) | apply cond2_intro | with_reducible apply And.intro | intro h)
  have q6 : ((10 : Int) < (r.right.slots.length : Int)) = False := eq_false (by omega)
  have hF : rightF t r = slotsGo t r.right [] r.right.slots := by unfold rightF; rw [if_neg (by simp [c2]), if_neg (by simp [c3]), if_neg (show ¬ (r.right.vars ≠ r.left.vars ∨ r.right.tests.length > 0) by omega), if_neg c6]
  have hgn := typedB_ok c2 c3
  refine ConC.con (ent _ Tryz.func57 rfl rfl) (con_of_body env Tryz.func57 rfl (nt := 56) (rs := [.tmp 4]) rfl rfl (Nat.le_of_ble_eq_true rfl) fun hok => ?_)
  repeat' (first | (first | (refine AWP.go env ?_; intro K fin; try simp +decide (maxSteps := 4000000) only [q0, c3, q4, q5, q6, go_sem, Nat.reduceAdd, Nat.reduceMul]) | refine Kt.h _ _ ?_ | refine Ft.k (by decide +kernel) ?_ | ((first | refine ⟨_, graphC (g := r.right.graph), ?_⟩ | refine ⟨_, typedRC (g := r.right.graph), ?_⟩ | refine ⟨_, hsc, ?_⟩ | refine ⟨_, rGraphC (g := r.right.graph), ?_⟩ | refine ⟨_, hty, ?_⟩ | refine ⟨_, hsc, ?_⟩); simp +decide (maxSteps := 4000000) only [q0, c3, q4, q5, q6, go_sem, Nat.reduceAdd, Nat.reduceMul])) | apply cond2_intro | with_reducible apply And.intro | intro h)
  refine AWP.lp (α := Way r.right.slots fun a b => slotsGo t r.right a b = rightF t r)
    (fun w => ⟨56, [(2, .ptr 200 0 0 0), (3, .ptr 300 0 0 0), (6, .int .i64 w.pre.length)],
      [(200, ⟨0, true, true, 2, 25, [cTypes t]⟩), (300, ⟨0, true, true, 25, 41, [cRule r]⟩)]⟩) (fun w => w.post.length) ⟨[], r.right.slots, rfl, hF.symm⟩ (by simp +decide (maxSteps := 4000000) only [go_sem, Nat.reduceAdd, Nat.reduceMul]; try simp) fun w K => ?_
  obtain ⟨a, b, hab, hinv⟩ := w
  cases b with
  | nil =>
    have hab : r.right.slots = a := by simpa using hab
    have hn2 : ((a.length : Int) < (r.right.slots.length : Int)) = False := by simp [hab]
    repeat' (first | (first | (refine AWP.go env ?_; intro K fin; try simp +decide (maxSteps := 4000000) only [hn2, go_sem, Nat.reduceAdd, Nat.reduceMul]) | refine Kt.h _ _ ?_ | refine Ft.k (by decide +kernel) ?_ | ((first | refine ⟨_, graphC (g := r.right.graph), ?_⟩ | refine ⟨_, typedRC (g := r.right.graph), ?_⟩ | refine ⟨_, hsc, ?_⟩ | refine ⟨_, rGraphC (g := r.right.graph), ?_⟩ | refine ⟨_, hty, ?_⟩ | refine ⟨_, hsc, ?_⟩); simp +decide (maxSteps := 4000000) only [hn2, go_sem, Nat.reduceAdd, Nat.reduceMul])) | apply cond2_intro | with_reducible apply And.intro | intro h)
    exact hinv
  | cons s b =>
    have hal : a.length < r.right.slots.length := by rw [hab]; simp
    have hn2 : ((a.length : Int) < (r.right.slots.length : Int)) = True := by simp [hal]
    have v3 := wk_i' (t := a.length) (by omega)
    have hsc := rSlotRC hfew hab (by omega) h0 hgn
    repeat' (first | (first | (refine AWP.go env ?_; intro K fin; try simp +decide (maxSteps := 4000000) only [hn2, v3, go_sem, Nat.reduceAdd, Nat.reduceMul]) | refine Kt.h _ _ ?_ | refine Ft.k (by decide +kernel) ?_ | ((first | refine ⟨_, graphC (g := r.right.graph), ?_⟩ | refine ⟨_, typedRC (g := r.right.graph), ?_⟩ | refine ⟨_, hsc, ?_⟩ | refine ⟨_, rGraphC (g := r.right.graph), ?_⟩ | refine ⟨_, hty, ?_⟩ | refine ⟨_, hsc, ?_⟩); simp +decide (maxSteps := 4000000) only [hn2, v3, go_sem, Nat.reduceAdd, Nat.reduceMul])) | apply cond2_intro | with_reducible apply And.intro | intro h)
    · rw [← hinv, slotsGo, if_pos (by simpa using h)]
    · refine ⟨⟨a ++ [s], b, by simp [hab], ?_⟩, by simp, by simp +decide (maxSteps := 4000000) only [go_sem, Nat.reduceAdd, Nat.reduceMul]; simp⟩
      rw [← hinv, slotsGo, if_neg (by simpa using h)]
end Go.Abs
/- What a rule creates and deletes. -/
set_option linter.unusedSimpArgs false
set_option linter.unusedVariables false
set_option maxRecDepth 20000
set_option maxHeartbeats 4000000
namespace Go.Abs
open Go Go.RowKit Go.Proofs
attribute [local irreducible] Con AWP

/-- The numbers below n that a list does not have, as far as k. -/
def othersF (l : List Int) (n : Nat) : List Int := ((List.range n).filter fun i : Nat => !hasF l (i : Int)).map fun i : Nat => (i : Int)

theorem othersF_succ {l : List Int} {k : Nat} : othersF l (k + 1) = othersF l k ++ if hasF l k = true then [] else [(k : Int)] := by
  unfold othersF
  rw [List.range_succ, List.filter_append, List.map_append]
  by_cases h : hasF l k = true
  · simp [h]
  · simp [h]

theorem othersF_len {l : List Int} {n : Nat} : (othersF l n).length ≤ n := by
  unfold othersF; rw [List.length_map]
  exact Nat.le_trans (List.length_filter_le _ _) (by simp)

theorem othersF_range {l : List Int} {n : Nat} : ∀ x ∈ othersF l n, 0 ≤ x ∧ x < n := by
  unfold othersF; intro x hx
  simp only [List.mem_map, List.mem_filter, List.mem_range] at hx
  obtain ⟨k, ⟨h1, _⟩, rfl⟩ := hx; omega

theorem hasF_contains {l : List Int} {x : Int} : (l.any fun y => x == y) = hasF l x := by
  unfold hasF; congr 1; funext y; exact BEq.comm

theorem othersC {l : List Int} {n : Nat} (hn : n ≤ 1000000) : Con Tryz.prog 119 [dInts l, .int .i64 n] (.nsl 3 1 ((othersF l n).map rI)) := by
  refine ConC.con (ent _ Tryz.func119 rfl rfl) (con_of_body env Tryz.func119 rfl (nt := 21) (rs := [.tmp 4]) rfl rfl (Nat.le_of_ble_eq_true rfl) fun hok => ?_)
  repeat' (first | (first | (refine AWP.go env ?_; intro K fin; try simp +decide (maxSteps := 4000000) only [go_sem, Nat.reduceAdd, Nat.reduceMul]) | refine Kt.h _ _ ?_ | refine Ft.k (by decide +kernel) ?_ | (refine ⟨_, containsIntC, ?_⟩; simp +decide (maxSteps := 4000000) only [go_sem, Nat.reduceAdd, Nat.reduceMul])) | apply cond2_intro | with_reducible apply And.intro | intro h)
  refine AWP.weaken (Wk.nilOwn (n := 5) (id := 577) 3 1 (by simp +decide (maxSteps := 4000000) only [go_sem, Nat.reduceAdd, Nat.reduceMul]) (by simp +decide (maxSteps := 4000000) only [go_sem, Nat.reduceAdd, Nat.reduceMul])) ?_
  simp +decide (maxSteps := 4000000) only [go_sem, Nat.reduceAdd, Nat.reduceMul]
  refine AWP.lp (α := Nat × {k : Nat // k ≤ n})
    (fun w => ⟨21, [(0, dInts l), (1, .int .i64 n), (5, .osl 577 w.1), (7, .int .i64 n), (8, .int .i64 w.2.1)],
      [(577, ⟨w.1, true, false, 1, 3, (othersF l w.2.1).map rI⟩)]⟩) (fun w => n - w.2.1) ⟨0, 0, by omega⟩ (by simp +decide (maxSteps := 4000000) only [go_sem, Nat.reduceAdd, Nat.reduceMul]; try simp [othersF]) fun w K => ?_
  obtain ⟨ver, k, hk⟩ := w
  have hlen := @othersF_len l k
  by_cases hkn : k = n
  · have hn2 : ((k : Int) < (n : Int)) = False := by simp [hkn]
    repeat' (first | (first | (refine AWP.go env ?_; intro K fin; try simp +decide (maxSteps := 4000000) only [hn2, go_sem, Nat.reduceAdd, Nat.reduceMul]) | refine Kt.h _ _ ?_ | refine Ft.k (by decide +kernel) ?_ | (refine ⟨_, containsIntC, ?_⟩; simp +decide (maxSteps := 4000000) only [hn2, go_sem, Nat.reduceAdd, Nat.reduceMul])) | apply cond2_intro | with_reducible apply And.intro | intro h)
    rw [hkn]
  · have hn2 : ((k : Int) < (n : Int)) = True := by simp; omega
    have v3 := wk_i' (t := k) (by omega)
    by_cases hh : hasF l k = true
    · repeat' (first | (first | (refine AWP.go env ?_; intro K fin; try simp +decide (maxSteps := 4000000) only [hn2, v3, hasF_contains, hh, go_sem, Nat.reduceAdd, Nat.reduceMul]) | refine Kt.h _ _ ?_ | refine Ft.k (by decide +kernel) ?_ | (refine ⟨_, containsIntC, ?_⟩; simp +decide (maxSteps := 4000000) only [hn2, v3, hasF_contains, hh, go_sem, Nat.reduceAdd, Nat.reduceMul])) | apply cond2_intro | with_reducible apply And.intro | intro h)
      refine ⟨⟨ver, k + 1, by omega⟩, by simp; omega, by simp +decide (maxSteps := 4000000) only [go_sem, Nat.reduceAdd, Nat.reduceMul]; simp [othersF_succ, hh]⟩
    · have hh : hasF l k = false := by simpa using hh
      repeat' (first | (first | (refine AWP.go env ?_; intro K fin; try simp +decide (maxSteps := 4000000) only [hn2, v3, hasF_contains, hh, go_sem, Nat.reduceAdd, Nat.reduceMul]) | refine Kt.h _ _ ?_ | refine Ft.k (by decide +kernel) ?_ | (refine ⟨_, containsIntC, ?_⟩; simp +decide (maxSteps := 4000000) only [hn2, v3, hasF_contains, hh, go_sem, Nat.reduceAdd, Nat.reduceMul])) | apply cond2_intro | with_reducible apply And.intro | intro h)
      all_goals try (first | omega | (unfold lim; omega))
      refine ⟨⟨ver + 1, k + 1, by omega⟩, by simp; omega, by simp +decide (maxSteps := 4000000) only [go_sem, Nat.reduceAdd, Nat.reduceMul]; simp [othersF_succ, hh, rI]⟩

theorem rHas24C {l : List Int} {x : Int} : Con Tryz.prog 144 [dInts l, .int .i64 x] (.bool (hasF l x)) := by
  refine ConC.con (ent _ Tryz.func144 rfl rfl) (con_of_body env Tryz.func144 rfl (nt := 18) (rs := [.tmp 4]) rfl rfl (Nat.le_of_ble_eq_true rfl) fun hok => ?_)
  have hlen : l.length ≤ 140737488355328 := by simpa using (hok _ (List.mem_cons_self ..)).len
  repeat' (first | (first | (refine AWP.go env ?_; intro K fin; try simp +decide (maxSteps := 4000000) only [go_sem, Nat.reduceAdd, Nat.reduceMul]) | refine Kt.h _ _ ?_ | refine Ft.k (by decide +kernel) ?_ | (refine ⟨_, containsIntC, ?_⟩; simp +decide (maxSteps := 4000000) only [go_sem, Nat.reduceAdd, Nat.reduceMul])) | apply cond2_intro | with_reducible apply And.intro | intro h)
  refine AWP.lp (α := Way l fun a _ => hasF a x = false)
    (fun w => ⟨18, [(0, dInts l), (1, .int .i64 x), (5, .int .i64 w.pre.length)], []⟩) (fun w => w.post.length) ⟨[], l, rfl, rfl⟩ (by simp +decide (maxSteps := 4000000) only [go_sem, Nat.reduceAdd, Nat.reduceMul]; try simp) fun w K => ?_
  obtain ⟨a, b, hab, hinv⟩ := w
  cases b with
  | nil =>
    have hab : l = a := by simpa using hab
    have hn2 : ((a.length : Int) < (l.length : Int)) = False := by simp [hab]
    repeat' (first | (first | (refine AWP.go env ?_; intro K fin; try simp +decide (maxSteps := 4000000) only [hn2, go_sem, Nat.reduceAdd, Nat.reduceMul]) | refine Kt.h _ _ ?_ | refine Ft.k (by decide +kernel) ?_ | (refine ⟨_, containsIntC, ?_⟩; simp +decide (maxSteps := 4000000) only [hn2, go_sem, Nat.reduceAdd, Nat.reduceMul])) | apply cond2_intro | with_reducible apply And.intro | intro h)
    rw [hab, hinv]
  | cons y b =>
    have hal : a.length < l.length := by rw [hab]; simp
    have hn2 : ((a.length : Int) < (l.length : Int)) = True := by simp [hal]
    have hget : getR (l.map rI) a.length = [.int .i64 y] := by rw [hab]; simp [getR, rI]
    have v3 : IntKind.i64.wrap ((a.length : Int) + 1) = ((a.length + 1 : Nat) : Int) := by rw [wrap64 (by omega) (by omega)]; try rfl
    repeat' (first | (first | (refine AWP.go env ?_; intro K fin; try simp +decide (maxSteps := 4000000) only [hn2, hget, v3, go_sem, Nat.reduceAdd, Nat.reduceMul]) | refine Kt.h _ _ ?_ | refine Ft.k (by decide +kernel) ?_ | (refine ⟨_, containsIntC, ?_⟩; simp +decide (maxSteps := 4000000) only [hn2, hget, v3, go_sem, Nat.reduceAdd, Nat.reduceMul])) | apply cond2_intro | with_reducible apply And.intro | intro h)
    all_goals try omega
    · unfold hasF; rw [hab, List.any_append, List.any_cons, h]; simp
    · refine ⟨⟨a ++ [y], b, by simp [hab], ?_⟩, by simp, by simp +decide (maxSteps := 4000000) only [go_sem, Nat.reduceAdd, Nat.reduceMul]; simp⟩
      unfold hasF at hinv ⊢
      rw [List.any_append, hinv, List.any_cons, h]; try rfl

theorem restC {l : List Int} {n : Nat} (hn : n ≤ 1000000) : Con Tryz.prog 70 [.int .i64 n, dInts l] (.nsl 3 1 ((othersF l n).map rI)) := by
  refine ConC.con (ent _ Tryz.func70 rfl rfl) (con_of_body env Tryz.func70 rfl (nt := 21) (rs := [.tmp 4]) rfl rfl (Nat.le_of_ble_eq_true rfl) fun hok => ?_)
  repeat' (first | (first | (refine AWP.go env ?_; intro K fin; try simp +decide (maxSteps := 4000000) only [go_sem, Nat.reduceAdd, Nat.reduceMul]) | refine Kt.h _ _ ?_ | refine Ft.k (by decide +kernel) ?_ | ((first | refine ⟨_, containsIntC, ?_⟩ | refine ⟨_, rHas24C, ?_⟩); simp +decide (maxSteps := 4000000) only [go_sem, Nat.reduceAdd, Nat.reduceMul])) | apply cond2_intro | with_reducible apply And.intro | intro h)
  refine AWP.weaken (Wk.nilOwn (n := 5) (id := 577) 3 1 (by simp +decide (maxSteps := 4000000) only [go_sem, Nat.reduceAdd, Nat.reduceMul]) (by simp +decide (maxSteps := 4000000) only [go_sem, Nat.reduceAdd, Nat.reduceMul])) ?_
  simp +decide (maxSteps := 4000000) only [go_sem, Nat.reduceAdd, Nat.reduceMul]
  refine AWP.lp (α := Nat × {k : Nat // k ≤ n})
    (fun w => ⟨21, [(0, .int .i64 n), (1, dInts l), (5, .osl 577 w.1), (6, .int .i64 w.2.1)],
      [(577, ⟨w.1, true, false, 1, 3, (othersF l w.2.1).map rI⟩)]⟩) (fun w => n - w.2.1) ⟨0, 0, by omega⟩ (by simp +decide (maxSteps := 4000000) only [go_sem, Nat.reduceAdd, Nat.reduceMul]; try simp [othersF]) fun w K => ?_
  obtain ⟨ver, k, hk⟩ := w
  have hlen := @othersF_len l k
  by_cases hkn : k = n
  · have hn2 : ((k : Int) < (n : Int)) = False := by simp [hkn]
    repeat' (first | (first | (refine AWP.go env ?_; intro K fin; try simp +decide (maxSteps := 4000000) only [hn2, go_sem, Nat.reduceAdd, Nat.reduceMul]) | refine Kt.h _ _ ?_ | refine Ft.k (by decide +kernel) ?_ | ((first | refine ⟨_, containsIntC, ?_⟩ | refine ⟨_, rHas24C, ?_⟩); simp +decide (maxSteps := 4000000) only [hn2, go_sem, Nat.reduceAdd, Nat.reduceMul])) | apply cond2_intro | with_reducible apply And.intro | intro h)
    rw [hkn]
  · have hn2 : ((k : Int) < (n : Int)) = True := by simp; omega
    have v3 := wk_i' (t := k) (by omega)
    by_cases hh : hasF l k = true
    · repeat' (first | (first | (refine AWP.go env ?_; intro K fin; try simp +decide (maxSteps := 4000000) only [hn2, v3, hh, go_sem, Nat.reduceAdd, Nat.reduceMul]) | refine Kt.h _ _ ?_ | refine Ft.k (by decide +kernel) ?_ | ((first | refine ⟨_, containsIntC, ?_⟩ | refine ⟨_, rHas24C, ?_⟩); simp +decide (maxSteps := 4000000) only [hn2, v3, hh, go_sem, Nat.reduceAdd, Nat.reduceMul])) | apply cond2_intro | with_reducible apply And.intro | intro h)
      refine ⟨⟨ver, k + 1, by omega⟩, by simp; omega, by simp +decide (maxSteps := 4000000) only [go_sem, Nat.reduceAdd, Nat.reduceMul]; simp [othersF_succ, hh]⟩
    · have hh : hasF l k = false := by simpa using hh
      repeat' (first | (first | (refine AWP.go env ?_; intro K fin; try simp +decide (maxSteps := 4000000) only [hn2, v3, hh, go_sem, Nat.reduceAdd, Nat.reduceMul]) | refine Kt.h _ _ ?_ | refine Ft.k (by decide +kernel) ?_ | ((first | refine ⟨_, containsIntC, ?_⟩ | refine ⟨_, rHas24C, ?_⟩); simp +decide (maxSteps := 4000000) only [hn2, v3, hh, go_sem, Nat.reduceAdd, Nat.reduceMul])) | apply cond2_intro | with_reducible apply And.intro | intro h)
      all_goals try (first | omega | (unfold lim; omega))
      refine ⟨⟨ver + 1, k + 1, by omega⟩, by simp; omega, by simp +decide (maxSteps := 4000000) only [go_sem, Nat.reduceAdd, Nat.reduceMul]; simp [othersF_succ, hh, rI]⟩
end Go.Abs
/- What can be created; Keep and Into. -/
set_option linter.unusedSimpArgs false
set_option linter.unusedVariables false
set_option maxRecDepth 20000
set_option maxHeartbeats 4000000
namespace Go.Abs
open Go Go.RowKit Go.Proofs
attribute [local irreducible] Con AWP

abbrev cGraph (g : Graph) : List D := [dInts g.nodes, .fsl 3 (g.edges.map rEdge)]
def createdF (r : Rul) : Two := ⟨othersF r.into.nodes r.right.graph.nodes.length, othersF r.into.edges r.right.graph.edges.length⟩
def deletedF (r : Rul) : Two := ⟨othersF r.keep.nodes r.left.graph.nodes.length, othersF r.keep.edges r.left.graph.edges.length⟩

theorem createdC {r : Rul} (hn : r.right.graph.nodes.length ≤ 1000000) (he : r.right.graph.edges.length ≤ 1000000) : Con Tryz.prog 51 [dRule r] (.tup [.nsl 3 1 ((createdF r).nodes.map rI), .nsl 3 1 ((createdF r).edges.map rI)]) := by
  have h1 := othersC (l := r.into.nodes) hn
  have h2 := othersC (l := r.into.edges) he
  refine ConC.con (ent _ Tryz.func51 rfl rfl) (con_of_body env Tryz.func51 rfl (nt := 22) (rs := [.tmp 2, .tmp 3]) rfl rfl (Nat.le_of_ble_eq_true rfl) fun hok => ?_)
  repeat' (first | (first | (refine AWP.go env ?_; intro K fin; try simp +decide (maxSteps := 4000000) only [go_sem, Nat.reduceAdd, Nat.reduceMul]) | refine Kt.h _ _ ?_ | refine Ft.k (by decide +kernel) ?_ | ((first | refine ⟨_, h1, ?_⟩ | refine ⟨_, h2, ?_⟩); simp +decide (maxSteps := 4000000) only [go_sem, Nat.reduceAdd, Nat.reduceMul])) | apply cond2_intro | with_reducible apply And.intro | intro h)
  simp [createdF]

theorem deletedC {r : Rul} (hn : r.left.graph.nodes.length ≤ 1000000) (he : r.left.graph.edges.length ≤ 1000000) : Con Tryz.prog 64 [dRule r] (.tup [.nsl 3 1 ((deletedF r).nodes.map rI), .nsl 3 1 ((deletedF r).edges.map rI)]) := by
  have h1 := othersC (l := r.keep.nodes) hn
  have h2 := othersC (l := r.keep.edges) he
  refine ConC.con (ent _ Tryz.func64 rfl rfl) (con_of_body env Tryz.func64 rfl (nt := 22) (rs := [.tmp 2, .tmp 3]) rfl rfl (Nat.le_of_ble_eq_true rfl) fun hok => ?_)
  repeat' (first | (first | (refine AWP.go env ?_; intro K fin; try simp +decide (maxSteps := 4000000) only [go_sem, Nat.reduceAdd, Nat.reduceMul]) | refine Kt.h _ _ ?_ | refine Ft.k (by decide +kernel) ?_ | ((first | refine ⟨_, h1, ?_⟩ | refine ⟨_, h2, ?_⟩ | refine ⟨_, h1, ?_⟩ | refine ⟨_, h2, ?_⟩); simp +decide (maxSteps := 4000000) only [go_sem, Nat.reduceAdd, Nat.reduceMul])) | apply cond2_intro | with_reducible apply And.intro | intro h)
  simp [deletedF]

theorem rCreatedC {r : Rul} (hn : r.right.graph.nodes.length ≤ 1000000) (he : r.right.graph.edges.length ≤ 1000000) : Con Tryz.prog 60 [dRule r] (.tup [.nsl 3 1 ((createdF r).nodes.map rI), .nsl 3 1 ((createdF r).edges.map rI)]) := by
  have h1 := restC (l := r.into.nodes) hn
  have h2 := restC (l := r.into.edges) he
  refine ConC.con (ent _ Tryz.func60 rfl rfl) (con_of_body env Tryz.func60 rfl (nt := 22) (rs := [.tmp 2, .tmp 3]) rfl rfl (Nat.le_of_ble_eq_true rfl) fun hok => ?_)
  repeat' (first | (first | (refine AWP.go env ?_; intro K fin; try simp +decide (maxSteps := 4000000) only [go_sem, Nat.reduceAdd, Nat.reduceMul]) | refine Kt.h _ _ ?_ | refine Ft.k (by decide +kernel) ?_ | ((first | refine ⟨_, h1, ?_⟩ | refine ⟨_, h2, ?_⟩ | refine ⟨_, h1, ?_⟩ | refine ⟨_, h2, ?_⟩ | refine ⟨_, h1, ?_⟩ | refine ⟨_, h2, ?_⟩); simp +decide (maxSteps := 4000000) only [go_sem, Nat.reduceAdd, Nat.reduceMul])) | apply cond2_intro | with_reducible apply And.intro | intro h)
  simp [createdF]

theorem rDeletedC {r : Rul} (hn : r.left.graph.nodes.length ≤ 1000000) (he : r.left.graph.edges.length ≤ 1000000) : Con Tryz.prog 68 [dRule r] (.tup [.nsl 3 1 ((deletedF r).nodes.map rI), .nsl 3 1 ((deletedF r).edges.map rI)]) := by
  have h1 := restC (l := r.keep.nodes) hn
  have h2 := restC (l := r.keep.edges) he
  refine ConC.con (ent _ Tryz.func68 rfl rfl) (con_of_body env Tryz.func68 rfl (nt := 22) (rs := [.tmp 2, .tmp 3]) rfl rfl (Nat.le_of_ble_eq_true rfl) fun hok => ?_)
  repeat' (first | (first | (refine AWP.go env ?_; intro K fin; try simp +decide (maxSteps := 4000000) only [go_sem, Nat.reduceAdd, Nat.reduceMul]) | refine Kt.h _ _ ?_ | refine Ft.k (by decide +kernel) ?_ | ((first | refine ⟨_, h1, ?_⟩ | refine ⟨_, h2, ?_⟩ | refine ⟨_, h1, ?_⟩ | refine ⟨_, h2, ?_⟩ | refine ⟨_, h1, ?_⟩ | refine ⟨_, h2, ?_⟩ | refine ⟨_, h1, ?_⟩ | refine ⟨_, h2, ?_⟩); simp +decide (maxSteps := 4000000) only [go_sem, Nat.reduceAdd, Nat.reduceMul])) | apply cond2_intro | with_reducible apply And.intro | intro h)
  simp [deletedF]

def abstrAt (t : Types) (g : Graph) (i : Int) : Bool := (nodeAt t (nodeIn g i).toNat).abstr
def fitsAt (t : Types) (g : Graph) (i : Int) : Bool := fitsF t (edgeAt g i).typ (nodeIn g (edgeAt g i).src) (nodeIn g (edgeAt g i).tgt)
def makableF (t : Types) (g : Graph) (ns es : List Int) : Bool := !(ns.any (abstrAt t g)) && !(es.any fun i => !fitsAt t g i)

theorem edge_ends {g : Graph} (h0 : graphF g = 0) {i : Int} (hi0 : 0 ≤ i) (hi : i < g.edges.length) : (0 ≤ (edgeAt g i).src ∧ (edgeAt g i).src < g.nodes.length) ∧ 0 ≤ (edgeAt g i).tgt ∧ (edgeAt g i).tgt < g.nodes.length := by
  obtain ⟨_, _, _, g4⟩ := graphF_ok h0
  have hm : edgeAt g i ∈ g.edges := by
    unfold edgeAt
    have hk : i.toNat < g.edges.length := by omega
    rw [List.getD_eq_getElem?_getD, List.getElem?_eq_getElem hk]; exact List.getElem_mem hk
  have := g4 _ hm
  unfold edgeOk at this
  simp only [Bool.and_eq_true, decide_eq_true_eq] at this
  omega

theorem nodeIn_typed {t : Types} {g : Graph} (hgn : ∀ n ∈ g.nodes, 0 ≤ n ∧ n < t.nodes.length) {i : Int} (hi0 : 0 ≤ i) (hi : i < g.nodes.length) : 0 ≤ nodeIn g i ∧ nodeIn g i < t.nodes.length := by
  apply hgn
  unfold nodeIn
  have hk : i.toNat < g.nodes.length := by omega
  rw [List.getD_eq_getElem?_getD, List.getElem?_eq_getElem hk]; exact List.getElem_mem hk

theorem makable1C {t : Types} {g : Graph} (hgn : ∀ n ∈ g.nodes, 0 ≤ n ∧ n < t.nodes.length) {i : Int} (hi0 : 0 ≤ i) (hi : i < g.nodes.length) :
    Con Tryz.prog 120 [.int .i64 i, .fptr (cTypes t) 0, .fptr (cGraph g) 0] (.bool (abstrAt t g i)) := by
  have hg := ints_row hi0 hi
  have hn := nodeIn_typed hgn hi0 hi
  have hg : getR (g.nodes.map rI) i.toNat = [.int .i64 (nodeIn g i)] := hg
  have hr := nodeAt_row hn.1 hn.2
  refine ConC.con (ent _ Tryz.func120 rfl rfl) (con_of_body env Tryz.func120 rfl (nt := 15) (rs := [.tmp 4]) rfl rfl (Nat.le_of_ble_eq_true rfl) fun hok => ?_)
  repeat' (first | (first | (refine AWP.go env ?_; intro K fin; try simp +decide (maxSteps := 4000000) only [hg, hr, go_sem, Nat.reduceAdd, Nat.reduceMul]) | refine Kt.h _ _ ?_ | refine Ft.k (by decide +kernel) ?_ | ((first | refine ⟨_, h1, ?_⟩ | refine ⟨_, h2, ?_⟩ | refine ⟨_, h1, ?_⟩ | refine ⟨_, h2, ?_⟩ | refine ⟨_, h1, ?_⟩ | refine ⟨_, h2, ?_⟩ | refine ⟨_, h1, ?_⟩ | refine ⟨_, h2, ?_⟩); simp +decide (maxSteps := 4000000) only [hg, hr, go_sem, Nat.reduceAdd, Nat.reduceMul])) | apply cond2_intro | with_reducible apply And.intro | intro h)
  all_goals try omega
  all_goals rfl

theorem makable2C {t : Types} {g : Graph} (h0 : graphF g = 0) {i : Int} (hi0 : 0 ≤ i) (hi : i < g.edges.length) :
    Con Tryz.prog 121 [.int .i64 i, .fptr (cGraph g) 0, .fptr (cTypes t) 0] (.bool (!fitsAt t g i)) := by
  have hr := edgeAt_row hi0 hi
  have he := edge_ends h0 hi0 hi
  have hg1 : getR (g.nodes.map rI) (edgeAt g i).src.toNat = [.int .i64 (nodeIn g (edgeAt g i).src)] := ints_row he.1.1 he.1.2
  have hg2 : getR (g.nodes.map rI) (edgeAt g i).tgt.toNat = [.int .i64 (nodeIn g (edgeAt g i).tgt)] := ints_row he.2.1 he.2.2
  refine ConC.con (ent _ Tryz.func121 rfl rfl) (con_of_body env Tryz.func121 rfl (nt := 28) (rs := [.tmp 4]) rfl rfl (Nat.le_of_ble_eq_true rfl) fun hok => ?_)
  repeat' (first | (first | (refine AWP.go env ?_; intro K fin; try simp +decide (maxSteps := 4000000) only [hr, hg1, hg2, go_sem, Nat.reduceAdd, Nat.reduceMul]) | refine Kt.h _ _ ?_ | refine Ft.k (by decide +kernel) ?_ | ((first | refine ⟨_, h1, ?_⟩ | refine ⟨_, h2, ?_⟩ | refine ⟨_, h1, ?_⟩ | refine ⟨_, h2, ?_⟩ | refine ⟨_, h1, ?_⟩ | refine ⟨_, h2, ?_⟩ | refine ⟨_, h1, ?_⟩ | refine ⟨_, h2, ?_⟩ | refine ⟨_, fitsTC, ?_⟩); simp +decide (maxSteps := 4000000) only [hr, hg1, hg2, go_sem, Nat.reduceAdd, Nat.reduceMul])) | apply cond2_intro | with_reducible apply And.intro | intro h)
  all_goals try omega
  all_goals try (simp only [List.mem_cons, List.not_mem_nil, or_false] at h; (repeat' (first | (subst h; rfl) | rcases h with h | h)))
  all_goals rfl

theorem makableC {t : Types} {g : Graph} (h0 : graphF g = 0) (hgn : ∀ n ∈ g.nodes, 0 ≤ n ∧ n < t.nodes.length) {ns es : List Int} (hns : ∀ i ∈ ns, 0 ≤ i ∧ i < g.nodes.length) (hes : ∀ i ∈ es, 0 ≤ i ∧ i < g.edges.length) :
    Con Tryz.prog 52 [dTypes t, dGraph g, dInts ns, dInts es] (.bool (makableF t g ns es)) := by
  refine ConC.con (ent _ Tryz.func52 rfl rfl) (con_of_body env Tryz.func52 rfl (nt := 19) (rs := [.tmp 8]) rfl rfl (Nat.le_of_ble_eq_true rfl) fun hok => ?_)
  repeat' (first | (first | (refine AWP.go env ?_; intro K fin; try simp +decide (maxSteps := 4000000) only [go_sem, Nat.reduceAdd, Nat.reduceMul]) | refine Kt.h _ _ ?_ | refine Ft.k (by decide +kernel) ?_ | ((first | refine ⟨_, h1, ?_⟩ | refine ⟨_, h2, ?_⟩ | refine ⟨_, h1, ?_⟩ | refine ⟨_, h2, ?_⟩ | refine ⟨_, h1, ?_⟩ | refine ⟨_, h2, ?_⟩ | refine ⟨_, h1, ?_⟩ | refine ⟨_, h2, ?_⟩ | refine ⟨_, fitsTC, ?_⟩ | refine ⟨_, contFuncintC (caps := [.fptr (cTypes t) 0, .fptr (cGraph g) 0]) (p := abstrAt t g) (xs := ns) (fun _ => rfl) (fun _ => rfl) (fun _ => rfl) (fun x hx => makable1C hgn (hns x hx).1 (hns x hx).2), ?_⟩ | refine ⟨_, contFuncintC (caps := [.fptr (cGraph g) 0, .fptr (cTypes t) 0]) (p := fun i => !fitsAt t g i) (xs := es) (fun _ => rfl) (fun _ => rfl) (fun _ => rfl) (fun x hx => makable2C h0 (hes x hx).1 (hes x hx).2), ?_⟩); simp +decide (maxSteps := 4000000) only [go_sem, Nat.reduceAdd, Nat.reduceMul])) | apply cond2_intro | with_reducible apply And.intro | intro h)
  all_goals (unfold makableF; grind)

theorem any_split {X : Type} {p : X → Bool} {l a b : List X} {x : X} (h : l = a ++ x :: b) (hp : p x = true) : l.any p = true := by rw [h]; simp [hp]

theorem properC {t : Types} (hfew : ∀ n ∈ t.nodes, n.attrs.length ≤ 30) {g : Graph} (h0 : graphF g = 0) (hgn : ∀ n ∈ g.nodes, 0 ≤ n ∧ n < t.nodes.length) {ns es : List Int} (hns : ∀ i ∈ ns, 0 ≤ i ∧ i < g.nodes.length) (hes : ∀ i ∈ es, 0 ≤ i ∧ i < g.edges.length) :
    Con Tryz.prog 61 [dTypes t, dGraph g, dInts ns, dInts es] (.bool (makableF t g ns es)) := by
  refine ConC.con (ent _ Tryz.func61 rfl rfl) (con_of_body env Tryz.func61 rfl (nt := 62) (rs := [.tmp 8]) rfl rfl (Nat.le_of_ble_eq_true rfl) fun hok => ?_)
  have hl1 : ns.length ≤ 140737488355328 := by simpa using (hok (dInts ns) (by simp)).len
  have hl2 : es.length ≤ 140737488355328 := by simpa using (hok (dInts es) (by simp)).len
  repeat' (first | (first | (refine AWP.go env ?_; intro K fin; try simp +decide (maxSteps := 4000000) only [go_sem, Nat.reduceAdd, Nat.reduceMul]) | refine Kt.h _ _ ?_ | refine Ft.k (by decide +kernel) ?_ | ((first | refine ⟨_, h1, ?_⟩ | refine ⟨_, h2, ?_⟩ | refine ⟨_, h1, ?_⟩ | refine ⟨_, h2, ?_⟩ | refine ⟨_, h1, ?_⟩ | refine ⟨_, h2, ?_⟩ | refine ⟨_, h1, ?_⟩ | refine ⟨_, h2, ?_⟩ | refine ⟨_, fitsTC, ?_⟩ | refine ⟨_, contFuncintC (caps := [.fptr (cTypes t) 0, .fptr (cGraph g) 0]) (p := abstrAt t g) (xs := ns) (fun _ => rfl) (fun _ => rfl) (fun _ => rfl) (fun x hx => makable1C hgn (hns x hx).1 (hns x hx).2), ?_⟩ | refine ⟨_, contFuncintC (caps := [.fptr (cGraph g) 0, .fptr (cTypes t) 0]) (p := fun i => !fitsAt t g i) (xs := es) (fun _ => rfl) (fun _ => rfl) (fun _ => rfl) (fun x hx => makable2C h0 (hes x hx).1 (hes x hx).2), ?_⟩ | refine ⟨_, rFitsTC hfew, ?_⟩); simp +decide (maxSteps := 4000000) only [go_sem, Nat.reduceAdd, Nat.reduceMul])) | apply cond2_intro | with_reducible apply And.intro | intro h)
  refine AWP.lp (α := Way ns fun a _ => a.any (abstrAt t g) = false)
    (fun w => ⟨62, [(2, dInts ns), (3, dInts es), (4, .ptr 400 0 0 0), (5, .ptr 500 0 0 0), (9, .int .i64 w.pre.length)],
      [(400, ⟨0, true, true, 2, 25, [cTypes t]⟩), (500, ⟨0, true, true, 2, 29, [cGraph g]⟩)]⟩) (fun w => w.post.length) ⟨[], ns, rfl, rfl⟩ (by simp +decide (maxSteps := 4000000) only [go_sem, Nat.reduceAdd, Nat.reduceMul]; try simp) fun w K => ?_
  obtain ⟨a, b, hab, hinv⟩ := w
  cases b with
  | nil =>
    have hab : ns = a := by simpa using hab
    have hn2 : ((a.length : Int) < (ns.length : Int)) = False := by simp [hab]
    repeat' (first | (first | (refine AWP.go env ?_; intro K fin; try simp +decide (maxSteps := 4000000) only [hn2, go_sem, Nat.reduceAdd, Nat.reduceMul]) | refine Kt.h _ _ ?_ | refine Ft.k (by decide +kernel) ?_ | ((first | refine ⟨_, h1, ?_⟩ | refine ⟨_, h2, ?_⟩ | refine ⟨_, h1, ?_⟩ | refine ⟨_, h2, ?_⟩ | refine ⟨_, h1, ?_⟩ | refine ⟨_, h2, ?_⟩ | refine ⟨_, h1, ?_⟩ | refine ⟨_, h2, ?_⟩ | refine ⟨_, fitsTC, ?_⟩ | refine ⟨_, contFuncintC (caps := [.fptr (cTypes t) 0, .fptr (cGraph g) 0]) (p := abstrAt t g) (xs := ns) (fun _ => rfl) (fun _ => rfl) (fun _ => rfl) (fun x hx => makable1C hgn (hns x hx).1 (hns x hx).2), ?_⟩ | refine ⟨_, contFuncintC (caps := [.fptr (cGraph g) 0, .fptr (cTypes t) 0]) (p := fun i => !fitsAt t g i) (xs := es) (fun _ => rfl) (fun _ => rfl) (fun _ => rfl) (fun x hx => makable2C h0 (hes x hx).1 (hes x hx).2), ?_⟩ | refine ⟨_, rFitsTC hfew, ?_⟩); simp +decide (maxSteps := 4000000) only [hn2, go_sem, Nat.reduceAdd, Nat.reduceMul])) | apply cond2_intro | with_reducible apply And.intro | intro h)
    refine AWP.lp (α := Way es fun a _ => a.any (fun i => !fitsAt t g i) = false)
      (fun w => ⟨62, [(2, dInts ns), (3, dInts es), (4, .ptr 400 0 0 0), (5, .ptr 500 0 0 0), (10, .int .i64 w.pre.length)],
        [(400, ⟨0, true, true, 2, 25, [cTypes t]⟩), (500, ⟨0, true, true, 2, 29, [cGraph g]⟩)]⟩) (fun w => w.post.length) ⟨[], es, rfl, rfl⟩ (by simp +decide (maxSteps := 4000000) only [go_sem, Nat.reduceAdd, Nat.reduceMul]; try simp) fun w K => ?_
    obtain ⟨c, d, hcd, hinv2⟩ := w
    cases d with
    | nil =>
      have hcd : es = c := by simpa using hcd
      have hn3 : ((c.length : Int) < (es.length : Int)) = False := by simp [hcd]
      repeat' (first | (first | (refine AWP.go env ?_; intro K fin; try simp +decide (maxSteps := 4000000) only [hn3, go_sem, Nat.reduceAdd, Nat.reduceMul]) | refine Kt.h _ _ ?_ | refine Ft.k (by decide +kernel) ?_ | ((first | refine ⟨_, h1, ?_⟩ | refine ⟨_, h2, ?_⟩ | refine ⟨_, h1, ?_⟩ | refine ⟨_, h2, ?_⟩ | refine ⟨_, h1, ?_⟩ | refine ⟨_, h2, ?_⟩ | refine ⟨_, h1, ?_⟩ | refine ⟨_, h2, ?_⟩ | refine ⟨_, fitsTC, ?_⟩ | refine ⟨_, contFuncintC (caps := [.fptr (cTypes t) 0, .fptr (cGraph g) 0]) (p := abstrAt t g) (xs := ns) (fun _ => rfl) (fun _ => rfl) (fun _ => rfl) (fun x hx => makable1C hgn (hns x hx).1 (hns x hx).2), ?_⟩ | refine ⟨_, contFuncintC (caps := [.fptr (cGraph g) 0, .fptr (cTypes t) 0]) (p := fun i => !fitsAt t g i) (xs := es) (fun _ => rfl) (fun _ => rfl) (fun _ => rfl) (fun x hx => makable2C h0 (hes x hx).1 (hes x hx).2), ?_⟩ | refine ⟨_, rFitsTC hfew, ?_⟩); simp +decide (maxSteps := 4000000) only [hn3, go_sem, Nat.reduceAdd, Nat.reduceMul])) | apply cond2_intro | with_reducible apply And.intro | intro h)
      unfold makableF; rw [hab, hcd, hinv, hinv2]; try rfl
    | cons i d =>
      have hcl : c.length < es.length := by rw [hcd]; simp
      have hn3 : ((c.length : Int) < (es.length : Int)) = True := by simp [hcl]
      have hget : getR (es.map rI) c.length = [.int .i64 i] := by rw [hcd]; simp [getR, rI]
      have v3 : IntKind.i64.wrap ((c.length : Int) + 1) = ((c.length + 1 : Nat) : Int) := by rw [wrap64 (by omega) (by omega)]; try rfl
      have hi := hes i (by rw [hcd]; simp)
      have hr := edgeAt_row hi.1 hi.2
      have he := edge_ends h0 hi.1 hi.2
      have hg1 : getR (g.nodes.map rI) (edgeAt g i).src.toNat = [.int .i64 (nodeIn g (edgeAt g i).src)] := ints_row he.1.1 he.1.2
      have hg2 : getR (g.nodes.map rI) (edgeAt g i).tgt.toNat = [.int .i64 (nodeIn g (edgeAt g i).tgt)] := ints_row he.2.1 he.2.2
      by_cases hf : fitsAt t g i = true
      · have hf' : fitsF t (edgeAt g i).typ (nodeIn g (edgeAt g i).src) (nodeIn g (edgeAt g i).tgt) = true := hf
        repeat' (first | (first | (refine AWP.go env ?_; intro K fin; try simp +decide (maxSteps := 4000000) only [hn3, hget, v3, hr, hg1, hg2, hf', go_sem, Nat.reduceAdd, Nat.reduceMul]) | refine Kt.h _ _ ?_ | refine Ft.k (by decide +kernel) ?_ | ((first | refine ⟨_, h1, ?_⟩ | refine ⟨_, h2, ?_⟩ | refine ⟨_, h1, ?_⟩ | refine ⟨_, h2, ?_⟩ | refine ⟨_, h1, ?_⟩ | refine ⟨_, h2, ?_⟩ | refine ⟨_, h1, ?_⟩ | refine ⟨_, h2, ?_⟩ | refine ⟨_, fitsTC, ?_⟩ | refine ⟨_, contFuncintC (caps := [.fptr (cTypes t) 0, .fptr (cGraph g) 0]) (p := abstrAt t g) (xs := ns) (fun _ => rfl) (fun _ => rfl) (fun _ => rfl) (fun x hx => makable1C hgn (hns x hx).1 (hns x hx).2), ?_⟩ | refine ⟨_, contFuncintC (caps := [.fptr (cGraph g) 0, .fptr (cTypes t) 0]) (p := fun i => !fitsAt t g i) (xs := es) (fun _ => rfl) (fun _ => rfl) (fun _ => rfl) (fun x hx => makable2C h0 (hes x hx).1 (hes x hx).2), ?_⟩ | refine ⟨_, rFitsTC hfew, ?_⟩); simp +decide (maxSteps := 4000000) only [hn3, hget, v3, hr, hg1, hg2, hf', go_sem, Nat.reduceAdd, Nat.reduceMul])) | apply cond2_intro | with_reducible apply And.intro | intro h)
        all_goals try omega
        all_goals try (simp only [List.mem_cons, List.not_mem_nil, or_false] at h; (repeat' (first | (subst h; rfl) | rcases h with h | h)))
        refine ⟨⟨c ++ [i], d, by simp [hcd], by rw [List.any_append, hinv2]; simp [hf]⟩, by simp, by simp +decide (maxSteps := 4000000) only [go_sem, Nat.reduceAdd, Nat.reduceMul]; simp⟩
      · have hf : fitsAt t g i = false := by simpa using hf
        have hf' : fitsF t (edgeAt g i).typ (nodeIn g (edgeAt g i).src) (nodeIn g (edgeAt g i).tgt) = false := hf
        have hF : makableF t g ns es = false := by unfold makableF; rw [any_split (p := fun i => !fitsAt t g i) hcd (by simp [hf])]; simp
        repeat' (first | (first | (refine AWP.go env ?_; intro K fin; try simp +decide (maxSteps := 4000000) only [hn3, hget, v3, hr, hg1, hg2, hf', hF, go_sem, Nat.reduceAdd, Nat.reduceMul]) | refine Kt.h _ _ ?_ | refine Ft.k (by decide +kernel) ?_ | ((first | refine ⟨_, h1, ?_⟩ | refine ⟨_, h2, ?_⟩ | refine ⟨_, h1, ?_⟩ | refine ⟨_, h2, ?_⟩ | refine ⟨_, h1, ?_⟩ | refine ⟨_, h2, ?_⟩ | refine ⟨_, h1, ?_⟩ | refine ⟨_, h2, ?_⟩ | refine ⟨_, fitsTC, ?_⟩ | refine ⟨_, contFuncintC (caps := [.fptr (cTypes t) 0, .fptr (cGraph g) 0]) (p := abstrAt t g) (xs := ns) (fun _ => rfl) (fun _ => rfl) (fun _ => rfl) (fun x hx => makable1C hgn (hns x hx).1 (hns x hx).2), ?_⟩ | refine ⟨_, contFuncintC (caps := [.fptr (cGraph g) 0, .fptr (cTypes t) 0]) (p := fun i => !fitsAt t g i) (xs := es) (fun _ => rfl) (fun _ => rfl) (fun _ => rfl) (fun x hx => makable2C h0 (hes x hx).1 (hes x hx).2), ?_⟩ | refine ⟨_, rFitsTC hfew, ?_⟩); simp +decide (maxSteps := 4000000) only [hn3, hget, v3, hr, hg1, hg2, hf', hF, go_sem, Nat.reduceAdd, Nat.reduceMul])) | apply cond2_intro | with_reducible apply And.intro | intro h)
        all_goals try omega
        all_goals try (simp only [List.mem_cons, List.not_mem_nil, or_false] at h; (repeat' (first | (subst h; rfl) | rcases h with h | h)))
  | cons i b =>
    have hal : a.length < ns.length := by rw [hab]; simp
    have hn2 : ((a.length : Int) < (ns.length : Int)) = True := by simp [hal]
    have hget : getR (ns.map rI) a.length = [.int .i64 i] := by rw [hab]; simp [getR, rI]
    have v3 : IntKind.i64.wrap ((a.length : Int) + 1) = ((a.length + 1 : Nat) : Int) := by rw [wrap64 (by omega) (by omega)]; try rfl
    have hi := hns i (by rw [hab]; simp)
    have hn := nodeIn_typed hgn hi.1 hi.2
    have hg : getR (g.nodes.map rI) i.toNat = [.int .i64 (nodeIn g i)] := ints_row hi.1 hi.2
    have hr := nodeAt_row hn.1 hn.2
    by_cases hf : abstrAt t g i = true
    · have hf' : (nodeAt t (nodeIn g i).toNat).abstr = true := hf
      have hF : makableF t g ns es = false := by unfold makableF; rw [any_split hab hf]; simp
      repeat' (first | (first | (refine AWP.go env ?_; intro K fin; try simp +decide (maxSteps := 4000000) only [hn2, hget, v3, hg, hr, hf', hF, go_sem, Nat.reduceAdd, Nat.reduceMul]) | refine Kt.h _ _ ?_ | refine Ft.k (by decide +kernel) ?_ | ((first | refine ⟨_, h1, ?_⟩ | refine ⟨_, h2, ?_⟩ | refine ⟨_, h1, ?_⟩ | refine ⟨_, h2, ?_⟩ | refine ⟨_, h1, ?_⟩ | refine ⟨_, h2, ?_⟩ | refine ⟨_, h1, ?_⟩ | refine ⟨_, h2, ?_⟩ | refine ⟨_, fitsTC, ?_⟩ | refine ⟨_, contFuncintC (caps := [.fptr (cTypes t) 0, .fptr (cGraph g) 0]) (p := abstrAt t g) (xs := ns) (fun _ => rfl) (fun _ => rfl) (fun _ => rfl) (fun x hx => makable1C hgn (hns x hx).1 (hns x hx).2), ?_⟩ | refine ⟨_, contFuncintC (caps := [.fptr (cGraph g) 0, .fptr (cTypes t) 0]) (p := fun i => !fitsAt t g i) (xs := es) (fun _ => rfl) (fun _ => rfl) (fun _ => rfl) (fun x hx => makable2C h0 (hes x hx).1 (hes x hx).2), ?_⟩ | refine ⟨_, rFitsTC hfew, ?_⟩); simp +decide (maxSteps := 4000000) only [hn2, hget, v3, hg, hr, hf', hF, go_sem, Nat.reduceAdd, Nat.reduceMul])) | apply cond2_intro | with_reducible apply And.intro | intro h)
      all_goals try omega
    · have hf : abstrAt t g i = false := by simpa using hf
      have hf' : (nodeAt t (nodeIn g i).toNat).abstr = false := hf
      repeat' (first | (first | (refine AWP.go env ?_; intro K fin; try simp +decide (maxSteps := 4000000) only [hn2, hget, v3, hg, hr, hf', go_sem, Nat.reduceAdd, Nat.reduceMul]) | refine Kt.h _ _ ?_ | refine Ft.k (by decide +kernel) ?_ | ((first | refine ⟨_, h1, ?_⟩ | refine ⟨_, h2, ?_⟩ | refine ⟨_, h1, ?_⟩ | refine ⟨_, h2, ?_⟩ | refine ⟨_, h1, ?_⟩ | refine ⟨_, h2, ?_⟩ | refine ⟨_, h1, ?_⟩ | refine ⟨_, h2, ?_⟩ | refine ⟨_, fitsTC, ?_⟩ | refine ⟨_, contFuncintC (caps := [.fptr (cTypes t) 0, .fptr (cGraph g) 0]) (p := abstrAt t g) (xs := ns) (fun _ => rfl) (fun _ => rfl) (fun _ => rfl) (fun x hx => makable1C hgn (hns x hx).1 (hns x hx).2), ?_⟩ | refine ⟨_, contFuncintC (caps := [.fptr (cGraph g) 0, .fptr (cTypes t) 0]) (p := fun i => !fitsAt t g i) (xs := es) (fun _ => rfl) (fun _ => rfl) (fun _ => rfl) (fun x hx => makable2C h0 (hes x hx).1 (hes x hx).2), ?_⟩ | refine ⟨_, rFitsTC hfew, ?_⟩); simp +decide (maxSteps := 4000000) only [hn2, hget, v3, hg, hr, hf', go_sem, Nat.reduceAdd, Nat.reduceMul])) | apply cond2_intro | with_reducible apply And.intro | intro h)
      all_goals try omega
      refine ⟨⟨a ++ [i], b, by simp [hab], by rw [List.any_append, hinv]; simp [hf]⟩, by simp, by simp +decide (maxSteps := 4000000) only [go_sem, Nat.reduceAdd, Nat.reduceMul]; simp⟩
end Go.Abs
