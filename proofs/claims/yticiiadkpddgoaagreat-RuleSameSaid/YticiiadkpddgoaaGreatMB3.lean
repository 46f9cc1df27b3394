import Derived.Test.YticiiadkpddgoaaGreatMB2
import Derived.Shelf.Sort.Plain
import Derived.Shelf.Slices.Reverse
import Derived.Shelf.Slices.CompactI
import Derived.Shelf.Slices.In.SortNone
import Derived.Test.YticiiadkpddgoaaGreatProg
import Derived.Lib.SlicesCompact
import Derived.Sort.OwnSortedInts
/- The tokens of the specification: signs, strings. -/
set_option linter.unusedSimpArgs false
set_option linter.unusedVariables false
set_option maxRecDepth 20000
set_option maxHeartbeats 2000000
set_option linter.unusedSimpArgs false
set_option linter.unusedVariables false
namespace Go.Abs
open Go Go.RowKit Go.Proofs
attribute [local irreducible] Con AWP

theorem rSignsC : Con Tryz.prog 266 [] (.nsl 9 1 (signs25.map rS)) := by
  refine ConC.con (ent _ Tryz.func266 rfl rfl) (con_of_body env Tryz.func266 rfl (nt := 2) (rs := [.tmp 0]) rfl rfl (Nat.le_of_ble_eq_true rfl) fun hok => ?_)
  repeat (first | (refine AWP.go env ?_; intro K fin; try simp +decide (maxSteps := 4000000) only [go_sem, Nat.reduceAdd, Nat.reduceMul]) | refine Kt.h _ _ ?_ | refine Ft.k (by decide +kernel) ?_)
  rfl

/-- The length of a string in quotes, or 0. -/
def quoN (s : ByteArray) (at' : Nat) : Nat → Nat → Nat
  | 0, _ => 0
  | f + 1, n => if at' + n < s.size then (if byteAt s (at' + n) = 34 then n + 1 else if byteAt s (at' + n) < 32 ∨ 126 < byteAt s (at' + n) then 0 else quoN s at' f (n + 1)) else 0

theorem quoN_le {s : ByteArray} {at' : Nat} : ∀ (f n : Nat), at' + quoN s at' f n ≤ s.size ∨ quoN s at' f n = 0
  | 0, _ => .inr rfl
  | f + 1, n => by
    simp only [quoN]
    split
    · split
      · exact .inl (by omega)
      · split
        · exact .inr rfl
        · exact quoN_le f (n + 1)
    · exact .inr rfl

theorem quoN_ge {s : ByteArray} {at' : Nat} : ∀ (f n : Nat), quoN s at' f n = 0 ∨ n + 1 ≤ quoN s at' f n
  | 0, _ => .inl rfl
  | f + 1, n => by
    simp only [quoN]
    split
    · split
      · exact .inr (Nat.le_refl _)
      · split
        · exact .inl rfl
        · rcases quoN_ge (s := s) (at' := at') f (n + 1) with h | h
          · exact .inl h
          · exact .inr (by omega)
    · exact .inl rfl

theorem rQuotedC {s : ByteArray} {at' : Nat} (h1 : at' ≤ s.size) : Con Tryz.prog 265 [.str s, .int .i64 at'] (.int .i64 (quoN s at' (s.size - at') 1)) := by
  refine ConC.con (ent _ Tryz.func265 rfl rfl) (con_of_body env Tryz.func265 rfl (nt := 30) (rs := [.tmp 4]) rfl rfl (Nat.le_of_ble_eq_true rfl) fun hok => ?_)
  have hs := (hok _ (List.mem_cons_self ..)).size
  repeat (first | (refine AWP.go env ?_; intro K fin; try simp +decide (maxSteps := 4000000) only [go_sem, Nat.reduceAdd, Nat.reduceMul]) | refine Kt.h _ _ ?_ | refine Ft.k (by decide +kernel) ?_)
  refine AWP.lp (α := { n : Nat // quoN s at' (s.size - at' - (n - 1)) n = quoN s at' (s.size - at') 1 ∧ 1 ≤ n ∧ at' + n ≤ s.size + 1 }) (fun x => ⟨30, [(0, .str s), (1, .int .i64 at'), (5, .int .i64 x.1)], []⟩) (fun x => s.size + 1 - x.1) ⟨1, rfl, by omega⟩ (by simp +decide (maxSteps := 4000000) only [go_sem, Nat.reduceAdd, Nat.reduceMul]; try simp) fun x K => ?_
  obtain ⟨n, hn, hn1, hle⟩ := x
  have hw : IntKind.i64.wrap ((at' : Int) + n) = ((at' + n : Nat) : Int) := by rw [wrap64 (by omega) (by omega)]; try rfl
  have hw2 : IntKind.i64.wrap ((n : Int) + 1) = ((n + 1 : Nat) : Int) := by rw [wrap64 (by omega) (by omega)]; try rfl
  have hb : ((s.get! (at' + n)).toNat : Int) = byteAt s (at' + n) := rfl
  have hstep : at' + n < s.size → quoN s at' (s.size - at' - (n - 1)) n = if byteAt s (at' + n) = 34 then n + 1 else if byteAt s (at' + n) < 32 ∨ 126 < byteAt s (at' + n) then 0 else quoN s at' (s.size - at' - n) (n + 1) := fun h => by
    rw [show s.size - at' - (n - 1) = (s.size - at' - n) + 1 by omega]
    simp only [quoN, if_pos h]
  have hstop : ¬ at' + n < s.size → quoN s at' (s.size - at' - (n - 1)) n = 0 := fun h => by
    cases hf : s.size - at' - (n - 1) with
    | zero => rfl
    | succ f => simp only [quoN, if_neg h]
  repeat' (first | (first | (refine AWP.go env ?_; intro K fin; try simp +decide (maxSteps := 4000000) only [hw, hw2, hb, go_sem, Nat.reduceAdd, Nat.reduceMul]) | refine Kt.h _ _ ?_ | refine Ft.k (by decide +kernel) ?_) | apply cond2_intro | with_reducible apply And.intro | intro h)
  all_goals try simp only [decide_eq_true_eq, decide_eq_false_iff_not] at *
  all_goals try omega
  all_goals first
    | (have h3 := hstep (by omega)
       refine ⟨⟨n + 1, ?_, by omega, by omega⟩, by simp; omega, by simp +decide (maxSteps := 4000000) only [go_sem, Nat.reduceAdd, Nat.reduceMul]; try simp⟩
       rw [← hn, h3, Nat.add_sub_cancel]; grind only)
    | (rw [← hn, hstep (by omega)]; grind only)
    | (rw [← hn, hstop (by omega)]; try rfl)

/-- The token at a place: its kind, its text, its length, the error. -/
structure One where
  kind : Int
  text : ByteArray
  len : Int
  err : Int

def oneF (s : ByteArray) (at' : Nat) : One :=
  let c := byteAt s at'
  let r := runF (runP (isDigit c)) s at'
  let q := quoN s at' (s.size - at') 1
  if isLetter c || isDigit c then
    (if r - at' > (bif isDigit c then 9 else 20) then ⟨0, ⟨#[]⟩, 0, 3⟩ else ⟨bif isDigit c then 2 else 1, s.extract at' r, (r - at' : Nat), 0⟩)
  else if c = 34 then
    (if q = 0 then ⟨0, ⟨#[]⟩, 0, 2⟩ else if q > 62 then ⟨0, ⟨#[]⟩, 0, 3⟩ else ⟨3, s.extract (at' + 1) (at' + q - 1), q, 0⟩)
  else match signs25.find? fun x => decide (at' + x.size ≤ s.size) && (s.extract at' (at' + x.size)).toList == x.toList with
    | some x => ⟨4, x, x.size, 0⟩
    | none => ⟨0, ⟨#[]⟩, 0, 2⟩

theorem oneF_sign {s : ByteArray} {at' : Nat} {pre : List ByteArray} {x : ByteArray} {post : List ByteArray} (he : signs25 = pre ++ x :: post) (hl : isLetter (byteAt s at') = false) (hd : isDigit (byteAt s at') = false) (hq : ¬ byteAt s at' = 34)
    (hno : ∀ y ∈ pre, (decide (at' + y.size ≤ s.size) && (s.extract at' (at' + y.size)).toList == y.toList) = false) (hx : (decide (at' + x.size ≤ s.size) && (s.extract at' (at' + x.size)).toList == x.toList) = true) :
    oneF s at' = ⟨4, x, x.size, 0⟩ := by
  unfold oneF
  have : signs25.find? (fun x => decide (at' + x.size ≤ s.size) && (s.extract at' (at' + x.size)).toList == x.toList) = some x := by
    rw [he, List.find?_append, List.find?_eq_none.2 (fun y hy => by simp [hno y hy])]
    simp only [Option.none_or, List.find?_cons, hx]
  simp [hl, hd, hq, this]

theorem oneF_none {s : ByteArray} {at' : Nat} (hl : isLetter (byteAt s at') = false) (hd : isDigit (byteAt s at') = false) (hq : ¬ byteAt s at' = 34)
    (hno : ∀ y ∈ signs25, (decide (at' + y.size ≤ s.size) && (s.extract at' (at' + y.size)).toList == y.toList) = false) :
    oneF s at' = ⟨0, ⟨#[]⟩, 0, 2⟩ := by
  unfold oneF
  rw [List.find?_eq_none.2 (fun y hy => by simp [hno y hy])]
  simp [hl, hd, hq]

theorem signs_size : ∀ y ∈ signs25, y.size ≤ 2 := by decide +kernel

theorem rOneC {s : ByteArray} {at' : Nat} (h0 : at' < s.size) : Con Tryz.prog 207 [.str s, .int .i64 at'] (.tup [.agg [.int .i64 (oneF s at').kind, .str (oneF s at').text, .int .i64 0], .int .i64 (oneF s at').len, .int .i64 (oneF s at').err]) := by
  refine ConC.con (ent _ Tryz.func207 rfl rfl) (con_of_body env Tryz.func207 rfl (nt := 110) (rs := [.cell 4 151, .tmp 5, .tmp 6]) rfl rfl (Nat.le_of_ble_eq_true rfl) fun hok => ?_)
  have hs := (hok _ (List.mem_cons_self ..)).size
  have hle : at' ≤ s.size := by omega
  have hle2 : (at' : Int) ≤ s.size := by omega
  have hb : ((s.get! at').toNat : Int) = byteAt s at' := rfl
  have hq := quoN_le (s := s) (at' := at') (s.size - at') 1
  have hq2 := quoN_ge (s := s) (at' := at') (s.size - at') 1
  have hr : ∀ d, at' ≤ runF (runP d) s at' ∧ runF (runP d) s at' ≤ s.size := fun d => ⟨(runF_ge _ at' rfl).1, (runF_ge _ at' rfl).2 hle⟩
  have hr1 : ∀ d, (runF (runP d) s at' : Int) - at' = ((runF (runP d) s at' - at' : Nat) : Int) := fun d => by have := hr d; omega
  have w1 : ∀ d, IntKind.i64.wrap ((at' : Int) + ((runF (runP d) s at' - at' : Nat) : Int)) = ((runF (runP d) s at' : Nat) : Int) := fun d => by have := hr d; rw [wrap64 (by omega) (by omega)]; omega
  have w2 : IntKind.i64.wrap ((at' : Int) + 1) = ((at' + 1 : Nat) : Int) := by rw [wrap64 (by omega) (by omega)]; try rfl
  have w3 : IntKind.i64.wrap ((at' : Int) + (quoN s at' (s.size - at') 1 : Int)) = ((at' + quoN s at' (s.size - at') 1 : Nat) : Int) := by rw [wrap64 (by omega) (by omega)]; try rfl
  have w4 : IntKind.i64.wrap ((quoN s at' (s.size - at') 1 : Int) - 2) = (quoN s at' (s.size - at') 1 : Int) - 2 := by rw [wrap64 (by omega) (by omega)]
  have w5 : IntKind.i64.wrap (((at' + quoN s at' (s.size - at') 1 : Nat) : Int) - 1) = ((at' + quoN s at' (s.size - at') 1 : Nat) : Int) - 1 := by rw [wrap64 (by omega) (by omega)]
  repeat' (first | (first | (refine AWP.go env ?_; intro K fin; try simp +decide (maxSteps := 4000000) only [hb, hr1, w1, w2, w3, w4, w5, go_sem, Nat.reduceAdd, Nat.reduceMul]) | refine Kt.h _ _ ?_ | refine Ft.k (by decide +kernel) ?_ | ((first | refine ⟨_, rDigitC, ?_⟩ | refine ⟨_, rLetterC, ?_⟩ | refine ⟨_, rSignsC, ?_⟩ | refine ⟨_, rQuotedC hle, ?_⟩ | refine ⟨_, rRunC (at' := (at' : Int)) (Int.natCast_nonneg _) hle2, ?_⟩); simp +decide (maxSteps := 4000000) only [hb, hr1, w1, w2, w3, w4, w5, go_sem, Nat.reduceAdd, Nat.reduceMul])) | apply cond2_intro | with_reducible apply And.intro | intro h)
  all_goals try simp only [decide_eq_true_eq, decide_eq_false_iff_not] at *
  all_goals try (first | omega | (have := hr (isDigit (byteAt s at')); omega))
  all_goals try (unfold oneF; clear w1 w2 w3 w4 w5 hr1; grind only [= Int.toNat_natCast]; done)
  · have : ¬ (quoN s at' (s.size - at') 1 : Int) = 0 := by intro h; simp_all
    omega
  have hl : isLetter (byteAt s at') = false := by assumption
  have hd : isDigit (byteAt s at') = false := by assumption
  have hq3 : (byteAt s at' == 34) = false := by assumption
  have hq3 : ¬ byteAt s at' = 34 := by simpa using hq3
  refine AWP.lp (α := PP (fun x => decide (at' + x.size ≤ s.size) && (s.extract at' (at' + x.size)).toList == x.toList) signs25)
    (fun x => ⟨110, [(0, .str s), (1, .int .i64 at'), (4, .ptr 400 0 0 0), (12, .osl 6500 0), (13, .int .i64 x.pre.length)], [(400, ⟨0, true, true, 3, 151, [[.int .i64 0, .str ⟨#[]⟩, .int .i64 0]]⟩), (6500, ⟨0, true, false, 1, 9, (x.pre ++ x.post).map rS⟩)]⟩) (fun x => x.post.length) ⟨[], signs25, rfl, by simp⟩ (by simp +decide (maxSteps := 4000000) only [go_sem, Nat.reduceAdd, Nat.reduceMul]; try simp) fun x K => ?_
  obtain ⟨pre, post, he, hno⟩ := x
  have hlen : (pre ++ post).length = 25 := by rw [← he]; try rfl
  have hsz : ∀ y ∈ pre ++ post, y.size ≤ 2 := by rw [← he]; exact signs_size
  repeat (first | (refine AWP.go env ?_; intro K fin; try simp +decide (maxSteps := 4000000) only [go_sem, Nat.reduceAdd, Nat.reduceMul]) | refine Kt.h _ _ ?_ | refine Ft.k (by decide +kernel) ?_ | ((first | refine ⟨_, rDigitC, ?_⟩ | refine ⟨_, rLetterC, ?_⟩ | refine ⟨_, rSignsC, ?_⟩ | refine ⟨_, rQuotedC hle, ?_⟩ | refine ⟨_, rRunC (at' := (at' : Int)) (Int.natCast_nonneg _) hle2, ?_⟩); simp +decide (maxSteps := 4000000) only [go_sem, Nat.reduceAdd, Nat.reduceMul]))
  cases post with
  | nil =>
    simp only [List.append_nil, Int.lt_irrefl, decide_false, cond2_false]
    repeat (first | (refine AWP.go env ?_; intro K fin; try simp +decide (maxSteps := 4000000) only [go_sem, Nat.reduceAdd, Nat.reduceMul]) | refine Kt.h _ _ ?_ | refine Ft.k (by decide +kernel) ?_ | ((first | refine ⟨_, rDigitC, ?_⟩ | refine ⟨_, rLetterC, ?_⟩ | refine ⟨_, rSignsC, ?_⟩ | refine ⟨_, rQuotedC hle, ?_⟩ | refine ⟨_, rRunC (at' := (at' : Int)) (Int.natCast_nonneg _) hle2, ?_⟩); simp +decide (maxSteps := 4000000) only [go_sem, Nat.reduceAdd, Nat.reduceMul]))
    rw [oneF_none hl hd hq3 (by rw [he]; simpa using hno)]
  | cons x post =>
    have hlt : (pre.length : Int) < (pre ++ x :: post).length := by simp; omega
    have hpl : pre.length + post.length + 1 = 25 := by simp at hlen; omega
    have hx2 := hsz x (by simp)
    have v1 : IntKind.i64.wrap ((at' : Int) + (x.size : Int)) = ((at' + x.size : Nat) : Int) := by rw [wrap64 (by omega) (by omega)]; try rfl
    have v2 : IntKind.i64.wrap ((pre.length : Int) + 1) = ((pre.length + 1 : Nat) : Int) := by rw [wrap64 (by omega) (by omega)]; try rfl
    simp only [hlt, decide_true, cond2_true]
    repeat' (first | (first | (refine AWP.go env ?_; intro K fin; try simp +decide (maxSteps := 4000000) only [v1, v2, go_sem, Nat.reduceAdd, Nat.reduceMul]) | refine Kt.h _ _ ?_ | refine Ft.k (by decide +kernel) ?_ | ((first | refine ⟨_, rDigitC, ?_⟩ | refine ⟨_, rLetterC, ?_⟩ | refine ⟨_, rSignsC, ?_⟩ | refine ⟨_, rQuotedC hle, ?_⟩ | refine ⟨_, rRunC (at' := (at' : Int)) (Int.natCast_nonneg _) hle2, ?_⟩); simp +decide (maxSteps := 4000000) only [v1, v2, go_sem, Nat.reduceAdd, Nat.reduceMul])) | apply cond2_intro | with_reducible apply And.intro | intro h)
    all_goals try simp only [decide_eq_true_eq, decide_eq_false_iff_not] at *
    all_goals try (first | exact Int.natCast_nonneg _ | assumption | omega)
    all_goals first
      | (rw [oneF_sign he hl hd hq3 hno (by rename_i h1 _ _ _ _; simp only [Bool.and_eq_true, decide_eq_true_eq]; exact ⟨by omega, by assumption⟩)])
      | (refine ⟨⟨pre ++ [x], post, by rw [he]; simp, fun y hy => ?_⟩, by simp, by simp +decide (maxSteps := 4000000) only [go_sem, Nat.reduceAdd, Nat.reduceMul]; simp⟩
         rcases List.mem_append.1 hy with hy | hy
         · exact hno y hy
         · simp only [List.mem_singleton] at hy
           subst hy
           simp only [Bool.and_eq_false_iff, decide_eq_false_iff_not]
           first | (right; assumption) | (left; omega))
end Go.Abs
/- Names, of the specification. -/
set_option linter.unusedSimpArgs false
set_option linter.unusedVariables false
set_option maxRecDepth 20000
set_option maxHeartbeats 2000000
namespace Go.Abs
open Go Go.RowKit Go.Proofs
attribute [local irreducible] Con AWP

theorem rTextC {k l : Int} {s : ByteArray} (hk : k ≠ 3) : Con Tryz.prog 206 [.agg [.int .i64 k, .str s, .int .i64 l]] (.str s) := by
  refine ConC.con (ent _ Tryz.func206 rfl rfl) (con_of_body env Tryz.func206 rfl (nt := 12) (rs := [.tmp 2]) rfl rfl (Nat.le_of_ble_eq_true rfl) fun hok => ?_)
  have hk' : (k == 3) = false := by simpa using hk
  repeat' (first | (first | (refine AWP.go env ?_; intro K fin; try simp +decide (maxSteps := 4000000) only [hk', go_sem, Nat.reduceAdd, Nat.reduceMul]) | refine Kt.h _ _ ?_ | refine Ft.k (by decide +kernel) ?_) | apply cond2_intro | with_reducible apply And.intro | intro h)
  all_goals first | rfl | decide

theorem rRightC {k l : Int} {s : ByteArray} (h0 : 0 < s.size) (hk : k ≠ 3) : Con Tryz.prog 127 [.agg [.int .i64 k, .str s, .int .i64 l]] (.bool (decide ((oneF s 0).err = 0) && decide ((oneF s 0).len = s.size) && decide ((oneF s 0).kind = k))) := by
  refine ConC.con (ent _ Tryz.func127 rfl rfl) (con_of_body env Tryz.func127 rfl (nt := 32) (rs := [.tmp 2]) rfl rfl (Nat.le_of_ble_eq_true rfl) fun hok => ?_)
  have he : decide (s.size = 0) = false := by simp only [decide_eq_false_iff_not]; omega
  repeat' (first | (first | (refine AWP.go env ?_; intro K fin; try simp +decide (maxSteps := 4000000) only [he, beq_empty, go_sem, Nat.reduceAdd, Nat.reduceMul]) | refine Kt.h _ _ ?_ | refine Ft.k (by decide +kernel) ?_ | ((first | refine ⟨_, rTextC hk, ?_⟩ | refine ⟨_, rOneC (at' := 0) h0, ?_⟩); simp +decide (maxSteps := 4000000) only [he, beq_empty, go_sem, Nat.reduceAdd, Nat.reduceMul])) | apply cond2_intro | with_reducible apply And.intro | intro h)
  all_goals grind

theorem rRight0C {k l : Int} {s : ByteArray} (h0 : s.size = 0) (hk : k ≠ 3) : Con Tryz.prog 127 [.agg [.int .i64 k, .str s, .int .i64 l]] (.bool false) := by
  refine ConC.con (ent _ Tryz.func127 rfl rfl) (con_of_body env Tryz.func127 rfl (nt := 32) (rs := [.tmp 2]) rfl rfl (Nat.le_of_ble_eq_true rfl) fun hok => ?_)
  repeat' (first | (first | (refine AWP.go env ?_; intro K fin; try simp +decide (maxSteps := 4000000) only [beq_empty, h0, go_sem, Nat.reduceAdd, Nat.reduceMul]) | refine Kt.h _ _ ?_ | refine Ft.k (by decide +kernel) ?_ | ((first | refine ⟨_, rTextC hk, ?_⟩ | refine ⟨_, rOneC (at' := 0) h0, ?_⟩ | refine ⟨_, rTextC hk, ?_⟩); simp +decide (maxSteps := 4000000) only [beq_empty, h0, go_sem, Nat.reduceAdd, Nat.reduceMul])) | apply cond2_intro | with_reducible apply And.intro | intro h)

theorem runP_part : runP false = isPart := by funext c; simp [runP, isPart, Bool.or_comm, Bool.or_assoc, Bool.or_left_comm]

theorem letter_digit {c : Int} (h : isLetter c = true) : isDigit c = false := by unfold isLetter isDigit at *; grind

theorem one_name {s : ByteArray} (h0 : 0 < s.size) : (decide ((oneF s 0).err = 0) && decide ((oneF s 0).len = s.size) && decide ((oneF s 0).kind = 1)) = isNameF s := by
  unfold isNameF
  by_cases hl : isLetter (byteAt s 0) = true
  · have hd := letter_digit hl
    unfold oneF
    simp only [hl, hd, runP_part, Bool.true_or, if_true, cond_false, Nat.sub_zero]
    by_cases h20 : runF isPart s 0 > 20
    · simp [h20]; omega
    · simp [h20, h0]
      grind
  · have hl : isLetter (byteAt s 0) = false := by simpa using hl
    simp only [hl, Bool.and_false, Bool.false_and]
    unfold oneF
    simp only [hl, Bool.false_or]
    grind

theorem rIsNameC {s : ByteArray} : Con Tryz.prog 55 [.str s] (.bool (isNameF s)) := by
  refine ConC.con (ent _ Tryz.func55 rfl rfl) (con_of_body env Tryz.func55 rfl (nt := 6) (rs := [.tmp 2]) rfl rfl (Nat.le_of_ble_eq_true rfl) fun hok => ?_)
  by_cases h0 : 0 < s.size
  · repeat (first | (refine AWP.go env ?_; intro K fin; try simp +decide (maxSteps := 4000000) only [go_sem, Nat.reduceAdd, Nat.reduceMul]) | refine Kt.h _ _ ?_ | refine Ft.k (by decide +kernel) ?_ | ((first | refine ⟨_, rTextC hk, ?_⟩ | refine ⟨_, rOneC (at' := 0) h0, ?_⟩ | refine ⟨_, rTextC hk, ?_⟩); simp +decide (maxSteps := 4000000) only [go_sem, Nat.reduceAdd, Nat.reduceMul]))
    refine ⟨_, rRightC h0 (by decide), ?_⟩
    simp +decide (maxSteps := 4000000) only [go_sem, Nat.reduceAdd, Nat.reduceMul]
    repeat (first | (refine AWP.go env ?_; intro K fin; try simp +decide (maxSteps := 4000000) only [go_sem, Nat.reduceAdd, Nat.reduceMul]) | refine Kt.h _ _ ?_ | refine Ft.k (by decide +kernel) ?_ | ((first | refine ⟨_, rTextC hk, ?_⟩ | refine ⟨_, rOneC (at' := 0) h0, ?_⟩ | refine ⟨_, rTextC hk, ?_⟩); simp +decide (maxSteps := 4000000) only [go_sem, Nat.reduceAdd, Nat.reduceMul]))
    exact one_name h0
  · repeat (first | (refine AWP.go env ?_; intro K fin; try simp +decide (maxSteps := 4000000) only [go_sem, Nat.reduceAdd, Nat.reduceMul]) | refine Kt.h _ _ ?_ | refine Ft.k (by decide +kernel) ?_ | ((first | refine ⟨_, rTextC hk, ?_⟩ | refine ⟨_, rOneC (at' := 0) h0, ?_⟩ | refine ⟨_, rTextC hk, ?_⟩); simp +decide (maxSteps := 4000000) only [go_sem, Nat.reduceAdd, Nat.reduceMul]))
    refine ⟨_, rRight0C (by omega) (by decide), ?_⟩
    simp +decide (maxSteps := 4000000) only [go_sem, Nat.reduceAdd, Nat.reduceMul]
    repeat (first | (refine AWP.go env ?_; intro K fin; try simp +decide (maxSteps := 4000000) only [go_sem, Nat.reduceAdd, Nat.reduceMul]) | refine Kt.h _ _ ?_ | refine Ft.k (by decide +kernel) ?_ | ((first | refine ⟨_, rTextC hk, ?_⟩ | refine ⟨_, rOneC (at' := 0) h0, ?_⟩ | refine ⟨_, rTextC hk, ?_⟩); simp +decide (maxSteps := 4000000) only [go_sem, Nat.reduceAdd, Nat.reduceMul]))
    simp [isNameF, h0]

end Go.Abs
/- Names of enumerations. -/
set_option linter.unusedSimpArgs false
set_option linter.unusedVariables false
set_option maxRecDepth 20000
set_option maxHeartbeats 2000000
namespace Go.Abs
open Go Go.RowKit Go.Proofs
attribute [local irreducible] Con AWP

theorem take_at {X : Type} (f : X → List D) (pre : List X) (x : X) (post : List X) : ((pre ++ x :: post).map f).take pre.length = pre.map f := by simp

/-- A list that is gone through: what lies behind, what lies ahead. -/
structure Way {X : Type} (xs : List X) (inv : List X → List X → Prop) where
  pre : List X
  post : List X
  eq : xs = pre ++ post
  inv : inv pre post

def namesGo : List ByteArray → List ByteArray → Int
  | _, [] => 0
  | pre, s :: r => if isNameF s = false then 2 else if (pre.any fun x => s.toList == x.toList) = true then 5 else namesGo (pre ++ [s]) r

def namesF (l : List ByteArray) : Int := if l.length > 20 then 3 else namesGo [] l

theorem namesC {xs : List ByteArray} : Con Tryz.prog 243 [.fsl 1 (xs.map rS)] (.int .i64 (namesF xs)) := by
  refine ConC.con (ent _ Tryz.func243 rfl rfl) (con_of_body env Tryz.func243 rfl (nt := 26) (rs := [.tmp 2]) rfl rfl (Nat.le_of_ble_eq_true rfl) fun hok => ?_)
  repeat' (first | (first | (refine AWP.go env ?_; intro K fin; try simp +decide (maxSteps := 4000000) only [go_sem, Nat.reduceAdd, Nat.reduceMul]) | refine Kt.h _ _ ?_ | refine Ft.k (by decide +kernel) ?_ | ((first | refine ⟨_, isNameC, ?_⟩ | refine ⟨_, containsStringC (xs := pre), ?_⟩); simp +decide (maxSteps := 4000000) only [go_sem, Nat.reduceAdd, Nat.reduceMul])) | apply cond2_intro | with_reducible apply And.intro | intro h)
  · have h : xs.length > 20 := by simp at h; omega
    simp [namesF, h]
  · have h : ¬ xs.length > 20 := by simp at h; omega
    have hF : namesF xs = namesGo [] xs := by simp [namesF, h]
    refine AWP.lp (α := Way xs fun pre post => namesGo pre post = namesF xs) (fun x => ⟨26, [(0, .fsl 1 (xs.map rS)), (8, .fsl 1 (xs.map rS)), (9, .int .i64 xs.length), (10, .int .i64 x.pre.length)], []⟩) (fun x => x.post.length) ⟨[], xs, rfl, hF.symm⟩ (by simp +decide (maxSteps := 4000000) only [go_sem, Nat.reduceAdd, Nat.reduceMul]; try simp) fun x K => ?_
    obtain ⟨pre, post, rfl, hinv⟩ := x
    repeat (first | (refine AWP.go env ?_; intro K fin; try simp +decide (maxSteps := 4000000) only [go_sem, Nat.reduceAdd, Nat.reduceMul]) | refine Kt.h _ _ ?_ | refine Ft.k (by decide +kernel) ?_ | ((first | refine ⟨_, isNameC, ?_⟩ | refine ⟨_, containsStringC (xs := pre), ?_⟩); simp +decide (maxSteps := 4000000) only [go_sem, Nat.reduceAdd, Nat.reduceMul]))
    cases post with
    | nil =>
      simp only [List.append_nil, Int.lt_irrefl, decide_false, cond2_false] at hinv ⊢
      repeat (first | (refine AWP.go env ?_; intro K fin; try simp +decide (maxSteps := 4000000) only [go_sem, Nat.reduceAdd, Nat.reduceMul]) | refine Kt.h _ _ ?_ | refine Ft.k (by decide +kernel) ?_ | ((first | refine ⟨_, isNameC, ?_⟩ | refine ⟨_, containsStringC (xs := pre), ?_⟩); simp +decide (maxSteps := 4000000) only [go_sem, Nat.reduceAdd, Nat.reduceMul]))
      exact hinv
    | cons x post =>
      have hlt : (pre.length : Int) < (pre ++ x :: post).length := by simp; omega
      have hp20 : pre.length < 20 := by simp at h; omega
      have v2 : IntKind.i64.wrap ((pre.length : Int) + 1) = ((pre.length + 1 : Nat) : Int) := by rw [wrap64 (by omega) (by omega)]; try rfl
      simp only [hlt, decide_true, cond2_true]
      repeat' (first | (first | (refine AWP.go env ?_; intro K fin; try simp +decide (maxSteps := 4000000) only [v2, take_at, go_sem, Nat.reduceAdd, Nat.reduceMul]) | refine Kt.h _ _ ?_ | refine Ft.k (by decide +kernel) ?_ | ((first | refine ⟨_, isNameC, ?_⟩ | refine ⟨_, containsStringC (xs := pre), ?_⟩); simp +decide (maxSteps := 4000000) only [v2, take_at, go_sem, Nat.reduceAdd, Nat.reduceMul])) | apply cond2_intro | with_reducible apply And.intro | intro h)
      all_goals first
        | omega
        | (rw [← hinv]; simp [namesGo, *]; done)
        | (refine ⟨⟨pre ++ [x], post, by simp, ?_⟩, by simp, by simp +decide (maxSteps := 4000000) only [go_sem, Nat.reduceAdd, Nat.reduceMul]; simp⟩
           rw [← hinv]; simp [namesGo, *])

theorem beq_symm (a b : List UInt8) : (a == b) = (b == a) := by
  by_cases h : a = b
  · subst h; rfl
  · rw [beq_eq_false_iff_ne.2 h, beq_eq_false_iff_ne.2 (Ne.symm h)]

theorem getR_at2 {X : Type} (f : X → List D) (a : List X) (y : X) (b : List X) (x : X) (post : List X) : getR ((a ++ y :: b ++ x :: post).map f) a.length = f y := by simp [getR]

theorem rNamesC {xs : List ByteArray} : Con Tryz.prog 261 [.fsl 1 (xs.map rS)] (.int .i64 (namesF xs)) := by
  refine ConC.con (ent _ Tryz.func261 rfl rfl) (con_of_body env Tryz.func261 rfl (nt := 34) (rs := [.tmp 2]) rfl rfl (Nat.le_of_ble_eq_true rfl) fun hok => ?_)
  repeat' (first | (first | (refine AWP.go env ?_; intro K fin; try simp +decide (maxSteps := 4000000) only [go_sem, Nat.reduceAdd, Nat.reduceMul]) | refine Kt.h _ _ ?_ | refine Ft.k (by decide +kernel) ?_ | ((first | refine ⟨_, isNameC, ?_⟩ | refine ⟨_, containsStringC (xs := pre), ?_⟩ | refine ⟨_, rIsNameC, ?_⟩); simp +decide (maxSteps := 4000000) only [go_sem, Nat.reduceAdd, Nat.reduceMul])) | apply cond2_intro | with_reducible apply And.intro | intro h)
  · have h : xs.length > 20 := by simp at h; omega
    simp [namesF, h]
  · have h : ¬ xs.length > 20 := by simp at h; omega
    have hF : namesF xs = namesGo [] xs := by simp [namesF, h]
    refine AWP.lp (α := Way xs fun pre post => namesGo pre post = namesF xs) (fun x => ⟨34, [(0, .fsl 1 (xs.map rS)), (3, .int .i64 x.pre.length)], []⟩) (fun x => x.post.length) ⟨[], xs, rfl, hF.symm⟩ (by simp +decide (maxSteps := 4000000) only [go_sem, Nat.reduceAdd, Nat.reduceMul]; try simp) fun x K => ?_
    obtain ⟨pre, post, rfl, hinv⟩ := x
    repeat (first | (refine AWP.go env ?_; intro K fin; try simp +decide (maxSteps := 4000000) only [go_sem, Nat.reduceAdd, Nat.reduceMul]) | refine Kt.h _ _ ?_ | refine Ft.k (by decide +kernel) ?_ | ((first | refine ⟨_, isNameC, ?_⟩ | refine ⟨_, containsStringC (xs := pre), ?_⟩ | refine ⟨_, rIsNameC, ?_⟩); simp +decide (maxSteps := 4000000) only [go_sem, Nat.reduceAdd, Nat.reduceMul]))
    cases post with
    | nil =>
      simp only [List.append_nil, Int.lt_irrefl, decide_false, cond2_false] at hinv ⊢
      repeat (first | (refine AWP.go env ?_; intro K fin; try simp +decide (maxSteps := 4000000) only [go_sem, Nat.reduceAdd, Nat.reduceMul]) | refine Kt.h _ _ ?_ | refine Ft.k (by decide +kernel) ?_ | ((first | refine ⟨_, isNameC, ?_⟩ | refine ⟨_, containsStringC (xs := pre), ?_⟩ | refine ⟨_, rIsNameC, ?_⟩); simp +decide (maxSteps := 4000000) only [go_sem, Nat.reduceAdd, Nat.reduceMul]))
      exact hinv
    | cons x post =>
      have hlt : (pre.length : Int) < (pre ++ x :: post).length := by simp; omega
      have hp20 : pre.length < 20 := by simp at h; omega
      have v2 : IntKind.i64.wrap ((pre.length : Int) + 1) = ((pre.length + 1 : Nat) : Int) := by rw [wrap64 (by omega) (by omega)]; try rfl
      simp only [hlt, decide_true, cond2_true]
      repeat' (first | (first | (refine AWP.go env ?_; intro K fin; try simp +decide (maxSteps := 4000000) only [v2, go_sem, Nat.reduceAdd, Nat.reduceMul]) | refine Kt.h _ _ ?_ | refine Ft.k (by decide +kernel) ?_ | ((first | refine ⟨_, isNameC, ?_⟩ | refine ⟨_, containsStringC (xs := pre), ?_⟩ | refine ⟨_, rIsNameC, ?_⟩); simp +decide (maxSteps := 4000000) only [v2, go_sem, Nat.reduceAdd, Nat.reduceMul])) | apply cond2_intro | with_reducible apply And.intro | intro h)
      all_goals try (first | omega | (rw [← hinv]; simp [namesGo, *]; done))
      refine AWP.lp (α := Way pre fun a b => a.any (fun y => x.toList == y.toList) = false) (fun w => ⟨34, [(0, .fsl 1 ((pre ++ x :: post).map rS)), (3, .int .i64 pre.length), (4, .int .i64 w.pre.length)], []⟩) (fun w => w.post.length) ⟨[], pre, rfl, rfl⟩ (by simp +decide (maxSteps := 4000000) only [go_sem, Nat.reduceAdd, Nat.reduceMul]; try simp) fun w K2 => ?_
      obtain ⟨a, b, hab, hany⟩ := w
      cases b with
      | nil =>
        have hab : pre = a := by simpa using hab
        have hn2 : ((a.length : Int) < (pre.length : Int)) = False := by simp [hab]
        repeat' (first | (first | (refine AWP.go env ?_; intro K fin; try simp +decide (maxSteps := 4000000) only [v2, hn2, go_sem, Nat.reduceAdd, Nat.reduceMul]) | refine Kt.h _ _ ?_ | refine Ft.k (by decide +kernel) ?_ | ((first | refine ⟨_, isNameC, ?_⟩ | refine ⟨_, containsStringC (xs := pre), ?_⟩ | refine ⟨_, rIsNameC, ?_⟩); simp +decide (maxSteps := 4000000) only [v2, hn2, go_sem, Nat.reduceAdd, Nat.reduceMul])) | apply cond2_intro | with_reducible apply And.intro | intro h)
        refine ⟨⟨pre ++ [x], post, by simp, ?_⟩, by simp, by simp +decide (maxSteps := 4000000) only [go_sem, Nat.reduceAdd, Nat.reduceMul]; simp⟩
        have h1 : isNameF x = true := by assumption
        rw [← hinv]; simp [namesGo, h1, hab, hany]
      | cons y b =>
        have hal : a.length < pre.length := by rw [hab]; simp
        have v3 : IntKind.i64.wrap ((a.length : Int) + 1) = ((a.length + 1 : Nat) : Int) := by rw [wrap64 (by omega) (by omega)]; try rfl
        have hn2 : ((a.length : Int) < (pre.length : Int)) = True := by simp [hal]
        have hget : getR ((pre ++ x :: post).map rS) a.length = rS y := by rw [hab]; simp [getR]
        have hal2 : (a.length : Int) < (pre ++ x :: post).length := by omega
        repeat' (first | (first | (refine AWP.go env ?_; intro K fin; try simp +decide (maxSteps := 4000000) only [v3, hget, hn2, go_sem, Nat.reduceAdd, Nat.reduceMul]) | refine Kt.h _ _ ?_ | refine Ft.k (by decide +kernel) ?_ | ((first | refine ⟨_, isNameC, ?_⟩ | refine ⟨_, containsStringC (xs := pre), ?_⟩ | refine ⟨_, rIsNameC, ?_⟩); simp +decide (maxSteps := 4000000) only [v3, hget, hn2, go_sem, Nat.reduceAdd, Nat.reduceMul])) | apply cond2_intro | with_reducible apply And.intro | intro h)
        all_goals try omega
        · have h1 : isNameF x = true := by assumption
          have h2 : (pre.any fun y => x.toList == y.toList) = true := by rw [hab]; simp [beq_symm x.toList y.toList, h]
          rw [← hinv]; simp [namesGo, h1, h2]
        · refine ⟨⟨a ++ [y], b, by simp [hab], ?_⟩, by simp, by simp +decide (maxSteps := 4000000) only [go_sem, Nat.reduceAdd, Nat.reduceMul]; simp⟩
          simp [hany, beq_symm x.toList y.toList, h]

end Go.Abs
/- Attributes. -/
set_option linter.unusedSimpArgs false
set_option linter.unusedVariables false
set_option maxRecDepth 20000
set_option maxHeartbeats 2000000
namespace Go.Abs
open Go Go.RowKit Go.Proofs
attribute [local irreducible] Con AWP

theorem DOk.agg_mem {cs : List D} {d : D} (h : DOk (.agg cs)) (hd : d ∈ cs) : DOk d := by cases h with | agg _ h => exact h d hd

theorem attrSameC {x y : Attr} : Con Tryz.prog 242 [.agg (rAttr y), .fptr (rAttr x) 0] (.bool (y.name.toList == x.name.toList)) := by
  refine ConC.con (ent _ Tryz.func242 rfl rfl) (con_of_body env Tryz.func242 rfl (nt := 9) (rs := [.tmp 3]) rfl rfl (Nat.le_of_ble_eq_true rfl) fun hok => ?_)
  unfold rAttr
  repeat' (first | (first | (refine AWP.go env ?_; intro K fin; try simp +decide (maxSteps := 4000000) only [go_sem, Nat.reduceAdd, Nat.reduceMul]) | refine Kt.h _ _ ?_ | refine Ft.k (by decide +kernel) ?_) | apply cond2_intro | with_reducible apply And.intro | intro h)

def boundsF (x : Attr) : Bool := if x.names.length > 0 then decide (x.low = 0) && decide (x.high = x.names.length - 1) else decide (-1000000 ≤ x.low) && decide (x.low ≤ x.high) && decide (x.high ≤ 1000000)

def attributeF (x : Attr) (before : List Attr) : Int :=
  if isNameF x.name = false then 2 else if (before.any fun y => y.name.toList == x.name.toList) = true then 5 else if namesF x.names ≠ 0 then namesF x.names else if boundsF x then 0 else 6

theorem attributeC {x : Attr} {before : List Attr} : Con Tryz.prog 180 [.agg (rAttr x), .fsl 4 (before.map rAttr)] (.int .i64 (attributeF x before)) := by
  refine ConC.con (ent _ Tryz.func180 rfl rfl) (con_of_body env Tryz.func180 rfl (nt := 55) (rs := [.tmp 4]) rfl rfl (Nat.le_of_ble_eq_true rfl) fun hok => ?_)
  have hl := hok _ (List.mem_cons_self ..)
  have hx : rAttr x = [.str x.name, .int .i64 x.low, .int .i64 x.high, .fsl 1 (x.names.map rS)] := rfl
  have hn : x.names.length ≤ 140737488355328 := by
    have := DOk.len (DOk.agg_mem hl (d := .fsl 1 (x.names.map rS)) (by simp [rAttr]))
    simpa using this
  have hw : IntKind.i64.wrap ((x.names.length : Int) - 1) = (x.names.length : Int) - 1 := by rw [wrap64 (by omega) (by omega)]
  rw [hx]
  repeat' (first | (first | (refine AWP.go env ?_; intro K fin; try simp +decide (maxSteps := 4000000) only [hw, go_sem, Nat.reduceAdd, Nat.reduceMul]) | refine Kt.h _ _ ?_ | refine Ft.k (by decide +kernel) ?_ | ((first | refine ⟨_, isNameC, ?_⟩ | refine ⟨_, namesC, ?_⟩ | refine ⟨_, contFuncAttrC (caps := [.fptr (rAttr x) 0]) (p := fun y => y.name.toList == x.name.toList) (xs := before) (fun _ => rfl) (fun _ => rfl) (fun _ => rfl) (fun _ _ => attrSameC), ?_⟩); simp +decide (maxSteps := 4000000) only [hw, go_sem, Nat.reduceAdd, Nat.reduceMul])) | apply cond2_intro | with_reducible apply And.intro | intro h)
  all_goals (unfold attributeF; try unfold boundsF; grind)

theorem rInC {n a b : Int} : Con Tryz.prog 202 [.int .i64 n, .int .i64 a, .int .i64 b] (.bool (decide (a ≤ n) && decide (n ≤ b))) := by
  refine ConC.con (ent _ Tryz.func202 rfl rfl) (con_of_body env Tryz.func202 rfl (nt := 15) (rs := [.tmp 6]) rfl rfl (Nat.le_of_ble_eq_true rfl) fun hok => ?_)
  repeat' (first | (first | (refine AWP.go env ?_; intro K fin; try simp +decide (maxSteps := 4000000) only [go_sem, Nat.reduceAdd, Nat.reduceMul]) | refine Kt.h _ _ ?_ | refine Ft.k (by decide +kernel) ?_ | ((first | refine ⟨_, isNameC, ?_⟩ | refine ⟨_, namesC, ?_⟩ | refine ⟨_, contFuncAttrC (caps := [.fptr (rAttr x) 0]) (p := fun y => y.name.toList == x.name.toList) (xs := before) (fun _ => rfl) (fun _ => rfl) (fun _ => rfl) (fun _ _ => attrSameC), ?_⟩); simp +decide (maxSteps := 4000000) only [go_sem, Nat.reduceAdd, Nat.reduceMul])) | apply cond2_intro | with_reducible apply And.intro | intro h)
  all_goals grind

def rAttributeF (x : Attr) : Int := if namesF x.names ≠ 0 then namesF x.names else if boundsF x then 0 else 6

theorem rAttributeC {x : Attr} : Con Tryz.prog 204 [.agg (rAttr x)] (.int .i64 (rAttributeF x)) := by
  refine ConC.con (ent _ Tryz.func204 rfl rfl) (con_of_body env Tryz.func204 rfl (nt := 38) (rs := [.tmp 2]) rfl rfl (Nat.le_of_ble_eq_true rfl) fun hok => ?_)
  have hl := hok _ (List.mem_cons_self ..)
  have hx : rAttr x = [.str x.name, .int .i64 x.low, .int .i64 x.high, .fsl 1 (x.names.map rS)] := rfl
  have hn : x.names.length ≤ 140737488355328 := by
    have := DOk.len (DOk.agg_mem hl (d := .fsl 1 (x.names.map rS)) (by simp [rAttr]))
    simpa using this
  have hw : IntKind.i64.wrap ((x.names.length : Int) - 1) = (x.names.length : Int) - 1 := by rw [wrap64 (by omega) (by omega)]
  have h0 : x.names.length = 0 → namesF x.names = 0 := fun h => by
    have : x.names = [] := List.eq_nil_of_length_eq_zero h
    rw [this]; try rfl
  rw [hx]
  repeat' (first | (first | (refine AWP.go env ?_; intro K fin; try simp +decide (maxSteps := 4000000) only [hw, go_sem, Nat.reduceAdd, Nat.reduceMul]) | refine Kt.h _ _ ?_ | refine Ft.k (by decide +kernel) ?_ | ((first | refine ⟨_, isNameC, ?_⟩ | refine ⟨_, namesC, ?_⟩ | refine ⟨_, contFuncAttrC (caps := [.fptr (rAttr x) 0]) (p := fun y => y.name.toList == x.name.toList) (xs := before) (fun _ => rfl) (fun _ => rfl) (fun _ => rfl) (fun _ _ => attrSameC), ?_⟩ | refine ⟨_, rInC, ?_⟩ | refine ⟨_, rNamesC, ?_⟩); simp +decide (maxSteps := 4000000) only [hw, go_sem, Nat.reduceAdd, Nat.reduceMul])) | apply cond2_intro | with_reducible apply And.intro | intro h)
  all_goals (unfold rAttributeF; try unfold boundsF; grind)
end Go.Abs
/- Attributes of node types, inherited ones first. -/
set_option linter.unusedSimpArgs false
set_option linter.unusedVariables false
set_option maxRecDepth 20000
set_option maxHeartbeats 2000000
namespace Go.Abs
open Go Go.RowKit Go.Proofs
attribute [local irreducible] Con AWP

instance : Inhabited NodeT := ⟨⟨⟨#[]⟩, 0, false, []⟩⟩

def nodeAt (t : Types) (a : Nat) : NodeT := t.nodes.getD a default

def attrsF (t : Types) : Nat → Nat → List Attr
  | 0, _ => []
  | f + 1, a => (if (nodeAt t a).parent ≥ 0 then attrsF t f (nodeAt t a).parent.toNat else []) ++ (nodeAt t a).attrs

theorem getR_node {t : Types} {a : Nat} (h : a < t.nodes.length) : getR (t.nodes.map rNodeT) a = rNodeT (nodeAt t a) := by
  rw [getR_map _ _ _ h]; simp [nodeAt, h]

theorem attrsF_fuel {t : Types} : ∀ (a f : Nat), (∀ b, b ≤ a → (nodeAt t b).parent < b) → a < f → attrsF t f a = attrsF t (a + 1) a := by
  intro a
  induction a using Nat.strongRecOn with
  | _ a ih =>
  intro f hp hf
  obtain ⟨f, rfl⟩ : ∃ g, f = g + 1 := ⟨f - 1, by omega⟩
  simp only [attrsF]
  by_cases h : (nodeAt t a).parent ≥ 0
  · have hpa := hp a (Nat.le_refl a)
    rw [if_pos h, if_pos h]
    rw [ih (nodeAt t a).parent.toNat (by omega) f (fun b hb => hp b (by omega)) (by omega), ih (nodeAt t a).parent.toNat (by omega) a (fun b hb => hp b (by omega)) (by omega)]
  · rw [if_neg h, if_neg h]

theorem attrsC {t : Types} : ∀ (a : Nat), a < t.nodes.length → (∀ b, b ≤ a → (nodeAt t b).parent < b) → (∀ b, b ≤ a → (attrsF t (b + 1) b).length ≤ 100) → Con Tryz.prog 179 [dTypes t, .int .i64 a] (.nsl 118 4 ((attrsF t (a + 1) a).map rAttr)) := by
  intro a
  induction a using Nat.strongRecOn with
  | _ a ih =>
  intro ha hp hlen
  have hg := getR_node ha
  have hpa := hp a (Nat.le_refl a)
  have hla := hlen a (Nat.le_refl a)
  by_cases hpar : 0 ≤ (nodeAt t a).parent
  · obtain ⟨p, hpe⟩ := Int.eq_ofNat_of_zero_le hpar
    have hN : rNodeT (nodeAt t a) = [.str (nodeAt t a).name, .int .i64 (p : Int), .bool (nodeAt t a).abstr, .fsl 4 ((nodeAt t a).attrs.map rAttr)] := by rw [← hpe]; try rfl
    have hF : attrsF t (a + 1) a = attrsF t (p + 1) p ++ (nodeAt t a).attrs := by
      rw [show attrsF t (a + 1) a = (if (nodeAt t a).parent ≥ 0 then attrsF t a (nodeAt t a).parent.toNat else []) ++ (nodeAt t a).attrs from rfl, if_pos hpar, hpe, Int.toNat_natCast, attrsF_fuel p a (fun b hb => hp b (by omega)) (by omega)]
    have hC := ih p (by omega) (by omega) (fun b hb => hp b (by omega)) (fun b hb => hlen b (by omega))
    have hp0 : (0 ≤ (p : Int)) = True := by simp
    rw [hF] at hla ⊢
    refine ConC.con (ent _ Tryz.func179 rfl rfl) (con_of_body env Tryz.func179 rfl (nt := 26) (rs := [.tmp 4]) rfl rfl (Nat.le_of_ble_eq_true rfl) fun hok => ?_)
    repeat' (first | (first | (refine AWP.go env ?_; intro K fin; try simp +decide (maxSteps := 4000000) only [hg, hN, hp0, go_sem, Nat.reduceAdd, Nat.reduceMul]) | refine Kt.h _ _ ?_ | refine Ft.k (by decide +kernel) ?_) | apply cond2_intro | with_reducible apply And.intro | intro h)
    all_goals try omega
    refine ⟨_, hC, ?_⟩
    simp +decide (maxSteps := 4000000) only [hg, hN, go_sem, Nat.reduceAdd, Nat.reduceMul]
    repeat' (first | (first | (refine AWP.go env ?_; intro K fin; try simp +decide (maxSteps := 4000000) only [hg, hN, go_sem, Nat.reduceAdd, Nat.reduceMul]) | refine Kt.h _ _ ?_ | refine Ft.k (by decide +kernel) ?_) | apply cond2_intro | with_reducible apply And.intro | intro h)
    all_goals (try simp only [List.length_append] at hla)
    all_goals first | (unfold lim; omega) | omega | (simp; done) | rfl
  · have hN : rNodeT (nodeAt t a) = [.str (nodeAt t a).name, .int .i64 (nodeAt t a).parent, .bool (nodeAt t a).abstr, .fsl 4 ((nodeAt t a).attrs.map rAttr)] := rfl
    have hF : attrsF t (a + 1) a = (nodeAt t a).attrs := by
      rw [show attrsF t (a + 1) a = (if (nodeAt t a).parent ≥ 0 then attrsF t a (nodeAt t a).parent.toNat else []) ++ (nodeAt t a).attrs from rfl, if_neg hpar]; try rfl
    have hp0 : (0 ≤ (nodeAt t a).parent) = False := by simpa using hpar
    rw [hF] at hla ⊢
    refine ConC.con (ent _ Tryz.func179 rfl rfl) (con_of_body env Tryz.func179 rfl (nt := 26) (rs := [.tmp 4]) rfl rfl (Nat.le_of_ble_eq_true rfl) fun hok => ?_)
    repeat' (first | (first | (refine AWP.go env ?_; intro K fin; try simp +decide (maxSteps := 4000000) only [hg, hN, hp0, go_sem, Nat.reduceAdd, Nat.reduceMul]) | refine Kt.h _ _ ?_ | refine Ft.k (by decide +kernel) ?_) | apply cond2_intro | with_reducible apply And.intro | intro h)
    all_goals try omega
    all_goals (try simp only [List.length_append] at hla)
    all_goals first | (unfold lim; omega) | omega | (simp; done) | rfl
end Go.Abs
/- Attributes of node types, of the specification. -/
set_option linter.unusedSimpArgs false
set_option linter.unusedVariables false
set_option maxRecDepth 20000
set_option maxHeartbeats 2000000
namespace Go.Abs
open Go Go.RowKit Go.Proofs
attribute [local irreducible] Con AWP

theorem rAttrsNegC {t : Types} {a : Int} (ha : a < 0) : Con Tryz.prog 203 [dTypes t, .int .i64 a] .nil := by
  refine ConC.con (ent _ Tryz.func203 rfl rfl) (con_of_body env Tryz.func203 rfl (nt := 24) (rs := [.tmp 4]) rfl rfl (Nat.le_of_ble_eq_true rfl) fun hok => ?_)
  have h0 : (a < 0) = True := by simpa using ha
  repeat' (first | (first | (refine AWP.go env ?_; intro K fin; try simp +decide (maxSteps := 4000000) only [h0, go_sem, Nat.reduceAdd, Nat.reduceMul]) | refine Kt.h _ _ ?_ | refine Ft.k (by decide +kernel) ?_) | apply cond2_intro | with_reducible apply And.intro | intro h)
  all_goals first | omega | rfl

theorem rAttrsC {t : Types} : ∀ (a : Nat), a < t.nodes.length → (∀ b, b ≤ a → (nodeAt t b).parent < b) → (∀ b, b ≤ a → (attrsF t (b + 1) b).length ≤ 100) → Con Tryz.prog 203 [dTypes t, .int .i64 a] (.nsl 118 4 ((attrsF t (a + 1) a).map rAttr)) := by
  intro a
  induction a using Nat.strongRecOn with
  | _ a ih =>
  intro ha hp hlen
  have hg := getR_node ha
  have hpa := hp a (Nat.le_refl a)
  have hla := hlen a (Nat.le_refl a)
  have hneg : ((a : Int) < 0) = False := by simp
  by_cases hpar : 0 ≤ (nodeAt t a).parent
  · obtain ⟨p, hpe⟩ := Int.eq_ofNat_of_zero_le hpar
    have hN : rNodeT (nodeAt t a) = [.str (nodeAt t a).name, .int .i64 (p : Int), .bool (nodeAt t a).abstr, .fsl 4 ((nodeAt t a).attrs.map rAttr)] := by rw [← hpe]; try rfl
    have hF : attrsF t (a + 1) a = attrsF t (p + 1) p ++ (nodeAt t a).attrs := by
      rw [show attrsF t (a + 1) a = (if (nodeAt t a).parent ≥ 0 then attrsF t a (nodeAt t a).parent.toNat else []) ++ (nodeAt t a).attrs from rfl, if_pos hpar, hpe, Int.toNat_natCast, attrsF_fuel p a (fun b hb => hp b (by omega)) (by omega)]
    have hC := ih p (by omega) (by omega) (fun b hb => hp b (by omega)) (fun b hb => hlen b (by omega))
    rw [hF] at hla ⊢
    simp only [List.length_append] at hla
    refine ConC.con (ent _ Tryz.func203 rfl rfl) (con_of_body env Tryz.func203 rfl (nt := 24) (rs := [.tmp 4]) rfl rfl (Nat.le_of_ble_eq_true rfl) fun hok => ?_)
    repeat' (first | (first | (refine AWP.go env ?_; intro K fin; try simp +decide (maxSteps := 4000000) only [hg, hN, hneg, go_sem, Nat.reduceAdd, Nat.reduceMul]) | refine Kt.h _ _ ?_ | refine Ft.k (by decide +kernel) ?_) | apply cond2_intro | with_reducible apply And.intro | intro h)
    all_goals try omega
    refine ⟨_, hC, ?_⟩
    simp +decide (maxSteps := 4000000) only [hg, hN, go_sem, Nat.reduceAdd, Nat.reduceMul]
    repeat' (first | (first | (refine AWP.go env ?_; intro K fin; try simp +decide (maxSteps := 4000000) only [hg, hN, go_sem, Nat.reduceAdd, Nat.reduceMul]) | refine Kt.h _ _ ?_ | refine Ft.k (by decide +kernel) ?_) | apply cond2_intro | with_reducible apply And.intro | intro h)
    all_goals try (first | (unfold lim; omega) | (unfold lim; simp; omega) | omega | (simp; done) | rfl)
  · have hN : rNodeT (nodeAt t a) = [.str (nodeAt t a).name, .int .i64 (nodeAt t a).parent, .bool (nodeAt t a).abstr, .fsl 4 ((nodeAt t a).attrs.map rAttr)] := rfl
    have hF : attrsF t (a + 1) a = (nodeAt t a).attrs := by
      rw [show attrsF t (a + 1) a = (if (nodeAt t a).parent ≥ 0 then attrsF t a (nodeAt t a).parent.toNat else []) ++ (nodeAt t a).attrs from rfl, if_neg hpar]; try rfl
    have hC := rAttrsNegC (t := t) (a := (nodeAt t a).parent) (by omega)
    rw [hF] at hla ⊢
    refine ConC.con (ent _ Tryz.func203 rfl rfl) (con_of_body env Tryz.func203 rfl (nt := 24) (rs := [.tmp 4]) rfl rfl (Nat.le_of_ble_eq_true rfl) fun hok => ?_)
    repeat' (first | (first | (refine AWP.go env ?_; intro K fin; try simp +decide (maxSteps := 4000000) only [hg, hN, hneg, go_sem, Nat.reduceAdd, Nat.reduceMul]) | refine Kt.h _ _ ?_ | refine Ft.k (by decide +kernel) ?_) | apply cond2_intro | with_reducible apply And.intro | intro h)
    all_goals try omega
    refine ⟨_, hC, ?_⟩
    simp +decide (maxSteps := 4000000) only [hg, hN, go_sem, Nat.reduceAdd, Nat.reduceMul]
    repeat' (first | (first | (refine AWP.go env ?_; intro K fin; try simp +decide (maxSteps := 4000000) only [hg, hN, go_sem, Nat.reduceAdd, Nat.reduceMul]) | refine Kt.h _ _ ?_ | refine Ft.k (by decide +kernel) ?_) | apply cond2_intro | with_reducible apply And.intro | intro h)
    all_goals first | (unfold lim; omega) | (unfold lim; simp; omega) | omega | (simp; done) | rfl | decide
end Go.Abs
/- Edge types. -/
set_option linter.unusedSimpArgs false
set_option linter.unusedVariables false
set_option maxRecDepth 20000
set_option maxHeartbeats 2000000
namespace Go.Abs
open Go Go.RowKit Go.Proofs
attribute [local irreducible] Con AWP

def boundF (low high : Int) : Bool := decide (0 ≤ low) && decide (low ≤ 40) && (decide (high = -1) || (decide (low ≤ high) && decide (high ≤ 40)))

theorem boundedC {low high : Int} : Con Tryz.prog 184 [.int .i64 low, .int .i64 high] (.bool (boundF low high)) := by
  refine ConC.con (ent _ Tryz.func184 rfl rfl) (con_of_body env Tryz.func184 rfl (nt := 24) (rs := [.tmp 4]) rfl rfl (Nat.le_of_ble_eq_true rfl) fun hok => ?_)
  unfold boundF
  repeat' (first | (first | (refine AWP.go env ?_; intro K fin; try simp +decide (maxSteps := 4000000) only [go_sem, Nat.reduceAdd, Nat.reduceMul]) | refine Kt.h _ _ ?_ | refine Ft.k (by decide +kernel) ?_) | apply cond2_intro | with_reducible apply And.intro | intro h)
  all_goals grind

theorem rBoundC {low high : Int} : Con Tryz.prog 205 [.int .i64 low, .int .i64 high] (.bool (boundF low high)) := by
  refine ConC.con (ent _ Tryz.func205 rfl rfl) (con_of_body env Tryz.func205 rfl (nt := 16) (rs := [.tmp 4]) rfl rfl (Nat.le_of_ble_eq_true rfl) fun hok => ?_)
  unfold boundF
  repeat' (first | (first | (refine AWP.go env ?_; intro K fin; try simp +decide (maxSteps := 4000000) only [go_sem, Nat.reduceAdd, Nat.reduceMul]) | refine Kt.h _ _ ?_ | refine Ft.k (by decide +kernel) ?_ | (refine ⟨_, rInC, ?_⟩; simp +decide (maxSteps := 4000000) only [go_sem, Nat.reduceAdd, Nat.reduceMul])) | apply cond2_intro | with_reducible apply And.intro | intro h)
  all_goals grind

theorem edgeTSameC {x y : EdgeT} : Con Tryz.prog 183 [.agg (rEdgeT y), .fptr (rEdgeT x) 0] (.bool (y.name.toList == x.name.toList)) := by
  refine ConC.con (ent _ Tryz.func183 rfl rfl) (con_of_body env Tryz.func183 rfl (nt := 9) (rs := [.tmp 3]) rfl rfl (Nat.le_of_ble_eq_true rfl) fun hok => ?_)
  unfold rEdgeT
  repeat' (first | (first | (refine AWP.go env ?_; intro K fin; try simp +decide (maxSteps := 4000000) only [go_sem, Nat.reduceAdd, Nat.reduceMul]) | refine Kt.h _ _ ?_ | refine Ft.k (by decide +kernel) ?_ | (refine ⟨_, rInC, ?_⟩; simp +decide (maxSteps := 4000000) only [go_sem, Nat.reduceAdd, Nat.reduceMul])) | apply cond2_intro | with_reducible apply And.intro | intro h)
  all_goals try decide

theorem nodeSameC {x y : NodeT} : Con Tryz.prog 178 [.agg (rNodeT y), .fptr (rNodeT x) 0] (.bool (y.name.toList == x.name.toList)) := by
  refine ConC.con (ent _ Tryz.func178 rfl rfl) (con_of_body env Tryz.func178 rfl (nt := 9) (rs := [.tmp 3]) rfl rfl (Nat.le_of_ble_eq_true rfl) fun hok => ?_)
  unfold rNodeT
  repeat' (first | (first | (refine AWP.go env ?_; intro K fin; try simp +decide (maxSteps := 4000000) only [go_sem, Nat.reduceAdd, Nat.reduceMul]) | refine Kt.h _ _ ?_ | refine Ft.k (by decide +kernel) ?_ | (refine ⟨_, rInC, ?_⟩; simp +decide (maxSteps := 4000000) only [go_sem, Nat.reduceAdd, Nat.reduceMul])) | apply cond2_intro | with_reducible apply And.intro | intro h)
  all_goals try decide

end Go.Abs
/- Edge types, whole. -/
set_option linter.unusedSimpArgs false
set_option linter.unusedVariables false
set_option maxRecDepth 20000
set_option maxHeartbeats 2000000
namespace Go.Abs
open Go Go.RowKit Go.Proofs
attribute [local irreducible] Con AWP

theorem insideC {t : Types} {n : Int} : Con Tryz.prog 181 [.int .i64 n, .fptr [.fsl 4 (t.nodes.map rNodeT), .fsl 7 (t.edges.map rEdgeT)] 0] (.bool (decide (0 ≤ n) && decide (n < t.nodes.length))) := by
  refine ConC.con (ent _ Tryz.func181 rfl rfl) (con_of_body env Tryz.func181 rfl (nt := 13) (rs := [.tmp 3]) rfl rfl (Nat.le_of_ble_eq_true rfl) fun hok => ?_)
  repeat' (first | (first | (refine AWP.go env ?_; intro K fin; try simp +decide (maxSteps := 4000000) only [go_sem, Nat.reduceAdd, Nat.reduceMul]) | refine Kt.h _ _ ?_ | refine Ft.k (by decide +kernel) ?_) | apply cond2_intro | with_reducible apply And.intro | intro h)
  all_goals try (first | decide | grind)

def insB (t : Types) (n : Int) : Bool := decide (0 ≤ n) && decide (n < t.nodes.length)

def edgeTF (t : Types) (pre : List EdgeT) (e : EdgeT) : Int :=
  if isNameF e.name = false then 2 else if (pre.any fun y => y.name.toList == e.name.toList) = true then 5
  else if (insB t e.src && insB t e.tgt && boundF e.outLow e.outHigh && boundF e.inLow e.inHigh) = true then 0 else 6

theorem edgeTC {t : Types} {pre post : List EdgeT} {e : EdgeT} (he : t.edges = pre ++ e :: post) : Con Tryz.prog 106 [dTypes t, .int .i64 (pre.length : Int)] (.int .i64 (edgeTF t pre e)) := by
  refine ConC.con (ent _ Tryz.func106 rfl rfl) (con_of_body env Tryz.func106 rfl (nt := 52) (rs := [.tmp 4]) rfl rfl (Nat.le_of_ble_eq_true rfl) fun hok => ?_)
  have hg : getR (t.edges.map rEdgeT) pre.length = [.str e.name, .int .i64 e.src, .int .i64 e.tgt, .int .i64 e.outLow, .int .i64 e.outHigh, .int .i64 e.inLow, .int .i64 e.inHigh] := by rw [he]; simp [getR, rEdgeT]
  have htk : (t.edges.map rEdgeT).take pre.length = pre.map rEdgeT := by rw [he]; simp
  have hle : (pre.length : Int) < t.edges.length := by rw [he]; simp; omega
  repeat' (first | (first | (refine AWP.go env ?_; intro K fin; try simp +decide (maxSteps := 4000000) only [hg, htk, go_sem, Nat.reduceAdd, Nat.reduceMul]) | refine Kt.h _ _ ?_ | refine Ft.k (by decide +kernel) ?_ | ((first | refine ⟨_, isNameC, ?_⟩ | refine ⟨_, insideC (t := t), ?_⟩ | refine ⟨_, boundedC, ?_⟩ | refine ⟨_, contFuncEdgeTypeC (caps := [.fptr (rEdgeT e) 0]) (p := fun y => y.name.toList == e.name.toList) (xs := pre) (fun _ => rfl) (fun _ => rfl) (fun _ => rfl) (fun _ _ => edgeTSameC), ?_⟩); simp +decide (maxSteps := 4000000) only [hg, htk, go_sem, Nat.reduceAdd, Nat.reduceMul])) | apply cond2_intro | with_reducible apply And.intro | intro h)
  all_goals try omega
  all_goals try decide
  all_goals try (unfold edgeTF insB; grind)
  all_goals (simp only [List.mem_cons, List.not_mem_nil, or_false] at h; rcases h with rfl | rfl | rfl | rfl | rfl | rfl | rfl <;> rfl)
end Go.Abs
/- Edge types, of the specification. -/
set_option linter.unusedSimpArgs false
set_option linter.unusedVariables false
set_option maxRecDepth 20000
set_option maxHeartbeats 2000000
namespace Go.Abs
open Go Go.RowKit Go.Proofs
attribute [local irreducible] Con AWP

theorem rEdgeTC {t : Types} {pre post : List EdgeT} {e : EdgeT} (he : t.edges = pre ++ e :: post) : Con Tryz.prog 126 [dTypes t, .int .i64 (pre.length : Int)] (.int .i64 (edgeTF t pre e)) := by
  refine ConC.con (ent _ Tryz.func126 rfl rfl) (con_of_body env Tryz.func126 rfl (nt := 63) (rs := [.tmp 4]) rfl rfl (Nat.le_of_ble_eq_true rfl) fun hok => ?_)
  have hnl : t.nodes.length ≤ 140737488355328 := by
    have := DOk.len (DOk.agg_mem (hok _ (List.mem_cons_self ..)) (d := .fsl 4 (t.nodes.map rNodeT)) (by simp))
    simpa using this
  have hel : t.edges.length ≤ 140737488355328 := by
    have := DOk.len (DOk.agg_mem (hok _ (List.mem_cons_self ..)) (d := .fsl 7 (t.edges.map rEdgeT)) (by simp))
    simpa using this
  have hg : getR (t.edges.map rEdgeT) pre.length = [.str e.name, .int .i64 e.src, .int .i64 e.tgt, .int .i64 e.outLow, .int .i64 e.outHigh, .int .i64 e.inLow, .int .i64 e.inHigh] := by rw [he]; simp [getR, rEdgeT]
  have hle : (pre.length : Int) < t.edges.length := by rw [he]; simp; omega
  have hw : IntKind.i64.wrap ((t.nodes.length : Int) - 1) = (t.nodes.length : Int) - 1 := by rw [wrap64 (by omega) (by omega)]
  repeat' (first | (first | (refine AWP.go env ?_; intro K fin; try simp +decide (maxSteps := 4000000) only [hg, hw, go_sem, Nat.reduceAdd, Nat.reduceMul]) | refine Kt.h _ _ ?_ | refine Ft.k (by decide +kernel) ?_ | ((first | refine ⟨_, rIsNameC, ?_⟩ | refine ⟨_, rInC, ?_⟩ | refine ⟨_, rBoundC, ?_⟩); simp +decide (maxSteps := 4000000) only [hg, hw, go_sem, Nat.reduceAdd, Nat.reduceMul])) | apply cond2_intro | with_reducible apply And.intro | intro h)
  all_goals try omega
  all_goals try decide
  all_goals try (unfold edgeTF; grind; done)
  · simp only [List.mem_cons, List.not_mem_nil, or_false] at h; rcases h with rfl | rfl | rfl | rfl | rfl | rfl | rfl <;> rfl
  refine AWP.lp (α := Way pre fun a b => a.any (fun y => y.name.toList == e.name.toList) = false)
    (fun w => ⟨63, [(1, .int .i64 pre.length), (2, .ptr 200 0 0 0), (5, .ptr 500 0 0 0), (6, .int .i64 w.pre.length)],
      [(200, ⟨0, true, true, 2, 25, [[.fsl 4 (t.nodes.map rNodeT), .fsl 7 (t.edges.map rEdgeT)]]⟩), (500, ⟨0, true, true, 7, 120, [[.str e.name, .int .i64 e.src, .int .i64 e.tgt, .int .i64 e.outLow, .int .i64 e.outHigh, .int .i64 e.inLow, .int .i64 e.inHigh]]⟩)]⟩) (fun w => w.post.length) ⟨[], pre, rfl, rfl⟩ (by simp +decide (maxSteps := 4000000) only [go_sem, Nat.reduceAdd, Nat.reduceMul]; try simp) fun w K => ?_
  obtain ⟨a, b, hab, hany⟩ := w
  cases b with
  | nil =>
    have hab : pre = a := by simpa using hab
    have hn2 : ((a.length : Int) < (pre.length : Int)) = False := by simp [hab]
    have h1 : isNameF e.name = true := by assumption
    rw [← hab] at hany
    have q1 : ∀ z : Int, decide (z ≤ (t.nodes.length : Int) - 1) = decide (z < (t.nodes.length : Int)) := fun z => decide_eq_decide.2 (by omega)
    have q2 : ∀ z : Int, (decide (0 ≤ z) && decide (z < (t.nodes.length : Int))) = insB t z := fun z => rfl
    repeat' (first | (first | (refine AWP.go env ?_; intro K fin; try simp +decide (maxSteps := 4000000) only [hn2, hw, q1, q2, go_sem, Nat.reduceAdd, Nat.reduceMul]) | refine Kt.h _ _ ?_ | refine Ft.k (by decide +kernel) ?_ | ((first | refine ⟨_, rIsNameC, ?_⟩ | refine ⟨_, rInC, ?_⟩ | refine ⟨_, rBoundC, ?_⟩); simp +decide (maxSteps := 4000000) only [hn2, hw, q1, q2, go_sem, Nat.reduceAdd, Nat.reduceMul])) | apply cond2_intro | with_reducible apply And.intro | intro h)
    all_goals (unfold edgeTF; rw [if_neg (by rw [h1]; decide), hany]; simp only [*]; try rfl)
  | cons y b =>
    have hal : a.length < pre.length := by rw [hab]; simp
    have v3 : IntKind.i64.wrap ((a.length : Int) + 1) = ((a.length + 1 : Nat) : Int) := by rw [wrap64 (by omega) (by omega)]; try rfl
    have hn2 : ((a.length : Int) < (pre.length : Int)) = True := by simp [hal]
    have hget : getR (t.edges.map rEdgeT) a.length = [.str y.name, .int .i64 y.src, .int .i64 y.tgt, .int .i64 y.outLow, .int .i64 y.outHigh, .int .i64 y.inLow, .int .i64 y.inHigh] := by rw [he, hab]; simp [getR, rEdgeT]
    have h1 : isNameF e.name = true := by assumption
    repeat' (first | (first | (refine AWP.go env ?_; intro K fin; try simp +decide (maxSteps := 4000000) only [v3, hget, hn2, go_sem, Nat.reduceAdd, Nat.reduceMul]) | refine Kt.h _ _ ?_ | refine Ft.k (by decide +kernel) ?_ | ((first | refine ⟨_, rIsNameC, ?_⟩ | refine ⟨_, rInC, ?_⟩ | refine ⟨_, rBoundC, ?_⟩); simp +decide (maxSteps := 4000000) only [v3, hget, hn2, go_sem, Nat.reduceAdd, Nat.reduceMul])) | apply cond2_intro | with_reducible apply And.intro | intro h)
    all_goals try omega
    all_goals try decide
    · have h2 : (pre.any fun y => y.name.toList == e.name.toList) = true := by rw [hab]; simp [h]
      unfold edgeTF; simp [h1, h2]
    · refine ⟨⟨a ++ [y], b, by simp [hab], ?_⟩, by simp, by simp +decide (maxSteps := 4000000) only [go_sem, Nat.reduceAdd, Nat.reduceMul]; simp⟩
      simp [hany, h]
end Go.Abs
/- A fresh slice among results, by value. -/
namespace Go.Abs
open Go Go.RowKit

theorem Post.frz {w w' : World} {Z0 : Nat → Prop} (hZ : ∀ b, Z0 b → b < w.heap.size) {ty sz : Nat} {rows : List (List D)} {v : Value} (h : Post w Z0 (.nsl ty sz rows) v w') : Post w Z0 (.fsl sz rows) v w' := by
  obtain ⟨hb, vals, hp⟩ := h
  refine ⟨hb, fun _ => Go.undef, fun off vf => ⟨⟨fun i j oi oj b hi => (by cases hi), fun i o hi => (by cases hi)⟩, ?_⟩⟩
  obtain ⟨hG, hE⟩ := hp 0 (fun _ => 0)
  have hG' : Good w' w.heap.size Z0 [(0 + 0, (⟨0, true, false, sz, ty, rows⟩ : Ob))] (fun i => vals (i - 0)) := hG
  have hE' : EncS w' Z0 [(0 + 0, (⟨0, true, false, sz, ty, rows⟩ : Ob))] (fun i => vals (i - 0)) (.osl (0 + 0) 0) v := hE
  have hR : RelF w Z0 (fun i => vals (i - 0)) ⟨0, [], [(0 + 0, (⟨0, true, false, sz, ty, rows⟩ : Ob))]⟩ ⟨#[], []⟩ w' :=
    ⟨rfl, rfl, fun n => .undef _, hG', hb, hZ⟩
  show EncS w' Z0 [] _ (.fsl sz rows) v
  refine osl_value hR (id := 0) (ver := 0) (b := ⟨0, true, false, sz, ty, rows⟩) hE' rfl rfl rfl ⟨fun b _ hz h => hz ?_, fun id hi b hbk h => ?_⟩
  · rcases h with h | ⟨_, _, h, _⟩
    · exact .inl h
    · cases h
  · obtain rfl : id = 0 := by simpa using hi
    rcases h with h | ⟨_, _, h, _⟩
    · have := ((hG'.ok 0 _ rfl).block_ge hbk).1
      have := hZ b h
      omega
    · cases h

theorem Con.frz {P : Program} {f : FuncId} {args : List D} {ty sz : Nat} {rows : List (List D)} (h : Con P f args (.nsl ty sz rows)) (hn : nslArgs args = false := by rfl) : Con P f args (.fsl sz rows) := by
  refine ConV.con (fun w Z0 vs h1 h2 h3 o a next Q hnext => (h.v hn) w Z0 vs h1 h2 h3 o a next Q fun v w' hp => hnext v w' (hp.frz h1)) hn

end Go.Abs
/- Copies of slices. -/
set_option linter.unusedSimpArgs false
set_option linter.unusedVariables false
set_option maxRecDepth 20000
set_option maxHeartbeats 2000000
namespace Go.Abs
open Go Go.RowKit Go.Proofs
attribute [local irreducible] Con AWP

theorem cloneIntC {rows : List (List D)} (h : rows.length ≤ 1000000) : Con Tryz.prog 86 [.fsl 1 rows] (.nsl 3 1 rows) := by
  refine ConC.con (ent _ Tryz.func86 rfl rfl) (con_of_body env Tryz.func86 rfl (nt := 8) (rs := [.tmp 2]) rfl rfl (Nat.le_of_ble_eq_true rfl) fun hok => ?_)
  repeat' (first | (first | (refine AWP.go env ?_; intro K fin; try simp +decide (maxSteps := 4000000) only [go_sem, Nat.reduceAdd, Nat.reduceMul]) | refine Kt.h _ _ ?_ | refine Ft.k (by decide +kernel) ?_) | apply cond2_intro | with_reducible apply And.intro | intro h)
  all_goals first | assumption | (unfold lim; omega)

theorem cloneEdgeC {rows : List (List D)} (h : rows.length ≤ 1000000) : Con Tryz.prog 215 [.fsl 3 rows] (.nsl 143 3 rows) := by
  refine ConC.con (ent _ Tryz.func215 rfl rfl) (con_of_body env Tryz.func215 rfl (nt := 8) (rs := [.tmp 2]) rfl rfl (Nat.le_of_ble_eq_true rfl) fun hok => ?_)
  repeat' (first | (first | (refine AWP.go env ?_; intro K fin; try simp +decide (maxSteps := 4000000) only [go_sem, Nat.reduceAdd, Nat.reduceMul]) | refine Kt.h _ _ ?_ | refine Ft.k (by decide +kernel) ?_) | apply cond2_intro | with_reducible apply And.intro | intro h)
  all_goals first | assumption | (unfold lim; omega)

theorem cloneStringC {rows : List (List D)} (h : rows.length ≤ 1000000) : Con Tryz.prog 252 [.fsl 1 rows] (.nsl 9 1 rows) := by
  refine ConC.con (ent _ Tryz.func252 rfl rfl) (con_of_body env Tryz.func252 rfl (nt := 8) (rs := [.tmp 2]) rfl rfl (Nat.le_of_ble_eq_true rfl) fun hok => ?_)
  repeat' (first | (first | (refine AWP.go env ?_; intro K fin; try simp +decide (maxSteps := 4000000) only [go_sem, Nat.reduceAdd, Nat.reduceMul]) | refine Kt.h _ _ ?_ | refine Ft.k (by decide +kernel) ?_) | apply cond2_intro | with_reducible apply And.intro | intro h)
  all_goals first | assumption | (unfold lim; omega)

end Go.Abs
/- Node types. -/
set_option linter.unusedSimpArgs false
set_option linter.unusedVariables false
set_option maxRecDepth 20000
set_option maxHeartbeats 2000000
namespace Go.Abs
open Go Go.RowKit Go.Proofs
attribute [local irreducible] Con AWP

/-- The attributes of a node type of its own, one after the other. -/
def ownF : List Attr → List Attr → Int
  | _, [] => 0
  | before, x :: r => if attributeF x before ≠ 0 then attributeF x before else ownF (before ++ [x]) r

def nodeTF (t : Types) (pre : List NodeT) (n : NodeT) : Int :=
  if isNameF n.name = false then 2 else if (pre.any fun y => y.name.toList == n.name.toList) = true then 5
  else if n.parent < -1 ∨ n.parent ≥ pre.length then 6 else if n.attrs.length > 4 then 3
  else if (attrsF t (pre.length + 1) pre.length).length > 8 then 3
  else ownF ((attrsF t (pre.length + 1) pre.length).take ((attrsF t (pre.length + 1) pre.length).length - n.attrs.length)) n.attrs

theorem nodeTC {t : Types} {pre post : List NodeT} {n : NodeT} (he : t.nodes = pre ++ n :: post) (hp : ∀ b, b < pre.length → (nodeAt t b).parent < b) (hlen : ∀ b, b < pre.length → (attrsF t (b + 1) b).length ≤ 8) :
    Con Tryz.prog 105 [dTypes t, .int .i64 (pre.length : Int)] (.int .i64 (nodeTF t pre n)) := by
  refine ConC.con (ent _ Tryz.func105 rfl rfl) (con_of_body env Tryz.func105 rfl (nt := 70) (rs := [.tmp 4]) rfl rfl (Nat.le_of_ble_eq_true rfl) fun hok => ?_)
  have hg : getR (t.nodes.map rNodeT) pre.length = [.str n.name, .int .i64 n.parent, .bool n.abstr, .fsl 4 (n.attrs.map rAttr)] := by rw [he]; simp [getR, rNodeT]
  have htk : (t.nodes.map rNodeT).take pre.length = pre.map rNodeT := by rw [he]; simp
  have hle : (pre.length : Int) < t.nodes.length := by rw [he]; simp; omega
  repeat' (first | (first | (refine AWP.go env ?_; intro K fin; try simp +decide (maxSteps := 4000000) only [hg, htk, go_sem, Nat.reduceAdd, Nat.reduceMul]) | refine Kt.h _ _ ?_ | refine Ft.k (by decide +kernel) ?_ | ((first | refine ⟨_, isNameC, ?_⟩ | refine ⟨_, hcx, ?_⟩ | refine ⟨_, contFuncNodeTypeC (caps := [.fptr (rNodeT n) 0]) (p := fun y => y.name.toList == n.name.toList) (xs := pre) (fun _ => rfl) (fun _ => rfl) (fun _ => rfl) (fun _ _ => nodeSameC), ?_⟩); simp +decide (maxSteps := 4000000) only [hg, htk, go_sem, Nat.reduceAdd, Nat.reduceMul])) | apply cond2_intro | with_reducible apply And.intro | intro h)
  all_goals try omega
  all_goals try decide
  · simp only [List.mem_cons, List.not_mem_nil, or_false] at h; rcases h with rfl | rfl | rfl | rfl <;> rfl
  · unfold nodeTF; simp [*]
  · unfold nodeTF
    have h1 : (pre.any fun y => y.name.toList == n.name.toList) = false := by assumption
    simp only [decide_eq_true_eq] at h
    rw [if_neg (by simp [*]), h1, if_neg (by decide), if_pos (.inl h)]
  · unfold nodeTF
    have h1 : (pre.any fun y => y.name.toList == n.name.toList) = false := by assumption
    simp only [decide_eq_true_eq] at h
    rw [if_neg (by simp [*]), h1, if_neg (by decide), if_pos (.inr h)]
  · unfold nodeTF
    have h1 : (pre.any fun y => y.name.toList == n.name.toList) = false := by assumption
    have h2 : decide (n.parent < -1) = false := by assumption
    have h3 : decide ((pre.length : Int) ≤ n.parent) = false := by assumption
    simp only [decide_eq_true_eq, decide_eq_false_iff_not] at h h2 h3
    rw [if_neg (by simp [*]), h1, if_neg (by decide), if_neg (by omega), if_pos (by omega)]
  · have h1 : (pre.any fun y => y.name.toList == n.name.toList) = false := by assumption
    have h2 : decide (n.parent < -1) = false := by assumption
    have h3 : decide ((pre.length : Int) ≤ n.parent) = false := by assumption
    have h0 : isNameF n.name = true := by assumption
    simp only [decide_eq_true_eq, decide_eq_false_iff_not] at h h2 h3
    have hlt : pre.length < t.nodes.length := by omega
    have hn : nodeAt t pre.length = n := by unfold nodeAt; rw [he]; simp
    have hp' : ∀ b, b ≤ pre.length → (nodeAt t b).parent < b := fun b hb => by
      by_cases hbl : b = pre.length
      · subst hbl; rw [hn]; omega
      · exact hp b (by omega)
    obtain ⟨inh, hA, hinh⟩ : ∃ inh, attrsF t (pre.length + 1) pre.length = inh ++ n.attrs ∧ inh.length ≤ 8 := by
      rw [show attrsF t (pre.length + 1) pre.length = (if (nodeAt t pre.length).parent ≥ 0 then attrsF t pre.length (nodeAt t pre.length).parent.toNat else []) ++ (nodeAt t pre.length).attrs from rfl, hn]
      refine ⟨_, rfl, ?_⟩
      by_cases hpar : n.parent ≥ 0
      · rw [if_pos hpar, attrsF_fuel _ _ (fun b hb => hp b (by omega)) (by omega)]
        exact hlen _ (by omega)
      · rw [if_neg hpar]; simp
    have hal : (attrsF t (pre.length + 1) pre.length).length = inh.length + n.attrs.length := by rw [hA]; simp
    have hC := (attrsC pre.length hlt hp' (fun b hb => by
      by_cases hbl : b = pre.length
      · subst hbl; omega
      · have := hlen b (by omega); omega)).frz
    rw [hA] at hC
    have hF : nodeTF t pre n = if inh.length + n.attrs.length > 8 then 3 else ownF inh n.attrs := by
      unfold nodeTF
      rw [if_neg (by simp [h0]), h1, if_neg (by decide), if_neg (by omega), if_neg (by omega), hA]
      simp
    refine ⟨_, hC, ?_⟩
    have hw : IntKind.i64.wrap (((inh ++ n.attrs).length : Int) - (n.attrs.length : Int)) = (inh.length : Int) := by rw [wrap64 (by simp only [List.length_append]; omega) (by simp only [List.length_append]; omega)]; simp
    simp +decide (maxSteps := 4000000) only [hg, hw, go_sem, Nat.reduceAdd, Nat.reduceMul]
    repeat' (first | (first | (refine AWP.go env ?_; intro K fin; try simp +decide (maxSteps := 4000000) only [hg, hw, go_sem, Nat.reduceAdd, Nat.reduceMul]) | refine Kt.h _ _ ?_ | refine Ft.k (by decide +kernel) ?_ | ((first | refine ⟨_, isNameC, ?_⟩ | refine ⟨_, hcx, ?_⟩ | refine ⟨_, contFuncNodeTypeC (caps := [.fptr (rNodeT n) 0]) (p := fun y => y.name.toList == n.name.toList) (xs := pre) (fun _ => rfl) (fun _ => rfl) (fun _ => rfl) (fun _ _ => nodeSameC), ?_⟩); simp +decide (maxSteps := 4000000) only [hg, hw, go_sem, Nat.reduceAdd, Nat.reduceMul])) | apply cond2_intro | with_reducible apply And.intro | intro h)
    · simp only [decide_eq_true_eq, List.length_append] at h
      rw [hF, if_pos (by omega)]
    simp only [decide_eq_false_iff_not, List.length_append] at h
    rw [if_neg (by omega)] at hF
    refine AWP.lp (α := Way n.attrs fun a b => ownF (inh ++ a) b = nodeTF t pre n)
      (fun w => ⟨70, [(6, .fsl 4 ((inh ++ n.attrs).map rAttr)), (7, .int .i64 ((inh.length + w.pre.length : Nat) : Int))], []⟩) (fun w => w.post.length) ⟨[], n.attrs, rfl, by simp [hF]⟩ (by simp +decide (maxSteps := 4000000) only [go_sem, Nat.reduceAdd, Nat.reduceMul]; try simp) fun w K => ?_
    obtain ⟨a, b, hab, hinv⟩ := w
    cases b with
    | nil =>
      have hab : n.attrs = a := by simpa using hab
      have hn2 : (((inh.length + a.length : Nat) : Int) < ((inh ++ n.attrs).length : Int)) = False := by simp [hab]
      repeat' (first | (first | (refine AWP.go env ?_; intro K fin; try simp +decide (maxSteps := 4000000) only [hn2, go_sem, Nat.reduceAdd, Nat.reduceMul]) | refine Kt.h _ _ ?_ | refine Ft.k (by decide +kernel) ?_ | ((first | refine ⟨_, isNameC, ?_⟩ | refine ⟨_, hcx, ?_⟩ | refine ⟨_, contFuncNodeTypeC (caps := [.fptr (rNodeT n) 0]) (p := fun y => y.name.toList == n.name.toList) (xs := pre) (fun _ => rfl) (fun _ => rfl) (fun _ => rfl) (fun _ _ => nodeSameC), ?_⟩); simp +decide (maxSteps := 4000000) only [hn2, go_sem, Nat.reduceAdd, Nat.reduceMul])) | apply cond2_intro | with_reducible apply And.intro | intro h)
      rw [← hinv]; try rfl
    | cons x b =>
      have hl : a.length < n.attrs.length := by rw [hab]; simp
      have hn2 : (((inh.length + a.length : Nat) : Int) < ((inh ++ n.attrs).length : Int)) = True := by simp; omega
      have hget : getR ((inh ++ n.attrs).map rAttr) (inh.length + a.length) = [.str x.name, .int .i64 x.low, .int .i64 x.high, .fsl 1 (x.names.map rS)] := by rw [hab]; simp [getR, rAttr]
      have htk2 : ((inh ++ n.attrs).map rAttr).take (inh.length + a.length) = (inh ++ a).map rAttr := by
        have := take_at rAttr (inh ++ a) x b
        rw [List.length_append, List.append_assoc, ← hab] at this; exact this
      have v3 : IntKind.i64.wrap (((inh.length + a.length : Nat) : Int) + 1) = ((inh.length + (a.length + 1) : Nat) : Int) := by rw [wrap64 (by omega) (by omega)]; omega
      have hcx := attributeC (x := x) (before := inh ++ a)
      have hlt2 : ((inh.length + a.length : Nat) : Int) < ((inh ++ n.attrs).length : Int) := by simp; omega
      repeat' (first | (first | (refine AWP.go env ?_; intro K fin; try simp +decide (maxSteps := 4000000) only [hn2, hget, htk2, v3, go_sem, Nat.reduceAdd, Nat.reduceMul]) | refine Kt.h _ _ ?_ | refine Ft.k (by decide +kernel) ?_ | ((first | refine ⟨_, isNameC, ?_⟩ | refine ⟨_, hcx, ?_⟩ | refine ⟨_, contFuncNodeTypeC (caps := [.fptr (rNodeT n) 0]) (p := fun y => y.name.toList == n.name.toList) (xs := pre) (fun _ => rfl) (fun _ => rfl) (fun _ => rfl) (fun _ _ => nodeSameC), ?_⟩); simp +decide (maxSteps := 4000000) only [hn2, hget, htk2, v3, go_sem, Nat.reduceAdd, Nat.reduceMul])) | apply cond2_intro | with_reducible apply And.intro | intro h)
      all_goals try omega
      · rw [← hinv, ownF, if_pos (by simpa using h)]
      · refine ⟨⟨a ++ [x], b, by simp [hab], ?_⟩, by simp, by simp +decide (maxSteps := 4000000) only [go_sem, Nat.reduceAdd, Nat.reduceMul]; simp⟩
        rw [← hinv, ownF, if_neg (by simpa using h), List.append_assoc]
  · unfold nodeTF; simp [*]

end Go.Abs
/- Node types, of the specification. -/
set_option linter.unusedSimpArgs false
set_option linter.unusedVariables false
set_option maxRecDepth 20000
set_option maxHeartbeats 2000000
namespace Go.Abs
open Go Go.RowKit Go.Proofs
attribute [local irreducible] Con AWP

theorem attrs_split {t : Types} {pre post : List NodeT} {n : NodeT} (he : t.nodes = pre ++ n :: post) (hp : ∀ b, b < pre.length → (nodeAt t b).parent < b) (hlen : ∀ b, b < pre.length → (attrsF t (b + 1) b).length ≤ 8) (h1 : n.parent < pre.length) :
    nodeAt t pre.length = n ∧ (∀ b, b ≤ pre.length → (nodeAt t b).parent < b) ∧ ∃ inh, attrsF t (pre.length + 1) pre.length = inh ++ n.attrs ∧ inh.length ≤ 8 := by
  have hn : nodeAt t pre.length = n := by unfold nodeAt; rw [he]; simp
  refine ⟨hn, fun b hb => ?_, ?_⟩
  · by_cases hbl : b = pre.length
    · subst hbl; rw [hn]; omega
    · exact hp b (by omega)
  · rw [show attrsF t (pre.length + 1) pre.length = (if (nodeAt t pre.length).parent ≥ 0 then attrsF t pre.length (nodeAt t pre.length).parent.toNat else []) ++ (nodeAt t pre.length).attrs from rfl, hn]
    refine ⟨_, rfl, ?_⟩
    by_cases hpar : n.parent ≥ 0
    · rw [if_pos hpar, attrsF_fuel _ _ (fun b hb => hp b (by omega)) (by omega)]
      exact hlen _ (by omega)
    · rw [if_neg hpar]; simp

theorem attributeF_eq (x : Attr) (before : List Attr) : attributeF x before = if isNameF x.name = false then 2 else if (before.any fun y => y.name.toList == x.name.toList) = true then 5 else rAttributeF x := rfl

theorem rNodeTC {t : Types} {pre post : List NodeT} {n : NodeT} (he : t.nodes = pre ++ n :: post) (hp : ∀ b, b < pre.length → (nodeAt t b).parent < b) (hlen : ∀ b, b < pre.length → (attrsF t (b + 1) b).length ≤ 8) (hown : n.attrs.length ≤ 30) :
    Con Tryz.prog 125 [dTypes t, .int .i64 (pre.length : Int)] (.int .i64 (nodeTF t pre n)) := by
  refine ConC.con (ent _ Tryz.func125 rfl rfl) (con_of_body env Tryz.func125 rfl (nt := 95) (rs := [.tmp 4]) rfl rfl (Nat.le_of_ble_eq_true rfl) fun hok => ?_)
  have hnl : t.nodes.length ≤ 140737488355328 := by
    have := DOk.len (DOk.agg_mem (hok _ (List.mem_cons_self ..)) (d := .fsl 4 (t.nodes.map rNodeT)) (by simp))
    simpa using this
  have hg : getR (t.nodes.map rNodeT) pre.length = [.str n.name, .int .i64 n.parent, .bool n.abstr, .fsl 4 (n.attrs.map rAttr)] := by rw [he]; simp [getR, rNodeT]
  have hle : (pre.length : Int) < t.nodes.length := by rw [he]; simp; omega
  repeat' (first | (first | (refine AWP.go env ?_; intro K fin; try simp +decide (maxSteps := 4000000) only [hg, go_sem, Nat.reduceAdd, Nat.reduceMul]) | refine Kt.h _ _ ?_ | refine Ft.k (by decide +kernel) ?_ | ((first | refine ⟨_, rIsNameC, ?_⟩ | refine ⟨_, rInC, ?_⟩ | refine ⟨_, hca, ?_⟩); simp +decide (maxSteps := 4000000) only [hg, go_sem, Nat.reduceAdd, Nat.reduceMul])) | apply cond2_intro | with_reducible apply And.intro | intro h)
  all_goals try omega
  all_goals try decide
  all_goals try (unfold nodeTF; simp [*]; done)
  · simp only [List.mem_cons, List.not_mem_nil, or_false] at h; rcases h with rfl | rfl | rfl | rfl <;> rfl
  refine AWP.lp (α := Way pre fun a b => a.any (fun y => y.name.toList == n.name.toList) = false)
    (fun w => ⟨95, [(1, .int .i64 pre.length), (2, .ptr 200 0 0 0), (5, .ptr 500 0 0 0), (6, .int .i64 w.pre.length)],
      [(200, ⟨0, true, true, 2, 25, [[.fsl 4 (t.nodes.map rNodeT), .fsl 7 (t.edges.map rEdgeT)]]⟩), (500, ⟨0, true, true, 4, 115, [[.str n.name, .int .i64 n.parent, .bool n.abstr, .fsl 4 (n.attrs.map rAttr)]]⟩)]⟩) (fun w => w.post.length) ⟨[], pre, rfl, rfl⟩ (by simp +decide (maxSteps := 4000000) only [go_sem, Nat.reduceAdd, Nat.reduceMul]; try simp) fun w K => ?_
  obtain ⟨a, b, hab, hany⟩ := w
  have h0 : isNameF n.name = true := by assumption
  cases b with
  | cons y b =>
    have hal : a.length < pre.length := by rw [hab]; simp
    have v3 : IntKind.i64.wrap ((a.length : Int) + 1) = ((a.length + 1 : Nat) : Int) := by rw [wrap64 (by omega) (by omega)]; try rfl
    have hn2 : ((a.length : Int) < (pre.length : Int)) = True := by simp [hal]
    have hget : getR (t.nodes.map rNodeT) a.length = [.str y.name, .int .i64 y.parent, .bool y.abstr, .fsl 4 (y.attrs.map rAttr)] := by rw [he, hab]; simp [getR, rNodeT]
    repeat' (first | (first | (refine AWP.go env ?_; intro K fin; try simp +decide (maxSteps := 4000000) only [v3, hget, hn2, go_sem, Nat.reduceAdd, Nat.reduceMul]) | refine Kt.h _ _ ?_ | refine Ft.k (by decide +kernel) ?_ | ((first | refine ⟨_, rIsNameC, ?_⟩ | refine ⟨_, rInC, ?_⟩ | refine ⟨_, hca, ?_⟩); simp +decide (maxSteps := 4000000) only [v3, hget, hn2, go_sem, Nat.reduceAdd, Nat.reduceMul])) | apply cond2_intro | with_reducible apply And.intro | intro h)
    all_goals try omega
    all_goals try decide
    · have h2 : (pre.any fun y => y.name.toList == n.name.toList) = true := by rw [hab]; simp [h]
      unfold nodeTF; simp [h0, h2]
    · refine ⟨⟨a ++ [y], b, by simp [hab], ?_⟩, by simp, by simp +decide (maxSteps := 4000000) only [go_sem, Nat.reduceAdd, Nat.reduceMul]; simp⟩
      rw [List.any_append, hany, List.any_cons, h]; try rfl
  | nil =>
    have hab : pre = a := by simpa using hab
    have hn2 : ((a.length : Int) < (pre.length : Int)) = False := by simp [hab]
    rw [← hab] at hany
    have hw1 : IntKind.i64.wrap ((pre.length : Int) - 1) = (pre.length : Int) - 1 := by rw [wrap64 (by omega) (by omega)]
    by_cases hr : n.parent < -1 ∨ n.parent ≥ pre.length
    · have hF : nodeTF t pre n = 6 := by unfold nodeTF; rw [if_neg (by simp [h0]), hany, if_neg (by decide), if_pos hr]
      have hr' : (decide (-1 ≤ n.parent) && decide (n.parent ≤ (pre.length : Int) - 1)) = false := by
        rcases hr with hr | hr
        · have : decide (-1 ≤ n.parent) = false := by simp; omega
          simp [this]
        · have : decide (n.parent ≤ (pre.length : Int) - 1) = false := by simp; omega
          simp [this]
      repeat' (first | (first | (refine AWP.go env ?_; intro K fin; try simp +decide (maxSteps := 4000000) only [hn2, hw1, hr', go_sem, Nat.reduceAdd, Nat.reduceMul]) | refine Kt.h _ _ ?_ | refine Ft.k (by decide +kernel) ?_ | ((first | refine ⟨_, rIsNameC, ?_⟩ | refine ⟨_, rInC, ?_⟩ | refine ⟨_, hca, ?_⟩); simp +decide (maxSteps := 4000000) only [hn2, hw1, hr', go_sem, Nat.reduceAdd, Nat.reduceMul])) | apply cond2_intro | with_reducible apply And.intro | intro h)
      exact hF.symm
    have hr' : (decide (-1 ≤ n.parent) && decide (n.parent ≤ (pre.length : Int) - 1)) = true := by simp; omega
    obtain ⟨hn, hp', inh, hA, hinh⟩ := attrs_split he hp hlen (by omega)
    have hlt : pre.length < t.nodes.length := by omega
    have hal : (attrsF t (pre.length + 1) pre.length).length = inh.length + n.attrs.length := by rw [hA]; simp
    have hC := (rAttrsC pre.length hlt hp' (fun b hb => by
      by_cases hbl : b = pre.length
      · subst hbl; omega
      · have := hlen b (by omega); omega)).frz
    rw [hA] at hC
    have hF : nodeTF t pre n = if n.attrs.length > 4 then 3 else if inh.length + n.attrs.length > 8 then 3 else ownF inh n.attrs := by
      unfold nodeTF
      rw [if_neg (by simp [h0]), hany, if_neg (by decide), if_neg (by omega), hA]
      simp
    repeat' (first | (first | (refine AWP.go env ?_; intro K fin; try simp +decide (maxSteps := 4000000) only [hn2, hw1, hr', go_sem, Nat.reduceAdd, Nat.reduceMul]) | refine Kt.h _ _ ?_ | refine Ft.k (by decide +kernel) ?_ | ((first | refine ⟨_, rIsNameC, ?_⟩ | refine ⟨_, rInC, ?_⟩ | refine ⟨_, hca, ?_⟩); simp +decide (maxSteps := 4000000) only [hn2, hw1, hr', go_sem, Nat.reduceAdd, Nat.reduceMul])) | apply cond2_intro | with_reducible apply And.intro | intro h)
    refine ⟨_, hC, ?_⟩
    have hw : IntKind.i64.wrap (((inh ++ n.attrs).length : Int) - (n.attrs.length : Int)) = (inh.length : Int) := by rw [wrap64 (by simp only [List.length_append]; omega) (by simp only [List.length_append]; omega)]; simp
    simp +decide (maxSteps := 4000000) only [hg, hw, go_sem, Nat.reduceAdd, Nat.reduceMul]
    repeat' (first | (first | (refine AWP.go env ?_; intro K fin; try simp +decide (maxSteps := 4000000) only [hg, hw, go_sem, Nat.reduceAdd, Nat.reduceMul]) | refine Kt.h _ _ ?_ | refine Ft.k (by decide +kernel) ?_ | ((first | refine ⟨_, rIsNameC, ?_⟩ | refine ⟨_, rInC, ?_⟩ | refine ⟨_, hca, ?_⟩); simp +decide (maxSteps := 4000000) only [hg, hw, go_sem, Nat.reduceAdd, Nat.reduceMul])) | apply cond2_intro | with_reducible apply And.intro | intro h)
    · simp only [decide_eq_true_eq] at h
      rw [hF, if_pos (by omega)]
    · simp only [decide_eq_true_eq, List.length_append] at h
      rw [hF]
      by_cases h4 : n.attrs.length > 4
      · rw [if_pos h4]
      · rw [if_neg h4, if_pos (by omega)]
    have h4 : decide ((4 : Int) < (n.attrs.length : Int)) = false := by assumption
    simp only [decide_eq_false_iff_not, List.length_append] at h h4
    rw [if_neg (by omega), if_neg (by omega)] at hF
    refine AWP.lp (α := Way n.attrs fun a b => ownF (inh ++ a) b = nodeTF t pre n)
      (fun w => ⟨95, [(7, .fsl 4 ((inh ++ n.attrs).map rAttr)), (8, .int .i64 ((inh.length + w.pre.length : Nat) : Int))], []⟩) (fun w => w.post.length) ⟨[], n.attrs, rfl, by simp [hF]⟩ (by simp +decide (maxSteps := 4000000) only [go_sem, Nat.reduceAdd, Nat.reduceMul]; try simp) fun w K => ?_
    obtain ⟨a, b, hab2, hinv⟩ := w
    cases b with
    | nil =>
      have hab2 : n.attrs = a := by simpa using hab2
      have hn3 : (((inh.length + a.length : Nat) : Int) < ((inh ++ n.attrs).length : Int)) = False := by simp [hab2]
      repeat' (first | (first | (refine AWP.go env ?_; intro K fin; try simp +decide (maxSteps := 4000000) only [hn3, go_sem, Nat.reduceAdd, Nat.reduceMul]) | refine Kt.h _ _ ?_ | refine Ft.k (by decide +kernel) ?_ | ((first | refine ⟨_, rIsNameC, ?_⟩ | refine ⟨_, rInC, ?_⟩ | refine ⟨_, hca, ?_⟩); simp +decide (maxSteps := 4000000) only [hn3, go_sem, Nat.reduceAdd, Nat.reduceMul])) | apply cond2_intro | with_reducible apply And.intro | intro h)
      rw [← hinv]; try rfl
    | cons x b =>
      have hl : a.length < n.attrs.length := by rw [hab2]; simp
      have hn3 : (((inh.length + a.length : Nat) : Int) < ((inh ++ n.attrs).length : Int)) = True := by simp; omega
      have hget : getR ((inh ++ n.attrs).map rAttr) (inh.length + a.length) = [.str x.name, .int .i64 x.low, .int .i64 x.high, .fsl 1 (x.names.map rS)] := by rw [hab2]; simp [getR, rAttr]
      have v3 : IntKind.i64.wrap (((inh.length + a.length : Nat) : Int) + 1) = ((inh.length + (a.length + 1) : Nat) : Int) := by rw [wrap64 (by omega) (by omega)]; omega
      have hlt2 : ((inh.length + a.length : Nat) : Int) < ((inh ++ n.attrs).length : Int) := by simp; omega
      have hca := rAttributeC (x := x)
      repeat' (first | (first | (refine AWP.go env ?_; intro K fin; try simp +decide (maxSteps := 4000000) only [hn3, hget, v3, go_sem, Nat.reduceAdd, Nat.reduceMul]) | refine Kt.h _ _ ?_ | refine Ft.k (by decide +kernel) ?_ | ((first | refine ⟨_, rIsNameC, ?_⟩ | refine ⟨_, rInC, ?_⟩ | refine ⟨_, hca, ?_⟩); simp +decide (maxSteps := 4000000) only [hn3, hget, v3, go_sem, Nat.reduceAdd, Nat.reduceMul])) | apply cond2_intro | with_reducible apply And.intro | intro h)
      all_goals try omega
      all_goals try (rw [← hinv, ownF, attributeF_eq, if_pos h]; try rfl)
      have h5 : isNameF x.name = true := h
      refine AWP.lp (α := Way (inh ++ a) fun c d => c.any (fun y => y.name.toList == x.name.toList) = false)
        (fun w => ⟨95, [(7, .fsl 4 ((inh ++ n.attrs).map rAttr)), (8, .int .i64 ((inh.length + a.length : Nat) : Int)), (9, .int .i64 w.pre.length)], []⟩) (fun w => w.post.length) ⟨[], inh ++ a, rfl, rfl⟩ (by simp +decide (maxSteps := 4000000) only [go_sem, Nat.reduceAdd, Nat.reduceMul]; try simp) fun w K => ?_
      obtain ⟨c, d, hcd, hany2⟩ := w
      cases d with
      | nil =>
        have hcd : inh ++ a = c := by simpa using hcd
        have hn4 : ((c.length : Int) < ((inh.length + a.length : Nat) : Int)) = False := by rw [← hcd]; simp
        rw [← hcd] at hany2
        have hstep : attributeF x (inh ++ a) = rAttributeF x := by rw [attributeF_eq, if_neg (by simp [h5]), hany2, if_neg (by decide)]
        repeat' (first | (first | (refine AWP.go env ?_; intro K fin; try simp +decide (maxSteps := 4000000) only [hn4, hget, v3, go_sem, Nat.reduceAdd, Nat.reduceMul]) | refine Kt.h _ _ ?_ | refine Ft.k (by decide +kernel) ?_ | ((first | refine ⟨_, rIsNameC, ?_⟩ | refine ⟨_, rInC, ?_⟩ | refine ⟨_, hca, ?_⟩); simp +decide (maxSteps := 4000000) only [hn4, hget, v3, go_sem, Nat.reduceAdd, Nat.reduceMul])) | apply cond2_intro | with_reducible apply And.intro | intro h)
        all_goals try omega
        · rw [← hinv, ownF, hstep, if_pos (by simpa using h)]
        · refine ⟨⟨a ++ [x], b, by simp [hab2], ?_⟩, by simp, by simp +decide (maxSteps := 4000000) only [go_sem, Nat.reduceAdd, Nat.reduceMul]; simp⟩
          rw [← hinv, ownF, hstep, if_neg (by simpa using h), List.append_assoc]
      | cons y d =>
        have hcl : c.length < inh.length + a.length := by rw [← List.length_append, hcd]; simp
        have hn4 : ((c.length : Int) < ((inh.length + a.length : Nat) : Int)) = True := by simp; omega
        have hgety : getR ((inh ++ n.attrs).map rAttr) c.length = [.str y.name, .int .i64 y.low, .int .i64 y.high, .fsl 1 (y.names.map rS)] := by
          rw [hab2, show inh ++ (a ++ x :: b) = (inh ++ a) ++ x :: b by simp, hcd]; simp [getR, rAttr]
        have v4 : IntKind.i64.wrap ((c.length : Int) + 1) = ((c.length + 1 : Nat) : Int) := by rw [wrap64 (by omega) (by omega)]; omega
        repeat' (first | (first | (refine AWP.go env ?_; intro K fin; try simp +decide (maxSteps := 4000000) only [hn4, hget, hgety, v4, go_sem, Nat.reduceAdd, Nat.reduceMul]) | refine Kt.h _ _ ?_ | refine Ft.k (by decide +kernel) ?_ | ((first | refine ⟨_, rIsNameC, ?_⟩ | refine ⟨_, rInC, ?_⟩ | refine ⟨_, hca, ?_⟩); simp +decide (maxSteps := 4000000) only [hn4, hget, hgety, v4, go_sem, Nat.reduceAdd, Nat.reduceMul])) | apply cond2_intro | with_reducible apply And.intro | intro h)
        all_goals try omega
        · have h6 : ((inh ++ a).any fun y => y.name.toList == x.name.toList) = true := by rw [hcd, List.any_append, List.any_cons, h]; simp
          have h7 : attributeF x (inh ++ a) = 5 := by rw [attributeF_eq, if_neg (by simp [h5]), h6]; try rfl
          rw [← hinv, ownF, h7]; try rfl
        · refine ⟨⟨c ++ [y], d, by simp [hcd], ?_⟩, by simp, by simp +decide (maxSteps := 4000000) only [go_sem, Nat.reduceAdd, Nat.reduceMul]; simp⟩
          rw [List.any_append, hany2, List.any_cons, h]; try rfl
end Go.Abs
/- Type graphs. -/
set_option linter.unusedSimpArgs false
set_option linter.unusedVariables false
set_option maxRecDepth 20000
set_option maxHeartbeats 2000000
namespace Go.Abs
open Go Go.RowKit Go.Proofs
attribute [local irreducible] Con AWP

def nodesGo (t : Types) : List NodeT → List NodeT → Option (ByteArray × Int)
  | _, [] => none
  | pre, n :: r => if nodeTF t pre n ≠ 0 then some (n.name, nodeTF t pre n) else nodesGo t (pre ++ [n]) r

def edgesGo (t : Types) : List EdgeT → List EdgeT → Option (ByteArray × Int)
  | _, [] => none
  | pre, e :: r => if edgeTF t pre e ≠ 0 then some (e.name, edgeTF t pre e) else edgesGo t (pre ++ [e]) r

/-- The name that an error is about, and the error. -/
def typesF (t : Types) : ByteArray × Int :=
  if t.nodes.length = 0 then (⟨#[]⟩, 7) else if t.nodes.length > 12 ∨ t.edges.length > 20 then (⟨#[]⟩, 3)
  else match nodesGo t [] t.nodes with
    | some x => x
    | none => match edgesGo t [] t.edges with
      | some x => x
      | none => (⟨#[]⟩, 0)

/-- What is known of the node types that were gone through without error. -/
def GoodTo (t : Types) (k : Nat) : Prop := (∀ b, b < k → (nodeAt t b).parent < b) ∧ ∀ b, b < k → (attrsF t (b + 1) b).length ≤ 8

theorem GoodTo.zero (t : Types) : GoodTo t 0 := ⟨fun b hb => by omega, fun b hb => by omega⟩

theorem nodeTF_good {t : Types} {pre post : List NodeT} {n : NodeT} (he : t.nodes = pre ++ n :: post) (hg : GoodTo t pre.length) (h : nodeTF t pre n = 0) : GoodTo t (pre.length + 1) := by
  have hn : nodeAt t pre.length = n := by unfold nodeAt; rw [he]; simp
  unfold nodeTF at h
  split at h
  · cases h
  split at h
  · cases h
  split at h
  · cases h
  split at h
  · cases h
  split at h
  · cases h
  rename_i h3 h4 h5
  refine ⟨fun b hb => ?_, fun b hb => ?_⟩
  · by_cases hbl : b = pre.length
    · subst hbl; rw [hn]; omega
    · exact hg.1 b (by omega)
  · by_cases hbl : b = pre.length
    · subst hbl; omega
    · exact hg.2 b (by omega)

theorem wk_i {t : Nat} (h : t ≤ 1000000) : IntKind.i64.wrap ((t : Int) + 1) = ((t + 1 : Nat) : Int) := by rw [wrap64 (by omega) (by omega)]; try rfl

theorem typesC {t : Types} : Con Tryz.prog 46 [dTypes t] (.tup [.str (typesF t).1, .int .i64 (typesF t).2]) := by
  refine ConC.con (ent _ Tryz.func46 rfl rfl) (con_of_body env Tryz.func46 rfl (nt := 60) (rs := [.tmp 2, .tmp 3]) rfl rfl (Nat.le_of_ble_eq_true rfl) fun hok => ?_)
  repeat' (first | (first | (refine AWP.go env ?_; intro K fin; try simp +decide (maxSteps := 4000000) only [go_sem, Nat.reduceAdd, Nat.reduceMul]) | refine Kt.h _ _ ?_ | refine Ft.k (by decide +kernel) ?_ | ((first | refine ⟨_, hnC, ?_⟩ | refine ⟨_, heC, ?_⟩); simp +decide (maxSteps := 4000000) only [go_sem, Nat.reduceAdd, Nat.reduceMul])) | apply cond2_intro | with_reducible apply And.intro | intro h)
  · have : t.nodes.length = 0 := by simpa using h
    unfold typesF; rw [if_pos this]
  · have : ¬ t.nodes.length = 0 := by simp only [decide_eq_true_eq] at h; omega
    unfold typesF; rw [if_neg this, if_pos (.inl (by simp only [decide_eq_true_eq] at h; omega))]
  · have : ¬ t.nodes.length = 0 := by
      have : ((t.nodes.length : Int) == 0) = false := by assumption
      simpa using this
    unfold typesF; rw [if_neg this, if_pos (.inr (by simp only [decide_eq_true_eq] at h; omega))]
  have hn0 : ¬ t.nodes.length = 0 := by
    have : ((t.nodes.length : Int) == 0) = false := by assumption
    simpa using this
  have hn12 : t.nodes.length ≤ 12 := by
    have : decide ((12 : Int) < (t.nodes.length : Int)) = false := by assumption
    simp at this; omega
  have he20 : t.edges.length ≤ 20 := by simp at h; omega
  have hF : typesF t = match nodesGo t [] t.nodes with
    | some x => x
    | none => match edgesGo t [] t.edges with
      | some x => x
      | none => (⟨#[]⟩, 0) := by unfold typesF; rw [if_neg hn0, if_neg (by omega)]
  refine AWP.lp (α := Way t.nodes fun a b => nodesGo t a b = nodesGo t [] t.nodes ∧ GoodTo t a.length)
    (fun w => ⟨60, [(1, .ptr 100 0 0 0), (27, .fsl 4 (t.nodes.map rNodeT)), (28, .int .i64 t.nodes.length), (29, .int .i64 w.pre.length)],
      [(100, ⟨0, true, true, 2, 25, [[.fsl 4 (t.nodes.map rNodeT), .fsl 7 (t.edges.map rEdgeT)]]⟩)]⟩) (fun w => w.post.length) ⟨[], t.nodes, rfl, rfl, .zero t⟩ (by simp +decide (maxSteps := 4000000) only [go_sem, Nat.reduceAdd, Nat.reduceMul]; try simp) fun w K => ?_
  obtain ⟨a, b, hab, hinv, hgood⟩ := w
  cases b with
  | nil =>
    have hab : t.nodes = a := by simpa using hab
    have hn2 : ((a.length : Int) < (t.nodes.length : Int)) = False := by simp [hab]
    repeat' (first | (first | (refine AWP.go env ?_; intro K fin; try simp +decide (maxSteps := 4000000) only [hn2, go_sem, Nat.reduceAdd, Nat.reduceMul]) | refine Kt.h _ _ ?_ | refine Ft.k (by decide +kernel) ?_ | ((first | refine ⟨_, hnC, ?_⟩ | refine ⟨_, heC, ?_⟩); simp +decide (maxSteps := 4000000) only [hn2, go_sem, Nat.reduceAdd, Nat.reduceMul])) | apply cond2_intro | with_reducible apply And.intro | intro h)
    refine AWP.lp (α := Way t.edges fun a b => edgesGo t a b = edgesGo t [] t.edges)
      (fun w => ⟨60, [(1, .ptr 100 0 0 0), (44, .fsl 7 (t.edges.map rEdgeT)), (45, .int .i64 t.edges.length), (46, .int .i64 w.pre.length)],
        [(100, ⟨0, true, true, 2, 25, [[.fsl 4 (t.nodes.map rNodeT), .fsl 7 (t.edges.map rEdgeT)]]⟩)]⟩) (fun w => w.post.length) ⟨[], t.edges, rfl, rfl⟩ (by simp +decide (maxSteps := 4000000) only [go_sem, Nat.reduceAdd, Nat.reduceMul]; try simp) fun w K => ?_
    obtain ⟨c, d, hcd, hinv2⟩ := w
    cases d with
    | nil =>
      have hcd : t.edges = c := by simpa using hcd
      have hn3 : ((c.length : Int) < (t.edges.length : Int)) = False := by simp [hcd]
      repeat' (first | (first | (refine AWP.go env ?_; intro K fin; try simp +decide (maxSteps := 4000000) only [hn3, go_sem, Nat.reduceAdd, Nat.reduceMul]) | refine Kt.h _ _ ?_ | refine Ft.k (by decide +kernel) ?_ | ((first | refine ⟨_, hnC, ?_⟩ | refine ⟨_, heC, ?_⟩); simp +decide (maxSteps := 4000000) only [hn3, go_sem, Nat.reduceAdd, Nat.reduceMul])) | apply cond2_intro | with_reducible apply And.intro | intro h)
      rw [hF, ← hinv, ← hinv2]; try rfl
    | cons e d =>
      have hcl : c.length < t.edges.length := by rw [hcd]; simp
      have hn3 : ((c.length : Int) < (t.edges.length : Int)) = True := by simp [hcl]
      have hget : getR (t.edges.map rEdgeT) c.length = [.str e.name, .int .i64 e.src, .int .i64 e.tgt, .int .i64 e.outLow, .int .i64 e.outHigh, .int .i64 e.inLow, .int .i64 e.inHigh] := by rw [hcd]; simp [getR, rEdgeT]
      have v3 := wk_i (t := c.length) (by omega)
      have heC := edgeTC (t := t) hcd
      repeat' (first | (first | (refine AWP.go env ?_; intro K fin; try simp +decide (maxSteps := 4000000) only [hn3, hget, v3, go_sem, Nat.reduceAdd, Nat.reduceMul]) | refine Kt.h _ _ ?_ | refine Ft.k (by decide +kernel) ?_ | ((first | refine ⟨_, hnC, ?_⟩ | refine ⟨_, heC, ?_⟩); simp +decide (maxSteps := 4000000) only [hn3, hget, v3, go_sem, Nat.reduceAdd, Nat.reduceMul])) | apply cond2_intro | with_reducible apply And.intro | intro h)
      all_goals try omega
      all_goals try (simp only [List.mem_cons, List.not_mem_nil, or_false] at h; (repeat' (first | (subst h; rfl) | rcases h with h | h)))
      · have h1 : edgesGo t c (e :: d) = some (e.name, edgeTF t c e) := by rw [edgesGo, if_pos (by simpa using h)]
        have h2 : typesF t = (e.name, edgeTF t c e) := by rw [hF, ← hinv, ← hinv2, h1]; try rfl
        rw [h2]
      · refine ⟨⟨c ++ [e], d, by simp [hcd], ?_⟩, by simp, by simp +decide (maxSteps := 4000000) only [go_sem, Nat.reduceAdd, Nat.reduceMul]; simp⟩
        rw [← hinv2, edgesGo, if_neg (by simpa using h)]
  | cons n b =>
    have hal : a.length < t.nodes.length := by rw [hab]; simp
    have hn2 : ((a.length : Int) < (t.nodes.length : Int)) = True := by simp [hal]
    have hget : getR (t.nodes.map rNodeT) a.length = [.str n.name, .int .i64 n.parent, .bool n.abstr, .fsl 4 (n.attrs.map rAttr)] := by rw [hab]; simp [getR, rNodeT]
    have v3 := wk_i (t := a.length) (by omega)
    have hnC := nodeTC hab hgood.1 hgood.2
    repeat' (first | (first | (refine AWP.go env ?_; intro K fin; try simp +decide (maxSteps := 4000000) only [hn2, hget, v3, go_sem, Nat.reduceAdd, Nat.reduceMul]) | refine Kt.h _ _ ?_ | refine Ft.k (by decide +kernel) ?_ | ((first | refine ⟨_, hnC, ?_⟩ | refine ⟨_, heC, ?_⟩); simp +decide (maxSteps := 4000000) only [hn2, hget, v3, go_sem, Nat.reduceAdd, Nat.reduceMul])) | apply cond2_intro | with_reducible apply And.intro | intro h)
    all_goals try omega
    all_goals try (simp only [List.mem_cons, List.not_mem_nil, or_false] at h; (repeat' (first | (subst h; rfl) | rcases h with h | h)))
    · have h1 : nodesGo t a (n :: b) = some (n.name, nodeTF t a n) := by rw [nodesGo, if_pos (by simpa using h)]
      have h2 : typesF t = (n.name, nodeTF t a n) := by rw [hF, ← hinv, h1]
      rw [h2]
    · refine ⟨⟨a ++ [n], b, by simp [hab], ?_, ?_⟩, by simp, by simp +decide (maxSteps := 4000000) only [go_sem, Nat.reduceAdd, Nat.reduceMul]; simp⟩
      · rw [← hinv, nodesGo, if_neg (by simpa using h)]
      · rw [List.length_append]; exact nodeTF_good hab hgood (by simpa using h)
end Go.Abs
/- Type graphs, of the specification. -/
set_option linter.unusedSimpArgs false
set_option linter.unusedVariables false
set_option maxRecDepth 20000
set_option maxHeartbeats 2000000
namespace Go.Abs
open Go Go.RowKit Go.Proofs
attribute [local irreducible] Con AWP

theorem rTypesC {t : Types} (hfew : ∀ n ∈ t.nodes, n.attrs.length ≤ 30) : Con Tryz.prog 54 [dTypes t] (.tup [.str (typesF t).1, .int .i64 (typesF t).2]) := by
  refine ConC.con (ent _ Tryz.func54 rfl rfl) (con_of_body env Tryz.func54 rfl (nt := 60) (rs := [.tmp 2, .tmp 3]) rfl rfl (Nat.le_of_ble_eq_true rfl) fun hok => ?_)
  repeat' (first | (first | (refine AWP.go env ?_; intro K fin; try simp +decide (maxSteps := 4000000) only [go_sem, Nat.reduceAdd, Nat.reduceMul]) | refine Kt.h _ _ ?_ | refine Ft.k (by decide +kernel) ?_ | ((first | refine ⟨_, hnC, ?_⟩ | refine ⟨_, heC, ?_⟩); simp +decide (maxSteps := 4000000) only [go_sem, Nat.reduceAdd, Nat.reduceMul])) | apply cond2_intro | with_reducible apply And.intro | intro h)
  · have : t.nodes.length = 0 := by simpa using h
    unfold typesF; rw [if_pos this]
  · have : ¬ t.nodes.length = 0 := by simp only [decide_eq_true_eq] at h; omega
    unfold typesF; rw [if_neg this, if_pos (.inl (by simp only [decide_eq_true_eq] at h; omega))]
  · have : ¬ t.nodes.length = 0 := by
      have : ((t.nodes.length : Int) == 0) = false := by assumption
      simpa using this
    unfold typesF; rw [if_neg this, if_pos (.inr (by simp only [decide_eq_true_eq] at h; omega))]
  have hn0 : ¬ t.nodes.length = 0 := by
    have : ((t.nodes.length : Int) == 0) = false := by assumption
    simpa using this
  have hn12 : t.nodes.length ≤ 12 := by
    have : decide ((12 : Int) < (t.nodes.length : Int)) = false := by assumption
    simp at this; omega
  have he20 : t.edges.length ≤ 20 := by simp at h; omega
  have hF : typesF t = match nodesGo t [] t.nodes with
    | some x => x
    | none => match edgesGo t [] t.edges with
      | some x => x
      | none => (⟨#[]⟩, 0) := by unfold typesF; rw [if_neg hn0, if_neg (by omega)]; try rfl
  refine AWP.lp (α := Way t.nodes fun a b => nodesGo t a b = nodesGo t [] t.nodes ∧ GoodTo t a.length)
    (fun w => ⟨60, [(1, .ptr 100 0 0 0), (4, .int .i64 w.pre.length)],
      [(100, ⟨0, true, true, 2, 25, [[.fsl 4 (t.nodes.map rNodeT), .fsl 7 (t.edges.map rEdgeT)]]⟩)]⟩) (fun w => w.post.length) ⟨[], t.nodes, rfl, rfl, .zero t⟩ (by simp +decide (maxSteps := 4000000) only [go_sem, Nat.reduceAdd, Nat.reduceMul]; try simp) fun w K => ?_
  obtain ⟨a, b, hab, hinv, hgood⟩ := w
  cases b with
  | nil =>
    have hab : t.nodes = a := by simpa using hab
    have hn2 : ((a.length : Int) < (t.nodes.length : Int)) = False := by simp [hab]
    repeat' (first | (first | (refine AWP.go env ?_; intro K fin; try simp +decide (maxSteps := 4000000) only [hn2, go_sem, Nat.reduceAdd, Nat.reduceMul]) | refine Kt.h _ _ ?_ | refine Ft.k (by decide +kernel) ?_ | ((first | refine ⟨_, hnC, ?_⟩ | refine ⟨_, heC, ?_⟩); simp +decide (maxSteps := 4000000) only [hn2, go_sem, Nat.reduceAdd, Nat.reduceMul])) | apply cond2_intro | with_reducible apply And.intro | intro h)
    refine AWP.lp (α := Way t.edges fun a b => edgesGo t a b = edgesGo t [] t.edges)
      (fun w => ⟨60, [(1, .ptr 100 0 0 0), (6, .int .i64 w.pre.length)],
        [(100, ⟨0, true, true, 2, 25, [[.fsl 4 (t.nodes.map rNodeT), .fsl 7 (t.edges.map rEdgeT)]]⟩)]⟩) (fun w => w.post.length) ⟨[], t.edges, rfl, rfl⟩ (by simp +decide (maxSteps := 4000000) only [go_sem, Nat.reduceAdd, Nat.reduceMul]; try simp) fun w K => ?_
    obtain ⟨c, d, hcd, hinv2⟩ := w
    cases d with
    | nil =>
      have hcd : t.edges = c := by simpa using hcd
      have hn3 : ((c.length : Int) < (t.edges.length : Int)) = False := by simp [hcd]
      repeat' (first | (first | (refine AWP.go env ?_; intro K fin; try simp +decide (maxSteps := 4000000) only [hn3, go_sem, Nat.reduceAdd, Nat.reduceMul]) | refine Kt.h _ _ ?_ | refine Ft.k (by decide +kernel) ?_ | ((first | refine ⟨_, hnC, ?_⟩ | refine ⟨_, heC, ?_⟩); simp +decide (maxSteps := 4000000) only [hn3, go_sem, Nat.reduceAdd, Nat.reduceMul])) | apply cond2_intro | with_reducible apply And.intro | intro h)
      rw [hF, ← hinv, ← hinv2]; try rfl
    | cons e d =>
      have hcl : c.length < t.edges.length := by rw [hcd]; simp
      have hn3 : ((c.length : Int) < (t.edges.length : Int)) = True := by simp [hcl]
      have hget : getR (t.edges.map rEdgeT) c.length = [.str e.name, .int .i64 e.src, .int .i64 e.tgt, .int .i64 e.outLow, .int .i64 e.outHigh, .int .i64 e.inLow, .int .i64 e.inHigh] := by rw [hcd]; simp [getR, rEdgeT]
      have v3 := wk_i (t := c.length) (by omega)
      have heC := rEdgeTC (t := t) hcd
      repeat' (first | (first | (refine AWP.go env ?_; intro K fin; try simp +decide (maxSteps := 4000000) only [hn3, hget, v3, go_sem, Nat.reduceAdd, Nat.reduceMul]) | refine Kt.h _ _ ?_ | refine Ft.k (by decide +kernel) ?_ | ((first | refine ⟨_, hnC, ?_⟩ | refine ⟨_, heC, ?_⟩); simp +decide (maxSteps := 4000000) only [hn3, hget, v3, go_sem, Nat.reduceAdd, Nat.reduceMul])) | apply cond2_intro | with_reducible apply And.intro | intro h)
      all_goals try omega
      · have h1 : edgesGo t c (e :: d) = some (e.name, edgeTF t c e) := by rw [edgesGo, if_pos (by simpa using (show (edgeTF t c e != 0) = true by assumption))]
        have h2 : typesF t = (e.name, edgeTF t c e) := by rw [hF, ← hinv, ← hinv2, h1]; try rfl
        rw [h2]
      · refine ⟨⟨c ++ [e], d, by simp [hcd], ?_⟩, by simp, by simp +decide (maxSteps := 4000000) only [go_sem, Nat.reduceAdd, Nat.reduceMul]; simp⟩
        rw [← hinv2, edgesGo, if_neg (by simpa using h)]
  | cons n b =>
    have hal : a.length < t.nodes.length := by rw [hab]; simp
    have hn2 : ((a.length : Int) < (t.nodes.length : Int)) = True := by simp [hal]
    have hget : getR (t.nodes.map rNodeT) a.length = [.str n.name, .int .i64 n.parent, .bool n.abstr, .fsl 4 (n.attrs.map rAttr)] := by rw [hab]; simp [getR, rNodeT]
    have v3 := wk_i (t := a.length) (by omega)
    have hnC := rNodeTC hab hgood.1 hgood.2 (hfew n (by rw [hab]; simp))
    repeat' (first | (first | (refine AWP.go env ?_; intro K fin; try simp +decide (maxSteps := 4000000) only [hn2, hget, v3, go_sem, Nat.reduceAdd, Nat.reduceMul]) | refine Kt.h _ _ ?_ | refine Ft.k (by decide +kernel) ?_ | ((first | refine ⟨_, hnC, ?_⟩ | refine ⟨_, heC, ?_⟩); simp +decide (maxSteps := 4000000) only [hn2, hget, v3, go_sem, Nat.reduceAdd, Nat.reduceMul])) | apply cond2_intro | with_reducible apply And.intro | intro h)
    all_goals try omega
    · have h1 : nodesGo t a (n :: b) = some (n.name, nodeTF t a n) := by rw [nodesGo, if_pos (by simpa using (show (nodeTF t a n != 0) = true by assumption))]
      have h2 : typesF t = (n.name, nodeTF t a n) := by rw [hF, ← hinv, h1]
      rw [h2]
    · refine ⟨⟨a ++ [n], b, by simp [hab], ?_, ?_⟩, by simp, by simp +decide (maxSteps := 4000000) only [go_sem, Nat.reduceAdd, Nat.reduceMul]; simp⟩
      · rw [← hinv, nodesGo, if_neg (by simpa using h)]
      · rw [List.length_append]; exact nodeTF_good hab hgood (by simpa using h)
end Go.Abs
/- Type graphs and node types. -/
set_option linter.unusedSimpArgs false
set_option linter.unusedVariables false
set_option maxRecDepth 20000
set_option maxHeartbeats 2000000
namespace Go.Abs
open Go Go.RowKit Go.Proofs
attribute [local irreducible] Con AWP

def outB (t : Types) (a : Int) : Bool := decide (a < 0) || decide ((t.nodes.length : Int) ≤ a)

def givenF (t : Types) (l : List Int) : Int := if (typesF t).2 ≠ 0 then (typesF t).2 else if l.any (outB t) = true then 6 else 0

theorem givenOutC {t : Types} {a : Int} : Con Tryz.prog 255 [.int .i64 a, .fptr [.fsl 4 (t.nodes.map rNodeT), .fsl 7 (t.edges.map rEdgeT)] 0] (.bool (outB t a)) := by
  refine ConC.con (ent _ Tryz.func255 rfl rfl) (con_of_body env Tryz.func255 rfl (nt := 13) (rs := [.tmp 3]) rfl rfl (Nat.le_of_ble_eq_true rfl) fun hok => ?_)
  repeat' (first | (first | (refine AWP.go env ?_; intro K fin; try simp +decide (maxSteps := 4000000) only [go_sem, Nat.reduceAdd, Nat.reduceMul]) | refine Kt.h _ _ ?_ | refine Ft.k (by decide +kernel) ?_) | apply cond2_intro | with_reducible apply And.intro | intro h)
  all_goals (unfold outB; grind)

theorem givenC {t : Types} {l : List Int} : Con Tryz.prog 197 [dTypes t, dInts l] (.int .i64 (givenF t l)) := by
  refine ConC.con (ent _ Tryz.func197 rfl rfl) (con_of_body env Tryz.func197 rfl (nt := 18) (rs := [.tmp 4]) rfl rfl (Nat.le_of_ble_eq_true rfl) fun hok => ?_)
  repeat' (first | (first | (refine AWP.go env ?_; intro K fin; try simp +decide (maxSteps := 4000000) only [go_sem, Nat.reduceAdd, Nat.reduceMul]) | refine Kt.h _ _ ?_ | refine Ft.k (by decide +kernel) ?_ | ((first | refine ⟨_, typesC, ?_⟩ | refine ⟨_, contFuncintC (caps := [.fptr [.fsl 4 (t.nodes.map rNodeT), .fsl 7 (t.edges.map rEdgeT)] 0]) (p := outB t) (xs := l) (fun _ => rfl) (fun _ => rfl) (fun _ => rfl) (fun _ _ => givenOutC), ?_⟩); simp +decide (maxSteps := 4000000) only [go_sem, Nat.reduceAdd, Nat.reduceMul])) | apply cond2_intro | with_reducible apply And.intro | intro h)
  all_goals (unfold givenF; grind)

theorem rGivenC {t : Types} (hfew : ∀ n ∈ t.nodes, n.attrs.length ≤ 30) {a b : Int} : Con Tryz.prog 210 [dTypes t, .int .i64 a, .int .i64 b] (.int .i64 (givenF t [a, b])) := by
  refine ConC.con (ent _ Tryz.func210 rfl rfl) (con_of_body env Tryz.func210 rfl (nt := 33) (rs := [.tmp 6]) rfl rfl (Nat.le_of_ble_eq_true rfl) fun hok => ?_)
  have hnl : t.nodes.length ≤ 140737488355328 := by
    have := DOk.len (DOk.agg_mem (hok _ (List.mem_cons_self ..)) (d := .fsl 4 (t.nodes.map rNodeT)) (by simp))
    simpa using this
  have hw : IntKind.i64.wrap ((t.nodes.length : Int) - 1) = (t.nodes.length : Int) - 1 := by rw [wrap64 (by omega) (by omega)]
  have q : ∀ z : Int, (decide (0 ≤ z) && decide (z ≤ (t.nodes.length : Int) - 1)) = !outB t z := fun z => by
    unfold outB
    by_cases h1 : z < 0
    · have : ¬ 0 ≤ z := by omega
      simp [h1, this]
    · have : 0 ≤ z := by omega
      by_cases h2 : (t.nodes.length : Int) ≤ z
      · have : ¬ z ≤ (t.nodes.length : Int) - 1 := by omega
        simp [h2, this]
      · have : z ≤ (t.nodes.length : Int) - 1 := by omega
        simp [*]
  repeat' (first | (first | (refine AWP.go env ?_; intro K fin; try simp +decide (maxSteps := 4000000) only [hw, q, Bool.not_not, go_sem, Nat.reduceAdd, Nat.reduceMul]) | refine Kt.h _ _ ?_ | refine Ft.k (by decide +kernel) ?_ | ((first | refine ⟨_, typesC, ?_⟩ | refine ⟨_, contFuncintC (caps := [.fptr [.fsl 4 (t.nodes.map rNodeT), .fsl 7 (t.edges.map rEdgeT)] 0]) (p := outB t) (xs := l) (fun _ => rfl) (fun _ => rfl) (fun _ => rfl) (fun _ _ => givenOutC), ?_⟩ | refine ⟨_, rTypesC hfew, ?_⟩ | refine ⟨_, rInC, ?_⟩); simp +decide (maxSteps := 4000000) only [hw, q, Bool.not_not, go_sem, Nat.reduceAdd, Nat.reduceMul])) | apply cond2_intro | with_reducible apply And.intro | intro h)
  all_goals (unfold givenF; simp only [List.any_cons, List.any_nil]; grind)
end Go.Abs
/- Contracts of the library: laid by the kit's own tools, in plain words. -/
namespace Go.Proofs
open Go.Shelf
def Tryz.lays189_ren : Go.Shelf.Ren := ⟨fun | 189 => 87 | 125 => 156 | 257 => 155 | 128 => 227 | 129 => 228 | 294 => 218 | 295 => 219 | 296 => 220 | 297 => 221 | 298 => 222 | 299 => 223 | 216 => 224 | 300 => 225 | 301 => 226 | 328 => 272 | 329 => 273 | 330 => 274 | 331 => 275 | 332 => 276 | 215 => 277 | 343 => 292 | n => n, fun | 28 => 26 | 3 => 3 | 46 => 196 | 0 => 0 | 51 => 246 | 53 => 66 | 4 => 4 | 183 => 240 | 182 => 239 | 131 => 200 | 5 => 5 | 9 => 9 | 218 => 276 | 222 => 280 | 228 => 287 | 229 => 227 | n => n, fun | n => n⟩
theorem Tryz.lays189 : Go.Proofs.Lays.n189 Tryz.prog Tryz.lays189_ren := {
  mixed := by kernel_rfl
  f125 := Tryz.func156.trans (congrArg some (by kernel_rfl))
  f128 := Tryz.func227.trans (congrArg some (by kernel_rfl))
  f129 := Tryz.func228.trans (congrArg some (by kernel_rfl))
  f189 := Tryz.func87.trans (congrArg some (by kernel_rfl))
  f215 := Tryz.func277.trans (congrArg some (by kernel_rfl))
  f216 := Tryz.func224.trans (congrArg some (by kernel_rfl))
  f257 := Tryz.func155.trans (congrArg some (by kernel_rfl))
  f294 := Tryz.func218.trans (congrArg some (by kernel_rfl))
  f295 := Tryz.func219.trans (congrArg some (by kernel_rfl))
  f296 := Tryz.func220.trans (congrArg some (by kernel_rfl))
  f297 := Tryz.func221.trans (congrArg some (by kernel_rfl))
  f298 := Tryz.func222.trans (congrArg some (by kernel_rfl))
  f299 := Tryz.func223.trans (congrArg some (by kernel_rfl))
  f300 := Tryz.func225.trans (congrArg some (by kernel_rfl))
  f301 := Tryz.func226.trans (congrArg some (by kernel_rfl))
  f328 := Tryz.func272.trans (congrArg some (by kernel_rfl))
  f329 := Tryz.func273.trans (congrArg some (by kernel_rfl))
  f330 := Tryz.func274.trans (congrArg some (by kernel_rfl))
  f331 := Tryz.func275.trans (congrArg some (by kernel_rfl))
  f332 := Tryz.func276.trans (congrArg some (by kernel_rfl))
  f343 := Tryz.func292.trans (congrArg some (by kernel_rfl))
  t0 := Tryz.underlying0
  a0 := Tryz.isAgg0
  z0 := Tryz.sizeOf0
  v0 := Tryz.zeroValue0
  t3 := Tryz.underlying3
  a3 := Tryz.isAgg3
  z3 := Tryz.sizeOf3
  v3 := Tryz.zeroValue3
  t4 := Tryz.underlying4
  a4 := Tryz.isAgg4
  z4 := Tryz.sizeOf4
  v4 := Tryz.zeroValue4
  t5 := Tryz.underlying5
  a5 := Tryz.isAgg5
  z5 := Tryz.sizeOf5
  v5 := Tryz.zeroValue5
  t9 := Tryz.underlying9
  a9 := Tryz.isAgg9
  z9 := Tryz.sizeOf9
  v9 := Tryz.zeroValue9
  t28 := Tryz.underlying26
  a28 := Tryz.isAgg26
  z28 := Tryz.sizeOf26
  v28 := Tryz.zeroValue26
  t46 := Tryz.underlying196
  a46 := Tryz.isAgg196
  z46 := Tryz.sizeOf196
  v46 := Tryz.zeroValue196
  t51 := Tryz.underlying246
  a51 := Tryz.isAgg246
  z51 := Tryz.sizeOf246
  v51 := Tryz.zeroValue246
  t53 := Tryz.underlying66
  a53 := Tryz.isAgg66
  z53 := Tryz.sizeOf66
  v53 := Tryz.zeroValue66
  t131 := Tryz.underlying200
  a131 := Tryz.isAgg200
  z131 := Tryz.sizeOf200
  v131 := Tryz.zeroValue200
  t182 := Tryz.underlying239
  a182 := Tryz.isAgg239
  z182 := Tryz.sizeOf239
  v182 := Tryz.zeroValue239
  t183 := Tryz.underlying240
  a183 := Tryz.isAgg240
  z183 := Tryz.sizeOf240
  v183 := Tryz.zeroValue240
  t218 := Tryz.underlying276
  a218 := Tryz.isAgg276
  z218 := Tryz.sizeOf276
  v218 := Tryz.zeroValue276
  t222 := Tryz.underlying280
  a222 := Tryz.isAgg280
  z222 := Tryz.sizeOf280
  v222 := Tryz.zeroValue280
  t228 := Tryz.underlying287
  a228 := Tryz.isAgg287
  z228 := Tryz.sizeOf287
  v228 := Tryz.zeroValue287
  t229 := Tryz.underlying227
  a229 := Tryz.isAgg227
  z229 := Tryz.sizeOf227
  v229 := Tryz.zeroValue227 }
open Go.Sort Go.RowKit in
theorem Tryz.slices_Sort_int (blk off cap : Nat) (zs : List Int) (w : World) (hH : Holds (Value.int .i64) w blk off zs.toArray) (hblk : blk < w.heap.size) (hsz : zs.length < 4611686018427387904) :
    Calls Tryz.prog 87 #[.slice (some ⟨blk, off, none⟩) zs.length cap] w fun e w' =>
      e = .returned (.tuple #[]) ∧ ∃ n os, w' = grow (putRow (Value.int .i64) (Sort.ahead w n) blk off (zs.mergeSort fun x y => decide (x ≤ y)).toArray) os := Any.slices_Sort_int Tryz.lays189 blk off cap zs w hH hblk hsz
def Tryz.lays112_ren : Go.Shelf.Ren := ⟨fun | 112 => 289 | n => n, fun | 28 => 26 | 3 => 3 | 4 => 4 | 0 => 0 | n => n, fun | n => n⟩
theorem Tryz.lays112 : Go.Proofs.Lays.n112 Tryz.prog Tryz.lays112_ren := {
  mixed := by kernel_rfl
  f112 := Tryz.func289.trans (congrArg some (by kernel_rfl))
  t0 := Tryz.underlying0
  a0 := Tryz.isAgg0
  z0 := Tryz.sizeOf0
  v0 := Tryz.zeroValue0
  t3 := Tryz.underlying3
  a3 := Tryz.isAgg3
  z3 := Tryz.sizeOf3
  v3 := Tryz.zeroValue3
  t4 := Tryz.underlying4
  a4 := Tryz.isAgg4
  z4 := Tryz.sizeOf4
  v4 := Tryz.zeroValue4
  t28 := Tryz.underlying26
  a28 := Tryz.isAgg26
  z28 := Tryz.sizeOf26
  v28 := Tryz.zeroValue26 }
open Go.RowKit Go.Lib Go.Sort in
theorem Tryz.slices_Reverse_int (blk off cap : Nat) (zs : List Int) (w : World) (hH : Holds (Value.int .i64) w blk off zs.toArray) (hsz : zs.length ≤ 9223372036854775807) :
    Calls Tryz.prog 289 #[.slice (some ⟨blk, off, none⟩) zs.length cap] w fun e w' => e = .returned (.tuple #[]) ∧ ∃ n, w' = putRow (Value.int .i64) (Sort.ahead w n) blk off zs.reverse.toArray := Any.slices_Reverse_int Tryz.lays112 blk off cap zs w hH hsz
open Go.RowKit Go.Lib Go.Sort in
theorem Tryz.slices_Reverse_int_empty (a : Option Addr) (cap : Nat) (w : World) :
    Calls Tryz.prog 289 #[.slice a 0 cap] w fun e w' => e = .returned (.tuple #[]) ∧ w' = w := Any.slices_Reverse_int_empty Tryz.lays112 a cap w
def Tryz.laysNm220_ren : Go.Shelf.Ren := ⟨fun | 20 => 233 | n => n, fun | 22 => 26 | 3 => 3 | 4 => 4 | 0 => 0 | n => n, fun | n => n⟩
theorem Tryz.laysNm220 : Go.Proofs.Lays2.n20 Tryz.prog Tryz.laysNm220_ren := {
  mixed := by kernel_rfl
  f20 := Tryz.func233.trans (congrArg some (by kernel_rfl))
  t0 := Tryz.underlying0
  a0 := Tryz.isAgg0
  z0 := Tryz.sizeOf0
  v0 := Tryz.zeroValue0
  t3 := Tryz.underlying3
  a3 := Tryz.isAgg3
  z3 := Tryz.sizeOf3
  v3 := Tryz.zeroValue3
  t4 := Tryz.underlying4
  a4 := Tryz.isAgg4
  z4 := Tryz.sizeOf4
  v4 := Tryz.zeroValue4
  t22 := Tryz.underlying26
  a22 := Tryz.isAgg26
  z22 := Tryz.sizeOf26
  v22 := Tryz.zeroValue26
  i3 := by kernel_rfl }
open Go.RowKit Go.Lib Go.Sort in
theorem Tryz.slices_Compact_int (blk off cap : Nat) (zs : List Int) (w : World) (hH : Holds (Value.int .i64) w blk off zs.toArray) (hsz : zs.length ≤ 9223372036854775807) (hcap : zs.length ≤ cap) :
    Calls Tryz.prog 233 #[.slice (some ⟨blk, off, none⟩) zs.length cap] w fun e w' => e = .returned (.slice (some ⟨blk, off, none⟩) (Lib.compact zs).length cap) ∧ ∃ q, w' = putRow (Value.int .i64) (Sort.ahead w q) blk off (Lib.compact zs ++ List.replicate (zs.length - (Lib.compact zs).length) 0).toArray := Any.slices_Compact_int Tryz.laysNm220 blk off cap zs w hH hsz hcap
open Go.RowKit Go.Lib Go.Sort in
theorem Tryz.slices_Compact_int_empty (a : Option Addr) (cap : Nat) (w : World) :
    Calls Tryz.prog 233 #[.slice a 0 cap] w fun e w' => e = .returned (.slice a 0 cap) ∧ w' = w := Any.slices_Compact_int_empty Tryz.laysNm220 a cap w
open Go.RowKit Go.Sort in
theorem Tryz.slices_Sort_int_none (p : Option Addr) (cap : Nat) (w : World) :
    Calls Tryz.prog 87 #[.slice p 0 cap] w fun e w' => e = .returned (.tuple #[]) ∧ w' = w := Any.slices_Sort_int_none Tryz.lays189 p cap w
end Go.Proofs
/- Library functions that work in place. -/
set_option linter.unusedSimpArgs false
set_option linter.unusedVariables false
set_option maxRecDepth 20000
namespace Go.Abs
open Go Go.RowKit Go.Proofs
attribute [local irreducible] Con AWP

theorem rowsInt {w : World} {xs : List Int} {vs : List Value} (h : RowsEnc (encF w) 1 (xs.map rI) vs) : vs = xs.map (Value.int .i64) := by
  apply List.ext_getElem?
  intro i
  have hl : vs.length = xs.length := by rw [h.len]; simp
  by_cases hi : i < xs.length
  · have h1 := h.enc i 0 (by simpa using hi) (by omega)
    have h2 : getC (getR (xs.map rI) i) 0 = .int .i64 xs[i] := by rw [getR_map _ _ _ hi]; try rfl
    rw [h2, Nat.mul_one, Nat.add_zero] at h1
    rw [List.getD_eq_getElem?_getD, List.getElem?_eq_getElem (by omega), Option.getD_some] at h1
    rw [List.getElem?_eq_getElem (by omega), List.getElem?_map, List.getElem?_eq_getElem hi, Option.map_some]
    generalize vs[i] = v at h1
    cases h1; rfl
  · rw [List.getElem?_eq_none (by omega), List.getElem?_eq_none (by simp; omega)]

theorem intsRow {w : World} {xs : List Int} (h1 : xs.length ≤ lim) (h2 : ∀ x ∈ xs, IntKind.i64.has x) : RowsEnc (encF w) 1 (xs.map rI) (xs.map (Value.int .i64)) := by
  refine ⟨by simp, fun r hr => ?_, fun i j hi hj => ?_, fun x hx => ?_, by simpa using h1⟩
  · obtain ⟨x, _, rfl⟩ := List.mem_map.1 hr; rfl
  · have hi' : i < xs.length := by simpa using hi
    obtain rfl : j = 0 := by omega
    rw [getR_map _ _ _ hi', Nat.mul_one, Nat.add_zero, List.getD_eq_getElem?_getD, List.getElem?_map, List.getElem?_eq_getElem hi']
    exact .int _ _ (h2 _ (List.getElem_mem hi'))
  · obtain ⟨y, _, rfl⟩ := List.mem_map.1 hx; rfl

theorem has_of_rows {w : World} {xs : List Int} {vs : List Value} (h : RowsEnc (encF w) 1 (xs.map rI) vs) : ∀ x ∈ xs, IntKind.i64.has x := fun x hx => by
  obtain ⟨i, hi, rfl⟩ := List.getElem_of_mem hx
  have h1 := h.enc i 0 (by simpa using hi) (by omega)
  have h2 : getC (getR (xs.map rI) i) 0 = .int .i64 xs[i] := by rw [getR_map _ _ _ hi]; try rfl
  rw [h2] at h1
  generalize vs.getD (i * 1 + 0) Go.undef = v at h1
  cases h1; assumption

theorem cellI (xs : List Int) : ∀ r ∈ xs.map rI, ∀ d ∈ r, cellB d = true := fun r hr d hd => by
  obtain ⟨x, _, rfl⟩ := List.mem_map.1 hr
  obtain rfl : d = .int .i64 x := by simpa using hd
  rfl

theorem goes_of {P : Program} {f : FuncId} (he : EnterOk P f) {vs : Array Value} {w : World} {R : Value → World → Prop} (h : Calls P f vs w fun e w' => ∃ v, e = .returned v ∧ R v w') : Goes P f vs w R := by
  intro o a next Q hn
  obtain ⟨fn, e1, e2, e3⟩ := he.ex
  have hr : (callFunc f vs).run P w = .ok (.enter f vs) w := by
    have q1 : fn.name ≠ "runtime.NumGoroutine" := by simpa using e2
    have q2 : fn.body ≠ none := by intro e; rw [e] at e3; cases e3
    simp [callFunc, e1, q1, q2]
  rw [hr, Oper.upon_enter]
  refine h.mono fun e w' ⟨v, hv, hp⟩ => ?_
  subst hv
  exact hn v w' hp

theorem coni_con {P : Program} {f : FuncId} {ty : TypeId} {sz : Nat} {rows : List (List D)} {r : D} (h : ConI P f ty sz rows r) : Con P f [.nsl ty sz rows] r := by unfold Con; exact h

theorem grownBy_refl (w : World) (r : Option Nat) : w.grownBy w r := ⟨rfl, rfl, rfl, Nat.le_refl _, fun _ _ _ => rfl⟩

/-- Sorted, or turned round. -/
theorem perm_coni {P : Program} {f : FuncId} (he : EnterOk P f) {ty : TypeId} {xs ys : List Int} (hl : ys.length = xs.length) (hm : ∀ y ∈ ys, y ∈ xs)
    (h0 : xs = [] → ∀ w, Calls P f #[.slice none 0 0] w fun e w' => e = .returned (.tuple #[]) ∧ w' = w)
    (h1 : ∀ (g cap : Nat) (w : World), Sort.Holds (Value.int .i64) w g 0 xs.toArray → g < w.heap.size → xs.length < 4611686018427387904 → Calls P f #[.slice (some ⟨g, 0, none⟩) xs.length cap] w fun e w' => e = .returned (.tuple #[]) ∧ ∃ n os, w' = Sort.grow (Sort.putRow (Value.int .i64) (Sort.ahead w n) g 0 ys.toArray) os) :
    Con P f [.nsl ty 1 (xs.map rI)] (.tup [.nsl ty 1 (ys.map rI)]) := by
  refine coni_con ⟨cellI xs, fun w base v vs hx hown => ?_⟩
  have hv := rowsInt hx
  have hlim : xs.length ≤ lim := by have := hx.lim; simpa using this
  have hys := intsRow (w := w) (xs := ys) (by omega) (fun y hy => has_of_rows hx y (hm y hy))
  refine goes_of he ?_
  rw [List.length_map] at hown
  rcases hown.2 with ⟨rfl, hn⟩ | ⟨g, cap, cur, rfl, hbase, hg, hnc, hcm, hcs, htake⟩
  · have hxe : xs = [] := List.eq_nil_of_length_eq_zero hn
    have hye : ys = [] := List.eq_nil_of_length_eq_zero (by rw [hl, hn])
    refine (h0 hxe w).mono fun e w' ⟨h2, h3⟩ => ?_
    subst h2 h3
    refine ⟨_, rfl, grownBy_refl _ _, rfl, cellI ys, [], ?_, ?_⟩
    · rw [hye]; exact ⟨by simp, by simp, by simp, by simp, by simp [lim]⟩
    · rw [hye]; exact ⟨by simp, .inl ⟨rfl, rfl⟩⟩
  · have hH := holds_of_blockI (ss := xs) hg (by rw [Nat.mul_one] at htake; rw [htake, hv])
    have hgs : g < w.heap.size := (Array.getElem?_eq_some_iff.1 hg).1
    refine (h1 g cap w hH hgs (by unfold lim at hlim; omega)).mono fun e w' ⟨h2, n, os, h3⟩ => ?_
    subst h2 h3
    refine ⟨_, rfl, grownBy_sortedI ys.toArray, rfl, cellI ys, ys.map (Value.int .i64), ?_, ?_⟩
    · exact rows_flat hys (cellI ys) fun d v hf hd => flatB_enc hd hf
    · have := ownsRow_sortedI (w := w) (base := base) (n := n) (os := os) (ss := xs) (ts := ys) hl hbase hg hnc hcm hcs
      rw [List.length_map, hl]; exact this

theorem sortC {xs : List Int} : Con Tryz.prog 87 [.nsl 3 1 (xs.map rI)] (.tup [.nsl 3 1 ((xs.mergeSort fun x y => decide (x ≤ y)).map rI)]) :=
  perm_coni (ent _ Tryz.func87 rfl rfl) (List.length_mergeSort _) (fun y hy => (List.mem_mergeSort).1 hy) (fun _ w => Tryz.slices_Sort_int_none none 0 w) (fun g cap w h1 h2 h3 => Tryz.slices_Sort_int g 0 cap xs w h1 h2 h3)

theorem reverseC {xs : List Int} : Con Tryz.prog 289 [.nsl 3 1 (xs.map rI)] (.tup [.nsl 3 1 (xs.reverse.map rI)]) :=
  perm_coni (ent _ Tryz.func289 rfl rfl) (List.length_reverse) (fun y hy => List.mem_reverse.1 hy) (fun _ w => Tryz.slices_Reverse_int_empty none 0 w) (fun g cap w h1 h2 h3 => (Tryz.slices_Reverse_int g 0 cap xs w h1 (by omega)).mono fun e w' ⟨h4, n, h5⟩ => ⟨h4, n, #[], by rw [h5, Sort.grow_empty]⟩)

theorem compact_len (xs : List Int) : (Lib.compact xs).length ≤ xs.length := by
  unfold Lib.compact Lib.compactUpTo
  rw [List.length_map]
  exact Nat.le_trans (List.length_filter_le _ _) (by simp)

theorem compact_mem (xs : List Int) : ∀ y ∈ Lib.compact xs, y ∈ xs := fun y hy => by
  unfold Lib.compact Lib.compactUpTo at hy
  obtain ⟨i, hi, rfl⟩ := List.mem_map.1 hy
  have hi := List.mem_range.1 (List.mem_filter.1 hi).1
  have : xs.toArray[i]! = xs[i] := by rw [getElem!_pos xs.toArray i (by simpa using hi)]; simp
  rw [this]; exact List.getElem_mem hi

theorem compactC {xs : List Int} : Con Tryz.prog 233 [.nsl 3 1 (xs.map rI)] (.nsl 3 1 ((Lib.compact xs).map rI)) := by
  refine coni_con ⟨cellI xs, fun w base v vs hx hown => ?_⟩
  have hv := rowsInt hx
  have hlim : xs.length ≤ lim := by have := hx.lim; simpa using this
  have hcl := compact_len xs
  have hys := intsRow (w := w) (xs := Lib.compact xs) (by omega) (fun y hy => has_of_rows hx y (compact_mem xs y hy))
  refine goes_of (ent _ Tryz.func233 rfl rfl) ?_
  rw [List.length_map] at hown
  rcases hown.2 with ⟨rfl, hn⟩ | ⟨g, cap, cur, rfl, hbase, hg, hnc, hcm, hcs, htake⟩
  · have hye : Lib.compact xs = [] := List.eq_nil_of_length_eq_zero (by omega)
    refine (Tryz.slices_Compact_int_empty none 0 w).mono fun e w' ⟨h2, h3⟩ => ?_
    subst h2 h3
    refine ⟨_, rfl, grownBy_refl _ _, fun b hb => hb, cellI _, [], ?_, ?_⟩
    · rw [hye]; exact ⟨by simp, by simp, by simp, by simp, by simp [lim]⟩
    · rw [hye]; exact ⟨by simp, .inl ⟨rfl, rfl⟩⟩
  · have hH := holds_of_blockI (ss := xs) hg (by rw [Nat.mul_one] at htake; rw [htake, hv])
    refine (Tryz.slices_Compact_int g 0 cap xs w hH (by unfold lim at hlim; omega) hnc).mono fun e w' ⟨h2, q, h3⟩ => ?_
    have h3' : w' = Sort.grow (Sort.putRow (Value.int .i64) (Sort.ahead w q) g 0 (Lib.compact xs ++ List.replicate (xs.length - (Lib.compact xs).length) 0).toArray) #[] := by rw [h3, Sort.grow_empty]
    subst h2; subst h3'
    refine ⟨_, rfl, grownBy_sortedI _, fun b hb => hb, cellI _, (Lib.compact xs).map (Value.int .i64), ?_, ?_⟩
    · exact rows_flat hys (cellI _) fun d v hf hd => flatB_enc hd hf
    · rw [List.length_map]
      refine ⟨by simp, .inr ⟨g, cap, _, rfl, hbase, heap_sortedI _ hg, by omega, hcm, by simp [Sort.putCells, hcs], ?_⟩⟩
      have h5 := take_putCellsI cur (Lib.compact xs ++ List.replicate (xs.length - (Lib.compact xs).length) 0) (by simp; omega)
      have h6 := congrArg (List.take (Lib.compact xs).length) h5
      rw [List.take_take] at h6
      rw [Nat.mul_one]
      have e1 : min (Lib.compact xs).length (Lib.compact xs ++ List.replicate (xs.length - (Lib.compact xs).length) (0 : Int)).length = (Lib.compact xs).length := by simp
      rw [e1] at h6
      rw [h6, List.map_append, List.take_append_of_le_length (by simp), List.take_of_length_le (by simp)]
end Go.Abs
/- Supertypes. -/
set_option linter.unusedSimpArgs false
set_option linter.unusedVariables false
set_option maxRecDepth 20000
set_option maxHeartbeats 2000000
namespace Go.Abs
open Go Go.RowKit Go.Proofs
attribute [local irreducible] Con AWP

/-- A type and its supertypes. -/
def upF (t : Types) : Nat → Int → List Int
  | 0, _ => []
  | f + 1, a => if 0 ≤ a then a :: upF t f (nodeAt t a.toNat).parent else []

def up (t : Types) (a : Int) : List Int := upF t (a.toNat + 1) a

theorem upF_neg {t : Types} {a : Int} (h : a < 0) : ∀ f, upF t f a = []
  | 0 => rfl
  | f + 1 => by simp only [upF]; rw [if_neg (by omega)]

theorem up_neg {t : Types} {a : Int} (h : a < 0) : up t a = [] := upF_neg h _

theorem upF_fuel {t : Types} {k : Nat} (hg : GoodTo t k) : ∀ (n f : Nat) (a : Int), a.toNat ≤ n → a < k → a.toNat < f → upF t f a = up t a
  | n, f, a, hn, hk, hf => by
    by_cases h : a < 0
    · rw [upF_neg h, up_neg h]
    · obtain ⟨f, rfl⟩ : ∃ g, f = g + 1 := ⟨f - 1, by omega⟩
      have hp := hg.1 a.toNat (by omega)
      unfold up
      simp only [upF]
      rw [if_pos (by omega), if_pos (by omega)]
      by_cases h2 : (nodeAt t a.toNat).parent < 0
      · rw [upF_neg h2, upF_neg h2]
      · cases n with
        | zero => omega
        | succ n =>
          rw [upF_fuel hg n f _ (by omega) (by omega) (by omega), upF_fuel hg n a.toNat _ (by omega) (by omega) (by omega)]

theorem up_pos {t : Types} {k : Nat} (hg : GoodTo t k) {a : Int} (h0 : 0 ≤ a) (hk : a < k) : up t a = a :: up t (nodeAt t a.toNat).parent := by
  have hp := hg.1 a.toNat (by omega)
  have e : up t a = a :: upF t a.toNat (nodeAt t a.toNat).parent := by unfold up; simp only [upF]; rw [if_pos h0]
  rw [e]
  by_cases h2 : (nodeAt t a.toNat).parent < 0
  · rw [upF_neg h2, up_neg h2]
  · rw [upF_fuel hg a.toNat a.toNat _ (by omega) (by omega) (by omega)]

theorem up_len {t : Types} {k : Nat} (hg : GoodTo t k) : ∀ (n : Nat) (a : Int), (a + 1).toNat ≤ n → a < k → (up t a).length ≤ (a + 1).toNat
  | 0, a, hn, hk => by rw [up_neg (by omega)]; simp
  | n + 1, a, hn, hk => by
    by_cases h : a < 0
    · rw [up_neg h]; simp
    · have hp := hg.1 a.toNat (by omega)
      rw [up_pos hg (by omega) hk]
      have := up_len hg n (nodeAt t a.toNat).parent (by omega) (by omega)
      simp only [List.length_cons]
      omega

def isF (t : Types) (a b : Int) : Bool := (up t a).any fun x => b == x

structure LineSt (t : Types) (a0 : Int) where
  pre : List Int
  a : Int
  ver : Nat
  hup : pre ++ up t a = up t a0
  hlt : a < t.nodes.length

theorem nodeAt_row {t : Types} {a : Int} (h0 : 0 ≤ a) (hk : a < t.nodes.length) : getR (t.nodes.map rNodeT) a.toNat = [.str (nodeAt t a.toNat).name, .int .i64 (nodeAt t a.toNat).parent, .bool (nodeAt t a.toNat).abstr, .fsl 4 ((nodeAt t a.toNat).attrs.map rAttr)] :=
  getR_node (by omega)

theorem lineC {t : Types} (hg : GoodTo t t.nodes.length) (hsz : t.nodes.length ≤ 100) {a : Int} (ha : a < t.nodes.length) : Con Tryz.prog 256 [dTypes t, .int .i64 a] (.nsl 3 1 ((up t a).reverse.map rI)) := by
  refine ConC.con (ent _ Tryz.func256 rfl rfl) (con_of_body env Tryz.func256 rfl (nt := 21) (rs := [.tmp 4]) rfl rfl (Nat.le_of_ble_eq_true rfl) fun hok => ?_)
  repeat' (first | (first | (refine AWP.go env ?_; intro K fin; try simp +decide (maxSteps := 4000000) only [go_sem, Nat.reduceAdd, Nat.reduceMul]) | refine Kt.h _ _ ?_ | refine Ft.k (by decide +kernel) ?_ | (refine ⟨_, reverseC, ?_⟩; simp +decide (maxSteps := 4000000) only [go_sem, Nat.reduceAdd, Nat.reduceMul])) | apply cond2_intro | with_reducible apply And.intro | intro h)
  refine AWP.weaken (Wk.nilOwn (n := 5) (id := 577) 3 1 (by simp +decide (maxSteps := 4000000) only [go_sem, Nat.reduceAdd, Nat.reduceMul]) (by simp +decide (maxSteps := 4000000) only [go_sem, Nat.reduceAdd, Nat.reduceMul])) ?_
  simp +decide (maxSteps := 4000000) only [go_sem, Nat.reduceAdd, Nat.reduceMul]
  refine AWP.lp (α := LineSt t a)
    (fun w => ⟨21, [(1, .int .i64 w.a), (2, .ptr 200 0 0 0), (5, .osl 577 w.ver)], [(577, ⟨w.ver, true, false, 1, 3, w.pre.map rI⟩), (200, ⟨0, true, true, 2, 25, [[.fsl 4 (t.nodes.map rNodeT), .fsl 7 (t.edges.map rEdgeT)]]⟩)]⟩) (fun w => (w.a + 1).toNat) ⟨[], a, 0, rfl, ha⟩ (by simp +decide (maxSteps := 4000000) only [go_sem, Nat.reduceAdd, Nat.reduceMul]; try simp) fun w K => ?_
  obtain ⟨pre, c, ver, hup, hlt⟩ := w
  by_cases h0 : 0 ≤ c
  · have hc := nodeAt_row h0 hlt
    have hge : (0 ≤ c) = True := by simp [h0]
    have hl := up_len hg _ a (Nat.le_refl _) ha
    rw [← hup, up_pos hg h0 hlt] at hl
    simp only [List.length_append, List.length_cons] at hl
    have hp := hg.1 c.toNat (by omega)
    repeat' (first | (first | (refine AWP.go env ?_; intro K fin; try simp +decide (maxSteps := 4000000) only [hc, hge, go_sem, Nat.reduceAdd, Nat.reduceMul]) | refine Kt.h _ _ ?_ | refine Ft.k (by decide +kernel) ?_ | (refine ⟨_, reverseC, ?_⟩; simp +decide (maxSteps := 4000000) only [hc, hge, go_sem, Nat.reduceAdd, Nat.reduceMul])) | apply cond2_intro | with_reducible apply And.intro | intro h)
    all_goals try (first | omega | (unfold lim; omega))
    refine ⟨⟨pre ++ [c], (nodeAt t c.toNat).parent, ver + 1, ?_, by omega⟩, by simp only; omega, by simp +decide (maxSteps := 4000000) only [go_sem, Nat.reduceAdd, Nat.reduceMul]; simp⟩
    rw [← hup, up_pos hg h0 hlt, List.append_assoc]; try rfl
  · have hge : (0 ≤ c) = False := by simp [h0]
    have hcn := up_neg (t := t) (a := c) (by omega)
    rw [hcn, List.append_nil] at hup
    repeat' (first | (first | (refine AWP.go env ?_; intro K fin; try simp +decide (maxSteps := 4000000) only [hge, go_sem, Nat.reduceAdd, Nat.reduceMul]) | refine Kt.h _ _ ?_ | refine Ft.k (by decide +kernel) ?_ | (refine ⟨_, reverseC, ?_⟩; simp +decide (maxSteps := 4000000) only [hge, go_sem, Nat.reduceAdd, Nat.reduceMul])) | apply cond2_intro | with_reducible apply And.intro | intro h)
    rw [hup]

theorem isC {t : Types} (hg : GoodTo t t.nodes.length) (hsz : t.nodes.length ≤ 100) {a b : Int} (ha : a < t.nodes.length) : Con Tryz.prog 198 [dTypes t, .int .i64 a, .int .i64 b] (.bool (isF t a b)) := by
  have hC := (lineC hg hsz ha).frz
  refine ConC.con (ent _ Tryz.func198 rfl rfl) (con_of_body env Tryz.func198 rfl (nt := 12) (rs := [.tmp 6]) rfl rfl (Nat.le_of_ble_eq_true rfl) fun hok => ?_)
  repeat' (first | (first | (refine AWP.go env ?_; intro K fin; try simp +decide (maxSteps := 4000000) only [go_sem, Nat.reduceAdd, Nat.reduceMul]) | refine Kt.h _ _ ?_ | refine Ft.k (by decide +kernel) ?_ | ((first | refine ⟨_, reverseC, ?_⟩ | refine ⟨_, containsIntC (v := b) (xs := (up t a).reverse), ?_⟩); simp +decide (maxSteps := 4000000) only [go_sem, Nat.reduceAdd, Nat.reduceMul])) | apply cond2_intro | with_reducible apply And.intro | intro h)
  refine ⟨_, hC, ?_⟩
  simp +decide (maxSteps := 4000000) only [go_sem, Nat.reduceAdd, Nat.reduceMul]
  repeat' (first | (first | (refine AWP.go env ?_; intro K fin; try simp +decide (maxSteps := 4000000) only [go_sem, Nat.reduceAdd, Nat.reduceMul]) | refine Kt.h _ _ ?_ | refine Ft.k (by decide +kernel) ?_ | ((first | refine ⟨_, reverseC, ?_⟩ | refine ⟨_, containsIntC (v := b) (xs := (up t a).reverse), ?_⟩); simp +decide (maxSteps := 4000000) only [go_sem, Nat.reduceAdd, Nat.reduceMul])) | apply cond2_intro | with_reducible apply And.intro | intro h)
  rw [List.any_reverse]; try rfl

theorem belowC {t : Types} (hg : GoodTo t t.nodes.length) {b : Int} (hb : 0 ≤ b) : ∀ (n : Nat) (a : Int), (a + 1).toNat ≤ n → a < t.nodes.length → Con Tryz.prog 175 [dTypes t, .int .i64 a, .int .i64 b] (.bool (isF t a b))
  | n, a, hn, ha => by
    by_cases h0 : 0 ≤ a
    · have hp := hg.1 a.toNat (by omega)
      have hc := nodeAt_row h0 ha
      have hge : (0 ≤ a) = True := by simp [h0]
      obtain ⟨m, rfl⟩ : ∃ m, n = m + 1 := ⟨n - 1, by omega⟩
      have hC := belowC hg hb m (nodeAt t a.toNat).parent (by omega) (by omega)
      have hF : isF t a b = ((a == b) || isF t (nodeAt t a.toNat).parent b) := by
        unfold isF; rw [up_pos hg h0 ha, List.any_cons, Bool.beq_comm]
      refine ConC.con (ent _ Tryz.func175 rfl rfl) (con_of_body env Tryz.func175 rfl (nt := 25) (rs := [.tmp 6]) rfl rfl (Nat.le_of_ble_eq_true rfl) fun hok => ?_)
      repeat' (first | (first | (refine AWP.go env ?_; intro K fin; try simp +decide (maxSteps := 4000000) only [hc, hge, go_sem, Nat.reduceAdd, Nat.reduceMul]) | refine Kt.h _ _ ?_ | refine Ft.k (by decide +kernel) ?_ | ((first | refine ⟨_, reverseC, ?_⟩ | refine ⟨_, containsIntC (v := b) (xs := (up t a).reverse), ?_⟩); simp +decide (maxSteps := 4000000) only [hc, hge, go_sem, Nat.reduceAdd, Nat.reduceMul])) | apply cond2_intro | with_reducible apply And.intro | intro h)
      all_goals first | exact ha | skip
      all_goals try (refine ⟨_, hC, ?_⟩; simp +decide (maxSteps := 4000000) only [go_sem, Nat.reduceAdd, Nat.reduceMul]; repeat' (first | (first | (refine AWP.go env ?_; intro K fin; try simp +decide (maxSteps := 4000000) only [hc, hge, go_sem, Nat.reduceAdd, Nat.reduceMul]) | refine Kt.h _ _ ?_ | refine Ft.k (by decide +kernel) ?_ | ((first | refine ⟨_, reverseC, ?_⟩ | refine ⟨_, containsIntC (v := b) (xs := (up t a).reverse), ?_⟩); simp +decide (maxSteps := 4000000) only [hc, hge, go_sem, Nat.reduceAdd, Nat.reduceMul])) | apply cond2_intro | with_reducible apply And.intro | intro h))
      · rw [hF, h]; try rfl
      · have h2 : (a == b) = false := by assumption
        rw [hF, h2]; try rfl
    · have hge : (0 ≤ a) = False := by simp [h0]
      have hF : isF t a b = false := by unfold isF; rw [up_neg (by omega)]; try rfl
      have hne : (a == b) = false := by simp; omega
      refine ConC.con (ent _ Tryz.func175 rfl rfl) (con_of_body env Tryz.func175 rfl (nt := 25) (rs := [.tmp 6]) rfl rfl (Nat.le_of_ble_eq_true rfl) fun hok => ?_)
      repeat' (first | (first | (refine AWP.go env ?_; intro K fin; try simp +decide (maxSteps := 4000000) only [hge, hne, go_sem, Nat.reduceAdd, Nat.reduceMul]) | refine Kt.h _ _ ?_ | refine Ft.k (by decide +kernel) ?_ | ((first | refine ⟨_, reverseC, ?_⟩ | refine ⟨_, containsIntC (v := b) (xs := (up t a).reverse), ?_⟩); simp +decide (maxSteps := 4000000) only [hge, hne, go_sem, Nat.reduceAdd, Nat.reduceMul])) | apply cond2_intro | with_reducible apply And.intro | intro h)
      exact hF.symm
end Go.Abs
/- Edge types that fit; attributes of node types. -/
set_option linter.unusedSimpArgs false
set_option linter.unusedVariables false
set_option maxRecDepth 20000
set_option maxHeartbeats 2000000
namespace Go.Abs
open Go Go.RowKit Go.Proofs
attribute [local irreducible] Con AWP

theorem typesF_ok {t : Types} (h : (typesF t).2 = 0) : t.nodes.length ≤ 12 ∧ t.edges.length ≤ 20 ∧ nodesGo t [] t.nodes = none ∧ edgesGo t [] t.edges = none := by
  unfold typesF at h
  split at h
  · cases h
  split at h
  · cases h
  split at h
  · rename_i x hx
    exfalso
    have key : ∀ (r pre : List NodeT) (x : ByteArray × Int), nodesGo t pre r = some x → x.2 ≠ 0 := by
      intro r
      induction r with
      | nil => intro pre x h; cases h
      | cons n r ih =>
        intro pre x h
        rw [nodesGo] at h
        split at h
        · cases h; assumption
        · exact ih _ _ h
    exact key _ _ _ hx h
  · split at h
    · rename_i x hx
      exfalso
      have key : ∀ (r pre : List EdgeT) (x : ByteArray × Int), edgesGo t pre r = some x → x.2 ≠ 0 := by
        intro r
        induction r with
        | nil => intro pre x h; cases h
        | cons n r ih =>
          intro pre x h
          rw [edgesGo] at h
          split at h
          · cases h; assumption
          · exact ih _ _ h
      exact key _ _ _ hx h
    · exact ⟨by omega, by omega, by assumption, by assumption⟩

theorem nodesGo_all {t : Types} : ∀ (r pre : List NodeT), t.nodes = pre ++ r → nodesGo t pre r = none → ∀ a n b, r = a ++ n :: b → nodeTF t (pre ++ a) n = 0
  | [], pre, _, _, a, n, b, he => by simp at he
  | n0 :: r, pre, he, h, a, n, b, hr => by
    rw [nodesGo] at h
    split at h
    · cases h
    · rename_i h0
      cases a with
      | nil => simp at hr; obtain ⟨rfl, rfl⟩ := hr; simpa using h0
      | cons x a =>
        simp at hr; obtain ⟨rfl, hr⟩ := hr
        have := nodesGo_all r (pre ++ [n0]) (by rw [he]; simp) h a n b hr
        simpa using this

theorem edgesGo_all {t : Types} : ∀ (r pre : List EdgeT), edgesGo t pre r = none → ∀ a n b, r = a ++ n :: b → edgeTF t (pre ++ a) n = 0
  | [], pre, _, a, n, b, he => by simp at he
  | n0 :: r, pre, h, a, n, b, hr => by
    rw [edgesGo] at h
    split at h
    · cases h
    · rename_i h0
      cases a with
      | nil => simp at hr; obtain ⟨rfl, rfl⟩ := hr; simpa using h0
      | cons x a =>
        simp at hr; obtain ⟨rfl, hr⟩ := hr
        have := edgesGo_all r (pre ++ [n0]) h a n b hr
        simpa using this

theorem typesF_good {t : Types} (h : (typesF t).2 = 0) : GoodTo t t.nodes.length := by
  obtain ⟨_, _, h1, _⟩ := typesF_ok h
  have key : ∀ k, k ≤ t.nodes.length → GoodTo t k := by
    intro k
    induction k with
    | zero => intro _; exact .zero t
    | succ k ih =>
      intro hk
      have hs : t.nodes = t.nodes.take k ++ t.nodes[k]'(by omega) :: t.nodes.drop (k + 1) := by
        rw [List.getElem_cons_drop]; exact (List.take_append_drop k t.nodes).symm
      have hl : (t.nodes.take k).length = k := by simp; omega
      have h2 := nodesGo_all t.nodes [] rfl h1 _ _ _ hs
      have := nodeTF_good hs (by rw [hl]; exact ih (by omega)) (by simpa using h2)
      rwa [hl] at this
  exact key _ (Nat.le_refl _)

theorem typesF_edge {t : Types} (h : (typesF t).2 = 0) {e : EdgeT} (he : e ∈ t.edges) : insB t e.src = true ∧ insB t e.tgt = true := by
  obtain ⟨_, _, _, h1⟩ := typesF_ok h
  obtain ⟨a, b, hs⟩ := List.append_of_mem he
  have h2 := edgesGo_all t.edges [] h1 a e b hs
  unfold edgeTF at h2
  split at h2
  · cases h2
  split at h2
  · cases h2
  split at h2
  · rename_i h3
    simp only [Bool.and_eq_true] at h3
    exact ⟨h3.1.1.1, h3.1.1.2⟩
  · cases h2

def fitsF (t : Types) (e src tgt : Int) : Bool :=
  if givenF t [src, tgt] ≠ 0 ∨ e < 0 ∨ (t.edges.length : Int) ≤ e then false
  else match t.edges[e.toNat]? with
    | some x => isF t src x.src && isF t tgt x.tgt
    | none => false

theorem givenF_ok {t : Types} {l : List Int} (h : givenF t l = 0) : (typesF t).2 = 0 ∧ ∀ a ∈ l, 0 ≤ a ∧ a < t.nodes.length := by
  unfold givenF at h
  split at h
  · rename_i h1; exact absurd h h1
  · rename_i h1
    split at h
    · cases h
    · rename_i h2
      refine ⟨by simpa using h1, fun a ha => ?_⟩
      have h3 : outB t a = false := by
        cases h4 : outB t a with
        | false => rfl
        | true => exact absurd (List.any_eq_true.2 ⟨a, ha, h4⟩) h2
      unfold outB at h3
      simp only [Bool.or_eq_false_iff, decide_eq_false_iff_not] at h3
      omega

theorem fitsTC {t : Types} {e src tgt : Int} : Con Tryz.prog 122 [dTypes t, .int .i64 e, .int .i64 src, .int .i64 tgt] (.bool (fitsF t e src tgt)) := by
  by_cases hb : givenF t [src, tgt] ≠ 0 ∨ e < 0 ∨ (t.edges.length : Int) ≤ e
  · have hF : fitsF t e src tgt = false := by unfold fitsF; rw [if_pos hb]
    rw [hF]
    refine ConC.con (ent _ Tryz.func122 rfl rfl) (con_of_body env Tryz.func122 rfl (nt := 46) (rs := [.tmp 8]) rfl rfl (Nat.le_of_ble_eq_true rfl) fun hok => ?_)
    rcases hb with hb | hb | hb
    · have q : (givenF t [src, tgt] != 0) = true := by simpa using hb
      repeat' (first | (first | (refine AWP.go env ?_; intro K fin; try simp +decide (maxSteps := 4000000) only [q, go_sem, Nat.reduceAdd, Nat.reduceMul]) | refine Kt.h _ _ ?_ | refine Ft.k (by decide +kernel) ?_ | ((first | refine ⟨_, givenC (l := [src, tgt]), ?_⟩ | refine ⟨_, hi1, ?_⟩ | refine ⟨_, hi2, ?_⟩); simp +decide (maxSteps := 4000000) only [q, go_sem, Nat.reduceAdd, Nat.reduceMul])) | apply cond2_intro | with_reducible apply And.intro | intro h)
    · have q : (e < 0) = True := by simpa using hb
      repeat' (first | (first | (refine AWP.go env ?_; intro K fin; try simp +decide (maxSteps := 4000000) only [q, go_sem, Nat.reduceAdd, Nat.reduceMul]) | refine Kt.h _ _ ?_ | refine Ft.k (by decide +kernel) ?_ | ((first | refine ⟨_, givenC (l := [src, tgt]), ?_⟩ | refine ⟨_, hi1, ?_⟩ | refine ⟨_, hi2, ?_⟩); simp +decide (maxSteps := 4000000) only [q, go_sem, Nat.reduceAdd, Nat.reduceMul])) | apply cond2_intro | with_reducible apply And.intro | intro h)
    · have q : ((t.edges.length : Int) ≤ e) = True := by simpa using hb
      repeat' (first | (first | (refine AWP.go env ?_; intro K fin; try simp +decide (maxSteps := 4000000) only [q, go_sem, Nat.reduceAdd, Nat.reduceMul]) | refine Kt.h _ _ ?_ | refine Ft.k (by decide +kernel) ?_ | ((first | refine ⟨_, givenC (l := [src, tgt]), ?_⟩ | refine ⟨_, hi1, ?_⟩ | refine ⟨_, hi2, ?_⟩); simp +decide (maxSteps := 4000000) only [q, go_sem, Nat.reduceAdd, Nat.reduceMul])) | apply cond2_intro | with_reducible apply And.intro | intro h)
  · have hb1 : givenF t [src, tgt] = 0 := by omega
    obtain ⟨h0, hr⟩ := givenF_ok hb1
    have hg := typesF_good h0
    obtain ⟨hn, hm, _, _⟩ := typesF_ok h0
    have hs := hr src (by simp)
    have ht := hr tgt (by simp)
    obtain ⟨x, hx, hget0⟩ := getR_map_mem rEdgeT t.edges e.toNat (by omega)
    have hget : getR (t.edges.map rEdgeT) e.toNat = [.str x.name, .int .i64 x.src, .int .i64 x.tgt, .int .i64 x.outLow, .int .i64 x.outHigh, .int .i64 x.inLow, .int .i64 x.inHigh] := hget0
    have hi1 := isC hg (by omega) hs.2 (b := x.src)
    have hi2 := isC hg (by omega) ht.2 (b := x.tgt)
    have hF : fitsF t e src tgt = (isF t src x.src && isF t tgt x.tgt) := by unfold fitsF; rw [if_neg hb, hx]
    have he0 : (e < 0) = False := by simp; omega
    have he1 : ((t.edges.length : Int) ≤ e) = False := by simp; omega
    have hb2 : (givenF t [src, tgt] != 0) = false := by simpa using hb1
    rw [hF]
    refine ConC.con (ent _ Tryz.func122 rfl rfl) (con_of_body env Tryz.func122 rfl (nt := 46) (rs := [.tmp 8]) rfl rfl (Nat.le_of_ble_eq_true rfl) fun hok => ?_)
    repeat' (first | (first | (refine AWP.go env ?_; intro K fin; try simp +decide (maxSteps := 4000000) only [hb2, he0, he1, hget, go_sem, Nat.reduceAdd, Nat.reduceMul]) | refine Kt.h _ _ ?_ | refine Ft.k (by decide +kernel) ?_ | ((first | refine ⟨_, givenC (l := [src, tgt]), ?_⟩ | refine ⟨_, hi1, ?_⟩ | refine ⟨_, hi2, ?_⟩); simp +decide (maxSteps := 4000000) only [hb2, he0, he1, hget, go_sem, Nat.reduceAdd, Nat.reduceMul])) | apply cond2_intro | with_reducible apply And.intro | intro h)
    all_goals try omega
    all_goals first | (rw [h]; rfl) | (rw [show isF t src x.src = true by assumption]; try rfl)

theorem rFitsTC {t : Types} (hfew : ∀ n ∈ t.nodes, n.attrs.length ≤ 30) {e src tgt : Int} : Con Tryz.prog 136 [dTypes t, .int .i64 e, .int .i64 src, .int .i64 tgt] (.bool (fitsF t e src tgt)) := by
  have q0 : ∀ z : Int, (decide (0 ≤ z) && decide (z ≤ (t.edges.length : Int) - 1)) = !(decide (z < 0) || decide ((t.edges.length : Int) ≤ z)) := fun z => by
    by_cases h1 : z < 0
    · have : ¬ 0 ≤ z := by omega
      simp [h1, this]
    · have : 0 ≤ z := by omega
      by_cases h2 : (t.edges.length : Int) ≤ z
      · have : ¬ z ≤ (t.edges.length : Int) - 1 := by omega
        simp [h2, this]
      · have : z ≤ (t.edges.length : Int) - 1 := by omega
        simp [*]
  by_cases hb : givenF t [src, tgt] ≠ 0 ∨ e < 0 ∨ (t.edges.length : Int) ≤ e
  · have hF : fitsF t e src tgt = false := by unfold fitsF; rw [if_pos hb]
    rw [hF]
    refine ConC.con (ent _ Tryz.func136 rfl rfl) (con_of_body env Tryz.func136 rfl (nt := 43) (rs := [.tmp 8]) rfl rfl (Nat.le_of_ble_eq_true rfl) fun hok => ?_)
    have hnl : t.edges.length ≤ 140737488355328 := by
      have := DOk.len (DOk.agg_mem (hok _ (List.mem_cons_self ..)) (d := .fsl 7 (t.edges.map rEdgeT)) (by simp))
      simpa using this
    have hw : IntKind.i64.wrap ((t.edges.length : Int) - 1) = (t.edges.length : Int) - 1 := by rw [wrap64 (by omega) (by omega)]
    rcases hb with hb | hb | hb
    · have q : (givenF t [src, tgt] != 0) = true := by simpa using hb
      repeat' (first | (first | (refine AWP.go env ?_; intro K fin; try simp +decide (maxSteps := 4000000) only [q, hw, q0, go_sem, Nat.reduceAdd, Nat.reduceMul]) | refine Kt.h _ _ ?_ | refine Ft.k (by decide +kernel) ?_ | ((first | refine ⟨_, givenC (l := [src, tgt]), ?_⟩ | refine ⟨_, hi1, ?_⟩ | refine ⟨_, hi2, ?_⟩ | refine ⟨_, rGivenC hfew, ?_⟩ | refine ⟨_, rInC, ?_⟩ | refine ⟨_, hi1, ?_⟩ | refine ⟨_, hi2, ?_⟩); simp +decide (maxSteps := 4000000) only [q, hw, q0, go_sem, Nat.reduceAdd, Nat.reduceMul])) | apply cond2_intro | with_reducible apply And.intro | intro h)
    · have q : (e < 0) = True := by simpa using hb
      repeat' (first | (first | (refine AWP.go env ?_; intro K fin; try simp +decide (maxSteps := 4000000) only [q, hw, q0, go_sem, Nat.reduceAdd, Nat.reduceMul]) | refine Kt.h _ _ ?_ | refine Ft.k (by decide +kernel) ?_ | ((first | refine ⟨_, givenC (l := [src, tgt]), ?_⟩ | refine ⟨_, hi1, ?_⟩ | refine ⟨_, hi2, ?_⟩ | refine ⟨_, rGivenC hfew, ?_⟩ | refine ⟨_, rInC, ?_⟩ | refine ⟨_, hi1, ?_⟩ | refine ⟨_, hi2, ?_⟩); simp +decide (maxSteps := 4000000) only [q, hw, q0, go_sem, Nat.reduceAdd, Nat.reduceMul])) | apply cond2_intro | with_reducible apply And.intro | intro h)
    · have q : ((t.edges.length : Int) ≤ e) = True := by simpa using hb
      repeat' (first | (first | (refine AWP.go env ?_; intro K fin; try simp +decide (maxSteps := 4000000) only [q, hw, q0, go_sem, Nat.reduceAdd, Nat.reduceMul]) | refine Kt.h _ _ ?_ | refine Ft.k (by decide +kernel) ?_ | ((first | refine ⟨_, givenC (l := [src, tgt]), ?_⟩ | refine ⟨_, hi1, ?_⟩ | refine ⟨_, hi2, ?_⟩ | refine ⟨_, rGivenC hfew, ?_⟩ | refine ⟨_, rInC, ?_⟩ | refine ⟨_, hi1, ?_⟩ | refine ⟨_, hi2, ?_⟩); simp +decide (maxSteps := 4000000) only [q, hw, q0, go_sem, Nat.reduceAdd, Nat.reduceMul])) | apply cond2_intro | with_reducible apply And.intro | intro h)
  · have hb1 : givenF t [src, tgt] = 0 := by omega
    obtain ⟨h0, hr⟩ := givenF_ok hb1
    have hg := typesF_good h0
    obtain ⟨hn, hm, _, _⟩ := typesF_ok h0
    have hs := hr src (by simp)
    have ht := hr tgt (by simp)
    obtain ⟨x, hx, hget0⟩ := getR_map_mem rEdgeT t.edges e.toNat (by omega)
    have hget : getR (t.edges.map rEdgeT) e.toNat = [.str x.name, .int .i64 x.src, .int .i64 x.tgt, .int .i64 x.outLow, .int .i64 x.outHigh, .int .i64 x.inLow, .int .i64 x.inHigh] := hget0
    have hsrc : 0 ≤ x.src ∧ 0 ≤ x.tgt := by
      obtain ⟨h3, h4⟩ := typesF_edge h0 (List.mem_of_getElem? hx)
      unfold insB at h3 h4
      simp only [Bool.and_eq_true, decide_eq_true_eq] at h3 h4
      exact ⟨h3.1, h4.1⟩
    have hi1 := belowC hg hsrc.1 _ src (Nat.le_refl _) hs.2
    have hi2 := belowC hg hsrc.2 _ tgt (Nat.le_refl _) ht.2
    have hF : fitsF t e src tgt = (isF t src x.src && isF t tgt x.tgt) := by unfold fitsF; rw [if_neg hb, hx]
    have he0 : (e < 0) = False := by simp; omega
    have he1 : ((t.edges.length : Int) ≤ e) = False := by simp; omega
    have hb2 : (givenF t [src, tgt] != 0) = false := by simpa using hb1
    rw [hF]
    refine ConC.con (ent _ Tryz.func136 rfl rfl) (con_of_body env Tryz.func136 rfl (nt := 43) (rs := [.tmp 8]) rfl rfl (Nat.le_of_ble_eq_true rfl) fun hok => ?_)
    have hw : IntKind.i64.wrap ((t.edges.length : Int) - 1) = (t.edges.length : Int) - 1 := by rw [wrap64 (by omega) (by omega)]
    repeat' (first | (first | (refine AWP.go env ?_; intro K fin; try simp +decide (maxSteps := 4000000) only [hb2, he0, he1, hget, hw, q0, go_sem, Nat.reduceAdd, Nat.reduceMul]) | refine Kt.h _ _ ?_ | refine Ft.k (by decide +kernel) ?_ | ((first | refine ⟨_, givenC (l := [src, tgt]), ?_⟩ | refine ⟨_, hi1, ?_⟩ | refine ⟨_, hi2, ?_⟩ | refine ⟨_, rGivenC hfew, ?_⟩ | refine ⟨_, rInC, ?_⟩ | refine ⟨_, hi1, ?_⟩ | refine ⟨_, hi2, ?_⟩); simp +decide (maxSteps := 4000000) only [hb2, he0, he1, hget, hw, q0, go_sem, Nat.reduceAdd, Nat.reduceMul])) | apply cond2_intro | with_reducible apply And.intro | intro h)
    all_goals try omega
    all_goals first | (rw [h]; rfl) | (rw [show isF t src x.src = true by assumption]; try rfl)
end Go.Abs
/- Attributes of node types, whole. -/
set_option linter.unusedSimpArgs false
set_option linter.unusedVariables false
set_option maxRecDepth 20000
set_option maxHeartbeats 2000000
namespace Go.Abs
open Go Go.RowKit Go.Proofs
attribute [local irreducible] Con AWP

theorem namesF_len {l : List ByteArray} (h : namesF l = 0) : l.length ≤ 20 := by
  unfold namesF at h
  split at h
  · cases h
  · omega

theorem ownF_names : ∀ (l before : List Attr), ownF before l = 0 → ∀ x ∈ l, x.names.length ≤ 20
  | [], _, _, x, hx => by cases hx
  | y :: l, before, h, x, hx => by
    rw [ownF] at h
    split at h
    · rename_i h1; exact absurd h h1
    · rename_i h1
      rcases List.mem_cons.1 hx with rfl | hx
      · have h2 : attributeF x before = 0 := by simpa using h1
        unfold attributeF at h2
        split at h2
        · cases h2
        split at h2
        · cases h2
        split at h2
        · rename_i h3; exact absurd h2 h3
        · rename_i h3; exact namesF_len (by simpa using h3)
      · exact ownF_names l _ h x hx

theorem typesF_names {t : Types} (h : (typesF t).2 = 0) {n : NodeT} (hn : n ∈ t.nodes) {x : Attr} (hx : x ∈ n.attrs) : x.names.length ≤ 20 := by
  obtain ⟨_, _, h1, _⟩ := typesF_ok h
  obtain ⟨a, b, hs⟩ := List.append_of_mem hn
  have h2 := nodesGo_all t.nodes [] rfl h1 a n b hs
  unfold nodeTF at h2
  split at h2
  · cases h2
  split at h2
  · cases h2
  split at h2
  · cases h2
  split at h2
  · cases h2
  split at h2
  · cases h2
  exact ownF_names _ _ h2 x hx

theorem attrsF_mem {t : Types} : ∀ (f a : Nat) (x : Attr), x ∈ attrsF t f a → ∃ n ∈ t.nodes, x ∈ n.attrs
  | 0, _, x, h => by cases h
  | f + 1, a, x, h => by
    rw [attrsF, List.mem_append] at h
    rcases h with h | h
    · split at h
      · exact attrsF_mem f _ x h
      · cases h
    · by_cases ha : a < t.nodes.length
      · refine ⟨nodeAt t a, ?_, h⟩
        unfold nodeAt; rw [List.getD_eq_getElem?_getD, List.getElem?_eq_getElem ha]; exact List.getElem_mem ha
      · have : nodeAt t a = default := by unfold nodeAt; rw [List.getD_eq_getElem?_getD, List.getElem?_eq_none (by omega)]; try rfl
        rw [this] at h; cases h

/-- The attributes of a node type. -/
def attrsOf (t : Types) (a : Int) : List Attr := attrsF t (a.toNat + 1) a.toNat

theorem attrsErrC {t : Types} {a : Int} (h : givenF t [a] ≠ 0) : Con Tryz.prog 188 [dTypes t, .int .i64 a] (.tup [.nil, .int .i64 (givenF t [a])]) := by
  have q : (givenF t [a] != 0) = true := by simpa using h
  refine ConC.con (ent _ Tryz.func188 rfl rfl) (con_of_body env Tryz.func188 rfl (nt := 36) (rs := [.tmp 4, .tmp 5]) rfl rfl (Nat.le_of_ble_eq_true rfl) fun hok => ?_)
  repeat' (first | (first | (refine AWP.go env ?_; intro K fin; try simp +decide (maxSteps := 4000000) only [q, go_sem, Nat.reduceAdd, Nat.reduceMul]) | refine Kt.h _ _ ?_ | refine Ft.k (by decide +kernel) ?_ | (refine ⟨_, givenC (l := [a]), ?_⟩; simp +decide (maxSteps := 4000000) only [q, go_sem, Nat.reduceAdd, Nat.reduceMul])) | apply cond2_intro | with_reducible apply And.intro | intro h)

theorem attrsOkC {t : Types} {a : Int} (h : givenF t [a] = 0) : Con Tryz.prog 188 [dTypes t, .int .i64 a] (.tup [.nsl 118 4 ((attrsOf t a).map rAttr), .int .i64 0]) := by
  have q : (givenF t [a] != 0) = false := by simpa using h
  obtain ⟨h0, hr⟩ := givenF_ok h
  have hg := typesF_good h0
  have ha := hr a (by simp)
  obtain ⟨n, rfl⟩ := Int.eq_ofNat_of_zero_le ha.1
  have hn : n < t.nodes.length := by omega
  have hA : attrsOf t (n : Int) = attrsF t (n + 1) n := rfl
  have hl : (attrsOf t (n : Int)).length ≤ 8 := hg.2 n hn
  have hnm : ∀ x ∈ attrsOf t (n : Int), x.names.length ≤ 20 := fun x hx => by
    obtain ⟨m, hm, hx⟩ := attrsF_mem _ _ x hx
    exact typesF_names h0 hm hx
  have hC := attrsC n hn (fun b hb => hg.1 b (by omega)) (fun b hb => by have := hg.2 b (by omega); omega)
  rw [← hA] at hC
  generalize attrsOf t (n : Int) = A at *
  have hgv := givenC (t := t) (l := [(n : Int)])
  refine ConC.con (ent _ Tryz.func188 rfl rfl) (con_of_body env Tryz.func188 rfl (nt := 36) (rs := [.tmp 4, .tmp 5]) rfl rfl (Nat.le_of_ble_eq_true rfl) fun hok => ?_)
  repeat' (first | (first | (refine AWP.go env ?_; intro K fin; try simp +decide (maxSteps := 4000000) only [q, go_sem, Nat.reduceAdd, Nat.reduceMul]) | refine Kt.h _ _ ?_ | refine Ft.k (by decide +kernel) ?_ | ((first | refine ⟨_, givenC (l := [a]), ?_⟩ | refine ⟨_, hgv, ?_⟩ | refine ⟨_, hC, ?_⟩ | refine ⟨_, hcl, ?_⟩); simp +decide (maxSteps := 4000000) only [q, go_sem, Nat.reduceAdd, Nat.reduceMul])) | apply cond2_intro | with_reducible apply And.intro | intro h)
  refine AWP.lp (α := Way A fun _ _ => True)
    (fun w => ⟨36, [(7, .osl 1800 0), (20, .int .i64 A.length), (21, .int .i64 w.pre.length)], [(1800, ⟨0, true, false, 4, 118, A.map rAttr⟩)]⟩) (fun w => w.post.length) ⟨[], A, rfl, trivial⟩ (by simp +decide (maxSteps := 4000000) only [go_sem, Nat.reduceAdd, Nat.reduceMul]; try simp) fun w K => ?_
  obtain ⟨c, d, hcd, _⟩ := w
  cases d with
  | nil =>
    have hcd : A = c := by simpa using hcd
    have hn2 : ((c.length : Int) < (A.length : Int)) = False := by simp [hcd]
    repeat' (first | (first | (refine AWP.go env ?_; intro K fin; try simp +decide (maxSteps := 4000000) only [hn2, go_sem, Nat.reduceAdd, Nat.reduceMul]) | refine Kt.h _ _ ?_ | refine Ft.k (by decide +kernel) ?_ | ((first | refine ⟨_, givenC (l := [a]), ?_⟩ | refine ⟨_, hgv, ?_⟩ | refine ⟨_, hC, ?_⟩ | refine ⟨_, hcl, ?_⟩); simp +decide (maxSteps := 4000000) only [hn2, go_sem, Nat.reduceAdd, Nat.reduceMul])) | apply cond2_intro | with_reducible apply And.intro | intro h)
  | cons x d =>
    have hl2 : c.length < A.length := by rw [hcd]; simp
    have hn2 : ((c.length : Int) < (A.length : Int)) = True := by simp [hl2]
    have hget : getR (A.map rAttr) c.length = [.str x.name, .int .i64 x.low, .int .i64 x.high, .fsl 1 (x.names.map rS)] := by rw [hcd]; simp [getR, rAttr]
    have hset : (A.map rAttr).set c.length [.str x.name, .int .i64 x.low, .int .i64 x.high, .fsl 1 (x.names.map rS)] = A.map rAttr := by
      have h1 : [D.str x.name, .int .i64 x.low, .int .i64 x.high, .fsl 1 (x.names.map rS)] = rAttr x := rfl
      rw [h1, hcd]; simp
    have v3 := wk_i (t := c.length) (by omega)
    have hcl := (cloneStringC (rows := x.names.map rS) (by have := hnm x (by rw [hcd]; simp); simp; omega)).frz
    repeat' (first | (first | (refine AWP.go env ?_; intro K fin; try simp +decide (maxSteps := 4000000) only [hn2, hget, hset, v3, go_sem, Nat.reduceAdd, Nat.reduceMul]) | refine Kt.h _ _ ?_ | refine Ft.k (by decide +kernel) ?_ | ((first | refine ⟨_, givenC (l := [a]), ?_⟩ | refine ⟨_, hgv, ?_⟩ | refine ⟨_, hC, ?_⟩ | refine ⟨_, hcl, ?_⟩); simp +decide (maxSteps := 4000000) only [hn2, hget, hset, v3, go_sem, Nat.reduceAdd, Nat.reduceMul])) | apply cond2_intro | with_reducible apply And.intro | intro h)
    all_goals try omega
    all_goals try (simp only [List.mem_cons, List.not_mem_nil, or_false] at h; (repeat' (first | (subst h; rfl) | rcases h with h | h)))
    refine ⟨⟨c ++ [x], d, by simp [hcd], trivial⟩, by simp, by simp +decide (maxSteps := 4000000) only [go_sem, Nat.reduceAdd, Nat.reduceMul]; simp⟩

theorem rAttrsErrC {t : Types} (hfew : ∀ n ∈ t.nodes, n.attrs.length ≤ 30) {a : Int} (h : givenF t [a] ≠ 0) : Con Tryz.prog 148 [dTypes t, .int .i64 a] (.tup [.nil, .int .i64 (givenF t [a])]) := by
  have hgv := rGivenC hfew (a := a) (b := a)
  have e : givenF t [a, a] = givenF t [a] := by unfold givenF; simp
  rw [e] at hgv
  have q : (givenF t [a] != 0) = true := by simpa using h
  refine ConC.con (ent _ Tryz.func148 rfl rfl) (con_of_body env Tryz.func148 rfl (nt := 41) (rs := [.tmp 4, .tmp 5]) rfl rfl (Nat.le_of_ble_eq_true rfl) fun hok => ?_)
  repeat' (first | (first | (refine AWP.go env ?_; intro K fin; try simp +decide (maxSteps := 4000000) only [q, go_sem, Nat.reduceAdd, Nat.reduceMul]) | refine Kt.h _ _ ?_ | refine Ft.k (by decide +kernel) ?_ | ((first | refine ⟨_, givenC (l := [a]), ?_⟩ | refine ⟨_, hgv, ?_⟩ | refine ⟨_, hC, ?_⟩ | refine ⟨_, hcl, ?_⟩ | refine ⟨_, hgv, ?_⟩); simp +decide (maxSteps := 4000000) only [q, go_sem, Nat.reduceAdd, Nat.reduceMul])) | apply cond2_intro | with_reducible apply And.intro | intro h)

theorem rAttrsOkC {t : Types} (hfew : ∀ n ∈ t.nodes, n.attrs.length ≤ 30) {a : Int} (h : givenF t [a] = 0) : Con Tryz.prog 148 [dTypes t, .int .i64 a] (.tup [.nsl 118 4 ((attrsOf t a).map rAttr), .int .i64 0]) := by
  have hgv := rGivenC hfew (a := a) (b := a)
  have e : givenF t [a, a] = givenF t [a] := by unfold givenF; simp
  rw [e] at hgv
  have q : (givenF t [a] != 0) = false := by simpa using h
  obtain ⟨h0, hr⟩ := givenF_ok h
  have hg := typesF_good h0
  have ha := hr a (by simp)
  obtain ⟨n, rfl⟩ := Int.eq_ofNat_of_zero_le ha.1
  have hn : n < t.nodes.length := by omega
  have hA : attrsOf t (n : Int) = attrsF t (n + 1) n := rfl
  have hl : (attrsOf t (n : Int)).length ≤ 8 := hg.2 n hn
  have hnm : ∀ x ∈ attrsOf t (n : Int), x.names.length ≤ 20 := fun x hx => by
    obtain ⟨m, hm, hx⟩ := attrsF_mem _ _ x hx
    exact typesF_names h0 hm hx
  have hC := (rAttrsC n hn (fun b hb => hg.1 b (by omega)) (fun b hb => by have := hg.2 b (by omega); omega)).frz
  rw [← hA] at hC
  generalize attrsOf t (n : Int) = A at *
  refine ConC.con (ent _ Tryz.func148 rfl rfl) (con_of_body env Tryz.func148 rfl (nt := 41) (rs := [.tmp 4, .tmp 5]) rfl rfl (Nat.le_of_ble_eq_true rfl) fun hok => ?_)
  repeat' (first | (first | (refine AWP.go env ?_; intro K fin; try simp +decide (maxSteps := 4000000) only [q, go_sem, Nat.reduceAdd, Nat.reduceMul]) | refine Kt.h _ _ ?_ | refine Ft.k (by decide +kernel) ?_ | ((first | refine ⟨_, givenC (l := [a]), ?_⟩ | refine ⟨_, hgv, ?_⟩ | refine ⟨_, hC, ?_⟩ | refine ⟨_, hcl, ?_⟩ | refine ⟨_, hgv, ?_⟩ | refine ⟨_, hgv, ?_⟩ | refine ⟨_, hC, ?_⟩); simp +decide (maxSteps := 4000000) only [q, go_sem, Nat.reduceAdd, Nat.reduceMul])) | apply cond2_intro | with_reducible apply And.intro | intro h)
  refine AWP.weaken (Wk.nilOwn (n := 7) (id := 777) 118 4 (by simp +decide (maxSteps := 4000000) only [go_sem, Nat.reduceAdd, Nat.reduceMul]) (by simp +decide (maxSteps := 4000000) only [go_sem, Nat.reduceAdd, Nat.reduceMul])) ?_
  simp +decide (maxSteps := 4000000) only [go_sem, Nat.reduceAdd, Nat.reduceMul]
  refine AWP.lp (α := Nat × Way A fun _ _ => True)
    (fun w => ⟨41, [(7, .osl 777 w.1), (8, .fsl 4 (A.map rAttr)), (9, .int .i64 w.2.pre.length)], [(777, ⟨w.1, true, false, 4, 118, w.2.pre.map rAttr⟩)]⟩) (fun w => w.2.post.length) ⟨0, [], A, rfl, trivial⟩ (by simp +decide (maxSteps := 4000000) only [go_sem, Nat.reduceAdd, Nat.reduceMul]; try simp) fun w K => ?_
  obtain ⟨ver, c, d, hcd, _⟩ := w
  cases d with
  | nil =>
    have hcd : A = c := by simpa using hcd
    have hn2 : ((c.length : Int) < (A.length : Int)) = False := by simp [hcd]
    repeat' (first | (first | (refine AWP.go env ?_; intro K fin; try simp +decide (maxSteps := 4000000) only [hn2, go_sem, Nat.reduceAdd, Nat.reduceMul]) | refine Kt.h _ _ ?_ | refine Ft.k (by decide +kernel) ?_ | ((first | refine ⟨_, givenC (l := [a]), ?_⟩ | refine ⟨_, hgv, ?_⟩ | refine ⟨_, hC, ?_⟩ | refine ⟨_, hcl, ?_⟩ | refine ⟨_, hgv, ?_⟩ | refine ⟨_, hgv, ?_⟩ | refine ⟨_, hC, ?_⟩); simp +decide (maxSteps := 4000000) only [hn2, go_sem, Nat.reduceAdd, Nat.reduceMul])) | apply cond2_intro | with_reducible apply And.intro | intro h)
    rw [hcd]
  | cons x d =>
    have hl2 : c.length < A.length := by rw [hcd]; simp
    have hn2 : ((c.length : Int) < (A.length : Int)) = True := by simp [hl2]
    have hget : getR (A.map rAttr) c.length = [.str x.name, .int .i64 x.low, .int .i64 x.high, .fsl 1 (x.names.map rS)] := by rw [hcd]; simp [getR, rAttr]
    have v3 := wk_i (t := c.length) (by omega)
    have hx20 := hnm x (by rw [hcd]; simp)
    repeat' (first | (first | (refine AWP.go env ?_; intro K fin; try simp +decide (maxSteps := 4000000) only [hn2, hget, v3, go_sem, Nat.reduceAdd, Nat.reduceMul]) | refine Kt.h _ _ ?_ | refine Ft.k (by decide +kernel) ?_ | ((first | refine ⟨_, givenC (l := [a]), ?_⟩ | refine ⟨_, hgv, ?_⟩ | refine ⟨_, hC, ?_⟩ | refine ⟨_, hcl, ?_⟩ | refine ⟨_, hgv, ?_⟩ | refine ⟨_, hgv, ?_⟩ | refine ⟨_, hC, ?_⟩); simp +decide (maxSteps := 4000000) only [hn2, hget, v3, go_sem, Nat.reduceAdd, Nat.reduceMul])) | apply cond2_intro | with_reducible apply And.intro | intro h)
    all_goals try omega
    all_goals try (simp only [List.mem_cons, List.not_mem_nil, or_false] at h; (repeat' (first | (subst h; rfl) | rcases h with h | h)))
    all_goals try (first | omega | (unfold lim; omega))
    refine ⟨⟨ver + 1, c ++ [x], d, by simp [hcd], trivial⟩, by simp, by simp +decide (maxSteps := 4000000) only [go_sem, Nat.reduceAdd, Nat.reduceMul]; simp [rAttr]⟩
end Go.Abs
/- Graphs without error. -/
set_option linter.unusedSimpArgs false
set_option linter.unusedVariables false
set_option maxRecDepth 20000
set_option maxHeartbeats 2000000
namespace Go.Abs
open Go Go.RowKit Go.Proofs
attribute [local irreducible] Con AWP

def edgeOk (e : Edge) (n : Int) : Bool := decide (0 ≤ e.typ) && decide (e.typ ≤ 99) && (decide (0 ≤ e.src) && decide (e.src < n)) && (decide (0 ≤ e.tgt) && decide (e.tgt < n))

def graphF (g : Graph) : Int :=
  if g.nodes.length > 40 ∨ g.edges.length > 80 then 3
  else if (g.nodes.any fun t => !(decide (0 ≤ t) && decide (t ≤ 99))) = true then 6
  else if (g.edges.any fun e => !edgeOk e g.nodes.length) = true then 6 else 0

theorem withinC {n m : Int} : Con Tryz.prog 159 [.int .i64 n, .int .i64 m] (.bool (decide (0 ≤ n) && decide (n ≤ m))) := by
  refine ConC.con (ent _ Tryz.func159 rfl rfl) (con_of_body env Tryz.func159 rfl (nt := 12) (rs := [.tmp 4]) rfl rfl (Nat.le_of_ble_eq_true rfl) fun hok => ?_)
  repeat' (first | (first | (refine AWP.go env ?_; intro K fin; try simp +decide (maxSteps := 4000000) only [go_sem, Nat.reduceAdd, Nat.reduceMul]) | refine Kt.h _ _ ?_ | refine Ft.k (by decide +kernel) ?_) | apply cond2_intro | with_reducible apply And.intro | intro h)
  all_goals grind

theorem fitsC {e : Edge} {n : Int} (h0 : 0 ≤ n) : Con Tryz.prog 161 [.agg (rEdge e), .int .i64 n] (.bool (edgeOk e n)) := by
  refine ConC.con (ent _ Tryz.func161 rfl rfl) (con_of_body env Tryz.func161 rfl (nt := 22) (rs := [.tmp 4]) rfl rfl (Nat.le_of_ble_eq_true rfl) fun hok => ?_)
  have hn := (hok (.int .i64 n) (by simp)).i64
  have hw : IntKind.i64.wrap (n - 1) = n - 1 := by rw [wrap64 (by omega) (by omega)]
  have q1 : ∀ z : Int, decide (z ≤ n - 1) = decide (z < n) := fun z => decide_eq_decide.2 (by omega)
  unfold rEdge
  repeat' (first | (first | (refine AWP.go env ?_; intro K fin; try simp +decide (maxSteps := 4000000) only [hw, q1, go_sem, Nat.reduceAdd, Nat.reduceMul]) | refine Kt.h _ _ ?_ | refine Ft.k (by decide +kernel) ?_ | (refine ⟨_, withinC, ?_⟩; simp +decide (maxSteps := 4000000) only [hw, q1, go_sem, Nat.reduceAdd, Nat.reduceMul])) | apply cond2_intro | with_reducible apply And.intro | intro h)
  all_goals (unfold edgeOk; grind)

theorem graphNodeC {n : Int} : Con Tryz.prog 158 [.int .i64 n] (.bool (!(decide (0 ≤ n) && decide (n ≤ 99)))) := by
  refine ConC.con (ent _ Tryz.func158 rfl rfl) (con_of_body env Tryz.func158 rfl (nt := 6) (rs := [.tmp 2]) rfl rfl (Nat.le_of_ble_eq_true rfl) fun hok => ?_)
  repeat' (first | (first | (refine AWP.go env ?_; intro K fin; try simp +decide (maxSteps := 4000000) only [go_sem, Nat.reduceAdd, Nat.reduceMul]) | refine Kt.h _ _ ?_ | refine Ft.k (by decide +kernel) ?_ | (refine ⟨_, withinC, ?_⟩; simp +decide (maxSteps := 4000000) only [go_sem, Nat.reduceAdd, Nat.reduceMul])) | apply cond2_intro | with_reducible apply And.intro | intro h)
  all_goals grind

theorem graphEdgeC {e : Edge} {g : Graph} : Con Tryz.prog 160 [.agg (rEdge e), .fptr [dInts g.nodes, .fsl 3 (g.edges.map rEdge)] 0] (.bool (!edgeOk e g.nodes.length)) := by
  refine ConC.con (ent _ Tryz.func160 rfl rfl) (con_of_body env Tryz.func160 rfl (nt := 10) (rs := [.tmp 3]) rfl rfl (Nat.le_of_ble_eq_true rfl) fun hok => ?_)
  have hl := fitsC (e := e) (n := g.nodes.length) (by omega)
  unfold rEdge at hl ⊢
  repeat' (first | (first | (refine AWP.go env ?_; intro K fin; try simp +decide (maxSteps := 4000000) only [go_sem, Nat.reduceAdd, Nat.reduceMul]) | refine Kt.h _ _ ?_ | refine Ft.k (by decide +kernel) ?_ | ((first | refine ⟨_, withinC, ?_⟩ | refine ⟨_, fitsC (by omega), ?_⟩); simp +decide (maxSteps := 4000000) only [go_sem, Nat.reduceAdd, Nat.reduceMul])) | apply cond2_intro | with_reducible apply And.intro | intro h)
  all_goals first | (refine ⟨_, hl, ?_⟩; simp +decide (maxSteps := 4000000) only [go_sem, Nat.reduceAdd, Nat.reduceMul]; repeat' (first | (first | (refine AWP.go env ?_; intro K fin; try simp +decide (maxSteps := 4000000) only [go_sem, Nat.reduceAdd, Nat.reduceMul]) | refine Kt.h _ _ ?_ | refine Ft.k (by decide +kernel) ?_ | ((first | refine ⟨_, withinC, ?_⟩ | refine ⟨_, fitsC (by omega), ?_⟩); simp +decide (maxSteps := 4000000) only [go_sem, Nat.reduceAdd, Nat.reduceMul])) | apply cond2_intro | with_reducible apply And.intro | intro h)) | skip

theorem graphC {g : Graph} : Con Tryz.prog 91 [dGraph g] (.int .i64 (graphF g)) := by
  refine ConC.con (ent _ Tryz.func91 rfl rfl) (con_of_body env Tryz.func91 rfl (nt := 20) (rs := [.tmp 2]) rfl rfl (Nat.le_of_ble_eq_true rfl) fun hok => ?_)
  repeat' (first | (first | (refine AWP.go env ?_; intro K fin; try simp +decide (maxSteps := 4000000) only [go_sem, Nat.reduceAdd, Nat.reduceMul]) | refine Kt.h _ _ ?_ | refine Ft.k (by decide +kernel) ?_ | ((first | refine ⟨_, withinC, ?_⟩ | refine ⟨_, fitsC (by omega), ?_⟩ | refine ⟨_, contFuncintC (caps := []) (p := fun n => !(decide (0 ≤ n) && decide (n ≤ 99))) (xs := g.nodes) (fun _ => rfl) (fun _ => rfl) (fun _ => rfl) (fun _ _ => graphNodeC), ?_⟩ | refine ⟨_, contFuncEdgeC (caps := [.fptr [dInts g.nodes, .fsl 3 (g.edges.map rEdge)] 0]) (p := fun e => !edgeOk e g.nodes.length) (xs := g.edges) (fun _ => rfl) (fun _ => rfl) (fun _ => rfl) (fun _ _ => graphEdgeC), ?_⟩); simp +decide (maxSteps := 4000000) only [go_sem, Nat.reduceAdd, Nat.reduceMul])) | apply cond2_intro | with_reducible apply And.intro | intro h)
  all_goals (unfold graphF; grind)

theorem kindC {n : Int} : Con Tryz.prog 164 [.int .i64 n] (.bool (decide (0 ≤ n) && decide (n ≤ 99))) := by
  refine ConC.con (ent _ Tryz.func164 rfl rfl) (con_of_body env Tryz.func164 rfl (nt := 9) (rs := [.tmp 2]) rfl rfl (Nat.le_of_ble_eq_true rfl) fun hok => ?_)
  repeat' (first | (first | (refine AWP.go env ?_; intro K fin; try simp +decide (maxSteps := 4000000) only [go_sem, Nat.reduceAdd, Nat.reduceMul]) | refine Kt.h _ _ ?_ | refine Ft.k (by decide +kernel) ?_ | ((first | refine ⟨_, withinC, ?_⟩ | refine ⟨_, fitsC (by omega), ?_⟩ | refine ⟨_, contFuncintC (caps := []) (p := fun n => !(decide (0 ≤ n) && decide (n ≤ 99))) (xs := g.nodes) (fun _ => rfl) (fun _ => rfl) (fun _ => rfl) (fun _ _ => graphNodeC), ?_⟩ | refine ⟨_, contFuncEdgeC (caps := [.fptr [dInts g.nodes, .fsl 3 (g.edges.map rEdge)] 0]) (p := fun e => !edgeOk e g.nodes.length) (xs := g.edges) (fun _ => rfl) (fun _ => rfl) (fun _ => rfl) (fun _ _ => graphEdgeC), ?_⟩); simp +decide (maxSteps := 4000000) only [go_sem, Nat.reduceAdd, Nat.reduceMul])) | apply cond2_intro | with_reducible apply And.intro | intro h)
  all_goals grind

theorem rRightEdgeC {e : Edge} {n : Int} : Con Tryz.prog 165 [.agg (rEdge e), .int .i64 n] (.bool (edgeOk e n)) := by
  refine ConC.con (ent _ Tryz.func165 rfl rfl) (con_of_body env Tryz.func165 rfl (nt := 30) (rs := [.tmp 4]) rfl rfl (Nat.le_of_ble_eq_true rfl) fun hok => ?_)
  unfold rEdge
  repeat' (first | (first | (refine AWP.go env ?_; intro K fin; try simp +decide (maxSteps := 4000000) only [go_sem, Nat.reduceAdd, Nat.reduceMul]) | refine Kt.h _ _ ?_ | refine Ft.k (by decide +kernel) ?_ | ((first | refine ⟨_, withinC, ?_⟩ | refine ⟨_, fitsC (by omega), ?_⟩ | refine ⟨_, contFuncintC (caps := []) (p := fun n => !(decide (0 ≤ n) && decide (n ≤ 99))) (xs := g.nodes) (fun _ => rfl) (fun _ => rfl) (fun _ => rfl) (fun _ _ => graphNodeC), ?_⟩ | refine ⟨_, contFuncEdgeC (caps := [.fptr [dInts g.nodes, .fsl 3 (g.edges.map rEdge)] 0]) (p := fun e => !edgeOk e g.nodes.length) (xs := g.edges) (fun _ => rfl) (fun _ => rfl) (fun _ => rfl) (fun _ _ => graphEdgeC), ?_⟩ | refine ⟨_, kindC, ?_⟩); simp +decide (maxSteps := 4000000) only [go_sem, Nat.reduceAdd, Nat.reduceMul])) | apply cond2_intro | with_reducible apply And.intro | intro h)
  all_goals (unfold edgeOk; grind)

theorem rGraphC {g : Graph} : Con Tryz.prog 94 [dGraph g] (.int .i64 (graphF g)) := by
  refine ConC.con (ent _ Tryz.func94 rfl rfl) (con_of_body env Tryz.func94 rfl (nt := 46) (rs := [.tmp 2]) rfl rfl (Nat.le_of_ble_eq_true rfl) fun hok => ?_)
  repeat' (first | (first | (refine AWP.go env ?_; intro K fin; try simp +decide (maxSteps := 4000000) only [go_sem, Nat.reduceAdd, Nat.reduceMul]) | refine Kt.h _ _ ?_ | refine Ft.k (by decide +kernel) ?_ | ((first | refine ⟨_, withinC, ?_⟩ | refine ⟨_, fitsC (by omega), ?_⟩ | refine ⟨_, contFuncintC (caps := []) (p := fun n => !(decide (0 ≤ n) && decide (n ≤ 99))) (xs := g.nodes) (fun _ => rfl) (fun _ => rfl) (fun _ => rfl) (fun _ _ => graphNodeC), ?_⟩ | refine ⟨_, contFuncEdgeC (caps := [.fptr [dInts g.nodes, .fsl 3 (g.edges.map rEdge)] 0]) (p := fun e => !edgeOk e g.nodes.length) (xs := g.edges) (fun _ => rfl) (fun _ => rfl) (fun _ => rfl) (fun _ _ => graphEdgeC), ?_⟩ | refine ⟨_, kindC, ?_⟩ | refine ⟨_, kindC, ?_⟩ | refine ⟨_, rRightEdgeC, ?_⟩); simp +decide (maxSteps := 4000000) only [go_sem, Nat.reduceAdd, Nat.reduceMul])) | apply cond2_intro | with_reducible apply And.intro | intro h)
  · unfold graphF; grind
  · unfold graphF; grind
  have hs : ¬ (g.nodes.length > 40 ∨ g.edges.length > 80) := by grind
  refine AWP.lp (α := Way g.nodes fun a b => (a.any fun t => !(decide (0 ≤ t) && decide (t ≤ 99))) = false)
    (fun w => ⟨46, [(1, .ptr 100 0 0 0), (3, .int .i64 w.pre.length)], [(100, ⟨0, true, true, 2, 29, [[dInts g.nodes, .fsl 3 (g.edges.map rEdge)]]⟩)]⟩) (fun w => w.post.length) ⟨[], g.nodes, rfl, rfl⟩ (by simp +decide (maxSteps := 4000000) only [go_sem, Nat.reduceAdd, Nat.reduceMul]; try simp) fun w K => ?_
  obtain ⟨a, b, hab, hinv⟩ := w
  cases b with
  | nil =>
    have hab : g.nodes = a := by simpa using hab
    have hn2 : ((a.length : Int) < (g.nodes.length : Int)) = False := by simp [hab]
    repeat' (first | (first | (refine AWP.go env ?_; intro K fin; try simp +decide (maxSteps := 4000000) only [hn2, go_sem, Nat.reduceAdd, Nat.reduceMul]) | refine Kt.h _ _ ?_ | refine Ft.k (by decide +kernel) ?_ | ((first | refine ⟨_, withinC, ?_⟩ | refine ⟨_, fitsC (by omega), ?_⟩ | refine ⟨_, contFuncintC (caps := []) (p := fun n => !(decide (0 ≤ n) && decide (n ≤ 99))) (xs := g.nodes) (fun _ => rfl) (fun _ => rfl) (fun _ => rfl) (fun _ _ => graphNodeC), ?_⟩ | refine ⟨_, contFuncEdgeC (caps := [.fptr [dInts g.nodes, .fsl 3 (g.edges.map rEdge)] 0]) (p := fun e => !edgeOk e g.nodes.length) (xs := g.edges) (fun _ => rfl) (fun _ => rfl) (fun _ => rfl) (fun _ _ => graphEdgeC), ?_⟩ | refine ⟨_, kindC, ?_⟩ | refine ⟨_, kindC, ?_⟩ | refine ⟨_, rRightEdgeC, ?_⟩); simp +decide (maxSteps := 4000000) only [hn2, go_sem, Nat.reduceAdd, Nat.reduceMul])) | apply cond2_intro | with_reducible apply And.intro | intro h)
    refine AWP.lp (α := Way g.edges fun a b => (a.any fun e => !edgeOk e g.nodes.length) = false)
      (fun w => ⟨46, [(1, .ptr 100 0 0 0), (4, .int .i64 w.pre.length)], [(100, ⟨0, true, true, 2, 29, [[dInts g.nodes, .fsl 3 (g.edges.map rEdge)]]⟩)]⟩) (fun w => w.post.length) ⟨[], g.edges, rfl, rfl⟩ (by simp +decide (maxSteps := 4000000) only [go_sem, Nat.reduceAdd, Nat.reduceMul]; try simp) fun w K => ?_
    obtain ⟨c, d, hcd, hinv2⟩ := w
    cases d with
    | nil =>
      have hcd : g.edges = c := by simpa using hcd
      have hn3 : ((c.length : Int) < (g.edges.length : Int)) = False := by simp [hcd]
      repeat' (first | (first | (refine AWP.go env ?_; intro K fin; try simp +decide (maxSteps := 4000000) only [hn3, go_sem, Nat.reduceAdd, Nat.reduceMul]) | refine Kt.h _ _ ?_ | refine Ft.k (by decide +kernel) ?_ | ((first | refine ⟨_, withinC, ?_⟩ | refine ⟨_, fitsC (by omega), ?_⟩ | refine ⟨_, contFuncintC (caps := []) (p := fun n => !(decide (0 ≤ n) && decide (n ≤ 99))) (xs := g.nodes) (fun _ => rfl) (fun _ => rfl) (fun _ => rfl) (fun _ _ => graphNodeC), ?_⟩ | refine ⟨_, contFuncEdgeC (caps := [.fptr [dInts g.nodes, .fsl 3 (g.edges.map rEdge)] 0]) (p := fun e => !edgeOk e g.nodes.length) (xs := g.edges) (fun _ => rfl) (fun _ => rfl) (fun _ => rfl) (fun _ _ => graphEdgeC), ?_⟩ | refine ⟨_, kindC, ?_⟩ | refine ⟨_, kindC, ?_⟩ | refine ⟨_, rRightEdgeC, ?_⟩); simp +decide (maxSteps := 4000000) only [hn3, go_sem, Nat.reduceAdd, Nat.reduceMul])) | apply cond2_intro | with_reducible apply And.intro | intro h)
      rw [← hab] at hinv; rw [← hcd] at hinv2
      unfold graphF; rw [if_neg hs, hinv, hinv2]; try rfl
    | cons e d =>
      have hl : c.length < g.edges.length := by rw [hcd]; simp
      have v3 : IntKind.i64.wrap ((c.length : Int) + 1) = ((c.length + 1 : Nat) : Int) := by rw [wrap64 (by omega) (by omega)]; try rfl
      have hn3 : ((c.length : Int) < (g.edges.length : Int)) = True := by simp [hl]
      have hget : getR (g.edges.map rEdge) c.length = [.int .i64 e.typ, .int .i64 e.src, .int .i64 e.tgt] := by rw [hcd]; simp [getR, rEdge]
      repeat' (first | (first | (refine AWP.go env ?_; intro K fin; try simp +decide (maxSteps := 4000000) only [v3, hn3, hget, go_sem, Nat.reduceAdd, Nat.reduceMul]) | refine Kt.h _ _ ?_ | refine Ft.k (by decide +kernel) ?_ | ((first | refine ⟨_, withinC, ?_⟩ | refine ⟨_, fitsC (by omega), ?_⟩ | refine ⟨_, contFuncintC (caps := []) (p := fun n => !(decide (0 ≤ n) && decide (n ≤ 99))) (xs := g.nodes) (fun _ => rfl) (fun _ => rfl) (fun _ => rfl) (fun _ _ => graphNodeC), ?_⟩ | refine ⟨_, contFuncEdgeC (caps := [.fptr [dInts g.nodes, .fsl 3 (g.edges.map rEdge)] 0]) (p := fun e => !edgeOk e g.nodes.length) (xs := g.edges) (fun _ => rfl) (fun _ => rfl) (fun _ => rfl) (fun _ _ => graphEdgeC), ?_⟩ | refine ⟨_, kindC, ?_⟩ | refine ⟨_, kindC, ?_⟩ | refine ⟨_, rRightEdgeC, ?_⟩); simp +decide (maxSteps := 4000000) only [v3, hn3, hget, go_sem, Nat.reduceAdd, Nat.reduceMul])) | apply cond2_intro | with_reducible apply And.intro | intro h)
      all_goals try omega
      · refine ⟨⟨c ++ [e], d, by simp [hcd], ?_⟩, by simp, by simp +decide (maxSteps := 4000000) only [go_sem, Nat.reduceAdd, Nat.reduceMul]; simp⟩
        rw [List.any_append, hinv2]; simp [h]
      · rw [← hab] at hinv
        have : (g.edges.any fun e => !edgeOk e g.nodes.length) = true := by rw [hcd, List.any_append, List.any_cons, h]; simp
        unfold graphF; rw [if_neg hs, hinv, this]; try rfl
  | cons x b =>
    have hl : a.length < g.nodes.length := by rw [hab]; simp
    have v3 : IntKind.i64.wrap ((a.length : Int) + 1) = ((a.length + 1 : Nat) : Int) := by rw [wrap64 (by omega) (by omega)]; try rfl
    have hn3 : ((a.length : Int) < (g.nodes.length : Int)) = True := by simp [hl]
    have hget : getR (g.nodes.map rI) a.length = [.int .i64 x] := by rw [hab]; simp [getR, rI]
    repeat' (first | (first | (refine AWP.go env ?_; intro K fin; try simp +decide (maxSteps := 4000000) only [v3, hn3, hget, go_sem, Nat.reduceAdd, Nat.reduceMul]) | refine Kt.h _ _ ?_ | refine Ft.k (by decide +kernel) ?_ | ((first | refine ⟨_, withinC, ?_⟩ | refine ⟨_, fitsC (by omega), ?_⟩ | refine ⟨_, contFuncintC (caps := []) (p := fun n => !(decide (0 ≤ n) && decide (n ≤ 99))) (xs := g.nodes) (fun _ => rfl) (fun _ => rfl) (fun _ => rfl) (fun _ _ => graphNodeC), ?_⟩ | refine ⟨_, contFuncEdgeC (caps := [.fptr [dInts g.nodes, .fsl 3 (g.edges.map rEdge)] 0]) (p := fun e => !edgeOk e g.nodes.length) (xs := g.edges) (fun _ => rfl) (fun _ => rfl) (fun _ => rfl) (fun _ _ => graphEdgeC), ?_⟩ | refine ⟨_, kindC, ?_⟩ | refine ⟨_, kindC, ?_⟩ | refine ⟨_, rRightEdgeC, ?_⟩); simp +decide (maxSteps := 4000000) only [v3, hn3, hget, go_sem, Nat.reduceAdd, Nat.reduceMul])) | apply cond2_intro | with_reducible apply And.intro | intro h)
    all_goals try omega
    · refine ⟨⟨a ++ [x], b, by simp [hab], ?_⟩, by simp, by simp +decide (maxSteps := 4000000) only [go_sem, Nat.reduceAdd, Nat.reduceMul]; simp⟩
      rw [List.any_append, hinv, List.any_cons, h]; try rfl
    · have : (g.nodes.any fun t => !(decide (0 ≤ t) && decide (t ≤ 99))) = true := by rw [hab, List.any_append, List.any_cons, h]; simp
      unfold graphF; rw [if_neg hs, this]; try rfl
end Go.Abs
/- Difference constraints without error. -/
set_option linter.unusedSimpArgs false
set_option linter.unusedVariables false
set_option maxRecDepth 20000
set_option maxHeartbeats 2000000
namespace Go.Abs
open Go Go.RowKit Go.Proofs
attribute [local irreducible] Con AWP

/-- The first error of the elements of a list. -/
def firstErr {X : Type} (f : X → Int) : List X → Int
  | [] => 0
  | x :: r => if f x ≠ 0 then f x else firstErr f r

theorem firstErr_ok {X : Type} {f : X → Int} : ∀ {l : List X}, firstErr f l = 0 → ∀ x ∈ l, f x = 0
  | [], _, x, hx => by cases hx
  | y :: l, h, x, hx => by
    rw [firstErr] at h
    split at h
    · rename_i h1; exact absurd h h1
    · rename_i h1
      rcases List.mem_cons.1 hx with rfl | hx
      · simpa using h1
      · exact firstErr_ok h x hx

theorem wk_i' {t : Nat} (h : t ≤ 1000000) : IntKind.i64.wrap ((t : Int) + 1) = ((t + 1 : Nat) : Int) := by rw [wrap64 (by omega) (by omega)]; try rfl

def termB (n : Int) (x : Term) : Bool := decide (-1 ≤ x.var) && decide (x.var < n) && (decide (-1000000 ≤ x.add) && decide (x.add ≤ 1000000))
def oneTF (n : Int) (x : Tst) : Int := if x.kind ≠ 1 ∧ x.kind ≠ 2 then 1 else if (termB n x.left && termB n x.right) = true then 0 else 6
def testsF (n : Int) (l : List Tst) : Int := if n < 0 ∨ 12 < n then 6 else if l.length > 40 then 3 else firstErr (oneTF n) l

theorem termC {n : Int} {x : Term} : Con Tryz.prog 253 [.int .i64 n, .agg [.int .i64 x.var, .int .i64 x.add]] (.bool (termB n x)) := by
  refine ConC.con (ent _ Tryz.func253 rfl rfl) (con_of_body env Tryz.func253 rfl (nt := 24) (rs := [.tmp 4]) rfl rfl (Nat.le_of_ble_eq_true rfl) fun hok => ?_)
  repeat' (first | (first | (refine AWP.go env ?_; intro K fin; try simp +decide (maxSteps := 4000000) only [go_sem, Nat.reduceAdd, Nat.reduceMul]) | refine Kt.h _ _ ?_ | refine Ft.k (by decide +kernel) ?_) | apply cond2_intro | with_reducible apply And.intro | intro h)
  all_goals (unfold termB; grind)

theorem oneTC {n : Int} {x : Tst} : Con Tryz.prog 189 [.int .i64 n, .agg (rTest x)] (.int .i64 (oneTF n x)) := by
  refine ConC.con (ent _ Tryz.func189 rfl rfl) (con_of_body env Tryz.func189 rfl (nt := 27) (rs := [.tmp 4]) rfl rfl (Nat.le_of_ble_eq_true rfl) fun hok => ?_)
  unfold rTest
  repeat' (first | (first | (refine AWP.go env ?_; intro K fin; try simp +decide (maxSteps := 4000000) only [go_sem, Nat.reduceAdd, Nat.reduceMul]) | refine Kt.h _ _ ?_ | refine Ft.k (by decide +kernel) ?_ | ((first | refine ⟨_, termC (x := x.left), ?_⟩ | refine ⟨_, termC (x := x.right), ?_⟩); simp +decide (maxSteps := 4000000) only [go_sem, Nat.reduceAdd, Nat.reduceMul])) | apply cond2_intro | with_reducible apply And.intro | intro h)
  all_goals (unfold oneTF; grind)

theorem rWithinC {n : Int} {x : Term} : Con Tryz.prog 267 [.int .i64 n, .agg [.int .i64 x.var, .int .i64 x.add]] (.int .i64 (if termB n x = true then 0 else 6)) := by
  refine ConC.con (ent _ Tryz.func267 rfl rfl) (con_of_body env Tryz.func267 rfl (nt := 24) (rs := [.tmp 4]) rfl rfl (Nat.le_of_ble_eq_true rfl) fun hok => ?_)
  repeat' (first | (first | (refine AWP.go env ?_; intro K fin; try simp +decide (maxSteps := 4000000) only [go_sem, Nat.reduceAdd, Nat.reduceMul]) | refine Kt.h _ _ ?_ | refine Ft.k (by decide +kernel) ?_ | ((first | refine ⟨_, termC (x := x.left), ?_⟩ | refine ⟨_, termC (x := x.right), ?_⟩); simp +decide (maxSteps := 4000000) only [go_sem, Nat.reduceAdd, Nat.reduceMul])) | apply cond2_intro | with_reducible apply And.intro | intro h)
  all_goals (unfold termB; grind)

theorem rOneTC {n : Int} {x : Tst} : Con Tryz.prog 208 [.int .i64 n, .agg (rTest x)] (.int .i64 (oneTF n x)) := by
  refine ConC.con (ent _ Tryz.func208 rfl rfl) (con_of_body env Tryz.func208 rfl (nt := 25) (rs := [.tmp 4]) rfl rfl (Nat.le_of_ble_eq_true rfl) fun hok => ?_)
  unfold rTest
  repeat' (first | (first | (refine AWP.go env ?_; intro K fin; try simp +decide (maxSteps := 4000000) only [go_sem, Nat.reduceAdd, Nat.reduceMul]) | refine Kt.h _ _ ?_ | refine Ft.k (by decide +kernel) ?_ | ((first | refine ⟨_, termC (x := x.left), ?_⟩ | refine ⟨_, termC (x := x.right), ?_⟩ | refine ⟨_, rWithinC (x := x.left), ?_⟩ | refine ⟨_, rWithinC (x := x.right), ?_⟩); simp +decide (maxSteps := 4000000) only [go_sem, Nat.reduceAdd, Nat.reduceMul])) | apply cond2_intro | with_reducible apply And.intro | intro h)
  all_goals (unfold oneTF; grind)

theorem testsC {n : Int} {l : List Tst} : Con Tryz.prog 114 [.int .i64 n, .fsl 5 (l.map rTest)] (.int .i64 (testsF n l)) := by
  refine ConC.con (ent _ Tryz.func114 rfl rfl) (con_of_body env Tryz.func114 rfl (nt := 30) (rs := [.tmp 4]) rfl rfl (Nat.le_of_ble_eq_true rfl) fun hok => ?_)
  repeat' (first | (first | (refine AWP.go env ?_; intro K fin; try simp +decide (maxSteps := 4000000) only [go_sem, Nat.reduceAdd, Nat.reduceMul]) | refine Kt.h _ _ ?_ | refine Ft.k (by decide +kernel) ?_ | ((first | refine ⟨_, termC (x := x.left), ?_⟩ | refine ⟨_, termC (x := x.right), ?_⟩ | refine ⟨_, rWithinC (x := x.left), ?_⟩ | refine ⟨_, rWithinC (x := x.right), ?_⟩ | refine ⟨_, hx1, ?_⟩); simp +decide (maxSteps := 4000000) only [go_sem, Nat.reduceAdd, Nat.reduceMul])) | apply cond2_intro | with_reducible apply And.intro | intro h)
  · unfold testsF; grind
  · unfold testsF; grind
  · unfold testsF; grind
  have hF : testsF n l = firstErr (oneTF n) l := by unfold testsF; grind
  have hl : l.length ≤ 40 := by simp at h; omega
  refine AWP.lp (α := Way l fun a b => firstErr (oneTF n) b = testsF n l)
    (fun w => ⟨30, [(0, .int .i64 n), (17, .fsl 5 (l.map rTest)), (18, .int .i64 l.length), (19, .int .i64 w.pre.length)], []⟩) (fun w => w.post.length) ⟨[], l, rfl, hF.symm⟩ (by simp +decide (maxSteps := 4000000) only [go_sem, Nat.reduceAdd, Nat.reduceMul]; try simp) fun w K => ?_
  obtain ⟨a, b, hab, hinv⟩ := w
  cases b with
  | nil =>
    have hab : l = a := by simpa using hab
    have hn2 : ((a.length : Int) < (l.length : Int)) = False := by simp [hab]
    repeat' (first | (first | (refine AWP.go env ?_; intro K fin; try simp +decide (maxSteps := 4000000) only [hn2, go_sem, Nat.reduceAdd, Nat.reduceMul]) | refine Kt.h _ _ ?_ | refine Ft.k (by decide +kernel) ?_ | ((first | refine ⟨_, termC (x := x.left), ?_⟩ | refine ⟨_, termC (x := x.right), ?_⟩ | refine ⟨_, rWithinC (x := x.left), ?_⟩ | refine ⟨_, rWithinC (x := x.right), ?_⟩ | refine ⟨_, hx1, ?_⟩); simp +decide (maxSteps := 4000000) only [hn2, go_sem, Nat.reduceAdd, Nat.reduceMul])) | apply cond2_intro | with_reducible apply And.intro | intro h)
    exact hinv
  | cons x b =>
    have hal : a.length < l.length := by rw [hab]; simp
    have hn2 : ((a.length : Int) < (l.length : Int)) = True := by simp [hal]
    have hget : getR (l.map rTest) a.length = [.int .i64 x.kind, .int .i64 x.left.var, .int .i64 x.left.add, .int .i64 x.right.var, .int .i64 x.right.add] := by rw [hab]; simp [getR, rTest]
    have v3 := wk_i' (t := a.length) (by omega)
    have hx1 := oneTC (n := n) (x := x)
    repeat' (first | (first | (refine AWP.go env ?_; intro K fin; try simp +decide (maxSteps := 4000000) only [hn2, hget, v3, go_sem, Nat.reduceAdd, Nat.reduceMul]) | refine Kt.h _ _ ?_ | refine Ft.k (by decide +kernel) ?_ | ((first | refine ⟨_, termC (x := x.left), ?_⟩ | refine ⟨_, termC (x := x.right), ?_⟩ | refine ⟨_, rWithinC (x := x.left), ?_⟩ | refine ⟨_, rWithinC (x := x.right), ?_⟩ | refine ⟨_, hx1, ?_⟩); simp +decide (maxSteps := 4000000) only [hn2, hget, v3, go_sem, Nat.reduceAdd, Nat.reduceMul])) | apply cond2_intro | with_reducible apply And.intro | intro h)
    all_goals try omega
    all_goals try (simp only [List.mem_cons, List.not_mem_nil, or_false] at h; (repeat' (first | (subst h; rfl) | rcases h with h | h)))
    · rw [← hinv, firstErr, if_pos (by simpa using h)]
    · refine ⟨⟨a ++ [x], b, by simp [hab], ?_⟩, by simp, by simp +decide (maxSteps := 4000000) only [go_sem, Nat.reduceAdd, Nat.reduceMul]; simp⟩
      rw [← hinv, firstErr, if_neg (by simpa using h)]

theorem rTestsC {n : Int} {l : List Tst} : Con Tryz.prog 131 [.int .i64 n, .fsl 5 (l.map rTest)] (.int .i64 (testsF n l)) := by
  refine ConC.con (ent _ Tryz.func131 rfl rfl) (con_of_body env Tryz.func131 rfl (nt := 31) (rs := [.tmp 4]) rfl rfl (Nat.le_of_ble_eq_true rfl) fun hok => ?_)
  repeat' (first | (first | (refine AWP.go env ?_; intro K fin; try simp +decide (maxSteps := 4000000) only [go_sem, Nat.reduceAdd, Nat.reduceMul]) | refine Kt.h _ _ ?_ | refine Ft.k (by decide +kernel) ?_ | ((first | refine ⟨_, termC (x := x.left), ?_⟩ | refine ⟨_, termC (x := x.right), ?_⟩ | refine ⟨_, rWithinC (x := x.left), ?_⟩ | refine ⟨_, rWithinC (x := x.right), ?_⟩ | refine ⟨_, hx1, ?_⟩ | refine ⟨_, hx1, ?_⟩); simp +decide (maxSteps := 4000000) only [go_sem, Nat.reduceAdd, Nat.reduceMul])) | apply cond2_intro | with_reducible apply And.intro | intro h)
  · unfold testsF; grind
  · unfold testsF; grind
  · unfold testsF; grind
  have hF : testsF n l = firstErr (oneTF n) l := by unfold testsF; grind
  have hl : l.length ≤ 40 := by simp at h; omega
  refine AWP.lp (α := Way l fun a b => firstErr (oneTF n) b = testsF n l)
    (fun w => ⟨31, [(0, .int .i64 n), (1, .fsl 5 (l.map rTest)), (5, .int .i64 w.pre.length)], []⟩) (fun w => w.post.length) ⟨[], l, rfl, hF.symm⟩ (by simp +decide (maxSteps := 4000000) only [go_sem, Nat.reduceAdd, Nat.reduceMul]; try simp) fun w K => ?_
  obtain ⟨a, b, hab, hinv⟩ := w
  cases b with
  | nil =>
    have hab : l = a := by simpa using hab
    have hn2 : ((a.length : Int) < (l.length : Int)) = False := by simp [hab]
    repeat' (first | (first | (refine AWP.go env ?_; intro K fin; try simp +decide (maxSteps := 4000000) only [hn2, go_sem, Nat.reduceAdd, Nat.reduceMul]) | refine Kt.h _ _ ?_ | refine Ft.k (by decide +kernel) ?_ | ((first | refine ⟨_, termC (x := x.left), ?_⟩ | refine ⟨_, termC (x := x.right), ?_⟩ | refine ⟨_, rWithinC (x := x.left), ?_⟩ | refine ⟨_, rWithinC (x := x.right), ?_⟩ | refine ⟨_, hx1, ?_⟩ | refine ⟨_, hx1, ?_⟩); simp +decide (maxSteps := 4000000) only [hn2, go_sem, Nat.reduceAdd, Nat.reduceMul])) | apply cond2_intro | with_reducible apply And.intro | intro h)
    exact hinv
  | cons x b =>
    have hal : a.length < l.length := by rw [hab]; simp
    have hn2 : ((a.length : Int) < (l.length : Int)) = True := by simp [hal]
    have hget : getR (l.map rTest) a.length = [.int .i64 x.kind, .int .i64 x.left.var, .int .i64 x.left.add, .int .i64 x.right.var, .int .i64 x.right.add] := by rw [hab]; simp [getR, rTest]
    have v3 := wk_i' (t := a.length) (by omega)
    have hx1 := rOneTC (n := n) (x := x)
    repeat' (first | (first | (refine AWP.go env ?_; intro K fin; try simp +decide (maxSteps := 4000000) only [hn2, hget, v3, go_sem, Nat.reduceAdd, Nat.reduceMul]) | refine Kt.h _ _ ?_ | refine Ft.k (by decide +kernel) ?_ | ((first | refine ⟨_, termC (x := x.left), ?_⟩ | refine ⟨_, termC (x := x.right), ?_⟩ | refine ⟨_, rWithinC (x := x.left), ?_⟩ | refine ⟨_, rWithinC (x := x.right), ?_⟩ | refine ⟨_, hx1, ?_⟩ | refine ⟨_, hx1, ?_⟩); simp +decide (maxSteps := 4000000) only [hn2, hget, v3, go_sem, Nat.reduceAdd, Nat.reduceMul])) | apply cond2_intro | with_reducible apply And.intro | intro h)
    all_goals try omega
    · rw [← hinv, firstErr, if_pos (by simpa using h)]
    · refine ⟨⟨a ++ [x], b, by simp [hab], ?_⟩, by simp, by simp +decide (maxSteps := 4000000) only [go_sem, Nat.reduceAdd, Nat.reduceMul]; simp⟩
      rw [← hinv, firstErr, if_neg (by simpa using h)]
end Go.Abs
/- Nil in a variable, as a slice of the call's own; arguments that are less well known. -/
namespace Go.Abs
open Go Go.RowKit

section
variable {s : AS}

/-- A cell of a variable that holds nil: as a slice of the call's own without elements. -/
theorem Wk.nilBox {id new : Nat} (ty : TypeId) (sz : Nat) (col : Nat) {o : Ob} {r : List D} (ho : s.look id = some o) (hb : o.box = true) (hr : o.rows = [r]) (hc : col < r.length) (hn : getC r col = .nil) (hne : new ≠ id) (hnew : s.look new = none) :
    Wk s { s with ob := (id, { o with rows := [r.set col (.osl new 0)] }) :: (new, ⟨0, true, false, sz, ty, []⟩) :: s.ob } := fun w0 Z0 a w hR => by
  obtain ⟨φ, hR⟩ := hR
  have ht : Turns w w s.ob φ new ⟨0, true, false, sz, ty, []⟩ (.slice none 0 0) none :=
    ⟨⟨rfl, rfl, rfl, Nat.le_refl _, fun _ _ _ => rfl⟩, fun k hk => (by cases hk), fun o1 h1 => (by rw [show Abs.look s.ob new = none from hnew] at h1; cases h1), fun b hb => (by cases hb)⟩
  have h1 := hR.turn ht ⟨fun _ r hr => (by cases hr), [], rowsEnc_nil, fun _ => ⟨by simp, .inl ⟨rfl, rfl⟩⟩, fun h => (by cases h)⟩
  have hlk : Abs.look ((new, (⟨0, true, false, sz, ty, []⟩ : Ob)) :: s.ob) id = some o := by rw [look_put, if_neg hne]; exact ho
  have hok := h1.good.ok id o hlk
  have ht2 : Turns w w ((new, (⟨0, true, false, sz, ty, []⟩ : Ob)) :: s.ob) (upd φ new (.slice none 0 0)) id { o with rows := [r.set col (.osl new 0)] } (upd φ new (.slice none 0 0) id) none :=
    ⟨⟨rfl, rfl, rfl, Nat.le_refl _, fun _ _ _ => rfl⟩, fun k hk => (by cases hk), fun o1 h2 => (by rw [hlk] at h2; cases h2; exact .inr ⟨rfl, rfl, rfl⟩), fun b hb => .inr ⟨o, hlk, hb, fun h => h⟩⟩
  refine ⟨_, h1.turn ht2 ?_⟩
  obtain ⟨xs, hx, h3, h4⟩ := hok.there
  have hrl : r.length = o.sz := hx.row r (by rw [hr]; simp)
  refine ⟨fun h => (by rw [show ({ o with rows := [r.set col (.osl new 0)] } : Ob).box = o.box from rfl, hb] at h; cases h), xs, ⟨by have := hx.len; rw [hr] at this; simpa using this, fun q hq => ?_, fun i j hi hj => ?_, hx.one, by simp [lim]⟩, fun h => (by rw [show ({ o with rows := [r.set col (.osl new 0)] } : Ob).box = o.box from rfl, hb] at h; cases h), fun _ => h4 hb⟩
  · obtain rfl : q = r.set col (.osl new 0) := by simpa using hq
    simpa using hrl
  · have hi0 : i = 0 := by simpa using hi
    subst hi0
    have hj' : j < o.sz := hj
    have he := hx.enc 0 j (by rw [hr]; simp) hj'
    have e1 : getR o.rows 0 = r := by rw [hr]; try rfl
    rw [e1] at he
    show EncS w Z0 _ _ (getC (getR [r.set col (.osl new 0)] 0) j) _
    have e2 : getR [r.set col (D.osl new 0)] 0 = r.set col (.osl new 0) := rfl
    rw [e2]
    by_cases hjc : j = col
    · subst hjc
      have e3 : getC (r.set j (D.osl new 0)) j = .osl new 0 := by simp [getC, hc]
      rw [e3]
      rw [hn] at he
      have hv : xs.getD (0 * ({ o with rows := [r.set j (D.osl new 0)] } : Ob).sz + j) Go.undef = .slice none 0 0 := by
        show xs.getD (0 * o.sz + j) Go.undef = _
        generalize xs.getD (0 * o.sz + j) Go.undef = v at he
        cases he; rfl
      rw [hv]
      refine .osl _ _ _ ⟨⟨0, true, false, sz, ty, []⟩, ?_, Nat.le_refl _, fun _ => ?_, rfl⟩
      · rw [look_put, if_neg (Ne.symm hne), look_put, if_pos rfl]
      · simp [upd, hne]
    · have e3 : getC (r.set col (D.osl new 0)) j = getC r j := by
        simp only [getC, List.getD_eq_getElem?_getD]
        rw [List.getElem?_set_ne (Ne.symm hjc)]
      rw [e3]
      exact ht2.enc he

end

/-- What may stand in the place of an argument: nil for a slice without elements. -/
def leD : D → D → Prop
  | .nil, .fsl _ rows => rows = []
  | .nil, .nil => True
  | a, b => a = b

def leC : List D → List D → Prop
  | [], [] => True
  | a :: r, b :: r' => leD a b ∧ leC r r'
  | _, _ => False

def leT : D → D → Prop
  | .agg cs, .agg ds => leC cs ds
  | a, b => leD a b

def leA : List D → List D → Prop
  | [], [] => True
  | a :: r, b :: r' => leT a b ∧ leA r r'
  | _, _ => False

section
variable {w : World} {Z : Nat → Prop} {E : Nat → Nat → Value → Prop} {F : Nat → Nat → Nat → Nat → Value → Prop}

theorem leD_enc {a b : D} {v : Value} (h : leD a b) (he : Enc w Z E F a v) : Enc w Z E F b v := by
  unfold leD at h
  split at h
  · subst h; cases he; exact .fslNil _
  · exact he
  · subst h; exact he

theorem leC_len : ∀ {cs ds : List D}, leC cs ds → cs.length = ds.length
  | [], [], _ => rfl
  | _ :: _, _ :: _, h => by simp [leC_len h.2]
  | [], _ :: _, h => h.elim
  | _ :: _, [], h => h.elim

theorem leC_get : ∀ {cs ds : List D} (i : Nat), leC cs ds → i < cs.length → leD (getC cs i) (getC ds i)
  | a :: _, b :: _, 0, h, _ => h.1
  | _ :: cs, _ :: ds, i + 1, h, hi => leC_get (cs := cs) (ds := ds) i h.2 (by simpa using hi)
  | [], _, _, _, hi => by simp at hi
  | _ :: _, [], _, h, _ => h.elim

theorem leT_enc {a b : D} {v : Value} (h : leT a b) (he : Enc w Z E F a v) : Enc w Z E F b v := by
  unfold leT at h
  split at h
  · cases he with
    | agg _ vs hs h1 hc =>
      have hl := leC_len h
      exact .agg _ vs (by omega) (fun i hi => h1 i (by omega)) fun i hi => leD_enc (leC_get i h (by omega)) (hc i (by omega))
  · exact leD_enc h he

theorem leA_len : ∀ {cs ds : List D}, leA cs ds → cs.length = ds.length
  | [], [], _ => rfl
  | _ :: _, _ :: _, h => by simp [leA_len h.2]
  | [], _ :: _, h => h.elim
  | _ :: _, [], h => h.elim

theorem leA_get : ∀ {cs ds : List D} (i : Nat), leA cs ds → i < cs.length → leT (getC cs i) (getC ds i)
  | a :: _, b :: _, 0, h, _ => h.1
  | _ :: cs, _ :: ds, i + 1, h, hi => leA_get (cs := cs) (ds := ds) i h.2 (by simpa using hi)
  | [], _, _, _, hi => by simp at hi
  | _ :: _, [], _, h, _ => h.elim

end

theorem Con.le {P : Program} {f : FuncId} {args args' : List D} {r : D} (h : Con P f args r) (hle : leA args' args) (hn : nslArgs args = false := by rfl) (hn' : nslArgs args' = false := by rfl) : Con P f args' r := by
  refine ConV.con (fun w Z0 vs h1 h2 h3 => (h.v hn) w Z0 vs h1 (by rw [h2, leA_len hle]) fun i hi => ?_) hn'
  have hl := leA_len hle
  exact leT_enc (leA_get i hle (by omega)) (h3 i (by omega))

end Go.Abs
/- Ascending lists; binary search. -/
set_option linter.unusedSimpArgs false
set_option linter.unusedVariables false
set_option maxRecDepth 20000
set_option maxHeartbeats 2000000
namespace Go.Abs
open Go Go.RowKit Go.Proofs
attribute [local irreducible] Con AWP

/-- The error of an ascending list of numbers below n, behind some. -/
def ascGo (n : Int) : List Int → List Int → Int
  | _, [] => 0
  | pre, x :: r => if x < 0 ∨ n ≤ x then 6 else if (match pre.getLast? with | some y => decide (x ≤ y) | none => false) = true then 12 else ascGo n (pre ++ [x]) r

def ascF (n : Int) (l : List Int) : Int := ascGo n [] l

theorem wk_d {t : Nat} (h : t ≤ 1000000000000000) : IntKind.i64.wrap (((t + 1 : Nat) : Int) - 1) = (t : Int) := by rw [wrap64 (by omega) (by omega)]; omega

theorem listC {n : Int} {l : List Int} : Con Tryz.prog 278 [dInts l, .int .i64 n] (.int .i64 (ascF n l)) := by
  refine ConC.con (ent _ Tryz.func278 rfl rfl) (con_of_body env Tryz.func278 rfl (nt := 33) (rs := [.tmp 4]) rfl rfl (Nat.le_of_ble_eq_true rfl) fun hok => ?_)
  have hlen : l.length ≤ 140737488355328 := by simpa using (hok _ (List.mem_cons_self ..)).len
  repeat' (first | (first | (refine AWP.go env ?_; intro K fin; try simp +decide (maxSteps := 4000000) only [go_sem, Nat.reduceAdd, Nat.reduceMul]) | refine Kt.h _ _ ?_ | refine Ft.k (by decide +kernel) ?_) | apply cond2_intro | with_reducible apply And.intro | intro h)
  refine AWP.lp (α := Way l fun a b => ascGo n a b = ascF n l)
    (fun w => ⟨33, [(0, dInts l), (1, .int .i64 n), (7, dInts l), (8, .int .i64 l.length), (9, .int .i64 w.pre.length)], []⟩) (fun w => w.post.length) ⟨[], l, rfl, rfl⟩ (by simp +decide (maxSteps := 4000000) only [go_sem, Nat.reduceAdd, Nat.reduceMul]; try simp) fun w K => ?_
  obtain ⟨a, b, hab, hinv⟩ := w
  cases b with
  | nil =>
    have hab : l = a := by simpa using hab
    have hn2 : ((a.length : Int) < (l.length : Int)) = False := by simp [hab]
    repeat' (first | (first | (refine AWP.go env ?_; intro K fin; try simp +decide (maxSteps := 4000000) only [hn2, go_sem, Nat.reduceAdd, Nat.reduceMul]) | refine Kt.h _ _ ?_ | refine Ft.k (by decide +kernel) ?_) | apply cond2_intro | with_reducible apply And.intro | intro h)
    exact hinv
  | cons x b =>
    have hal : a.length < l.length := by rw [hab]; simp
    have hn2 : ((a.length : Int) < (l.length : Int)) = True := by simp [hal]
    have hget : getR (l.map rI) a.length = [.int .i64 x] := by rw [hab]; simp [getR, rI]
    have v3 : IntKind.i64.wrap ((a.length : Int) + 1) = ((a.length + 1 : Nat) : Int) := by rw [wrap64 (by omega) (by omega)]; try rfl
    rw [ascGo] at hinv
    rcases List.eq_nil_or_concat a with ha | ⟨a', y, ha⟩
    · have h0 : ((0 : Int) < (a.length : Int)) = False := by simp [ha]
      rw [show a.getLast? = none by rw [ha]; try rfl] at hinv
      simp only [] at hinv
      repeat' (first | (first | (refine AWP.go env ?_; intro K fin; try simp +decide (maxSteps := 4000000) only [hn2, hget, v3, h0, go_sem, Nat.reduceAdd, Nat.reduceMul]) | refine Kt.h _ _ ?_ | refine Ft.k (by decide +kernel) ?_) | apply cond2_intro | with_reducible apply And.intro | intro h)
      all_goals try omega
      · rw [← hinv, if_pos (.inl (by simpa using h))]
      · rw [← hinv, if_pos (.inr (by simpa using h))]
      · refine ⟨⟨a ++ [x], b, by simp [hab], ?_⟩, by simp, by simp +decide (maxSteps := 4000000) only [go_sem, Nat.reduceAdd, Nat.reduceMul]; simp⟩
        have h1 : decide (x < 0) = false := by assumption
        have h2 : decide (n ≤ x) = false := by assumption
        simp only [decide_eq_false_iff_not] at h1 h2
        rw [if_neg (by omega)] at hinv
        simpa using hinv
    · rw [List.concat_eq_append] at ha
      have hal2 : a.length = a'.length + 1 := by simp [ha]
      have h0 : ((0 : Int) < (a.length : Int)) = True := by simp; omega
      have hget2 : getR (l.map rI) a'.length = [.int .i64 y] := by rw [hab, ha]; simp [getR, rI]
      have v4 : IntKind.i64.wrap ((a.length : Int) - 1) = (a'.length : Int) := by rw [wrap64 (by omega) (by omega)]; omega
      rw [show a.getLast? = some y by rw [ha]; simp] at hinv
      simp only [] at hinv
      repeat' (first | (first | (refine AWP.go env ?_; intro K fin; try simp +decide (maxSteps := 4000000) only [hn2, hget, hget2, v3, v4, h0, go_sem, Nat.reduceAdd, Nat.reduceMul]) | refine Kt.h _ _ ?_ | refine Ft.k (by decide +kernel) ?_) | apply cond2_intro | with_reducible apply And.intro | intro h)
      all_goals try omega
      · rw [← hinv, if_pos (.inl (by simpa using h))]
      · rw [← hinv, if_pos (.inr (by simpa using h))]
      all_goals
        have h1 : decide (x < 0) = false := by assumption
        have h2 : decide (n ≤ x) = false := by assumption
        simp only [decide_eq_false_iff_not] at h1 h2
        rw [if_neg (by omega)] at hinv
      · rw [← hinv, if_pos h]
      · rw [if_neg (by rw [h]; decide)] at hinv
        refine ⟨⟨a ++ [x], b, by simp [hab], hinv⟩, by simp, by simp +decide (maxSteps := 4000000) only [go_sem, Nat.reduceAdd, Nat.reduceMul]; simp⟩

theorem rAscC {n : Int} {l : List Int} : Con Tryz.prog 268 [dInts l, .int .i64 n] (.int .i64 (ascF n l)) := by
  refine ConC.con (ent _ Tryz.func268 rfl rfl) (con_of_body env Tryz.func268 rfl (nt := 39) (rs := [.tmp 4]) rfl rfl (Nat.le_of_ble_eq_true rfl) fun hok => ?_)
  have hlen : l.length ≤ 140737488355328 := by simpa using (hok _ (List.mem_cons_self ..)).len
  repeat' (first | (first | (refine AWP.go env ?_; intro K fin; try simp +decide (maxSteps := 4000000) only [go_sem, Nat.reduceAdd, Nat.reduceMul]) | refine Kt.h _ _ ?_ | refine Ft.k (by decide +kernel) ?_) | apply cond2_intro | with_reducible apply And.intro | intro h)
  refine AWP.lp (α := Way l fun a b => ascGo n a b = ascF n l)
    (fun w => ⟨39, [(0, dInts l), (1, .int .i64 n), (5, .int .i64 w.pre.length)], []⟩) (fun w => w.post.length) ⟨[], l, rfl, rfl⟩ (by simp +decide (maxSteps := 4000000) only [go_sem, Nat.reduceAdd, Nat.reduceMul]; try simp) fun w K => ?_
  obtain ⟨a, b, hab, hinv⟩ := w
  cases b with
  | nil =>
    have hab : l = a := by simpa using hab
    have hn2 : ((a.length : Int) < (l.length : Int)) = False := by simp [hab]
    repeat' (first | (first | (refine AWP.go env ?_; intro K fin; try simp +decide (maxSteps := 4000000) only [hn2, go_sem, Nat.reduceAdd, Nat.reduceMul]) | refine Kt.h _ _ ?_ | refine Ft.k (by decide +kernel) ?_) | apply cond2_intro | with_reducible apply And.intro | intro h)
    exact hinv
  | cons x b =>
    have hal : a.length < l.length := by rw [hab]; simp
    have hn2 : ((a.length : Int) < (l.length : Int)) = True := by simp [hal]
    have hget : getR (l.map rI) a.length = [.int .i64 x] := by rw [hab]; simp [getR, rI]
    have v3 : IntKind.i64.wrap ((a.length : Int) + 1) = ((a.length + 1 : Nat) : Int) := by rw [wrap64 (by omega) (by omega)]; try rfl
    rw [ascGo] at hinv
    rcases List.eq_nil_or_concat a with ha | ⟨a', y, ha⟩
    · have h0 : ((0 : Int) < (a.length : Int)) = False := by simp [ha]
      rw [show a.getLast? = none by rw [ha]; try rfl] at hinv
      simp only [] at hinv
      repeat' (first | (first | (refine AWP.go env ?_; intro K fin; try simp +decide (maxSteps := 4000000) only [hn2, hget, v3, h0, go_sem, Nat.reduceAdd, Nat.reduceMul]) | refine Kt.h _ _ ?_ | refine Ft.k (by decide +kernel) ?_) | apply cond2_intro | with_reducible apply And.intro | intro h)
      all_goals try omega
      · have h : decide (x < 0) = true := by assumption
        rw [← hinv, if_pos (.inl (by simpa using h))]
      · have h : decide (n ≤ x) = true := by assumption
        rw [← hinv, if_pos (.inr (by simpa using h))]
      · refine ⟨⟨a ++ [x], b, by simp [hab], ?_⟩, by simp, by simp +decide (maxSteps := 4000000) only [go_sem, Nat.reduceAdd, Nat.reduceMul]; simp⟩
        have h1 : decide (x < 0) = false := by assumption
        have h2 : decide (n ≤ x) = false := by assumption
        simp only [decide_eq_false_iff_not] at h1 h2
        rw [if_neg (by omega)] at hinv
        simpa using hinv
    · rw [List.concat_eq_append] at ha
      have hal2 : a.length = a'.length + 1 := by simp [ha]
      have h0 : ((0 : Int) < (a.length : Int)) = True := by simp; omega
      have hget2 : getR (l.map rI) a'.length = [.int .i64 y] := by rw [hab, ha]; simp [getR, rI]
      have v4 : IntKind.i64.wrap ((a.length : Int) - 1) = (a'.length : Int) := by rw [wrap64 (by omega) (by omega)]; omega
      rw [show a.getLast? = some y by rw [ha]; simp] at hinv
      simp only [] at hinv
      repeat' (first | (first | (refine AWP.go env ?_; intro K fin; try simp +decide (maxSteps := 4000000) only [hn2, hget, hget2, v3, v4, h0, go_sem, Nat.reduceAdd, Nat.reduceMul]) | refine Kt.h _ _ ?_ | refine Ft.k (by decide +kernel) ?_) | apply cond2_intro | with_reducible apply And.intro | intro h)
      all_goals try omega
      · have h : decide (x < 0) = true := by assumption
        rw [← hinv, if_pos (.inl (by simpa using h))]
      · have h : decide (n ≤ x) = true := by assumption
        rw [← hinv, if_pos (.inr (by simpa using h))]
      all_goals
        have h1 : decide (x < 0) = false := by assumption
        have h2 : decide (n ≤ x) = false := by assumption
        simp only [decide_eq_false_iff_not] at h1 h2
        rw [if_neg (by omega)] at hinv
      · have h : decide (x ≤ y) = true := by assumption
        rw [← hinv, if_pos h]
      · have h : decide (x ≤ y) = false := by assumption
        rw [if_neg (by rw [h]; decide)] at hinv
        refine ⟨⟨a ++ [x], b, by simp [hab], hinv⟩, by simp, by simp +decide (maxSteps := 4000000) only [go_sem, Nat.reduceAdd, Nat.reduceMul]; simp⟩

theorem nanC {a : Int} : Con Tryz.prog 277 [.int .i64 a] (.bool false) := by
  refine ConC.con (ent _ Tryz.func277 rfl rfl) (con_of_body env Tryz.func277 rfl (nt := 6) (rs := [.tmp 2]) rfl rfl (Nat.le_of_ble_eq_true rfl) fun hok => ?_)
  repeat' (first | (first | (refine AWP.go env ?_; intro K fin; try simp +decide (maxSteps := 4000000) only [go_sem, Nat.reduceAdd, Nat.reduceMul]) | refine Kt.h _ _ ?_ | refine Ft.k (by decide +kernel) ?_) | apply cond2_intro | with_reducible apply And.intro | intro h)
  all_goals simp

theorem nan2C {a : Int} : Con Tryz.prog 230 [.int .i64 a] (.bool false) := by
  refine ConC.con (ent _ Tryz.func230 rfl rfl) (con_of_body env Tryz.func230 rfl (nt := 6) (rs := [.tmp 2]) rfl rfl (Nat.le_of_ble_eq_true rfl) fun hok => ?_)
  repeat' (first | (first | (refine AWP.go env ?_; intro K fin; try simp +decide (maxSteps := 4000000) only [go_sem, Nat.reduceAdd, Nat.reduceMul]) | refine Kt.h _ _ ?_ | refine Ft.k (by decide +kernel) ?_) | apply cond2_intro | with_reducible apply And.intro | intro h)
  all_goals simp

theorem lessC {a b : Int} : Con Tryz.prog 224 [.int .i64 a, .int .i64 b] (.bool (decide (a < b))) := by
  refine ConC.con (ent _ Tryz.func224 rfl rfl) (con_of_body env Tryz.func224 rfl (nt := 17) (rs := [.tmp 4]) rfl rfl (Nat.le_of_ble_eq_true rfl) fun hok => ?_)
  repeat' (first | (first | (refine AWP.go env ?_; intro K fin; try simp +decide (maxSteps := 4000000) only [go_sem, Nat.reduceAdd, Nat.reduceMul]) | refine Kt.h _ _ ?_ | refine Ft.k (by decide +kernel) ?_ | (refine ⟨_, nanC, ?_⟩; simp +decide (maxSteps := 4000000) only [go_sem, Nat.reduceAdd, Nat.reduceMul])) | apply cond2_intro | with_reducible apply And.intro | intro h)

/-- A place between numbers that are less and numbers that aren't. -/
structure Btw (l : List Int) (x : Int) where
  i : Nat
  j : Nat
  hij : i ≤ j
  hj : j ≤ l.length
  lo : ∀ q (h : q < l.length), q < i → l[q] < x
  hi : ∀ q (h : q < l.length), j ≤ q → x ≤ l[q]

/-- How many numbers of a list are less. -/
def posF (l : List Int) (x : Int) : Nat := l.countP fun y => decide (y < x)

theorem countP_split {l : List Int} {x : Int} {i : Nat} (hi : i ≤ l.length) (lo : ∀ q (h : q < l.length), q < i → l[q] < x) (hi2 : ∀ q (h : q < l.length), i ≤ q → x ≤ l[q]) : posF l x = i := by
  unfold posF
  rw [← List.take_append_drop i l, List.countP_append]
  have h1 : (l.take i).countP (fun y => decide (y < x)) = i := by
    rw [List.countP_eq_length.2]
    · simp; omega
    · intro y hy
      obtain ⟨q, hq, rfl⟩ := List.getElem_of_mem hy
      rw [List.getElem_take]
      simp at hq
      simpa using lo q (by omega) (by omega)
  have h2 : (l.drop i).countP (fun y => decide (y < x)) = 0 := by
    rw [List.countP_eq_zero]
    intro y hy
    obtain ⟨q, hq, rfl⟩ := List.getElem_of_mem hy
    rw [List.getElem_drop]
    simp at hq
    have := hi2 (i + q) (by omega) (by omega)
    simpa using this
  rw [h1, h2, Nat.add_zero]

theorem binSearchC {l : List Int} {x : Int} (hs : l.Pairwise (· < ·)) (hl : l.length ≤ 1000000) : Con Tryz.prog 163 [dInts l, .int .i64 x] (.tup [.int .i64 (posF l x), .bool (l.any fun y => y == x)]) := by
  refine ConC.con (ent _ Tryz.func163 rfl rfl) (con_of_body env Tryz.func163 rfl (nt := 54) (rs := [.tmp 4, .tmp 5]) rfl rfl (Nat.le_of_ble_eq_true rfl) fun hok => ?_)
  repeat' (first | (first | (refine AWP.go env ?_; intro K fin; try simp +decide (maxSteps := 4000000) only [go_sem, Nat.reduceAdd, Nat.reduceMul]) | refine Kt.h _ _ ?_ | refine Ft.k (by decide +kernel) ?_ | ((first | refine ⟨_, nanC, ?_⟩ | refine ⟨_, lessC, ?_⟩ | refine ⟨_, nan2C, ?_⟩); simp +decide (maxSteps := 4000000) only [go_sem, Nat.reduceAdd, Nat.reduceMul])) | apply cond2_intro | with_reducible apply And.intro | intro h)
  refine AWP.lp (α := Btw l x)
    (fun w => ⟨54, [(0, dInts l), (1, .int .i64 x), (6, .int .i64 l.length), (7, .int .i64 w.i), (8, .int .i64 w.j)], []⟩) (fun w => w.j - w.i) ⟨0, l.length, by omega, by omega, fun q h h0 => by omega, fun q h h0 => by omega⟩ (by simp +decide (maxSteps := 4000000) only [go_sem, Nat.reduceAdd, Nat.reduceMul]; try simp) fun w K => ?_
  obtain ⟨i, j, hij, hj, lo, hi⟩ := w
  by_cases hlt : i < j
  · have hn2 : ((i : Int) < (j : Int)) = True := by simp [hlt]
    have v1 : IntKind.i64.wrap ((i : Int) + (j : Int)) = ((i + j : Nat) : Int) := by rw [wrap64 (by omega) (by omega)]; try rfl
    have v2 : IntKind.i64.wrap ((IntKind.u64.wrap ((i + j : Nat) : Int)).fdiv (2 ^ min 1 64)) = (((i + j) / 2 : Nat) : Int) := by
      have h1 : IntKind.u64.wrap ((i + j : Nat) : Int) = ((i + j : Nat) : Int) := by simp only [IntKind.wrap, IntKind.bits, IntKind.signed]; simp; omega
      rw [h1, show (2 : Int) ^ min 1 64 = 2 by decide, Int.fdiv_eq_ediv_of_nonneg _ (by omega), wrap64 (by omega) (by omega)]
      omega
    generalize hm : (i + j) / 2 = m at v2
    have hml : m < l.length := by omega
    have hget : getR (l.map rI) m = [.int .i64 l[m]] := by rw [getR_map _ _ _ hml]
    have hmlt : (m : Int) < l.length := by omega
    have v3 := wk_i' (t := m) (by omega)
    have hmono : ∀ p q (hp : p < l.length) (hq : q < l.length), p < q → l[p] < l[q] := fun p q hp hq h => List.pairwise_iff_getElem.1 hs p q hp hq h
    repeat' (first | (first | (refine AWP.go env ?_; intro K fin; try simp +decide (maxSteps := 4000000) only [hn2, v1, v2, hget, v3, go_sem, Nat.reduceAdd, Nat.reduceMul]) | refine Kt.h _ _ ?_ | refine Ft.k (by decide +kernel) ?_ | ((first | refine ⟨_, nanC, ?_⟩ | refine ⟨_, lessC, ?_⟩ | refine ⟨_, nan2C, ?_⟩); simp +decide (maxSteps := 4000000) only [hn2, v1, v2, hget, v3, go_sem, Nat.reduceAdd, Nat.reduceMul])) | apply cond2_intro | with_reducible apply And.intro | intro h)
    all_goals try omega
    · have hmx : l[m] < x := by simpa using h
      refine ⟨⟨m + 1, j, by omega, hj, fun q hq h2 => ?_, hi⟩, by simp only; omega, by simp +decide (maxSteps := 4000000) only [go_sem, Nat.reduceAdd, Nat.reduceMul]; try simp⟩
      by_cases hqm : q = m
      · subst hqm; exact hmx
      · have := hmono q m hq hml (by omega); omega
    · have hmx : ¬ l[m] < x := by simpa using h
      refine ⟨⟨i, m, by omega, by omega, lo, fun q hq h2 => ?_⟩, by simp only; omega, by simp +decide (maxSteps := 4000000) only [go_sem, Nat.reduceAdd, Nat.reduceMul]; try simp⟩
      by_cases hqm : q = m
      · subst hqm; omega
      · have := hmono m q hml hq (by omega); omega
  · obtain rfl : i = j := by omega
    have hn2 : ((i : Int) < (i : Int)) = False := by simp
    have hp : posF l x = i := countP_split hj lo hi
    by_cases hil : i < l.length
    · have hil2 : ((i : Int) < (l.length : Int)) = True := by simp [hil]
      have hget : getR (l.map rI) i = [.int .i64 l[i]] := by rw [getR_map _ _ _ hil]
      have hany : (l.any fun y => y == x) = (l[i] == x) := by
        cases he : (l[i] == x) with
        | true => exact List.any_eq_true.2 ⟨l[i], List.getElem_mem hil, he⟩
        | false =>
          rw [List.any_eq_false]
          intro y hy
          obtain ⟨q, hq, rfl⟩ := List.getElem_of_mem hy
          have h1 : l[i] ≠ x := by simpa using he
          have h3 := hi i hil (Nat.le_refl _)
          by_cases hqi : q < i
          · have := lo q hq hqi; simp; omega
          · by_cases hqe : q = i
            · subst hqe; simpa using h1
            · have := List.pairwise_iff_getElem.1 hs i q hil hq (by omega); simp; omega
      repeat' (first | (first | (refine AWP.go env ?_; intro K fin; try simp +decide (maxSteps := 4000000) only [hn2, hil2, hget, go_sem, Nat.reduceAdd, Nat.reduceMul]) | refine Kt.h _ _ ?_ | refine Ft.k (by decide +kernel) ?_ | ((first | refine ⟨_, nanC, ?_⟩ | refine ⟨_, lessC, ?_⟩ | refine ⟨_, nan2C, ?_⟩); simp +decide (maxSteps := 4000000) only [hn2, hil2, hget, go_sem, Nat.reduceAdd, Nat.reduceMul])) | apply cond2_intro | with_reducible apply And.intro | intro h)
      all_goals try omega
      all_goals (rw [hp, hany]; first | rw [show (l[i] == x) = true by assumption] | rw [show (l[i] == x) = false by assumption])
    · have hil2 : ((i : Int) < (l.length : Int)) = False := by simp; omega
      have hany : (l.any fun y => y == x) = false := by
        rw [List.any_eq_false]
        intro y hy
        obtain ⟨q, hq, rfl⟩ := List.getElem_of_mem hy
        have := lo q hq (by omega); simp; omega
      repeat' (first | (first | (refine AWP.go env ?_; intro K fin; try simp +decide (maxSteps := 4000000) only [hn2, hil2, go_sem, Nat.reduceAdd, Nat.reduceMul]) | refine Kt.h _ _ ?_ | refine Ft.k (by decide +kernel) ?_ | ((first | refine ⟨_, nanC, ?_⟩ | refine ⟨_, lessC, ?_⟩ | refine ⟨_, nan2C, ?_⟩); simp +decide (maxSteps := 4000000) only [hn2, hil2, go_sem, Nat.reduceAdd, Nat.reduceMul])) | apply cond2_intro | with_reducible apply And.intro | intro h)
      rw [hp, hany]
end Go.Abs
/- Parts of graphs. -/
set_option linter.unusedSimpArgs false
set_option linter.unusedVariables false
set_option maxRecDepth 20000
set_option maxHeartbeats 2000000
namespace Go.Abs
open Go Go.RowKit Go.Proofs
attribute [local irreducible] Con AWP

instance : Inhabited Edge := ⟨⟨0, 0, 0⟩⟩

def edgeAt (g : Graph) (k : Int) : Edge := g.edges.getD k.toNat default
def hasF (l : List Int) (x : Int) : Bool := l.any fun y => y == x

theorem ascGo_cons {n : Int} {pre r : List Int} {x : Int} (h : ascGo n pre (x :: r) = 0) : (0 ≤ x ∧ x < n) ∧ (∀ y, pre.getLast? = some y → y < x) ∧ ascGo n (pre ++ [x]) r = 0 := by
  rw [ascGo] at h
  by_cases h1 : x < 0 ∨ n ≤ x
  · rw [if_pos h1] at h; cases h
  · rw [if_neg h1] at h
    cases hg : pre.getLast? with
    | none =>
      rw [hg] at h
      exact ⟨by omega, fun y hy => (by cases hy), by simpa using h⟩
    | some y =>
      rw [hg] at h
      simp only [decide_eq_true_eq] at h
      by_cases h2 : x ≤ y
      · rw [if_pos h2] at h; cases h
      · rw [if_neg h2] at h
        exact ⟨by omega, fun z hz => by cases hz; omega, h⟩

theorem ascGo_ok {n : Int} : ∀ (r pre : List Int), ascGo n pre r = 0 → pre.Pairwise (· < ·) → (pre ++ r).Pairwise (· < ·)
  | [], pre, _, hp => by simpa using hp
  | x :: r, pre, h, hp => by
    obtain ⟨_, h2, h3⟩ := ascGo_cons h
    have hpx : (pre ++ [x]).Pairwise (· < ·) := by
      rw [List.pairwise_append]
      refine ⟨hp, by simp, fun a ha b hb => ?_⟩
      obtain rfl : b = x := by simpa using hb
      rcases List.eq_nil_or_concat pre with rfl | ⟨p, y, he⟩
      · cases ha
      · rw [List.concat_eq_append] at he
        have := h2 y (by rw [he]; simp)
        rw [he] at ha hp
        rcases List.mem_append.1 ha with ha | ha
        · have := (List.pairwise_append.1 hp).2.2 a ha y (by simp); omega
        · obtain rfl : a = y := by simpa using ha
          omega
    have := ascGo_ok r (pre ++ [x]) h3 hpx
    simpa using this

theorem ascF_sorted {n : Int} {l : List Int} (h : ascF n l = 0) : l.Pairwise (· < ·) := by
  have := ascGo_ok l [] h List.Pairwise.nil
  simpa using this

theorem ascGo_range {n : Int} : ∀ (r pre : List Int), ascGo n pre r = 0 → ∀ x ∈ r, 0 ≤ x ∧ x < n
  | [], _, _, x, hx => by cases hx
  | y :: r, pre, h, x, hx => by
    obtain ⟨h1, _, h3⟩ := ascGo_cons h
    rcases List.mem_cons.1 hx with rfl | hx
    · exact h1
    · exact ascGo_range r _ h3 x hx

theorem ascF_range {n : Int} {l : List Int} (h : ascF n l = 0) : ∀ x ∈ l, 0 ≤ x ∧ x < n := ascGo_range l [] h

theorem sorted_len {n : Nat} : ∀ (l : List Int) (a : Int), l.Pairwise (· < ·) → (∀ x ∈ l, a ≤ x ∧ x < n) → 0 ≤ a → l.length ≤ n - a.toNat
  | [], _, _, _, _ => by simp
  | x :: r, a, hs, hr, h0 => by
    rw [List.pairwise_cons] at hs
    have hx := hr x (by simp)
    have := sorted_len r (x + 1) hs.2 (fun y hy => ⟨by have := hs.1 y hy; omega, (hr y (by simp [hy])).2⟩) (by omega)
    simp only [List.length_cons]; omega

theorem ascF_len {n : Nat} {l : List Int} (h : ascF n l = 0) : l.length ≤ n := by
  have := sorted_len (n := n) l 0 (ascF_sorted h) (fun x hx => ascF_range h x hx) (by omega)
  simpa using this

def partF (g : Graph) (p : Two) : Int :=
  if ascF g.nodes.length p.nodes ≠ 0 then ascF g.nodes.length p.nodes
  else if ascF g.edges.length p.edges ≠ 0 then ascF g.edges.length p.edges
  else if (p.edges.any fun k => !hasF p.nodes (edgeAt g k).src || !hasF p.nodes (edgeAt g k).tgt) = true then 14 else 0

def subF (g : Graph) (p : Two) : Int := if graphF g ≠ 0 then graphF g else partF g p

theorem edgeAt_row {g : Graph} {k : Int} (h0 : 0 ≤ k) (h1 : k < g.edges.length) : getR (g.edges.map rEdge) k.toNat = [.int .i64 (edgeAt g k).typ, .int .i64 (edgeAt g k).src, .int .i64 (edgeAt g k).tgt] := by
  have hk : k.toNat < g.edges.length := by omega
  rw [getR_map _ _ _ hk]; unfold edgeAt; rw [List.getD_eq_getElem?_getD, List.getElem?_eq_getElem hk]; try rfl

theorem hasC {l : List Int} {x : Int} (hs : l.Pairwise (· < ·)) (hl : l.length ≤ 1000000) : Con Tryz.prog 279 [dInts l, .int .i64 x] (.bool (hasF l x)) := by
  have hb := binSearchC hs hl (x := x)
  refine ConC.con (ent _ Tryz.func279 rfl rfl) (con_of_body env Tryz.func279 rfl (nt := 14) (rs := [.tmp 4]) rfl rfl (Nat.le_of_ble_eq_true rfl) fun hok => ?_)
  repeat' (first | (first | (refine AWP.go env ?_; intro K fin; try simp +decide (maxSteps := 4000000) only [go_sem, Nat.reduceAdd, Nat.reduceMul]) | refine Kt.h _ _ ?_ | refine Ft.k (by decide +kernel) ?_ | (refine ⟨_, hb, ?_⟩; simp +decide (maxSteps := 4000000) only [go_sem, Nat.reduceAdd, Nat.reduceMul])) | apply cond2_intro | with_reducible apply And.intro | intro h)
  rfl

theorem rHasC {l : List Int} {x : Int} : Con Tryz.prog 269 [dInts l, .int .i64 x] (.bool (hasF l x)) := by
  refine ConC.con (ent _ Tryz.func269 rfl rfl) (con_of_body env Tryz.func269 rfl (nt := 18) (rs := [.tmp 4]) rfl rfl (Nat.le_of_ble_eq_true rfl) fun hok => ?_)
  have hlen : l.length ≤ 140737488355328 := by simpa using (hok _ (List.mem_cons_self ..)).len
  repeat' (first | (first | (refine AWP.go env ?_; intro K fin; try simp +decide (maxSteps := 4000000) only [go_sem, Nat.reduceAdd, Nat.reduceMul]) | refine Kt.h _ _ ?_ | refine Ft.k (by decide +kernel) ?_ | (refine ⟨_, hb, ?_⟩; simp +decide (maxSteps := 4000000) only [go_sem, Nat.reduceAdd, Nat.reduceMul])) | apply cond2_intro | with_reducible apply And.intro | intro h)
  refine AWP.lp (α := Way l fun a _ => hasF a x = false)
    (fun w => ⟨18, [(0, dInts l), (1, .int .i64 x), (5, .int .i64 w.pre.length)], []⟩) (fun w => w.post.length) ⟨[], l, rfl, rfl⟩ (by simp +decide (maxSteps := 4000000) only [go_sem, Nat.reduceAdd, Nat.reduceMul]; try simp) fun w K => ?_
  obtain ⟨a, b, hab, hinv⟩ := w
  cases b with
  | nil =>
    have hab : l = a := by simpa using hab
    have hn2 : ((a.length : Int) < (l.length : Int)) = False := by simp [hab]
    repeat' (first | (first | (refine AWP.go env ?_; intro K fin; try simp +decide (maxSteps := 4000000) only [hn2, go_sem, Nat.reduceAdd, Nat.reduceMul]) | refine Kt.h _ _ ?_ | refine Ft.k (by decide +kernel) ?_ | (refine ⟨_, hb, ?_⟩; simp +decide (maxSteps := 4000000) only [hn2, go_sem, Nat.reduceAdd, Nat.reduceMul])) | apply cond2_intro | with_reducible apply And.intro | intro h)
    rw [hab, hinv]
  | cons y b =>
    have hal : a.length < l.length := by rw [hab]; simp
    have hn2 : ((a.length : Int) < (l.length : Int)) = True := by simp [hal]
    have hget : getR (l.map rI) a.length = [.int .i64 y] := by rw [hab]; simp [getR, rI]
    have v3 : IntKind.i64.wrap ((a.length : Int) + 1) = ((a.length + 1 : Nat) : Int) := by rw [wrap64 (by omega) (by omega)]; try rfl
    repeat' (first | (first | (refine AWP.go env ?_; intro K fin; try simp +decide (maxSteps := 4000000) only [hn2, hget, v3, go_sem, Nat.reduceAdd, Nat.reduceMul]) | refine Kt.h _ _ ?_ | refine Ft.k (by decide +kernel) ?_ | (refine ⟨_, hb, ?_⟩; simp +decide (maxSteps := 4000000) only [hn2, hget, v3, go_sem, Nat.reduceAdd, Nat.reduceMul])) | apply cond2_intro | with_reducible apply And.intro | intro h)
    all_goals try omega
    · unfold hasF; rw [hab, List.any_append, List.any_cons, h]; simp
    · refine ⟨⟨a ++ [y], b, by simp [hab], ?_⟩, by simp, by simp +decide (maxSteps := 4000000) only [go_sem, Nat.reduceAdd, Nat.reduceMul]; simp⟩
      unfold hasF at hinv ⊢
      rw [List.any_append, hinv, List.any_cons, h]; try rfl

theorem partGC {g : Graph} {p : Two} (hgl : g.nodes.length ≤ 1000000) (hel : g.edges.length ≤ 1000000) : Con Tryz.prog 229 [dGraph g, dTwo p] (.int .i64 (partF g p)) := by
  refine ConC.con (ent _ Tryz.func229 rfl rfl) (con_of_body env Tryz.func229 rfl (nt := 57) (rs := [.tmp 4]) rfl rfl (Nat.le_of_ble_eq_true rfl) fun hok => ?_)
  repeat' (first | (first | (refine AWP.go env ?_; intro K fin; try simp +decide (maxSteps := 4000000) only [go_sem, Nat.reduceAdd, Nat.reduceMul]) | refine Kt.h _ _ ?_ | refine Ft.k (by decide +kernel) ?_ | ((first | refine ⟨_, hb, ?_⟩ | refine ⟨_, listC, ?_⟩ | refine ⟨_, hh1, ?_⟩ | refine ⟨_, hh2, ?_⟩); simp +decide (maxSteps := 4000000) only [go_sem, Nat.reduceAdd, Nat.reduceMul])) | apply cond2_intro | with_reducible apply And.intro | intro h)
  · unfold partF; grind
  · unfold partF; grind
  have h1 : ascF g.nodes.length p.nodes = 0 := by
    have : (ascF g.nodes.length p.nodes != 0) = false := by assumption
    simpa using this
  have h2 : ascF g.edges.length p.edges = 0 := by simpa using h
  have hF : partF g p = if (p.edges.any fun k => !hasF p.nodes (edgeAt g k).src || !hasF p.nodes (edgeAt g k).tgt) = true then 14 else 0 := by
    unfold partF; rw [if_neg (by simp [h1]), if_neg (by simp [h2])]
  have hpl := ascF_len h2
  have hpn := ascF_len h1
  refine AWP.lp (α := Way p.edges fun a _ => (a.any fun k => !hasF p.nodes (edgeAt g k).src || !hasF p.nodes (edgeAt g k).tgt) = false)
    (fun w => ⟨57, [(2, .ptr 200 0 0 0), (3, .ptr 300 0 0 0), (28, dInts p.edges), (29, .int .i64 p.edges.length), (30, .int .i64 w.pre.length)],
      [(200, ⟨0, true, true, 2, 29, [[dInts g.nodes, .fsl 3 (g.edges.map rEdge)]]⟩), (300, ⟨0, true, true, 2, 35, [[dInts p.nodes, dInts p.edges]]⟩)]⟩) (fun w => w.post.length) ⟨[], p.edges, rfl, rfl⟩ (by simp +decide (maxSteps := 4000000) only [go_sem, Nat.reduceAdd, Nat.reduceMul]; try simp) fun w K => ?_
  obtain ⟨a, b, hab, hinv⟩ := w
  cases b with
  | nil =>
    have hab : p.edges = a := by simpa using hab
    have hn2 : ((a.length : Int) < (p.edges.length : Int)) = False := by simp [hab]
    repeat' (first | (first | (refine AWP.go env ?_; intro K fin; try simp +decide (maxSteps := 4000000) only [hn2, go_sem, Nat.reduceAdd, Nat.reduceMul]) | refine Kt.h _ _ ?_ | refine Ft.k (by decide +kernel) ?_ | ((first | refine ⟨_, hb, ?_⟩ | refine ⟨_, listC, ?_⟩ | refine ⟨_, hh1, ?_⟩ | refine ⟨_, hh2, ?_⟩); simp +decide (maxSteps := 4000000) only [hn2, go_sem, Nat.reduceAdd, Nat.reduceMul])) | apply cond2_intro | with_reducible apply And.intro | intro h)
    rw [hF, hab, hinv]; try rfl
  | cons k b =>
    have hal : a.length < p.edges.length := by rw [hab]; simp
    have hn2 : ((a.length : Int) < (p.edges.length : Int)) = True := by simp [hal]
    have hget : getR (p.edges.map rI) a.length = [.int .i64 k] := by rw [hab]; simp [getR, rI]
    have v3 : IntKind.i64.wrap ((a.length : Int) + 1) = ((a.length + 1 : Nat) : Int) := by rw [wrap64 (by omega) (by omega)]; try rfl
    have hk := ascF_range h2 k (by rw [hab]; simp)
    have hge := edgeAt_row hk.1 hk.2
    have hh1 := hasC (ascF_sorted h1) (by omega) (x := (edgeAt g k).src)
    have hh2 := hasC (ascF_sorted h1) (by omega) (x := (edgeAt g k).tgt)
    repeat' (first | (first | (refine AWP.go env ?_; intro K fin; try simp +decide (maxSteps := 4000000) only [hn2, hget, hge, v3, go_sem, Nat.reduceAdd, Nat.reduceMul]) | refine Kt.h _ _ ?_ | refine Ft.k (by decide +kernel) ?_ | ((first | refine ⟨_, hb, ?_⟩ | refine ⟨_, listC, ?_⟩ | refine ⟨_, hh1, ?_⟩ | refine ⟨_, hh2, ?_⟩); simp +decide (maxSteps := 4000000) only [hn2, hget, hge, v3, go_sem, Nat.reduceAdd, Nat.reduceMul])) | apply cond2_intro | with_reducible apply And.intro | intro h)
    all_goals try omega
    · refine ⟨⟨a ++ [k], b, by simp [hab], ?_⟩, by simp, by simp +decide (maxSteps := 4000000) only [go_sem, Nat.reduceAdd, Nat.reduceMul]; simp⟩
      rw [List.any_append, hinv, List.any_cons, show hasF p.nodes (edgeAt g k).src = true by assumption, show hasF p.nodes (edgeAt g k).tgt = true by assumption]; try rfl
    all_goals
      have h3 : (p.edges.any fun k => !hasF p.nodes (edgeAt g k).src || !hasF p.nodes (edgeAt g k).tgt) = true := by rw [hab, List.any_append, List.any_cons, h]; simp
      rw [hF, h3]; try rfl

theorem subC {g : Graph} {p : Two} : Con Tryz.prog 162 [dGraph g, dTwo p] (.int .i64 (subF g p)) := by
  by_cases h0 : graphF g = 0
  · have hl : g.nodes.length ≤ 40 ∧ g.edges.length ≤ 80 := by
      unfold graphF at h0
      split at h0
      · cases h0
      · omega
    have hp := partGC (g := g) (p := p) (by omega) (by omega)
    have q : (graphF g != 0) = false := by simpa using h0
    have hF : subF g p = partF g p := by unfold subF; rw [if_neg (by simp [h0])]
    rw [hF]
    refine ConC.con (ent _ Tryz.func162 rfl rfl) (con_of_body env Tryz.func162 rfl (nt := 14) (rs := [.tmp 4]) rfl rfl (Nat.le_of_ble_eq_true rfl) fun hok => ?_)
    repeat' (first | (first | (refine AWP.go env ?_; intro K fin; try simp +decide (maxSteps := 4000000) only [q, go_sem, Nat.reduceAdd, Nat.reduceMul]) | refine Kt.h _ _ ?_ | refine Ft.k (by decide +kernel) ?_ | ((first | refine ⟨_, hb, ?_⟩ | refine ⟨_, listC, ?_⟩ | refine ⟨_, hh1, ?_⟩ | refine ⟨_, hh2, ?_⟩ | refine ⟨_, graphC, ?_⟩ | refine ⟨_, hp, ?_⟩); simp +decide (maxSteps := 4000000) only [q, go_sem, Nat.reduceAdd, Nat.reduceMul])) | apply cond2_intro | with_reducible apply And.intro | intro h)
  · have q : (graphF g != 0) = true := by simpa using h0
    have hF : subF g p = graphF g := by unfold subF; rw [if_pos h0]
    rw [hF]
    refine ConC.con (ent _ Tryz.func162 rfl rfl) (con_of_body env Tryz.func162 rfl (nt := 14) (rs := [.tmp 4]) rfl rfl (Nat.le_of_ble_eq_true rfl) fun hok => ?_)
    repeat' (first | (first | (refine AWP.go env ?_; intro K fin; try simp +decide (maxSteps := 4000000) only [q, go_sem, Nat.reduceAdd, Nat.reduceMul]) | refine Kt.h _ _ ?_ | refine Ft.k (by decide +kernel) ?_ | ((first | refine ⟨_, hb, ?_⟩ | refine ⟨_, listC, ?_⟩ | refine ⟨_, hh1, ?_⟩ | refine ⟨_, hh2, ?_⟩ | refine ⟨_, graphC, ?_⟩ | refine ⟨_, hp, ?_⟩); simp +decide (maxSteps := 4000000) only [q, go_sem, Nat.reduceAdd, Nat.reduceMul])) | apply cond2_intro | with_reducible apply And.intro | intro h)

theorem rPartC {g : Graph} {p : Two} (hgl : g.nodes.length ≤ 1000000) (hel : g.edges.length ≤ 1000000) : Con Tryz.prog 209 [dGraph g, dTwo p] (.int .i64 (partF g p)) := by
  refine ConC.con (ent _ Tryz.func209 rfl rfl) (con_of_body env Tryz.func209 rfl (nt := 57) (rs := [.tmp 4]) rfl rfl (Nat.le_of_ble_eq_true rfl) fun hok => ?_)
  repeat' (first | (first | (refine AWP.go env ?_; intro K fin; try simp +decide (maxSteps := 4000000) only [go_sem, Nat.reduceAdd, Nat.reduceMul]) | refine Kt.h _ _ ?_ | refine Ft.k (by decide +kernel) ?_ | ((first | refine ⟨_, hb, ?_⟩ | refine ⟨_, listC, ?_⟩ | refine ⟨_, hh1, ?_⟩ | refine ⟨_, hh2, ?_⟩ | refine ⟨_, graphC, ?_⟩ | refine ⟨_, hp, ?_⟩ | refine ⟨_, rAscC, ?_⟩ | refine ⟨_, rHasC, ?_⟩); simp +decide (maxSteps := 4000000) only [go_sem, Nat.reduceAdd, Nat.reduceMul])) | apply cond2_intro | with_reducible apply And.intro | intro h)
  · unfold partF; grind
  · unfold partF; grind
  have h1 : ascF g.nodes.length p.nodes = 0 := by
    have : (ascF g.nodes.length p.nodes != 0) = false := by assumption
    simpa using this
  have h2 : ascF g.edges.length p.edges = 0 := by simpa using h
  have hF : partF g p = if (p.edges.any fun k => !hasF p.nodes (edgeAt g k).src || !hasF p.nodes (edgeAt g k).tgt) = true then 14 else 0 := by
    unfold partF; rw [if_neg (by simp [h1]), if_neg (by simp [h2])]
  have hpl := ascF_len h2
  have hpn := ascF_len h1
  refine AWP.lp (α := Way p.edges fun a _ => (a.any fun k => !hasF p.nodes (edgeAt g k).src || !hasF p.nodes (edgeAt g k).tgt) = false)
    (fun w => ⟨57, [(2, .ptr 200 0 0 0), (3, .ptr 300 0 0 0), (7, .int .i64 w.pre.length)],
      [(200, ⟨0, true, true, 2, 29, [[dInts g.nodes, .fsl 3 (g.edges.map rEdge)]]⟩), (300, ⟨0, true, true, 2, 35, [[dInts p.nodes, dInts p.edges]]⟩)]⟩) (fun w => w.post.length) ⟨[], p.edges, rfl, rfl⟩ (by simp +decide (maxSteps := 4000000) only [go_sem, Nat.reduceAdd, Nat.reduceMul]; try simp) fun w K => ?_
  obtain ⟨a, b, hab, hinv⟩ := w
  cases b with
  | nil =>
    have hab : p.edges = a := by simpa using hab
    have hn2 : ((a.length : Int) < (p.edges.length : Int)) = False := by simp [hab]
    repeat' (first | (first | (refine AWP.go env ?_; intro K fin; try simp +decide (maxSteps := 4000000) only [hn2, go_sem, Nat.reduceAdd, Nat.reduceMul]) | refine Kt.h _ _ ?_ | refine Ft.k (by decide +kernel) ?_ | ((first | refine ⟨_, hb, ?_⟩ | refine ⟨_, listC, ?_⟩ | refine ⟨_, hh1, ?_⟩ | refine ⟨_, hh2, ?_⟩ | refine ⟨_, graphC, ?_⟩ | refine ⟨_, hp, ?_⟩ | refine ⟨_, rAscC, ?_⟩ | refine ⟨_, rHasC, ?_⟩); simp +decide (maxSteps := 4000000) only [hn2, go_sem, Nat.reduceAdd, Nat.reduceMul])) | apply cond2_intro | with_reducible apply And.intro | intro h)
    rw [hF, hab, hinv]; try rfl
  | cons k b =>
    have hal : a.length < p.edges.length := by rw [hab]; simp
    have hn2 : ((a.length : Int) < (p.edges.length : Int)) = True := by simp [hal]
    have hget : getR (p.edges.map rI) a.length = [.int .i64 k] := by rw [hab]; simp [getR, rI]
    have v3 : IntKind.i64.wrap ((a.length : Int) + 1) = ((a.length + 1 : Nat) : Int) := by rw [wrap64 (by omega) (by omega)]; try rfl
    have hk := ascF_range h2 k (by rw [hab]; simp)
    have hge := edgeAt_row hk.1 hk.2
    repeat' (first | (first | (refine AWP.go env ?_; intro K fin; try simp +decide (maxSteps := 4000000) only [hn2, hget, hge, v3, go_sem, Nat.reduceAdd, Nat.reduceMul]) | refine Kt.h _ _ ?_ | refine Ft.k (by decide +kernel) ?_ | ((first | refine ⟨_, hb, ?_⟩ | refine ⟨_, listC, ?_⟩ | refine ⟨_, hh1, ?_⟩ | refine ⟨_, hh2, ?_⟩ | refine ⟨_, graphC, ?_⟩ | refine ⟨_, hp, ?_⟩ | refine ⟨_, rAscC, ?_⟩ | refine ⟨_, rHasC, ?_⟩); simp +decide (maxSteps := 4000000) only [hn2, hget, hge, v3, go_sem, Nat.reduceAdd, Nat.reduceMul])) | apply cond2_intro | with_reducible apply And.intro | intro h)
    all_goals try omega
    all_goals try (simp only [List.mem_cons, List.not_mem_nil, or_false] at h; (repeat' (first | (subst h; rfl) | rcases h with h | h)))
    · refine ⟨⟨a ++ [k], b, by simp [hab], ?_⟩, by simp, by simp +decide (maxSteps := 4000000) only [go_sem, Nat.reduceAdd, Nat.reduceMul]; simp⟩
      rw [List.any_append, hinv, List.any_cons, show hasF p.nodes (edgeAt g k).src = true by assumption, show hasF p.nodes (edgeAt g k).tgt = true by assumption]; try rfl
    all_goals
      have h3 : (p.edges.any fun k => !hasF p.nodes (edgeAt g k).src || !hasF p.nodes (edgeAt g k).tgt) = true := by rw [hab, List.any_append, List.any_cons, h]; simp
      rw [hF, h3]; try rfl

theorem rSubC {g : Graph} {p : Two} : Con Tryz.prog 134 [dGraph g, dTwo p] (.int .i64 (subF g p)) := by
  by_cases h0 : graphF g = 0
  · have hl : g.nodes.length ≤ 40 ∧ g.edges.length ≤ 80 := by
      unfold graphF at h0
      split at h0
      · cases h0
      · omega
    have hp := rPartC (g := g) (p := p) (by omega) (by omega)
    have q : (graphF g != 0) = false := by simpa using h0
    have hF : subF g p = partF g p := by unfold subF; rw [if_neg (by simp [h0])]
    rw [hF]
    refine ConC.con (ent _ Tryz.func134 rfl rfl) (con_of_body env Tryz.func134 rfl (nt := 14) (rs := [.tmp 4]) rfl rfl (Nat.le_of_ble_eq_true rfl) fun hok => ?_)
    repeat' (first | (first | (refine AWP.go env ?_; intro K fin; try simp +decide (maxSteps := 4000000) only [q, go_sem, Nat.reduceAdd, Nat.reduceMul]) | refine Kt.h _ _ ?_ | refine Ft.k (by decide +kernel) ?_ | ((first | refine ⟨_, hb, ?_⟩ | refine ⟨_, listC, ?_⟩ | refine ⟨_, hh1, ?_⟩ | refine ⟨_, hh2, ?_⟩ | refine ⟨_, graphC, ?_⟩ | refine ⟨_, hp, ?_⟩ | refine ⟨_, rAscC, ?_⟩ | refine ⟨_, rHasC, ?_⟩ | refine ⟨_, rGraphC, ?_⟩ | refine ⟨_, hp, ?_⟩); simp +decide (maxSteps := 4000000) only [q, go_sem, Nat.reduceAdd, Nat.reduceMul])) | apply cond2_intro | with_reducible apply And.intro | intro h)
  · have q : (graphF g != 0) = true := by simpa using h0
    have hF : subF g p = graphF g := by unfold subF; rw [if_pos h0]
    rw [hF]
    refine ConC.con (ent _ Tryz.func134 rfl rfl) (con_of_body env Tryz.func134 rfl (nt := 14) (rs := [.tmp 4]) rfl rfl (Nat.le_of_ble_eq_true rfl) fun hok => ?_)
    repeat' (first | (first | (refine AWP.go env ?_; intro K fin; try simp +decide (maxSteps := 4000000) only [q, go_sem, Nat.reduceAdd, Nat.reduceMul]) | refine Kt.h _ _ ?_ | refine Ft.k (by decide +kernel) ?_ | ((first | refine ⟨_, hb, ?_⟩ | refine ⟨_, listC, ?_⟩ | refine ⟨_, hh1, ?_⟩ | refine ⟨_, hh2, ?_⟩ | refine ⟨_, graphC, ?_⟩ | refine ⟨_, hp, ?_⟩ | refine ⟨_, rAscC, ?_⟩ | refine ⟨_, rHasC, ?_⟩ | refine ⟨_, rGraphC, ?_⟩ | refine ⟨_, hp, ?_⟩); simp +decide (maxSteps := 4000000) only [q, go_sem, Nat.reduceAdd, Nat.reduceMul])) | apply cond2_intro | with_reducible apply And.intro | intro h)
end Go.Abs
