/- RuleValid holds of every input. Its row, out of the contract of its function. -/
import Derived.Test.YticiiadkpddgoaaGreatMBZ
import Derived.Test.YticiiadkpddgoaaGreatRows
import Derived.WalkKit
import Derived.ProofKit
import Derived.OpenShut
import Derived.ShutString
import Derived.ChangeOld
import Derived.Below
import Derived.SizedLaws
import Derived.Carry
import Derived.JoinedOf
/- RuleValid holds of every input. Its row, out of the contract of its function. -/
namespace Go.Proofs.YticiiadkpddgoaaGreat.ruleValid
open Go Go.Abs Go.ChangeShapes Go.WideShapes Go.ChangeAt Go.RowKit
set_option linter.unusedVariables false
theorem own : ownKnob Tryz.prog.godebug = none := by kernel_rfl
theorem laidOut : laidOutB Tryz.prog = true := by kernel_rfl
set_option maxRecDepth 100000 in
theorem lifted (os : Os) (started : os.Started) (H : Type) (enc : TypeId × Value → H) :
    ReturnsInHanded {} Tryz.checked os 3 .any (Rows.ruleValidSpec.pre6 enc Tryz.prog Tryz.f3 Rows.ruleValidRow.domain false) (Rows.ruleValidSpec.post enc Tryz.prog Tryz.f3 false true false false) := by
  refine returnsInHanded_of_change_sized (C := Tryz.checked) own started (by kernel_rfl) Tryz.func3
    (ChangeSpec.witness6 (enc := enc) (C := Tryz.checked) false ⟨#[], #[.agg #[.slice none 0 0, .slice none 0 0], .agg #[.string ByteArray.empty, .slice none 0 0, .slice none 0 0, .slice none 0 0, .int .i64 0, .slice none 0 0, .slice none 0 0, .slice none 0 0, .slice none 0 0, .int .i64 0, .slice none 0 0, .slice none 0 0, .slice none 0 0, .slice none 0 0, .slice none 0 0, .bool false, .int .i64 0, .slice none 0 0, .slice none 0 0, .slice none 0 0, .slice none 0 0, .slice none 0 0, .slice none 0 0, .int .i64 0, .slice none 0 0]], []⟩ 8 (by kernel_rfl) (by kernel_rfl) (by kernel_rfl) (by kernel_rfl)) ?_
  intro W base args ds gs before hval0 hW hcnd hsz0 _
  have hsz : (DataW.weightsEach Tryz.prog (Tryz.f3.params.toList ++ Rows.ruleValidSpec.plain.varTypes Tryz.prog) (ds ++ gs)).all (· ≤ reachBytes) = true := hsz0
  have hval : ∀ (j : Nat) t v, Tryz.f3.params[j]? = some t → args[j]? = some v → Value.okWide Tryz.prog W .any base t v := hval0
  have hW' := hW
  obtain ⟨p, q, hA0, hV, rfl, hfz, hnd⟩ := hW
  have hA : DataW.TrodAll enc Tryz.prog W 0 (fun _ => true) true Tryz.f3.params.toList args.toList ds p := hA0
  rw [Tryz.params3] at hA hval hsz
  obtain ⟨v0, vs0, d0, ds0, p0, q0, hargs, rfl, rfl, h0, r0⟩ := trodAll_cons hA
  obtain ⟨v1, vs1, d1, ds1, p1, q1, rfl, rfl, rfl, h1, r1⟩ := trodAll_cons r0
  obtain ⟨rfl, rfl, rfl⟩ := trodAll_nil r1
  obtain rfl : args = #[v0, v1] := by cases args; simp_all
  obtain ⟨rfl, rfl⟩ := trodVars_none hV
  have hwt := List.all_eq_true.1 hsz
  have k0 := h0
  have lt0 : ∀ x ∈ p0, x.block < W.heap.size := by obtain ⟨m, hm⟩ := k0; exact DataW.trod_lt m _ _ _ hm
  have w0 : ∀ n ∈ d0.weights Tryz.prog 25, n ≤ reachBytes := fun n hn => of_decide_eq_true (hwt n (weights_each _ _ rfl 0 25 d0 rfl rfl n hn))
  obtain ⟨cs0, sh0, e0⟩ := arg_struct tok covSR (by decide) Tryz.underlying25 (hval 0 25 v0 rfl rfl) h0 w0
  obtain ⟨x0, rfl⟩ := sh_Types sh0
  have k1 := h1
  have lt1 : ∀ x ∈ p1, x.block < W.heap.size := by obtain ⟨m, hm⟩ := k1; exact DataW.trod_lt m _ _ _ hm
  have w1 : ∀ n ∈ d1.weights Tryz.prog 41, n ≤ reachBytes := fun n hn => of_decide_eq_true (hwt n (weights_each _ _ rfl 1 41 d1 rfl rfl n hn))
  obtain ⟨cs1, sh1, e1⟩ := arg_struct tok covSR (by decide) Tryz.underlying41 (hval 1 41 v1 rfl rfl) h1 w1
  obtain ⟨x1, rfl⟩ := sh_Rule sh1
  clear hA0 hval0 hsz0 hsz
  refine (Con.calls_true (ent _ Tryz.func3 rfl rfl) (ruleValidC (t := x0) (r := x1)) rfl rfl fun i hi => ?_).mono fun e W' ⟨he, bel⟩ => ?_
  · match i, hi with
    | 0, _ => exact e0
    | 1, _ => exact e1
  subst he
  exact ⟨_, rfl, _, _, _, [], _, [], hW', trodAll_mk1 (shut_bool Tryz.underlying4 _), (trodAll_cons_mk (Below.trod laidOut (by kernel_rfl) (of_decide_eq_true (by kernel_rfl)) k0 bel lt0) (trodAll_cons_mk (Below.trod laidOut (by kernel_rfl) (of_decide_eq_true (by kernel_rfl)) k1 bel lt1) trodAll_mk0)), rfl, bel.frame _, fun h => by cases h⟩
/-- The functions that it leads to. -/
theorem clo : Tryz.prog.closure 3 = [3, 12, 43, 44, 19, 14, 46, 105, 47, 107, 185, 245, 246, 247, 248, 249, 287, 250, 286, 294, 251, 288, 295, 178, 177, 240, 179, 180, 242, 241, 285, 243, 106, 181, 183, 182, 244, 184, 48, 91, 108, 186, 158, 159, 160, 161, 110, 187, 109, 111, 112, 113, 188, 197, 255, 252, 114, 189, 253, 115, 190, 49, 116, 191, 192, 117, 194, 193, 254, 50, 92, 162, 229, 278, 279, 163, 224, 277, 230, 86, 93, 118, 195, 87, 156, 227, 228, 155, 218, 219, 272, 220, 273, 274, 221, 275, 276, 292, 222, 223, 225, 226, 233, 51, 119, 196, 141, 52, 120, 121, 122, 198, 256, 289, 53, 123, 199, 257, 258, 290, 259, 200, 124, 201, 260, 64, 21, 16, 63, 139, 65, 140, 215, 66, 25, 13, 45, 32, 88, 36, 89, 37, 90, 157, 15, 54, 125, 55, 127, 206, 207, 262, 263, 264, 265, 266, 202, 203, 204, 261, 126, 205, 56, 94, 164, 165, 128, 129, 148, 210, 130, 131, 208, 267, 132, 57, 133, 58, 134, 209, 268, 269, 80, 151, 135, 59, 60, 70, 144, 61, 136, 175, 62, 137, 211, 270, 291, 212, 138, 213, 271, 214] := by kernel_rfl
theorem unf : Tryz.prog.unfollowed 3 = true := by unfold Program.unfollowed; rw [clo]; kernel_rfl
theorem and2 {a b : Bool} (h : a = true) (k : b = true) : (a && b) = true := by rw [h, k]; try rfl
theorem fact0 : Rows.ruleValidRow.wf (OpenSpec.ofChange Rows.ruleValidSpec) = true := by kernel_rfl
theorem fact1 : laidOutB Tryz.prog = true := by kernel_rfl
theorem fact2 : mapsRowed Tryz.prog = true := by kernel_rfl
theorem fact3 : Tryz.f3.params.all (Tryz.prog.readableRec ·) = true := by kernel_rfl
theorem fact4 : namedTie Tryz.prog Rows.ruleValidRow.named Rows.ruleValidSpec.vars = true := by kernel_rfl
theorem fact5 : (Rows.ruleValidRow.stops == []) = true := by kernel_rfl
theorem fact6 : (Tryz.prog.stops == []) = true := by kernel_rfl
theorem fact7 : (Rows.ruleValidRow.knobs == []) = true := by kernel_rfl
theorem fact8 : (Tryz.prog.stopKnobs == []) = true := by kernel_rfl
theorem fact9 : (Rows.ruleValidRow.inPlace == Tryz.prog.inPlace 3) = true := by unfold Program.inPlace; rw [clo]; kernel_rfl
theorem fact10 : (Rows.ruleValidRow.unfollowed == Tryz.prog.unfollowed 3) = true := by rw [unf]; kernel_rfl
theorem fact11 : (Rows.ruleValidRow.recurses == Tryz.prog.recurses 3) = true := by unfold Program.recurses; rw [unf]; kernel_rfl
theorem fact12 : (Rows.ruleValidRow.named == Tryz.prog.varsNamed 3) = true := by unfold Program.varsNamed; rw [clo]; kernel_rfl
theorem fact13 : (Rows.ruleValidRow.maps == (Tryz.f3.params.toList ++ Rows.ruleValidSpec.plain.varTypes Tryz.prog).any (Tryz.prog.mapsRec ·)) = true := by kernel_rfl
theorem fact14 : (Rows.ruleValidRow.ifaces == (Tryz.f3.params.toList ++ Rows.ruleValidSpec.plain.varTypes Tryz.prog).any (Tryz.prog.ifacesRec ·)) = true := by kernel_rfl
theorem fact15 : (Rows.ruleValidRow.mapsOut == Tryz.prog.mapsAmong Tryz.f3.resultTypes.toList) = true := by kernel_rfl
theorem fact16 : (Rows.ruleValidRow.loops == (Tryz.f3.params.toList ++ Rows.ruleValidSpec.plain.varTypes Tryz.prog).any (Tryz.prog.loopsFrom ·)) = true := by kernel_rfl
theorem fact17 : (Rows.ruleValidRow.wideKeys == (Tryz.f3.params.toList ++ Rows.ruleValidSpec.plain.varTypes Tryz.prog ++ Tryz.f3.resultTypes.toList).any (Tryz.prog.wideKeysFrom ·)) = true := by kernel_rfl
theorem fact18 : Rows.ruleValidSpec.vars.all (Tryz.prog.varReadable ·) = true := by kernel_rfl
theorem fact19 : Tryz.f3.resultTypes.all (fun t => Tryz.prog.readableRec t && decide (t < Tryz.prog.types.size)) = true := by kernel_rfl
theorem fact20 : (Rows.ruleValidRow.ifacesOut == Tryz.f3.resultTypes.toList.any (Tryz.prog.ifacesRec ·)) = true := by kernel_rfl
theorem fact21 : (Rows.ruleValidRow.loopsOut == Tryz.f3.resultTypes.toList.any (Tryz.prog.loopsFrom ·)) = true := by kernel_rfl
theorem fact22 : (Rows.ruleValidRow.plainKeys == Tryz.prog.plainKeys) = true := by kernel_rfl
theorem fact23 : Rows.ruleValidRow.shortTexts.isNone = true := by kernel_rfl
theorem fact24 : Tryz.prog.stopsHeard = true := by kernel_rfl
theorem fact25 : Tryz.prog.mayEnter = true := by kernel_rfl
theorem fact26 : (Rows.ruleValidRow.lifted == Tryz.prog.liftsFinal) = true := by kernel_rfl
theorem fact27 : (Tryz.prog.make == some Rows.ruleValidRow.make) = true := by kernel_rfl
theorem fact29 : (Rows.ruleValidRow.pinned == Rows.ruleValidRow.pinnedBy) = true := by kernel_rfl
theorem fact30 : (Rows.ruleValidRow.veiled == (Tryz.f3.params.toList ++ Rows.ruleValidSpec.plain.varTypes Tryz.prog ++ Tryz.f3.resultTypes.toList).any (Tryz.prog.veiledRec ·)) = true := by kernel_rfl
theorem fact31 : Rows.ruleValidRow.veiledFits Tryz.prog Tryz.f3.params.toList (Tryz.f3.params.toList ++ Rows.ruleValidSpec.plain.varTypes Tryz.prog ++ Tryz.f3.resultTypes.toList) = true := by kernel_rfl
theorem facts : joinedFacts Tryz.prog 3 Tryz.f3 Rows.ruleValidSpec Rows.ruleValidRow = true := by
  unfold joinedFacts
  exact (and2 (and2 (and2 (and2 (and2 (and2 (and2 (and2 (and2 (and2 (and2 (and2 (and2 (and2 (and2 (and2 (and2 (and2 (and2 (and2 (and2 (and2 (and2 (and2 (and2 (and2 (and2 (and2 (and2 (and2 (and2 fact0 fact1) fact2) fact3) fact4) fact5) fact6) fact7) fact8) fact9) fact10) fact11) fact12) fact13) fact14) fact15) fact16) fact17) fact18) fact19) fact20) fact21) fact22) fact23) fact24) fact25) fact26) fact27) (by kernel_rfl)) fact29) fact30) fact31)
theorem named : Tryz.pinned.checked.prog.funcNamed Rows.ruleValidRow.func = some 3 := by kernel_rfl
theorem over : Rows.ruleValidRow.holds Tryz.pinned (OpenSpec.ofChange Rows.ruleValidSpec) :=
  OpenClaim.holds_of_wide 3 Tryz.f3 rfl rfl rfl rfl rfl rfl rfl ⟨rfl, rfl, rfl, rfl, rfl⟩ rfl rfl rfl rfl rfl named Tryz.func3 facts
    (of_decide_eq_true (by kernel_rfl)) (by unfold Func.isWrapper; first | (rw [if_pos (by decide +kernel)]; kernel_rfl) | (rw [if_neg (by decide +kernel)]; exact ⟨rfl, rfl⟩))
    (fun os started H enc _ => lifted os started H enc)
theorem proved : Rows.RuleValidSaid := over
#print axioms proved
end Go.Proofs.YticiiadkpddgoaaGreat.ruleValid
namespace Go.Proofs.YticiiadkpddgoaaGreat
/-- The statement. -/
theorem ruleValid_holds : Rows.RuleValidSaid := ruleValid.proved
end Go.Proofs.YticiiadkpddgoaaGreat

