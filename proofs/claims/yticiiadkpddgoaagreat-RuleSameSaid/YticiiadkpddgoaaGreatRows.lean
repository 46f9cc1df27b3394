/-
  NARROWER THAN 'FOR EVERY INPUT', by the rows' own cells (each row's printed sentence says how): RuleValid: loops · RuleInverse: loops · RuleParts: loops · RulePlain: loops · RuleSame: loops · RuleSpecialize: loops.
  DERIVED. THE GIVEN ROWS OF THIS SEAT. 9 by the template 'for every input the law returns true; each argument reads behind the call as it read before'; 0 by the template 'total and deterministic' (their statements: YticiiadkpddgoaaGreatTotals.lean).
  GIVEN WITH THE SEED: the statements are not yours to turn. If you find one false, say at which input.
  Laid BY PROGRAM, IN A SANDBOX (cutbox-rows.mjs): the forced cells as the released guide's own fill.sh prints them over the translation 9c16e5798deaf7e5… (all of the seat's roots in one cut). By AI agents, Wed Nov 11 2026. No macro, syntax, notation, axiom, sorry.
-/
import Derived.Test.YticiiadkpddgoaaGreatChecked
import GoSem.Claim
import GoSem.ClaimJoined
import GoSem.ClaimMapViews
import Derived.JoinedTies
import Derived.KernelRfl
namespace Go.Proofs.YticiiadkpddgoaaGreat
/- THE CELL 'sum', in the pinned program and in every row, IS THE sha256 OF THE DUMP (.gsa) THAT YticiiadkpddgoaaGreatProg.lean LOADS. Nothing in Lean hashes anything: it is a label: what it is worth is what the hold of that sum in a sandbox is worth. -/
noncomputable def Tryz.pinned : Pinned := { name := "yticiiadkpddgoaagreat", sum := "9c16e5798deaf7e531c5e8c0fd9b7916444ad81de48b4eda3abfd616a37f8665", checked := Tryz.checked }
namespace Rows
def none {H : Type} : Left H := { results := [], args := [] }

/-- 'scarfjointlaw24.RuleValid': WHATEVER THE INPUT: true; the input reads as it did. -/
def ruleValidSpec : ChangeSpec := { name := "ruleValid", fn := fun _ => fun
  | [d1, d2] => { results := [.lit (.bool true)], args := [d1, d2] }
  | _ => none }
def ruleValidRow : OpenClaim := { program := "yticiiadkpddgoaagreat", sum := "9c16e5798deaf7e531c5e8c0fd9b7916444ad81de48b4eda3abfd616a37f8665", func := "scarfjoint/scarfjointlaw24.RuleValid", spec := "ruleValid", inPlace := ["internal/bytealg.IndexByteString"], unfollowed := true, recurses := true, loops := true, apart := false }
def RuleValidSaid : Prop := ruleValidRow.holds Tryz.pinned (OpenSpec.ofChange ruleValidSpec)

/-- ITS FALSE NEIGHBOUR: 'it returns false'. Refute it at one input. -/
def ruleValidWrong : ChangeSpec := { name := "ruleValid", fn := fun _ => fun
  | [d1, d2] => { results := [.lit (.bool false)], args := [d1, d2] }
  | _ => none }
def RuleValidWrongFalsely : Prop := ruleValidRow.holds Tryz.pinned (OpenSpec.ofChange ruleValidWrong)

/-- 'scarfjointlaw24.RuleInverse': WHATEVER THE INPUT: true; the input reads as it did. -/
def ruleInverseSpec : ChangeSpec := { name := "ruleInverse", fn := fun _ => fun
  | [d1, d2] => { results := [.lit (.bool true)], args := [d1, d2] }
  | _ => none }
def ruleInverseRow : OpenClaim := { program := "yticiiadkpddgoaagreat", sum := "9c16e5798deaf7e531c5e8c0fd9b7916444ad81de48b4eda3abfd616a37f8665", func := "scarfjoint/scarfjointlaw24.RuleInverse", spec := "ruleInverse", inPlace := ["internal/bytealg.IndexByteString"], unfollowed := true, recurses := true, loops := true, apart := false }
def RuleInverseSaid : Prop := ruleInverseRow.holds Tryz.pinned (OpenSpec.ofChange ruleInverseSpec)

/-- ITS FALSE NEIGHBOUR: 'it returns false'. Refute it at one input. -/
def ruleInverseWrong : ChangeSpec := { name := "ruleInverse", fn := fun _ => fun
  | [d1, d2] => { results := [.lit (.bool false)], args := [d1, d2] }
  | _ => none }
def RuleInverseWrongFalsely : Prop := ruleInverseRow.holds Tryz.pinned (OpenSpec.ofChange ruleInverseWrong)

/-- 'scarfjointlaw24.RuleParts': WHATEVER THE INPUT: true; the input reads as it did. -/
def rulePartsSpec : ChangeSpec := { name := "ruleParts", fn := fun _ => fun
  | [d1, d2] => { results := [.lit (.bool true)], args := [d1, d2] }
  | _ => none }
def rulePartsRow : OpenClaim := { program := "yticiiadkpddgoaagreat", sum := "9c16e5798deaf7e531c5e8c0fd9b7916444ad81de48b4eda3abfd616a37f8665", func := "scarfjoint/scarfjointlaw24.RuleParts", spec := "ruleParts", inPlace := ["internal/bytealg.IndexByteString"], unfollowed := true, recurses := true, loops := true, apart := false }
def RulePartsSaid : Prop := rulePartsRow.holds Tryz.pinned (OpenSpec.ofChange rulePartsSpec)

/-- ITS FALSE NEIGHBOUR: 'it returns false'. Refute it at one input. -/
def rulePartsWrong : ChangeSpec := { name := "ruleParts", fn := fun _ => fun
  | [d1, d2] => { results := [.lit (.bool false)], args := [d1, d2] }
  | _ => none }
def RulePartsWrongFalsely : Prop := rulePartsRow.holds Tryz.pinned (OpenSpec.ofChange rulePartsWrong)

/-- 'scarfjointlaw24.RuleTogether': WHATEVER THE INPUT: true; the input reads as it did. -/
def ruleTogetherSpec : ChangeSpec := { name := "ruleTogether", fn := fun _ => fun
  | [d1, d2, d3] => { results := [.lit (.bool true)], args := [d1, d2, d3] }
  | _ => none }
def ruleTogetherRow : OpenClaim := { program := "yticiiadkpddgoaagreat", sum := "9c16e5798deaf7e531c5e8c0fd9b7916444ad81de48b4eda3abfd616a37f8665", func := "scarfjoint/scarfjointlaw24.RuleTogether", spec := "ruleTogether", inPlace := ["internal/bytealg.IndexByteString"], unfollowed := true, recurses := true, apart := false }
def RuleTogetherSaid : Prop := ruleTogetherRow.holds Tryz.pinned (OpenSpec.ofChange ruleTogetherSpec)

/-- ITS FALSE NEIGHBOUR: 'it returns false'. Refute it at one input. -/
def ruleTogetherWrong : ChangeSpec := { name := "ruleTogether", fn := fun _ => fun
  | [d1, d2, d3] => { results := [.lit (.bool false)], args := [d1, d2, d3] }
  | _ => none }
def RuleTogetherWrongFalsely : Prop := ruleTogetherRow.holds Tryz.pinned (OpenSpec.ofChange ruleTogetherWrong)

/-- 'scarfjointlaw24.RulePlain': WHATEVER THE INPUT: true; the input reads as it did. -/
def rulePlainSpec : ChangeSpec := { name := "rulePlain", fn := fun _ => fun
  | [d] => { results := [.lit (.bool true)], args := [d] }
  | _ => none }
def rulePlainRow : OpenClaim := { program := "yticiiadkpddgoaagreat", sum := "9c16e5798deaf7e531c5e8c0fd9b7916444ad81de48b4eda3abfd616a37f8665", func := "scarfjoint/scarfjointlaw24.RulePlain", spec := "rulePlain", inPlace := ["internal/bytealg.IndexByteString"], unfollowed := true, recurses := true, loops := true, apart := false }
def RulePlainSaid : Prop := rulePlainRow.holds Tryz.pinned (OpenSpec.ofChange rulePlainSpec)

/-- ITS FALSE NEIGHBOUR: 'it returns false'. Refute it at one input. -/
def rulePlainWrong : ChangeSpec := { name := "rulePlain", fn := fun _ => fun
  | [d] => { results := [.lit (.bool false)], args := [d] }
  | _ => none }
def RulePlainWrongFalsely : Prop := rulePlainRow.holds Tryz.pinned (OpenSpec.ofChange rulePlainWrong)

/-- 'scarfjointlaw24.RuleSame': WHATEVER THE INPUT: true; the input reads as it did. -/
def ruleSameSpec : ChangeSpec := { name := "ruleSame", fn := fun _ => fun
  | [d1, d2] => { results := [.lit (.bool true)], args := [d1, d2] }
  | _ => none }
def ruleSameRow : OpenClaim := { program := "yticiiadkpddgoaagreat", sum := "9c16e5798deaf7e531c5e8c0fd9b7916444ad81de48b4eda3abfd616a37f8665", func := "scarfjoint/scarfjointlaw24.RuleSame", spec := "ruleSame", inPlace := ["internal/bytealg.IndexByteString"], unfollowed := true, recurses := true, loops := true, apart := false }
def RuleSameSaid : Prop := ruleSameRow.holds Tryz.pinned (OpenSpec.ofChange ruleSameSpec)

/-- ITS FALSE NEIGHBOUR: 'it returns false'. Refute it at one input. -/
def ruleSameWrong : ChangeSpec := { name := "ruleSame", fn := fun _ => fun
  | [d1, d2] => { results := [.lit (.bool false)], args := [d1, d2] }
  | _ => none }
def RuleSameWrongFalsely : Prop := ruleSameRow.holds Tryz.pinned (OpenSpec.ofChange ruleSameWrong)

/-- 'scarfjointlaw24.RuleTwice': WHATEVER THE INPUT: true; the input reads as it did. -/
def ruleTwiceSpec : ChangeSpec := { name := "ruleTwice", fn := fun _ => fun
  | [d1, d2, d3] => { results := [.lit (.bool true)], args := [d1, d2, d3] }
  | _ => none }
def ruleTwiceRow : OpenClaim := { program := "yticiiadkpddgoaagreat", sum := "9c16e5798deaf7e531c5e8c0fd9b7916444ad81de48b4eda3abfd616a37f8665", func := "scarfjoint/scarfjointlaw24.RuleTwice", spec := "ruleTwice", inPlace := ["internal/bytealg.IndexByteString"], unfollowed := true, recurses := true, apart := false }
def RuleTwiceSaid : Prop := ruleTwiceRow.holds Tryz.pinned (OpenSpec.ofChange ruleTwiceSpec)

/-- ITS FALSE NEIGHBOUR: 'it returns false'. Refute it at one input. -/
def ruleTwiceWrong : ChangeSpec := { name := "ruleTwice", fn := fun _ => fun
  | [d1, d2, d3] => { results := [.lit (.bool false)], args := [d1, d2, d3] }
  | _ => none }
def RuleTwiceWrongFalsely : Prop := ruleTwiceRow.holds Tryz.pinned (OpenSpec.ofChange ruleTwiceWrong)

/-- 'scarfjointlaw24.RuleSpecialize': WHATEVER THE INPUT: true; the input reads as it did. -/
def ruleSpecializeSpec : ChangeSpec := { name := "ruleSpecialize", fn := fun _ => fun
  | [d1, d2, d3] => { results := [.lit (.bool true)], args := [d1, d2, d3] }
  | _ => none }
def ruleSpecializeRow : OpenClaim := { program := "yticiiadkpddgoaagreat", sum := "9c16e5798deaf7e531c5e8c0fd9b7916444ad81de48b4eda3abfd616a37f8665", func := "scarfjoint/scarfjointlaw24.RuleSpecialize", spec := "ruleSpecialize", inPlace := ["internal/bytealg.IndexByteString"], unfollowed := true, recurses := true, loops := true, apart := false }
def RuleSpecializeSaid : Prop := ruleSpecializeRow.holds Tryz.pinned (OpenSpec.ofChange ruleSpecializeSpec)

/-- ITS FALSE NEIGHBOUR: 'it returns false'. Refute it at one input. -/
def ruleSpecializeWrong : ChangeSpec := { name := "ruleSpecialize", fn := fun _ => fun
  | [d1, d2, d3] => { results := [.lit (.bool false)], args := [d1, d2, d3] }
  | _ => none }
def RuleSpecializeWrongFalsely : Prop := ruleSpecializeRow.holds Tryz.pinned (OpenSpec.ofChange ruleSpecializeWrong)

/-- 'scarfjointlaw24.RuleSpecial': WHATEVER THE INPUT: true; the input reads as it did. -/
def ruleSpecialSpec : ChangeSpec := { name := "ruleSpecial", fn := fun _ => fun
  | [d1, d2, d3] => { results := [.lit (.bool true)], args := [d1, d2, d3] }
  | _ => none }
def ruleSpecialRow : OpenClaim := { program := "yticiiadkpddgoaagreat", sum := "9c16e5798deaf7e531c5e8c0fd9b7916444ad81de48b4eda3abfd616a37f8665", func := "scarfjoint/scarfjointlaw24.RuleSpecial", spec := "ruleSpecial", inPlace := ["internal/bytealg.IndexByteString"], unfollowed := true, recurses := true, apart := false }
def RuleSpecialSaid : Prop := ruleSpecialRow.holds Tryz.pinned (OpenSpec.ofChange ruleSpecialSpec)

/-- ITS FALSE NEIGHBOUR: 'it returns false'. Refute it at one input. -/
def ruleSpecialWrong : ChangeSpec := { name := "ruleSpecial", fn := fun _ => fun
  | [d1, d2, d3] => { results := [.lit (.bool false)], args := [d1, d2, d3] }
  | _ => none }
def RuleSpecialWrongFalsely : Prop := ruleSpecialRow.holds Tryz.pinned (OpenSpec.ofChange ruleSpecialWrong)

/- THE SECOND FORM. 'bulk': how many values and letters a reading holds, each counted each time it is reached (what is shared counts as often as it is met; a slice's spare places count too). A statement '..UptoSaid' is the law's where the arguments, and the package variables that the reading takes, are together of bulk at most 1048576: NARROWER than '..Said'. Prove '..Said' where nothing that the law and all that it calls make is longer than what came in: it says more and counts as full. Else prove '..UptoSaid'. A law counts once. -/
mutual
def uptoBulk {H : Type} : DataW H → Nat
  | .lit (.string bytes) => bytes.length + 1
  | .lit _ => 1
  | .nil => 1
  | .ptr d => uptoBulk d + 1
  | .slice elems spare => uptoBulkAll elems + uptoBulkAll spare + 1
  | .agg parts => uptoBulkAll parts + 1
  | .iface _ d => uptoBulk d + 1
  | .map entries => uptoBulkEntries entries + 1
  | .held _ => 1
def uptoBulkAll {H : Type} : List (DataW H) → Nat
  | [] => 0
  | d :: r => uptoBulk d + uptoBulkAll r
def uptoBulkEntries {H : Type} : List (Lit × DataW H) → Nat
  | [] => 0
  | x :: r => uptoBulkEntry x + uptoBulkEntries r
def uptoBulkEntry {H : Type} : Lit × DataW H → Nat
  | (.string bytes, d) => bytes.length + uptoBulk d + 1
  | (_, d) => uptoBulk d + 1
 end
def uptoSmall : (H : Type) → List (DataW H) → Bool := fun _ ds => decide (uptoBulkAll ds ≤ 1048576)
def OpenSpec.upto (s : _root_.Go.ChangeSpec) : _root_.Go.OpenSpec := { _root_.Go.OpenSpec.ofChange s with cond := some uptoSmall }

/-- 'scarfjointlaw24.RuleValid', WHERE WHAT IT READS IS OF BULK AT MOST 1048576: true; the input reads as it did. -/
def ruleValidUptoRow : OpenClaim := { program := "yticiiadkpddgoaagreat", sum := "9c16e5798deaf7e531c5e8c0fd9b7916444ad81de48b4eda3abfd616a37f8665", func := "scarfjoint/scarfjointlaw24.RuleValid", spec := "ruleValid", inPlace := ["internal/bytealg.IndexByteString"], unfollowed := true, recurses := true, loops := true, apart := false, narrowed := true }
def RuleValidUptoSaid : Prop := ruleValidUptoRow.holds Tryz.pinned (OpenSpec.upto ruleValidSpec)

/-- 'scarfjointlaw24.RuleInverse', WHERE WHAT IT READS IS OF BULK AT MOST 1048576: true; the input reads as it did. -/
def ruleInverseUptoRow : OpenClaim := { program := "yticiiadkpddgoaagreat", sum := "9c16e5798deaf7e531c5e8c0fd9b7916444ad81de48b4eda3abfd616a37f8665", func := "scarfjoint/scarfjointlaw24.RuleInverse", spec := "ruleInverse", inPlace := ["internal/bytealg.IndexByteString"], unfollowed := true, recurses := true, loops := true, apart := false, narrowed := true }
def RuleInverseUptoSaid : Prop := ruleInverseUptoRow.holds Tryz.pinned (OpenSpec.upto ruleInverseSpec)

/-- 'scarfjointlaw24.RuleParts', WHERE WHAT IT READS IS OF BULK AT MOST 1048576: true; the input reads as it did. -/
def rulePartsUptoRow : OpenClaim := { program := "yticiiadkpddgoaagreat", sum := "9c16e5798deaf7e531c5e8c0fd9b7916444ad81de48b4eda3abfd616a37f8665", func := "scarfjoint/scarfjointlaw24.RuleParts", spec := "ruleParts", inPlace := ["internal/bytealg.IndexByteString"], unfollowed := true, recurses := true, loops := true, apart := false, narrowed := true }
def RulePartsUptoSaid : Prop := rulePartsUptoRow.holds Tryz.pinned (OpenSpec.upto rulePartsSpec)

/-- 'scarfjointlaw24.RuleTogether', WHERE WHAT IT READS IS OF BULK AT MOST 1048576: true; the input reads as it did. -/
def ruleTogetherUptoRow : OpenClaim := { program := "yticiiadkpddgoaagreat", sum := "9c16e5798deaf7e531c5e8c0fd9b7916444ad81de48b4eda3abfd616a37f8665", func := "scarfjoint/scarfjointlaw24.RuleTogether", spec := "ruleTogether", inPlace := ["internal/bytealg.IndexByteString"], unfollowed := true, recurses := true, apart := false, narrowed := true }
def RuleTogetherUptoSaid : Prop := ruleTogetherUptoRow.holds Tryz.pinned (OpenSpec.upto ruleTogetherSpec)

/-- 'scarfjointlaw24.RulePlain', WHERE WHAT IT READS IS OF BULK AT MOST 1048576: true; the input reads as it did. -/
def rulePlainUptoRow : OpenClaim := { program := "yticiiadkpddgoaagreat", sum := "9c16e5798deaf7e531c5e8c0fd9b7916444ad81de48b4eda3abfd616a37f8665", func := "scarfjoint/scarfjointlaw24.RulePlain", spec := "rulePlain", inPlace := ["internal/bytealg.IndexByteString"], unfollowed := true, recurses := true, loops := true, apart := false, narrowed := true }
def RulePlainUptoSaid : Prop := rulePlainUptoRow.holds Tryz.pinned (OpenSpec.upto rulePlainSpec)

/-- 'scarfjointlaw24.RuleSame', WHERE WHAT IT READS IS OF BULK AT MOST 1048576: true; the input reads as it did. -/
def ruleSameUptoRow : OpenClaim := { program := "yticiiadkpddgoaagreat", sum := "9c16e5798deaf7e531c5e8c0fd9b7916444ad81de48b4eda3abfd616a37f8665", func := "scarfjoint/scarfjointlaw24.RuleSame", spec := "ruleSame", inPlace := ["internal/bytealg.IndexByteString"], unfollowed := true, recurses := true, loops := true, apart := false, narrowed := true }
def RuleSameUptoSaid : Prop := ruleSameUptoRow.holds Tryz.pinned (OpenSpec.upto ruleSameSpec)

/-- 'scarfjointlaw24.RuleTwice', WHERE WHAT IT READS IS OF BULK AT MOST 1048576: true; the input reads as it did. -/
def ruleTwiceUptoRow : OpenClaim := { program := "yticiiadkpddgoaagreat", sum := "9c16e5798deaf7e531c5e8c0fd9b7916444ad81de48b4eda3abfd616a37f8665", func := "scarfjoint/scarfjointlaw24.RuleTwice", spec := "ruleTwice", inPlace := ["internal/bytealg.IndexByteString"], unfollowed := true, recurses := true, apart := false, narrowed := true }
def RuleTwiceUptoSaid : Prop := ruleTwiceUptoRow.holds Tryz.pinned (OpenSpec.upto ruleTwiceSpec)

/-- 'scarfjointlaw24.RuleSpecialize', WHERE WHAT IT READS IS OF BULK AT MOST 1048576: true; the input reads as it did. -/
def ruleSpecializeUptoRow : OpenClaim := { program := "yticiiadkpddgoaagreat", sum := "9c16e5798deaf7e531c5e8c0fd9b7916444ad81de48b4eda3abfd616a37f8665", func := "scarfjoint/scarfjointlaw24.RuleSpecialize", spec := "ruleSpecialize", inPlace := ["internal/bytealg.IndexByteString"], unfollowed := true, recurses := true, loops := true, apart := false, narrowed := true }
def RuleSpecializeUptoSaid : Prop := ruleSpecializeUptoRow.holds Tryz.pinned (OpenSpec.upto ruleSpecializeSpec)

/-- 'scarfjointlaw24.RuleSpecial', WHERE WHAT IT READS IS OF BULK AT MOST 1048576: true; the input reads as it did. -/
def ruleSpecialUptoRow : OpenClaim := { program := "yticiiadkpddgoaagreat", sum := "9c16e5798deaf7e531c5e8c0fd9b7916444ad81de48b4eda3abfd616a37f8665", func := "scarfjoint/scarfjointlaw24.RuleSpecial", spec := "ruleSpecial", inPlace := ["internal/bytealg.IndexByteString"], unfollowed := true, recurses := true, apart := false, narrowed := true }
def RuleSpecialUptoSaid : Prop := ruleSpecialUptoRow.holds Tryz.pinned (OpenSpec.upto ruleSpecialSpec)

end Rows
end Go.Proofs.YticiiadkpddgoaaGreat
