/-
  NARROWER THAN 'FOR EVERY INPUT', by the rows' own cells (each row's printed sentence says how): PrinterLevels: loops · PrinterReads: loops · PrinterExpressions: loops · PrinterMinimal: loops · PrinterTexts: loops.
  DERIVED. THE GIVEN ROWS OF THIS SEAT. 5 by the template 'for every input the law returns true; each argument reads behind the call as it read before'; 0 by the template 'total and deterministic' (their statements: YthpnmmdobbhfkaaGreatTotals.lean).
  GIVEN WITH THE SEED: the statements are not yours to turn. If you find one false, say at which input.
  Laid BY PROGRAM, IN A SANDBOX (cutbox-rows.mjs): the forced cells as the released guide's own fill.sh prints them over the translation c93b9eca3de01c4f… (all of the seat's roots in one cut). By AI agents, Wed Nov 11 2026. No macro, syntax, notation, axiom, sorry.
-/
import Derived.Test.YthpnmmdobbhfkaaGreatChecked
import GoSem.Claim
import GoSem.ClaimJoined
import GoSem.ClaimMapViews
import Derived.JoinedTies
import Derived.KernelRfl
namespace Go.Proofs.YthpnmmdobbhfkaaGreat
/- THE CELL 'sum', in the pinned program and in every row, IS THE sha256 OF THE DUMP (.gsa) THAT YthpnmmdobbhfkaaGreatProg.lean LOADS. Nothing in Lean hashes anything: it is a label: what it is worth is what the hold of that sum in a sandbox is worth. -/
noncomputable def Tryz.pinned : Pinned := { name := "ythpnmmdobbhfkaagreat", sum := "c93b9eca3de01c4f681b216a435793b4a49068a22ffafa021b70389994d7471b", checked := Tryz.checked }
namespace Rows
def none {H : Type} : Left H := { results := [], args := [] }

/-- 'assessorlaw05.PrinterLevels': WHATEVER THE INPUT: true; the input reads as it did. -/
def printerLevelsSpec : ChangeSpec := { name := "printerLevels", fn := fun _ => fun
  | [d1, d2, d3] => { results := [.lit (.bool true)], args := [d1, d2, d3] }
  | _ => none }
def printerLevelsRow : OpenClaim := { program := "ythpnmmdobbhfkaagreat", sum := "c93b9eca3de01c4f681b216a435793b4a49068a22ffafa021b70389994d7471b", func := "assessor/assessorlaw05.PrinterLevels", spec := "printerLevels", inPlace := ["internal/abi.NoEscape", "internal/bytealg.MakeNoZero"], unfollowed := true, recurses := true, loops := true, apart := false }
def PrinterLevelsSaid : Prop := printerLevelsRow.holds Tryz.pinned (OpenSpec.ofChange printerLevelsSpec)

/-- ITS FALSE NEIGHBOUR: 'it returns false'. Refute it at one input. -/
def printerLevelsWrong : ChangeSpec := { name := "printerLevels", fn := fun _ => fun
  | [d1, d2, d3] => { results := [.lit (.bool false)], args := [d1, d2, d3] }
  | _ => none }
def PrinterLevelsWrongFalsely : Prop := printerLevelsRow.holds Tryz.pinned (OpenSpec.ofChange printerLevelsWrong)

/-- 'assessorlaw05.PrinterReads': WHATEVER THE INPUT: true; the input reads as it did. -/
def printerReadsSpec : ChangeSpec := { name := "printerReads", fn := fun _ => fun
  | [d] => { results := [.lit (.bool true)], args := [d] }
  | _ => none }
def printerReadsRow : OpenClaim := { program := "ythpnmmdobbhfkaagreat", sum := "c93b9eca3de01c4f681b216a435793b4a49068a22ffafa021b70389994d7471b", func := "assessor/assessorlaw05.PrinterReads", spec := "printerReads", inPlace := ["internal/abi.NoEscape", "internal/bytealg.MakeNoZero"], unfollowed := true, recurses := true, loops := true, apart := false }
def PrinterReadsSaid : Prop := printerReadsRow.holds Tryz.pinned (OpenSpec.ofChange printerReadsSpec)

/-- ITS FALSE NEIGHBOUR: 'it returns false'. Refute it at one input. -/
def printerReadsWrong : ChangeSpec := { name := "printerReads", fn := fun _ => fun
  | [d] => { results := [.lit (.bool false)], args := [d] }
  | _ => none }
def PrinterReadsWrongFalsely : Prop := printerReadsRow.holds Tryz.pinned (OpenSpec.ofChange printerReadsWrong)

/-- 'assessorlaw05.PrinterExpressions': WHATEVER THE INPUT: true; the input reads as it did. -/
def printerExpressionsSpec : ChangeSpec := { name := "printerExpressions", fn := fun _ => fun
  | [d1, d2] => { results := [.lit (.bool true)], args := [d1, d2] }
  | _ => none }
def printerExpressionsRow : OpenClaim := { program := "ythpnmmdobbhfkaagreat", sum := "c93b9eca3de01c4f681b216a435793b4a49068a22ffafa021b70389994d7471b", func := "assessor/assessorlaw05.PrinterExpressions", spec := "printerExpressions", inPlace := ["internal/abi.NoEscape", "internal/bytealg.MakeNoZero"], unfollowed := true, recurses := true, loops := true, apart := false }
def PrinterExpressionsSaid : Prop := printerExpressionsRow.holds Tryz.pinned (OpenSpec.ofChange printerExpressionsSpec)

/-- ITS FALSE NEIGHBOUR: 'it returns false'. Refute it at one input. -/
def printerExpressionsWrong : ChangeSpec := { name := "printerExpressions", fn := fun _ => fun
  | [d1, d2] => { results := [.lit (.bool false)], args := [d1, d2] }
  | _ => none }
def PrinterExpressionsWrongFalsely : Prop := printerExpressionsRow.holds Tryz.pinned (OpenSpec.ofChange printerExpressionsWrong)

/-- 'assessorlaw05.PrinterMinimal': WHATEVER THE INPUT: true; the input reads as it did. -/
def printerMinimalSpec : ChangeSpec := { name := "printerMinimal", fn := fun _ => fun
  | [d] => { results := [.lit (.bool true)], args := [d] }
  | _ => none }
def printerMinimalRow : OpenClaim := { program := "ythpnmmdobbhfkaagreat", sum := "c93b9eca3de01c4f681b216a435793b4a49068a22ffafa021b70389994d7471b", func := "assessor/assessorlaw05.PrinterMinimal", spec := "printerMinimal", inPlace := ["internal/abi.NoEscape", "internal/bytealg.MakeNoZero"], unfollowed := true, recurses := true, loops := true, apart := false }
def PrinterMinimalSaid : Prop := printerMinimalRow.holds Tryz.pinned (OpenSpec.ofChange printerMinimalSpec)

/-- ITS FALSE NEIGHBOUR: 'it returns false'. Refute it at one input. -/
def printerMinimalWrong : ChangeSpec := { name := "printerMinimal", fn := fun _ => fun
  | [d] => { results := [.lit (.bool false)], args := [d] }
  | _ => none }
def PrinterMinimalWrongFalsely : Prop := printerMinimalRow.holds Tryz.pinned (OpenSpec.ofChange printerMinimalWrong)

/-- 'assessorlaw05.PrinterTexts': WHATEVER THE INPUT: true; the input reads as it did. -/
def printerTextsSpec : ChangeSpec := { name := "printerTexts", fn := fun _ => fun
  | [d1, d2] => { results := [.lit (.bool true)], args := [d1, d2] }
  | _ => none }
def printerTextsRow : OpenClaim := { program := "ythpnmmdobbhfkaagreat", sum := "c93b9eca3de01c4f681b216a435793b4a49068a22ffafa021b70389994d7471b", func := "assessor/assessorlaw05.PrinterTexts", spec := "printerTexts", inPlace := ["internal/abi.NoEscape", "internal/bytealg.MakeNoZero"], unfollowed := true, recurses := true, loops := true, apart := false }
def PrinterTextsSaid : Prop := printerTextsRow.holds Tryz.pinned (OpenSpec.ofChange printerTextsSpec)

/-- ITS FALSE NEIGHBOUR: 'it returns false'. Refute it at one input. -/
def printerTextsWrong : ChangeSpec := { name := "printerTexts", fn := fun _ => fun
  | [d1, d2] => { results := [.lit (.bool false)], args := [d1, d2] }
  | _ => none }
def PrinterTextsWrongFalsely : Prop := printerTextsRow.holds Tryz.pinned (OpenSpec.ofChange printerTextsWrong)

/- THE SECOND FORM. 'bulk': how many values and letters a reading holds, each counted each time it is reached (what is shared counts as often as it is met; a slice's spare places count too). A statement '..UptoSaid' is the law's where the arguments, and the package variables that the reading takes, are together of bulk at most 1048576: NARROWER than '..Said'. Prove '..Said' where nothing that the law and all that it calls make is longer than what came in: it says more and counts as full. Else prove '..UptoSaid'. A law counts once. -/
mutual
def uptoBulk {H : Type} : DataW H → Nat
  | .lit (.string bytes) => bytes.length + 1
  | .lit _ => 1
  | .nil => 1
  | .ptr d => uptoBulk d + 1
  | .slice elems spare => uptoBulkAll elems + uptoBulkAll spare + 1
  | .agg parts => uptoBulkAll parts + 1
  | .iface _ d => uptoBulk d + 1
  | .map entries => uptoBulkEntries entries + 1
  | .held _ => 1
def uptoBulkAll {H : Type} : List (DataW H) → Nat
  | [] => 0
  | d :: r => uptoBulk d + uptoBulkAll r
def uptoBulkEntries {H : Type} : List (Lit × DataW H) → Nat
  | [] => 0
  | x :: r => uptoBulkEntry x + uptoBulkEntries r
def uptoBulkEntry {H : Type} : Lit × DataW H → Nat
  | (.string bytes, d) => bytes.length + uptoBulk d + 1
  | (_, d) => uptoBulk d + 1
 end
def uptoSmall : (H : Type) → List (DataW H) → Bool := fun _ ds => decide (uptoBulkAll ds ≤ 1048576)
def OpenSpec.upto (s : _root_.Go.ChangeSpec) : _root_.Go.OpenSpec := { _root_.Go.OpenSpec.ofChange s with cond := some uptoSmall }

/-- 'assessorlaw05.PrinterLevels', WHERE WHAT IT READS IS OF BULK AT MOST 1048576: true; the input reads as it did. -/
def printerLevelsUptoRow : OpenClaim := { program := "ythpnmmdobbhfkaagreat", sum := "c93b9eca3de01c4f681b216a435793b4a49068a22ffafa021b70389994d7471b", func := "assessor/assessorlaw05.PrinterLevels", spec := "printerLevels", inPlace := ["internal/abi.NoEscape", "internal/bytealg.MakeNoZero"], unfollowed := true, recurses := true, loops := true, apart := false, narrowed := true }
def PrinterLevelsUptoSaid : Prop := printerLevelsUptoRow.holds Tryz.pinned (OpenSpec.upto printerLevelsSpec)

/-- 'assessorlaw05.PrinterReads', WHERE WHAT IT READS IS OF BULK AT MOST 1048576: true; the input reads as it did. -/
def printerReadsUptoRow : OpenClaim := { program := "ythpnmmdobbhfkaagreat", sum := "c93b9eca3de01c4f681b216a435793b4a49068a22ffafa021b70389994d7471b", func := "assessor/assessorlaw05.PrinterReads", spec := "printerReads", inPlace := ["internal/abi.NoEscape", "internal/bytealg.MakeNoZero"], unfollowed := true, recurses := true, loops := true, apart := false, narrowed := true }
def PrinterReadsUptoSaid : Prop := printerReadsUptoRow.holds Tryz.pinned (OpenSpec.upto printerReadsSpec)

/-- 'assessorlaw05.PrinterExpressions', WHERE WHAT IT READS IS OF BULK AT MOST 1048576: true; the input reads as it did. -/
def printerExpressionsUptoRow : OpenClaim := { program := "ythpnmmdobbhfkaagreat", sum := "c93b9eca3de01c4f681b216a435793b4a49068a22ffafa021b70389994d7471b", func := "assessor/assessorlaw05.PrinterExpressions", spec := "printerExpressions", inPlace := ["internal/abi.NoEscape", "internal/bytealg.MakeNoZero"], unfollowed := true, recurses := true, loops := true, apart := false, narrowed := true }
def PrinterExpressionsUptoSaid : Prop := printerExpressionsUptoRow.holds Tryz.pinned (OpenSpec.upto printerExpressionsSpec)

/-- 'assessorlaw05.PrinterMinimal', WHERE WHAT IT READS IS OF BULK AT MOST 1048576: true; the input reads as it did. -/
def printerMinimalUptoRow : OpenClaim := { program := "ythpnmmdobbhfkaagreat", sum := "c93b9eca3de01c4f681b216a435793b4a49068a22ffafa021b70389994d7471b", func := "assessor/assessorlaw05.PrinterMinimal", spec := "printerMinimal", inPlace := ["internal/abi.NoEscape", "internal/bytealg.MakeNoZero"], unfollowed := true, recurses := true, loops := true, apart := false, narrowed := true }
def PrinterMinimalUptoSaid : Prop := printerMinimalUptoRow.holds Tryz.pinned (OpenSpec.upto printerMinimalSpec)

/-- 'assessorlaw05.PrinterTexts', WHERE WHAT IT READS IS OF BULK AT MOST 1048576: true; the input reads as it did. -/
def printerTextsUptoRow : OpenClaim := { program := "ythpnmmdobbhfkaagreat", sum := "c93b9eca3de01c4f681b216a435793b4a49068a22ffafa021b70389994d7471b", func := "assessor/assessorlaw05.PrinterTexts", spec := "printerTexts", inPlace := ["internal/abi.NoEscape", "internal/bytealg.MakeNoZero"], unfollowed := true, recurses := true, loops := true, apart := false, narrowed := true }
def PrinterTextsUptoSaid : Prop := printerTextsUptoRow.holds Tryz.pinned (OpenSpec.upto printerTextsSpec)

end Rows
end Go.Proofs.YthpnmmdobbhfkaaGreat
