/-
  NARROWER THAN 'FOR EVERY INPUT', by the rows' own cells (each row's printed sentence says how): ParserTrees: laid · ParserShapes: laid · ParserParts: laid · ParserWords: laid.
  DERIVED. THE GIVEN ROWS OF THIS SEAT. 4 by the template 'for every input the law returns true; each argument reads behind the call as it read before'; 0 by the template 'total and deterministic' (their statements: YtfahhgdeociahaaGreatDoorTotals.lean).
  GIVEN WITH THE SEED: the statements are not yours to turn. If you find one false, say at which input.
  Laid BY PROGRAM, IN A SANDBOX (cutbox-rows.mjs): the forced cells as the released guide's own fill.sh prints them over the translation 8bac9926f595060b… (all of the seat's roots in one cut). By AI agents, Wed Nov 11 2026. No macro, syntax, notation, axiom, sorry.
-/
import Derived.Test.YtfahhgdeociahaaGreatDoorChecked
import GoSem.PinnedTables
import GoSem.Claim
import GoSem.ClaimJoined
import GoSem.ClaimMapViews
import Derived.JoinedTies
import Derived.KernelRfl
namespace Go.Proofs.YtfahhgdeociahaaGreatDoor
/- THE CELL 'sum', in the pinned program and in every row, IS THE sha256 OF THE DUMP (.gsa) THAT YtfahhgdeociahaaGreatDoorProg.lean LOADS. Nothing in Lean hashes anything: it is a label: what it is worth is what the hold of that sum in a sandbox is worth. -/
noncomputable def Tryz.pinned : Pinned := { name := "ytfahhgdeociahaagreatdoor", sum := "8bac9926f595060b62f33f430a6ba4c087047c1726587bb764e7e764a924a0a3", checked := Tryz.checked }
namespace Rows
def none {H : Type} : Left H := { results := [], args := [] }

/- WHAT THE LISTED PACKAGE-LEVEL VARIABLES READ AS WHEN THE CALL BEGINS. Each datum BY PROGRAM (the guide's laid-datum.mjs) off the statement by which the dump's own 'gosem.cut.vars' lays the variable. In a bare row this is a premise. The card (YtfahhgdeociahaaGreatDoorCards.lean) ties it to the program's text. -/
def laid_unicode_utf8_acceptRanges {H : Type} : DataW H := .agg [.agg [.lit (.int .u8 128), .lit (.int .u8 191)], .agg [.lit (.int .u8 160), .lit (.int .u8 191)], .agg [.lit (.int .u8 128), .lit (.int .u8 159)], .agg [.lit (.int .u8 144), .lit (.int .u8 191)], .agg [.lit (.int .u8 128), .lit (.int .u8 143)], .agg [.lit (.int .u8 0), .lit (.int .u8 0)], .agg [.lit (.int .u8 0), .lit (.int .u8 0)], .agg [.lit (.int .u8 0), .lit (.int .u8 0)], .agg [.lit (.int .u8 0), .lit (.int .u8 0)], .agg [.lit (.int .u8 0), .lit (.int .u8 0)], .agg [.lit (.int .u8 0), .lit (.int .u8 0)], .agg [.lit (.int .u8 0), .lit (.int .u8 0)], .agg [.lit (.int .u8 0), .lit (.int .u8 0)], .agg [.lit (.int .u8 0), .lit (.int .u8 0)], .agg [.lit (.int .u8 0), .lit (.int .u8 0)], .agg [.lit (.int .u8 0), .lit (.int .u8 0)]]
/-- One of Go's own tables, pinned by name: the form's constant. -/
def laid_unicode_utf8_first : DataW Unit := Go.Pinned.utf8First

/-- 'assessorlaw04.ParserTrees': WHATEVER THE INPUT: true; the input reads as it did. -/
def parserTreesSpec : ChangeSpec := { name := "parserTrees", fn := fun _ => fun
  | [d] => { results := [.lit (.bool true)], args := [d] }
  | _ => none }
def parserTreesRow : OpenClaim := { program := "ytfahhgdeociahaagreatdoor", sum := "8bac9926f595060b62f33f430a6ba4c087047c1726587bb764e7e764a924a0a3", func := "assessor/assessorlaw04.ParserTrees", spec := "parserTrees", inPlace := ["internal/bytealg.IndexByteString", "internal/bytealg.IndexString"], unfollowed := true, recurses := true, named := ["unicode/utf8.first", "unicode/utf8.acceptRanges", "internal/bytealg.MaxLen"], apart := false, laid := [("unicode/utf8.acceptRanges", laid_unicode_utf8_acceptRanges), ("unicode/utf8.first", laid_unicode_utf8_first)] }
def ParserTreesSaid : Prop := parserTreesRow.holds Tryz.pinned (OpenSpec.ofChange parserTreesSpec)

/-- ITS FALSE NEIGHBOUR: 'it returns false'. Refute it at one input. -/
def parserTreesWrong : ChangeSpec := { name := "parserTrees", fn := fun _ => fun
  | [d] => { results := [.lit (.bool false)], args := [d] }
  | _ => none }
def ParserTreesWrongFalsely : Prop := parserTreesRow.holds Tryz.pinned (OpenSpec.ofChange parserTreesWrong)

/-- 'assessorlaw04.ParserShapes': WHATEVER THE INPUT: true; the input reads as it did. -/
def parserShapesSpec : ChangeSpec := { name := "parserShapes", fn := fun _ => fun
  | [d] => { results := [.lit (.bool true)], args := [d] }
  | _ => none }
def parserShapesRow : OpenClaim := { program := "ytfahhgdeociahaagreatdoor", sum := "8bac9926f595060b62f33f430a6ba4c087047c1726587bb764e7e764a924a0a3", func := "assessor/assessorlaw04.ParserShapes", spec := "parserShapes", inPlace := ["internal/bytealg.IndexByteString", "internal/bytealg.IndexString"], unfollowed := true, recurses := true, named := ["unicode/utf8.first", "unicode/utf8.acceptRanges", "internal/bytealg.MaxLen"], apart := false, laid := [("unicode/utf8.acceptRanges", laid_unicode_utf8_acceptRanges), ("unicode/utf8.first", laid_unicode_utf8_first)] }
def ParserShapesSaid : Prop := parserShapesRow.holds Tryz.pinned (OpenSpec.ofChange parserShapesSpec)

/-- ITS FALSE NEIGHBOUR: 'it returns false'. Refute it at one input. -/
def parserShapesWrong : ChangeSpec := { name := "parserShapes", fn := fun _ => fun
  | [d] => { results := [.lit (.bool false)], args := [d] }
  | _ => none }
def ParserShapesWrongFalsely : Prop := parserShapesRow.holds Tryz.pinned (OpenSpec.ofChange parserShapesWrong)

/-- 'assessorlaw04.ParserParts': WHATEVER THE INPUT: true; the input reads as it did. -/
def parserPartsSpec : ChangeSpec := { name := "parserParts", fn := fun _ => fun
  | [d] => { results := [.lit (.bool true)], args := [d] }
  | _ => none }
def parserPartsRow : OpenClaim := { program := "ytfahhgdeociahaagreatdoor", sum := "8bac9926f595060b62f33f430a6ba4c087047c1726587bb764e7e764a924a0a3", func := "assessor/assessorlaw04.ParserParts", spec := "parserParts", inPlace := ["internal/bytealg.IndexByteString", "internal/bytealg.IndexString"], unfollowed := true, recurses := true, named := ["unicode/utf8.first", "unicode/utf8.acceptRanges", "internal/bytealg.MaxLen"], apart := false, laid := [("unicode/utf8.acceptRanges", laid_unicode_utf8_acceptRanges), ("unicode/utf8.first", laid_unicode_utf8_first)] }
def ParserPartsSaid : Prop := parserPartsRow.holds Tryz.pinned (OpenSpec.ofChange parserPartsSpec)

/-- ITS FALSE NEIGHBOUR: 'it returns false'. Refute it at one input. -/
def parserPartsWrong : ChangeSpec := { name := "parserParts", fn := fun _ => fun
  | [d] => { results := [.lit (.bool false)], args := [d] }
  | _ => none }
def ParserPartsWrongFalsely : Prop := parserPartsRow.holds Tryz.pinned (OpenSpec.ofChange parserPartsWrong)

/-- 'assessorlaw04.ParserWords': WHATEVER THE INPUT: true; the input reads as it did. -/
def parserWordsSpec : ChangeSpec := { name := "parserWords", fn := fun _ => fun
  | [d] => { results := [.lit (.bool true)], args := [d] }
  | _ => none }
def parserWordsRow : OpenClaim := { program := "ytfahhgdeociahaagreatdoor", sum := "8bac9926f595060b62f33f430a6ba4c087047c1726587bb764e7e764a924a0a3", func := "assessor/assessorlaw04.ParserWords", spec := "parserWords", inPlace := ["internal/bytealg.IndexByteString", "internal/bytealg.IndexString", "internal/abi.NoEscape", "internal/bytealg.MakeNoZero"], unfollowed := true, recurses := true, named := ["unicode/utf8.first", "unicode/utf8.acceptRanges", "internal/bytealg.MaxLen"], apart := false, laid := [("unicode/utf8.acceptRanges", laid_unicode_utf8_acceptRanges), ("unicode/utf8.first", laid_unicode_utf8_first)] }
def ParserWordsSaid : Prop := parserWordsRow.holds Tryz.pinned (OpenSpec.ofChange parserWordsSpec)

/-- ITS FALSE NEIGHBOUR: 'it returns false'. Refute it at one input. -/
def parserWordsWrong : ChangeSpec := { name := "parserWords", fn := fun _ => fun
  | [d] => { results := [.lit (.bool false)], args := [d] }
  | _ => none }
def ParserWordsWrongFalsely : Prop := parserWordsRow.holds Tryz.pinned (OpenSpec.ofChange parserWordsWrong)

/- THE SECOND FORM. 'bulk': how many values and letters a reading holds, each counted each time it is reached (what is shared counts as often as it is met; a slice's spare places count too). A statement '..UptoSaid' is the law's where the arguments, and the package variables that the reading takes, are together of bulk at most 1048576: NARROWER than '..Said'. Prove '..Said' where nothing that the law and all that it calls make is longer than what came in: it says more and counts as full. Else prove '..UptoSaid'. A law counts once. -/
mutual
def uptoBulk {H : Type} : DataW H → Nat
  | .lit (.string bytes) => bytes.length + 1
  | .lit _ => 1
  | .nil => 1
  | .ptr d => uptoBulk d + 1
  | .slice elems spare => uptoBulkAll elems + uptoBulkAll spare + 1
  | .agg parts => uptoBulkAll parts + 1
  | .iface _ d => uptoBulk d + 1
  | .map entries => uptoBulkEntries entries + 1
  | .held _ => 1
def uptoBulkAll {H : Type} : List (DataW H) → Nat
  | [] => 0
  | d :: r => uptoBulk d + uptoBulkAll r
def uptoBulkEntries {H : Type} : List (Lit × DataW H) → Nat
  | [] => 0
  | x :: r => uptoBulkEntry x + uptoBulkEntries r
def uptoBulkEntry {H : Type} : Lit × DataW H → Nat
  | (.string bytes, d) => bytes.length + uptoBulk d + 1
  | (_, d) => uptoBulk d + 1
 end
def uptoSmall : (H : Type) → List (DataW H) → Bool := fun _ ds => decide (uptoBulkAll ds ≤ 1048576)
def OpenSpec.upto (s : _root_.Go.ChangeSpec) : _root_.Go.OpenSpec := { _root_.Go.OpenSpec.ofChange s with cond := some uptoSmall }

/-- 'assessorlaw04.ParserTrees', WHERE WHAT IT READS IS OF BULK AT MOST 1048576: true; the input reads as it did. -/
def parserTreesUptoRow : OpenClaim := { program := "ytfahhgdeociahaagreatdoor", sum := "8bac9926f595060b62f33f430a6ba4c087047c1726587bb764e7e764a924a0a3", func := "assessor/assessorlaw04.ParserTrees", spec := "parserTrees", inPlace := ["internal/bytealg.IndexByteString", "internal/bytealg.IndexString"], unfollowed := true, recurses := true, named := ["unicode/utf8.first", "unicode/utf8.acceptRanges", "internal/bytealg.MaxLen"], apart := false, laid := [("unicode/utf8.acceptRanges", laid_unicode_utf8_acceptRanges), ("unicode/utf8.first", laid_unicode_utf8_first)], narrowed := true }
def ParserTreesUptoSaid : Prop := parserTreesUptoRow.holds Tryz.pinned (OpenSpec.upto parserTreesSpec)

/-- 'assessorlaw04.ParserShapes', WHERE WHAT IT READS IS OF BULK AT MOST 1048576: true; the input reads as it did. -/
def parserShapesUptoRow : OpenClaim := { program := "ytfahhgdeociahaagreatdoor", sum := "8bac9926f595060b62f33f430a6ba4c087047c1726587bb764e7e764a924a0a3", func := "assessor/assessorlaw04.ParserShapes", spec := "parserShapes", inPlace := ["internal/bytealg.IndexByteString", "internal/bytealg.IndexString"], unfollowed := true, recurses := true, named := ["unicode/utf8.first", "unicode/utf8.acceptRanges", "internal/bytealg.MaxLen"], apart := false, laid := [("unicode/utf8.acceptRanges", laid_unicode_utf8_acceptRanges), ("unicode/utf8.first", laid_unicode_utf8_first)], narrowed := true }
def ParserShapesUptoSaid : Prop := parserShapesUptoRow.holds Tryz.pinned (OpenSpec.upto parserShapesSpec)

/-- 'assessorlaw04.ParserParts', WHERE WHAT IT READS IS OF BULK AT MOST 1048576: true; the input reads as it did. -/
def parserPartsUptoRow : OpenClaim := { program := "ytfahhgdeociahaagreatdoor", sum := "8bac9926f595060b62f33f430a6ba4c087047c1726587bb764e7e764a924a0a3", func := "assessor/assessorlaw04.ParserParts", spec := "parserParts", inPlace := ["internal/bytealg.IndexByteString", "internal/bytealg.IndexString"], unfollowed := true, recurses := true, named := ["unicode/utf8.first", "unicode/utf8.acceptRanges", "internal/bytealg.MaxLen"], apart := false, laid := [("unicode/utf8.acceptRanges", laid_unicode_utf8_acceptRanges), ("unicode/utf8.first", laid_unicode_utf8_first)], narrowed := true }
def ParserPartsUptoSaid : Prop := parserPartsUptoRow.holds Tryz.pinned (OpenSpec.upto parserPartsSpec)

/-- 'assessorlaw04.ParserWords', WHERE WHAT IT READS IS OF BULK AT MOST 1048576: true; the input reads as it did. -/
def parserWordsUptoRow : OpenClaim := { program := "ytfahhgdeociahaagreatdoor", sum := "8bac9926f595060b62f33f430a6ba4c087047c1726587bb764e7e764a924a0a3", func := "assessor/assessorlaw04.ParserWords", spec := "parserWords", inPlace := ["internal/bytealg.IndexByteString", "internal/bytealg.IndexString", "internal/abi.NoEscape", "internal/bytealg.MakeNoZero"], unfollowed := true, recurses := true, named := ["unicode/utf8.first", "unicode/utf8.acceptRanges", "internal/bytealg.MaxLen"], apart := false, laid := [("unicode/utf8.acceptRanges", laid_unicode_utf8_acceptRanges), ("unicode/utf8.first", laid_unicode_utf8_first)], narrowed := true }
def ParserWordsUptoSaid : Prop := parserWordsUptoRow.holds Tryz.pinned (OpenSpec.upto parserWordsSpec)

end Rows
end Go.Proofs.YtfahhgdeociahaaGreatDoor
