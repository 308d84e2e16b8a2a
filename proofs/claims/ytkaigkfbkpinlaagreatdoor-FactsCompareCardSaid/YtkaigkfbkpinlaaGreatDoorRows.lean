/-
  NARROWER THAN 'FOR EVERY INPUT', by the rows' own cells (each row's printed sentence says how): FactsCheck: laid · FactsCompare: laid · FactsClone: laid · LoansMatchReference: laid · LoansEquations: laid · LoansWitness: laid · LoansMonotone: laid.
  DERIVED. THE GIVEN ROWS OF THIS SEAT. 7 by the template 'for every input the law returns true; each argument reads behind the call as it read before'; 0 by the template 'total and deterministic' (their statements: YtkaigkfbkpinlaaGreatDoorTotals.lean).
  GIVEN WITH THE SEED: the statements are not yours to turn. If you find one false, say at which input.
  Laid BY PROGRAM, IN A SANDBOX (cutbox-rows.mjs): the forced cells as the released guide's own fill.sh prints them over the translation 545b0d17667688f4… (all of the seat's roots in one cut). By AI agents, Wed Nov 11 2026. No macro, syntax, notation, axiom, sorry.
-/
import Derived.Test.YtkaigkfbkpinlaaGreatDoorChecked
import GoSem.PinnedTables
import GoSem.Claim
import GoSem.ClaimJoined
import GoSem.ClaimMapViews
import Derived.JoinedTies
import Derived.KernelRfl
namespace Go.Proofs.YtkaigkfbkpinlaaGreatDoor
/- THE CELL 'sum', in the pinned program and in every row, IS THE sha256 OF THE DUMP (.gsa) THAT YtkaigkfbkpinlaaGreatDoorProg.lean LOADS. Nothing in Lean hashes anything: it is a label: what it is worth is what the hold of that sum in a sandbox is worth. -/
noncomputable def Tryz.pinned : Pinned := { name := "ytkaigkfbkpinlaagreatdoor", sum := "545b0d17667688f455a0b0d6e9a7c51c43664d3bf539ee5622c749c1373bafeb", checked := Tryz.checked }
namespace Rows
def none {H : Type} : Left H := { results := [], args := [] }

/- WHAT THE LISTED PACKAGE-LEVEL VARIABLES READ AS WHEN THE CALL BEGINS. Each datum BY PROGRAM (the guide's laid-datum.mjs) off the statement by which the dump's own 'gosem.cut.vars' lays the variable. In a bare row this is a premise. The card (YtkaigkfbkpinlaaGreatDoorCards.lean) ties it to the program's text. -/
def laid_unicode_utf8_acceptRanges {H : Type} : DataW H := .agg [.agg [.lit (.int .u8 128), .lit (.int .u8 191)], .agg [.lit (.int .u8 160), .lit (.int .u8 191)], .agg [.lit (.int .u8 128), .lit (.int .u8 159)], .agg [.lit (.int .u8 144), .lit (.int .u8 191)], .agg [.lit (.int .u8 128), .lit (.int .u8 143)], .agg [.lit (.int .u8 0), .lit (.int .u8 0)], .agg [.lit (.int .u8 0), .lit (.int .u8 0)], .agg [.lit (.int .u8 0), .lit (.int .u8 0)], .agg [.lit (.int .u8 0), .lit (.int .u8 0)], .agg [.lit (.int .u8 0), .lit (.int .u8 0)], .agg [.lit (.int .u8 0), .lit (.int .u8 0)], .agg [.lit (.int .u8 0), .lit (.int .u8 0)], .agg [.lit (.int .u8 0), .lit (.int .u8 0)], .agg [.lit (.int .u8 0), .lit (.int .u8 0)], .agg [.lit (.int .u8 0), .lit (.int .u8 0)], .agg [.lit (.int .u8 0), .lit (.int .u8 0)]]
def laid_mirtower_valid_unary {H : Type} : DataW H := .agg [.agg [.lit (.int .i64 2), .lit (.int .i64 2)], .agg [.lit (.int .i64 1), .lit (.int .i64 1)]]
def laid_mirtower_valid_binary {H : Type} : DataW H := .agg [.agg [.lit (.int .i64 2), .lit (.int .i64 2)], .agg [.lit (.int .i64 2), .lit (.int .i64 2)], .agg [.lit (.int .i64 2), .lit (.int .i64 2)], .agg [.lit (.int .i64 2), .lit (.int .i64 1)], .agg [.lit (.int .i64 2), .lit (.int .i64 1)], .agg [.lit (.int .i64 1), .lit (.int .i64 1)]]
/-- One of Go's own tables, pinned by name: the form's constant. -/
def laid_unicode_utf8_first : DataW Unit := Go.Pinned.utf8First

/-- 'mirtowerlaw14.FactsCheck': WHATEVER THE INPUT: true; the input reads as it did. -/
def factsCheckSpec : ChangeSpec := { name := "factsCheck", fn := fun _ => fun
  | [d1, d2, d3] => { results := [.lit (.bool true)], args := [d1, d2, d3] }
  | _ => none }
def factsCheckRow : OpenClaim := { program := "ytkaigkfbkpinlaagreatdoor", sum := "545b0d17667688f455a0b0d6e9a7c51c43664d3bf539ee5622c749c1373bafeb", func := "mirtower/mirtowerlaw14.FactsCheck", spec := "factsCheck", inPlace := ["internal/bytealg.IndexByteString", "internal/bytealg.IndexString"], unfollowed := true, recurses := true, named := ["unicode/utf8.first", "unicode/utf8.acceptRanges", "mirtower/valid.unary", "mirtower/valid.binary", "internal/bytealg.MaxLen"], plainKeys := false, apart := false, laid := [("unicode/utf8.acceptRanges", laid_unicode_utf8_acceptRanges), ("mirtower/valid.unary", laid_mirtower_valid_unary), ("mirtower/valid.binary", laid_mirtower_valid_binary), ("unicode/utf8.first", laid_unicode_utf8_first)] }
def FactsCheckSaid : Prop := factsCheckRow.holds Tryz.pinned (OpenSpec.ofChange factsCheckSpec)

/-- ITS FALSE NEIGHBOUR: 'it returns false'. Refute it at one input. -/
def factsCheckWrong : ChangeSpec := { name := "factsCheck", fn := fun _ => fun
  | [d1, d2, d3] => { results := [.lit (.bool false)], args := [d1, d2, d3] }
  | _ => none }
def FactsCheckWrongFalsely : Prop := factsCheckRow.holds Tryz.pinned (OpenSpec.ofChange factsCheckWrong)

/-- 'mirtowerlaw14.FactsCompare': WHATEVER THE INPUT: true; the input reads as it did. -/
def factsCompareSpec : ChangeSpec := { name := "factsCompare", fn := fun _ => fun
  | [d1, d2] => { results := [.lit (.bool true)], args := [d1, d2] }
  | _ => none }
def factsCompareRow : OpenClaim := { program := "ytkaigkfbkpinlaagreatdoor", sum := "545b0d17667688f455a0b0d6e9a7c51c43664d3bf539ee5622c749c1373bafeb", func := "mirtower/mirtowerlaw14.FactsCompare", spec := "factsCompare", inPlace := ["internal/bytealg.IndexByteString", "internal/bytealg.IndexString"], unfollowed := true, recurses := true, named := ["unicode/utf8.first", "unicode/utf8.acceptRanges", "mirtower/valid.unary", "mirtower/valid.binary", "internal/bytealg.MaxLen"], plainKeys := false, apart := false, laid := [("unicode/utf8.acceptRanges", laid_unicode_utf8_acceptRanges), ("mirtower/valid.unary", laid_mirtower_valid_unary), ("mirtower/valid.binary", laid_mirtower_valid_binary), ("unicode/utf8.first", laid_unicode_utf8_first)] }
def FactsCompareSaid : Prop := factsCompareRow.holds Tryz.pinned (OpenSpec.ofChange factsCompareSpec)

/-- ITS FALSE NEIGHBOUR: 'it returns false'. Refute it at one input. -/
def factsCompareWrong : ChangeSpec := { name := "factsCompare", fn := fun _ => fun
  | [d1, d2] => { results := [.lit (.bool false)], args := [d1, d2] }
  | _ => none }
def FactsCompareWrongFalsely : Prop := factsCompareRow.holds Tryz.pinned (OpenSpec.ofChange factsCompareWrong)

/-- 'mirtowerlaw14.FactsClone': WHATEVER THE INPUT: true; the input reads as it did. -/
def factsCloneSpec : ChangeSpec := { name := "factsClone", fn := fun _ => fun
  | [d] => { results := [.lit (.bool true)], args := [d] }
  | _ => none }
def factsCloneRow : OpenClaim := { program := "ytkaigkfbkpinlaagreatdoor", sum := "545b0d17667688f455a0b0d6e9a7c51c43664d3bf539ee5622c749c1373bafeb", func := "mirtower/mirtowerlaw14.FactsClone", spec := "factsClone", inPlace := ["internal/bytealg.IndexByteString", "internal/bytealg.IndexString"], unfollowed := true, recurses := true, named := ["unicode/utf8.first", "unicode/utf8.acceptRanges", "mirtower/valid.unary", "mirtower/valid.binary", "internal/bytealg.MaxLen"], plainKeys := false, apart := false, laid := [("unicode/utf8.acceptRanges", laid_unicode_utf8_acceptRanges), ("mirtower/valid.unary", laid_mirtower_valid_unary), ("mirtower/valid.binary", laid_mirtower_valid_binary), ("unicode/utf8.first", laid_unicode_utf8_first)] }
def FactsCloneSaid : Prop := factsCloneRow.holds Tryz.pinned (OpenSpec.ofChange factsCloneSpec)

/-- ITS FALSE NEIGHBOUR: 'it returns false'. Refute it at one input. -/
def factsCloneWrong : ChangeSpec := { name := "factsClone", fn := fun _ => fun
  | [d] => { results := [.lit (.bool false)], args := [d] }
  | _ => none }
def FactsCloneWrongFalsely : Prop := factsCloneRow.holds Tryz.pinned (OpenSpec.ofChange factsCloneWrong)

/-- 'mirtowerlaw15.LoansMatchReference': WHATEVER THE INPUT: true; the input reads as it did. -/
def loansMatchReferenceSpec : ChangeSpec := { name := "loansMatchReference", fn := fun _ => fun
  | [d] => { results := [.lit (.bool true)], args := [d] }
  | _ => none }
def loansMatchReferenceRow : OpenClaim := { program := "ytkaigkfbkpinlaagreatdoor", sum := "545b0d17667688f455a0b0d6e9a7c51c43664d3bf539ee5622c749c1373bafeb", func := "mirtower/mirtowerlaw15.LoansMatchReference", spec := "loansMatchReference", inPlace := ["internal/bytealg.IndexByteString", "internal/bytealg.IndexString"], unfollowed := true, recurses := true, named := ["unicode/utf8.first", "unicode/utf8.acceptRanges", "mirtower/valid.unary", "mirtower/valid.binary", "internal/bytealg.MaxLen"], plainKeys := false, apart := false, laid := [("unicode/utf8.acceptRanges", laid_unicode_utf8_acceptRanges), ("mirtower/valid.unary", laid_mirtower_valid_unary), ("mirtower/valid.binary", laid_mirtower_valid_binary), ("unicode/utf8.first", laid_unicode_utf8_first)] }
def LoansMatchReferenceSaid : Prop := loansMatchReferenceRow.holds Tryz.pinned (OpenSpec.ofChange loansMatchReferenceSpec)

/-- ITS FALSE NEIGHBOUR: 'it returns false'. Refute it at one input. -/
def loansMatchReferenceWrong : ChangeSpec := { name := "loansMatchReference", fn := fun _ => fun
  | [d] => { results := [.lit (.bool false)], args := [d] }
  | _ => none }
def LoansMatchReferenceWrongFalsely : Prop := loansMatchReferenceRow.holds Tryz.pinned (OpenSpec.ofChange loansMatchReferenceWrong)

/-- 'mirtowerlaw15.LoansEquations': WHATEVER THE INPUT: true; the input reads as it did. -/
def loansEquationsSpec : ChangeSpec := { name := "loansEquations", fn := fun _ => fun
  | [d1, d2, d3] => { results := [.lit (.bool true)], args := [d1, d2, d3] }
  | _ => none }
def loansEquationsRow : OpenClaim := { program := "ytkaigkfbkpinlaagreatdoor", sum := "545b0d17667688f455a0b0d6e9a7c51c43664d3bf539ee5622c749c1373bafeb", func := "mirtower/mirtowerlaw15.LoansEquations", spec := "loansEquations", inPlace := ["internal/bytealg.IndexByteString", "internal/bytealg.IndexString"], unfollowed := true, recurses := true, named := ["unicode/utf8.first", "unicode/utf8.acceptRanges", "mirtower/valid.unary", "mirtower/valid.binary", "internal/bytealg.MaxLen"], plainKeys := false, apart := false, laid := [("unicode/utf8.acceptRanges", laid_unicode_utf8_acceptRanges), ("mirtower/valid.unary", laid_mirtower_valid_unary), ("mirtower/valid.binary", laid_mirtower_valid_binary), ("unicode/utf8.first", laid_unicode_utf8_first)] }
def LoansEquationsSaid : Prop := loansEquationsRow.holds Tryz.pinned (OpenSpec.ofChange loansEquationsSpec)

/-- ITS FALSE NEIGHBOUR: 'it returns false'. Refute it at one input. -/
def loansEquationsWrong : ChangeSpec := { name := "loansEquations", fn := fun _ => fun
  | [d1, d2, d3] => { results := [.lit (.bool false)], args := [d1, d2, d3] }
  | _ => none }
def LoansEquationsWrongFalsely : Prop := loansEquationsRow.holds Tryz.pinned (OpenSpec.ofChange loansEquationsWrong)

/-- 'mirtowerlaw15.LoansWitness': WHATEVER THE INPUT: true; the input reads as it did. -/
def loansWitnessSpec : ChangeSpec := { name := "loansWitness", fn := fun _ => fun
  | [d1, d2, d3] => { results := [.lit (.bool true)], args := [d1, d2, d3] }
  | _ => none }
def loansWitnessRow : OpenClaim := { program := "ytkaigkfbkpinlaagreatdoor", sum := "545b0d17667688f455a0b0d6e9a7c51c43664d3bf539ee5622c749c1373bafeb", func := "mirtower/mirtowerlaw15.LoansWitness", spec := "loansWitness", inPlace := ["internal/bytealg.IndexByteString", "internal/bytealg.IndexString"], unfollowed := true, recurses := true, named := ["unicode/utf8.first", "unicode/utf8.acceptRanges", "mirtower/valid.unary", "mirtower/valid.binary", "internal/bytealg.MaxLen"], plainKeys := false, apart := false, laid := [("unicode/utf8.acceptRanges", laid_unicode_utf8_acceptRanges), ("mirtower/valid.unary", laid_mirtower_valid_unary), ("mirtower/valid.binary", laid_mirtower_valid_binary), ("unicode/utf8.first", laid_unicode_utf8_first)] }
def LoansWitnessSaid : Prop := loansWitnessRow.holds Tryz.pinned (OpenSpec.ofChange loansWitnessSpec)

/-- ITS FALSE NEIGHBOUR: 'it returns false'. Refute it at one input. -/
def loansWitnessWrong : ChangeSpec := { name := "loansWitness", fn := fun _ => fun
  | [d1, d2, d3] => { results := [.lit (.bool false)], args := [d1, d2, d3] }
  | _ => none }
def LoansWitnessWrongFalsely : Prop := loansWitnessRow.holds Tryz.pinned (OpenSpec.ofChange loansWitnessWrong)

/-- 'mirtowerlaw15.LoansMonotone': WHATEVER THE INPUT: true; the input reads as it did. -/
def loansMonotoneSpec : ChangeSpec := { name := "loansMonotone", fn := fun _ => fun
  | [d1, d2, d3] => { results := [.lit (.bool true)], args := [d1, d2, d3] }
  | _ => none }
def loansMonotoneRow : OpenClaim := { program := "ytkaigkfbkpinlaagreatdoor", sum := "545b0d17667688f455a0b0d6e9a7c51c43664d3bf539ee5622c749c1373bafeb", func := "mirtower/mirtowerlaw15.LoansMonotone", spec := "loansMonotone", inPlace := ["internal/bytealg.IndexByteString", "internal/bytealg.IndexString"], unfollowed := true, recurses := true, named := ["unicode/utf8.first", "unicode/utf8.acceptRanges", "mirtower/valid.unary", "mirtower/valid.binary", "internal/bytealg.MaxLen"], plainKeys := false, apart := false, laid := [("unicode/utf8.acceptRanges", laid_unicode_utf8_acceptRanges), ("mirtower/valid.unary", laid_mirtower_valid_unary), ("mirtower/valid.binary", laid_mirtower_valid_binary), ("unicode/utf8.first", laid_unicode_utf8_first)] }
def LoansMonotoneSaid : Prop := loansMonotoneRow.holds Tryz.pinned (OpenSpec.ofChange loansMonotoneSpec)

/-- ITS FALSE NEIGHBOUR: 'it returns false'. Refute it at one input. -/
def loansMonotoneWrong : ChangeSpec := { name := "loansMonotone", fn := fun _ => fun
  | [d1, d2, d3] => { results := [.lit (.bool false)], args := [d1, d2, d3] }
  | _ => none }
def LoansMonotoneWrongFalsely : Prop := loansMonotoneRow.holds Tryz.pinned (OpenSpec.ofChange loansMonotoneWrong)

/- THE SECOND FORM. 'bulk': how many values and letters a reading holds, each counted each time it is reached (what is shared counts as often as it is met; a slice's spare places count too). A statement '..UptoSaid' is the law's where the arguments, and the package variables that the reading takes, are together of bulk at most 1048576: NARROWER than '..Said'. Prove '..Said' where nothing that the law and all that it calls make is longer than what came in: it says more and counts as full. Else prove '..UptoSaid'. A law counts once. -/
mutual
def uptoBulk {H : Type} : DataW H → Nat
  | .lit (.string bytes) => bytes.length + 1
  | .lit _ => 1
  | .nil => 1
  | .ptr d => uptoBulk d + 1
  | .slice elems spare => uptoBulkAll elems + uptoBulkAll spare + 1
  | .agg parts => uptoBulkAll parts + 1
  | .iface _ d => uptoBulk d + 1
  | .map entries => uptoBulkEntries entries + 1
  | .held _ => 1
def uptoBulkAll {H : Type} : List (DataW H) → Nat
  | [] => 0
  | d :: r => uptoBulk d + uptoBulkAll r
def uptoBulkEntries {H : Type} : List (Lit × DataW H) → Nat
  | [] => 0
  | x :: r => uptoBulkEntry x + uptoBulkEntries r
def uptoBulkEntry {H : Type} : Lit × DataW H → Nat
  | (.string bytes, d) => bytes.length + uptoBulk d + 1
  | (_, d) => uptoBulk d + 1
 end
def uptoSmall : (H : Type) → List (DataW H) → Bool := fun _ ds => decide (uptoBulkAll ds ≤ 1048576)
def OpenSpec.upto (s : _root_.Go.ChangeSpec) : _root_.Go.OpenSpec := { _root_.Go.OpenSpec.ofChange s with cond := some uptoSmall }

/-- 'mirtowerlaw14.FactsCheck', WHERE WHAT IT READS IS OF BULK AT MOST 1048576: true; the input reads as it did. -/
def factsCheckUptoRow : OpenClaim := { program := "ytkaigkfbkpinlaagreatdoor", sum := "545b0d17667688f455a0b0d6e9a7c51c43664d3bf539ee5622c749c1373bafeb", func := "mirtower/mirtowerlaw14.FactsCheck", spec := "factsCheck", inPlace := ["internal/bytealg.IndexByteString", "internal/bytealg.IndexString"], unfollowed := true, recurses := true, named := ["unicode/utf8.first", "unicode/utf8.acceptRanges", "mirtower/valid.unary", "mirtower/valid.binary", "internal/bytealg.MaxLen"], plainKeys := false, apart := false, laid := [("unicode/utf8.acceptRanges", laid_unicode_utf8_acceptRanges), ("mirtower/valid.unary", laid_mirtower_valid_unary), ("mirtower/valid.binary", laid_mirtower_valid_binary), ("unicode/utf8.first", laid_unicode_utf8_first)], narrowed := true }
def FactsCheckUptoSaid : Prop := factsCheckUptoRow.holds Tryz.pinned (OpenSpec.upto factsCheckSpec)

/-- 'mirtowerlaw14.FactsCompare', WHERE WHAT IT READS IS OF BULK AT MOST 1048576: true; the input reads as it did. -/
def factsCompareUptoRow : OpenClaim := { program := "ytkaigkfbkpinlaagreatdoor", sum := "545b0d17667688f455a0b0d6e9a7c51c43664d3bf539ee5622c749c1373bafeb", func := "mirtower/mirtowerlaw14.FactsCompare", spec := "factsCompare", inPlace := ["internal/bytealg.IndexByteString", "internal/bytealg.IndexString"], unfollowed := true, recurses := true, named := ["unicode/utf8.first", "unicode/utf8.acceptRanges", "mirtower/valid.unary", "mirtower/valid.binary", "internal/bytealg.MaxLen"], plainKeys := false, apart := false, laid := [("unicode/utf8.acceptRanges", laid_unicode_utf8_acceptRanges), ("mirtower/valid.unary", laid_mirtower_valid_unary), ("mirtower/valid.binary", laid_mirtower_valid_binary), ("unicode/utf8.first", laid_unicode_utf8_first)], narrowed := true }
def FactsCompareUptoSaid : Prop := factsCompareUptoRow.holds Tryz.pinned (OpenSpec.upto factsCompareSpec)

/-- 'mirtowerlaw14.FactsClone', WHERE WHAT IT READS IS OF BULK AT MOST 1048576: true; the input reads as it did. -/
def factsCloneUptoRow : OpenClaim := { program := "ytkaigkfbkpinlaagreatdoor", sum := "545b0d17667688f455a0b0d6e9a7c51c43664d3bf539ee5622c749c1373bafeb", func := "mirtower/mirtowerlaw14.FactsClone", spec := "factsClone", inPlace := ["internal/bytealg.IndexByteString", "internal/bytealg.IndexString"], unfollowed := true, recurses := true, named := ["unicode/utf8.first", "unicode/utf8.acceptRanges", "mirtower/valid.unary", "mirtower/valid.binary", "internal/bytealg.MaxLen"], plainKeys := false, apart := false, laid := [("unicode/utf8.acceptRanges", laid_unicode_utf8_acceptRanges), ("mirtower/valid.unary", laid_mirtower_valid_unary), ("mirtower/valid.binary", laid_mirtower_valid_binary), ("unicode/utf8.first", laid_unicode_utf8_first)], narrowed := true }
def FactsCloneUptoSaid : Prop := factsCloneUptoRow.holds Tryz.pinned (OpenSpec.upto factsCloneSpec)

/-- 'mirtowerlaw15.LoansMatchReference', WHERE WHAT IT READS IS OF BULK AT MOST 1048576: true; the input reads as it did. -/
def loansMatchReferenceUptoRow : OpenClaim := { program := "ytkaigkfbkpinlaagreatdoor", sum := "545b0d17667688f455a0b0d6e9a7c51c43664d3bf539ee5622c749c1373bafeb", func := "mirtower/mirtowerlaw15.LoansMatchReference", spec := "loansMatchReference", inPlace := ["internal/bytealg.IndexByteString", "internal/bytealg.IndexString"], unfollowed := true, recurses := true, named := ["unicode/utf8.first", "unicode/utf8.acceptRanges", "mirtower/valid.unary", "mirtower/valid.binary", "internal/bytealg.MaxLen"], plainKeys := false, apart := false, laid := [("unicode/utf8.acceptRanges", laid_unicode_utf8_acceptRanges), ("mirtower/valid.unary", laid_mirtower_valid_unary), ("mirtower/valid.binary", laid_mirtower_valid_binary), ("unicode/utf8.first", laid_unicode_utf8_first)], narrowed := true }
def LoansMatchReferenceUptoSaid : Prop := loansMatchReferenceUptoRow.holds Tryz.pinned (OpenSpec.upto loansMatchReferenceSpec)

/-- 'mirtowerlaw15.LoansEquations', WHERE WHAT IT READS IS OF BULK AT MOST 1048576: true; the input reads as it did. -/
def loansEquationsUptoRow : OpenClaim := { program := "ytkaigkfbkpinlaagreatdoor", sum := "545b0d17667688f455a0b0d6e9a7c51c43664d3bf539ee5622c749c1373bafeb", func := "mirtower/mirtowerlaw15.LoansEquations", spec := "loansEquations", inPlace := ["internal/bytealg.IndexByteString", "internal/bytealg.IndexString"], unfollowed := true, recurses := true, named := ["unicode/utf8.first", "unicode/utf8.acceptRanges", "mirtower/valid.unary", "mirtower/valid.binary", "internal/bytealg.MaxLen"], plainKeys := false, apart := false, laid := [("unicode/utf8.acceptRanges", laid_unicode_utf8_acceptRanges), ("mirtower/valid.unary", laid_mirtower_valid_unary), ("mirtower/valid.binary", laid_mirtower_valid_binary), ("unicode/utf8.first", laid_unicode_utf8_first)], narrowed := true }
def LoansEquationsUptoSaid : Prop := loansEquationsUptoRow.holds Tryz.pinned (OpenSpec.upto loansEquationsSpec)

/-- 'mirtowerlaw15.LoansWitness', WHERE WHAT IT READS IS OF BULK AT MOST 1048576: true; the input reads as it did. -/
def loansWitnessUptoRow : OpenClaim := { program := "ytkaigkfbkpinlaagreatdoor", sum := "545b0d17667688f455a0b0d6e9a7c51c43664d3bf539ee5622c749c1373bafeb", func := "mirtower/mirtowerlaw15.LoansWitness", spec := "loansWitness", inPlace := ["internal/bytealg.IndexByteString", "internal/bytealg.IndexString"], unfollowed := true, recurses := true, named := ["unicode/utf8.first", "unicode/utf8.acceptRanges", "mirtower/valid.unary", "mirtower/valid.binary", "internal/bytealg.MaxLen"], plainKeys := false, apart := false, laid := [("unicode/utf8.acceptRanges", laid_unicode_utf8_acceptRanges), ("mirtower/valid.unary", laid_mirtower_valid_unary), ("mirtower/valid.binary", laid_mirtower_valid_binary), ("unicode/utf8.first", laid_unicode_utf8_first)], narrowed := true }
def LoansWitnessUptoSaid : Prop := loansWitnessUptoRow.holds Tryz.pinned (OpenSpec.upto loansWitnessSpec)

/-- 'mirtowerlaw15.LoansMonotone', WHERE WHAT IT READS IS OF BULK AT MOST 1048576: true; the input reads as it did. -/
def loansMonotoneUptoRow : OpenClaim := { program := "ytkaigkfbkpinlaagreatdoor", sum := "545b0d17667688f455a0b0d6e9a7c51c43664d3bf539ee5622c749c1373bafeb", func := "mirtower/mirtowerlaw15.LoansMonotone", spec := "loansMonotone", inPlace := ["internal/bytealg.IndexByteString", "internal/bytealg.IndexString"], unfollowed := true, recurses := true, named := ["unicode/utf8.first", "unicode/utf8.acceptRanges", "mirtower/valid.unary", "mirtower/valid.binary", "internal/bytealg.MaxLen"], plainKeys := false, apart := false, laid := [("unicode/utf8.acceptRanges", laid_unicode_utf8_acceptRanges), ("mirtower/valid.unary", laid_mirtower_valid_unary), ("mirtower/valid.binary", laid_mirtower_valid_binary), ("unicode/utf8.first", laid_unicode_utf8_first)], narrowed := true }
def LoansMonotoneUptoSaid : Prop := loansMonotoneUptoRow.holds Tryz.pinned (OpenSpec.upto loansMonotoneSpec)

end Rows
end Go.Proofs.YtkaigkfbkpinlaaGreatDoor
