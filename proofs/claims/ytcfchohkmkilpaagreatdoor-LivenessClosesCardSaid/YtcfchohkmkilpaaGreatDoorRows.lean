/-
  NARROWER THAN 'FOR EVERY INPUT', by the rows' own cells (each row's printed sentence says how): LivenessUses: laid · LivenessRegions: laid · LivenessEnds: laid · LivenessEquations: laid · LivenessLocals: laid · LivenessCloses: laid.
  DERIVED. THE GIVEN ROWS OF THIS SEAT. 6 by the template 'for every input the law returns true; each argument reads behind the call as it read before'; 0 by the template 'total and deterministic' (their statements: YtcfchohkmkilpaaGreatDoorTotals.lean).
  GIVEN WITH THE SEED: the statements are not yours to turn. If you find one false, say at which input.
  Laid BY PROGRAM, IN A SANDBOX (cutbox-rows.mjs): the forced cells as the released guide's own fill.sh prints them over the translation 359e0f3485a49cc3… (all of the seat's roots in one cut). By AI agents, Wed Nov 11 2026. No macro, syntax, notation, axiom, sorry.
-/
import Derived.Test.YtcfchohkmkilpaaGreatDoorChecked
import GoSem.PinnedTables
import GoSem.Claim
import GoSem.ClaimJoined
import GoSem.ClaimMapViews
import Derived.JoinedTies
import Derived.KernelRfl
namespace Go.Proofs.YtcfchohkmkilpaaGreatDoor
/- THE CELL 'sum', in the pinned program and in every row, IS THE sha256 OF THE DUMP (.gsa) THAT YtcfchohkmkilpaaGreatDoorProg.lean LOADS. Nothing in Lean hashes anything: it is a label: what it is worth is what the hold of that sum in a sandbox is worth. -/
noncomputable def Tryz.pinned : Pinned := { name := "ytcfchohkmkilpaagreatdoor", sum := "359e0f3485a49cc3b008a2027950b970e5b2fe3e2641eb4d1122c9661d91289a", checked := Tryz.checked }
namespace Rows
def none {H : Type} : Left H := { results := [], args := [] }

/- WHAT THE LISTED PACKAGE-LEVEL VARIABLES READ AS WHEN THE CALL BEGINS. Each datum BY PROGRAM (the guide's laid-datum.mjs) off the statement by which the dump's own 'gosem.cut.vars' lays the variable. In a bare row this is a premise. The card (YtcfchohkmkilpaaGreatDoorCards.lean) ties it to the program's text. -/
def laid_unicode_utf8_acceptRanges {H : Type} : DataW H := .agg [.agg [.lit (.int .u8 128), .lit (.int .u8 191)], .agg [.lit (.int .u8 160), .lit (.int .u8 191)], .agg [.lit (.int .u8 128), .lit (.int .u8 159)], .agg [.lit (.int .u8 144), .lit (.int .u8 191)], .agg [.lit (.int .u8 128), .lit (.int .u8 143)], .agg [.lit (.int .u8 0), .lit (.int .u8 0)], .agg [.lit (.int .u8 0), .lit (.int .u8 0)], .agg [.lit (.int .u8 0), .lit (.int .u8 0)], .agg [.lit (.int .u8 0), .lit (.int .u8 0)], .agg [.lit (.int .u8 0), .lit (.int .u8 0)], .agg [.lit (.int .u8 0), .lit (.int .u8 0)], .agg [.lit (.int .u8 0), .lit (.int .u8 0)], .agg [.lit (.int .u8 0), .lit (.int .u8 0)], .agg [.lit (.int .u8 0), .lit (.int .u8 0)], .agg [.lit (.int .u8 0), .lit (.int .u8 0)], .agg [.lit (.int .u8 0), .lit (.int .u8 0)]]
def laid_mirtower_valid_unary {H : Type} : DataW H := .agg [.agg [.lit (.int .i64 2), .lit (.int .i64 2)], .agg [.lit (.int .i64 1), .lit (.int .i64 1)]]
def laid_mirtower_valid_binary {H : Type} : DataW H := .agg [.agg [.lit (.int .i64 2), .lit (.int .i64 2)], .agg [.lit (.int .i64 2), .lit (.int .i64 2)], .agg [.lit (.int .i64 2), .lit (.int .i64 2)], .agg [.lit (.int .i64 2), .lit (.int .i64 1)], .agg [.lit (.int .i64 2), .lit (.int .i64 1)], .agg [.lit (.int .i64 1), .lit (.int .i64 1)]]
/-- One of Go's own tables, pinned by name: the form's constant. -/
def laid_unicode_utf8_first : DataW Unit := Go.Pinned.utf8First

/-- 'mirtowerlaw12.LivenessUses': WHATEVER THE INPUT: true; the input reads as it did. -/
def livenessUsesSpec : ChangeSpec := { name := "livenessUses", fn := fun _ => fun
  | [d1, d2] => { results := [.lit (.bool true)], args := [d1, d2] }
  | _ => none }
def livenessUsesRow : OpenClaim := { program := "ytcfchohkmkilpaagreatdoor", sum := "359e0f3485a49cc3b008a2027950b970e5b2fe3e2641eb4d1122c9661d91289a", func := "mirtower/mirtowerlaw12.LivenessUses", spec := "livenessUses", inPlace := ["internal/bytealg.IndexByteString", "internal/bytealg.IndexString"], unfollowed := true, recurses := true, named := ["unicode/utf8.first", "unicode/utf8.acceptRanges", "mirtower/valid.unary", "mirtower/valid.binary", "internal/bytealg.MaxLen"], plainKeys := false, apart := false, laid := [("unicode/utf8.acceptRanges", laid_unicode_utf8_acceptRanges), ("mirtower/valid.unary", laid_mirtower_valid_unary), ("mirtower/valid.binary", laid_mirtower_valid_binary), ("unicode/utf8.first", laid_unicode_utf8_first)] }
def LivenessUsesSaid : Prop := livenessUsesRow.holds Tryz.pinned (OpenSpec.ofChange livenessUsesSpec)

/-- ITS FALSE NEIGHBOUR: 'it returns false'. Refute it at one input. -/
def livenessUsesWrong : ChangeSpec := { name := "livenessUses", fn := fun _ => fun
  | [d1, d2] => { results := [.lit (.bool false)], args := [d1, d2] }
  | _ => none }
def LivenessUsesWrongFalsely : Prop := livenessUsesRow.holds Tryz.pinned (OpenSpec.ofChange livenessUsesWrong)

/-- 'mirtowerlaw12.LivenessRegions': WHATEVER THE INPUT: true; the input reads as it did. -/
def livenessRegionsSpec : ChangeSpec := { name := "livenessRegions", fn := fun _ => fun
  | [d] => { results := [.lit (.bool true)], args := [d] }
  | _ => none }
def livenessRegionsRow : OpenClaim := { program := "ytcfchohkmkilpaagreatdoor", sum := "359e0f3485a49cc3b008a2027950b970e5b2fe3e2641eb4d1122c9661d91289a", func := "mirtower/mirtowerlaw12.LivenessRegions", spec := "livenessRegions", inPlace := ["internal/bytealg.IndexByteString", "internal/bytealg.IndexString"], unfollowed := true, recurses := true, named := ["unicode/utf8.first", "unicode/utf8.acceptRanges", "mirtower/valid.unary", "mirtower/valid.binary", "internal/bytealg.MaxLen"], plainKeys := false, apart := false, laid := [("unicode/utf8.acceptRanges", laid_unicode_utf8_acceptRanges), ("mirtower/valid.unary", laid_mirtower_valid_unary), ("mirtower/valid.binary", laid_mirtower_valid_binary), ("unicode/utf8.first", laid_unicode_utf8_first)] }
def LivenessRegionsSaid : Prop := livenessRegionsRow.holds Tryz.pinned (OpenSpec.ofChange livenessRegionsSpec)

/-- ITS FALSE NEIGHBOUR: 'it returns false'. Refute it at one input. -/
def livenessRegionsWrong : ChangeSpec := { name := "livenessRegions", fn := fun _ => fun
  | [d] => { results := [.lit (.bool false)], args := [d] }
  | _ => none }
def LivenessRegionsWrongFalsely : Prop := livenessRegionsRow.holds Tryz.pinned (OpenSpec.ofChange livenessRegionsWrong)

/-- 'mirtowerlaw12.LivenessEnds': WHATEVER THE INPUT: true; the input reads as it did. -/
def livenessEndsSpec : ChangeSpec := { name := "livenessEnds", fn := fun _ => fun
  | [d] => { results := [.lit (.bool true)], args := [d] }
  | _ => none }
def livenessEndsRow : OpenClaim := { program := "ytcfchohkmkilpaagreatdoor", sum := "359e0f3485a49cc3b008a2027950b970e5b2fe3e2641eb4d1122c9661d91289a", func := "mirtower/mirtowerlaw12.LivenessEnds", spec := "livenessEnds", inPlace := ["internal/bytealg.IndexByteString", "internal/bytealg.IndexString"], unfollowed := true, recurses := true, named := ["unicode/utf8.first", "unicode/utf8.acceptRanges", "mirtower/valid.unary", "mirtower/valid.binary", "internal/bytealg.MaxLen"], plainKeys := false, apart := false, laid := [("unicode/utf8.acceptRanges", laid_unicode_utf8_acceptRanges), ("mirtower/valid.unary", laid_mirtower_valid_unary), ("mirtower/valid.binary", laid_mirtower_valid_binary), ("unicode/utf8.first", laid_unicode_utf8_first)] }
def LivenessEndsSaid : Prop := livenessEndsRow.holds Tryz.pinned (OpenSpec.ofChange livenessEndsSpec)

/-- ITS FALSE NEIGHBOUR: 'it returns false'. Refute it at one input. -/
def livenessEndsWrong : ChangeSpec := { name := "livenessEnds", fn := fun _ => fun
  | [d] => { results := [.lit (.bool false)], args := [d] }
  | _ => none }
def LivenessEndsWrongFalsely : Prop := livenessEndsRow.holds Tryz.pinned (OpenSpec.ofChange livenessEndsWrong)

/-- 'mirtowerlaw12.LivenessEquations': WHATEVER THE INPUT: true; the input reads as it did. -/
def livenessEquationsSpec : ChangeSpec := { name := "livenessEquations", fn := fun _ => fun
  | [d] => { results := [.lit (.bool true)], args := [d] }
  | _ => none }
def livenessEquationsRow : OpenClaim := { program := "ytcfchohkmkilpaagreatdoor", sum := "359e0f3485a49cc3b008a2027950b970e5b2fe3e2641eb4d1122c9661d91289a", func := "mirtower/mirtowerlaw12.LivenessEquations", spec := "livenessEquations", inPlace := ["internal/bytealg.IndexByteString", "internal/bytealg.IndexString"], unfollowed := true, recurses := true, named := ["unicode/utf8.first", "unicode/utf8.acceptRanges", "mirtower/valid.unary", "mirtower/valid.binary", "internal/bytealg.MaxLen"], plainKeys := false, apart := false, laid := [("unicode/utf8.acceptRanges", laid_unicode_utf8_acceptRanges), ("mirtower/valid.unary", laid_mirtower_valid_unary), ("mirtower/valid.binary", laid_mirtower_valid_binary), ("unicode/utf8.first", laid_unicode_utf8_first)] }
def LivenessEquationsSaid : Prop := livenessEquationsRow.holds Tryz.pinned (OpenSpec.ofChange livenessEquationsSpec)

/-- ITS FALSE NEIGHBOUR: 'it returns false'. Refute it at one input. -/
def livenessEquationsWrong : ChangeSpec := { name := "livenessEquations", fn := fun _ => fun
  | [d] => { results := [.lit (.bool false)], args := [d] }
  | _ => none }
def LivenessEquationsWrongFalsely : Prop := livenessEquationsRow.holds Tryz.pinned (OpenSpec.ofChange livenessEquationsWrong)

/-- 'mirtowerlaw12.LivenessLocals': WHATEVER THE INPUT: true; the input reads as it did. -/
def livenessLocalsSpec : ChangeSpec := { name := "livenessLocals", fn := fun _ => fun
  | [d] => { results := [.lit (.bool true)], args := [d] }
  | _ => none }
def livenessLocalsRow : OpenClaim := { program := "ytcfchohkmkilpaagreatdoor", sum := "359e0f3485a49cc3b008a2027950b970e5b2fe3e2641eb4d1122c9661d91289a", func := "mirtower/mirtowerlaw12.LivenessLocals", spec := "livenessLocals", inPlace := ["internal/bytealg.IndexByteString", "internal/bytealg.IndexString"], unfollowed := true, recurses := true, named := ["unicode/utf8.first", "unicode/utf8.acceptRanges", "mirtower/valid.unary", "mirtower/valid.binary", "internal/bytealg.MaxLen"], plainKeys := false, apart := false, laid := [("unicode/utf8.acceptRanges", laid_unicode_utf8_acceptRanges), ("mirtower/valid.unary", laid_mirtower_valid_unary), ("mirtower/valid.binary", laid_mirtower_valid_binary), ("unicode/utf8.first", laid_unicode_utf8_first)] }
def LivenessLocalsSaid : Prop := livenessLocalsRow.holds Tryz.pinned (OpenSpec.ofChange livenessLocalsSpec)

/-- ITS FALSE NEIGHBOUR: 'it returns false'. Refute it at one input. -/
def livenessLocalsWrong : ChangeSpec := { name := "livenessLocals", fn := fun _ => fun
  | [d] => { results := [.lit (.bool false)], args := [d] }
  | _ => none }
def LivenessLocalsWrongFalsely : Prop := livenessLocalsRow.holds Tryz.pinned (OpenSpec.ofChange livenessLocalsWrong)

/-- 'mirtowerlaw12.LivenessCloses': WHATEVER THE INPUT: true; the input reads as it did. -/
def livenessClosesSpec : ChangeSpec := { name := "livenessCloses", fn := fun _ => fun
  | [d] => { results := [.lit (.bool true)], args := [d] }
  | _ => none }
def livenessClosesRow : OpenClaim := { program := "ytcfchohkmkilpaagreatdoor", sum := "359e0f3485a49cc3b008a2027950b970e5b2fe3e2641eb4d1122c9661d91289a", func := "mirtower/mirtowerlaw12.LivenessCloses", spec := "livenessCloses", inPlace := ["internal/bytealg.IndexByteString", "internal/bytealg.IndexString"], unfollowed := true, recurses := true, named := ["unicode/utf8.first", "unicode/utf8.acceptRanges", "mirtower/valid.unary", "mirtower/valid.binary", "internal/bytealg.MaxLen"], plainKeys := false, apart := false, laid := [("unicode/utf8.acceptRanges", laid_unicode_utf8_acceptRanges), ("mirtower/valid.unary", laid_mirtower_valid_unary), ("mirtower/valid.binary", laid_mirtower_valid_binary), ("unicode/utf8.first", laid_unicode_utf8_first)] }
def LivenessClosesSaid : Prop := livenessClosesRow.holds Tryz.pinned (OpenSpec.ofChange livenessClosesSpec)

/-- ITS FALSE NEIGHBOUR: 'it returns false'. Refute it at one input. -/
def livenessClosesWrong : ChangeSpec := { name := "livenessCloses", fn := fun _ => fun
  | [d] => { results := [.lit (.bool false)], args := [d] }
  | _ => none }
def LivenessClosesWrongFalsely : Prop := livenessClosesRow.holds Tryz.pinned (OpenSpec.ofChange livenessClosesWrong)

/- THE SECOND FORM. 'bulk': how many values and letters a reading holds, each counted each time it is reached (what is shared counts as often as it is met; a slice's spare places count too). A statement '..UptoSaid' is the law's where the arguments, and the package variables that the reading takes, are together of bulk at most 1048576: NARROWER than '..Said'. Prove '..Said' where nothing that the law and all that it calls make is longer than what came in: it says more and counts as full. Else prove '..UptoSaid'. A law counts once. -/
mutual
def uptoBulk {H : Type} : DataW H → Nat
  | .lit (.string bytes) => bytes.length + 1
  | .lit _ => 1
  | .nil => 1
  | .ptr d => uptoBulk d + 1
  | .slice elems spare => uptoBulkAll elems + uptoBulkAll spare + 1
  | .agg parts => uptoBulkAll parts + 1
  | .iface _ d => uptoBulk d + 1
  | .map entries => uptoBulkEntries entries + 1
  | .held _ => 1
def uptoBulkAll {H : Type} : List (DataW H) → Nat
  | [] => 0
  | d :: r => uptoBulk d + uptoBulkAll r
def uptoBulkEntries {H : Type} : List (Lit × DataW H) → Nat
  | [] => 0
  | x :: r => uptoBulkEntry x + uptoBulkEntries r
def uptoBulkEntry {H : Type} : Lit × DataW H → Nat
  | (.string bytes, d) => bytes.length + uptoBulk d + 1
  | (_, d) => uptoBulk d + 1
 end
def uptoSmall : (H : Type) → List (DataW H) → Bool := fun _ ds => decide (uptoBulkAll ds ≤ 1048576)
def OpenSpec.upto (s : _root_.Go.ChangeSpec) : _root_.Go.OpenSpec := { _root_.Go.OpenSpec.ofChange s with cond := some uptoSmall }

/-- 'mirtowerlaw12.LivenessUses', WHERE WHAT IT READS IS OF BULK AT MOST 1048576: true; the input reads as it did. -/
def livenessUsesUptoRow : OpenClaim := { program := "ytcfchohkmkilpaagreatdoor", sum := "359e0f3485a49cc3b008a2027950b970e5b2fe3e2641eb4d1122c9661d91289a", func := "mirtower/mirtowerlaw12.LivenessUses", spec := "livenessUses", inPlace := ["internal/bytealg.IndexByteString", "internal/bytealg.IndexString"], unfollowed := true, recurses := true, named := ["unicode/utf8.first", "unicode/utf8.acceptRanges", "mirtower/valid.unary", "mirtower/valid.binary", "internal/bytealg.MaxLen"], plainKeys := false, apart := false, laid := [("unicode/utf8.acceptRanges", laid_unicode_utf8_acceptRanges), ("mirtower/valid.unary", laid_mirtower_valid_unary), ("mirtower/valid.binary", laid_mirtower_valid_binary), ("unicode/utf8.first", laid_unicode_utf8_first)], narrowed := true }
def LivenessUsesUptoSaid : Prop := livenessUsesUptoRow.holds Tryz.pinned (OpenSpec.upto livenessUsesSpec)

/-- 'mirtowerlaw12.LivenessRegions', WHERE WHAT IT READS IS OF BULK AT MOST 1048576: true; the input reads as it did. -/
def livenessRegionsUptoRow : OpenClaim := { program := "ytcfchohkmkilpaagreatdoor", sum := "359e0f3485a49cc3b008a2027950b970e5b2fe3e2641eb4d1122c9661d91289a", func := "mirtower/mirtowerlaw12.LivenessRegions", spec := "livenessRegions", inPlace := ["internal/bytealg.IndexByteString", "internal/bytealg.IndexString"], unfollowed := true, recurses := true, named := ["unicode/utf8.first", "unicode/utf8.acceptRanges", "mirtower/valid.unary", "mirtower/valid.binary", "internal/bytealg.MaxLen"], plainKeys := false, apart := false, laid := [("unicode/utf8.acceptRanges", laid_unicode_utf8_acceptRanges), ("mirtower/valid.unary", laid_mirtower_valid_unary), ("mirtower/valid.binary", laid_mirtower_valid_binary), ("unicode/utf8.first", laid_unicode_utf8_first)], narrowed := true }
def LivenessRegionsUptoSaid : Prop := livenessRegionsUptoRow.holds Tryz.pinned (OpenSpec.upto livenessRegionsSpec)

/-- 'mirtowerlaw12.LivenessEnds', WHERE WHAT IT READS IS OF BULK AT MOST 1048576: true; the input reads as it did. -/
def livenessEndsUptoRow : OpenClaim := { program := "ytcfchohkmkilpaagreatdoor", sum := "359e0f3485a49cc3b008a2027950b970e5b2fe3e2641eb4d1122c9661d91289a", func := "mirtower/mirtowerlaw12.LivenessEnds", spec := "livenessEnds", inPlace := ["internal/bytealg.IndexByteString", "internal/bytealg.IndexString"], unfollowed := true, recurses := true, named := ["unicode/utf8.first", "unicode/utf8.acceptRanges", "mirtower/valid.unary", "mirtower/valid.binary", "internal/bytealg.MaxLen"], plainKeys := false, apart := false, laid := [("unicode/utf8.acceptRanges", laid_unicode_utf8_acceptRanges), ("mirtower/valid.unary", laid_mirtower_valid_unary), ("mirtower/valid.binary", laid_mirtower_valid_binary), ("unicode/utf8.first", laid_unicode_utf8_first)], narrowed := true }
def LivenessEndsUptoSaid : Prop := livenessEndsUptoRow.holds Tryz.pinned (OpenSpec.upto livenessEndsSpec)

/-- 'mirtowerlaw12.LivenessEquations', WHERE WHAT IT READS IS OF BULK AT MOST 1048576: true; the input reads as it did. -/
def livenessEquationsUptoRow : OpenClaim := { program := "ytcfchohkmkilpaagreatdoor", sum := "359e0f3485a49cc3b008a2027950b970e5b2fe3e2641eb4d1122c9661d91289a", func := "mirtower/mirtowerlaw12.LivenessEquations", spec := "livenessEquations", inPlace := ["internal/bytealg.IndexByteString", "internal/bytealg.IndexString"], unfollowed := true, recurses := true, named := ["unicode/utf8.first", "unicode/utf8.acceptRanges", "mirtower/valid.unary", "mirtower/valid.binary", "internal/bytealg.MaxLen"], plainKeys := false, apart := false, laid := [("unicode/utf8.acceptRanges", laid_unicode_utf8_acceptRanges), ("mirtower/valid.unary", laid_mirtower_valid_unary), ("mirtower/valid.binary", laid_mirtower_valid_binary), ("unicode/utf8.first", laid_unicode_utf8_first)], narrowed := true }
def LivenessEquationsUptoSaid : Prop := livenessEquationsUptoRow.holds Tryz.pinned (OpenSpec.upto livenessEquationsSpec)

/-- 'mirtowerlaw12.LivenessLocals', WHERE WHAT IT READS IS OF BULK AT MOST 1048576: true; the input reads as it did. -/
def livenessLocalsUptoRow : OpenClaim := { program := "ytcfchohkmkilpaagreatdoor", sum := "359e0f3485a49cc3b008a2027950b970e5b2fe3e2641eb4d1122c9661d91289a", func := "mirtower/mirtowerlaw12.LivenessLocals", spec := "livenessLocals", inPlace := ["internal/bytealg.IndexByteString", "internal/bytealg.IndexString"], unfollowed := true, recurses := true, named := ["unicode/utf8.first", "unicode/utf8.acceptRanges", "mirtower/valid.unary", "mirtower/valid.binary", "internal/bytealg.MaxLen"], plainKeys := false, apart := false, laid := [("unicode/utf8.acceptRanges", laid_unicode_utf8_acceptRanges), ("mirtower/valid.unary", laid_mirtower_valid_unary), ("mirtower/valid.binary", laid_mirtower_valid_binary), ("unicode/utf8.first", laid_unicode_utf8_first)], narrowed := true }
def LivenessLocalsUptoSaid : Prop := livenessLocalsUptoRow.holds Tryz.pinned (OpenSpec.upto livenessLocalsSpec)

/-- 'mirtowerlaw12.LivenessCloses', WHERE WHAT IT READS IS OF BULK AT MOST 1048576: true; the input reads as it did. -/
def livenessClosesUptoRow : OpenClaim := { program := "ytcfchohkmkilpaagreatdoor", sum := "359e0f3485a49cc3b008a2027950b970e5b2fe3e2641eb4d1122c9661d91289a", func := "mirtower/mirtowerlaw12.LivenessCloses", spec := "livenessCloses", inPlace := ["internal/bytealg.IndexByteString", "internal/bytealg.IndexString"], unfollowed := true, recurses := true, named := ["unicode/utf8.first", "unicode/utf8.acceptRanges", "mirtower/valid.unary", "mirtower/valid.binary", "internal/bytealg.MaxLen"], plainKeys := false, apart := false, laid := [("unicode/utf8.acceptRanges", laid_unicode_utf8_acceptRanges), ("mirtower/valid.unary", laid_mirtower_valid_unary), ("mirtower/valid.binary", laid_mirtower_valid_binary), ("unicode/utf8.first", laid_unicode_utf8_first)], narrowed := true }
def LivenessClosesUptoSaid : Prop := livenessClosesUptoRow.holds Tryz.pinned (OpenSpec.upto livenessClosesSpec)

end Rows
end Go.Proofs.YtcfchohkmkilpaaGreatDoor
