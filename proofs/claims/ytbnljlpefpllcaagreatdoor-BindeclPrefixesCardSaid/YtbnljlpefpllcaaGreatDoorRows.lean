/-
  NARROWER THAN 'FOR EVERY INPUT', by the rows' own cells (each row's printed sentence says how): BindeclEncodes: laid · BindeclDecodes: laid · BindeclRoundTrip: laid · BindeclIsCanonical: laid · BindeclPrefixes: laid.
  DERIVED. THE GIVEN ROWS OF THIS SEAT. 5 by the template 'for every input the law returns true; each argument reads behind the call as it read before'; 0 by the template 'total and deterministic' (their statements: YtbnljlpefpllcaaGreatDoorTotals.lean).
  GIVEN WITH THE SEED: the statements are not yours to turn. If you find one false, say at which input.
  Laid BY PROGRAM, IN A SANDBOX (cutbox-rows.mjs): the forced cells as the released guide's own fill.sh prints them over the translation 1d4a45540f6b1670… (all of the seat's roots in one cut). By AI agents, Wed Nov 11 2026. No macro, syntax, notation, axiom, sorry.
-/
import Derived.Test.YtbnljlpefpllcaaGreatDoorChecked
import GoSem.PinnedTables
import GoSem.Claim
import GoSem.ClaimJoined
import GoSem.ClaimMapViews
import Derived.JoinedTies
import Derived.KernelRfl
namespace Go.Proofs.YtbnljlpefpllcaaGreatDoor
/- THE CELL 'sum', in the pinned program and in every row, IS THE sha256 OF THE DUMP (.gsa) THAT YtbnljlpefpllcaaGreatDoorProg.lean LOADS. Nothing in Lean hashes anything: it is a label: what it is worth is what the hold of that sum in a sandbox is worth. -/
noncomputable def Tryz.pinned : Pinned := { name := "ytbnljlpefpllcaagreatdoor", sum := "1d4a45540f6b1670bb9e02c9e27951fb1dd5ec825f05406a9166e16c89c59e8d", checked := Tryz.checked }
namespace Rows
def none {H : Type} : Left H := { results := [], args := [] }

/- WHAT THE LISTED PACKAGE-LEVEL VARIABLES READ AS WHEN THE CALL BEGINS. Each datum BY PROGRAM (the guide's laid-datum.mjs) off the statement by which the dump's own 'gosem.cut.vars' lays the variable. In a bare row this is a premise. The card (YtbnljlpefpllcaaGreatDoorCards.lean) ties it to the program's text. -/
def laid_unicode_utf8_acceptRanges {H : Type} : DataW H := .agg [.agg [.lit (.int .u8 128), .lit (.int .u8 191)], .agg [.lit (.int .u8 160), .lit (.int .u8 191)], .agg [.lit (.int .u8 128), .lit (.int .u8 159)], .agg [.lit (.int .u8 144), .lit (.int .u8 191)], .agg [.lit (.int .u8 128), .lit (.int .u8 143)], .agg [.lit (.int .u8 0), .lit (.int .u8 0)], .agg [.lit (.int .u8 0), .lit (.int .u8 0)], .agg [.lit (.int .u8 0), .lit (.int .u8 0)], .agg [.lit (.int .u8 0), .lit (.int .u8 0)], .agg [.lit (.int .u8 0), .lit (.int .u8 0)], .agg [.lit (.int .u8 0), .lit (.int .u8 0)], .agg [.lit (.int .u8 0), .lit (.int .u8 0)], .agg [.lit (.int .u8 0), .lit (.int .u8 0)], .agg [.lit (.int .u8 0), .lit (.int .u8 0)], .agg [.lit (.int .u8 0), .lit (.int .u8 0)], .agg [.lit (.int .u8 0), .lit (.int .u8 0)]]
def laid_mirtower_valid_unary {H : Type} : DataW H := .agg [.agg [.lit (.int .i64 2), .lit (.int .i64 2)], .agg [.lit (.int .i64 1), .lit (.int .i64 1)]]
def laid_mirtower_valid_binary {H : Type} : DataW H := .agg [.agg [.lit (.int .i64 2), .lit (.int .i64 2)], .agg [.lit (.int .i64 2), .lit (.int .i64 2)], .agg [.lit (.int .i64 2), .lit (.int .i64 2)], .agg [.lit (.int .i64 2), .lit (.int .i64 1)], .agg [.lit (.int .i64 2), .lit (.int .i64 1)], .agg [.lit (.int .i64 1), .lit (.int .i64 1)]]
/-- One of Go's own tables, pinned by name: the form's constant. -/
def laid_unicode_utf8_first : DataW Unit := Go.Pinned.utf8First

/-- 'mirtowerlaw16.BindeclEncodes': WHATEVER THE INPUT: true; the input reads as it did. -/
def bindeclEncodesSpec : ChangeSpec := { name := "bindeclEncodes", fn := fun _ => fun
  | [d1, d2] => { results := [.lit (.bool true)], args := [d1, d2] }
  | _ => none }
def bindeclEncodesRow : OpenClaim := { program := "ytbnljlpefpllcaagreatdoor", sum := "1d4a45540f6b1670bb9e02c9e27951fb1dd5ec825f05406a9166e16c89c59e8d", func := "mirtower/mirtowerlaw16.BindeclEncodes", spec := "bindeclEncodes", inPlace := ["internal/bytealg.IndexByteString", "internal/bytealg.IndexString"], unfollowed := true, recurses := true, named := ["unicode/utf8.first", "unicode/utf8.acceptRanges", "mirtower/valid.unary", "mirtower/valid.binary", "internal/bytealg.MaxLen"], plainKeys := false, apart := false, laid := [("unicode/utf8.acceptRanges", laid_unicode_utf8_acceptRanges), ("mirtower/valid.unary", laid_mirtower_valid_unary), ("mirtower/valid.binary", laid_mirtower_valid_binary), ("unicode/utf8.first", laid_unicode_utf8_first)] }
def BindeclEncodesSaid : Prop := bindeclEncodesRow.holds Tryz.pinned (OpenSpec.ofChange bindeclEncodesSpec)

/-- ITS FALSE NEIGHBOUR: 'it returns false'. Refute it at one input. -/
def bindeclEncodesWrong : ChangeSpec := { name := "bindeclEncodes", fn := fun _ => fun
  | [d1, d2] => { results := [.lit (.bool false)], args := [d1, d2] }
  | _ => none }
def BindeclEncodesWrongFalsely : Prop := bindeclEncodesRow.holds Tryz.pinned (OpenSpec.ofChange bindeclEncodesWrong)

/-- 'mirtowerlaw16.BindeclDecodes': WHATEVER THE INPUT: true; the input reads as it did. -/
def bindeclDecodesSpec : ChangeSpec := { name := "bindeclDecodes", fn := fun _ => fun
  | [d1, d2] => { results := [.lit (.bool true)], args := [d1, d2] }
  | _ => none }
def bindeclDecodesRow : OpenClaim := { program := "ytbnljlpefpllcaagreatdoor", sum := "1d4a45540f6b1670bb9e02c9e27951fb1dd5ec825f05406a9166e16c89c59e8d", func := "mirtower/mirtowerlaw16.BindeclDecodes", spec := "bindeclDecodes", inPlace := ["internal/bytealg.IndexByteString", "internal/bytealg.IndexString"], unfollowed := true, recurses := true, named := ["unicode/utf8.first", "unicode/utf8.acceptRanges", "mirtower/valid.unary", "mirtower/valid.binary", "internal/bytealg.MaxLen"], plainKeys := false, apart := false, laid := [("unicode/utf8.acceptRanges", laid_unicode_utf8_acceptRanges), ("mirtower/valid.unary", laid_mirtower_valid_unary), ("mirtower/valid.binary", laid_mirtower_valid_binary), ("unicode/utf8.first", laid_unicode_utf8_first)] }
def BindeclDecodesSaid : Prop := bindeclDecodesRow.holds Tryz.pinned (OpenSpec.ofChange bindeclDecodesSpec)

/-- ITS FALSE NEIGHBOUR: 'it returns false'. Refute it at one input. -/
def bindeclDecodesWrong : ChangeSpec := { name := "bindeclDecodes", fn := fun _ => fun
  | [d1, d2] => { results := [.lit (.bool false)], args := [d1, d2] }
  | _ => none }
def BindeclDecodesWrongFalsely : Prop := bindeclDecodesRow.holds Tryz.pinned (OpenSpec.ofChange bindeclDecodesWrong)

/-- 'mirtowerlaw16.BindeclRoundTrip': WHATEVER THE INPUT: true; the input reads as it did. -/
def bindeclRoundTripSpec : ChangeSpec := { name := "bindeclRoundTrip", fn := fun _ => fun
  | [d] => { results := [.lit (.bool true)], args := [d] }
  | _ => none }
def bindeclRoundTripRow : OpenClaim := { program := "ytbnljlpefpllcaagreatdoor", sum := "1d4a45540f6b1670bb9e02c9e27951fb1dd5ec825f05406a9166e16c89c59e8d", func := "mirtower/mirtowerlaw16.BindeclRoundTrip", spec := "bindeclRoundTrip", inPlace := ["internal/bytealg.IndexByteString", "internal/bytealg.IndexString"], unfollowed := true, recurses := true, named := ["unicode/utf8.first", "unicode/utf8.acceptRanges", "mirtower/valid.unary", "mirtower/valid.binary", "internal/bytealg.MaxLen"], plainKeys := false, apart := false, laid := [("unicode/utf8.acceptRanges", laid_unicode_utf8_acceptRanges), ("mirtower/valid.unary", laid_mirtower_valid_unary), ("mirtower/valid.binary", laid_mirtower_valid_binary), ("unicode/utf8.first", laid_unicode_utf8_first)] }
def BindeclRoundTripSaid : Prop := bindeclRoundTripRow.holds Tryz.pinned (OpenSpec.ofChange bindeclRoundTripSpec)

/-- ITS FALSE NEIGHBOUR: 'it returns false'. Refute it at one input. -/
def bindeclRoundTripWrong : ChangeSpec := { name := "bindeclRoundTrip", fn := fun _ => fun
  | [d] => { results := [.lit (.bool false)], args := [d] }
  | _ => none }
def BindeclRoundTripWrongFalsely : Prop := bindeclRoundTripRow.holds Tryz.pinned (OpenSpec.ofChange bindeclRoundTripWrong)

/-- 'mirtowerlaw16.BindeclIsCanonical': WHATEVER THE INPUT: true; the input reads as it did. -/
def bindeclIsCanonicalSpec : ChangeSpec := { name := "bindeclIsCanonical", fn := fun _ => fun
  | [d1, d2] => { results := [.lit (.bool true)], args := [d1, d2] }
  | _ => none }
def bindeclIsCanonicalRow : OpenClaim := { program := "ytbnljlpefpllcaagreatdoor", sum := "1d4a45540f6b1670bb9e02c9e27951fb1dd5ec825f05406a9166e16c89c59e8d", func := "mirtower/mirtowerlaw16.BindeclIsCanonical", spec := "bindeclIsCanonical", inPlace := ["internal/bytealg.IndexByteString", "internal/bytealg.IndexString"], unfollowed := true, recurses := true, named := ["unicode/utf8.first", "unicode/utf8.acceptRanges", "mirtower/valid.unary", "mirtower/valid.binary", "internal/bytealg.MaxLen"], plainKeys := false, apart := false, laid := [("unicode/utf8.acceptRanges", laid_unicode_utf8_acceptRanges), ("mirtower/valid.unary", laid_mirtower_valid_unary), ("mirtower/valid.binary", laid_mirtower_valid_binary), ("unicode/utf8.first", laid_unicode_utf8_first)] }
def BindeclIsCanonicalSaid : Prop := bindeclIsCanonicalRow.holds Tryz.pinned (OpenSpec.ofChange bindeclIsCanonicalSpec)

/-- ITS FALSE NEIGHBOUR: 'it returns false'. Refute it at one input. -/
def bindeclIsCanonicalWrong : ChangeSpec := { name := "bindeclIsCanonical", fn := fun _ => fun
  | [d1, d2] => { results := [.lit (.bool false)], args := [d1, d2] }
  | _ => none }
def BindeclIsCanonicalWrongFalsely : Prop := bindeclIsCanonicalRow.holds Tryz.pinned (OpenSpec.ofChange bindeclIsCanonicalWrong)

/-- 'mirtowerlaw16.BindeclPrefixes': WHATEVER THE INPUT: true; the input reads as it did. -/
def bindeclPrefixesSpec : ChangeSpec := { name := "bindeclPrefixes", fn := fun _ => fun
  | [d1, d2] => { results := [.lit (.bool true)], args := [d1, d2] }
  | _ => none }
def bindeclPrefixesRow : OpenClaim := { program := "ytbnljlpefpllcaagreatdoor", sum := "1d4a45540f6b1670bb9e02c9e27951fb1dd5ec825f05406a9166e16c89c59e8d", func := "mirtower/mirtowerlaw16.BindeclPrefixes", spec := "bindeclPrefixes", inPlace := ["internal/bytealg.IndexByteString", "internal/bytealg.IndexString"], unfollowed := true, recurses := true, named := ["unicode/utf8.first", "unicode/utf8.acceptRanges", "mirtower/valid.unary", "mirtower/valid.binary", "internal/bytealg.MaxLen"], plainKeys := false, apart := false, laid := [("unicode/utf8.acceptRanges", laid_unicode_utf8_acceptRanges), ("mirtower/valid.unary", laid_mirtower_valid_unary), ("mirtower/valid.binary", laid_mirtower_valid_binary), ("unicode/utf8.first", laid_unicode_utf8_first)] }
def BindeclPrefixesSaid : Prop := bindeclPrefixesRow.holds Tryz.pinned (OpenSpec.ofChange bindeclPrefixesSpec)

/-- ITS FALSE NEIGHBOUR: 'it returns false'. Refute it at one input. -/
def bindeclPrefixesWrong : ChangeSpec := { name := "bindeclPrefixes", fn := fun _ => fun
  | [d1, d2] => { results := [.lit (.bool false)], args := [d1, d2] }
  | _ => none }
def BindeclPrefixesWrongFalsely : Prop := bindeclPrefixesRow.holds Tryz.pinned (OpenSpec.ofChange bindeclPrefixesWrong)

/- THE SECOND FORM. 'bulk': how many values and letters a reading holds, each counted each time it is reached (what is shared counts as often as it is met; a slice's spare places count too). A statement '..UptoSaid' is the law's where the arguments, and the package variables that the reading takes, are together of bulk at most 1048576: NARROWER than '..Said'. Prove '..Said' where nothing that the law and all that it calls make is longer than what came in: it says more and counts as full. Else prove '..UptoSaid'. A law counts once. -/
mutual
def uptoBulk {H : Type} : DataW H → Nat
  | .lit (.string bytes) => bytes.length + 1
  | .lit _ => 1
  | .nil => 1
  | .ptr d => uptoBulk d + 1
  | .slice elems spare => uptoBulkAll elems + uptoBulkAll spare + 1
  | .agg parts => uptoBulkAll parts + 1
  | .iface _ d => uptoBulk d + 1
  | .map entries => uptoBulkEntries entries + 1
  | .held _ => 1
def uptoBulkAll {H : Type} : List (DataW H) → Nat
  | [] => 0
  | d :: r => uptoBulk d + uptoBulkAll r
def uptoBulkEntries {H : Type} : List (Lit × DataW H) → Nat
  | [] => 0
  | x :: r => uptoBulkEntry x + uptoBulkEntries r
def uptoBulkEntry {H : Type} : Lit × DataW H → Nat
  | (.string bytes, d) => bytes.length + uptoBulk d + 1
  | (_, d) => uptoBulk d + 1
 end
def uptoSmall : (H : Type) → List (DataW H) → Bool := fun _ ds => decide (uptoBulkAll ds ≤ 1048576)
def OpenSpec.upto (s : _root_.Go.ChangeSpec) : _root_.Go.OpenSpec := { _root_.Go.OpenSpec.ofChange s with cond := some uptoSmall }

/-- 'mirtowerlaw16.BindeclEncodes', WHERE WHAT IT READS IS OF BULK AT MOST 1048576: true; the input reads as it did. -/
def bindeclEncodesUptoRow : OpenClaim := { program := "ytbnljlpefpllcaagreatdoor", sum := "1d4a45540f6b1670bb9e02c9e27951fb1dd5ec825f05406a9166e16c89c59e8d", func := "mirtower/mirtowerlaw16.BindeclEncodes", spec := "bindeclEncodes", inPlace := ["internal/bytealg.IndexByteString", "internal/bytealg.IndexString"], unfollowed := true, recurses := true, named := ["unicode/utf8.first", "unicode/utf8.acceptRanges", "mirtower/valid.unary", "mirtower/valid.binary", "internal/bytealg.MaxLen"], plainKeys := false, apart := false, laid := [("unicode/utf8.acceptRanges", laid_unicode_utf8_acceptRanges), ("mirtower/valid.unary", laid_mirtower_valid_unary), ("mirtower/valid.binary", laid_mirtower_valid_binary), ("unicode/utf8.first", laid_unicode_utf8_first)], narrowed := true }
def BindeclEncodesUptoSaid : Prop := bindeclEncodesUptoRow.holds Tryz.pinned (OpenSpec.upto bindeclEncodesSpec)

/-- 'mirtowerlaw16.BindeclDecodes', WHERE WHAT IT READS IS OF BULK AT MOST 1048576: true; the input reads as it did. -/
def bindeclDecodesUptoRow : OpenClaim := { program := "ytbnljlpefpllcaagreatdoor", sum := "1d4a45540f6b1670bb9e02c9e27951fb1dd5ec825f05406a9166e16c89c59e8d", func := "mirtower/mirtowerlaw16.BindeclDecodes", spec := "bindeclDecodes", inPlace := ["internal/bytealg.IndexByteString", "internal/bytealg.IndexString"], unfollowed := true, recurses := true, named := ["unicode/utf8.first", "unicode/utf8.acceptRanges", "mirtower/valid.unary", "mirtower/valid.binary", "internal/bytealg.MaxLen"], plainKeys := false, apart := false, laid := [("unicode/utf8.acceptRanges", laid_unicode_utf8_acceptRanges), ("mirtower/valid.unary", laid_mirtower_valid_unary), ("mirtower/valid.binary", laid_mirtower_valid_binary), ("unicode/utf8.first", laid_unicode_utf8_first)], narrowed := true }
def BindeclDecodesUptoSaid : Prop := bindeclDecodesUptoRow.holds Tryz.pinned (OpenSpec.upto bindeclDecodesSpec)

/-- 'mirtowerlaw16.BindeclRoundTrip', WHERE WHAT IT READS IS OF BULK AT MOST 1048576: true; the input reads as it did. -/
def bindeclRoundTripUptoRow : OpenClaim := { program := "ytbnljlpefpllcaagreatdoor", sum := "1d4a45540f6b1670bb9e02c9e27951fb1dd5ec825f05406a9166e16c89c59e8d", func := "mirtower/mirtowerlaw16.BindeclRoundTrip", spec := "bindeclRoundTrip", inPlace := ["internal/bytealg.IndexByteString", "internal/bytealg.IndexString"], unfollowed := true, recurses := true, named := ["unicode/utf8.first", "unicode/utf8.acceptRanges", "mirtower/valid.unary", "mirtower/valid.binary", "internal/bytealg.MaxLen"], plainKeys := false, apart := false, laid := [("unicode/utf8.acceptRanges", laid_unicode_utf8_acceptRanges), ("mirtower/valid.unary", laid_mirtower_valid_unary), ("mirtower/valid.binary", laid_mirtower_valid_binary), ("unicode/utf8.first", laid_unicode_utf8_first)], narrowed := true }
def BindeclRoundTripUptoSaid : Prop := bindeclRoundTripUptoRow.holds Tryz.pinned (OpenSpec.upto bindeclRoundTripSpec)

/-- 'mirtowerlaw16.BindeclIsCanonical', WHERE WHAT IT READS IS OF BULK AT MOST 1048576: true; the input reads as it did. -/
def bindeclIsCanonicalUptoRow : OpenClaim := { program := "ytbnljlpefpllcaagreatdoor", sum := "1d4a45540f6b1670bb9e02c9e27951fb1dd5ec825f05406a9166e16c89c59e8d", func := "mirtower/mirtowerlaw16.BindeclIsCanonical", spec := "bindeclIsCanonical", inPlace := ["internal/bytealg.IndexByteString", "internal/bytealg.IndexString"], unfollowed := true, recurses := true, named := ["unicode/utf8.first", "unicode/utf8.acceptRanges", "mirtower/valid.unary", "mirtower/valid.binary", "internal/bytealg.MaxLen"], plainKeys := false, apart := false, laid := [("unicode/utf8.acceptRanges", laid_unicode_utf8_acceptRanges), ("mirtower/valid.unary", laid_mirtower_valid_unary), ("mirtower/valid.binary", laid_mirtower_valid_binary), ("unicode/utf8.first", laid_unicode_utf8_first)], narrowed := true }
def BindeclIsCanonicalUptoSaid : Prop := bindeclIsCanonicalUptoRow.holds Tryz.pinned (OpenSpec.upto bindeclIsCanonicalSpec)

/-- 'mirtowerlaw16.BindeclPrefixes', WHERE WHAT IT READS IS OF BULK AT MOST 1048576: true; the input reads as it did. -/
def bindeclPrefixesUptoRow : OpenClaim := { program := "ytbnljlpefpllcaagreatdoor", sum := "1d4a45540f6b1670bb9e02c9e27951fb1dd5ec825f05406a9166e16c89c59e8d", func := "mirtower/mirtowerlaw16.BindeclPrefixes", spec := "bindeclPrefixes", inPlace := ["internal/bytealg.IndexByteString", "internal/bytealg.IndexString"], unfollowed := true, recurses := true, named := ["unicode/utf8.first", "unicode/utf8.acceptRanges", "mirtower/valid.unary", "mirtower/valid.binary", "internal/bytealg.MaxLen"], plainKeys := false, apart := false, laid := [("unicode/utf8.acceptRanges", laid_unicode_utf8_acceptRanges), ("mirtower/valid.unary", laid_mirtower_valid_unary), ("mirtower/valid.binary", laid_mirtower_valid_binary), ("unicode/utf8.first", laid_unicode_utf8_first)], narrowed := true }
def BindeclPrefixesUptoSaid : Prop := bindeclPrefixesUptoRow.holds Tryz.pinned (OpenSpec.upto bindeclPrefixesSpec)

end Rows
end Go.Proofs.YtbnljlpefpllcaaGreatDoor
